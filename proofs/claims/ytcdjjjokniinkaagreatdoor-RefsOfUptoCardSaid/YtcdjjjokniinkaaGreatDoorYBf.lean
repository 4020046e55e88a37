/- Proved: a part of what the law is proved with (the reckoner, contracts of functions, plain laws). Conditions: as each says. -/
import Derived.Test.YtcdjjjokniinkaaGreatDoorYBc
section
namespace Go.Proofs.YtcdjjjokniinkaaGreatDoor
open Go Go.EYtcdjjjokniinkaaGreatDoor
set_option maxRecDepth 100000
variable {gl:List (Nat×List D)}
abbrev fD:D:=.v (.bool false)
theorem give_fl (m:Nat) (u:Value) (l:List (List D))  : Go.EYtcdjjjokniinkaaGreatDoor.Fn Tryz.prog gl 137 [.c (.ptr 0 0),.c (.d fD),.c (.d (W m))] [(0,.var [.d (.v u),.d (.lst 1 l)] 172)] 1 (.ret (.c (.ptr 0 0))) [(0,.var [.d fD,.d (W m)] 172)] 1 []:=by
 refine fn_of_vc (nv:=9999) (cu:=[]) fits mixed Tryz.func137 rfl hoB rfl rfl rfl rfl ?_
 ((repeat' ((conv=>whnf);first|exact .intro|refine .ya ?_|refine .na ?_|refine .ys ?_|refine .ns ?_|refine .neg (fun _=>?_) (fun _=>?_)|refine .mk (fun _=>?_) (fun _=>?_)|refine .mk ?_ ?_|refine AK ?_|refine And.intro (by first|(first|omega|(simp;done);done)|fail) ?_|fail));all_goals conv=>whnf)
 ((repeat' first|exact rfl|((conv=>whnf);first|done|exact suL|refine And.intro ?_ ?_|fail));all_goals conv=>whnf)
theorem give_bv (m:Nat) (u:Value) (v:Value) {p:Prop} (i:Decidable p) (h:¬ p):Go.EYtcdjjjokniinkaaGreatDoor.Fn Tryz.prog gl 137 [.c (.ptr 0 0),.c (.d (.b p i)),.c (.d (W m))] [(0,.var [.d (.v u),.d (.v v)] 172)] 1 (.ret (.c (.ptr 0 0))) [(0,.var [.d fD,.d (W m)] 172)] 1 []:=by
 refine fn_of_vc (nv:=9999) (cu:=[]) fits mixed Tryz.func137 rfl hoB rfl rfl rfl rfl ?_
 ((repeat' ((conv=>whnf);first|exact .intro|refine .ya ?_|refine .na ?_|refine .ys ?_|refine .ns ?_|refine .neg (fun _=>?_) (fun _=>?_)|refine .mk (fun _=>?_) (fun _=>?_)|refine .mk ?_ ?_|refine AK ?_|refine And.intro (by first|(first|omega|(simp;done);done)|fail) ?_|fail));all_goals conv=>whnf)
 ((repeat' first|exact rfl|((conv=>whnf);first|done|exact suL|refine And.intro ?_ ?_|fail));all_goals conv=>whnf)
theorem give_bl (m:Nat) (u:Value) (l:List (List D)) {p:Prop} (i:Decidable p) (h:¬ p):Go.EYtcdjjjokniinkaaGreatDoor.Fn Tryz.prog gl 137 [.c (.ptr 0 0),.c (.d (.b p i)),.c (.d (W m))] [(0,.var [.d (.v u),.d (.lst 1 l)] 172)] 1 (.ret (.c (.ptr 0 0))) [(0,.var [.d fD,.d (W m)] 172)] 1 []:=by
 refine fn_of_vc (nv:=9999) (cu:=[]) fits mixed Tryz.func137 rfl hoB rfl rfl rfl rfl ?_
 ((repeat' ((conv=>whnf);first|exact .intro|refine .ya ?_|refine .na ?_|refine .ys ?_|refine .ns ?_|refine .neg (fun _=>?_) (fun _=>?_)|refine .mk (fun _=>?_) (fun _=>?_)|refine .mk ?_ ?_|refine AK ?_|refine And.intro (by first|(first|omega|(simp;done);done)|fail) ?_|fail));all_goals conv=>whnf)
 ((repeat' first|exact rfl|((conv=>whnf);first|done|exact suL|refine And.intro ?_ ?_|fail));all_goals conv=>whnf)
theorem SetInt64_p (n:Nat) (h:n<9223372036854775808) (u v:Value):Go.EYtcdjjjokniinkaaGreatDoor.Fn Tryz.prog gl 104 [.c (.ptr 0 0),.c (.d (iD n))] [(0,.var [.d (.v u),.d (.v v)] 172)] 1 (.ret (.c (.ptr 0 0))) [(0,.var [.d fD,.d (W n)] 172)] 1 []:=by
 have h0:¬ (n:Int)<0:=by omega
 have hw:FnP Tryz.prog gl 138 [.v (.int .u64 (IntKind.u64.wrap (n:Int)))] (W n):=by rw[w64 (by omega)];exact words_d n (by omega)
 refine fn_of_vc (nv:=9999) (cu:=[]) fits mixed Tryz.func104 rfl hoB rfl rfl rfl rfl ?_
 ((repeat' ((conv=>whnf);first|exact .intro|refine .ya ?_|refine .na ?_|refine .ys ?_|refine .ns ?_|refine .neg (fun _=>?_) (fun _=>?_)|refine .mk (fun _=>?_) (fun _=>?_)|refine .inr (X5 ((give_bv n u v _ h0).r [0] _) ?_)|refine .inl (.inr (X5 ((give_bv n u v _ h0).r [0] _) ?_))|refine .inl (X5 ((give_bv n u v _ h0).r [0] _) ?_)|refine .inl (.inl (X1 (hw) ?_))|refine .inl (X1 (hw) ?_)|refine X1 (hw) ?_|refine .mk ?_ ?_|refine AK ?_|refine And.intro (by first|(first|omega|(simp;done);done)|fail) ?_|fail));all_goals conv=>whnf)
 ((repeat' first|exact rfl|((conv=>whnf);first|done|exact suL|refine And.intro ?_ ?_|fail));all_goals conv=>whnf)
theorem NewInt_p (n:Nat) (h:n<9223372036854775808):FnP Tryz.prog gl 73 [iD n] (.imm [fD,W n]):=by
 refine fnP_of_vc (nv:=9999) (cu:=[]) fits mixed Tryz.func73 rfl hoB rfl ?_
 ((repeat' ((conv=>whnf);first|exact .intro|refine .ya ?_|refine .na ?_|refine .ys ?_|refine .ns ?_|refine .neg (fun _=>?_) (fun _=>?_)|refine .mk (fun _=>?_) (fun _=>?_)|refine .inr (X5 ((SetInt64_p n h (.bool false) (.slice none 0 0)).r [0] _) ?_)|refine .inl (.inr (X5 ((SetInt64_p n h (.bool false) (.slice none 0 0)).r [0] _) ?_))|refine .inl (X5 ((SetInt64_p n h (.bool false) (.slice none 0 0)).r [0] _) ?_)|refine .mk ?_ ?_|refine AK ?_|refine And.intro (by first|(first|omega|(simp;done);done)|fail) ?_|fail));all_goals conv=>whnf)
 exact LeD.rfl
theorem Mul_p (m n:Nat) (hm:(ws m).length≤35184372088832) (hn:(ws n).length≤35184372088832):Go.EYtcdjjjokniinkaaGreatDoor.Fn Tryz.prog gl 141 [.c (.ptr 0 0),.c (.ptr 0 0),.c (.d (.imm [fD,W n]))] [(0,.var [.d fD,.d (W m)] 172)] 1 (.ret (.c (.ptr 0 0))) [(0,.var [.d fD,.d (W (m * n))] 172)] 1 []:=by
 have hx:=mul_d (gl:=gl) m n hm hn
 refine fn_of_vc (nv:=9999) (cu:=[]) fits mixed Tryz.func141 rfl hoB rfl rfl rfl rfl ?_
 ((repeat' ((conv=>whnf);first|exact .intro|refine .ya ?_|refine .na ?_|refine .ys ?_|refine .ns ?_|refine .neg (fun _=>?_) (fun _=>?_)|refine .mk (fun _=>?_) (fun _=>?_)|refine .inr (X5 ((give_fl (m * n) (.bool false) (wD (ws m))).r [0] _) ?_)|refine .inl (.inr (X5 ((give_fl (m * n) (.bool false) (wD (ws m))).r [0] _) ?_))|refine .inl (X5 ((give_fl (m * n) (.bool false) (wD (ws m))).r [0] _) ?_)|refine .inr (X5 ((give_bl (m * n) (.bool false) (wD (ws m)) _ (by decide)).r [0] _) ?_)|refine .inl (.inr (X5 ((give_bl (m * n) (.bool false) (wD (ws m)) _ (by decide)).r [0] _) ?_))|refine .inl (X5 ((give_bl (m * n) (.bool false) (wD (ws m)) _ (by decide)).r [0] _) ?_)|refine .inl (.inl (X1 (hx) ?_))|refine .inl (X1 (hx) ?_)|refine X1 (hx) ?_|refine .mk ?_ ?_|refine AK ?_|refine And.intro (by first|(first|omega|(simp;done);done)|fail) ?_|fail));all_goals conv=>whnf)
 ((repeat' first|exact rfl|((conv=>whnf);first|done|exact suL|refine And.intro ?_ ?_|fail));all_goals conv=>whnf)
theorem sum_p (m n:Nat) (hm:(ws m).length≤35184372088832) (hn:(ws n).length≤35184372088832):FnP Tryz.prog gl 162 [fD,W m,fD,W n] (.tup [fD,W (m+n)]):=by
 have hx:=add_d (gl:=gl) m n (by omega) (by omega)
 refine fnP_of_vc (nv:=9999) (cu:=[]) fits mixed Tryz.func162 rfl hoB rfl ?_
 ((repeat' ((conv=>whnf);first|exact .intro|refine .ya ?_|refine .na ?_|refine .ys ?_|refine .ns ?_|refine .neg (fun _=>?_) (fun _=>?_)|refine .mk (fun _=>?_) (fun _=>?_)|refine .inl (.inl (X1 (hx) ?_))|refine .inl (X1 (hx) ?_)|refine X1 (hx) ?_|refine .mk ?_ ?_|refine AK ?_|refine And.intro (by first|(first|omega|(simp;done);done)|fail) ?_|fail));all_goals conv=>whnf)
 exact LeD.rfl
theorem Add_p (m n:Nat) (hm:(ws m).length≤35184372088832) (hn:(ws n).length≤35184372088832):Go.EYtcdjjjokniinkaaGreatDoor.Fn Tryz.prog gl 142 [.c (.ptr 0 0),.c (.ptr 0 0),.c (.d (.imm [fD,W n]))] [(0,.var [.d fD,.d (W m)] 172)] 1 (.ret (.c (.ptr 0 0))) [(0,.var [.d fD,.d (W (m+n))] 172)] 1 []:=by
 have hx:=sum_p (gl:=gl) m n hm hn
 refine fn_of_vc (nv:=9999) (cu:=[]) fits mixed Tryz.func142 rfl hoB rfl rfl rfl rfl ?_
 ((repeat' ((conv=>whnf);first|exact .intro|refine .ya ?_|refine .na ?_|refine .ys ?_|refine .ns ?_|refine .neg (fun _=>?_) (fun _=>?_)|refine .mk (fun _=>?_) (fun _=>?_)|refine .inr (X5 ((give_fl (m+n) (.bool false) (wD (ws m))).r [0] _) ?_)|refine .inl (.inr (X5 ((give_fl (m+n) (.bool false) (wD (ws m))).r [0] _) ?_))|refine .inl (X5 ((give_fl (m+n) (.bool false) (wD (ws m))).r [0] _) ?_)|refine .inl (.inl (X1 (hx) ?_))|refine .inl (X1 (hx) ?_)|refine X1 (hx) ?_|refine .mk ?_ ?_|refine AK ?_|refine And.intro (by first|(first|omega|(simp;done);done)|fail) ?_|fail));all_goals conv=>whnf)
 ((repeat' first|exact rfl|((conv=>whnf);first|done|exact suL|refine And.intro ?_ ?_|fail));all_goals conv=>whnf)
theorem IsInt64_p (n:Nat) (hn:(ws n).length≤35184372088832):FnP Tryz.prog gl 163 [.imm [fD,W n]] (.b (n<9223372036854775808) inferInstance):=by
 have hl:=length_d (gl:=gl) n (by omega)
 have hb:=blen_le (n:=n) (k:=63)
 refine fnP_of_vc (nv:=9999) (cu:=[]) fits mixed Tryz.func163 rfl hoB rfl ?_
 ((repeat' ((conv=>whnf);first|exact .intro|refine .ya ?_|refine .na ?_|refine .ys ?_|refine .ns ?_|refine .neg (fun _=>?_) (fun _=>?_)|refine .mk (fun _=>?_) (fun _=>?_)|refine .inl (.inl (X1 (hl) ?_))|refine .inl (X1 (hl) ?_)|refine X1 (hl) ?_|refine .mk ?_ ?_|refine AK ?_|refine And.intro (by first|(first|omega|(simp;done);done)|fail) ?_|fail));all_goals conv=>whnf)
 all_goals first|exact LeD.bt (by omega)|exact LeD.bf (by omega)
theorem Fits_p (n:Nat) (hn:(ws n).length≤35184372088832):FnP Tryz.prog gl 144 [.imm [fD,W n]] (.b (n<9223372036854775808) inferInstance):=by
 have hl:=IsInt64_p (gl:=gl) n (by omega)
 refine fnP_of_vc (nv:=9999) (cu:=[]) fits mixed Tryz.func144 rfl hoB rfl ?_
 ((repeat' ((conv=>whnf);first|exact .intro|refine .ya ?_|refine .na ?_|refine .ys ?_|refine .ns ?_|refine .neg (fun _=>?_) (fun _=>?_)|refine .mk (fun _=>?_) (fun _=>?_)|refine .inl (.inl (X1 (hl) ?_))|refine .inl (X1 (hl) ?_)|refine X1 (hl) ?_|refine .mk ?_ ?_|refine AK ?_|refine And.intro (by first|(first|omega|(simp;done);done)|fail) ?_|fail));all_goals conv=>whnf)
 exact LeD.rfl
theorem or32 {a h:Nat} (ha:a<B32) (hh:h<B32):((BitVec.ofInt 64 (a:Int) ||| BitVec.ofInt 64 ((h * 4294967296:Nat):Int)).toNat:Int)=((a+B32 * h:Nat):Int):=by
 simp only[B32] at *
 rw[BitVec.ofInt_natCast,BitVec.ofInt_natCast,BitVec.toNat_or,BitVec.toNat_ofNat,BitVec.toNat_ofNat,Nat.mod_eq_of_lt (by omega),Nat.mod_eq_of_lt (by omega),Nat.or_comm]
 have:=Nat.shiftLeft_add_eq_or_of_lt (i:=32) (b:=a) (by omega) h
 rw[Nat.shiftLeft_eq] at this
 rw[← this];omega
theorem Uint64_p (n:Nat) (hn:n<18446744073709551616):FnP Tryz.prog gl 164 [.imm [fD,W n]] (.v (.int .u64 n)):=by
 by_cases h0:n=0
 ·subst h0
  simp only[W,ws_zero,wD,List.map]
  refine fnP_of_vc (nv:=9999) (cu:=[]) fits mixed Tryz.func164 rfl hoB rfl ?_
  ((repeat' ((conv=>whnf);first|exact .intro|refine .ya ?_|refine .na ?_|refine .ys ?_|refine .ns ?_|refine .neg (fun _=>?_) (fun _=>?_)|refine .mk (fun _=>?_) (fun _=>?_)|refine .mk ?_ ?_|refine AK ?_|refine And.intro (by first|(first|omega|(simp;done);done)|fail) ?_|fail));all_goals conv=>whnf)
  exact LeD.rfl
 by_cases h1:n<B32
 ·have e:ws n=[n]:=by rw[ws_pos h0,Nat.div_eq_of_lt h1,Nat.mod_eq_of_lt h1,ws_zero]
  simp only[W,e,wD,List.map]
  refine fnP_of_vc (nv:=9999) (cu:=[]) fits mixed Tryz.func164 rfl hoB rfl ?_
  ((repeat' ((conv=>whnf);first|exact .intro|refine .ya ?_|refine .na ?_|refine .ys ?_|refine .ns ?_|refine .neg (fun _=>?_) (fun _=>?_)|refine .mk (fun _=>?_) (fun _=>?_)|refine .mk ?_ ?_|refine AK ?_|refine And.intro (by first|(first|omega|(simp;done);done)|fail) ?_|fail));all_goals conv=>whnf)
  refine ⟨_,rfl,?_⟩
  ((repeat' ((conv=>whnf);first|exact .intro|refine .ya ?_|refine .na ?_|refine .ys ?_|refine .ns ?_|refine .neg (fun _=>?_) (fun _=>?_)|refine .mk (fun _=>?_) (fun _=>?_)|refine .mk ?_ ?_|refine AK ?_|refine And.intro (by first|(first|omega|(simp;done);done)|fail) ?_|fail));all_goals conv=>whnf)
  exact LeD.of (by rw[w64 hn];rfl)
 have h2:n / B32<B32:=by simp only[B32] at *;omega
 have h3:n % B32<B32:=Nat.mod_lt _ (by decide)
 have e:ws n=[n % B32,n / B32]:=by rw[ws_pos h0,ws_pos (n:=n / B32) (by simp only[B32] at *;omega),Nat.mod_eq_of_lt h2,Nat.div_eq_of_lt h2,ws_zero]
 have ec:n=n % B32+B32 * (n / B32):=(Nat.mod_add_div n B32).symm
 generalize n % B32=a at *
 generalize n / B32=b at *
 simp only[W,e,wD,List.map]
 refine fnP_of_vc (nv:=9999) (cu:=[]) fits mixed Tryz.func164 rfl hoB rfl ?_
 ((repeat' ((conv=>whnf);first|exact .intro|refine .ya ?_|refine .na ?_|refine .ys ?_|refine .ns ?_|refine .neg (fun _=>?_) (fun _=>?_)|refine .mk (fun _=>?_) (fun _=>?_)|refine .mk ?_ ?_|refine AK ?_|refine And.intro (by first|(first|omega|(simp;done);done)|fail) ?_|fail));all_goals conv=>whnf)
 refine ⟨_,rfl,?_⟩
 ((repeat' ((conv=>whnf);first|exact .intro|refine .ya ?_|refine .na ?_|refine .ys ?_|refine .ns ?_|refine .neg (fun _=>?_) (fun _=>?_)|refine .mk (fun _=>?_) (fun _=>?_)|refine .mk ?_ ?_|refine AK ?_|refine And.intro (by first|(first|omega|(simp;done);done)|fail) ?_|fail));all_goals conv=>whnf)
 refine ⟨_,rfl,?_⟩
 ((repeat' ((conv=>whnf);first|exact .intro|refine .ya ?_|refine .na ?_|refine .ys ?_|refine .ns ?_|refine .neg (fun _=>?_) (fun _=>?_)|refine .mk (fun _=>?_) (fun _=>?_)|refine .mk ?_ ?_|refine AK ?_|refine And.intro (by first|(first|omega|(simp;done);done)|fail) ?_|fail));all_goals conv=>whnf)
 refine LeD.of ?_
 show D.v (.int .u64 (IntKind.u64.wrap ((BitVec.ofInt 64 (IntKind.u64.wrap (a:Int)) ||| BitVec.ofInt 64 (IntKind.u64.wrap (IntKind.u64.wrap (b:Int) * 4294967296))).toNat:Int)))=_
 have h2':=h2
 have h3':=h3
 simp only[B32] at h2' h3'
 rw[w64 (x:=a) (by omega),w64 (x:=b) (by omega),show (b:Int) * 4294967296=((b * 4294967296:Nat):Int) by omega,w64 (x:=b * 4294967296) (by omega),or32 h3 h2,← ec,w64 hn]
theorem Int64_p (n:Nat) (hn:n<9223372036854775808):FnP Tryz.prog gl 145 [.imm [fD,W n]] (iD n):=by
 have hl:=Uint64_p (gl:=gl) n (by omega)
 refine fnP_of_vc (nv:=9999) (cu:=[]) fits mixed Tryz.func145 rfl hoB rfl ?_
 ((repeat' ((conv=>whnf);first|exact .intro|refine .ya ?_|refine .na ?_|refine .ys ?_|refine .ns ?_|refine .neg (fun _=>?_) (fun _=>?_)|refine .mk (fun _=>?_) (fun _=>?_)|refine .inl (.inl (X1 (hl) ?_))|refine .inl (X1 (hl) ?_)|refine X1 (hl) ?_|refine .mk ?_ ?_|refine AK ?_|refine And.intro (by first|(first|omega|(simp;done);done)|fail) ?_|fail));all_goals conv=>whnf)
 exact LeD.of (by rw[wrapI (by omega)];rfl)
end Go.Proofs.YtcdjjjokniinkaaGreatDoor
end
section
namespace Go.Proofs.YtcdjjjokniinkaaGreatDoor
open Go Go.EYtcdjjjokniinkaaGreatDoor
set_option maxRecDepth 100000
variable {gl:List (Nat×List D)}
theorem small_step {a b d r t v q:Nat} (ht:t=r * 4294967296+a) (h:v=q * d+r) (hv:b=a+B32 * v):b=(t / d+B32 * q) * d+t % d:=by
 have h1:=Nat.div_add_mod t d
 have h2:(t / d+B32 * q) * d=d * (t / d)+B32 * (q * d):=by rw[Nat.add_mul,Nat.mul_comm (t / d) d,Nat.mul_assoc]
 rw[h2,hv,h]
 simp only[B32] at *
 rw[Nat.mul_add]
 omega
theorem bigSmall_d (n d:Nat) (hd:0<d) (hd2:d<B32) (hn:(ws n).length≤8796093022208):FnP Tryz.prog gl 140 [W n,.v (.int .u32 d)] (.tup [W (n / d),.v (.int .u32 ((n % d:Nat):Int))]):=by
 have wa:=wD_len (ws n)
 have e1:IntKind.i64.wrap ((((wD (ws n)).length:Nat):Int) - 1)=(((ws n).length:Nat):Int) - 1:=by rw[wa,wrapI (by omega)]
 refine fnP_of_vc (nv:=9999) (cu:=[]) fits mixed Tryz.func140 rfl hoB rfl ?_
 ((repeat' ((conv=>whnf);first|exact .intro|refine .ya ?_|refine .na ?_|refine .ys ?_|refine .ns ?_|refine .neg (fun _=>?_) (fun _=>?_)|refine .mk (fun _=>?_) (fun _=>?_)|refine .mk ?_ ?_|refine AK ?_|refine And.intro (by first|(first|omega|(simp;done);done)|fail) ?_|fail));all_goals conv=>whnf)
 refine ⟨⟨by omega,by omega,by show (4:Int) * _≤_;rw[wa];omega,by rw[wa];omega⟩,?_⟩
 ((repeat' ((conv=>whnf);first|exact .intro|refine .ya ?_|refine .na ?_|refine .ys ?_|refine .ns ?_|refine .neg (fun _=>?_) (fun _=>?_)|refine .mk (fun _=>?_) (fun _=>?_)|refine .mk ?_ ?_|refine AK ?_|refine And.intro (by first|(first|omega|(simp;done);done)|fail) ?_|fail));all_goals conv=>whnf)
 refine ⟨{ σ:=(Nat×List Nat×Nat),fr:=fun s=>[(7,.c (.d (.v (.int .u64 s.2.2)))),(8,.c (.d (iD ((s.1:Int) - 1))))],ks:=[0],L:=fun s=>[(0,.rows 1 (wD (List.replicate s.1 0++s.2.1)) 167)],ex:=0,I:=fun s=>s.1+s.2.1.length=(ws n).length∧(∀ x ∈ s.2.1,x<B32)∧s.2.2<d∧val ((ws n).drop s.1)=val s.2.1 * d+s.2.2,μ:=fun s=>s.1 },⟨((ws n).length,[],0),⟨rfl,by simp,hd,by simp[val]⟩,?_⟩,?_⟩
 ·((repeat' first|exact rfl|((conv=>whnf);first|done|exact suL|refine And.intro ?_ ?_|fail));all_goals conv=>whnf)
  ·exact ceq e1
  ·show List.replicate (((wD (ws n)).length:Nat):Int).toNat _=wD (List.replicate (ws n).length 0++[])
   rw[List.append_nil,wD_rep,Int.toNat_natCast,wa]
   rfl
 ·rintro ⟨k,q,r⟩ ⟨h1,h2,h3,h4⟩
  simp only at h1 h2 h3 h4
  ((repeat' ((conv=>whnf);first|exact .intro|refine .ya ?_|refine .na ?_|refine .ys ?_|refine .ns ?_|refine .neg (fun _=>?_) (fun _=>?_)|refine .mk (fun _=>?_) (fun _=>?_)|refine .mk ?_ ?_|refine AK ?_|refine And.intro (by first|(first|omega|(simp;done);done)|fail) ?_|fail));all_goals conv=>whnf)
  ·rename_i hx
   obtain ⟨k,rfl⟩:∃ j,k=j+1:=⟨k - 1,by have hx':0≤(k:Int) - 1:=hx;omega⟩
   have hk:k<(ws n).length:=by omega
   have ek:((k+1:Nat):Int) - 1=(k:Int):=by omega
   have hget:(wD (ws n))[(((k+1:Nat):Int) - 1).toNat]?=some [u32D (ws n)[k]]:=by rw[ek];exact wget hk
   have ha:=ws_lt n _ (List.getElem_mem hk)
   refine ⟨_,hget,?_⟩
   have hl:(List.replicate (k+1) 0++q).length=(ws n).length:=by simp;omega
   have hil:((k+1:Nat):Int) - 1<((wD (List.replicate (k+1) 0++q)).length:Nat):=by rw[wD_len,hl];omega
   have hget2:(wD (List.replicate (k+1) 0++q))[(((k+1:Nat):Int) - 1).toNat]?=some [u32D (List.replicate (k+1) 0++q)[k]]:=by rw[ek];exact wget (by omega)
   have hnn:0≤((k+1:Nat):Int) - 1:=by omega
   have hd0:¬ IntKind.u64.wrap (d:Int)=0:=by rw[w64 (by simp only[B32] at hd2;omega)];omega
   ((repeat' ((conv=>whnf);first|exact .intro|refine .ya ?_|refine .na ?_|refine .ys ?_|refine .ns ?_|refine .neg (fun _=>?_) (fun _=>?_)|refine .mk (fun _=>?_) (fun _=>?_)|refine .mk ?_ ?_|refine AK ?_|refine And.intro (by first|(first|exact ⟨hnn,hil⟩|assumption|omega|(simp;done);done)|fail) ?_|fail));all_goals conv=>whnf)
   refine ⟨_,hget2,?_⟩
   ((repeat' ((conv=>whnf);first|exact .intro|refine .ya ?_|refine .na ?_|refine .ys ?_|refine .ns ?_|refine .neg (fun _=>?_) (fun _=>?_)|refine .mk (fun _=>?_) (fun _=>?_)|refine .mk ?_ ?_|refine AK ?_|refine AT ?_|fail));all_goals conv=>whnf)
   obtain ⟨t,ht⟩:∃ t,t=r * 4294967296+(ws n)[k]:=⟨_,rfl⟩
   have htl:t<d * 4294967296:=by simp only[B32] at ha;have:=Nat.mul_le_mul_right 4294967296 (show r+1≤d from h3);rw[Nat.add_mul] at this;omega
   have et:IntKind.u64.wrap ((BitVec.ofInt 64 (IntKind.u64.wrap ((r:Int) * 2 ^ min (Int.toNat 32) IntKind.u64.bits)) ||| BitVec.ofInt 64 (IntKind.u64.wrap ((ws n)[k]:Int))).toNat:Int)=(t:Int):=by
    have ha':=ha
    simp only[B32] at ha' hd2
    rw[show (2:Int) ^ min (Int.toNat 32) IntKind.u64.bits=4294967296 from by decide,show (r:Int) * 4294967296=((r * 4294967296:Nat):Int) by omega,w64 (x:=r * 4294967296) (by omega),w64 (x:=(ws n)[k]) (by omega),BitVec.or_comm,or32 ha (show r<B32 by simp only[B32];omega),w64 (by simp only[B32];omega),ht]
    simp only[B32];omega
   have hq:t / d<B32:=Nat.div_lt_of_lt_mul htl
   refine ⟨(k,t / d::q,t % d),⟨⟨by simp;omega,?_,Nat.mod_lt _ hd,?_⟩,by show k<k+1;omega⟩,?_⟩
   ·intro x hx
    rcases List.mem_cons.1 hx with rfl|hx
    ·exact hq
    ·exact h2 x hx
   ·rw[List.drop_eq_getElem_cons hk]
    exact small_step ht h4 rfl
   ·have hdw:IntKind.u64.wrap (d:Int)=(d:Int):=w64 (by simp only[B32] at hd2;omega)
    ((repeat' first|exact rfl|((conv=>whnf);first|done|exact suL|refine And.intro ?_ ?_|fail));all_goals conv=>whnf)
    ·exact ceqK (show Int.tmod (IntKind.u64.wrap ((BitVec.ofInt 64 (IntKind.u64.wrap ((r:Int) * 2 ^ min (Int.toNat 32) IntKind.u64.bits)) ||| BitVec.ofInt 64 (IntKind.u64.wrap ((ws n)[k]:Int))).toNat:Int)) (IntKind.u64.wrap (d:Int))=((t % d:Nat):Int) by rw[et,hdw];rfl)
    ·exact ceq (show IntKind.i64.wrap (((k+1:Nat):Int) - 1 - 1)=(k:Int) - 1 by rw[wrapI (by omega)];omega)
    ·show List.set (wD (List.replicate (k+1) 0++q)) (((k+1:Nat):Int) - 1).toNat [D.v (.int .u32 (IntKind.u32.wrap (IntKind.u64.wrap (Int.tdiv (IntKind.u64.wrap ((BitVec.ofInt 64 (IntKind.u64.wrap ((r:Int) * 2 ^ min (Int.toNat 32) IntKind.u64.bits)) ||| BitVec.ofInt 64 (IntKind.u64.wrap ((ws n)[k]:Int))).toNat:Int)) (IntKind.u64.wrap (d:Int))))))]=wD (List.replicate k 0++(t / d::q))
     rw[et,hdw,ek,show Int.tdiv (t:Int) (d:Int)=((t / d:Nat):Int) from rfl,w64 (by simp only[B32] at hq;omega),lo32,Nat.mod_eq_of_lt hq,wset,List.replicate_succ',List.append_assoc]
     congr 1
     rw[List.set_append_right _ _ (by simp)]
     simp
  ·rename_i hx
   obtain rfl:k=0:=by
    have hx':¬ 0≤(k:Int) - 1:=hx
    omega
   have hv:n=val q * d+r:=by rw[List.drop_zero,val_ws] at h4;exact h4
   have e2:n / d=val q:=by rw[hv,Nat.mul_comm,Nat.mul_add_div hd,Nat.div_eq_of_lt h3,Nat.add_zero]
   have e3:n % d=r:=by rw[hv,Nat.mul_add_mod_self_right,Nat.mod_eq_of_lt h3]
   have ht:=trim_d (gl:=gl) (List.replicate 0 0++q) h2 (by simp at h1 ⊢;unfold maxLen;omega)
   rw[show val (List.replicate 0 0++q)=n / d by rw[e2];rfl] at ht
   ((repeat' ((conv=>whnf);first|exact .intro|refine .ya ?_|refine .na ?_|refine .ys ?_|refine .ns ?_|refine .neg (fun _=>?_) (fun _=>?_)|refine .mk (fun _=>?_) (fun _=>?_)|refine .inr (X1 (by first|exact ht) ?_)|refine .mk ?_ ?_|refine AK ?_|refine And.intro (by first|(first|omega|(simp;done);done)|fail) ?_|fail));all_goals conv=>whnf)
   refine LeD.of ?_
   have hr:r<B32:=by omega
   rw[e3]
   show D.tup [W (n / d),D.v (.int .u32 (IntKind.u32.wrap (r:Int)))]=_
   rw[lo32,Nat.mod_eq_of_lt hr]
end Go.Proofs.YtcdjjjokniinkaaGreatDoor
end
section
namespace Go.Proofs.YtcdjjjokniinkaaGreatDoor
open Go Go.EYtcdjjjokniinkaaGreatDoor
set_option maxRecDepth 100000
variable {gl:List (Nat×List D)}
def dl10 (n:Nat):List UInt8:=if _h:n=0 then [] else dig (n % 10)::dl10 (n / 10)
termination_by n
decreasing_by exact Nat.div_lt_self (Nat.pos_of_ne_zero _h) (by decide)
theorem dl10_zero:dl10 0=[]:=by rw[dl10];rfl
theorem dl10_pos {n:Nat} (h:n≠0):dl10 n=dig (n % 10)::dl10 (n / 10):=by rw[dl10];simp[h]
def decB (n:Nat):List UInt8:=if n=0 then [48] else (dl10 n).reverse
theorem decB_digs {n:Nat} (h:n<100):decB n=digs n:=by
 unfold decB digs
 by_cases h0:n=0
 ·subst h0;rfl
 ·rw[if_neg h0,dl10_pos h0]
  by_cases h1:n<10
  ·rw[if_pos h1,Nat.mod_eq_of_lt h1,Nat.div_eq_of_lt h1,dl10_zero];rfl
  ·rw[if_neg h1,dl10_pos (n:=n / 10) (by omega),Nat.mod_eq_of_lt (a:=n / 10) (by omega),show n / 10 / 10=0 by omega,dl10_zero];rfl
theorem dl10_len (n:Nat):n≠0→10 ^ ((dl10 n).length - 1)≤n:=by
 induction n using Nat.strongRecOn with
 | ind n ih =>
  intro h
  rw[dl10_pos h]
  by_cases h1:n / 10=0
  ·rw[h1,dl10_zero];simp;omega
  ·have:=ih _ (Nat.div_lt_self (Nat.pos_of_ne_zero h) (by decide)) h1
   rw[dl10_pos h1] at this ⊢
   simp only[List.length_cons,Nat.add_sub_cancel] at this ⊢
   rw[Nat.pow_succ];omega
theorem dl10_max (n:Nat):(dl10 n).length≤10 * (ws n).length:=by
 by_cases h:n=0
 ·subst h;rw[dl10_zero];exact Nat.zero_le _
 ·have h1:=dl10_len n h
  have h2:=lt_ws_len n
  have h3:B32 ^ (ws n).length≤10 ^ (10 * (ws n).length):=by rw[Nat.pow_mul];exact Nat.pow_le_pow_left (by decide) _
  have h4:10 ^ ((dl10 n).length - 1)<10 ^ (10 * (ws n).length):=by omega
  have:=(Nat.pow_lt_pow_iff_right (by decide:1<10)).1 h4
  omega
def bD (l:List UInt8):List (List D):=l.map u8D
theorem bD_len (l:List UInt8):(bD l).length=l.length:=List.length_map ..
theorem bD_app (l:List UInt8) (x:UInt8):bD (l++[x])=bD l++[u8D x]:=List.map_append ..
theorem bget {l:List UInt8} {k:Nat} (h:k<l.length):(bD l)[((k:Nat):Int).toNat]?=some (u8D l[k]):=by
 rw[Int.toNat_natCast];unfold bD;rw[List.getElem?_map,List.getElem?_eq_getElem h];rfl
theorem bset (l:List UInt8) (i:Nat) (x:UInt8):(bD l).set ((i:Nat):Int).toNat (u8D x)=bD (l.set i x):=by
 rw[Int.toNat_natCast];exact (List.map_set ..).symm
theorem digTab:∀ k:Fin 10,((48:Int)+(k.val:Int))=((dig k.val).toNat:Int):=by decide
theorem dig_nat {k:Nat} (h:k<10):((48:Int)+(k:Int))=((dig k).toNat:Int):=digTab ⟨k,h⟩
def Turned (l p:List UInt8) (k:Nat):Prop:=p.length=l.length∧2 * k≤l.length∧∀ x,x<l.length→p[x]?=if x<k∨l.length≤x+k then l[l.length - 1 - x]? else l[x]?
theorem Turned.zero (l:List UInt8):Turned l l 0:=⟨rfl,Nat.zero_le _,fun x hx=>by rw[if_neg (by omega)]⟩
theorem Turned.step {l p:List UInt8} {k:Nat} (h:Turned l p k) (hk:k<l.length - 1 - k) (h1:k<p.length) (h2:l.length - 1 - k<p.length):Turned l ((p.set k p[l.length - 1 - k]).set (l.length - 1 - k) p[k]) (k+1):=by
 obtain ⟨a,b,c⟩:=h
 refine ⟨by simpa using a,by omega,fun x hx=>?_⟩
 have ck:=c k (by omega)
 have cj:=c (l.length - 1 - k) (by omega)
 rw[if_neg (by omega),List.getElem?_eq_getElem h1] at ck
 rw[if_neg (by omega),List.getElem?_eq_getElem h2] at cj
 rw[List.getElem?_set,List.getElem?_set]
 by_cases e1:l.length - 1 - k=x
 ·rw[if_pos e1,if_pos (by simp;omega),if_pos (by omega),ck,show l.length - 1 - x=k by omega]
 ·rw[if_neg e1]
  by_cases e2:k=x
  ·subst e2
   rw[if_pos rfl,if_pos h1,if_pos (by omega),cj]
  ·rw[if_neg e2,c x hx]
   by_cases e3:x<k∨l.length≤x+k
   ·rw[if_pos e3,if_pos (by omega)]
   ·rw[if_neg e3,if_neg (by omega)]
theorem Turned.done {l p:List UInt8} {k:Nat} (h:Turned l p k) (hk:¬ k<l.length - 1 - k):p=l.reverse:=by
 obtain ⟨a,b,c⟩:=h
 refine List.ext_getElem? fun x=>?_
 rcases Nat.lt_or_ge x l.length with hx|hx
 ·rw[c x hx,List.getElem?_reverse hx]
  split
  ·rfl
  ·rw[show l.length - 1 - x=x by omega]
 ·rw[List.getElem?_eq_none (by omega),List.getElem?_eq_none (by simpa using hx)]
theorem Text_p (n:Nat) (hn:(ws n).length≤8796093022208):FnP Tryz.prog gl 105 [.imm [fD,W n],iD 10] (.str (decB n)):=by
 have wa:=wD_len (ws n)
 have ht:=twin_d (gl:=gl) (ws n) (by omega)
 by_cases h0:n=0
 ·subst h0
  have hl0:(((wD (ws 0)).length:Nat):Int)=0:=by rw[wa,ws_zero];rfl
  refine fnP_of_vc (nv:=9999) (cu:=[]) fits mixed Tryz.func105 rfl hoB rfl ?_
  ((repeat' ((conv=>whnf);first|exact .intro|refine .ya ?_|refine .na ?_|refine .ys ?_|refine .ns ?_|refine .neg (fun _=>?_) (fun _=>?_)|refine .mk (fun _=>?_) (fun _=>?_)|refine .mk ?_ ?_|refine AK ?_|refine AT ?_|fail));all_goals conv=>whnf)
  exact LeD.of rfl
 have hl0:¬ (((wD (ws n)).length:Nat):Int)=0:=by rw[wa];intro h;exact h0 (ws_nil.1 (List.eq_nil_of_length_eq_zero (Int.ofNat.inj h)))
 refine fnP_of_vc (nv:=9999) (cu:=[]) fits mixed Tryz.func105 rfl hoB rfl ?_
 ((repeat' ((conv=>whnf);first|exact .intro|refine .ya ?_|refine .na ?_|refine .ys ?_|refine .ns ?_|refine .neg (fun _=>?_) (fun _=>?_)|refine .mk (fun _=>?_) (fun _=>?_)|refine .inl (.inl (X1 (ht) ?_))|refine .inl (X1 (ht) ?_)|refine X1 (ht) ?_|refine .mk ?_ ?_|refine AK ?_|refine AT ?_|fail));all_goals conv=>whnf)
 refine ⟨{ σ:=(Nat×List UInt8),fr:=fun s=>[(5,.c (.all 1 0)),(6,.c (.d (W s.1)))],ks:=[0],L:=fun s=>[(0,.rows 1 (bD s.2) 5)],ex:=1,I:=fun s=>dl10 n=s.2++dl10 s.1∧s.1≤n,μ:=fun s=>s.1 },⟨(n,[]),⟨rfl,Nat.le_refl _⟩,?_⟩,?_⟩
 ·((repeat' first|exact rfl|((conv=>whnf);first|done|exact suL|refine And.intro ?_ ?_|fail));all_goals conv=>whnf)
  exact ⟨1,5,rfl,by decide,Nat.le_refl _⟩
 ·rintro ⟨m,b⟩ ⟨h1,h2⟩
  simp only at h1 h2
  have hm:(ws m).length≤8796093022208:=Nat.le_trans (ws_len_le (Nat.lt_of_le_of_lt h2 (lt_ws_len n))) hn
  have hs:=bigSmall_d (gl:=gl) m 10 (by decide) (by decide) hm
  have h10:((m % 10:Nat):Int)<10:=by omega
  have hbl:b.length≤87960930222080:=by
   have:=dl10_max n
   rw[h1,List.length_append] at this
   omega
  ((repeat' ((conv=>whnf);first|exact .intro|refine .ya ?_|refine .na ?_|refine .ys ?_|refine .ns ?_|refine .neg (fun _=>?_) (fun _=>?_)|refine .mk (fun _=>?_) (fun _=>?_)|refine .inl (.inl (X1 (hs) ?_))|refine .inl (X1 (hs) ?_)|refine X1 (hs) ?_|refine .mk ?_ ?_|refine AK ?_|refine AT ?_|fail));all_goals conv=>whnf)
  ·rename_i hx
   have hm0:m≠0:=fun e=>by
    have hx':0<(((wD (ws m)).length:Nat):Int):=hx
    rw[e,wD_len,ws_zero] at hx'
    exact absurd hx' (by decide)
   refine ⟨⟨rfl,by show ((bD b).length+1) * 1≤140737488355328;unfold bD;rw[List.length_map];omega,by show (bD b).length+1≤maxLen;unfold bD maxLen;rw[List.length_map];omega⟩,?_⟩
   ((repeat' ((conv=>whnf);first|exact .intro|refine .ya ?_|refine .na ?_|refine .ys ?_|refine .ns ?_|refine .neg (fun _=>?_) (fun _=>?_)|refine .mk (fun _=>?_) (fun _=>?_)|refine .mk ?_ ?_|refine AK ?_|refine AT ?_|fail));all_goals conv=>whnf)
   refine ⟨(m / 10,b++[dig (m % 10)]),⟨⟨?_,Nat.le_trans (Nat.div_le_self _ _) h2⟩,Nat.div_lt_self (Nat.pos_of_ne_zero hm0) (by decide)⟩,?_⟩
   ·rw[h1,dl10_pos hm0,List.append_assoc];rfl
   ·((repeat' first|exact rfl|((conv=>whnf);first|done|exact suL|refine And.intro ?_ ?_|fail));all_goals conv=>whnf)
    show bD b++[[D.v (.int .u8 (IntKind.u8.wrap (IntKind.u32.wrap (48+((m % 10:Nat):Int)))))]]=bD (b++[dig (m % 10)])
    rw[IntWalk.u32_in _ (by omega),IntWalk.u8_in _ (by omega),bD_app,dig_nat (Nat.mod_lt m (by decide))]
  ·rename_i hx
   have hm0:m=0:=Classical.byContradiction fun e=>hx (by
    show 0<(((wD (ws m)).length:Nat):Int)
    rw[wD_len]
    have:(ws m).length≠0:=fun h=>e (ws_nil.1 (List.eq_nil_of_length_eq_zero h))
    omega)
   have hb:b=dl10 n:=by rw[h1,hm0,dl10_zero,List.append_nil]
   subst hm0
   have hb0:b≠[]:=by rw[hb,dl10_pos h0];exact List.cons_ne_nil _ _
   have hbp:0<b.length:=List.length_pos_iff.2 hb0
   refine ⟨{ σ:=(Nat×List UInt8),fr:=fun s=>[(8,.c (.d (iD s.1))),(9,.c (.d (iD ((b.length - 1 - s.1:Nat):Int))))],ks:=[0],L:=fun s=>[(0,.rows 1 (bD s.2) 5)],ex:=0,I:=fun s=>Turned b s.2 s.1,μ:=fun s=>b.length - s.1 },⟨(0,b),Turned.zero b,?_⟩,?_⟩
   ·((repeat' first|exact rfl|((conv=>whnf);first|done|exact suL|refine And.intro ?_ ?_|fail));all_goals conv=>whnf)
    exact ceq (show IntKind.i64.wrap ((((bD b).length:Nat):Int) - 1)=((b.length - 1 - 0:Nat):Int) by rw[bD_len,wrapI (by omega)];omega)
   ·rintro ⟨k,p⟩ ht
    have ht':Turned b p k:=ht
    obtain ⟨t1,t2,_⟩:=id ht'
    have hki:0≤(k:Int)∧(k:Int)<((bD p).length:Nat):=by rw[bD_len];omega
    have hji:0≤((b.length - 1 - k:Nat):Int)∧((b.length - 1 - k:Nat):Int)<((bD p).length:Nat):=by rw[bD_len];omega
    have hk:k<p.length:=by omega
    have hj:b.length - 1 - k<p.length:=by omega
    have hji2:0≤((b.length - 1 - k:Nat):Int)∧((b.length - 1 - k:Nat):Int)<(((bD p).set ((k:Nat):Int).toNat (u8D p[b.length - 1 - k])).length:Nat):=by rw[List.length_set];exact hji
    ((repeat' ((conv=>whnf);first|exact .intro|refine .ya ?_|refine .na ?_|refine .ys ?_|refine .ns ?_|refine .neg (fun _=>?_) (fun _=>?_)|refine .mk (fun _=>?_) (fun _=>?_)|refine .mk ?_ ?_|refine AK ?_|refine And.intro (by first|(first|exact hki|exact hji|exact hji2|assumption|omega|(simp;done);done)|fail) ?_|fail));all_goals conv=>whnf)
    ·rename_i hx
     have hx':k<b.length - 1 - k:=Int.ofNat_lt.1 hx
     have hj2:b.length - 1 - k<(p.set k p[b.length - 1 - k]).length:=by rw[List.length_set];exact hj
     have hg3:((bD p).set ((k:Nat):Int).toNat (u8D p[b.length - 1 - k]))[((b.length - 1 - k:Nat):Int).toNat]?=some (u8D (p.set k p[b.length - 1 - k])[b.length - 1 - k]):=by rw[bset];exact bget hj2
     refine ⟨_,bget hk,?_⟩
     ((repeat' ((conv=>whnf);first|exact .intro|refine .ya ?_|refine .na ?_|refine .ys ?_|refine .ns ?_|refine .neg (fun _=>?_) (fun _=>?_)|refine .mk (fun _=>?_) (fun _=>?_)|refine .mk ?_ ?_|refine AK ?_|refine And.intro (by first|(first|exact hki|exact hji|exact hji2|assumption|omega|(simp;done);done)|fail) ?_|fail));all_goals conv=>whnf)
     refine ⟨_,bget hj,?_⟩
     ((repeat' ((conv=>whnf);first|exact .intro|refine .ya ?_|refine .na ?_|refine .ys ?_|refine .ns ?_|refine .neg (fun _=>?_) (fun _=>?_)|refine .mk (fun _=>?_) (fun _=>?_)|refine .mk ?_ ?_|refine AK ?_|refine And.intro (by first|(first|exact hki|exact hji|exact hji2|assumption|omega|(simp;done);done)|fail) ?_|fail));all_goals conv=>whnf)
     refine ⟨_,bget hk,?_⟩
     ((repeat' ((conv=>whnf);first|exact .intro|refine .ya ?_|refine .na ?_|refine .ys ?_|refine .ns ?_|refine .neg (fun _=>?_) (fun _=>?_)|refine .mk (fun _=>?_) (fun _=>?_)|refine .mk ?_ ?_|refine AK ?_|refine And.intro (by first|(first|exact hki|exact hji|exact hji2|assumption|omega|(simp;done);done)|fail) ?_|fail));all_goals conv=>whnf)
     refine ⟨_,hg3,?_⟩
     ((repeat' ((conv=>whnf);first|exact .intro|refine .ya ?_|refine .na ?_|refine .ys ?_|refine .ns ?_|refine .neg (fun _=>?_) (fun _=>?_)|refine .mk (fun _=>?_) (fun _=>?_)|refine .mk ?_ ?_|refine AK ?_|refine And.intro (by first|(first|exact hki|exact hji|exact hji2|assumption|omega|(simp;done);done)|fail) ?_|fail));all_goals conv=>whnf)
     refine ⟨(k+1,(p.set k p[b.length - 1 - k]).set (b.length - 1 - k) p[k]),⟨ht'.step hx' hk hj,by show b.length - (k+1)<b.length - k;omega⟩,?_⟩
     ((repeat' first|exact rfl|((conv=>whnf);first|done|exact suL|refine And.intro ?_ ?_|fail));all_goals conv=>whnf)
     ·exact ceq (show IntKind.i64.wrap ((k:Int)+1)=((k+1:Nat):Int) by rw[wrapI (by omega)];rfl)
     ·exact ceq (show IntKind.i64.wrap (((b.length - 1 - k:Nat):Int) - 1)=((b.length - 1 - (k+1):Nat):Int) by rw[wrapI (by omega)];omega)
     ·show List.set (List.set (bD p) ((k:Nat):Int).toNat (u8D p[b.length - 1 - k])) ((b.length - 1 - k:Nat):Int).toNat (u8D p[k])=bD ((p.set k p[b.length - 1 - k]).set (b.length - 1 - k) p[k])
      rw[bset,bset]
    ·rename_i hx
     have hx':¬ k<b.length - 1 - k:=fun h=>hx (Int.ofNat_lt.2 h)
     refine ⟨p,rfl,?_⟩
     ((repeat' ((conv=>whnf);first|exact .intro|refine .ya ?_|refine .na ?_|refine .ys ?_|refine .ns ?_|refine .neg (fun _=>?_) (fun _=>?_)|refine .mk (fun _=>?_) (fun _=>?_)|refine .mk ?_ ?_|refine AK ?_|refine AT ?_|fail));all_goals conv=>whnf)
     refine LeD.of (congrArg D.str ?_)
     rw[ht'.done hx',hb,decB,if_neg h0]
theorem String_p (n:Nat) (hn:(ws n).length≤8796093022208):FnP Tryz.prog gl 74 [.imm [fD,W n]] (.str (decB n)):=by
 have h:=Text_p (gl:=gl) n hn
 refine fnP_of_vc (nv:=9999) (cu:=[]) fits mixed Tryz.func74 rfl hoB rfl ?_
 ((repeat' ((conv=>whnf);first|exact .intro|refine .ya ?_|refine .na ?_|refine .ys ?_|refine .ns ?_|refine .neg (fun _=>?_) (fun _=>?_)|refine .mk (fun _=>?_) (fun _=>?_)|refine .inl (.inl (X1 (h) ?_))|refine .inl (X1 (h) ?_)|refine X1 (h) ?_|refine .mk ?_ ?_|refine AK ?_|refine AT ?_|fail));all_goals conv=>whnf)
 exact LeD.rfl
theorem Digits_p (n:Nat) (hn:n<9223372036854775808):FnP Tryz.prog gl 43 [iD n] (.str (decB n)):=by
 have h:=String_p (gl:=gl) n (Nat.le_trans (ws_len_le (k:=2) (Nat.lt_trans hn (by decide))) (by decide))
 have h2:=NewInt_p (gl:=gl) n hn
 refine fnP_of_vc (nv:=9999) (cu:=[]) fits mixed Tryz.func43 rfl hoB rfl ?_
 ((repeat' ((conv=>whnf);first|exact .intro|refine .ya ?_|refine .na ?_|refine .ys ?_|refine .ns ?_|refine .neg (fun _=>?_) (fun _=>?_)|refine .mk (fun _=>?_) (fun _=>?_)|refine .inl (.inl (X1 (by first|exact h|exact h2) ?_))|refine .inl (X1 (by first|exact h|exact h2) ?_)|refine X1 (by first|exact h|exact h2) ?_|refine .mk ?_ ?_|refine AK ?_|refine AT ?_|fail));all_goals conv=>whnf)
 exact LeD.rfl
end Go.Proofs.YtcdjjjokniinkaaGreatDoor
end
