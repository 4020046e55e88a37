/- Proved: a part of what the law is proved with (the reckoner, contracts of functions, plain laws). Conditions: as each says. -/
import Derived.Test.YtdpigpahfiachaaGreatDoorZBb
section
namespace Go.Proofs.YtdpigpahfiachaaGreatDoor
open Go Go.EYtdpigpahfiachaaGreatDoor
set_option maxRecDepth 100000
variable {gl:List (Nat×List D)}
theorem val_set {l:List Nat} {i d:Nat} (h:i<l.length):val (l.set i d)+B32 ^ i * l[i]=val l+B32 ^ i * d:=by
 have e1:val (l.set i d)=val (l.take i)+B32 ^ i * (d+B32 * val (l.drop (i+1))):=by
  rw[List.set_eq_take_append_cons_drop,if_pos h,val_app,List.length_take,Nat.min_eq_left (by omega)];rfl
 have e2:val l=val (l.take i)+B32 ^ i * (l[i]+B32 * val (l.drop (i+1))):=by
  conv=>lhs;rw[← List.take_append_drop i l,val_app,List.length_take,Nat.min_eq_left (by omega),List.drop_eq_getElem_cons h]
  rfl
 rw[e1,e2,Nat.mul_add,Nat.mul_add];omega
theorem set_dig {p:List Nat} {k x:Nat} (h:∀ d ∈ p,d<B32) (hx:x<B32):∀ d ∈ p.set k x,d<B32:=fun d hd=>by
 rcases List.mem_or_eq_of_mem_set hd with h1|h1
 ·exact h d h1
 ·rw[h1];exact hx
theorem set_drop {p q:List Nat} {k x:Nat} (h:p.drop k=q.drop k):(p.set k x).drop (k+1)=q.drop (k+1):=by
 rw[List.drop_set_of_lt (by omega),← List.drop_drop,← List.drop_drop,h]
theorem mul_step {p q:List Nat} {i j a b c t vb:Nat} (hk:i+j<p.length) (ht:t=c+(a * b+p[i+j])) (h:val p+B32 ^ (i+j) * c=val q+B32 ^ i * (a * vb)) :
 val (p.set (i+j) (t % B32))+B32 ^ (i+(j+1)) * (t / B32)=val q+B32 ^ i * (a * (vb+B32 ^ j * b)):=by
 have h1:=val_set (d:=t % B32) hk
 have h2:B32 ^ (i+(j+1)) * (t / B32)=B32 ^ (i+j) * (B32 * (t / B32)):=by rw[← Nat.add_assoc,Nat.pow_succ,Nat.mul_assoc]
 have h3:B32 ^ (i+j) * (t % B32)+B32 ^ (i+j) * (B32 * (t / B32))=B32 ^ (i+j) * c+(B32 ^ (i+j) * (a * b)+B32 ^ (i+j) * p[i+j]):=by
  rw[← Nat.mul_add,Nat.mod_add_div,ht,Nat.mul_add,Nat.mul_add]
 have h4:B32 ^ i * (a * (vb+B32 ^ j * b))=B32 ^ i * (a * vb)+B32 ^ (i+j) * (a * b):=by
  rw[Nat.mul_add,Nat.mul_add,Nat.pow_add,Nat.mul_assoc,Nat.mul_left_comm a]
 rw[h2,h4]
 omega
theorem mul_lt {a b c p:Nat} (ha:a<B32) (hb:b<B32) (hc:c<B32) (hp:p<B32):c+(a * b+p)<18446744073709551616:=by
 simp only[B32] at *
 have:a * b≤4294967295 * 4294967295:=Nat.mul_le_mul (by omega) (by omega)
 omega
theorem mul_d (m n:Nat) (hm:(ws m).length≤35184372088832) (hn:(ws n).length≤35184372088832):FnP Tryz.prog gl 198 [W m,W n] (W (m * n)):=by
 have wa:=wD_len (ws m)
 have wb:=wD_len (ws n)
 by_cases ha0:(ws m).length=0
 ·have h0:(((wD (ws m)).length:Nat):Int)=0:=by rw[wa,ha0];rfl
  have:m=0:=ws_nil.1 (List.eq_nil_of_length_eq_zero ha0)
  refine fnP_of_vc (nv:=9999) (cu:=[]) fits mixed Tryz.func198 rfl hoB rfl ?_
  ((repeat' ((conv=>whnf);first|exact .intro|refine .ya ?_|refine .na ?_|refine .ys ?_|refine .ns ?_|refine .neg (fun _=>?_) (fun _=>?_)|refine .mk (fun _=>?_) (fun _=>?_)|refine .mk ?_ ?_|refine AK ?_|refine And.intro (by first|(first|omega|(simp;done);done)|fail) ?_|fail));all_goals conv=>whnf)
  simp only[this,Nat.zero_mul,ws_zero,W]
  exact nilW_le 1
 have h0:¬ (((wD (ws m)).length:Nat):Int)=0:=by rw[wa];omega
 by_cases hb0:(ws n).length=0
 ·have h1:(((wD (ws n)).length:Nat):Int)=0:=by rw[wb,hb0];rfl
  have:n=0:=ws_nil.1 (List.eq_nil_of_length_eq_zero hb0)
  refine fnP_of_vc (nv:=9999) (cu:=[]) fits mixed Tryz.func198 rfl hoB rfl ?_
  ((repeat' ((conv=>whnf);first|exact .intro|refine .ya ?_|refine .na ?_|refine .ys ?_|refine .ns ?_|refine .neg (fun _=>?_) (fun _=>?_)|refine .mk (fun _=>?_) (fun _=>?_)|refine .mk ?_ ?_|refine AK ?_|refine And.intro (by first|(first|omega|(simp;done);done)|fail) ?_|fail));all_goals conv=>whnf)
  simp only[this,Nat.mul_zero,ws_zero,W]
  exact nilW_le 1
 have h1:¬ (((wD (ws n)).length:Nat):Int)=0:=by rw[wb];omega
 have e1:IntKind.i64.wrap ((((wD (ws m)).length:Nat):Int)+(((wD (ws n)).length:Nat):Int))=(((ws m).length+(ws n).length:Nat):Int):=by rw[wa,wb,wrapI (by omega)];omega
 refine fnP_of_vc (nv:=9999) (cu:=[]) fits mixed Tryz.func198 rfl hoB rfl ?_
 ((repeat' ((conv=>whnf);first|exact .intro|refine .ya ?_|refine .na ?_|refine .ys ?_|refine .ns ?_|refine .neg (fun _=>?_) (fun _=>?_)|refine .mk (fun _=>?_) (fun _=>?_)|(rw[e1])|refine .mk ?_ ?_|refine AK ?_|refine And.intro (by first|(first|omega|(simp;done);done)|fail) ?_|fail));all_goals conv=>whnf)
 refine ⟨⟨by omega,by omega,by show (4:Int) * _≤_;omega,by omega⟩,?_⟩
 ((repeat' ((conv=>whnf);first|exact .intro|refine .ya ?_|refine .na ?_|refine .ys ?_|refine .ns ?_|refine .neg (fun _=>?_) (fun _=>?_)|refine .mk (fun _=>?_) (fun _=>?_)|refine .mk ?_ ?_|refine AK ?_|refine And.intro (by first|(first|omega|(simp;done);done)|fail) ?_|fail));all_goals conv=>whnf)
 refine ⟨{ σ:=(Nat×List Nat),fr:=fun s=>[(6,.c (.d (iD s.1)))],ks:=[0],L:=fun s=>[(0,.rows 1 (wD s.2) 244)],ex:=0,I:=fun s=>s.2.length=(ws m).length+(ws n).length∧s.1≤(ws m).length∧(∀ d ∈ s.2,d<B32)∧val s.2=val ((ws m).take s.1) * n∧s.2.drop (s.1+(ws n).length)=List.replicate ((ws m).length - s.1) 0,μ:=fun s=>(ws m).length - s.1 },⟨(0,List.replicate ((ws m).length+(ws n).length) 0),⟨by simp,Nat.zero_le _,by simp,by rw[val_zeros];show 0=0 * n;omega,by simp⟩,?_⟩,?_⟩
 ·((repeat' first|exact rfl|((conv=>whnf);first|done|exact suL|refine And.intro ?_ ?_|fail));all_goals conv=>whnf)
  show List.replicate (((ws m).length+(ws n).length:Nat):Int).toNat _=wD (List.replicate ((ws m).length+(ws n).length) 0)
  rw[wD_rep,Int.toNat_natCast]
  rfl
 ·rintro ⟨i,q⟩ ⟨q1,q2,q3,q4,q5⟩
  simp only at q1 q2 q3 q4 q5
  ((repeat' ((conv=>whnf);first|exact .intro|refine .ya ?_|refine .na ?_|refine .ys ?_|refine .ns ?_|refine .neg (fun _=>?_) (fun _=>?_)|refine .mk (fun _=>?_) (fun _=>?_)|refine .mk ?_ ?_|refine AK ?_|refine And.intro (by first|(first|omega|(simp;done);done)|fail) ?_|fail));all_goals conv=>whnf)
  ·rename_i hx
   have hia:i<(ws m).length:=by rw[wa] at hx;exact Int.ofNat_lt.1 hx
   have ha:=ws_lt m _ (List.getElem_mem hia)
   refine ⟨{ σ:=(Nat×List Nat×Nat),fr:=fun s=>[(7,.c (.d (.v (.int .u64 s.2.2)))),(8,.c (.d (iD s.1)))],ks:=[0],L:=fun s=>[(0,.rows 1 (wD s.2.1) 244)],ex:=0,I:=fun s=>s.2.1.length=(ws m).length+(ws n).length∧s.1≤(ws n).length∧(∀ d ∈ s.2.1,d<B32)∧s.2.2<B32∧s.2.1.drop (i+s.1)=q.drop (i+s.1)∧val s.2.1+B32 ^ (i+s.1) * s.2.2=val q+B32 ^ i * ((ws m)[i] * val ((ws n).take s.1)),μ:=fun s=>(ws n).length - s.1 },⟨(0,q,0),⟨q1,Nat.zero_le _,q3,Nat.zero_lt_succ _,rfl,by simp[val]⟩,?_⟩,?_⟩
   ·((repeat' first|exact rfl|((conv=>whnf);first|done|exact suL|refine And.intro ?_ ?_|fail));all_goals conv=>whnf)
   ·rintro ⟨j,p,c⟩ ⟨p1,p2,p3,p4,p5,p6⟩
    simp only at p1 p2 p3 p4 p5 p6
    ((repeat' ((conv=>whnf);first|exact .intro|refine .ya ?_|refine .na ?_|refine .ys ?_|refine .ns ?_|refine .neg (fun _=>?_) (fun _=>?_)|refine .mk (fun _=>?_) (fun _=>?_)|refine .mk ?_ ?_|refine AK ?_|refine And.intro (by first|(first|omega|(simp;done);done)|fail) ?_|fail));all_goals conv=>whnf)
    ·rename_i hy
     have hjb:j<(ws n).length:=by rw[wb] at hy;exact Int.ofNat_lt.1 hy
     have hb:=ws_lt n _ (List.getElem_mem hjb)
     have hij:i+j<p.length:=by omega
     have hpd:=p3 _ (List.getElem_mem hij)
     refine ⟨_,wget hia,?_⟩
     ((repeat' ((conv=>whnf);first|exact .intro|refine .ya ?_|refine .na ?_|refine .ys ?_|refine .ns ?_|refine .neg (fun _=>?_) (fun _=>?_)|refine .mk (fun _=>?_) (fun _=>?_)|refine .mk ?_ ?_|refine AK ?_|refine And.intro (by first|(first|omega|(simp;done);done)|fail) ?_|fail));all_goals conv=>whnf)
     refine ⟨_,wget hjb,?_⟩
     ((repeat' ((conv=>whnf);first|exact .intro|refine .ya ?_|refine .na ?_|refine .ys ?_|refine .ns ?_|refine .neg (fun _=>?_) (fun _=>?_)|refine .mk (fun _=>?_) (fun _=>?_)|refine .mk ?_ ?_|refine AK ?_|refine And.intro (by first|(first|omega|(simp;done);done)|fail) ?_|fail));all_goals conv=>whnf)
     have eij:IntKind.i64.wrap ((i:Int)+(j:Int))=((i+j:Nat):Int):=by rw[wrapI (by omega)];omega
     have hidx:0≤IntKind.i64.wrap ((i:Int)+(j:Int))∧IntKind.i64.wrap ((i:Int)+(j:Int))<((wD p).length:Nat):=by rw[eij,wD_len];exact ⟨Int.natCast_nonneg _,Int.ofNat_lt.2 hij⟩
     have hget:(wD p)[(IntKind.i64.wrap ((i:Int)+(j:Int))).toNat]?=some [u32D p[i+j]]:=by rw[eij];exact wget hij
     refine ⟨hidx,?_⟩
     ((repeat' ((conv=>whnf);first|exact .intro|refine .ya ?_|refine .na ?_|refine .ys ?_|refine .ns ?_|refine .neg (fun _=>?_) (fun _=>?_)|refine .mk (fun _=>?_) (fun _=>?_)|refine .mk ?_ ?_|refine AK ?_|refine And.intro (by first|(first|omega|(simp;done);done)|fail) ?_|fail));all_goals conv=>whnf)
     refine ⟨_,hget,?_⟩
     ((repeat' ((conv=>whnf);first|exact .intro|refine .ya ?_|refine .na ?_|refine .ys ?_|refine .ns ?_|refine .neg (fun _=>?_) (fun _=>?_)|refine .mk (fun _=>?_) (fun _=>?_)|refine .mk ?_ ?_|refine AK ?_|refine And.intro (by first|(first|omega|(simp;done);done)|fail) ?_|fail));all_goals conv=>whnf)
     refine ⟨_,hget,?_⟩
     ((repeat' ((conv=>whnf);first|exact .intro|refine .ya ?_|refine .na ?_|refine .ys ?_|refine .ns ?_|refine .neg (fun _=>?_) (fun _=>?_)|refine .mk (fun _=>?_) (fun _=>?_)|refine .mk ?_ ?_|refine AK ?_|refine And.intro (by first|(first|omega|(simp;done);done)|fail) ?_|fail));all_goals conv=>whnf)
     obtain ⟨t,ht⟩:∃ t,t=c+((ws m)[i] * (ws n)[j]+p[i+j]):=⟨_,rfl⟩
     have htl:t<18446744073709551616:=ht ▸ mul_lt ha hb p4 hpd
     have et:IntKind.u64.wrap ((c:Int)+IntKind.u64.wrap (IntKind.u64.wrap (IntKind.u64.wrap ((ws m)[i]:Int) * IntKind.u64.wrap ((ws n)[j]:Int))+IntKind.u64.wrap (p[i+j]:Int)))=(t:Int):=by
      simp only[B32] at ha hb hpd p4
      rw[w64 (x:=(ws m)[i]) (by omega),w64 (x:=(ws n)[j]) (by omega),w64 (x:=p[i+j]) (by omega),← Int.natCast_mul,w64 (x:=(ws m)[i] * (ws n)[j]) (by omega),← Int.natCast_add,w64 (by omega),← Int.natCast_add,← ht,w64 htl]
     refine ⟨(j+1,p.set (i+j) (t % B32),t / B32),⟨⟨by simpa using p1,hjb,set_dig p3 (Nat.mod_lt _ (by decide)),by simp only[B32];omega,set_drop p5,?_⟩,by show (ws n).length - (j+1)<(ws n).length - j;omega⟩,?_⟩
     ·rw[val_take_succ hjb];exact mul_step hij ht p6
     ·((repeat' first|exact rfl|((conv=>whnf);first|done|exact suL|refine And.intro ?_ ?_|fail));all_goals conv=>whnf)
      ·exact ceqK (show (IntKind.u64.wrap ((c:Int)+IntKind.u64.wrap (IntKind.u64.wrap (IntKind.u64.wrap ((ws m)[i]:Int) * IntKind.u64.wrap ((ws n)[j]:Int))+IntKind.u64.wrap (p[i+j]:Int)))).fdiv (2 ^ min (Int.toNat 32) IntKind.u64.bits)=((t / B32:Nat):Int) by rw[et,hi32])
      ·exact ceq (show IntKind.i64.wrap ((j:Int)+1)=((j+1:Nat):Int) by rw[wrapI (by omega)];rfl)
      ·show List.set (wD p) (IntKind.i64.wrap ((i:Int)+(j:Int))).toNat [D.v (.int .u32 (IntKind.u32.wrap (IntKind.u64.wrap ((c:Int)+IntKind.u64.wrap (IntKind.u64.wrap (IntKind.u64.wrap ((ws m)[i]:Int) * IntKind.u64.wrap ((ws n)[j]:Int))+IntKind.u64.wrap (p[i+j]:Int))))))]=wD (p.set (i+j) (t % B32))
       rw[eij,et,lo32,wset]
    ·rename_i hy
     have hj:j=(ws n).length:=by rw[wb] at hy;exact Nat.le_antisymm p2 (Nat.le_of_not_lt fun h=>hy (Int.ofNat_lt.2 h))
     subst hj
     have hk:i+(ws n).length<p.length:=by omega
     have eil:IntKind.i64.wrap ((i:Int)+(((wD (ws n)).length:Nat):Int))=((i+(ws n).length:Nat):Int):=by rw[wb,wrapI (by omega)];omega
     refine ⟨⟨by rw[eil];exact Int.natCast_nonneg _,by rw[eil,wD_len];exact Int.ofNat_lt.2 hk⟩,?_⟩
     ((repeat' ((conv=>whnf);first|exact .intro|refine .ya ?_|refine .na ?_|refine .ys ?_|refine .ns ?_|refine .neg (fun _=>?_) (fun _=>?_)|refine .mk (fun _=>?_) (fun _=>?_)|refine .mk ?_ ?_|refine AK ?_|refine And.intro (by first|(first|omega|(simp;done);done)|fail) ?_|fail));all_goals conv=>whnf)
     refine ⟨_,by rw[eil];exact wget hk,?_⟩
     ((repeat' ((conv=>whnf);first|exact .intro|refine .ya ?_|refine .na ?_|refine .ys ?_|refine .ns ?_|refine .neg (fun _=>?_) (fun _=>?_)|refine .mk (fun _=>?_) (fun _=>?_)|refine .mk ?_ ?_|refine AK ?_|refine And.intro (by first|(first|omega|(simp;done);done)|fail) ?_|fail));all_goals conv=>whnf)
     have hp0:p[i+(ws n).length]=0:=by
      have h2:(p.drop (i+(ws n).length))[0]?=some 0:=by
       rw[p5,q5,List.getElem?_replicate,if_pos (by omega)]
      rw[List.getElem?_drop,Nat.add_zero,List.getElem?_eq_getElem hk] at h2
      exact Option.some.inj h2
     have hv:=val_set (d:=c) hk
     rw[hp0,Nat.mul_zero,Nat.add_zero,p6,val_take_ge (Nat.le_refl _),val_ws] at hv
     refine ⟨(i+1,p.set (i+(ws n).length) c),⟨⟨by simpa using p1,hia,set_dig p3 p4,?_,?_⟩,by show (ws m).length - (i+1)<(ws m).length - i;omega⟩,?_⟩
     ·rw[hv,q4,val_take_succ hia,Nat.add_mul,Nat.mul_assoc]
     ·rw[show i+1+(ws n).length=i+(ws n).length+1 by omega,set_drop p5,← List.drop_drop,q5,List.drop_replicate]
      congr 1
     ·((repeat' first|exact rfl|((conv=>whnf);first|done|exact suL|refine And.intro ?_ ?_|fail));all_goals conv=>whnf)
      ·exact ceq (show IntKind.i64.wrap ((i:Int)+1)=((i+1:Nat):Int) by rw[wrapI (by omega)];rfl)
      ·show List.set (wD p) (IntKind.i64.wrap ((i:Int)+(((wD (ws n)).length:Nat):Int))).toNat [D.v (.int .u32 (IntKind.u32.wrap (c:Int)))]=wD (p.set (i+(ws n).length) c)
       rw[eil,lo32,Nat.mod_eq_of_lt p4,wset]
  ·rename_i hx
   have hi:i=(ws m).length:=by rw[wa] at hx;exact Nat.le_antisymm q2 (Nat.le_of_not_lt fun h=>hx (Int.ofNat_lt.2 h))
   subst hi
   have ht:=trim_d (gl:=gl) q q3 (by unfold maxLen;omega)
   rw[q4,val_take_ge (Nat.le_refl _),val_ws] at ht
   ((repeat' ((conv=>whnf);first|exact .intro|refine .ya ?_|refine .na ?_|refine .ys ?_|refine .ns ?_|refine .neg (fun _=>?_) (fun _=>?_)|refine .mk (fun _=>?_) (fun _=>?_)|refine .inr (X1 (by first|exact ht) ?_)|refine .mk ?_ ?_|refine AK ?_|refine And.intro (by first|(first|omega|(simp;done);done)|fail) ?_|fail));all_goals conv=>whnf)
   exact LeD.rfl
end Go.Proofs.YtdpigpahfiachaaGreatDoor
end
section
namespace Go.Proofs.YtdpigpahfiachaaGreatDoor
open Go Go.EYtdpigpahfiachaaGreatDoor
set_option maxRecDepth 100000
variable {gl:List (Nat×List D)}
abbrev fD:D:=.v (.bool false)
theorem give_fl (m:Nat) (u:Value) (l:List (List D))  : Go.EYtdpigpahfiachaaGreatDoor.Fn Tryz.prog gl 197 [.c (.ptr 0 0),.c (.d fD),.c (.d (W m))] [(0,.var [.d (.v u),.d (.lst 1 l)] 201)] 1 (.ret (.c (.ptr 0 0))) [(0,.var [.d fD,.d (W m)] 201)] 1 []:=by
 refine fn_of_vc (nv:=9999) (cu:=[]) fits mixed Tryz.func197 rfl hoB rfl rfl rfl rfl ?_
 ((repeat' ((conv=>whnf);first|exact .intro|refine .ya ?_|refine .na ?_|refine .ys ?_|refine .ns ?_|refine .neg (fun _=>?_) (fun _=>?_)|refine .mk (fun _=>?_) (fun _=>?_)|refine .mk ?_ ?_|refine AK ?_|refine And.intro (by first|(first|omega|(simp;done);done)|fail) ?_|fail));all_goals conv=>whnf)
 ((repeat' first|exact rfl|((conv=>whnf);first|done|exact suL|refine And.intro ?_ ?_|fail));all_goals conv=>whnf)
theorem give_bv (m:Nat) (u:Value) (v:Value) {p:Prop} (i:Decidable p) (h:¬ p):Go.EYtdpigpahfiachaaGreatDoor.Fn Tryz.prog gl 197 [.c (.ptr 0 0),.c (.d (.b p i)),.c (.d (W m))] [(0,.var [.d (.v u),.d (.v v)] 201)] 1 (.ret (.c (.ptr 0 0))) [(0,.var [.d fD,.d (W m)] 201)] 1 []:=by
 refine fn_of_vc (nv:=9999) (cu:=[]) fits mixed Tryz.func197 rfl hoB rfl rfl rfl rfl ?_
 ((repeat' ((conv=>whnf);first|exact .intro|refine .ya ?_|refine .na ?_|refine .ys ?_|refine .ns ?_|refine .neg (fun _=>?_) (fun _=>?_)|refine .mk (fun _=>?_) (fun _=>?_)|refine .mk ?_ ?_|refine AK ?_|refine And.intro (by first|(first|omega|(simp;done);done)|fail) ?_|fail));all_goals conv=>whnf)
 ((repeat' first|exact rfl|((conv=>whnf);first|done|exact suL|refine And.intro ?_ ?_|fail));all_goals conv=>whnf)
theorem give_bl (m:Nat) (u:Value) (l:List (List D)) {p:Prop} (i:Decidable p) (h:¬ p):Go.EYtdpigpahfiachaaGreatDoor.Fn Tryz.prog gl 197 [.c (.ptr 0 0),.c (.d (.b p i)),.c (.d (W m))] [(0,.var [.d (.v u),.d (.lst 1 l)] 201)] 1 (.ret (.c (.ptr 0 0))) [(0,.var [.d fD,.d (W m)] 201)] 1 []:=by
 refine fn_of_vc (nv:=9999) (cu:=[]) fits mixed Tryz.func197 rfl hoB rfl rfl rfl rfl ?_
 ((repeat' ((conv=>whnf);first|exact .intro|refine .ya ?_|refine .na ?_|refine .ys ?_|refine .ns ?_|refine .neg (fun _=>?_) (fun _=>?_)|refine .mk (fun _=>?_) (fun _=>?_)|refine .mk ?_ ?_|refine AK ?_|refine And.intro (by first|(first|omega|(simp;done);done)|fail) ?_|fail));all_goals conv=>whnf)
 ((repeat' first|exact rfl|((conv=>whnf);first|done|exact suL|refine And.intro ?_ ?_|fail));all_goals conv=>whnf)
theorem SetInt64_p (n:Nat) (h:n<9223372036854775808) (u v:Value):Go.EYtdpigpahfiachaaGreatDoor.Fn Tryz.prog gl 195 [.c (.ptr 0 0),.c (.d (iD n))] [(0,.var [.d (.v u),.d (.v v)] 201)] 1 (.ret (.c (.ptr 0 0))) [(0,.var [.d fD,.d (W n)] 201)] 1 []:=by
 have h0:¬ (n:Int)<0:=by omega
 have hw:FnP Tryz.prog gl 217 [.v (.int .u64 (IntKind.u64.wrap (n:Int)))] (W n):=by rw[w64 (by omega)];exact words_d n (by omega)
 refine fn_of_vc (nv:=9999) (cu:=[]) fits mixed Tryz.func195 rfl hoB rfl rfl rfl rfl ?_
 ((repeat' ((conv=>whnf);first|exact .intro|refine .ya ?_|refine .na ?_|refine .ys ?_|refine .ns ?_|refine .neg (fun _=>?_) (fun _=>?_)|refine .mk (fun _=>?_) (fun _=>?_)|refine .inr (X5 ((give_bv n u v _ h0).r [0] _) ?_)|refine .inl (.inr (X5 ((give_bv n u v _ h0).r [0] _) ?_))|refine .inl (X5 ((give_bv n u v _ h0).r [0] _) ?_)|refine .inl (.inl (X1 (hw) ?_))|refine .inl (X1 (hw) ?_)|refine X1 (hw) ?_|refine .mk ?_ ?_|refine AK ?_|refine And.intro (by first|(first|omega|(simp;done);done)|fail) ?_|fail));all_goals conv=>whnf)
 ((repeat' first|exact rfl|((conv=>whnf);first|done|exact suL|refine And.intro ?_ ?_|fail));all_goals conv=>whnf)
theorem NewInt_p (n:Nat) (h:n<9223372036854775808):FnP Tryz.prog gl 159 [iD n] (.imm [fD,W n]):=by
 refine fnP_of_vc (nv:=9999) (cu:=[]) fits mixed Tryz.func159 rfl hoB rfl ?_
 ((repeat' ((conv=>whnf);first|exact .intro|refine .ya ?_|refine .na ?_|refine .ys ?_|refine .ns ?_|refine .neg (fun _=>?_) (fun _=>?_)|refine .mk (fun _=>?_) (fun _=>?_)|refine .inr (X5 ((SetInt64_p n h (.bool false) (.slice none 0 0)).r [0] _) ?_)|refine .inl (.inr (X5 ((SetInt64_p n h (.bool false) (.slice none 0 0)).r [0] _) ?_))|refine .inl (X5 ((SetInt64_p n h (.bool false) (.slice none 0 0)).r [0] _) ?_)|refine .mk ?_ ?_|refine AK ?_|refine And.intro (by first|(first|omega|(simp;done);done)|fail) ?_|fail));all_goals conv=>whnf)
 exact LeD.rfl
theorem Mul_p (m n:Nat) (hm:(ws m).length≤35184372088832) (hn:(ws n).length≤35184372088832):Go.EYtdpigpahfiachaaGreatDoor.Fn Tryz.prog gl 161 [.c (.ptr 0 0),.c (.ptr 0 0),.c (.d (.imm [fD,W n]))] [(0,.var [.d fD,.d (W m)] 201)] 1 (.ret (.c (.ptr 0 0))) [(0,.var [.d fD,.d (W (m * n))] 201)] 1 []:=by
 have hx:=mul_d (gl:=gl) m n hm hn
 refine fn_of_vc (nv:=9999) (cu:=[]) fits mixed Tryz.func161 rfl hoB rfl rfl rfl rfl ?_
 ((repeat' ((conv=>whnf);first|exact .intro|refine .ya ?_|refine .na ?_|refine .ys ?_|refine .ns ?_|refine .neg (fun _=>?_) (fun _=>?_)|refine .mk (fun _=>?_) (fun _=>?_)|refine .inr (X5 ((give_fl (m * n) (.bool false) (wD (ws m))).r [0] _) ?_)|refine .inl (.inr (X5 ((give_fl (m * n) (.bool false) (wD (ws m))).r [0] _) ?_))|refine .inl (X5 ((give_fl (m * n) (.bool false) (wD (ws m))).r [0] _) ?_)|refine .inr (X5 ((give_bl (m * n) (.bool false) (wD (ws m)) _ (by decide)).r [0] _) ?_)|refine .inl (.inr (X5 ((give_bl (m * n) (.bool false) (wD (ws m)) _ (by decide)).r [0] _) ?_))|refine .inl (X5 ((give_bl (m * n) (.bool false) (wD (ws m)) _ (by decide)).r [0] _) ?_)|refine .inl (.inl (X1 (hx) ?_))|refine .inl (X1 (hx) ?_)|refine X1 (hx) ?_|refine .mk ?_ ?_|refine AK ?_|refine And.intro (by first|(first|omega|(simp;done);done)|fail) ?_|fail));all_goals conv=>whnf)
 ((repeat' first|exact rfl|((conv=>whnf);first|done|exact suL|refine And.intro ?_ ?_|fail));all_goals conv=>whnf)
theorem sum_p (m n:Nat) (hm:(ws m).length≤35184372088832) (hn:(ws n).length≤35184372088832):FnP Tryz.prog gl 199 [fD,W m,fD,W n] (.tup [fD,W (m+n)]):=by
 have hx:=add_d (gl:=gl) m n (by omega) (by omega)
 refine fnP_of_vc (nv:=9999) (cu:=[]) fits mixed Tryz.func199 rfl hoB rfl ?_
 ((repeat' ((conv=>whnf);first|exact .intro|refine .ya ?_|refine .na ?_|refine .ys ?_|refine .ns ?_|refine .neg (fun _=>?_) (fun _=>?_)|refine .mk (fun _=>?_) (fun _=>?_)|refine .inl (.inl (X1 (hx) ?_))|refine .inl (X1 (hx) ?_)|refine X1 (hx) ?_|refine .mk ?_ ?_|refine AK ?_|refine And.intro (by first|(first|omega|(simp;done);done)|fail) ?_|fail));all_goals conv=>whnf)
 exact LeD.rfl
theorem Add_p (m n:Nat) (hm:(ws m).length≤35184372088832) (hn:(ws n).length≤35184372088832):Go.EYtdpigpahfiachaaGreatDoor.Fn Tryz.prog gl 162 [.c (.ptr 0 0),.c (.ptr 0 0),.c (.d (.imm [fD,W n]))] [(0,.var [.d fD,.d (W m)] 201)] 1 (.ret (.c (.ptr 0 0))) [(0,.var [.d fD,.d (W (m+n))] 201)] 1 []:=by
 have hx:=sum_p (gl:=gl) m n hm hn
 refine fn_of_vc (nv:=9999) (cu:=[]) fits mixed Tryz.func162 rfl hoB rfl rfl rfl rfl ?_
 ((repeat' ((conv=>whnf);first|exact .intro|refine .ya ?_|refine .na ?_|refine .ys ?_|refine .ns ?_|refine .neg (fun _=>?_) (fun _=>?_)|refine .mk (fun _=>?_) (fun _=>?_)|refine .inr (X5 ((give_fl (m+n) (.bool false) (wD (ws m))).r [0] _) ?_)|refine .inl (.inr (X5 ((give_fl (m+n) (.bool false) (wD (ws m))).r [0] _) ?_))|refine .inl (X5 ((give_fl (m+n) (.bool false) (wD (ws m))).r [0] _) ?_)|refine .inl (.inl (X1 (hx) ?_))|refine .inl (X1 (hx) ?_)|refine X1 (hx) ?_|refine .mk ?_ ?_|refine AK ?_|refine And.intro (by first|(first|omega|(simp;done);done)|fail) ?_|fail));all_goals conv=>whnf)
 ((repeat' first|exact rfl|((conv=>whnf);first|done|exact suL|refine And.intro ?_ ?_|fail));all_goals conv=>whnf)
theorem IsInt64_p (n:Nat) (hn:(ws n).length≤35184372088832):FnP Tryz.prog gl 201 [.imm [fD,W n]] (.b (n<9223372036854775808) inferInstance):=by
 have hl:=length_d (gl:=gl) n (by omega)
 have hb:=blen_le (n:=n) (k:=63)
 refine fnP_of_vc (nv:=9999) (cu:=[]) fits mixed Tryz.func201 rfl hoB rfl ?_
 ((repeat' ((conv=>whnf);first|exact .intro|refine .ya ?_|refine .na ?_|refine .ys ?_|refine .ns ?_|refine .neg (fun _=>?_) (fun _=>?_)|refine .mk (fun _=>?_) (fun _=>?_)|refine .inl (.inl (X1 (hl) ?_))|refine .inl (X1 (hl) ?_)|refine X1 (hl) ?_|refine .mk ?_ ?_|refine AK ?_|refine And.intro (by first|(first|omega|(simp;done);done)|fail) ?_|fail));all_goals conv=>whnf)
 all_goals first|exact LeD.bt (by omega)|exact LeD.bf (by omega)
theorem Fits_p (n:Nat) (hn:(ws n).length≤35184372088832):FnP Tryz.prog gl 164 [.imm [fD,W n]] (.b (n<9223372036854775808) inferInstance):=by
 have hl:=IsInt64_p (gl:=gl) n (by omega)
 refine fnP_of_vc (nv:=9999) (cu:=[]) fits mixed Tryz.func164 rfl hoB rfl ?_
 ((repeat' ((conv=>whnf);first|exact .intro|refine .ya ?_|refine .na ?_|refine .ys ?_|refine .ns ?_|refine .neg (fun _=>?_) (fun _=>?_)|refine .mk (fun _=>?_) (fun _=>?_)|refine .inl (.inl (X1 (hl) ?_))|refine .inl (X1 (hl) ?_)|refine X1 (hl) ?_|refine .mk ?_ ?_|refine AK ?_|refine And.intro (by first|(first|omega|(simp;done);done)|fail) ?_|fail));all_goals conv=>whnf)
 exact LeD.rfl
theorem or32 {a h:Nat} (ha:a<B32) (hh:h<B32):((BitVec.ofInt 64 (a:Int) ||| BitVec.ofInt 64 ((h * 4294967296:Nat):Int)).toNat:Int)=((a+B32 * h:Nat):Int):=by
 simp only[B32] at *
 rw[BitVec.ofInt_natCast,BitVec.ofInt_natCast,BitVec.toNat_or,BitVec.toNat_ofNat,BitVec.toNat_ofNat,Nat.mod_eq_of_lt (by omega),Nat.mod_eq_of_lt (by omega),Nat.or_comm]
 have:=Nat.shiftLeft_add_eq_or_of_lt (i:=32) (b:=a) (by omega) h
 rw[Nat.shiftLeft_eq] at this
 rw[← this];omega
theorem Uint64_p (n:Nat) (hn:n<18446744073709551616):FnP Tryz.prog gl 202 [.imm [fD,W n]] (.v (.int .u64 n)):=by
 by_cases h0:n=0
 ·subst h0
  simp only[W,ws_zero,wD,List.map]
  refine fnP_of_vc (nv:=9999) (cu:=[]) fits mixed Tryz.func202 rfl hoB rfl ?_
  ((repeat' ((conv=>whnf);first|exact .intro|refine .ya ?_|refine .na ?_|refine .ys ?_|refine .ns ?_|refine .neg (fun _=>?_) (fun _=>?_)|refine .mk (fun _=>?_) (fun _=>?_)|refine .mk ?_ ?_|refine AK ?_|refine And.intro (by first|(first|omega|(simp;done);done)|fail) ?_|fail));all_goals conv=>whnf)
  exact LeD.rfl
 by_cases h1:n<B32
 ·have e:ws n=[n]:=by rw[ws_pos h0,Nat.div_eq_of_lt h1,Nat.mod_eq_of_lt h1,ws_zero]
  simp only[W,e,wD,List.map]
  refine fnP_of_vc (nv:=9999) (cu:=[]) fits mixed Tryz.func202 rfl hoB rfl ?_
  ((repeat' ((conv=>whnf);first|exact .intro|refine .ya ?_|refine .na ?_|refine .ys ?_|refine .ns ?_|refine .neg (fun _=>?_) (fun _=>?_)|refine .mk (fun _=>?_) (fun _=>?_)|refine .mk ?_ ?_|refine AK ?_|refine And.intro (by first|(first|omega|(simp;done);done)|fail) ?_|fail));all_goals conv=>whnf)
  refine ⟨_,rfl,?_⟩
  ((repeat' ((conv=>whnf);first|exact .intro|refine .ya ?_|refine .na ?_|refine .ys ?_|refine .ns ?_|refine .neg (fun _=>?_) (fun _=>?_)|refine .mk (fun _=>?_) (fun _=>?_)|refine .mk ?_ ?_|refine AK ?_|refine And.intro (by first|(first|omega|(simp;done);done)|fail) ?_|fail));all_goals conv=>whnf)
  exact LeD.of (by rw[w64 hn];rfl)
 have h2:n / B32<B32:=by simp only[B32] at *;omega
 have h3:n % B32<B32:=Nat.mod_lt _ (by decide)
 have e:ws n=[n % B32,n / B32]:=by rw[ws_pos h0,ws_pos (n:=n / B32) (by simp only[B32] at *;omega),Nat.mod_eq_of_lt h2,Nat.div_eq_of_lt h2,ws_zero]
 have ec:n=n % B32+B32 * (n / B32):=(Nat.mod_add_div n B32).symm
 generalize n % B32=a at *
 generalize n / B32=b at *
 simp only[W,e,wD,List.map]
 refine fnP_of_vc (nv:=9999) (cu:=[]) fits mixed Tryz.func202 rfl hoB rfl ?_
 ((repeat' ((conv=>whnf);first|exact .intro|refine .ya ?_|refine .na ?_|refine .ys ?_|refine .ns ?_|refine .neg (fun _=>?_) (fun _=>?_)|refine .mk (fun _=>?_) (fun _=>?_)|refine .mk ?_ ?_|refine AK ?_|refine And.intro (by first|(first|omega|(simp;done);done)|fail) ?_|fail));all_goals conv=>whnf)
 refine ⟨_,rfl,?_⟩
 ((repeat' ((conv=>whnf);first|exact .intro|refine .ya ?_|refine .na ?_|refine .ys ?_|refine .ns ?_|refine .neg (fun _=>?_) (fun _=>?_)|refine .mk (fun _=>?_) (fun _=>?_)|refine .mk ?_ ?_|refine AK ?_|refine And.intro (by first|(first|omega|(simp;done);done)|fail) ?_|fail));all_goals conv=>whnf)
 refine ⟨_,rfl,?_⟩
 ((repeat' ((conv=>whnf);first|exact .intro|refine .ya ?_|refine .na ?_|refine .ys ?_|refine .ns ?_|refine .neg (fun _=>?_) (fun _=>?_)|refine .mk (fun _=>?_) (fun _=>?_)|refine .mk ?_ ?_|refine AK ?_|refine And.intro (by first|(first|omega|(simp;done);done)|fail) ?_|fail));all_goals conv=>whnf)
 refine LeD.of ?_
 show D.v (.int .u64 (IntKind.u64.wrap ((BitVec.ofInt 64 (IntKind.u64.wrap (a:Int)) ||| BitVec.ofInt 64 (IntKind.u64.wrap (IntKind.u64.wrap (b:Int) * 4294967296))).toNat:Int)))=_
 have h2':=h2
 have h3':=h3
 simp only[B32] at h2' h3'
 rw[w64 (x:=a) (by omega),w64 (x:=b) (by omega),show (b:Int) * 4294967296=((b * 4294967296:Nat):Int) by omega,w64 (x:=b * 4294967296) (by omega),or32 h3 h2,← ec,w64 hn]
theorem Int64_p (n:Nat) (hn:n<9223372036854775808):FnP Tryz.prog gl 165 [.imm [fD,W n]] (iD n):=by
 have hl:=Uint64_p (gl:=gl) n (by omega)
 refine fnP_of_vc (nv:=9999) (cu:=[]) fits mixed Tryz.func165 rfl hoB rfl ?_
 ((repeat' ((conv=>whnf);first|exact .intro|refine .ya ?_|refine .na ?_|refine .ys ?_|refine .ns ?_|refine .neg (fun _=>?_) (fun _=>?_)|refine .mk (fun _=>?_) (fun _=>?_)|refine .inl (.inl (X1 (hl) ?_))|refine .inl (X1 (hl) ?_)|refine X1 (hl) ?_|refine .mk ?_ ?_|refine AK ?_|refine And.intro (by first|(first|omega|(simp;done);done)|fail) ?_|fail));all_goals conv=>whnf)
 exact LeD.of (by rw[wrapI (by omega)];rfl)
end Go.Proofs.YtdpigpahfiachaaGreatDoor
end
