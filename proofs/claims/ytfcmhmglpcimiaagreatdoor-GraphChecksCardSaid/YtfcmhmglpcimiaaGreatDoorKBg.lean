/- Proved: a part of what the law is proved with (the reckoner, contracts of functions, plain laws). Conditions: as each says. -/
import Derived.Test.YtfcmhmglpcimiaaGreatDoorKBb
namespace Go.Proofs.YtfcmhmglpcimiaaGreatDoor
open Go Go.EYtfcmhmglpcimiaaGreatDoor
set_option maxRecDepth 100000
section
variable {gl:List (Nat×List D)}
theorem val_set {l:List Nat} {i d:Nat} (h:i<l.length):val (l.set i d)+B32 ^ i * l[i]=val l+B32 ^ i * d:=by
 have e1:val (l.set i d)=val (l.take i)+B32 ^ i * (d+B32 * val (l.drop (i+1))):=by
  rw[List.set_eq_take_append_cons_drop,if_pos h,val_app,List.length_take,Nat.min_eq_left (by omega)];rfl
 have e2:val l=val (l.take i)+B32 ^ i * (l[i]+B32 * val (l.drop (i+1))):=by
  conv=>lhs;rw[← List.take_append_drop i l,val_app,List.length_take,Nat.min_eq_left (by omega),List.drop_eq_getElem_cons h]
  rfl
 rw[e1,e2,Nat.mul_add,Nat.mul_add];omega
theorem set_dig {p:List Nat} {k x:Nat} (h:∀ d ∈ p,d<B32) (hx:x<B32):∀ d ∈ p.set k x,d<B32:=fun d hd=>by
 rcases List.mem_or_eq_of_mem_set hd with h1|h1
 ·exact h d h1
 ·rw[h1];exact hx
theorem set_drop {p q:List Nat} {k x:Nat} (h:p.drop k=q.drop k):(p.set k x).drop (k+1)=q.drop (k+1):=by
 rw[List.drop_set_of_lt (by omega),← List.drop_drop,← List.drop_drop,h]
theorem mul_step {p q:List Nat} {i j a b c t vb:Nat} (hk:i+j<p.length) (ht:t=c+(a * b+p[i+j])) (h:val p+B32 ^ (i+j) * c=val q+B32 ^ i * (a * vb)) :
 val (p.set (i+j) (t % B32))+B32 ^ (i+(j+1)) * (t / B32)=val q+B32 ^ i * (a * (vb+B32 ^ j * b)):=by
 have h1:=val_set (d:=t % B32) hk
 have h2:B32 ^ (i+(j+1)) * (t / B32)=B32 ^ (i+j) * (B32 * (t / B32)):=by rw[← Nat.add_assoc,Nat.pow_succ,Nat.mul_assoc]
 have h3:B32 ^ (i+j) * (t % B32)+B32 ^ (i+j) * (B32 * (t / B32))=B32 ^ (i+j) * c+(B32 ^ (i+j) * (a * b)+B32 ^ (i+j) * p[i+j]):=by
  rw[← Nat.mul_add,Nat.mod_add_div,ht,Nat.mul_add,Nat.mul_add]
 have h4:B32 ^ i * (a * (vb+B32 ^ j * b))=B32 ^ i * (a * vb)+B32 ^ (i+j) * (a * b):=by
  rw[Nat.mul_add,Nat.mul_add,Nat.pow_add,Nat.mul_assoc,Nat.mul_left_comm a]
 rw[h2,h4]
 omega
theorem mul_lt {a b c p:Nat} (ha:a<B32) (hb:b<B32) (hc:c<B32) (hp:p<B32):c+(a * b+p)<18446744073709551616:=by
 simp only[B32] at *
 have:a * b≤4294967295 * 4294967295:=Nat.mul_le_mul (by omega) (by omega)
 omega
theorem mul_d (m n:Nat) (hm:(ws m).length≤35184372088832) (hn:(ws n).length≤35184372088832):FnP Tryz.prog gl 127 [W m,W n] (W (m * n)):=by
 have wa:=wD_len (ws m)
 have wb:=wD_len (ws n)
 by_cases ha0:(ws m).length=0
 ·have h0:(((wD (ws m)).length:Nat):Int)=0:=by rw[wa,ha0];rfl
  have:m=0:=ws_nil.1 (List.eq_nil_of_length_eq_zero ha0)
  refine S0 Tryz.func127 rfl ?_
  ((repeat' ((conv=>whnf);first|exact .intro|refine G ?_|intro _|refine .mk ?_ ?_|refine AK ?_|refine AO ?_|fail));all_goals conv=>whnf)
  simp only[this,Nat.zero_mul,ws_zero,W]
  exact nilW_le 1
 have h0:¬ (((wD (ws m)).length:Nat):Int)=0:=by rw[wa];omega
 by_cases hb0:(ws n).length=0
 ·have h1:(((wD (ws n)).length:Nat):Int)=0:=by rw[wb,hb0];rfl
  have:n=0:=ws_nil.1 (List.eq_nil_of_length_eq_zero hb0)
  refine S0 Tryz.func127 rfl ?_
  ((repeat' ((conv=>whnf);first|exact .intro|refine G ?_|intro _|refine .mk ?_ ?_|refine AK ?_|refine AO ?_|fail));all_goals conv=>whnf)
  simp only[this,Nat.mul_zero,ws_zero,W]
  exact nilW_le 1
 have h1:¬ (((wD (ws n)).length:Nat):Int)=0:=by rw[wb];omega
 have e1:IntKind.i64.wrap ((((wD (ws m)).length:Nat):Int)+(((wD (ws n)).length:Nat):Int))=(((ws m).length+(ws n).length:Nat):Int):=by rw[wa,wb,wrapI (by omega)];omega
 refine S0 Tryz.func127 rfl ?_
 ((repeat' ((conv=>whnf);first|exact .intro|refine G ?_|intro _|(rw[e1])|refine .mk ?_ ?_|refine AK ?_|refine AO ?_|fail));all_goals conv=>whnf)
 refine ⟨⟨by omega,by omega,by show (4:Int) * _≤_;omega,by omega⟩,?_⟩
 ((repeat' ((conv=>whnf);first|exact .intro|refine G ?_|intro _|refine .mk ?_ ?_|refine AK ?_|refine AO ?_|fail));all_goals conv=>whnf)
 refine ⟨{ σ:=(Nat×List Nat),fr:=fun s=>[(6,.c (.d (iD s.1)))],ks:=[0],L:=fun s=>[(0,.rows 1 (wD s.2) 194)],ex:=0,I:=fun s=>s.2.length=(ws m).length+(ws n).length∧s.1≤(ws m).length∧(∀ d ∈ s.2,d<B32)∧val s.2=val ((ws m).take s.1) * n∧s.2.drop (s.1+(ws n).length)=List.replicate ((ws m).length - s.1) 0,μ:=fun s=>(ws m).length - s.1 },⟨(0,List.replicate ((ws m).length+(ws n).length) 0),⟨by simp,Nat.zero_le _,by simp,by rw[val_zeros];show 0=0 * n;omega,by simp⟩,?_⟩,?_⟩
 ·((repeat' first|exact rfl|((conv=>whnf);first|done|exact suL|refine And.intro ?_ ?_|fail));all_goals conv=>whnf)
  show List.replicate (((ws m).length+(ws n).length:Nat):Int).toNat _=wD (List.replicate ((ws m).length+(ws n).length) 0)
  rw[wD_rep,Int.toNat_natCast]
  rfl
 ·rintro ⟨i,q⟩ ⟨q1,q2,q3,q4,q5⟩
  simp only at q1 q2 q3 q4 q5
  ((repeat' ((conv=>whnf);first|exact .intro|refine G ?_|intro _|refine .mk ?_ ?_|refine AK ?_|refine AO ?_|fail));all_goals conv=>whnf)
  ·rename_i hx
   have hia:i<(ws m).length:=by rw[wa] at hx;exact Int.ofNat_lt.1 hx
   have ha:=ws_lt m _ (List.getElem_mem hia)
   refine ⟨{ σ:=(Nat×List Nat×Nat),fr:=fun s=>[(7,.c (.d (.v (.int .u64 s.2.2)))),(8,.c (.d (iD s.1)))],ks:=[0],L:=fun s=>[(0,.rows 1 (wD s.2.1) 194)],ex:=0,I:=fun s=>s.2.1.length=(ws m).length+(ws n).length∧s.1≤(ws n).length∧(∀ d ∈ s.2.1,d<B32)∧s.2.2<B32∧s.2.1.drop (i+s.1)=q.drop (i+s.1)∧val s.2.1+B32 ^ (i+s.1) * s.2.2=val q+B32 ^ i * ((ws m)[i] * val ((ws n).take s.1)),μ:=fun s=>(ws n).length - s.1 },⟨(0,q,0),⟨q1,Nat.zero_le _,q3,Nat.zero_lt_succ _,rfl,by simp[val]⟩,?_⟩,?_⟩
   ·((repeat' first|exact rfl|((conv=>whnf);first|done|exact suL|refine And.intro ?_ ?_|fail));all_goals conv=>whnf)
   ·rintro ⟨j,p,c⟩ ⟨p1,p2,p3,p4,p5,p6⟩
    simp only at p1 p2 p3 p4 p5 p6
    ((repeat' ((conv=>whnf);first|exact .intro|refine G ?_|intro _|refine .mk ?_ ?_|refine AK ?_|refine AO ?_|fail));all_goals conv=>whnf)
    ·rename_i hy
     have hjb:j<(ws n).length:=by rw[wb] at hy;exact Int.ofNat_lt.1 hy
     have hb:=ws_lt n _ (List.getElem_mem hjb)
     have hij:i+j<p.length:=by omega
     have hpd:=p3 _ (List.getElem_mem hij)
     refine ⟨_,wget hia,?_⟩
     ((repeat' ((conv=>whnf);first|exact .intro|refine G ?_|intro _|refine .mk ?_ ?_|refine AK ?_|refine AO ?_|fail));all_goals conv=>whnf)
     refine ⟨_,wget hjb,?_⟩
     ((repeat' ((conv=>whnf);first|exact .intro|refine G ?_|intro _|refine .mk ?_ ?_|refine AK ?_|refine AO ?_|fail));all_goals conv=>whnf)
     have eij:IntKind.i64.wrap ((i:Int)+(j:Int))=((i+j:Nat):Int):=by rw[wrapI (by omega)];omega
     have hidx:0≤IntKind.i64.wrap ((i:Int)+(j:Int))∧IntKind.i64.wrap ((i:Int)+(j:Int))<((wD p).length:Nat):=by rw[eij,wD_len];exact ⟨Int.natCast_nonneg _,Int.ofNat_lt.2 hij⟩
     have hget:(wD p)[(IntKind.i64.wrap ((i:Int)+(j:Int))).toNat]?=some [u32D p[i+j]]:=by rw[eij];exact wget hij
     refine ⟨hidx,?_⟩
     ((repeat' ((conv=>whnf);first|exact .intro|refine G ?_|intro _|refine .mk ?_ ?_|refine AK ?_|refine AO ?_|fail));all_goals conv=>whnf)
     refine ⟨_,hget,?_⟩
     ((repeat' ((conv=>whnf);first|exact .intro|refine G ?_|intro _|refine .mk ?_ ?_|refine AK ?_|refine AO ?_|fail));all_goals conv=>whnf)
     refine ⟨_,hget,?_⟩
     ((repeat' ((conv=>whnf);first|exact .intro|refine G ?_|intro _|refine .mk ?_ ?_|refine AK ?_|refine AO ?_|fail));all_goals conv=>whnf)
     obtain ⟨t,ht⟩:∃ t,t=c+((ws m)[i] * (ws n)[j]+p[i+j]):=⟨_,rfl⟩
     have htl:t<18446744073709551616:=ht ▸ mul_lt ha hb p4 hpd
     have et:IntKind.u64.wrap ((c:Int)+IntKind.u64.wrap (IntKind.u64.wrap (IntKind.u64.wrap ((ws m)[i]:Int) * IntKind.u64.wrap ((ws n)[j]:Int))+IntKind.u64.wrap (p[i+j]:Int)))=(t:Int):=by
      simp only[B32] at ha hb hpd p4
      rw[w64 (x:=(ws m)[i]) (by omega),w64 (x:=(ws n)[j]) (by omega),w64 (x:=p[i+j]) (by omega),← Int.natCast_mul,w64 (x:=(ws m)[i] * (ws n)[j]) (by omega),← Int.natCast_add,w64 (by omega),← Int.natCast_add,← ht,w64 htl]
     refine ⟨(j+1,p.set (i+j) (t % B32),t / B32),⟨⟨by simpa using p1,hjb,set_dig p3 (Nat.mod_lt _ (by decide)),by simp only[B32];omega,set_drop p5,?_⟩,by show (ws n).length - (j+1)<(ws n).length - j;omega⟩,?_⟩
     ·rw[val_take_succ hjb];exact mul_step hij ht p6
     ·((repeat' first|exact rfl|((conv=>whnf);first|done|exact suL|refine And.intro ?_ ?_|fail));all_goals conv=>whnf)
      ·exact ceqK (show (IntKind.u64.wrap ((c:Int)+IntKind.u64.wrap (IntKind.u64.wrap (IntKind.u64.wrap ((ws m)[i]:Int) * IntKind.u64.wrap ((ws n)[j]:Int))+IntKind.u64.wrap (p[i+j]:Int)))).fdiv (2 ^ min (Int.toNat 32) IntKind.u64.bits)=((t / B32:Nat):Int) by rw[et,hi32])
      ·exact ceq (show IntKind.i64.wrap ((j:Int)+1)=((j+1:Nat):Int) by rw[wrapI (by omega)];rfl)
      ·show List.set (wD p) (IntKind.i64.wrap ((i:Int)+(j:Int))).toNat [D.v (.int .u32 (IntKind.u32.wrap (IntKind.u64.wrap ((c:Int)+IntKind.u64.wrap (IntKind.u64.wrap (IntKind.u64.wrap ((ws m)[i]:Int) * IntKind.u64.wrap ((ws n)[j]:Int))+IntKind.u64.wrap (p[i+j]:Int))))))]=wD (p.set (i+j) (t % B32))
       rw[eij,et,lo32,wset]
    ·rename_i hy
     have hj:j=(ws n).length:=by rw[wb] at hy;exact Nat.le_antisymm p2 (Nat.le_of_not_lt fun h=>hy (Int.ofNat_lt.2 h))
     subst hj
     have hk:i+(ws n).length<p.length:=by omega
     have eil:IntKind.i64.wrap ((i:Int)+(((wD (ws n)).length:Nat):Int))=((i+(ws n).length:Nat):Int):=by rw[wb,wrapI (by omega)];omega
     refine ⟨⟨by rw[eil];exact Int.natCast_nonneg _,by rw[eil,wD_len];exact Int.ofNat_lt.2 hk⟩,?_⟩
     ((repeat' ((conv=>whnf);first|exact .intro|refine G ?_|intro _|refine .mk ?_ ?_|refine AK ?_|refine AO ?_|fail));all_goals conv=>whnf)
     refine ⟨_,by rw[eil];exact wget hk,?_⟩
     ((repeat' ((conv=>whnf);first|exact .intro|refine G ?_|intro _|refine .mk ?_ ?_|refine AK ?_|refine AO ?_|fail));all_goals conv=>whnf)
     have hp0:p[i+(ws n).length]=0:=by
      have h2:(p.drop (i+(ws n).length))[0]?=some 0:=by
       rw[p5,q5,List.getElem?_replicate,if_pos (by omega)]
      rw[List.getElem?_drop,Nat.add_zero,List.getElem?_eq_getElem hk] at h2
      exact Option.some.inj h2
     have hv:=val_set (d:=c) hk
     rw[hp0,Nat.mul_zero,Nat.add_zero,p6,val_take_ge (Nat.le_refl _),val_ws] at hv
     refine ⟨(i+1,p.set (i+(ws n).length) c),⟨⟨by simpa using p1,hia,set_dig p3 p4,?_,?_⟩,by show (ws m).length - (i+1)<(ws m).length - i;omega⟩,?_⟩
     ·rw[hv,q4,val_take_succ hia,Nat.add_mul,Nat.mul_assoc]
     ·rw[show i+1+(ws n).length=i+(ws n).length+1 by omega,set_drop p5,← List.drop_drop,q5,List.drop_replicate]
      congr 1
     ·((repeat' first|exact rfl|((conv=>whnf);first|done|exact suL|refine And.intro ?_ ?_|fail));all_goals conv=>whnf)
      ·exact ceq (show IntKind.i64.wrap ((i:Int)+1)=((i+1:Nat):Int) by rw[wrapI (by omega)];rfl)
      ·show List.set (wD p) (IntKind.i64.wrap ((i:Int)+(((wD (ws n)).length:Nat):Int))).toNat [D.v (.int .u32 (IntKind.u32.wrap (c:Int)))]=wD (p.set (i+(ws n).length) c)
       rw[eil,lo32,Nat.mod_eq_of_lt p4,wset]
  ·rename_i hx
   have hi:i=(ws m).length:=by rw[wa] at hx;exact Nat.le_antisymm q2 (Nat.le_of_not_lt fun h=>hx (Int.ofNat_lt.2 h))
   subst hi
   have ht:=trim_d (gl:=gl) q q3 (by unfold maxLen;omega)
   rw[q4,val_take_ge (Nat.le_refl _),val_ws] at ht
   ((repeat' ((conv=>whnf);first|exact .intro|refine G ?_|intro _|refine C2 ht ?_|refine .mk ?_ ?_|refine AK ?_|refine AO ?_|fail));all_goals conv=>whnf)
   exact LeD.rfl
end
section
variable {gl:List (Nat×List D)}
abbrev fD:D:=.v (.bool false)
theorem give_fl (m:Nat) (u:Value) (l:List (List D))  : Go.EYtfcmhmglpcimiaaGreatDoor.Fn Tryz.prog gl 126 [.c (.ptr 0 0),.c (.d fD),.c (.d (W m))] [(0,.var [.d (.v u),.d (.lst 1 l)] 178)] 1 (.ret (.c (.ptr 0 0))) [(0,.var [.d fD,.d (W m)] 178)] 1 []:=by
 refine S1 Tryz.func126 rfl ?_
 ((repeat' ((conv=>whnf);first|exact .intro|refine G ?_|intro _|refine .mk ?_ ?_|refine AK ?_|refine AO ?_|fail));all_goals conv=>whnf)
 ((repeat' first|exact rfl|((conv=>whnf);first|done|exact suL|refine And.intro ?_ ?_|fail));all_goals conv=>whnf)
theorem give_bv (m:Nat) (u:Value) (v:Value) {p:Prop} (i:Decidable p) (h:¬ p):Go.EYtfcmhmglpcimiaaGreatDoor.Fn Tryz.prog gl 126 [.c (.ptr 0 0),.c (.d (.b p i)),.c (.d (W m))] [(0,.var [.d (.v u),.d (.v v)] 178)] 1 (.ret (.c (.ptr 0 0))) [(0,.var [.d fD,.d (W m)] 178)] 1 []:=by
 refine S1 Tryz.func126 rfl ?_
 ((repeat' ((conv=>whnf);first|exact .intro|refine G ?_|intro _|refine .mk ?_ ?_|refine AK ?_|refine AO ?_|fail));all_goals conv=>whnf)
 ((repeat' first|exact rfl|((conv=>whnf);first|done|exact suL|refine And.intro ?_ ?_|fail));all_goals conv=>whnf)
theorem give_bl (m:Nat) (u:Value) (l:List (List D)) {p:Prop} (i:Decidable p) (h:¬ p):Go.EYtfcmhmglpcimiaaGreatDoor.Fn Tryz.prog gl 126 [.c (.ptr 0 0),.c (.d (.b p i)),.c (.d (W m))] [(0,.var [.d (.v u),.d (.lst 1 l)] 178)] 1 (.ret (.c (.ptr 0 0))) [(0,.var [.d fD,.d (W m)] 178)] 1 []:=by
 refine S1 Tryz.func126 rfl ?_
 ((repeat' ((conv=>whnf);first|exact .intro|refine G ?_|intro _|refine .mk ?_ ?_|refine AK ?_|refine AO ?_|fail));all_goals conv=>whnf)
 ((repeat' first|exact rfl|((conv=>whnf);first|done|exact suL|refine And.intro ?_ ?_|fail));all_goals conv=>whnf)
theorem SetInt64_p (n:Nat) (h:n<9223372036854775808) (u v:Value):Go.EYtfcmhmglpcimiaaGreatDoor.Fn Tryz.prog gl 128 [.c (.ptr 0 0),.c (.d (iD n))] [(0,.var [.d (.v u),.d (.v v)] 178)] 1 (.ret (.c (.ptr 0 0))) [(0,.var [.d fD,.d (W n)] 178)] 1 []:=by
 have h0:¬ (n:Int)<0:=by omega
 have hw:FnP Tryz.prog gl 148 [.v (.int .u64 (IntKind.u64.wrap (n:Int)))] (W n):=by rw[w64 (by omega)];exact words_d n (by omega)
 refine S1 Tryz.func128 rfl ?_
 ((repeat' ((conv=>whnf);first|exact .intro|refine G ?_|intro _|refine C5 (give_bv n u v _ h0) [0] ?_|refine C1 hw ?_|refine .mk ?_ ?_|refine AK ?_|refine AO ?_|fail));all_goals conv=>whnf)
 ((repeat' first|exact rfl|((conv=>whnf);first|done|exact suL|refine And.intro ?_ ?_|fail));all_goals conv=>whnf)
theorem NewInt_p (n:Nat) (h:n<9223372036854775808):FnP Tryz.prog gl 91 [iD n] (.imm [fD,W n]):=by
 refine S0 Tryz.func91 rfl ?_
 ((repeat' ((conv=>whnf);first|exact .intro|refine G ?_|intro _|refine C5 (SetInt64_p n h (.bool false) (.slice none 0 0)) [0] ?_|refine .mk ?_ ?_|refine AK ?_|refine AO ?_|fail));all_goals conv=>whnf)
 exact LeD.rfl
theorem Mul_p (m n:Nat) (hm:(ws m).length≤35184372088832) (hn:(ws n).length≤35184372088832):Go.EYtfcmhmglpcimiaaGreatDoor.Fn Tryz.prog gl 90 [.c (.ptr 0 0),.c (.ptr 0 0),.c (.d (.imm [fD,W n]))] [(0,.var [.d fD,.d (W m)] 178)] 1 (.ret (.c (.ptr 0 0))) [(0,.var [.d fD,.d (W (m * n))] 178)] 1 []:=by
 have hx:=mul_d (gl:=gl) m n hm hn
 refine S1 Tryz.func90 rfl ?_
 ((repeat' ((conv=>whnf);first|exact .intro|refine G ?_|intro _|refine C5 (give_fl (m * n) (.bool false) (wD (ws m))) [0] ?_|refine .inr (X5 ((give_bl (m * n) (.bool false) (wD (ws m)) _ (by decide)).r [0] _) ?_)|refine .inl (.inr (X5 ((give_bl (m * n) (.bool false) (wD (ws m)) _ (by decide)).r [0] _) ?_))|refine .inl (X5 ((give_bl (m * n) (.bool false) (wD (ws m)) _ (by decide)).r [0] _) ?_)|refine C1 hx ?_|refine .mk ?_ ?_|refine AK ?_|refine AO ?_|fail));all_goals conv=>whnf)
 ((repeat' first|exact rfl|((conv=>whnf);first|done|exact suL|refine And.intro ?_ ?_|fail));all_goals conv=>whnf)
theorem sum_p (m n:Nat) (hm:(ws m).length≤35184372088832) (hn:(ws n).length≤35184372088832):FnP Tryz.prog gl 129 [fD,W m,fD,W n] (.tup [fD,W (m+n)]):=by
 have hx:=add_d (gl:=gl) m n (by omega) (by omega)
 refine S0 Tryz.func129 rfl ?_
 ((repeat' ((conv=>whnf);first|exact .intro|refine G ?_|intro _|refine C1 hx ?_|refine .mk ?_ ?_|refine AK ?_|refine AO ?_|fail));all_goals conv=>whnf)
 exact LeD.rfl
theorem Add_p (m n:Nat) (hm:(ws m).length≤35184372088832) (hn:(ws n).length≤35184372088832):Go.EYtfcmhmglpcimiaaGreatDoor.Fn Tryz.prog gl 92 [.c (.ptr 0 0),.c (.ptr 0 0),.c (.d (.imm [fD,W n]))] [(0,.var [.d fD,.d (W m)] 178)] 1 (.ret (.c (.ptr 0 0))) [(0,.var [.d fD,.d (W (m+n))] 178)] 1 []:=by
 have hx:=sum_p (gl:=gl) m n hm hn
 refine S1 Tryz.func92 rfl ?_
 ((repeat' ((conv=>whnf);first|exact .intro|refine G ?_|intro _|refine C5 (give_fl (m+n) (.bool false) (wD (ws m))) [0] ?_|refine C1 hx ?_|refine .mk ?_ ?_|refine AK ?_|refine AO ?_|fail));all_goals conv=>whnf)
 ((repeat' first|exact rfl|((conv=>whnf);first|done|exact suL|refine And.intro ?_ ?_|fail));all_goals conv=>whnf)
theorem IsInt64_p (n:Nat) (hn:(ws n).length≤35184372088832):FnP Tryz.prog gl 131 [.imm [fD,W n]] (.b (n<9223372036854775808) inferInstance):=by
 have hl:=length_d (gl:=gl) n (by omega)
 have hb:=blen_le (n:=n) (k:=63)
 refine S0 Tryz.func131 rfl ?_
 ((repeat' ((conv=>whnf);first|exact .intro|refine G ?_|intro _|refine C1 hl ?_|refine .mk ?_ ?_|refine AK ?_|refine AO ?_|fail));all_goals conv=>whnf)
 all_goals first|exact LeD.bt (by omega)|exact LeD.bf (by omega)
theorem Fits_p (n:Nat) (hn:(ws n).length≤35184372088832):FnP Tryz.prog gl 94 [.imm [fD,W n]] (.b (n<9223372036854775808) inferInstance):=by
 have hl:=IsInt64_p (gl:=gl) n (by omega)
 refine S0 Tryz.func94 rfl ?_
 ((repeat' ((conv=>whnf);first|exact .intro|refine G ?_|intro _|refine C1 hl ?_|refine .mk ?_ ?_|refine AK ?_|refine AO ?_|fail));all_goals conv=>whnf)
 exact LeD.rfl
theorem or32 {a h:Nat} (ha:a<B32) (hh:h<B32):((BitVec.ofInt 64 (a:Int) ||| BitVec.ofInt 64 ((h * 4294967296:Nat):Int)).toNat:Int)=((a+B32 * h:Nat):Int):=by
 simp only[B32] at *
 rw[BitVec.ofInt_natCast,BitVec.ofInt_natCast,BitVec.toNat_or,BitVec.toNat_ofNat,BitVec.toNat_ofNat,Nat.mod_eq_of_lt (by omega),Nat.mod_eq_of_lt (by omega),Nat.or_comm]
 have:=Nat.shiftLeft_add_eq_or_of_lt (i:=32) (b:=a) (by omega) h
 rw[Nat.shiftLeft_eq] at this
 rw[← this];omega
theorem Uint64_p (n:Nat) (hn:n<18446744073709551616):FnP Tryz.prog gl 132 [.imm [fD,W n]] (.v (.int .u64 n)):=by
 by_cases h0:n=0
 ·subst h0
  simp only[W,ws_zero,wD,List.map]
  refine S0 Tryz.func132 rfl ?_
  ((repeat' ((conv=>whnf);first|exact .intro|refine G ?_|intro _|refine .mk ?_ ?_|refine AK ?_|refine AO ?_|fail));all_goals conv=>whnf)
  exact LeD.rfl
 by_cases h1:n<B32
 ·have e:ws n=[n]:=by rw[ws_pos h0,Nat.div_eq_of_lt h1,Nat.mod_eq_of_lt h1,ws_zero]
  simp only[W,e,wD,List.map]
  refine S0 Tryz.func132 rfl ?_
  ((repeat' ((conv=>whnf);first|exact .intro|refine G ?_|intro _|refine .mk ?_ ?_|refine AK ?_|refine AO ?_|fail));all_goals conv=>whnf)
  refine ⟨_,rfl,?_⟩
  ((repeat' ((conv=>whnf);first|exact .intro|refine G ?_|intro _|refine .mk ?_ ?_|refine AK ?_|refine AO ?_|fail));all_goals conv=>whnf)
  exact LeD.of (by rw[w64 hn];rfl)
 have h2:n / B32<B32:=by simp only[B32] at *;omega
 have h3:n % B32<B32:=Nat.mod_lt _ (by decide)
 have e:ws n=[n % B32,n / B32]:=by rw[ws_pos h0,ws_pos (n:=n / B32) (by simp only[B32] at *;omega),Nat.mod_eq_of_lt h2,Nat.div_eq_of_lt h2,ws_zero]
 have ec:n=n % B32+B32 * (n / B32):=(Nat.mod_add_div n B32).symm
 generalize n % B32=a at *
 generalize n / B32=b at *
 simp only[W,e,wD,List.map]
 refine S0 Tryz.func132 rfl ?_
 ((repeat' ((conv=>whnf);first|exact .intro|refine G ?_|intro _|refine .mk ?_ ?_|refine AK ?_|refine AO ?_|fail));all_goals conv=>whnf)
 refine ⟨_,rfl,?_⟩
 ((repeat' ((conv=>whnf);first|exact .intro|refine G ?_|intro _|refine .mk ?_ ?_|refine AK ?_|refine AO ?_|fail));all_goals conv=>whnf)
 refine ⟨_,rfl,?_⟩
 ((repeat' ((conv=>whnf);first|exact .intro|refine G ?_|intro _|refine .mk ?_ ?_|refine AK ?_|refine AO ?_|fail));all_goals conv=>whnf)
 refine LeD.of ?_
 show D.v (.int .u64 (IntKind.u64.wrap ((BitVec.ofInt 64 (IntKind.u64.wrap (a:Int)) ||| BitVec.ofInt 64 (IntKind.u64.wrap (IntKind.u64.wrap (b:Int) * 4294967296))).toNat:Int)))=_
 have h2':=h2
 have h3':=h3
 simp only[B32] at h2' h3'
 rw[w64 (x:=a) (by omega),w64 (x:=b) (by omega),show (b:Int) * 4294967296=((b * 4294967296:Nat):Int) by omega,w64 (x:=b * 4294967296) (by omega),or32 h3 h2,← ec,w64 hn]
theorem Int64_p (n:Nat) (hn:n<9223372036854775808):FnP Tryz.prog gl 95 [.imm [fD,W n]] (iD n):=by
 have hl:=Uint64_p (gl:=gl) n (by omega)
 refine S0 Tryz.func95 rfl ?_
 ((repeat' ((conv=>whnf);first|exact .intro|refine G ?_|intro _|refine C1 hl ?_|refine .mk ?_ ?_|refine AK ?_|refine AO ?_|fail));all_goals conv=>whnf)
 exact LeD.of (by rw[wrapI (by omega)];rfl)
end
section
variable {gl:List (Nat×List D)}
def bD (l:List UInt8):List (List D):=l.map u8D
theorem bD_len (l:List UInt8):(bD l).length=l.length:=List.length_map ..
theorem bD_app (l:List UInt8) (x:UInt8):bD (l++[x])=bD l++[u8D x]:=List.map_append ..
def Turned (l p:List UInt8) (k:Nat):Prop:=p.length=l.length∧2 * k≤l.length∧∀ x,x<l.length→p[x]?=if x<k∨l.length≤x+k then l[l.length - 1 - x]? else l[x]?
theorem Turned.zero (l:List UInt8):Turned l l 0:=⟨rfl,Nat.zero_le _,fun x hx=>by rw[if_neg (by omega)]⟩
theorem Turned.step {l p:List UInt8} {k:Nat} (h:Turned l p k) (hk:k<l.length - 1 - k) (h1:k<p.length) (h2:l.length - 1 - k<p.length):Turned l ((p.set k p[l.length - 1 - k]).set (l.length - 1 - k) p[k]) (k+1):=by
 obtain ⟨a,b,c⟩:=h
 refine ⟨by simpa using a,by omega,fun x hx=>?_⟩
 have ck:=c k (by omega)
 have cj:=c (l.length - 1 - k) (by omega)
 rw[if_neg (by omega),List.getElem?_eq_getElem h1] at ck
 rw[if_neg (by omega),List.getElem?_eq_getElem h2] at cj
 rw[List.getElem?_set,List.getElem?_set]
 by_cases e1:l.length - 1 - k=x
 ·rw[if_pos e1,if_pos (by simp;omega),if_pos (by omega),ck,show l.length - 1 - x=k by omega]
 ·rw[if_neg e1]
  by_cases e2:k=x
  ·subst e2
   rw[if_pos rfl,if_pos h1,if_pos (by omega),cj]
  ·rw[if_neg e2,c x hx]
   by_cases e3:x<k∨l.length≤x+k
   ·rw[if_pos e3,if_pos (by omega)]
   ·rw[if_neg e3,if_neg (by omega)]
theorem Turned.done {l p:List UInt8} {k:Nat} (h:Turned l p k) (hk:¬ k<l.length - 1 - k):p=l.reverse:=by
 obtain ⟨a,b,c⟩:=h
 refine List.ext_getElem? fun x=>?_
 rcases Nat.lt_or_ge x l.length with hx|hx
 ·rw[c x hx,List.getElem?_reverse hx]
  split
  ·rfl
  ·rw[show l.length - 1 - x=x by omega]
 ·rw[List.getElem?_eq_none (by omega),List.getElem?_eq_none (by simpa using hx)]
end
section
variable {gl:List (Nat×List D)}
theorem rv_lt {l:List UInt8}:∀ {k:Nat},k≤l.length→(∀ d ∈ l.take k,isDig d)→rv l k<10 ^ k
 | 0,_,_=>by show 0<1;omega
 | k+1,h,hd=>by
  have hk:k<l.length:=h
  have h1:=rv_lt (l:=l) (k:=k) (by omega) fun d hx=>hd d (by rw[List.take_succ_eq_append_getElem hk];exact List.mem_append_left _ hx)
  have h2:isDig l[k]:=hd _ (by rw[List.take_succ_eq_append_getElem hk];exact List.mem_append_right _ (List.mem_singleton_self _))
  rw[rv_succ hk,Nat.pow_succ]
  obtain ⟨h3,h4⟩:=h2
  omega
theorem ws_rv {l:List UInt8} {k:Nat} (hk:k≤l.length) (hd:∀ d ∈ l.take k,isDig d):(ws (rv l k)).length≤(k+7) / 8:=by
 refine ws_len_le (Nat.lt_of_lt_of_le (rv_lt hk hd) ?_)
 have h1:10 ^ k≤16 ^ k:=Nat.pow_le_pow_left (by decide) _
 have h2:16 ^ k≤16 ^ (8 * ((k+7) / 8)):=Nat.pow_le_pow_right (by decide) (by omega)
 rw[Nat.pow_mul] at h2
 exact Nat.le_trans h1 h2
theorem nilW0 {L:List (Nat×Blk)}:LeC L (.d (.v (.slice none 0 0))) (.d (W 0)):=by
 show LeD _ _
 rw[W,ws_zero];exact nilW_le 1
theorem ws10 {n k:Nat} (h:n<10 ^ k):(ws n).length≤(k+7) / 8:=by
 refine ws_len_le (Nat.lt_of_lt_of_le h ?_)
 have h1:10 ^ k≤16 ^ k:=Nat.pow_le_pow_left (by decide) _
 have h2:16 ^ k≤16 ^ (8 * ((k+7) / 8)):=Nat.pow_le_pow_right (by decide) (by omega)
 rw[Nat.pow_mul] at h2
 exact Nat.le_trans h1 h2
abbrev wholeC (s:List UInt8):Prop:=(∀ d ∈ s,isDig d)∧rv s s.length<9223372036854775808
theorem Whole_p (s:List UInt8) (h0:s≠[]) (h1:¬ (s.head?=some 48∧s≠[48])) (hs:s.length≤140737488355328):FnP Tryz.prog gl 79 [.str s,fD] (if wholeC s then .tup [iD (rv s s.length),.v (.bool true)] else .tup [iD 0,fD]):=by
 obtain ⟨a,l,rfl⟩:=List.exists_cons_of_ne_nil h0
 have h10:=NewInt_p (gl:=gl) 10 (by decide)
 have hw10:(ws 10).length≤35184372088832:=Nat.le_trans (ws_len_le (k:=1) (by decide)) (by decide)
 have hmax:(a::l).length≤maxLen:=by unfold maxLen;omega
 have key:((((a::l).getD (Int.toNat 0) 0).toNat:Int)=48∧a::l=(⟨#[48]⟩:ByteArray).data.toList)∨¬ (((a::l).getD (Int.toNat 0) 0).toNat:Int)=48:=by
  by_cases ha:a=48
  ·left
   subst ha
   refine ⟨rfl,?_⟩
   by_cases hl:l=[]
   ·rw[hl]
   ·exact absurd ⟨rfl,fun e=>hl (List.cons.inj e).2⟩ h1
  ·right
   intro e
   exact ha (UInt8.toNat_inj.1 (show a.toNat=(48:UInt8).toNat from Int.ofNat.inj e))
 have fin:∀ hA:True,True:=fun _=>trivial
 rcases key with ⟨hA,hB⟩|hA
 all_goals
  refine S0 Tryz.func79 rfl ?_
  ((repeat' ((conv=>whnf);first|exact .intro|refine G ?_|intro _|refine C1 h10 ?_|refine .mk ?_ ?_|refine H ?_|fail));all_goals conv=>whnf)
  refine ⟨{ σ:=Nat,fr:=fun k=>[(8,.c (.d (iD k)))],ks:=[0],L:=fun k=>[(0,.var [.d fD,.d (W (rv (a::l) k))] 178)],ex:=0,I:=fun k=>k≤(a::l).length∧∀ d ∈ (a::l).take k,isDig d,μ:=fun k=>(a::l).length - k },⟨0,⟨Nat.zero_le _,by simp⟩,?_⟩,fun (k:Nat) hk=>?_⟩
  ·((repeat' first|exact rfl|((conv=>whnf);first|done|exact suL|refine And.intro ?_ ?_|fail));all_goals conv=>whnf)
   exact .inr (.inr (.inr nilW0))
  ·obtain ⟨hk1,hk2⟩:=hk
   have hwk:=ws_rv hk1 hk2
   by_cases hlt:k<(a::l).length
   ·have hkl:(k:Int)<(((a::l).length:Nat):Int):=Int.ofNat_lt.2 hlt
    have eg:(a::l).getD ((k:Int)).toNat 0=(a::l)[k]:=by rw[Int.toNat_natCast,List.getD,List.getElem?_eq_getElem hlt];rfl
    have hmem:=List.getElem_mem hlt
    by_cases hlo:(((a::l).getD ((k:Int)).toNat 0).toNat:Int)<48
    ·((repeat' ((conv=>whnf);first|exact .intro|refine G ?_|intro _|refine C1 h10 ?_|refine .mk ?_ ?_|refine H ?_|fail));all_goals conv=>whnf)
     exact LeD.ite_neg (fun hh=>by have:=(hh.1 _ hmem).1;rw[← eg] at this;omega) LeD.rfl
    by_cases hhi:57<(((a::l).getD ((k:Int)).toNat 0).toNat:Int)
    ·((repeat' ((conv=>whnf);first|exact .intro|refine G ?_|intro _|refine C1 h10 ?_|refine .mk ?_ ?_|refine H ?_|fail));all_goals conv=>whnf)
     exact LeD.ite_neg (fun hh=>by have:=(hh.1 _ hmem).2;rw[← eg] at this;omega) LeD.rfl
    have hdig:isDig (a::l)[k]:=by rw[← eg];exact ⟨by omega,by omega⟩
    have hd2:∀ d ∈ (a::l).take (k+1),isDig d:=fun d hd=>by
     rw[List.take_succ_eq_append_getElem hlt] at hd
     rcases List.mem_append.1 hd with hd|hd
     ·exact hk2 d hd
     ·rw[List.mem_singleton.1 hd];exact hdig
    have hM:=Mul_p (gl:=gl) (rv (a::l) k) 10 (by omega) hw10
    have hA2:=Add_p (gl:=gl) (rv (a::l) k * 10) ((a::l)[k].toNat - 48) (by
     have h1:=rv_lt hk1 hk2
     have:=ws10 (n:=rv (a::l) k * 10) (k:=k+1) (by rw[Nat.pow_succ];omega)
     omega) (Nat.le_trans (ws_len_le (k:=1) (by have:=hdig.2;simp only[B32];omega)) (by decide))
    have hNI:FnP Tryz.prog gl 91 [.v (.int .i64 (IntKind.i64.wrap (IntKind.i64.wrap (((a::l).getD ((k:Int)).toNat 0).toNat:Int) - 48)))] (.imm [fD,W ((a::l)[k].toNat - 48)]):=by
     rw[wrapI (n:=(((a::l).getD ((k:Int)).toNat 0).toNat:Int)) (by omega),wrapI (by omega),show ((((a::l).getD ((k:Int)).toNat 0).toNat:Int) - 48)=(((a::l)[k].toNat - 48:Nat):Int) by rw[← eg];omega]
     exact NewInt_p _ (by have:=hdig.2;omega)
    ((repeat' ((conv=>whnf);first|exact .intro|refine G ?_|intro _|refine C5 hM [0] ?_|refine C5 hA2 [0] ?_|refine C1 h10 ?_|refine C1 hNI ?_|refine .mk ?_ ?_|refine H ?_|fail));all_goals conv=>whnf)
    refine ⟨k+1,⟨⟨hlt,hd2⟩,by show (a::l).length - (k+1)<(a::l).length - k;omega⟩,?_⟩
    ((repeat' first|exact rfl|((conv=>whnf);first|done|exact suL|refine And.intro ?_ ?_|fail));all_goals conv=>whnf)
    ·exact ceq (show IntKind.i64.wrap ((k:Int)+1)=((k+1:Nat):Int) by rw[wrapI (by omega)];rfl)
    ·exact .inr (.inl (by rw[rv_succ hlt]))
   ·have hkl:¬ (k:Int)<(((a::l).length:Nat):Int):=fun h=>hlt (Int.ofNat_lt.1 h)
    have hke:k=(a::l).length:=by omega
    rw[hke,List.take_length] at hk2
    have hwk2:(ws (rv (a::l) k)).length≤35184372088832:=by omega
    have hF:=Fits_p (gl:=gl) (rv (a::l) k) hwk2
    by_cases hfit:rv (a::l) k<9223372036854775808
    ·have hI:=Int64_p (gl:=gl) (rv (a::l) k) hfit
     ((repeat' ((conv=>whnf);first|exact .intro|refine G ?_|intro _|refine C1 hF ?_|refine C1 hI ?_|refine .mk ?_ ?_|refine H ?_|fail));all_goals conv=>whnf)
     rw[hke]
     exact LeD.ite_pos ⟨hk2,hke ▸ hfit⟩ LeD.rfl
    ·((repeat' ((conv=>whnf);first|exact .intro|refine G ?_|intro _|refine C1 hF ?_|refine .mk ?_ ?_|refine H ?_|fail));all_goals conv=>whnf)
     exact LeD.ite_neg (fun hh=>hfit (hke ▸ hh.2)) LeD.rfl
end
end Go.Proofs.YtfcmhmglpcimiaaGreatDoor
