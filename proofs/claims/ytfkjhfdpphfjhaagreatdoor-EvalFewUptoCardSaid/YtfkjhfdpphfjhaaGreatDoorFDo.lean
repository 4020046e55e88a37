/- Proved: a part of what the law is proved with (the reckoner, contracts of functions, plain laws). Conditions: as each says. -/
import Derived.Test.YtfkjhfdpphfjhaaGreatDoorFDm
import Derived.Test.YtfkjhfdpphfjhaaGreatDoorFTf
namespace Go.Proofs.YtfkjhfdpphfjhaaGreatDoor
set_option maxRecDepth 100000
section
open Go Go.RowKit Go.EYtfkjhfdpphfjhaaGreatDoor
set_option maxHeartbeats 4000000
variable {gl:List (Nat×List D)}
abbrev vlR' (v:Vl):List D:=[iD v.k,iD v.n,.str v.s]
theorem sgn_cv (n:Int):cv 1 n [] 1 0 []=sgnZ n:=by
 rw[cv_eq]
 unfold sgnZ cmpZ
 rw[show cmpS [] []=0 from rfl]
 repeat' split
 all_goals omega
theorem Mod_v (te:TypeId) (pe:Value) {a b:Vl} (ha:a.ok) (hb:b.ok):FnP Tryz.prog (glV te pe) 180 [a.d,b.d] (modV a b).d:=modN te pe (numV_ok ha).1 (numV_ok hb).1 (Number_d te pe a.k a.n a.s (v_len ha)) (Number_d te pe b.k b.n b.s (v_len hb)) _ rfl
section
variable (te:TypeId) (pe:Value) (hV:Has gl (glV te pe))
include hV
theorem numC {v:Vl} (hv:v.ok):FnP Tryz.prog gl 106 [v.d] (numV v).d:=FnP.moreG (Number_d te pe v.k v.n v.s (v_len hv)) hV
theorem truC {v:Vl} (hv:v.ok):FnP Tryz.prog gl 175 [v.d] (truV v).d:=FnP.moreG (Truth_d te pe hv.1) hV
theorem reck_not {v:Vl} (hv:v.ok):FnP Tryz.prog gl 117 [.str nNOT,.lst 3 [vlR' v]] (reckV nNOT [v]).d:=by
 have e:reckV nNOT [v]=if (truV v).k=4 then truV v else ⟨3,1 - (truV v).n,[]⟩:=rfl
 have c1:=numC te pe hV hv
 have c2:=truC te pe hV hv
 have hx:=truV_ok hv
 have hn:=tru_n hv
 rw[e]
 generalize numV v=y at *
 generalize truV v=x at *
 have g1:([vlR' v]:List (List D))[(0:Int).toNat]?=some [iD v.k,iD v.n,.str v.s]:=rfl
 have c3:FnP Tryz.prog gl 107 [x.d] (.b (x.k=4) inferInstance):=bad_d
 by_cases h4:x.k=4
 ·rw[if_pos h4]
  refine S0 Tryz.func117 rfl ?_
  ((repeat' ((conv=>whnf);first|exact .intro|refine G ?_|intro _|refine C1 c1 ?_|refine C1 c2 ?_|refine C1 c3 ?_|(refine ⟨Int.le_refl _,_,g1,?_⟩)|refine .mk ?_ ?_|refine H ?_|fail));all_goals conv=>whnf)
  all_goals exact LeD.rfl
 ·rw[if_neg h4]
  have h3:x.k=3:=by omega
  have hs:x.s=[]:=by
   rcases hx.1.1 with h|h|h|h|h <;> simp_all
  have e1:IntKind.i64.wrap (1 - x.n)=1 - x.n:=wrapI (by have:=hn h4;omega)
  refine S0 Tryz.func117 rfl ?_
  ((repeat' ((conv=>whnf);first|exact .intro|refine G ?_|intro _|refine C1 c1 ?_|refine C1 c2 ?_|refine C1 c3 ?_|(first|refine ⟨Int.le_refl _,_,g1,?_⟩|rw[e1])|refine .mk ?_ ?_|refine H ?_|fail));all_goals conv=>whnf)
  all_goals exact LeD.of (by show D.agg [iD x.k,iD (1 - x.n),.str x.s]=D.agg [iD 3,iD (1 - x.n),.str []];rw[h3,hs])
theorem reck_abs {v:Vl} (hv:v.ok):FnP Tryz.prog gl 117 [.str nABS,.lst 3 [vlR' v]] (reckV nABS [v]).d:=by
 have e:reckV nABS [v]=if (numV v).k=4 then numV v else if (numV v).n<0 then twoV 9 ⟨1,0,[]⟩ (numV v) else numV v:=rfl
 have c1:=numC te pe hV hv
 have hx:=numV_ok hv
 have c2:FnP Tryz.prog gl 64 [(numV v).d] (twoV 9 ⟨1,0,[]⟩ (numV v)).d:=FnP.moreG (Neg_v te pe hx.1) hV
 rw[e]
 generalize numV v=x at *
 generalize twoV 9 ⟨1,0,[]⟩ x=z at *
 have g1:([vlR' v]:List (List D))[(0:Int).toNat]?=some [iD v.k,iD v.n,.str v.s]:=rfl
 have c3:FnP Tryz.prog gl 107 [x.d] (.b (x.k=4) inferInstance):=bad_d
 by_cases h4:x.k=4
 ·rw[if_pos h4]
  refine S0 Tryz.func117 rfl ?_
  ((repeat' ((conv=>whnf);first|exact .intro|refine G ?_|intro _|refine C1 c1 ?_|refine C1 c2 ?_|refine C1 c3 ?_|(refine ⟨Int.le_refl _,_,g1,?_⟩)|refine .mk ?_ ?_|refine H ?_|fail));all_goals conv=>whnf)
  all_goals exact LeD.rfl
 ·rw[if_neg h4]
  by_cases h0:x.n<0
  ·rw[if_pos h0]
   refine S0 Tryz.func117 rfl ?_
   ((repeat' ((conv=>whnf);first|exact .intro|refine G ?_|intro _|refine C1 c1 ?_|refine C1 c2 ?_|refine C1 c3 ?_|(refine ⟨Int.le_refl _,_,g1,?_⟩)|refine .mk ?_ ?_|refine H ?_|fail));all_goals conv=>whnf)
   all_goals exact LeD.rfl
  ·rw[if_neg h0]
   refine S0 Tryz.func117 rfl ?_
   ((repeat' ((conv=>whnf);first|exact .intro|refine G ?_|intro _|refine C1 c1 ?_|refine C1 c2 ?_|refine C1 c3 ?_|(refine ⟨Int.le_refl _,_,g1,?_⟩)|refine .mk ?_ ?_|refine H ?_|fail));all_goals conv=>whnf)
   all_goals exact LeD.rfl
theorem reck_value {v:Vl} (hv:v.ok):FnP Tryz.prog gl 117 [.str nVALUE,.lst 3 [vlR' v]] (reckV nVALUE [v]).d:=by
 have e:reckV nVALUE [v]=if (numV v).k=4 then numV v else numV v:=rfl
 have c1:=numC te pe hV hv
 rw[e,ite_self]
 generalize numV v=x at *
 have g1:([vlR' v]:List (List D))[(0:Int).toNat]?=some [iD v.k,iD v.n,.str v.s]:=rfl
 have c3:FnP Tryz.prog gl 107 [x.d] (.b (x.k=4) inferInstance):=bad_d
 by_cases h4:x.k=4
 ·refine S0 Tryz.func117 rfl ?_
  ((repeat' ((conv=>whnf);first|exact .intro|refine G ?_|intro _|refine C1 c1 ?_|refine C1 c3 ?_|(refine ⟨Int.le_refl _,_,g1,?_⟩)|refine .mk ?_ ?_|refine H ?_|fail));all_goals conv=>whnf)
  all_goals exact LeD.rfl
 ·refine S0 Tryz.func117 rfl ?_
  ((repeat' ((conv=>whnf);first|exact .intro|refine G ?_|intro _|refine C1 c1 ?_|refine C1 c3 ?_|(refine ⟨Int.le_refl _,_,g1,?_⟩)|refine .mk ?_ ?_|refine H ?_|fail));all_goals conv=>whnf)
  all_goals exact LeD.rfl
theorem reck_sign {v:Vl} (hv:v.ok):FnP Tryz.prog gl 117 [.str nSIGN,.lst 3 [vlR' v]] (reckV nSIGN [v]).d:=by
 have e:reckV nSIGN [v]=if (numV v).k=4 then numV v else ⟨1,sgnZ (numV v).n,[]⟩:=rfl
 have c1:=numC te pe hV hv
 have hx:=numV_ok hv
 rw[e]
 generalize numV v=x at *
 have g1:([vlR' v]:List (List D))[(0:Int).toNat]?=some [iD v.k,iD v.n,.str v.s]:=rfl
 have c3:FnP Tryz.prog gl 107 [x.d] (.b (x.k=4) inferInstance):=bad_d
 by_cases h4:x.k=4
 ·rw[if_pos h4]
  refine S0 Tryz.func117 rfl ?_
  ((repeat' ((conv=>whnf);first|exact .intro|refine G ?_|intro _|refine C1 c1 ?_|refine C1 c3 ?_|(refine ⟨Int.le_refl _,_,g1,?_⟩)|refine .mk ?_ ?_|refine H ?_|fail));all_goals conv=>whnf)
  all_goals exact LeD.rfl
 ·rw[if_neg h4]
  have hk:x.k=1:=by omega
  have hs:x.s=[]:=by
   rcases hx.1.1 with h|h|h|h|h <;> simp_all
  obtain ⟨xk,xn,xs⟩:=x
  simp only at hk hs h4 c1 c3
  subst hk hs
  have c4:FnP Tryz.prog gl 110 [vlD 1 xn [],vlD 1 0 []] (iD (sgnZ xn)):=by
   have:=vCompare_d (gl:=gl) 1 xn [] 1 0 []
   rwa [sgn_cv] at this
  have c5:=Num_d (gl:=gl) 0
  have c6:=Num_d (gl:=gl) (sgnZ xn)
  show FnP Tryz.prog gl 117 _ (vlD 1 (sgnZ xn) [])
  generalize sgnZ xn=z at *
  refine S0 Tryz.func117 rfl ?_
  ((repeat' ((conv=>whnf);first|exact .intro|refine G ?_|intro _|refine C1 c1 ?_|refine C1 c3 ?_|refine C1 c4 ?_|refine C1 c5 ?_|refine C1 c6 ?_|(refine ⟨Int.le_refl _,_,g1,?_⟩)|refine .mk ?_ ?_|refine H ?_|fail));all_goals conv=>whnf)
  all_goals exact LeD.rfl
theorem reck_mod {v u:Vl} (hv:v.ok) (hu:u.ok):FnP Tryz.prog gl 117 [.str nMOD,.lst 3 [vlR' v,vlR' u]] (reckV nMOD [v,u]).d:=by
 have e:reckV nMOD [v,u]=if (numV v).k=4 then numV v else modV (numV v) u:=rfl
 have c1:=numC te pe hV hv
 have hx:=numV_ok hv
 have c2:FnP Tryz.prog gl 180 [(numV v).d,u.d] (modV (numV v) u).d:=FnP.moreG (Mod_v te pe hx.1 hu) hV
 rw[e]
 generalize numV v=x at *
 generalize modV x u=z at *
 have g1:([vlR' v,vlR' u]:List (List D))[(0:Int).toNat]?=some [iD v.k,iD v.n,.str v.s]:=rfl
 have g2:([vlR' v,vlR' u]:List (List D))[(1:Int).toNat]?=some [iD u.k,iD u.n,.str u.s]:=rfl
 have c3:FnP Tryz.prog gl 107 [x.d] (.b (x.k=4) inferInstance):=bad_d
 by_cases h4:x.k=4
 ·rw[if_pos h4]
  refine S0 Tryz.func117 rfl ?_
  ((repeat' ((conv=>whnf);first|exact .intro|refine G ?_|intro _|refine C1 c1 ?_|refine C1 c3 ?_|(refine ⟨Int.le_refl _,_,g1,?_⟩)|refine .mk ?_ ?_|refine H ?_|fail));all_goals conv=>whnf)
  all_goals exact LeD.rfl
 ·rw[if_neg h4]
  refine S0 Tryz.func117 rfl ?_
  ((repeat' ((conv=>whnf);first|exact .intro|refine G ?_|intro _|refine C1 c1 ?_|refine C1 c2 ?_|refine C1 c3 ?_|(first|refine ⟨Int.le_refl _,_,g1,?_⟩|refine ⟨by decide,_,g2,?_⟩)|refine .mk ?_ ?_|refine H ?_|fail));all_goals conv=>whnf)
  all_goals exact LeD.rfl
theorem reck_power {v u:Vl} (hv:v.ok) (hu:u.ok):FnP Tryz.prog gl 117 [.str nPOWER,.lst 3 [vlR' v,vlR' u]] (reckV nPOWER [v,u]).d:=by
 have e:reckV nPOWER [v,u]=if (numV v).k=4 then numV v else if (numV u).k=4 then numV u else if (numV u).n<0∨64<(numV u).n then ⟨4,5,[]⟩ else powL (numV v) (numV u).n.toNat:=rfl
 have c1:=numC te pe hV hv
 have c2:=numC te pe hV hu
 have hx:=numV_ok hv
 have hy:=numV_ok hu
 rw[e]
 generalize numV v=x at *
 generalize numV u=y at *
 have g1:([vlR' v,vlR' u]:List (List D))[(0:Int).toNat]?=some [iD v.k,iD v.n,.str v.s]:=rfl
 have g2:([vlR' v,vlR' u]:List (List D))[(1:Int).toNat]?=some [iD u.k,iD u.n,.str u.s]:=rfl
 have c3:FnP Tryz.prog gl 107 [x.d] (.b (x.k=4) inferInstance):=bad_d
 have c4:FnP Tryz.prog gl 107 [y.d] (.b (y.k=4) inferInstance):=bad_d
 have c5:=Wrong_d (gl:=gl) 5
 have c6:=Num_d (gl:=gl) 1
 by_cases h4:x.k=4
 ·rw[if_pos h4]
  refine S0 Tryz.func117 rfl ?_
  ((repeat' ((conv=>whnf);first|exact .intro|refine G ?_|intro _|refine C1 c1 ?_|refine C1 c3 ?_|(refine ⟨Int.le_refl _,_,g1,?_⟩)|refine .mk ?_ ?_|refine H ?_|fail));all_goals conv=>whnf)
  all_goals exact LeD.rfl
 rw[if_neg h4]
 by_cases h5:y.k=4
 ·rw[if_pos h5]
  refine S0 Tryz.func117 rfl ?_
  ((repeat' ((conv=>whnf);first|exact .intro|refine G ?_|intro _|refine C1 c1 ?_|refine C1 c2 ?_|refine C1 c3 ?_|refine C1 c4 ?_|(first|refine ⟨Int.le_refl _,_,g1,?_⟩|refine ⟨by decide,_,g2,?_⟩)|refine .mk ?_ ?_|refine H ?_|fail));all_goals conv=>whnf)
  all_goals exact LeD.rfl
 rw[if_neg h5]
 by_cases h6:y.n<0
 ·rw[if_pos (.inl h6)]
  refine S0 Tryz.func117 rfl ?_
  ((repeat' ((conv=>whnf);first|exact .intro|refine G ?_|intro _|refine C1 c1 ?_|refine C1 c2 ?_|refine C1 c3 ?_|refine C1 c4 ?_|refine C1 c5 ?_|(first|refine ⟨Int.le_refl _,_,g1,?_⟩|refine ⟨by decide,_,g2,?_⟩)|refine .mk ?_ ?_|refine H ?_|fail));all_goals conv=>whnf)
  all_goals exact LeD.rfl
 by_cases h7:64<y.n
 ·rw[if_pos (.inr h7)]
  refine S0 Tryz.func117 rfl ?_
  ((repeat' ((conv=>whnf);first|exact .intro|refine G ?_|intro _|refine C1 c1 ?_|refine C1 c2 ?_|refine C1 c3 ?_|refine C1 c4 ?_|refine C1 c5 ?_|(first|refine ⟨Int.le_refl _,_,g1,?_⟩|refine ⟨by decide,_,g2,?_⟩)|refine .mk ?_ ?_|refine H ?_|fail));all_goals conv=>whnf)
  all_goals exact LeD.rfl
 rw[if_neg (fun h=>h.elim h6 h7)]
 have hyn:y.n=((y.n.toNat:Nat):Int):=by omega
 have hm:y.n.toNat≤64:=by omega
 generalize y.n.toNat=m at hyn hm ⊢
 have hpow:∀ k,FnP Tryz.prog gl 65 [iD 10,(powL x k).d,x.d] (powL x (k+1)).d:=fun k=>FnP.moreG (Two_v te pe 10 (powL_ok hx.1 k) hx.1) hV
 refine S0 Tryz.func117 rfl ?_
 ((repeat' ((conv=>whnf);first|exact .intro|refine G ?_|intro _|refine C1 c1 ?_|refine C1 c2 ?_|refine C1 c3 ?_|refine C1 c4 ?_|refine C1 c5 ?_|refine C1 c6 ?_|(first|refine ⟨Int.le_refl _,_,g1,?_⟩|refine ⟨by decide,_,g2,?_⟩)|refine .mk ?_ ?_|refine H ?_|fail));all_goals conv=>whnf)
 refine ⟨{ σ:=Nat,fr:=fun k=>[(73,.c (.d (iD (k:Int))))],ks:=[3],L:=fun k=>[(3,vB (powL x k))],ex:=0,I:=fun k=>k≤m,μ:=fun k=>m - k },⟨0,Nat.zero_le _,?_⟩,fun (k:Nat) hk=>?_⟩
 ·((repeat' first|exact rfl|((conv=>whnf);first|done|exact suL|refine And.intro ?_ ?_|fail));all_goals conv=>whnf)
 ·replace hk:k≤m:=hk
  have e0:=wx (x:=k) (by omega)
  have c7:=hpow k
  by_cases hlt:k<m
  ·have h2:(k:Int)<y.n:=by omega
   generalize hq:powL x (k+1)=q at c7
   ((repeat' ((conv=>whnf);first|exact .intro|refine G ?_|intro _|refine C1 c7 ?_|refine .mk ?_ ?_|refine H ?_|fail));all_goals conv=>whnf)
   all_goals refine ⟨k+1,⟨hlt,by show m - (k+1)<m - k;omega⟩,?_⟩
   all_goals ((repeat' first|exact rfl|((conv=>whnf);first|done|exact suL|refine And.intro ?_ ?_|fail));all_goals conv=>whnf)
   all_goals first|exact ceq e0|(rw[hq];first|done|exact .inr (.inl rfl))|skip
  ·have h2:¬ (k:Int)<y.n:=by omega
   obtain rfl:k=m:=by omega
   ((repeat' ((conv=>whnf);first|exact .intro|refine G ?_|intro _|refine .mk ?_ ?_|refine H ?_|fail));all_goals conv=>whnf)
   all_goals exact LeD.rfl
end
end
section
open Go Go.EYtfkjhfdpphfjhaaGreatDoor
theorem fstOf {p:Nat→Prop} (n:Nat):(∀ k,k<n→p k)∨∃ m,m<n∧(∀ k,k<m→p k)∧¬ p m:=by
 induction n with
 | zero=>exact .inl fun k h=>absurd h (Nat.not_lt_zero k)
 | succ n ih =>
  rcases ih with h|⟨m,h1,h2,h3⟩
  ·by_cases hn:p n
   ·exact .inl fun k hk=>by
     rcases Nat.lt_succ_iff_lt_or_eq.1 hk with hk|rfl
     ·exact h k hk
     ·exact hn
   ·exact .inr ⟨n,Nat.lt_succ_self n,h,hn⟩
  ·exact .inr ⟨m,by omega,h2,h3⟩
abbrev nuV (n:Int):Vl:=⟨1,n,[]⟩
theorem first_like (vs:List Vl) (w:Vl):((∀ v ∈ vs,¬ alikeP v w)∧matchV vs w=⟨4,6,[]⟩∧lookR vs 1 w=none∧cntifV vs w=nuV 0)∨
 ∃ (x:Nat) (h:x<vs.length),alikeP vs[x] w∧(∀ (j:Nat) (hj:j<x),¬ alikeP (vs[j]'(Nat.lt_trans hj h)) w)∧matchV vs w=nuV ((x:Int)+1)∧lookR vs 1 w=some x:=by
 by_cases hx:∀ v ∈ vs,¬ alikeP v w
 ·refine .inl ⟨hx,?_,?_,?_⟩
  ·unfold matchV
   rw[List.findIdx?_eq_none_iff.2 (fun v hv=>by simpa using hx v hv)]
  ·unfold lookR
   rw[List.find?_eq_none]
   intro r hr
   rw[List.mem_range,Nat.div_one] at hr
   rw[Nat.mul_one,List.getD_eq_getElem?_getD,List.getElem?_eq_getElem hr]
   simpa using hx _ (List.getElem_mem hr)
  ·unfold cntifV
   rw[List.countP_eq_zero.2 (fun v hv=>by simpa using hx v hv)]
   rfl
 ·refine .inr ?_
  rcases fstOf (p:=fun j=>∀ h:j<vs.length,¬ alikeP vs[j] w) vs.length with h1|⟨x,h1,h2,h3⟩
  ·exfalso
   refine hx fun v hv=>?_
   obtain ⟨j,hj,rfl⟩:=List.getElem_of_mem hv
   exact h1 j hj hj
  ·have ha:alikeP vs[x] w:=Classical.byContradiction fun hh=>h3 fun _=>hh
   refine ⟨x,h1,ha,fun j hj=>h2 j hj _,?_,?_⟩
   ·unfold matchV
    have:vs.findIdx? (fun y=>decide (alikeP y w))=some x:=List.findIdx?_eq_some_iff_getElem.2 ⟨h1,by simpa using ha,fun j hj=>by simpa using h2 j hj (Nat.lt_trans hj h1)⟩
    rw[this]
   ·unfold lookR
    rw[List.find?_range_eq_some]
    refine ⟨?_,?_,fun j hj=>?_⟩
    ·rw[Nat.mul_one,List.getD_eq_getElem?_getD,List.getElem?_eq_getElem h1]
     simpa using ha
    ·rw[List.mem_range,Nat.div_one];exact h1
    ·rw[Nat.mul_one,List.getD_eq_getElem?_getD,List.getElem?_eq_getElem (Nat.lt_trans hj h1)]
     simpa using h2 j hj (Nat.lt_trans hj h1)
end
section
open Go Go.EYtfkjhfdpphfjhaaGreatDoor
abbrev cR (c r:Int):Rf:=⟨c,r,false,false⟩
def refN (a:Rf):Nd:=.mk 5 0 [] a z0 []
def numN (m:Int):Nd:=.mk 1 m [] z0 z0 []
structure Sm (n:Nd) (p:Prop) (w d c:Nat):Prop where
 frm:frmN n p
 ok:okN n
 wr:(wrN n).length≤w
 dep:depN n≤d
 cnt:cntN n≤c
theorem Sm.mono {n:Nd} {p q:Prop} {w d c w' d' c':Nat} (h:Sm n p w d c) (hf:frmN n p→frmN n q) (hw:w≤w':=by omega) (hd:d≤d':=by omega) (hc:c≤c':=by omega):Sm n q w' d' c' :=
 ⟨hf h.frm,h.ok,Nat.le_trans h.wr hw,Nat.le_trans h.dep hd,Nat.le_trans h.cnt hc⟩
theorem Sm.to {n:Nd} {w d c w' d' c':Nat} (h:Sm n False w d c) (hw:w≤w':=by omega) (hd:d≤d':=by omega) (hc:c≤c':=by omega):Sm n True w' d' c':=h.mono frm_more hw hd hc
theorem Sm.pr {n:Nd} {w d c:Nat} (h:Sm n False w d c) (hw:w≤199) (hd:d≤30) (hc:c≤200):prZ rfZ n=(61::wrN n,0) :=
 prZ_small h.frm h.ok (Nat.le_trans h.cnt hc) (Nat.le_trans h.dep hd) (Nat.le_trans h.wr hw)
theorem nmR_3 (c r:Int):(nmR (cR c r)).length≤3:=by
 have:=digs_len r.toNat
 unfold nmR nameL
 simp
 omega
theorem sm_ref (p:Prop) {c r:Int} (h:okP c r):Sm (refN (cR c r)) p 3 0 1:=by
 have h1:=nmR_3 c r
 refine ⟨by unfold refN;rw[frm_5];exact ⟨rfl,rfl,rfl,noR_z0,h⟩,⟨by decide,by decide,trivial⟩,?_,by unfold refN;simp[depN],by unfold refN;simp[cntN,cntL]⟩
 unfold refN
 simp[wrN]
 omega
theorem sm_num (p:Prop) {m:Int} (h:0≤m) (h':okI m) {w:Nat} (hw:(Lib.itoa m).length≤w):Sm (numN m) p w 0 1:=by
 refine ⟨by unfold numN;rw[frm_1];exact ⟨rfl,rfl,⟨noR_z0,noR_z0⟩,h⟩,⟨h',by decide,trivial⟩,?_,by unfold numN;simp[depN],by unfold numN;simp[cntN,cntL]⟩
 unfold numN
 simp[wrN]
 exact hw
end
end Go.Proofs.YtfkjhfdpphfjhaaGreatDoor
