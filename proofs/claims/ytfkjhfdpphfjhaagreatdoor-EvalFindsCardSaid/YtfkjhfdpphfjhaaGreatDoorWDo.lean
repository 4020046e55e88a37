/- Proved: a part of what the law is proved with (the reckoner, contracts of functions, plain laws). Conditions: as each says. -/
import Derived.Test.YtfkjhfdpphfjhaaGreatDoorWFs
import Derived.Test.YtfkjhfdpphfjhaaGreatDoorWTf
section
namespace Go.Proofs.YtfkjhfdpphfjhaaGreatDoor
open Go Go.RowKit Go.EYtfkjhfdpphfjhaaGreatDoor
set_option maxRecDepth 100000
set_option maxHeartbeats 4000000
variable {gl:List (Nat×List D)}
abbrev vlR' (v:Vl):List D:=[iD v.k,iD v.n,.str v.s]
section
variable (te:TypeId) (pe:Value) (hV:Has gl (glV te pe))
include hV
theorem numC {v:Vl} (hv:v.ok):FnP Tryz.prog gl 106 [v.d] (numV v).d:=FnP.moreG (Number_d te pe v.k v.n v.s (v_len hv)) hV
end
end Go.Proofs.YtfkjhfdpphfjhaaGreatDoor
end
section
namespace Go.Proofs.YtfkjhfdpphfjhaaGreatDoor
open Go Go.EYtfkjhfdpphfjhaaGreatDoor
set_option maxRecDepth 100000
theorem fstOf {p:Nat→Prop} (n:Nat):(∀ k,k<n→p k)∨∃ m,m<n∧(∀ k,k<m→p k)∧¬ p m:=by
 induction n with
 | zero=>exact .inl fun k h=>absurd h (Nat.not_lt_zero k)
 | succ n ih =>
  rcases ih with h|⟨m,h1,h2,h3⟩
  ·by_cases hn:p n
   ·exact .inl fun k hk=>by
     rcases Nat.lt_succ_iff_lt_or_eq.1 hk with hk|rfl
     ·exact h k hk
     ·exact hn
   ·exact .inr ⟨n,Nat.lt_succ_self n,h,hn⟩
  ·exact .inr ⟨m,by omega,h2,h3⟩
abbrev nuV (n:Int):Vl:=⟨1,n,[]⟩
theorem alike_iff (a b:Vl):alikeP a b↔twoV 1 a b=⟨3,1,[]⟩:=by
 unfold alikeP
 constructor
 ·rintro ⟨h1,h2⟩
  unfold twoV at h1 h2 ⊢
  rw[if_neg (by decide),if_neg (by decide)] at h1 h2 ⊢
  split at h1
  ·omega
  ·rename_i h3
   rw[if_neg h3] at h2 ⊢
   split at h1
   ·omega
   ·rename_i h4
    rw[if_neg h4,if_neg (by decide)] at h2 ⊢
    simp only at h2
    rw[h2]
 ·intro h
  rw[h]
  exact ⟨rfl,rfl⟩
theorem call_match (w:Vl) (vs:List Vl) (k:Nat) (hw:w.k≠4):callV nMATCH [.one w,.box vs k]=matchV vs w:=by
 have e:callV nMATCH [.one w,.box vs k]=if w.k=4 then w else matchV vs w:=rfl
 rw[e,if_neg hw]
theorem call_cntif (w:Vl) (vs:List Vl) (k:Nat) (hw:w.k≠4):callV nCOUNTIF [.box vs k,.one w]=cntifV vs w:=by
 have e:callV nCOUNTIF [.box vs k,.one w]=if w.k=4 then w else cntifV vs w:=rfl
 rw[e,if_neg hw]
theorem call_look (w:Vl) (vs:List Vl) (hw:w.k≠4):callV nLOOKUP [.one w,.box vs 1,.one (nuV 1)]=match lookR vs 1 w with
 | some r=>vs.getD r wrV
 | none=>⟨4,6,[]⟩:=by
 have e:callV nLOOKUP [.one w,.box vs 1,.one (nuV 1)]=if w.k=4 then w else match lookR vs 1 w with
  | some r=>vs.getD (r * 1+1 - 1) wrV
  | none=>⟨4,6,[]⟩:=rfl
 rw[e,if_neg hw]
 cases lookR vs 1 w with
 | none=>rfl
 | some r=>simp
theorem call_index (vs:List Vl) (x:Nat) (h1:1≤x) (h2:x≤vs.length):callV nINDEX [.box vs 1,.one (nuV x),.one (nuV 1)]=vs.getD (x - 1) wrV:=by
 have e:callV nINDEX [.box vs 1,.one (nuV x),.one (nuV 1)]=if (x:Int)<1∨((vs.length / 1:Nat):Int)<(x:Int)∨(1:Int)<1∨((1:Nat):Int)<1 then ⟨4,3,[]⟩ else vs.getD (((x:Int) - 1) * (1:Nat)+1 - 1).toNat wrV:=rfl
 rw[e,if_neg (by rw[Nat.div_one];omega)]
 congr 1
 omega
theorem first_like (vs:List Vl) (w:Vl):((∀ v ∈ vs,¬ alikeP v w)∧matchV vs w=⟨4,6,[]⟩∧lookR vs 1 w=none∧cntifV vs w=nuV 0)∨
 ∃ (x:Nat) (h:x<vs.length),alikeP vs[x] w∧(∀ (j:Nat) (hj:j<x),¬ alikeP (vs[j]'(Nat.lt_trans hj h)) w)∧matchV vs w=nuV ((x:Int)+1)∧lookR vs 1 w=some x:=by
 by_cases hx:∀ v ∈ vs,¬ alikeP v w
 ·refine .inl ⟨hx,?_,?_,?_⟩
  ·unfold matchV
   rw[List.findIdx?_eq_none_iff.2 (fun v hv=>by simpa using hx v hv)]
  ·unfold lookR
   rw[List.find?_eq_none]
   intro r hr
   rw[List.mem_range,Nat.div_one] at hr
   rw[Nat.mul_one,List.getD_eq_getElem?_getD,List.getElem?_eq_getElem hr]
   simpa using hx _ (List.getElem_mem hr)
  ·unfold cntifV
   rw[List.countP_eq_zero.2 (fun v hv=>by simpa using hx v hv)]
   rfl
 ·refine .inr ?_
  rcases fstOf (p:=fun j=>∀ h:j<vs.length,¬ alikeP vs[j] w) vs.length with h1|⟨x,h1,h2,h3⟩
  ·exfalso
   refine hx fun v hv=>?_
   obtain ⟨j,hj,rfl⟩:=List.getElem_of_mem hv
   exact h1 j hj hj
  ·have ha:alikeP vs[x] w:=Classical.byContradiction fun hh=>h3 fun _=>hh
   refine ⟨x,h1,ha,fun j hj=>h2 j hj _,?_,?_⟩
   ·unfold matchV
    have:vs.findIdx? (fun y=>decide (alikeP y w))=some x:=List.findIdx?_eq_some_iff_getElem.2 ⟨h1,by simpa using ha,fun j hj=>by simpa using h2 j hj (Nat.lt_trans hj h1)⟩
    rw[this]
   ·unfold lookR
    rw[List.find?_range_eq_some]
    refine ⟨?_,?_,fun j hj=>?_⟩
    ·rw[Nat.mul_one,List.getD_eq_getElem?_getD,List.getElem?_eq_getElem h1]
     simpa using ha
    ·rw[List.mem_range,Nat.div_one];exact h1
    ·rw[Nat.mul_one,List.getD_eq_getElem?_getD,List.getElem?_eq_getElem (Nat.lt_trans hj h1)]
     simpa using h2 j hj (Nat.lt_trans hj h1)
end Go.Proofs.YtfkjhfdpphfjhaaGreatDoor
end
section
namespace Go.Proofs.YtfkjhfdpphfjhaaGreatDoor
open Go Go.EYtfkjhfdpphfjhaaGreatDoor
set_option maxRecDepth 100000
abbrev cR (c r:Int):Rf:=⟨c,r,false,false⟩
def boxN (a b:Rf):Nd:=.mk 6 0 [] a b []
def refN (a:Rf):Nd:=.mk 5 0 [] a z0 []
def numN (m:Int):Nd:=.mk 1 m [] z0 z0 []
def callN (t:List UInt8) (ks:List Nd):Nd:=.mk 9 0 t z0 z0 ks
structure Sm (n:Nd) (p:Prop) (w d c:Nat):Prop where
 frm:frmN n p
 ok:okN n
 wr:(wrN n).length≤w
 dep:depN n≤d
 cnt:cntN n≤c
theorem Sm.mono {n:Nd} {p q:Prop} {w d c w' d' c':Nat} (h:Sm n p w d c) (hf:frmN n p→frmN n q) (hw:w≤w':=by omega) (hd:d≤d':=by omega) (hc:c≤c':=by omega):Sm n q w' d' c' :=
 ⟨hf h.frm,h.ok,Nat.le_trans h.wr hw,Nat.le_trans h.dep hd,Nat.le_trans h.cnt hc⟩
theorem Sm.to {n:Nd} {w d c w' d' c':Nat} (h:Sm n False w d c) (hw:w≤w':=by omega) (hd:d≤d':=by omega) (hc:c≤c':=by omega):Sm n True w' d' c':=h.mono frm_more hw hd hc
theorem Sm.pr {n:Nd} {w d c:Nat} (h:Sm n False w d c) (hw:w≤199) (hd:d≤30) (hc:c≤200):prZ rfZ n=(61::wrN n,0) :=
 prZ_small h.frm h.ok (Nat.le_trans h.cnt hc) (Nat.le_trans h.dep hd) (Nat.le_trans h.wr hw)
theorem nmR_3 (c r:Int):(nmR (cR c r)).length≤3:=by
 have:=digs_len r.toNat
 unfold nmR nameL
 simp
 omega
theorem sm_box (p:Prop) (hp:p) {c r c' r':Int} (h:okP c r) (h':okP c' r'):Sm (boxN (cR c r) (cR c' r')) p 7 0 1:=by
 have h1:=nmR_3 c r
 have h2:=nmR_3 c' r'
 refine ⟨by unfold boxN;rw[frm_6];exact ⟨hp,rfl,rfl,rfl,h,h'⟩,⟨by decide,by decide,trivial⟩,?_,by unfold boxN;simp[depN],by unfold boxN;simp[cntN,cntL]⟩
 unfold boxN
 simp[wrN]
 omega
theorem sm_ref (p:Prop) {c r:Int} (h:okP c r):Sm (refN (cR c r)) p 3 0 1:=by
 have h1:=nmR_3 c r
 refine ⟨by unfold refN;rw[frm_5];exact ⟨rfl,rfl,rfl,noR_z0,h⟩,⟨by decide,by decide,trivial⟩,?_,by unfold refN;simp[depN],by unfold refN;simp[cntN,cntL]⟩
 unfold refN
 simp[wrN]
 omega
theorem sm_num (p:Prop) {m:Int} (h:0≤m) (h':okI m) {w:Nat} (hw:(Lib.itoa m).length≤w):Sm (numN m) p w 0 1:=by
 refine ⟨by unfold numN;rw[frm_1];exact ⟨rfl,rfl,⟨noR_z0,noR_z0⟩,h⟩,⟨h',by decide,trivial⟩,?_,by unfold numN;simp[depN],by unfold numN;simp[cntN,cntL]⟩
 unfold numN
 simp[wrN]
 exact hw
theorem com_le {w:Nat}:∀ {l:List (List UInt8)},(∀ s ∈ l,s.length≤w)→(comN l).length≤l.length * (w+1)
 | [],_=>by simp[comN]
 | [x],h=>by have:=h x (by simp);simp[comN];omega
 | x::y::l,h=>by
  have h1:=com_le (l:=y::l) fun s hs=>h s (by simp[hs])
  have h2:=h x (by simp)
  rw[comN_cons,List.length_append,List.length_cons]
  rw[List.length_cons] at h1
  rw[List.length_cons,List.length_cons]
  have:(l.length+1+1) * (w+1)=(l.length+1) * (w+1)+(w+1):=Nat.succ_mul _ _
  omega
theorem cnt_le {c:Nat}:∀ {ks:List Nd},(∀ x ∈ ks,cntN x≤c)→cntL ks≤ks.length * c
 | [],_=>by simp[cntL]
 | x::r,h=>by
  have h1:=cnt_le (ks:=r) fun s hs=>h s (by simp[hs])
  have h2:=h x (by simp)
  rw[cntL,List.length_cons,Nat.succ_mul]
  omega
theorem dep_le {d:Nat}:∀ {ks:List Nd},(∀ x ∈ ks,depN x≤d)→mxL (depL ks)≤d
 | [],_=>by simp[depL,mxL]
 | x::r,h=>by
  have h1:=dep_le (ks:=r) fun s hs=>h s (by simp[hs])
  have h2:=h x (by simp)
  rw[depL,mxL]
  omega
theorem okL_of:∀ {ks:List Nd},(∀ x ∈ ks,okN x)→okL ks
 | [],_=>trivial
 | x::r,h=>⟨h x (by simp),okL_of fun y hy=>h y (by simp[hy])⟩
theorem wrL_mem:∀ {ks:List Nd} {s:List UInt8},s ∈ wrL ks→∃ x ∈ ks,s=wrN x
 | x::r,s,h=>by
  rcases List.mem_cons.1 h with rfl|h
  ·exact ⟨x,by simp,rfl⟩
  ·obtain ⟨y,hy,e⟩:=wrL_mem (ks:=r) h
   exact ⟨y,by simp[hy],e⟩
theorem sm_call (p:Prop) {t:List UInt8} (ht:clZ t=true) {ks:List Nd} {w d c:Nat} (h:∀ x ∈ ks,Sm x True w d c):Sm (callN t ks) p (t.length+2+ks.length * (w+1)) (d+1) (1+ks.length * c):=by
 have htl:t.length≤10:=((clZ_iff t).1 ht).2.1
 refine ⟨?_,⟨by decide,by omega,okL_of fun x hx=>(h x hx).ok⟩,?_,?_,?_⟩
 ·unfold callN
  rw[frm_9]
  exact ⟨ht,⟨noR_z0,noR_z0⟩,rfl,frmL_iff.2 fun x hx=>(h _ (List.getElem_mem hx)).frm⟩
 ·have h1:=com_le (w:=w) (l:=wrL ks) fun s hs=>by
   obtain ⟨x,hx,rfl⟩:=wrL_mem hs
   exact (h x hx).wr
  rw[wrL_len] at h1
  unfold callN
  simp[wrN]
  omega
 ·have h1:=dep_le (d:=d) fun x hx=>(h x hx).dep
  unfold callN
  unfold depN
  rw[if_neg (by decide),if_neg (by decide),if_pos rfl]
  omega
 ·have h1:=cnt_le (c:=c) fun x hx=>(h x hx).cnt
  unfold callN
  unfold cntN
  omega
def colS (v:List Vl):List Shw:=v.mapIdx fun i x=>⟨1,(i:Int)+1,x,0,0⟩
theorem colS_len (v:List Vl):(colS v).length=v.length:=List.length_mapIdx
theorem colS_take {v:List Vl} {k:Nat} (h:k<v.length):colS (v.take (k+1))=colS (v.take k)++[⟨1,(k:Int)+1,v[k],0,0⟩]:=by
 unfold colS
 rw[List.take_succ_eq_append_getElem h,List.mapIdx_append]
 simp[List.length_take,Nat.min_eq_left (Nat.le_of_lt h)]
theorem evF_snoc (l:List Shw) (x:Shw):evF (l++[x])=evS (evF l) x:=by
 unfold evF
 rw[List.foldl_append]
 rfl
theorem evF_col {v:List Vl}:∀ (n:Nat),n≤v.length→∀ (i:Nat) (_h:i<n) (hv:i<v.length),evF (colS (v.take n)) 1 ((i:Int)+1)=v[i]
 | 0,_,_,h,_=>absurd h (Nat.not_lt_zero _)
 | n+1,hn,i,h,hv=>by
  rw[colS_take (show n<v.length by omega),evF_snoc]
  unfold evS
  by_cases hi:i=n
  ·subst hi
   rw[if_pos ⟨rfl,rfl⟩]
  ·rw[if_neg (by simp;omega)]
   exact evF_col n (by omega) i (by omega) hv
theorem col_at {v:List Vl} {i:Nat} (h:i<v.length):evF (colS v) 1 ((i:Int)+1)=v[i]:=by
 have:=evF_col v.length (Nat.le_refl _) i h h
 rwa [List.take_length] at this
theorem pairs_col (c r:Int):∀ n:Nat,pairsL c r 1 n=(List.range n).map fun (i:Nat)=>(c,r+(i:Int))
 | 0=>rfl
 | n+1=>by
  have ih:=pairs_col c r n
  unfold pairsL at ih ⊢
  rw[List.range_succ (n:=n),List.flatMap_append,ih,List.map_append]
  simp
theorem box_col {ev:Int→Int→Vl} {v:List Vl} (hev:∀ (i:Nat) (h:i<v.length),ev 1 ((i:Int)+1)=v[i]) {p q:Nat} (hp:p<q) (hq:q≤v.length) {a b:Rf} (ha:a.c=1∧b.c=1) (hr:(a.r=(p:Int)+1∧b.r=(q:Int))∨(b.r=(p:Int)+1∧a.r=(q:Int))) :
 boxA ev a b=.box ((v.drop p).take (q - p)) 1:=by
 unfold boxA boxC
 have h1:min a.c b.c=1:=by omega
 have h2:max a.c b.c=1:=by omega
 have h3:min a.r b.r=(p:Int)+1:=by omega
 have h4:max a.r b.r=(q:Int):=by omega
 rw[h1,h2,h3,h4,show ((1:Int) - 1+1).toNat=1 from rfl,show ((q:Int) - ((p:Int)+1)+1).toNat=q - p by omega,pairs_col,List.map_map]
 refine congrArg (fun l=>Ar.box l 1) (List.ext_getElem (by simp;omega) fun i h5 h6=>?_)
 rw[List.length_map,List.length_range] at h5
 simp only[List.getElem_map,List.getElem_range,Function.comp,List.getElem_take,List.getElem_drop]
 have:=hev (p+i) (by omega)
 rw[← this]
 congr 1
 omega
theorem evN_call (ev:Int→Int→Vl) (t:List UInt8) (ks:List Nd):evN ev (callN t ks)=callV t (ks.map (evA ev)):=by
 unfold callN
 rw[evN_mk,evK_map]
 rfl
end Go.Proofs.YtfkjhfdpphfjhaaGreatDoor
end
