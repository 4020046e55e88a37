/- Proved: a part of what the law is proved with (the reckoner, contracts of functions, plain laws). Conditions: as each says. -/
import Derived.Test.YtfcmhmglpcimiaaGreatDoorKEn
namespace Go.EYtfcmhmglpcimiaaGreatDoor
open Go Go.RowKit
def Lst (listed:Array Bool) (i:Nat):Prop:=listed.getD i false=true
theorem lst_set {listed:Array Bool} {j:Nat} (hj:j<listed.size):(fun i=>Lst listed i∨i=j)=Lst (listed.setIfInBounds j true):=by
 funext i
 apply propext
 unfold Lst
 simp only[Array.getD_eq_getD_getElem?,Array.getElem?_setIfInBounds]
 by_cases h:j=i
 ·subst h;simp[hj]
 ·have h2:¬ i=j:=fun e=>h e.symm
  simp[h,h2]
theorem ready_iff {ops:Array Oper} {listed:Array Bool} (hs:listed.size=ops.size) {j:Nat}:j ∈ Region.ready .any ops listed↔¬ Lst listed j∧∃ o,ops[j]?=some o∧∀ e ∈ o.after,Region.binds .any e=true→Lst listed e.on:=by
 rw[mem_ready]
 constructor
 ·rintro ⟨h1,o,ho,h2⟩
  have hj:j<listed.size:=by rw[hs];exact (Array.getElem?_eq_some_iff.1 ho).1
  refine ⟨fun h=>?_,o,ho,h2⟩
  unfold Lst at h
  rw[Array.getD_eq_getD_getElem?,Array.getElem?_eq_getElem hj] at h h1
  simp only[Option.getD_some] at h h1
  rw[h] at h1;cases h1
 ·rintro ⟨h1,o,ho,h2⟩
  have hj:j<listed.size:=by rw[hs];exact (Array.getElem?_eq_some_iff.1 ho).1
  refine ⟨?_,o,ho,h2⟩
  unfold Lst at h1
  rw[Array.getD_eq_getD_getElem?,Array.getElem?_eq_getElem hj] at h1 ⊢
  simp only[Option.getD_some] at h1 ⊢
  cases hq:listed[j] with
  | false=>rfl
  | true=>exact absurd hq h1
theorem filter_less {p p':Nat→Bool} (h:∀ i,p' i=true→p i=true):∀ {l:List Nat} {j:Nat},j ∈ l→p j=true→p' j=false→(l.filter p').length<(l.filter p).length
 | [],j,hj,_,_=>by simp at hj
 | x::l,j,hj,h1,h2=>by
  have le:∀ l:List Nat,(l.filter p').length≤(l.filter p).length:=fun l=>by
   induction l with
   | nil=>simp
   | cons y l ih =>
    simp only[List.filter_cons]
    cases hy:p' y with
    | true=>rw[h y hy];simp;exact ih
    | false=>cases p y <;> simp <;> omega
  rcases List.mem_cons.1 hj with rfl|hj
  ·simp only[List.filter_cons,h1,h2,if_true,Bool.false_eq_true,if_false,List.length_cons]
   have:=le l;omega
  ·have:=filter_less h hj h1 h2
   simp only[List.filter_cons]
   cases hy:p' x with
   | true=>rw[h x hy];simp;exact this
   | false=>cases p x <;> simp <;> omega
theorem leading:∀ bs:List Bool,∃ q,q≤bs.length∧bs=List.replicate q false++bs.drop q∧(bs.drop q=[]∨∃ bs',bs.drop q=true::bs')
 | []=>⟨0,by simp,by simp,.inl rfl⟩
 | true::bs=>⟨0,by simp,by simp,.inr ⟨bs,rfl⟩⟩
 | false::bs=>by
  obtain ⟨q,h1,h2,h3⟩:=leading bs
  exact ⟨q+1,by simp;omega,by simp only[List.replicate_succ,List.cons_append,List.drop_succ_cons];rw[← h2],by simpa using h3⟩
section
variable {P:Program} {gl:List (Nat×List D)} {tt:List (Nat×TI)} {M0 S0:Nat→Prop} {w0:Base} {N:Nat} {adr:Env} {L:List (Nat×Blk)} {n:Nat} {ops:Array Oper} {bs0:List Bool} {ms:List Nat} {m m2:Nat} {frs:Nat→List (Nat×V)} {res:Nat→V} {Q:Exit→Act→World→Prop}
def left (listed:Array Bool) (m m2:Nat):Nat:=((List.range' m (m2 - m)).filter fun i=>!listed.getD i false).length
theorem seg_any (hR:RegOk ops bs0 ms) (hbs:∀ j,m≤j→j<m2→bs0.getD j false=false) (hbar:m2=ops.size∨bs0.getD m2 false=true) (hm2:m2≤ops.size) (hS:∀ j,m≤j→j<m2→Step P gl N L ops j (frs j) (frs (j+1)) (res j))
 (hle:m≤m2) (cont:∀ (listed:Array Bool) (a:Act) (w:World) (fuel:Nat),listed.size=ops.size→(∀ i,Lst listed i↔i<m2)→Ok gl M0 S0 w0 N adr (frs m2) L n a w→ops.size - m2≤fuel→wpAny P .any ops Q fuel listed a w) :
 ∀ (fuel:Nat) (listed:Array Bool) (a:Act) (w:World),InSeg gl M0 S0 w0 N adr L n ops m m2 frs (Lst listed) a w→listed.size=ops.size→left listed m m2+(ops.size - m2)≤fuel→wpAny P .any ops Q fuel listed a w:=by
 intro fuel
 induction fuel with
 | zero =>
  intro listed a w h hs hu
  have hall:∀ i,i<m2→Lst listed i:=by
   intro i hi
   rcases Nat.lt_or_ge i m with h1|h1
   ·exact h.lo i h1
   ·have h0:left listed m m2=0:=by omega
    unfold left at h0
    have h2:=List.eq_nil_of_length_eq_zero h0
    rw[List.filter_eq_nil_iff] at h2
    have h3:=h2 i (by rw[List.mem_range'_1];omega)
    unfold Lst
    simpa using h3
  exact cont listed a w 0 hs (fun i=>⟨h.hi i,hall i⟩) ⟨h.ok.size,h.ok.defers,fun t s hl=>h.fr m2 hle (Nat.le_refl _) t s hl (fun i o _ h2 _ _=>⟨fun _=>h2,fun _=>hall i h2⟩),h.ok.wok,h.ok.glob,h.ok.base,h.ok.new,h.ok.same⟩ (by omega)
 | succ fuel ih =>
  intro listed a w h hs hu
  by_cases hall:∀ i,i<m2→Lst listed i
  ·exact cont listed a w (fuel+1) hs (fun i=>⟨h.hi i,hall i⟩) ⟨h.ok.size,h.ok.defers,fun t s hl=>h.fr m2 hle (Nat.le_refl _) t s hl (fun i o _ h2 _ _=>⟨fun _=>h2,fun _=>hall i h2⟩),h.ok.wok,h.ok.glob,h.ok.base,h.ok.new,h.ok.same⟩ (by omega)
  ·obtain ⟨j0,hj0⟩:∃ j,j<m2∧¬ Lst listed j:=by
    refine Classical.byContradiction fun hc=>hall fun i hi=>Classical.byContradiction fun hni=>hc ⟨i,hi,hni⟩
   obtain ⟨j,⟨hj,hnj⟩,hmin⟩:=exists_least (p:=fun j=>j<m2∧¬ Lst listed j) ⟨j0,hj0⟩
   have hjs:j<ops.size:=by omega
   have hoj:ops[j]?=some ops[j]:=Array.getElem?_eq_getElem hjs
   have hrj:j ∈ Region.ready .any ops listed:=(ready_iff hs).2 ⟨hnj,_,hoj,fun e he hb=>by
    have hlt:=hR.low j _ hoj e he hb
    rcases Classical.em (Lst listed e.on) with h1|h1
    ·exact h1
    ·have:=hmin e.on ⟨by omega,h1⟩;omega⟩
   refine ⟨fun hr=>by rw[hr] at hrj;simp at hrj,fun i hi=>?_⟩
   obtain ⟨hni,o,ho,ha⟩:=(ready_iff hs).1 hi
   have his:i<ops.size:=(Array.getElem?_eq_some_iff.1 ho).1
   have h1:m≤i:=by
    rcases Nat.lt_or_ge i m with h1|h1
    ·exact absurd (h.lo i h1) hni
    ·exact h1
   have h2:i<m2:=by
    rcases Nat.lt_trichotomy i m2 with h2|h2|h2
    ·exact h2
    ·subst h2
     rcases hbar with hb|hb
     ·omega
     ·have hbm:=(hR.bar i his hb).1
      refine absurd (mask_ok hR h.shut i o ho ha j ?_) hnj
      rw[hbm,Nat.testBit_two_pow_sub_one];simpa using hj
    ·rcases hbar with hb|hb
     ·omega
     ·have hbm:=(hR.bar m2 (by omega) hb).2 i h2 his
      have:=h.hi m2 (mask_ok hR h.shut i o ho ha m2 hbm)
      omega
   refine h.step hR hbs hS h1 h2 ho hni ha fun a' w' hI=>?_
   rw[lst_set (by rw[hs];exact his)] at hI
   refine ih _ a' w' hI (by simpa using hs) ?_
   have:left (listed.setIfInBounds i true) m m2<left listed m m2:=by
    refine filter_less (fun x hx=>?_) (j:=i) (by rw[List.mem_range'_1];omega) (by simpa[Lst] using hni) ?_
    ·have hx':¬ Lst (listed.setIfInBounds i true) x:=by simpa[Lst] using hx
     rw[← lst_set (by rw[hs];exact his)] at hx'
     simp only[not_or] at hx'
     simpa[Lst] using hx'.1
    ·have:Lst (listed.setIfInBounds i true) i:=by rw[← lst_set (by rw[hs];exact his)];exact .inr rfl
     unfold Lst at this
     rw[this];rfl
   omega
theorem vcAny_ok (hT:Fits P tt) (hR:RegOk ops bs0 ms) {k:SK} {kp:C→SK} (hQ:∀ fr L n adr a w,k fr L n→Ok gl M0 S0 w0 N adr fr L n a w→Q .normal a w) (hp:PanOk gl M0 S0 w0 N kp Q) :
 ∀ (len:Nat) (l:List Oper) (bs:List Bool) (m:Nat) (fr:List (Nat×V)) (L:List (Nat×Blk)) (n:Nat) (adr:Env) (listed:Array Bool) (a:Act) (w:World) (fuel:Nat),l.length≤len→l=ops.toList.drop m→bs=bs0.drop m→m≤ops.size→listed.size=ops.size→(∀ i,Lst listed i↔i<m)→
  vcAny P gl tt w0.fx N ops.toList l bs fr L n k kp→Ok gl M0 S0 w0 N adr fr L n a w→ops.size - m≤fuel→wpAny P .any ops Q fuel listed a w:=by
 intro len
 induction len with
 | zero =>
  intro l bs m fr L n adr listed a w fuel hl hd _ hm hs hE h hx hf
  have hl0:l=[]:=List.eq_nil_of_length_eq_zero (by omega)
  subst hl0
  have hms:m=ops.size:=by
   have:=congrArg List.length hd
   simp at this;omega
  have hr:Region.ready .any ops listed=[]:=List.eq_nil_iff_forall_not_mem.2 fun j hj=>by
   obtain ⟨h1,o,ho,_⟩:=(ready_iff hs).1 hj
   have:j<ops.size:=(Array.getElem?_eq_some_iff.1 ho).1
   exact h1 ((hE j).2 (by omega))
  cases fuel with
  | zero=>exact ⟨hr,hQ _ _ _ _ _ _ h hx⟩
  | succ f=>exact ⟨fun _=>hQ _ _ _ _ _ _ h hx,by rw[hr];simp⟩
 | succ len ih =>
  intro l bs m fr L n adr listed a w fuel hl hd hb hm hs hE h hx hf
  cases l with
  | nil=>exact ih [] bs m fr L n adr listed a w fuel (by simp) hd hb hm hs hE h hx hf
  | cons o r =>
   have hms:m<ops.size:=by
    have:=congrArg List.length hd
    simp at this;omega
   have ho:ops[m]?=some o:=by
    have:=congrArg (·[0]?) hd
    simp at this
    exact this.symm
   have hlen:bs.length=(o::r).length:=by rw[hb,hd,List.length_drop,List.length_drop,hR.len,Array.length_toList]
   have hrd:r=ops.toList.drop (m+1):=by
    have:=congrArg List.tail hd
    simpa using this
   have hshut:Shut ops (Lst listed):=fun i oi hoi hi e he hbi=>(hE _).2 (by have:=hR.low i oi hoi e he hbi;have:=(hE i).1 hi;omega)
   cases bs with
   | nil=>simp at hlen
   | cons b bs' =>
    have hbm:bs0.getD m false=b:=by
     have:=congrArg (·[0]?) hb
     simp at this
     simp[List.getD,← this]
    have hbd:bs'=bs0.drop (m+1):=by
     have:=congrArg List.tail hb
     simpa using this
    cases b with
    | true =>
     obtain ⟨f,rfl⟩:∃ f,fuel=f+1:=⟨fuel - 1,by omega⟩
     have hset:∀ i,Lst (listed.setIfInBounds m true) i↔i<m+1:=fun i=>by
      rw[← lst_set (by rw[hs];exact hms)]
      show (Lst listed i∨i=m)↔i<m+1
      rw[hE];omega
     have hmr:m ∈ Region.ready .any ops listed:=(ready_iff hs).2 ⟨fun h=>by have:=(hE m).1 h;omega,o,ho,fun e he hbi=>(hE _).2 (hR.low m o ho e he hbi)⟩
     refine ⟨fun hr=>by rw[hr] at hmr;simp at hmr,fun i hi=>?_⟩
     obtain ⟨hni,oi,hoi,ha⟩:=(ready_iff hs).1 hi
     have his:i<ops.size:=(Array.getElem?_eq_some_iff.1 hoi).1
     obtain rfl:i=m:=by
      rcases Nat.lt_trichotomy i m with h1|h1|h1
      ·exact absurd ((hE i).2 h1) hni
      ·exact h1
      ·have:=(hE m).1 (mask_ok hR hshut i oi hoi ha m ((hR.bar m hms hbm).2 i h1 his));omega
     obtain ⟨hdst,h1⟩:=onB_ok (show onB (dstB N o.dst) _ from h)
     obtain ⟨run,fr1,h2,hg,hle⟩:=onGuard_ok h1
     have hw:=hg.wanted (adr:=adr) (M:=Mut M0 adr L) (w:=w) (a:=a) (fun t s _ hl=>hx.fr t s hl)
     have hx1:=hx.le hle
     unfold wpOp
     simp only[ho,hw]
     cases run with
     | true =>
      simp only[if_true]
      refine .inl (xOp_ok hT h2 hx1 ?_ ?_)
      ·rintro v w' ⟨s,fr',L',n',adr',h3,h4,h5⟩
       rw[putK_eq] at h3
       exact ih r bs' (i+1) _ _ _ adr' _ _ _ f (by simp at hl;omega) hrd hbd (by omega) (by simpa using hs) hset h3 (h4.put hdst h5) (by omega)
      ·intro c fr' L' n' adr' x w' h3 h4 h5
       exact hp c fr' L' n' adr' x a w' h3 h4 h5
     | false =>
      simp only[Bool.false_eq_true,if_false]
      rw[putK_eq] at h2
      exact ih r bs' (i+1) _ _ _ adr _ _ _ f (by simp at hl;omega) hrd hbd (by omega) (by simpa using hs) hset h2 (hx1.put hdst (DenD.v _)) (by omega)
    | false =>
     obtain ⟨q,hq1,hq2,hq3⟩:=leading (false::bs')
     have hqpos:0<q:=by
      rcases Nat.eq_zero_or_pos q with h0|h0
      ·subst h0
       rcases hq3 with h1|⟨x,h1⟩ <;> simp at h1
      ·exact h0
     have hql:q≤(o::r).length:=by rw[← hlen];exact hq1
     have hlt:((o::r).take q).length=q:=by rw[List.length_take];omega
     have hol:(o::r).length=ops.size - m:=by rw[hd];simp
     have hqs:m+q≤ops.size:=by omega
     have hbs:∀ j,m≤j→j<m+q→bs0.getD j false=false:=fun j h1 h2=>by
      have h3:(false::bs')[j - m]?=some false:=by
       rw[hq2,List.getElem?_append_left (by simp;omega),List.getElem?_replicate_of_lt (by omega)]
      rw[hb,List.getElem?_drop] at h3
      rw[show m+(j - m)=j by omega] at h3
      simp[List.getD,h3]
     have hbar:m+q=ops.size∨bs0.getD (m+q) false=true:=by
      rcases hq3 with h1|⟨bs'',h1⟩
      ·left
       have:=congrArg List.length h1
       simp only[List.length_drop,List.length_nil] at this
       omega
      ·right
       have:=congrArg (·[0]?) h1
       rw[hb,List.drop_drop] at this
       simp only[List.getElem?_drop,List.getElem?_cons_zero,Nat.add_zero] at this
       simp[List.getD,this]
     rw[hq2] at h
     have hspl:(o::r)=(o::r).take q++(o::r).drop q:=(List.take_append_drop q (o::r)).symm
     rw[hspl] at h
     have hrep:List.replicate q false=List.replicate ((o::r).take q).length false:=by rw[hlt]
     rw[hrep] at h
     obtain ⟨frs,res,e1,e2,e3⟩:=seg_of_vc hT ((o::r).take q) ((o::r).drop q) _ m fr (fun i o' hi=>by
      rw[List.getElem?_take] at hi
      split at hi
      ·rw[hd,List.getElem?_drop,Array.getElem?_toList] at hi;exact hi
      ·cases hi) h
     rw[hlt] at e2 e3
     refine seg_any hR hbs hbar hqs e2 (by omega) ?_ fuel listed a w ⟨fun i hi=>(hE i).2 hi,fun i hi=>by have:=(hE i).1 hi;omega,hshut,⟨hx.size,hx.defers,(fun t s hl=>by cases hl),hx.wok,hx.glob,hx.base,hx.new,hx.same⟩,fun j h1 h2 t s hs' hc=>?_⟩ hs ?_
     ·intro listed' a' w' fuel' hs' hE' hx' hf'
      refine ih ((o::r).drop q) ((false::bs').drop q) (m+q) _ L n adr listed' a' w' fuel' (by rw[List.length_drop];simp at hl ⊢;omega) (by rw[hd,List.drop_drop]) (by rw[hb,List.drop_drop]) hqs hs' hE' e3 hx' hf'
     ·-- at the start
      have hnone:∀ i oi,m≤i→i<m+q→ops[i]?=some oi→oi.dst=some t→¬ i<j:=fun i oi g1 g2 g3 g4 hij=>by
       have:=(hE i).1 ((hc i oi g1 g2 g3 g4).2 hij);omega
      -- no writer ahead of j: the slot is as at the start
      have back:∀ jj,m≤jj→jj≤j→∀ s,look (frs jj) t=some s→∃ s0,look fr t=some s0∧∀ (adr:Env) (M:Nat→Prop) (w:World) (x:Value),DenV adr M w s0 x→DenV adr M w s x:=by
       intro jj
       induction jj with
       | zero =>
        intro g1 _ s hs
        obtain rfl:m=0:=by omega
        rw[e1] at hs
        exact ⟨s,hs,fun _ _ _ _ h=>h⟩
       | succ jj ihj =>
        intro g1 g2 s hs
        by_cases hmj:m=jj+1
        ·rw[← hmj,e1] at hs
         exact ⟨s,hs,fun _ _ _ _ h=>h⟩
        ·obtain ⟨o',run,fr1,k1,k2,k3,k4,k5,_,_⟩:=e2 jj (by omega) (by omega)
         rw[k5] at hs
         have hs2:look fr1 t=some s:=by
          cases hdd:o'.dst with
          | none=>rw[hdd] at hs;exact hs
          | some d =>
           rw[hdd] at hs
           simp only[putF] at hs
           rw[look_cons,if_neg (fun h=>hnone jj o' (by omega) (by omega) k1 (by rw[hdd,h]) (by omega))] at hs
           exact hs
         obtain ⟨s1,k6,k7⟩:=k4 t s hs2
         obtain ⟨s0,k8,k9⟩:=ihj (by omega) (by omega) s1 k6
         exact ⟨s0,k8,fun adr M w x hx=>k7 adr M w x (k9 adr M w x hx)⟩
      obtain ⟨s0,g1,g2⟩:=back j h1 (Nat.le_refl _) s hs'
      exact g2 _ _ _ _ (hx.fr t s0 g1)
     ·have:left listed m (m+q)≤q:=by
       unfold left
       have:=List.length_filter_le (fun i=>!listed.getD i false) (List.range' m (m+q - m))
       simp at this ⊢;omega
      omega
theorem region_any_ok (hT:Fits P tt) (hm:P.follows .mixedOrders=true) {id:Nat} {bs:List Bool} (hB:regB ops bs=true) {k:SK} {kp:C→SK} (hQ:∀ fr L n adr a w,k fr L n→Ok gl M0 S0 w0 N adr fr L n a w→Q .normal a w) (hp:PanOk gl M0 S0 w0 N kp Q)
 {fr:List (Nat×V)} {a:Act} {w:World} (h:vcAny P gl tt w0.fx N ops.toList ops.toList bs fr L n k kp) (hx:Ok gl M0 S0 w0 N adr fr L n a w):(Code.region id ops true).wp P Q a w:=by
 refine wp_region_any hm (vcAny_ok hT (regB_ok hB) hQ hp _ ops.toList bs 0 fr L n adr _ a w.drew _ (Nat.le_refl _) (by simp) (by simp) (by omega) (by simp) (fun i=>?_) h hx.drew (by omega))
 unfold Lst
 simp only[Array.getD_eq_getD_getElem?,Array.getElem?_replicate]
 constructor
 ·intro h;split at h <;> simp at h
 ·intro h;omega
end
def loudOp (o:Oper):Bool:=match o.op with
 | .alloc _=>true
 | .box _ _=>true
 | .store _ _ _=>true
 | .makeSlice _ _ _=>true
 | .makeMap _ _=>true
 | .mapUpdate _ _ _ _=>true
 | .insert _ _ _ _=>true
 | _=>false
noncomputable def loudAny (l:List Oper):List Bool→Bool :=
 List.rec (motive:=fun _=>List Bool→Bool) (fun _=>false) (fun o _ ih bs=>match bs with
  | true::bs=>ih bs
  | false::bs=>(match loudOp o with|true=>true|false=>ih bs)
  | []=>false) l
noncomputable def nthB (l:List Bool):Nat→Bool :=
 List.rec (motive:=fun _=>Nat→Bool) (fun _=>false) (fun b _ ih i=>match i with
  | 0=>b
  | i+1=>ih i) l
noncomputable def setB (l:List Bool):Nat→List Bool :=
 List.rec (motive:=fun _=>Nat→List Bool) (fun _=>[]) (fun b r ih i=>match i with
  | 0=>true::r
  | i+1=>b::ih i) l
theorem nthB_eq:∀ (l:List Bool) (i:Nat),nthB l i=l.getD i false
 | [],i=>rfl
 | b::r,0=>rfl
 | b::r,i+1=>by show nthB r i=_;rw[nthB_eq r i];rfl
theorem setB_get:∀ (l:List Bool) (i j:Nat),i<l.length→((setB l i).getD j false=true↔(l.getD j false=true∨j=i))
 | [],i,j,h=>by simp at h
 | b::r,0,j,h=>by
  show (true::r).getD j false=true↔_
  cases j <;> simp
 | b::r,i+1,j,h=>by
  show (b::setB r i).getD j false=true↔_
  cases j with
  | zero=>simp
  | succ j =>
   have:=setB_get r i j (by simpa using h)
   simp only[List.getD_cons_succ] at this ⊢
   rw[this]
   constructor
   ·rintro (h|h)
    ·exact .inl h
    ·exact .inr (by omega)
   ·rintro (h|h)
    ·exact .inl h
    ·exact .inr (by omega)
theorem setB_len:∀ (l:List Bool) (i:Nat),(setB l i).length=l.length
 | [],i=>rfl
 | b::r,0=>rfl
 | b::r,i+1=>by show (b::setB r i).length=_;simp[setB_len r i]
noncomputable def mayB (done:List Bool) (es:List Edge):Bool :=
 List.rec (motive:=fun _=>Bool) true (fun e _ ih=>match Region.binds .any e with
  | true=>(match nthB done e.on with|true=>ih|false=>false)
  | false=>ih) es
theorem mayB_ok {done:List Bool}:∀ {es:List Edge},(∀ e ∈ es,Region.binds .any e=true→done.getD e.on false=true)→mayB done es=true
 | [],_=>rfl
 | e::es,h=>by
  have ih:=mayB_ok (done:=done) (es:=es) fun e' he'=>h e' (by simp[he'])
  show (match Region.binds .any e with
   | true=>(match nthB done e.on with|true=>mayB done es|false=>false)
   | false=>mayB done es)=true
  cases hb:Region.binds .any e with
  | false=>exact ih
  | true =>
   have:=h e (by simp) hb
   rw[nthB_eq,this]
   exact ih
structure Both (p q:Prop):Prop where
 l:p
 r:q
def eachB (done:List Bool) (l:List Oper):Nat→(Nat→Oper→Prop)→Prop :=
 List.rec (motive:=fun _=>Nat→(Nat→Oper→Prop)→Prop) (fun _ _=>True) (fun o _ ih i K=>match nthB done i with
  | true=>ih (i+1) K
  | false=>(match mayB done o.after.toList with
   | true=>Both (K i o) (ih (i+1) K)
   | false=>ih (i+1) K)) l
theorem eachB_ok {done:List Bool} {K:Nat→Oper→Prop}:∀ {l:List Oper} {i:Nat},eachB done l i K→∀ (j:Nat) (o:Oper),l[j]?=some o→¬ done.getD (i+j) false=true→(∀ e ∈ o.after,Region.binds .any e=true→done.getD e.on false=true)→K (i+j) o
 | [],i,_,j,o,hj,_,_=>by simp at hj
 | o'::r,i,h,j,o,hj,hn,ha=>by
  replace h:(match nthB done i with
   | true=>eachB done r (i+1) K
   | false=>(match mayB done o'.after.toList with
    | true=>Both (K i o') (eachB done r (i+1) K)
    | false=>eachB done r (i+1) K)):=h
  cases j with
  | zero =>
   simp only[List.getElem?_cons_zero,Option.some.injEq] at hj
   subst hj
   have h1:nthB done i=false:=by rw[nthB_eq];simpa using hn
   rw[h1,mayB_ok fun e he=>ha e (by simpa using he)] at h
   exact h.l
  | succ j =>
   have hr:eachB done r (i+1) K:=by
    revert h
    cases nthB done i with
    | true=>exact id
    | false =>
     cases mayB done o'.after.toList with
     | true=>exact fun h=>h.r
     | false=>exact id
   have:=eachB_ok hr j o (by simpa using hj) (by rwa [show i+1+j=i+(j+1) by omega]) ha
   rwa [show i+1+j=i+(j+1) by omega] at this
def lK (l:List Bool):(List Bool→Prop)→Prop :=
 List.rec (motive:=fun _=>(List Bool→Prop)→Prop) (fun K=>K []) (fun b _ ih K=>match b with
  | true=>ih fun r'=>K (true::r')
  | false=>ih fun r'=>K (false::r')) l
theorem lK_eq:∀ (l:List Bool) (K:List Bool→Prop),lK l K=K l
 | [],K=>rfl
 | true::r,K=>by show lK r (fun r'=>K (true::r'))=_;rw[lK_eq r]
 | false::r,K=>by show lK r (fun r'=>K (false::r'))=_;rw[lK_eq r]
noncomputable def allB (l:List Bool):Bool:=List.rec (motive:=fun _=>Bool) true (fun b _ ih=>match b with|true=>ih|false=>false) l
noncomputable def falses (l:List Oper):List Bool:=List.rec (motive:=fun _=>List Bool) [] (fun _ _ ih=>false::ih) l
def takeB (done:List Bool) (l:List Oper):List Bool→Nat→(Nat→Oper→Prop)→Prop→Prop :=
 List.rec (motive:=fun _=>List Bool→Nat→(Nat→Oper→Prop)→Prop→Prop) (fun _ _ _ N=>N) (fun o _ ih tk i K N=>match tk with
  | []=>N
  | false::tk=>ih tk (i+1) K N
  | true::tk=>(match nthB done i with
   | true=>ih tk (i+1) K N
   | false=>(match mayB done o.after.toList with
    | true=>K i o
    | false=>ih tk (i+1) K N))) l
theorem mayB_get {done:List Bool}:∀ {es:List Edge},mayB done es=true→∀ e ∈ es,Region.binds .any e=true→done.getD e.on false=true
 | [],_,e,he,_=>by simp at he
 | e'::es,h,e,he,hb=>by
  replace h:(match Region.binds .any e' with
   | true=>(match nthB done e'.on with|true=>mayB done es|false=>false)
   | false=>mayB done es)=true:=h
  have hr:mayB done es=true:=by
   revert h
   cases Region.binds .any e' with
   | false=>exact id
   | true =>
    cases nthB done e'.on with
    | true=>exact id
    | false=>exact fun h=>nomatch h
  rcases List.mem_cons.1 he with rfl|he
  ·rw[hb] at h
   cases hn:nthB done e.on with
   | true=>rwa [nthB_eq] at hn
   | false=>rw[hn] at h;exact nomatch h
  ·exact mayB_get hr e he hb
theorem takeB_ok {done:List Bool} {K:Nat→Oper→Prop} {Nn:Prop}:∀ {l:List Oper} {tk:List Bool} {i:Nat},takeB done l tk i K Nn→Nn∨∃ j o,l[j]?=some o∧tk.getD j false=true∧¬ done.getD (i+j) false=true∧(∀ e ∈ o.after,Region.binds .any e=true→done.getD e.on false=true)∧K (i+j) o
 | [],tk,i,h=>.inl h
 | o::r,[],i,h=>.inl h
 | o::r,b::tk,i,h=>by
  have up:takeB done r tk (i+1) K Nn→Nn∨∃ j o',(o::r)[j]?=some o'∧(b::tk).getD j false=true∧¬ done.getD (i+j) false=true∧(∀ e ∈ o'.after,Region.binds .any e=true→done.getD e.on false=true)∧K (i+j) o':=fun h=>by
   rcases takeB_ok h with h|⟨j,o',h1,h2,h3,h4,h5⟩
   ·exact .inl h
   ·rw[show i+1+j=i+(j+1) by omega] at h3 h5
    exact .inr ⟨j+1,o',by simpa using h1,by simpa using h2,h3,h4,h5⟩
  cases b with
  | false=>exact up h
  | true =>
   replace h:(match nthB done i with
    | true=>takeB done r tk (i+1) K Nn
    | false=>(match mayB done o.after.toList with
     | true=>K i o
     | false=>takeB done r tk (i+1) K Nn)):=h
   cases h1:nthB done i with
   | true=>rw[h1] at h;exact up h
   | false =>
    rw[h1] at h
    cases h2:mayB done o.after.toList with
    | false=>rw[h2] at h;exact up h
    | true =>
     rw[h2] at h
     rw[nthB_eq] at h1
     exact .inr ⟨0,o,rfl,rfl,by simpa using h1,fun e he=>mayB_get h2 e (by simpa using he),h⟩
noncomputable def lowB (l:List Oper):Nat→Bool :=
 List.rec (motive:=fun _=>Nat→Bool) (fun _=>true) (fun o _ ih i=>(o.after.toList.all fun e=>!Region.binds .any e || Nat.blt e.on i) && ih (i+1)) l
def pureOf (o:Oper):Bool:=match o.guard,o.op with
 | none,.move _=>true
 | none,.assign _=>true
 | none,.nilCheck _=>true
 | none,.fieldAddr _ _ _=>true
 | none,.build _ _=>true
 | none,.extract _ _=>true
 | _,_=>false
def rNilP (c:C) (K:V→Prop):Prop :=
 match c with
 | .ptr k o=>K (.c (.ptr k o))
 | .elt z k i o=>K (.c (.elt z k i o))
 | .d (.imm l)=>K (.c (.d (.imm l)))
 | _=>False
def tOp (tt:List (Nat×TI)) (ev:Operand→Option V) (op:Op) (K:V→Prop):Prop:=match op with
 | .move x=>onS (ev x) K
 | .assign x=>onS (ev x) K
 | .nilCheck x=>onC (ev x) fun c=>rNilP c K
 | .fieldAddr t x f=>onC (ev x) fun c=>onT tt t fun ti=>rField ti f c K
 | .build t ps=>onT tt t fun ti=>rBuild tt ti (pvals ev ps.toList) K
 | .extract x i=>onS (ev x) fun s=>rExtract s i K
 | _=>False
theorem rField_any {P:Program} {t:Nat} {ti:TI} (h:FitsOne P t ti) {f:Nat} {c:C} {K:V→Prop} (hr:rField ti f c K) :
 ∃ s,K s∧∀ (adr:Env) (M:Nat→Prop) (w:World) (x:Value),DenC adr M w c x→∃ v,(∀ w',(Instr.fieldAt t x f).run P w'=.ok v w')∧DenV adr M w s v:=by
 unfold rField at hr
 split at hr
 ·rename_i off sz hf
  rw[nth_eq] at hf
  split at hr
  ·refine ⟨_,hr,fun adr M w x hx=>?_⟩
   obtain ⟨b,m,h1,rfl⟩:=hx
   exact ⟨_,fun w'=>h.field hf _ _ w',b,m,h1,rfl⟩
  ·rename_i z k i o
   refine ⟨_,hr,fun adr M w x hx=>?_⟩
   obtain ⟨b,m,h1,rfl⟩:=hx
   exact ⟨_,fun w'=>h.field hf _ _ w',b,m,h1,by rw[Nat.add_assoc]⟩
  ·rename_i l
   refine ⟨_,hr,fun adr M w x hx=>?_⟩
   cases hx with
   | imm _ b o cs hb hM hcell hden =>
    refine ⟨_,fun w'=>h.field hf _ _ w',?_⟩
    refine DenD.imm (l.drop off) b (o+off) (fun j=>cs (off+j)) hb hM (fun j d hj=>?_) (fun j d hj=>?_)
    ·rw[List.getElem?_drop] at hj
     rw[Nat.add_assoc];exact hcell (off+j) d hj
    ·rw[List.getElem?_drop] at hj
     exact hden (off+j) d hj
  ·exact hr.elim
 ·exact hr.elim
theorem tOp_ok {P:Program} {tt:List (Nat×TI)} (hT:Fits P tt) {ops:Array Oper} {o:Oper} {ev:Operand→Option V} {K:V→Prop} (h:tOp tt ev o.op K) (hp:pureOf o=true) :
 ∃ s,K s∧∀ (adr:Env) (M:Nat→Prop) (w:World) (a:Act),(∀ x s,ev x=some s→DenV adr M w s (a.eval x))→∃ v,Yields P ops o v a∧DenV adr M w s v:=by
 obtain ⟨dst,op,ty,pos,after,guard⟩:=o
 cases guard with
 | some g=>cases op <;> cases hp
 | none =>
  cases op with
  | move x =>
   obtain ⟨s,hs,hK⟩:=onS_ok h
   exact ⟨s,hK,fun adr M w a hx=>⟨a.eval x,.inl ⟨by simp[Region.wanted],fun w'=>rfl⟩,hx x s hs⟩⟩
  | assign x =>
   obtain ⟨s,hs,hK⟩:=onS_ok h
   exact ⟨s,hK,fun adr M w a hx=>⟨a.eval x,.inl ⟨by simp[Region.wanted],fun w'=>rfl⟩,hx x s hs⟩⟩
  | nilCheck x =>
   obtain ⟨c,hc,h1⟩:=onC_ok h
   replace h1:rNilP c K:=h1
   unfold rNilP at h1
   split at h1
   ·refine ⟨_,h1,fun adr M w a hx=>⟨a.eval x,.inl ⟨by simp[Region.wanted],fun w'=>?_⟩,hx x _ hc⟩⟩
    obtain ⟨b,m,_,e⟩:=hx x _ hc
    simp[execOp,e]
   ·refine ⟨_,h1,fun adr M w a hx=>⟨a.eval x,.inl ⟨by simp[Region.wanted],fun w'=>?_⟩,hx x _ hc⟩⟩
    obtain ⟨b,m,_,e⟩:=hx x _ hc
    simp[execOp,e]
   ·refine ⟨_,h1,fun adr M w a hx=>⟨a.eval x,.inl ⟨by simp[Region.wanted],fun w'=>?_⟩,hx x _ hc⟩⟩
    have e:DenD _ w _ _:=hx x _ hc
    cases hq:a.eval x <;> rw[hq] at e <;> cases e
    simp[execOp,hq]
   ·exact h1.elim
  | fieldAddr t x f =>
   obtain ⟨c,hc,h1⟩:=onC_ok h
   obtain ⟨ti,hl,h2⟩:=onT_ok h1
   obtain ⟨s,hK,hr⟩:=rField_any (hT t ti hl) h2
   refine ⟨s,hK,fun adr M w a hx=>?_⟩
   obtain ⟨v,h3,h4⟩:=hr adr M w _ (hx x _ hc)
   exact ⟨v,.inl ⟨by simp[Region.wanted],fun w'=>by simp only[execOp,Sem.run_bind,h3 w',Result.andThen_ok,Sem.run_pure]⟩,h4⟩
  | build t ps =>
   obtain ⟨ti,hl,h1⟩:=onT_ok h
   obtain ⟨s,hK,hr⟩:=rBuild_ok hT (hT t ti hl) h1
   refine ⟨s,hK,fun adr M w a hx=>?_⟩
   obtain ⟨v,h3,h4⟩:=hr adr M w (fun x=>a.eval x) (fun x _ s hs=>hx x s hs)
   have e:(ps.map fun (i,x)=>(i,a.eval x))=(ps.toList.map fun p=>(p.1,a.eval p.2)).toArray:=by apply Array.ext';simp
   exact ⟨v,.inl ⟨by simp[Region.wanted],fun w'=>by simp only[execOp,e,Sem.run_bind,h3 w',Result.andThen_ok,Sem.run_pure]⟩,h4⟩
  | extract x i =>
   obtain ⟨s0,hs0,h1⟩:=onS_ok h
   obtain ⟨s,hK,hr⟩:=rExtract_ok (P:=P) h1
   refine ⟨s,hK,fun adr M w a hx=>?_⟩
   obtain ⟨v,h3,h4⟩:=hr adr M w _ (hx x _ hs0)
   exact ⟨v,.inl ⟨by simp[Region.wanted],fun w'=>by simp only[execOp,Sem.run_bind,h3 w',Result.andThen_ok,Sem.run_pure]⟩,h4⟩
  | _=>cases hp
def takOp (ops:Array Oper) (i:Nat):Bool:=match ops[i]? with
 | some oi=>pureOf oi && (List.range ops.size).all fun j=>j==i || match ops[j]? with
  | some oj=>oj.after.toList.any (fun e=>Region.binds .any e && e.on==i) || (oi.after.toList.any (fun e=>Region.binds .any e && e.on==j) || oi.apart ops oj)
  | none=>true
 | none=>false
def taksOf (ops:Array Oper):List Bool:=(List.range ops.size).map (takOp ops)
noncomputable def enumB (ops:Array Oper) (tk:List Bool):Bool:=lowB ops.toList 0 && Region.noSelect ops && (List.range tk.length).all fun i=>!tk.getD i false || takOp ops i
def vcEnum (P:Program) (gl:List (Nat×List D)) (tt:List (Nat×TI)) (fx:List Nat) (N:Nat) (all:List Oper) (tk:List Bool) (fu:List Oper):List Bool→List (Nat×V)→List (Nat×Blk)→Nat→SK→(C→SK)→Prop :=
 List.rec (motive:=fun _=>List Bool→List (Nat×V)→List (Nat×Blk)→Nat→SK→(C→SK)→Prop) (fun _ fr L n k _=>k fr L n)
  (fun _ _ ih done fr L n k kp=>match allB done with
   | true=>k fr L n
   | false=>takeB done all tk 0 (fun i o=>onB (dstB N o.dst) (tOp tt (sval gl fr) o.op fun s=>putK o.dst s fr fun f=>lK (setB done i) fun d=>ih d f L n k kp)) (eachB done all 0 fun i o=>onB (dstB N o.dst) (onGuard all o.guard fr fun run fr1=>match run with
    | true=>xOp P gl tt fx o.op fr1 L n (fun s fr' L' n'=>putK o.dst s fr' fun f=>lK (setB done i) fun d=>ih d f L' n' k kp) kp
    | false=>putK o.dst undV fr1 fun f=>lK (setB done i) fun d=>ih d f L n k kp))) fu
section
variable {P:Program} {gl:List (Nat×List D)} {tt:List (Nat×TI)} {M0 S0:Nat→Prop} {w0:Base} {N:Nat} {ops:Array Oper} {Q:Exit→Act→World→Prop}
theorem allB_ok:∀ {l:List Bool},allB l=true→∀ i,i<l.length→l.getD i false=true
 | [],_,i,h=>by simp at h
 | b::r,h,i,hi=>by
  cases b with
  | false=>exact nomatch (show false=true from h)
  | true =>
   cases i with
   | zero=>rfl
   | succ i=>exact allB_ok (l:=r) h i (by simpa using hi)
def lacks (l:List Bool):Nat:=(l.filter fun b=>!b).length
theorem lacks_set:∀ (l:List Bool) (i:Nat),i<l.length→¬ l.getD i false=true→lacks (setB l i)<lacks l
 | [],i,h,_=>by simp at h
 | b::r,0,h,hn=>by
  cases b with
  | true=>simp at hn
  | false=>show lacks (true::r)<_;simp[lacks]
 | b::r,i+1,h,hn=>by
  have:=lacks_set r i (by simpa using h) (by simpa using hn)
  show lacks (b::setB r i)<_
  unfold lacks at this ⊢
  cases b <;> simp_all
theorem vcEnum_ok (hT:Fits P tt) {tk:List Bool} (hlow:∀ j o,ops[j]?=some o→∀ e ∈ o.after,Region.binds .any e=true→e.on<j) (hsel:Region.noSelect ops=true) (htk:∀ i,tk.getD i false=true→takOp ops i=true) (hput:∀ c a d v w,Q (.panic c) (a.put d v) w→Q (.panic c) a w) {k:SK} {kp:C→SK} (hQ:∀ fr L n adr a w,k fr L n→Ok gl M0 S0 w0 N adr fr L n a w→Q .normal a w) (hp:PanOk gl M0 S0 w0 N kp Q) :
 ∀ (fu:List Oper) (done:List Bool) (fr:List (Nat×V)) (L:List (Nat×Blk)) (n:Nat) (adr:Env) (listed:Array Bool) (a:Act) (w:World) (fuel:Nat),lacks done≤fu.length→lacks done≤fuel→done.length=ops.size→listed.size=ops.size→(∀ i,Lst listed i↔done.getD i false=true)→
  vcEnum P gl tt w0.fx N ops.toList tk fu done fr L n k kp→Ok gl M0 S0 w0 N adr fr L n a w→wpAny P .any ops Q fuel listed a w:=by
 have fin:∀ (done:List Bool) (fr:List (Nat×V)) (L:List (Nat×Blk)) (n:Nat) (adr:Env) (listed:Array Bool) (a:Act) (w:World) (fuel:Nat),(∀ i,i<ops.size→done.getD i false=true)→listed.size=ops.size→(∀ i,Lst listed i↔done.getD i false=true)→
  k fr L n→Ok gl M0 S0 w0 N adr fr L n a w→wpAny P .any ops Q fuel listed a w:=by
  intro done fr L n adr listed a w fuel hall hs hE h hx
  have hr:Region.ready .any ops listed=[]:=List.eq_nil_iff_forall_not_mem.2 fun j hj=>by
   obtain ⟨h1,o,ho,_⟩:=(ready_iff hs).1 hj
   exact h1 ((hE j).2 (hall j (Array.getElem?_eq_some_iff.1 ho).1))
  cases fuel with
  | zero=>exact ⟨hr,hQ _ _ _ _ _ _ h hx⟩
  | succ f=>exact ⟨fun _=>hQ _ _ _ _ _ _ h hx,by rw[hr];simp⟩
 intro fu
 induction fu with
 | nil =>
  intro done fr L n adr listed a w fuel hf _ hd hs hE h hx
  refine fin done fr L n adr listed a w fuel (fun i hi=>?_) hs hE h hx
  have h0:lacks done=0:=Nat.le_zero.1 hf
  unfold lacks at h0
  have h1:=List.eq_nil_of_length_eq_zero h0
  rw[List.filter_eq_nil_iff] at h1
  have h2:i<done.length:=by omega
  have h3:=h1 done[i] (List.getElem_mem h2)
  simpa[List.getD,List.getElem?_eq_getElem h2] using h3
 | cons o0 fu ih =>
  intro done fr L n adr listed a w fuel hf hfu hd hs hE h hx
  replace h:(match allB done with
   | true=>k fr L n
   | false=>takeB done ops.toList tk 0 (fun i o=>onB (dstB N o.dst) (tOp tt (sval gl fr) o.op fun s=>putK o.dst s fr fun f=>lK (setB done i) fun d=>vcEnum P gl tt w0.fx N ops.toList tk fu d f L n k kp)) (eachB done ops.toList 0 fun i o=>onB (dstB N o.dst) (onGuard ops.toList o.guard fr fun run fr1=>match run with
    | true=>xOp P gl tt w0.fx o.op fr1 L n (fun s fr' L' n'=>putK o.dst s fr' fun f=>lK (setB done i) fun d=>vcEnum P gl tt w0.fx N ops.toList tk fu d f L' n' k kp) kp
    | false=>putK o.dst undV fr1 fun f=>lK (setB done i) fun d=>vcEnum P gl tt w0.fx N ops.toList tk fu d f L n k kp))):=h
  cases hA:allB done with
  | true =>
   rw[hA] at h
   exact fin done fr L n adr listed a w fuel (fun i hi=>allB_ok hA i (by omega)) hs hE h hx
  | false =>
   rw[hA] at h
   by_cases hall:∀ i,i<ops.size→done.getD i false=true
   ·refine absurd hA ?_
    have:∀ (l:List Bool),(∀ i,i<l.length→l.getD i false=true)→allB l=true:=by
     intro l
     induction l with
     | nil=>intro _;rfl
     | cons b r ihr =>
      intro hl
      have h0:=hl 0 (by simp)
      simp at h0
      subst h0
      exact ihr fun i hi=>by simpa using hl (i+1) (by simpa using hi)
    rw[this done fun i hi=>hall i (by omega)]
    simp
   ·obtain ⟨j0,hj0⟩:∃ j,j<ops.size∧¬ Lst listed j:=Classical.byContradiction fun hc=>hall fun i hi=>(hE i).1 (Classical.byContradiction fun hni=>hc ⟨i,hi,hni⟩)
    obtain ⟨j,⟨hj,hnj⟩,hmin⟩:=exists_least (p:=fun j=>j<ops.size∧¬ Lst listed j) ⟨j0,hj0⟩
    have hoj:ops[j]?=some ops[j]:=Array.getElem?_eq_getElem hj
    have hrj:j ∈ Region.ready .any ops listed:=(ready_iff hs).2 ⟨hnj,_,hoj,fun e he hb=>by
     have hlt:=hlow j _ hoj e he hb
     rcases Classical.em (Lst listed e.on) with h1|h1
     ·exact h1
     ·have:=hmin e.on ⟨by omega,h1⟩;omega⟩
    have step:∀ i,i<done.length→¬ done.getD i false=true→lacks (setB done i)<lacks done:=lacks_set done
    obtain ⟨f,rfl⟩:∃ f,fuel=f+1:=⟨fuel - 1,by
     have:=step j (by omega) (fun hh=>hnj ((hE j).2 hh));omega⟩
    rcases takeB_ok h with h|⟨i,oi,hoi,hti,hni,hai,hK⟩
    case inr =>
     rw[Nat.zero_add] at hni hK
     have hoi':ops[i]?=some oi:=by simpa using hoi
     have his:i<ops.size:=(Array.getElem?_eq_some_iff.1 hoi').1
     have hl:=step i (by omega) hni
     have hset:∀ j,Lst (listed.setIfInBounds i true) j↔(setB done i).getD j false=true:=fun j=>by
      rw[← lst_set (by rw[hs];exact his),setB_get _ _ _ (by omega)]
      show (Lst listed j∨j=i)↔_
      rw[hE]
     simp only[List.length_cons] at hf
     obtain ⟨hdst,h1⟩:=onB_ok hK
     have hto:=htk i hti
     unfold takOp at hto
     simp only[hoi',Bool.and_eq_true] at hto
     obtain ⟨s,h1,hy⟩:=tOp_ok (P:=P) (ops:=ops) hT h1 hto.1
     obtain ⟨v,hy,hv⟩:=hy adr (Mut M0 adr L) w a (fun x s hs=>sval_ok hx.fr hx.glob hs)
     rw[putK_eq,lK_eq] at h1
     refine wpAny_first hoi' (Region.noSelect_spec hsel) (fun c a w=>hput c a _ _ w) f listed a w (fun j oj hj hji hlj hno=>?_) ((ready_iff hs).2 ⟨fun hh=>hni ((hE i).1 hh),oi,hoi',fun e he hb=>(hE _).2 (hai e he hb)⟩) hy ?_
     ·have h2:=List.all_eq_true.1 hto.2 j (List.mem_range.2 (Array.getElem?_eq_some_iff.1 hj).1)
      simp only[hj,Bool.or_eq_true,beq_iff_eq,hji,false_or] at h2
      rcases h2 with h2|h2
      ·obtain ⟨e,he,hb⟩:=List.any_eq_true.1 h2
       rw[Array.mem_toList_iff] at he
       simp only[Bool.and_eq_true,beq_iff_eq] at hb
       exact absurd hb.2 (hno e he hb.1)
      rcases h2 with h2|h2
      ·obtain ⟨e,he,hb⟩:=List.any_eq_true.1 h2
       rw[Array.mem_toList_iff] at he
       simp only[Bool.and_eq_true,beq_iff_eq] at hb
       have h3:Lst listed j:=hb.2 ▸ (hE _).2 (hai e he hb.1)
       have hjs:j<listed.size:=by rw[hs];exact (Array.getElem?_eq_some_iff.1 hj).1
       unfold Lst at h3
       simp only[Array.getD_eq_getD_getElem?,Array.getElem?_eq_getElem hjs,Option.getD_some] at h3 hlj
       rw[hlj] at h3
       cases h3
      ·exact h2
     ·exact ih (setB done i) _ _ _ adr _ _ _ f (by omega) (by omega) (by rw[setB_len];exact hd) (by simpa using hs) hset h1 (hx.put hdst hv)
    refine ⟨fun hr=>by rw[hr] at hrj;simp at hrj,fun i hi=>?_⟩
    obtain ⟨hni,oi,hoi,ha⟩:=(ready_iff hs).1 hi
    have his:i<ops.size:=(Array.getElem?_eq_some_iff.1 hoi).1
    have h0:=eachB_ok h i oi (by simpa using hoi) (by rw[Nat.zero_add];exact fun hh=>hni ((hE i).2 hh)) (fun e he hb=>(hE _).1 (ha e he hb))
    rw[Nat.zero_add] at h0
    have hset:∀ j,Lst (listed.setIfInBounds i true) j↔(setB done i).getD j false=true:=fun j=>by
     rw[← lst_set (by rw[hs];exact his),setB_get _ _ _ (by omega)]
     show (Lst listed j∨j=i)↔_
     rw[hE]
    have hl:=step i (by omega) (fun hh=>hni ((hE i).2 hh))
    simp only[List.length_cons] at hf
    obtain ⟨hdst,h1⟩:=onB_ok h0
    obtain ⟨run,fr1,h2,hg,hle⟩:=onGuard_ok h1
    have hw:=hg.wanted (adr:=adr) (M:=Mut M0 adr L) (w:=w) (a:=a) (fun t s _ hl=>hx.fr t s hl)
    have hx1:=hx.le hle
    unfold wpOp
    simp only[hoi,hw]
    cases run with
    | true =>
     simp only[if_true]
     refine .inl (xOp_ok hT h2 hx1 ?_ ?_)
     ·rintro v w' ⟨s,fr',L',n',adr',h3,h4,h5⟩
      rw[putK_eq,lK_eq] at h3
      exact ih (setB done i) _ _ _ adr' _ _ _ f (by omega) (by omega) (by rw[setB_len];exact hd) (by simpa using hs) hset h3 (h4.put hdst h5)
     ·intro c fr' L' n' adr' x w' h3 h4 h5
      exact hp c fr' L' n' adr' x a w' h3 h4 h5
    | false =>
     simp only[Bool.false_eq_true,if_false]
     rw[putK_eq,lK_eq] at h2
     exact ih (setB done i) _ _ _ adr _ _ _ f (by omega) (by omega) (by rw[setB_len];exact hd) (by simpa using hs) hset h2 (hx1.put hdst (DenD.v _))
theorem lowB_ok:∀ {l:List Oper} {i:Nat},lowB l i=true→∀ j o,l[j]?=some o→∀ e ∈ o.after,Region.binds .any e=true→e.on<i+j
 | [],i,_,j,o,hj,_,_,_=>by simp at hj
 | o'::r,i,h,j,o,hj,e,he,hb=>by
  replace h:((o'.after.toList.all fun e=>!Region.binds .any e || Nat.blt e.on i) && lowB r (i+1))=true:=h
  rw[Bool.and_eq_true] at h
  cases j with
  | zero =>
   simp only[List.getElem?_cons_zero,Option.some.injEq] at hj
   subst hj
   have:=List.all_eq_true.1 h.1 e (by simpa using he)
   rw[hb] at this
   simp[Nat.blt,Nat.ble_eq] at this
   omega
  | succ j =>
   have:=lowB_ok h.2 j o (by simpa using hj) e he hb
   omega
theorem region_enum_ok (hT:Fits P tt) (hm:P.follows .mixedOrders=true) {id:Nat} {tk:List Bool} (hB:enumB ops tk=true) (hput:∀ c a d v w,Q (.panic c) (a.put d v) w→Q (.panic c) a w) {k:SK} {kp:C→SK} (hQ:∀ fr L n adr a w,k fr L n→Ok gl M0 S0 w0 N adr fr L n a w→Q .normal a w) (hp:PanOk gl M0 S0 w0 N kp Q)
 {fr:List (Nat×V)} {L:List (Nat×Blk)} {n:Nat} {adr:Env} {a:Act} {w:World} (h:vcEnum P gl tt w0.fx N ops.toList tk ops.toList (falses ops.toList) fr L n k kp) (hx:Ok gl M0 S0 w0 N adr fr L n a w):(Code.region id ops true).wp P Q a w:=by
 have hf:∀ l:List Oper,falses l=List.replicate l.length false:=by
  intro l
  induction l with
  | nil=>rfl
  | cons o r ih=>show false::falses r=_;rw[ih];rfl
 rw[hf] at h
 have hl:lacks (List.replicate ops.toList.length false)≤ops.size:=by
  unfold lacks
  simp
 unfold enumB at hB
 simp only[Bool.and_eq_true] at hB
 refine wp_region_any hm (vcEnum_ok hT (fun j o ho=>by have:=lowB_ok hB.1.1 j o (by simpa using ho);rwa [Nat.zero_add] at this) hB.1.2 (fun i hi=>by
  have hlt:i<tk.length:=by
   rcases Nat.lt_or_ge i tk.length with h|h
   ·exact h
   ·simp[List.getD,List.getElem?_eq_none h] at hi
  have:=List.all_eq_true.1 hB.2 i (List.mem_range.2 hlt)
  rw[hi] at this
  simpa using this) hput hQ hp ops.toList _ fr L n adr _ a w.drew _ (by simpa using hl) hl (by simp) (by simp) (fun i=>?_) h hx.drew)
 unfold Lst
 simp only[Array.getD_eq_getD_getElem?,Array.getElem?_replicate,List.getD,List.getElem?_replicate]
 constructor
 ·intro h;split at h <;> simp at h
 ·intro h;split at h <;> simp at h
end
end Go.EYtfcmhmglpcimiaaGreatDoor
