/- Proved: a part of what the law is proved with (the reckoner, contracts of functions, plain laws). Conditions: as each says. -/
import Derived.Test.YtaheflnnigocgaaGreatDoorHEm
section
namespace Go.EYtaheflnnigocgaaGreatDoor
open Go Go.RowKit
def upOf (ms:List Nat) (es:List Edge):Nat:=es.foldl (fun m e=>bif Region.binds .any e then m ||| (1 <<< e.on) ||| ms.getD e.on 0 else m) 0
def masksGo:List Oper→List Nat→List Nat
 | [],ms=>ms
 | o::r,ms=>masksGo r (ms++[upOf ms o.after.toList])
def barB (ms:List Nat) (j q:Nat):Bool:=(ms.getD j 0==2 ^ j - 1) && (List.range q).all fun k=>decide (k≤j) || (ms.getD k 0).testBit j
def barsOf (l:List Oper):List Bool:=(List.range l.length).map fun j=>barB (masksGo l []) j l.length
def regB (ops:Array Oper) (bs:List Bool):Bool :=
 let ms:=masksGo ops.toList []
 (bs.length==ops.size) &&
 ((List.range ops.size).all fun j=>match ops[j]? with
  | some o=>(ms.getD j 0==upOf ms o.after.toList) && (o.after.toList.all fun e=>!Region.binds .any e || decide (e.on<j)) && (!bs.getD j false || barB ms j ops.size) &&
   (bs.getD j false || (List.range ops.size).all fun i=>bs.getD i false || i==j || match ops[i]? with
    | some o'=>match o'.dst with
     | some t=>(o.dst != some t) && (!(o.looksAt ops).contains t || (if i<j then (ms.getD j 0).testBit i else (ms.getD i 0).testBit j))
     | none=>true
    | none=>true)
  | none=>true)
structure RegOk (ops:Array Oper) (bs:List Bool) (ms:List Nat):Prop where
 len:bs.length=ops.size
 mask:∀ j o,ops[j]?=some o→ms.getD j 0=upOf ms o.after.toList
 low:∀ j o,ops[j]?=some o→∀ e ∈ o.after,Region.binds .any e=true→e.on<j
 bar:∀ j,j<ops.size→bs.getD j false=true→ms.getD j 0=2 ^ j - 1∧∀ k,j<k→k<ops.size→(ms.getD k 0).testBit j=true
 ssa:∀ i j o o' t,ops[j]?=some o→ops[i]?=some o'→bs.getD i false=false→bs.getD j false=false→i≠j→o'.dst=some t→o.dst≠some t
 readL:∀ i j o o' t,ops[j]?=some o→ops[i]?=some o'→bs.getD i false=false→bs.getD j false=false→o'.dst=some t→t ∈ o.looksAt ops→i<j→(ms.getD j 0).testBit i=true
 readR:∀ i j o o' t,ops[j]?=some o→ops[i]?=some o'→bs.getD i false=false→bs.getD j false=false→o'.dst=some t→t ∈ o.looksAt ops→j<i→(ms.getD i 0).testBit j=true
theorem regB_ok {ops:Array Oper} {bs:List Bool} (h:regB ops bs=true):RegOk ops bs (masksGo ops.toList []):=by
 unfold regB at h
 simp only[Bool.and_eq_true,beq_iff_eq,List.all_eq_true,List.mem_range] at h
 obtain ⟨h1,h2⟩:=h
 have lt:∀ {j:Nat} {o:Oper},ops[j]?=some o→j<ops.size:=fun h=>(Array.getElem?_eq_some_iff.1 h).1
 have all:∀ j o,ops[j]?=some o→_:=fun j o ho=>by
  have:=h2 j (lt ho)
  rw[ho] at this
  simp only[Bool.and_eq_true,Bool.or_eq_true,beq_iff_eq,List.all_eq_true,List.mem_range,Bool.not_eq_true',decide_eq_true_eq] at this
  exact this
 have pair:∀ i j o o' t,ops[j]?=some o→ops[i]?=some o'→bs.getD i false=false→bs.getD j false=false→i≠j→o'.dst=some t→
  o.dst≠some t∧(t ∈ o.looksAt ops→if i<j then ((masksGo ops.toList []).getD j 0).testBit i=true else ((masksGo ops.toList []).getD i 0).testBit j=true):=by
  intro i j o o' t hj hi bi bj hij ht
  obtain ⟨⟨⟨_,_⟩,_⟩,h5⟩:=all j o hj
  rcases h5 with h5|h5
  ·rw[bj] at h5;cases h5
  ·rcases h5 i (lt hi) with (h6|h6)|h6
   ·rw[bi] at h6;cases h6
   ·exact absurd h6 hij
   ·rw[hi] at h6
    simp only[ht,Bool.and_eq_true,bne_iff_ne,Bool.or_eq_true,Bool.not_eq_true'] at h6
    refine ⟨h6.1,fun hm=>?_⟩
    rcases h6.2 with h7|h7
    ·rw[List.contains_eq_mem,decide_eq_false_iff_not] at h7
     exact absurd hm h7
    ·split at h7
     ·rename_i hlt;rw[if_pos hlt];exact h7
     ·rename_i hlt;rw[if_neg hlt];exact h7
 refine ⟨h1,fun j o ho=>(all j o ho).1.1.1,fun j o ho e he hb=>?_,fun j hj hb=>?_,fun i j o o' t hj hi bi bj hij ht=>(pair i j o o' t hj hi bi bj hij ht).1,fun i j o o' t hj hi bi bj ht hm hlt=>?_,fun i j o o' t hj hi bi bj ht hm hlt=>?_⟩
 ·rcases (all j o ho).1.1.2 e (by simpa using he) with h3|h3
  ·rw[hb] at h3;cases h3
  ·exact h3
 ·obtain ⟨o,ho⟩:∃ o,ops[j]?=some o:=⟨_,Array.getElem?_eq_getElem hj⟩
  rcases (all j o ho).1.2 with h3|h3
  ·rw[hb] at h3;cases h3
  ·unfold barB at h3
   simp only[Bool.and_eq_true,beq_iff_eq,List.all_eq_true,List.mem_range,Bool.or_eq_true,decide_eq_true_eq] at h3
   refine ⟨h3.1,fun k hk hks=>?_⟩
   rcases h3.2 k hks with h4|h4
   ·omega
   ·exact h4
 ·have:=(pair i j o o' t hj hi bi bj (by omega) ht).2 hm
  rwa [if_pos hlt] at this
 ·have:=(pair i j o o' t hj hi bi bj (by omega) ht).2 hm
  rwa [if_neg (by omega)] at this
theorem upOf_bit {ms:List Nat} {i:Nat}:∀ {es:List Edge} {m:Nat},(es.foldl (fun m e=>bif Region.binds .any e then m ||| (1 <<< e.on) ||| ms.getD e.on 0 else m) m).testBit i=true→
 m.testBit i=true∨∃ e ∈ es,Region.binds .any e=true∧(e.on=i∨(ms.getD e.on 0).testBit i=true)
 | [],m,h=>.inl h
 | e::es,m,h=>by
  simp only[List.foldl_cons] at h
  rcases upOf_bit h with h1|⟨e',he',h2⟩
  ·cases hb:Region.binds .any e with
   | false=>rw[hb] at h1;exact .inl h1
   | true =>
    rw[hb] at h1
    simp only[cond_true,Nat.testBit_or,Bool.or_eq_true] at h1
    rcases h1 with (h1|h1)|h1
    ·exact .inl h1
    ·refine .inr ⟨e,by simp,hb,.inl ?_⟩
     rw[Nat.one_shiftLeft,Nat.testBit_two_pow] at h1
     simpa using h1
    ·exact .inr ⟨e,by simp,hb,.inr h1⟩
  ·exact .inr ⟨e',by simp[he'],h2⟩
def Shut (ops:Array Oper) (E:Nat→Prop):Prop:=∀ i o,ops[i]?=some o→E i→∀ e ∈ o.after,Region.binds .any e=true→E e.on
theorem mask_ok {ops:Array Oper} {bs:List Bool} {ms:List Nat} (hR:RegOk ops bs ms) {E:Nat→Prop} (hE:Shut ops E):∀ (j:Nat) (o:Oper),ops[j]?=some o→(∀ e ∈ o.after,Region.binds .any e=true→E e.on)→∀ i,(ms.getD j 0).testBit i=true→E i:=by
 intro j
 induction j using Nat.strongRecOn with
 | _ j ih =>
  intro o ho ha i hi
  rw[hR.mask j o ho] at hi
  rcases upOf_bit hi with h1|⟨e,he,hb,h1|h1⟩
  ·simp at h1
  ·rw[← h1];exact ha e (by simpa using he) hb
  ·have he':e ∈ o.after:=by simpa using he
   have hlt:=hR.low j o ho e he' hb
   have hj:j<ops.size:=(Array.getElem?_eq_some_iff.1 ho).1
   have ho':ops[e.on]?=some ops[e.on]:=Array.getElem?_eq_getElem (by omega)
   exact ih e.on hlt _ ho' (hE _ _ ho' (ha e he' hb)) i h1
theorem mask_in {ops:Array Oper} {bs:List Bool} {ms:List Nat} (hR:RegOk ops bs ms) {E:Nat→Prop} (hE:Shut ops E) {j:Nat} {o:Oper} (ho:ops[j]?=some o) (hj:E j) {i:Nat} (hi:(ms.getD j 0).testBit i=true):E i :=
 mask_ok hR hE j o ho (hE j o ho hj) i hi
def vcAny (P:Program) (gl:List (Nat×List D)) (tt:List (Nat×TI)) (fx:List Nat) (N:Nat) (all l:List Oper):List Bool→List (Nat×V)→List (Nat×Blk)→Nat→SK→(C→SK)→Prop :=
 List.rec (motive:=fun _=>List Bool→List (Nat×V)→List (Nat×Blk)→Nat→SK→(C→SK)→Prop) (fun _ fr L n k _=>k fr L n)
  (fun o _ ih bs fr L n k kp=>match bs with
  | b::bs=>onB (dstB N o.dst) (onGuard all o.guard fr fun run fr1=>match run with
   | true=>(match b with
    | true=>xOp P gl tt fx o.op fr1 L n (fun s fr' L' n'=>putK o.dst s fr' fun f=>ih bs f L' n' k kp) kp
    | false=>qOp P gl tt o.op fr1 L fun s=>putK o.dst s fr1 fun f=>ih bs f L n k kp)
   | false=>putK o.dst undV fr1 fun f=>ih bs f L n k kp)
  | []=>False) l
def Step (P:Program) (gl:List (Nat×List D)) (N:Nat) (L:List (Nat×Blk)) (ops:Array Oper) (j:Nat) (fr fr':List (Nat×V)) (s:V):Prop :=
 ∃ o run fr1,ops[j]?=some o∧dstB N o.dst=true∧GuardIs ops o fr run∧FrLe fr fr1∧fr'=putF fr1 o.dst s∧(run=true→Quiet P gl fr1 L o s)∧(run=false→s=undV)
section
variable {P:Program} {gl:List (Nat×List D)} {tt:List (Nat×TI)} {M0 S0:Nat→Prop} {w0:Base} {N:Nat} {adr:Env} {L:List (Nat×Blk)} {n:Nat}
theorem seg_of_vc {fx:List Nat} (hT:Fits P tt) {ops:Array Oper} {k:SK} {kp:C→SK}:∀ (l:List Oper) (rest:List Oper) (bs:List Bool) (m:Nat) (fr:List (Nat×V)),(∀ i o,l[i]?=some o→ops[m+i]?=some o)→
 vcAny P gl tt fx N ops.toList (l++rest) (List.replicate l.length false++bs) fr L n k kp→
 ∃ (frs:Nat→List (Nat×V)) (res:Nat→V),frs m=fr∧(∀ j,m≤j→j<m+l.length→Step P gl N L ops j (frs j) (frs (j+1)) (res j))∧vcAny P gl tt fx N ops.toList rest bs (frs (m+l.length)) L n k kp
 | [],rest,bs,m,fr,_,h=>⟨fun _=>fr,fun _=>undV,rfl,fun j h1 h2=>by simp at h2;omega,h⟩
 | o::l,rest,bs,m,fr,ho,h=>by
  obtain ⟨hd,h1⟩:=onB_ok (show onB (dstB N o.dst) _ from h)
  obtain ⟨run,fr1,h2,hg,hle⟩:=onGuard_ok h1
  have ho':∀ i o',l[i]?=some o'→ops[m+1+i]?=some o':=fun i o' hi=>by
   have:=ho (i+1) o' (by simpa using hi)
   rwa [show m+1+i=m+(i+1) by omega]
  have fin:∀ s,(run=true→Quiet P gl fr1 L o s)→(run=false→s=undV)→vcAny P gl tt fx N ops.toList (l++rest) (List.replicate l.length false++bs) (putF fr1 o.dst s) L n k kp→
   ∃ (frs:Nat→List (Nat×V)) (res:Nat→V),frs m=fr∧(∀ j,m≤j→j<m+(o::l).length→Step P gl N L ops j (frs j) (frs (j+1)) (res j))∧vcAny P gl tt fx N ops.toList rest bs (frs (m+(o::l).length)) L n k kp:=by
   intro s q1 q2 hv
   obtain ⟨frs,res,e1,e2,e3⟩:=seg_of_vc hT l rest bs (m+1) _ ho' hv
   refine ⟨fun j=>if j=m then fr else frs j,fun j=>if j=m then s else res j,by simp,fun j h3 h4=>?_,?_⟩
   ·by_cases hjm:j=m
    ·subst hjm
     dsimp only
     rw[if_pos rfl,if_neg (by omega),if_pos rfl]
     refine ⟨o,run,fr1,ho 0 o rfl,hd,hg,hle,?_,q1,q2⟩
     exact e1
    ·dsimp only
     rw[if_neg hjm,if_neg (by omega),if_neg hjm]
     exact e2 j (by omega) (by simp at h4;omega)
   ·dsimp only
    rw[if_neg (by simp)]
    rw[show m+(o::l).length=m+1+l.length by simp;omega]
    exact e3
  cases run with
  | true =>
   obtain ⟨s,hK,hq⟩:=qOp_ok hT h2
   rw[putK_eq] at hK
   exact fin s (fun _=>hq) (fun h=>by cases h) hK
  | false =>
   rw[putK_eq] at h2
   exact fin undV (fun h=>by cases h) (fun _=>rfl) h2
structure InSeg (gl:List (Nat×List D)) (M0 S0:Nat→Prop) (w0:Base) (N:Nat) (adr:Env) (L:List (Nat×Blk)) (n:Nat) (ops:Array Oper) (m m2:Nat) (frs:Nat→List (Nat×V)) (E:Nat→Prop) (a:Act) (w:World):Prop where
 lo:∀ i,i<m→E i
 hi:∀ i,E i→i<m2
 shut:Shut ops E
 ok:Ok gl M0 S0 w0 N adr [] L n a w
 fr:∀ j,m≤j→j≤m2→∀ t s,look (frs j) t=some s→(∀ i o,m≤i→i<m2→ops[i]?=some o→o.dst=some t→(E i↔i<j))→DenV adr (Mut M0 adr L) w s (a.tmps.getD t undef)
variable {ops:Array Oper} {bs:List Bool} {ms:List Nat} {m m2:Nat} {frs:Nat→List (Nat×V)} {res:Nat→V}
theorem seg_trace (hR:RegOk ops bs ms) (hbs:∀ j,m≤j→j<m2→bs.getD j false=false) (hS:∀ j,m≤j→j<m2→Step P gl N L ops j (frs j) (frs (j+1)) (res j)) {j0 t:Nat} {o:Oper} (h0:m≤j0) (h1:j0<m2) (ho:ops[j0]?=some o) (ht:o.dst=some t) :
 ∀ j,j0<j→j≤m2→∀ s,look (frs j) t=some s→∀ (adr:Env) (M:Nat→Prop) (w:World) (x:Value),DenV adr M w (res j0) x→DenV adr M w s x:=by
 intro j
 induction j with
 | zero=>intro h;omega
 | succ j ih =>
  intro hj hj2 s hs adr M w x hx
  obtain ⟨o',run,fr1,e1,e2,e3,e4,e5,_,_⟩:=hS j (by omega) (by omega)
  rw[e5] at hs
  by_cases hjj:j=j0
  ·subst hjj
   rw[ho] at e1;cases e1
   rw[ht] at hs
   simp only[putF] at hs
   rw[look_cons,if_pos rfl] at hs
   cases hs;exact hx
  ·have hne:o'.dst≠some t:=hR.ssa j0 j o' o t e1 ho (hbs j0 h0 h1) (hbs j (by omega) (by omega)) (by omega) ht
   have hs':look fr1 t=some s:=by
    cases hd:o'.dst with
    | none=>rw[hd] at hs;exact hs
    | some d =>
     rw[hd] at hs
     simp only[putF] at hs
     rw[look_cons,if_neg (fun h=>hne (by rw[hd,h]))] at hs
     exact hs
   obtain ⟨s0,g1,g2⟩:=e4 t s hs'
   exact g2 adr M w x (ih (by omega) (by omega) s0 g1 adr M w x hx)
theorem InSeg.look (hR:RegOk ops bs ms) (hbs:∀ j,m≤j→j<m2→bs.getD j false=false) {E:Nat→Prop} {a:Act} {w:World} (h:InSeg gl M0 S0 w0 N adr L n ops m m2 frs E a w) {j:Nat} {o:Oper} (hj:m≤j) (hj2:j<m2) (ho:ops[j]?=some o) (hE:¬ E j)
 (ha:∀ e ∈ o.after,Region.binds .any e=true→E e.on) {t:Nat} {s:V} (ht:t ∈ o.looksAt ops) (hs:EYtaheflnnigocgaaGreatDoor.look (frs j) t=some s):DenV adr (Mut M0 adr L) w s (a.tmps.getD t undef):=by
 refine h.fr j hj (by omega) t s hs fun i o' h1 h2 hi hd=>?_
 constructor
 ·intro hEi
  rcases Nat.lt_trichotomy i j with h3|h3|h3
  ·exact h3
  ·subst h3;exact absurd hEi hE
  ·exact absurd (mask_in hR h.shut hi hEi (hR.readR i j o o' t ho hi (hbs i h1 h2) (hbs j hj hj2) hd ht h3)) hE
 ·intro hlt
  exact mask_ok hR h.shut j o ho ha i (hR.readL i j o o' t ho hi (hbs i h1 h2) (hbs j hj hj2) hd ht hlt)
theorem InSeg.step (hR:RegOk ops bs ms) (hbs:∀ j,m≤j→j<m2→bs.getD j false=false) (hS:∀ j,m≤j→j<m2→Step P gl N L ops j (frs j) (frs (j+1)) (res j)) {E:Nat→Prop} {a:Act} {w:World} (h:InSeg gl M0 S0 w0 N adr L n ops m m2 frs E a w) {j:Nat} {o:Oper}
 (hj:m≤j) (hj2:j<m2) (ho:ops[j]?=some o) (hE:¬ E j) (ha:∀ e ∈ o.after,Region.binds .any e=true→E e.on) {Q:Exit→Act→World→Prop} {K:Act→World→Prop}
 (hK:∀ a' w',InSeg gl M0 S0 w0 N adr L n ops m m2 frs (fun i=>E i∨i=j) a' w'→K a' w'):wpOp P ops Q j K a w:=by
 obtain ⟨o',run,fr1,e1,e2,e3,e4,e5,e6,e7⟩:=hS j hj hj2
 rw[ho] at e1;cases e1
 have hw:=e3.wanted (adr:=adr) (M:=Mut M0 adr L) (w:=w) (a:=a) (fun t s ht hl=>h.look hR hbs hj hj2 ho hE ha ht hl)
 have fin:∀ v w',Evo (fun _=>False) w w'→DenV adr (Mut M0 adr L) w' (res j) v→K (a.put o.dst v) w':=by
  intro v w' hEv hv
  refine hK _ _ ⟨fun i hi=>.inl (h.lo i hi),fun i hi=>?_,fun i oi hoi hi e he hb=>?_,?_,fun jj h1 h2 t s hs hc=>?_⟩
  ·rcases hi with hi|hi
   ·exact h.hi i hi
   ·omega
  ·rcases hi with hi|hi
   ·exact .inl (h.shut i oi hoi hi e he hb)
   ·subst hi;rw[ho] at hoi;cases hoi;exact .inl (ha e he hb)
  ·have h1:=h.ok.evo hEv
   exact ⟨by rw[put_size];exact h1.size,by rw[put_defers];exact h1.defers,(fun t s hl=>by cases hl),h1.wok,h1.glob,h1.base,h1.new,h1.same⟩
  ·by_cases hd:o.dst=some t
   ·have h3:j<jj:=(hc j o hj hj2 ho hd).1 (.inr rfl)
    have hN:a.tmps.size=N:=h.ok.size
    have:=seg_trace hR hbs hS hj hj2 ho hd jj h3 h2 s hs adr (Mut M0 adr L) w' v hv
    rw[hd] at e2 ⊢
    rw[tmps_put hN e2,if_pos rfl]
    exact this
   ·have:(a.put o.dst v).tmps.getD t undef=a.tmps.getD t undef:=by
     cases hq:o.dst with
     | none=>rfl
     | some d =>
      rw[hq] at e2 hd
      rw[tmps_put h.ok.size e2,if_neg (fun h=>hd (by rw[h]))]
    rw[this]
    refine (h.fr jj h1 h2 t s hs fun i oi g1 g2 g3 g4=>?_).evo hEv (fun _ _ h=>h.elim) (fun _ _ h=>h) (fun _ _ _ h=>h)
    rw[← hc i oi g1 g2 g3 g4]
    constructor
    ·exact .inl
    ·rintro (h5|h5)
     ·exact h5
     ·subst h5;rw[ho] at g3;cases g3;exact absurd g4 hd
 unfold wpOp
 simp only[ho,hw]
 cases run with
 | true =>
  simp only[if_true]
  refine .inl (e6 rfl M0 adr n w a K Q h.ok.wok h.ok.glob (fun x hx s hs=>?_) fin)
  cases x with
  | tmp t =>
   obtain ⟨s0,g1,g2⟩:=e4 t s hs
   refine g2 _ _ _ _ (h.look hR hbs hj hj2 ho hE ha ?_ g1)
   unfold Oper.looksAt
   exact List.mem_append_left _ (List.mem_filterMap.2 ⟨.tmp t,hx,rfl⟩)
  | const v=>exact sval_ok (gl:=gl) (fr:=[]) (fun t s h=>by cases h) h.ok.glob hs
  | global g=>exact sval_ok (gl:=gl) (fr:=[]) (fun t s h=>by cases h) h.ok.glob hs
  | func f=>exact sval_ok (gl:=gl) (fr:=[]) (fun t s h=>by cases h) h.ok.glob hs
 | false =>
  simp only[Bool.false_eq_true,if_false]
  exact fin _ _ (Evo.refl _ _) (by rw[e7 rfl];exact DenD.v _)
end
end Go.EYtaheflnnigocgaaGreatDoor
end
