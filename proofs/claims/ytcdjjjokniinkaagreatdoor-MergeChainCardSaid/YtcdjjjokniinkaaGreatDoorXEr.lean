/- Proved: a part of what the law is proved with (the reckoner, contracts of functions, plain laws). Conditions: as each says. -/
import Derived.Shelf.SlSortCmp.NoneTotal
import Derived.ScopeJumps
import Derived.Test.YtcdjjjokniinkaaGreatDoorXBase
import Derived.Test.YtcdjjjokniinkaaGreatDoorXFo
import Derived.Test.YtcdjjjokniinkaaGreatDoorXJr
section
namespace Go.Proofs.YtcdjjjokniinkaaGreatDoor
open Go Go.RowKit Go.EYtcdjjjokniinkaaGreatDoor Go.Sort
set_option maxRecDepth 100000
set_option maxHeartbeats 4000000
variable {gl:List (Nat×List D)}
abbrev encC (p:Int×Int):List Value:=[.int .i64 p.1,.int .i64 p.2]
abbrev cfC (p q:Int×Int):Int:=orZ (cmpZ p.2 q.2) (cmpZ p.1 q.1)
abbrev lesP (p q:Int×Int):Prop:=p.2<q.2∨p.2=q.2∧p.1<q.1
theorem ltC_eq (p q:Int×Int):ltOf cfC p q=decide (lesP p q):=by
 unfold ltOf
 have:cfC p q<0↔lesP p q:=by
  unfold cfC orZ cmpZ lesP
  (repeat' split) <;> omega
 simp[this]
theorem swoC:SWO (ltOf cfC) where
 irrefl x:=by rw[ltC_eq];simp[lesP]
 trans x y z h1 h2:=by
  rw[ltC_eq] at *
  simp only[decide_eq_true_eq] at *
  unfold lesP at *
  omega
 ntrans x y z h1 h2:=by
  rw[ltC_eq] at *
  simp only[decide_eq_false_iff_not] at *
  unfold lesP at *
  omega
theorem totC (x y:Int×Int) (h1:ltOf cfC x y=false) (h2:ltOf cfC y x=false):x=y:=by
 rw[ltC_eq] at *
 simp only[decide_eq_false_iff_not] at *
 unfold lesP at *
 exact Prod.ext (by omega) (by omega)
def sortC (m:List (Int×Int)):List (Int×Int):=m.mergeSort fun x y=>!(ltOf cfC) y x
theorem sortC_perm (m:List (Int×Int)):(sortC m).Perm m:=List.mergeSort_perm m _
theorem sortC_len (m:List (Int×Int)):(sortC m).length=m.length:=(sortC_perm m).length_eq
theorem sortC_mem {m:List (Int×Int)} {p:Int×Int}:p ∈ sortC m↔p ∈ m:=(sortC_perm m).mem_iff
theorem sortC_sorted (m:List (Int×Int)):(sortC m).Pairwise fun x y=>¬ lesP y x:=by
 have h:=List.pairwise_mergeSort (le:=fun x y:Int×Int=>!(ltOf cfC) y x) (fun a b c h1 h2=>by
  simp only[ltC_eq,Bool.not_eq_true',decide_eq_false_iff_not] at *
  unfold lesP at *
  omega) (fun a b=>by
  simp only[ltC_eq,Bool.or_eq_true,Bool.not_eq_true',decide_eq_false_iff_not]
  unfold lesP
  omega) m
 refine h.imp fun {a b} hab=>?_
 simp only[ltC_eq,Bool.not_eq_true',decide_eq_false_iff_not] at hab
 exact hab
theorem flatC (m:List (Int×Int)):(flatK encC 2 m.toArray).toList=m.flatMap encC:=by
 have key:∀ (m:List (Int×Int)) (t:Nat),t<m.length * 2→(m.flatMap encC)[t]?=some ((encC m.toArray[t / 2]!)[t % 2]!):=by
  intro m
  induction m with
  | nil=>intro t h;simp at h
  | cons p m ih =>
   intro t h
   match t with
   | 0=>simp
   | 1=>simp
   | t+2 =>
    have h':t<m.length * 2:=by simp at h;omega
    have e1:(t+2) / 2=t / 2+1:=by omega
    have e2:(t+2) % 2=t % 2:=by omega
    rw[e1,e2]
    have:=ih t h'
    simp only[List.flatMap_cons,encC,List.cons_append,List.nil_append,List.getElem?_cons_succ]
    rw[show (List.flatMap (fun p:Int×Int=>[Value.int .i64 p.1,Value.int .i64 p.2]) m)[t]?=(m.flatMap encC)[t]? from rfl,this]
    simp
 apply List.ext_getElem?
 intro t
 by_cases h:t<m.length * 2
 ·rw[key m t h]
  simp only[flatK,Array.toList_map,List.getElem?_map]
  have:t<m.toArray.size * 2:=by simpa using h
  simp
  exact ⟨t,by rw[List.getElem?_range h],rfl⟩
 ·have hl:(m.flatMap encC).length=m.length * 2:=by
   clear key h
   induction m with
   | nil=>rfl
   | cons p m ih=>rw[List.flatMap_cons,List.length_append,ih,List.length_cons];simp;omega
  rw[List.getElem?_eq_none (by simp;omega),List.getElem?_eq_none (by omega)]
theorem rowsC_val {M:Nat→Prop} {w:World}:∀ {m:List (Int×Int)} {xs:List Value},DenL M w (m.map rowC).flatten xs→xs=m.flatMap encC
 | [],[],_=>rfl
 | [],_::_,h=>h.elim
 | p::m,xs,h=>by
  rw[List.map_cons,List.flatten_cons] at h
  match xs,h with
  | x::y::xs,⟨h1,h2,h3⟩ =>
   rw[DenD.v_inv h1,DenD.v_inv h2,rowsC_val h3]
   rfl
  | [x],⟨_,h2⟩=>exact h2.elim
  | [],h=>exact h.elim
theorem rowsC_den {M:Nat→Prop} {w:World}:∀ m:List (Int×Int),DenL M w (m.map rowC).flatten (m.flatMap encC)
 | []=>trivial
 | p::m=>by
  rw[List.map_cons,List.flatten_cons,List.flatMap_cons]
  exact ⟨.v _,.v _,rowsC_den m⟩
theorem put_take {F cur:Array Value} (h:F.size≤cur.size):(putCells id 0 F cur).toList.take F.size=F.toList∧(putCells id 0 F cur).size=cur.size:=by
 refine ⟨?_,by simp[putCells]⟩
 apply List.ext_getElem?
 intro k
 rw[List.getElem?_take]
 by_cases hk:k<F.size
 ·rw[if_pos hk]
  have hc:k<cur.size:=by omega
  simp[putCells,hk,hc]
 ·rw[if_neg hk,List.getElem?_eq_none (by simpa using Nat.le_of_not_lt hk)]
theorem sort_world {w:World} {b n:Nat} {cur:Array Value} {e:TypeId} (d:Array (Int×Int)) (os:Array Obj) (h:w.heap[b]?=some (Obj.cells cur e (0,0))) :
 (sortWorldK encC 2 w b 0 n d os).heap[b]?=some (Obj.cells (putCells id 0 (flatK encC 2 d) cur) e (0,0))∧Evo (fun x=>x=b) w (sortWorldK encC 2 w b 0 n d os):=by
 have hb:b<w.heap.size:=(Array.getElem?_eq_some_iff.1 h).1
 have hat:∀ x,x<w.heap.size→(sortWorldK encC 2 w b 0 n d os).heap[x]?=(w.heap[x]?).map (fun o=>if b=x then onCells (putCells id 0 (flatK encC 2 d)) o else o):=fun x hx=>by
  show ((w.heap.modify b (onCells (putCells id 0 (flatK encC 2 d))))++os)[x]?=_
  rw[Array.getElem?_append_left (by simpa using hx),Array.getElem?_modify]
  by_cases hbx:b=x
  ·rw[if_pos hbx]
   simp[hbx]
  ·rw[if_neg hbx]
   simp[hbx]
 refine ⟨by rw[hat b hb,h];simp[onCells],rfl,rfl,rfl,?_,fun x hx hn=>?_,fun x c e' f' hc=>?_⟩
 ·show w.heap.size≤((w.heap.modify b _)++os).size
  simp
 ·rw[hat x hx]
  have:¬ b=x:=fun e=>hn e.symm
  simp[this]
 ·have hx:x<w.heap.size:=(Array.getElem?_eq_some_iff.1 hc).1
  rw[hat x hx,hc]
  by_cases hbx:b=x
  ·refine ⟨putCells id 0 (flatK encC 2 d) c,by simp[hbx,onCells],by simp[putCells]⟩
  ·exact ⟨c,by simp[hbx],rfl⟩
theorem rows_keep {M0:Nat→Prop} {adr:Env} {w w':World} {b n c z e:Nat} {cur2:Array Value} {l l':List (List D)} {v:V} {x:Value} (hW:WOk M0 adr [(0,.rows z l e)] 1 w) (ha:adr 0=some (some b,n)) (hE:Evo (fun x=>x=b) w w') (hh:w'.heap[b]?=some (Obj.cells cur2 e (0,0)))
 (hs:cur2.size=c * z) (hz:0<z) (hr:∀ r ∈ l',r.length=z) (hn:l'.length=n) (hl:n≤c) (hc:c≤maxLen) (hden:DenL (Mut M0 adr [(0,.rows z l e)]) w l'.flatten (cur2.toList.take (l'.length * z))) (hv:DenV adr (Mut M0 adr [(0,.rows z l' e)]) w' v x) :
 ∃ adr':Env,Evo (Trk adr [(0,.rows z l e)]) w w'∧WOk M0 adr' [(0,.rows z l' e)] 1 w'∧(∀ k,k<1→k ∉ []→adr' k=adr k)∧(∀ k B b' m,Go.EYtcdjjjokniinkaaGreatDoor.look [(0,Blk.rows z l' e)] k=some B→adr' k=some (some b',m)→Trk adr [(0,.rows z l e)] b'∨w.heap.size≤b')∧
  RetOk adr' (Mut M0 adr' [(0,.rows z l' e)]) w' (.ret v) (.returned x):=by
 have hE':Evo (Trk adr [(0,.rows z l e)]) w w':=hE.mono fun x _ hx=>by subst hx;exact ⟨0,_,n,rfl,ha⟩
 have hM:∀ x,x<w.heap.size→Mut M0 adr [(0,.rows z l' e)] x→Mut M0 adr [(0,.rows z l e)] x:=by
  rintro x _ (h|⟨k,B,m,h1,h2⟩)
  ·exact .inl h
  ·match k,h1 with
   | 0,_=>exact .inr ⟨0,_,m,rfl,h2⟩
 refine ⟨adr,hE',⟨fun k B h=>?_,hW.fresh,fun k B h=>?_,fun k k' B B' b' m m' h h' _ _=>?_,fun k B b' m h he=>?_,fun x hx=>Nat.lt_of_lt_of_le (hW.bound x hx) hE'.size⟩,fun k _ _=>rfl,fun k B b' m h he=>?_,x,rfl,hv⟩
 ·match k,h with
  | 0,_=>decide
 ·match k,h with
  | 0,h =>
   cases h
   rw[ha]
   exact ⟨hz,hn,hr,cur2,c,hh,hs,by rw[hn];exact hl,hc,DenL.evo hE' (fun x _ ⟨k,B,m,h1,h2⟩=>.inr ⟨k,B,m,h1,h2⟩) hM hden⟩
 ·match k,k',h,h' with
  | 0,0,_,_=>rfl
 ·match k,h with
  | 0,_=>exact hW.prot 0 _ b' m rfl he
 ·match k,h with
  | 0,_=>exact .inl ⟨0,_,m,rfl,he⟩
end Go.Proofs.YtcdjjjokniinkaaGreatDoor
end
section
namespace Go.Proofs.YtcdjjjokniinkaaGreatDoor
open Go Go.RowKit Go.EYtcdjjjokniinkaaGreatDoor
set_option maxRecDepth 100000
def dedC:List (Int×Int)→List (Int×Int)
 | []=>[]
 | [p]=>[p]
 | p::q::l=>if p=q then dedC (q::l) else p::dedC (q::l)
theorem dedC_snoc:∀ {l:List (Int×Int)} {p q:Int×Int},dedC (l++[p,q])=if p=q then dedC (l++[p]) else dedC (l++[p])++[q]
 | [],p,q=>by
  show (if p=q then dedC [q] else p::dedC [q])=_
  by_cases h:p=q
  ·rw[if_pos h,if_pos h,h];rfl
  ·rw[if_neg h,if_neg h];rfl
 | [a],p,q=>by
  show (if a=p then dedC [p,q] else a::dedC [p,q])=if p=q then (if a=p then dedC [p] else a::dedC [p]) else (if a=p then dedC [p] else a::dedC [p])++[q]
  have h:=dedC_snoc (l:=[]) (p:=p) (q:=q)
  simp only[List.nil_append] at h
  rw[h]
  by_cases h1:p=q <;> by_cases h2:a=p <;> simp[h1,h2]
 | a::b::l,p,q=>by
  show (if a=b then dedC (b::(l++[p,q])) else a::dedC (b::(l++[p,q])))=if p=q then (if a=b then dedC (b::(l++[p])) else a::dedC (b::(l++[p]))) else (if a=b then dedC (b::(l++[p])) else a::dedC (b::(l++[p])))++[q]
  have h:=dedC_snoc (l:=b::l) (p:=p) (q:=q)
  simp only[List.cons_append] at h
  rw[h]
  by_cases h1:p=q <;> by_cases h2:a=b <;> simp[h1,h2]
theorem dedC_take {m:List (Int×Int)} {j:Nat} (h0:0<j) (hj:j<m.length):dedC (m.take (j+1))=if m[j - 1]=m[j] then dedC (m.take j) else dedC (m.take j)++[m[j]]:=by
 obtain ⟨i,rfl⟩:∃ i,j=i+1:=⟨j - 1,by omega⟩
 have e0:m.take (i+1+1)=m.take (i+1)++[m[i+1]]:=List.take_succ_eq_append_getElem hj
 have e2':m.take (i+1)=m.take i++[m[i]'(by omega)]:=List.take_succ_eq_append_getElem (by omega)
 have e1:m.take (i+1+1)=m.take i++[m[i]'(by omega),m[i+1]]:=by
  rw[e0,e2',List.append_assoc]
  rfl
 have e2:m.take (i+1)=m.take i++[m[i]]:=List.take_succ_eq_append_getElem (by omega)
 rw[e1,e2,dedC_snoc]
 rfl
theorem dedC_len:∀ m:List (Int×Int),(dedC m).length≤m.length
 | []=>Nat.le_refl _
 | [_]=>Nat.le_refl _
 | p::q::l=>by
  have:=dedC_len (q::l)
  unfold dedC
  split
  ·exact Nat.le_succ_of_le this
  ·exact Nat.succ_le_succ this
theorem dedC_mem:∀ {m:List (Int×Int)} {x:Int×Int},x ∈ dedC m↔x ∈ m
 | [],_=>Iff.rfl
 | [_],_=>Iff.rfl
 | p::q::l,x=>by
  have ih:=dedC_mem (m:=q::l) (x:=x)
  unfold dedC
  split
  ·rename_i h
   rw[ih,h]
   simp
  ·rw[List.mem_cons,ih,List.mem_cons (a:=x) (b:=p)]
theorem dedC_rise:∀ {m:List (Int×Int)},m.Pairwise (fun x y=>¬ lesP y x)→(dedC m).Pairwise lesP
 | [],_=>List.Pairwise.nil
 | [p],_=>List.pairwise_singleton _ _
 | p::q::l,h=>by
  obtain ⟨h1,h2⟩:=List.pairwise_cons.1 h
  have ih:=dedC_rise h2
  unfold dedC
  split
  ·exact ih
  ·rename_i hne
   refine List.pairwise_cons.2 ⟨fun x hx=>?_,ih⟩
   rw[dedC_mem] at hx
   have h3:=h1 q (by simp)
   have hpq:lesP p q:=by
    unfold lesP at *
    have:¬ (p.1=q.1∧p.2=q.2):=fun hh=>hne (Prod.ext hh.1 hh.2)
    omega
   rcases List.mem_cons.1 hx with rfl|hx
   ·exact hpq
   ·have h4:=(List.pairwise_cons.1 h2).1 x hx
    unfold lesP at *
    omega
end Go.Proofs.YtcdjjjokniinkaaGreatDoor
end
section
namespace Go.EYtcdjjjokniinkaaGreatDoor
open Go Go.RowKit
theorem wp_scope_ghost {P:Program} {a:Act} {w:World} {Q:Exit→Act→World→Prop} {c rest:Code} (l:Nat) (J:Nat→Act→World→Prop) (hf:findLabel c l=some rest)
 (first:c.wp P (Exit.jump l (fun a w=>∃ k,J k a w) Q) a w)
 (pass:∀ k a w,J k a w→rest.wp P (Exit.jump l (fun a' w'=>∃ j,j<k∧J j a' w') Q) a w):(Code.scope c).wp P Q a w:=by
 have least:∀ a w,(∃ k,J k a w)→∃ k,J k a w∧∀ j,J j a w→k≤j:=by
  rintro a w ⟨k,hk⟩
  obtain ⟨j,hj,hmin⟩:=exists_least (p:=fun k=>J k a w) ⟨k,hk⟩
  exact ⟨j,hj,hmin⟩
 refine wp_scope_jumps l (fun a w=>∃ k,J k a w) (fun a w=>Classical.epsilon fun k=>J k a w∧∀ j,J j a w→k≤j) hf first ?_
 intro a w hJ
 have h0:=Classical.epsilon_spec (least a w hJ)
 refine Go.wp_mono (pass _ a w h0.1) ?_
 intro e a' w' h
 cases e with
 | goto l' =>
  obtain ⟨rfl,j,hj,hJ'⟩:=h
  have h1:=Classical.epsilon_spec (least a' w' ⟨j,hJ'⟩)
  exact ⟨rfl,⟨j,hJ'⟩,Nat.lt_of_le_of_lt (h1.2 j hJ') hj⟩
 | _=>exact h
def atLab (l:Nat) (J:List (Nat×V)→List (Nat×Blk)→Nat→Prop) (K:XK):XK:=fun x fr L n=>match x with
 | .goto l'=>(match Nat.beq l' l with
  | true=>J fr L n
  | false=>False)
 | x=>K x fr L n
def vcS (P:Program) (gl:List (Nat×List D)) (tt:List (Nat×TI)) (fx:List Nat) (N nv:Nat) (cu:List Nat) (a c rest:Code) (l:Nat) (fr:List (Nat×V)) (L:List (Nat×Blk)) (n:Nat) (K:XK):Prop :=
 vcCode P gl tt fx N nv cu a fr L n fun x fr1 L1 n1=>match x with
  | .normal=>fF (keepFr nv (dsts c) fr1) fun kept=>∃ S:Spec,vcCode P gl tt fx N nv cu c fr1 L1 n1 (atLab l (fun fr2 L2 n2=>∃ s,S.I s∧frzAll S.fz fr2 L2 fun fr4 L4=>sub3 fx n2 fr4 L4 (n1+S.ex) (S.fr s++kept) (S.L s++keepL S.ks L1)) K)∧
   ∀ s,S.I s→nK (n1+S.ex) fun n2=>fF (S.fr s++kept) fun fr2=>fBs (S.L s++keepL S.ks L1) fun L2=>vcCode P gl tt fx N nv cu rest fr2 L2 n2 (atLab l (fun fr3 L3 n3=>∃ s',(S.I s'∧S.μ s'<S.μ s)∧frzAll S.fz fr3 L3 fun fr4 L4=>sub3 fx n3 fr4 L4 n2 (S.fr s'++kept) (S.L s'++keepL S.ks L1)) K)
  | x=>K x fr1 L1 n1
section
variable {P:Program} {gl:List (Nat×List D)} {tt:List (Nat×TI)} {M0 S0:Nat→Prop} {w0:Base} {N nv:Nat} {cu:List Nat}
theorem QX.lab {K:XK} {Q:Exit→Act→World→Prop} {l:Nat} {J:List (Nat×V)→List (Nat×Blk)→Nat→Prop} {J':Act→World→Prop} (hQ:QX true gl M0 S0 w0 N K Q)
 (hJ:∀ fr L n adr a w,J fr L n→Ok gl M0 S0 w0 N adr fr L n a w→J' a w):QX true gl M0 S0 w0 N (atLab l J K) (Exit.jump l J' Q):=by
 refine ⟨?_,?_,?_,?_,?_,?_⟩
 ·intro fr1 L1 n1 adr1 a1 w1 hk hx1;exact hQ.1 _ _ _ _ _ _ hk hx1
 ·intro id fr1 L1 n1 adr1 a1 w1 hk hx1;exact hQ.2.1 _ _ _ _ _ _ _ hk hx1
 ·intro l' fr1 L1 n1 adr1 a1 w1 hk hx1
  replace hk:(match Nat.beq l' l with
   | true=>J fr1 L1 n1
   | false=>False):=hk
  cases hb:Nat.beq l' l with
  | false=>rw[hb] at hk;exact hk.elim
  | true=>rw[hb] at hk;exact ⟨Nat.eq_of_beq_eq_true hb,hJ _ _ _ _ _ _ hk hx1⟩
 ·intro fr1 L1 n1 adr1 a1 w1 hk hx1;exact hQ.2.2.2.1 _ _ _ _ _ _ hk hx1
 ·intro c fr1 L1 n1 adr1 x a1 w1 hk hx1 hd;exact hQ.2.2.2.2.1 _ _ _ _ _ _ _ _ hk hx1 hd
 ·intro e c a d v w h;exact hQ.2.2.2.2.2 rfl c a d v w h
theorem vcS_ok (hT:Fits P tt) (hm:P.follows .mixedOrders=true) {a c rest:Code} {l:Nat} (hl:findLabel c l=some rest) {fr:List (Nat×V)} {L:List (Nat×Blk)} {n:Nat} {adr:Env} {K:XK} {Q:Exit→Act→World→Prop} {act:Act} {w:World}
 (h:vcS P gl tt w0.fx N nv cu a c rest l fr L n K) (hx:Ok gl M0 S0 w0 N adr fr L n act w) (hQ:QX true gl M0 S0 w0 N K Q):(Code.seq a (.scope c)).wp P Q act w:=by
 refine wp_seq (vcCode_ok hT hm a _ _ _ adr _ _ act w h hx ⟨?_,?_,?_,?_,?_,?_⟩)
 ·intro fr1 L1 n1 adr1 a1 w1 hk hx1
  replace hk:fF (keepFr nv (dsts c) fr1) fun kept=>∃ S:Spec,vcCode P gl tt w0.fx N nv cu c fr1 L1 n1 (atLab l (fun fr2 L2 n2=>∃ s,S.I s∧frzAll S.fz fr2 L2 fun fr4 L4=>sub3 w0.fx n2 fr4 L4 (n1+S.ex) (S.fr s++kept) (S.L s++keepL S.ks L1)) K)∧
   ∀ s,S.I s→nK (n1+S.ex) fun n2=>fF (S.fr s++kept) fun fr2=>fBs (S.L s++keepL S.ks L1) fun L2=>vcCode P gl tt w0.fx N nv cu rest fr2 L2 n2 (atLab l (fun fr3 L3 n3=>∃ s',(S.I s'∧S.μ s'<S.μ s)∧frzAll S.fz fr3 L3 fun fr4 L4=>sub3 w0.fx n3 fr4 L4 n2 (S.fr s'++kept) (S.L s'++keepL S.ks L1)) K):=hk
  rw[fF_eq] at hk
  obtain ⟨S,h1,h2⟩:=hk
  refine wp_scope_ghost l (fun k a w=>∃ s adr,S.μ s=k∧S.I s∧Ok gl M0 S0 w0 N adr (S.fr s++keepFr nv (dsts c) fr1) (S.L s++keepL S.ks L1) (n1+S.ex) a w) hl (vcCode_ok hT hm c _ _ _ adr1 _ _ a1 w1 h1 hx1 ((hQ.lab ?_).sub fun _=>rfl)) ?_
  ·rintro fr2 L2 n2 adr2 a2 w2 ⟨s,hI,hs⟩ hx2
   obtain ⟨fr4,L4,hs4,hx4⟩:=frzAll_ok hs hx2
   exact ⟨S.μ s,s,_,rfl,hI,sub3_ok hx4 hs4⟩
  ·rintro _ a2 w2 ⟨s,adr2,rfl,hI,hok⟩
   have h3:=h2 s hI
   rw[nK_eq,fF_eq,fBs_eq] at h3
   refine vcCode_ok hT hm rest _ _ _ adr2 _ _ a2 w2 h3 hok ((hQ.lab ?_).sub fun _=>rfl)
   rintro fr3 L3 n3 adr3 a3 w3 ⟨s',⟨hI',hlt⟩,hs'⟩ hx3
   obtain ⟨fr4,L4,hs4,hx4⟩:=frzAll_ok hs' hx3
   exact ⟨S.μ s',hlt,s',_,rfl,hI',sub3_ok hx4 hs4⟩
 ·intro id fr1 L1 n1 adr1 a1 w1 hk hx1;exact hQ.2.1 _ _ _ _ _ _ _ hk hx1
 ·intro id fr1 L1 n1 adr1 a1 w1 hk hx1;exact hQ.2.2.1 _ _ _ _ _ _ _ hk hx1
 ·intro fr1 L1 n1 adr1 a1 w1 hk hx1;exact hQ.2.2.2.1 _ _ _ _ _ _ hk hx1
 ·intro c fr1 L1 n1 adr1 x a1 w1 hk hx1 hd;exact hQ.2.2.2.2.1 _ _ _ _ _ _ _ _ hk hx1 hd
 ·intro e c a d v w h;exact hQ.2.2.2.2.2 rfl c a d v w h
theorem fn_of_vcS (hT:Fits P tt) (hm:P.follows .mixedOrders=true) {f:FuncId} {fn:Func} {a c rest:Code} {l:Nat} {vs:List V} {H:List (Nat×Blk)} {h:Nat} {r:Ret} {H':List (Nat×Blk)} {n':Nat} {mv:List Nat} (hf:P.funcs[f]?=some fn) (hb:fn.body=some (.seq a (.scope c))) (hl:findLabel c l=some rest) (hB:HasBody P f) (hN:Nat.ble vs.length fn.ntmps=true)
 (hh:Nat.ble h n'=true) (hk:keysIn h H H'=true) (hmv:allIn H mv=true) (hv:vcS P gl tt (fxOf mv h) fn.ntmps nv cu a c rest l (argFr 0 vs) H h (endF (fxOf mv h) fn.results.toList tt r H' n')):Fn P gl f vs H h r H' n' mv :=
 fn_of_ok hT hm hf hb hB hN hh hk hmv fun M0 S0 w0 adr Q a w hfx hx hQ=>vcS_ok hT hm hl (by rw[hfx];exact hv) hx hQ
end
end Go.EYtcdjjjokniinkaaGreatDoor
end
