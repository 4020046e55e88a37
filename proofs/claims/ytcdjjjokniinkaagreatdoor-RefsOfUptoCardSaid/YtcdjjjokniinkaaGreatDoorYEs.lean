/- Proved: a part of what the law is proved with (the reckoner, contracts of functions, plain laws). Conditions: as each says. -/
import Derived.Shelf.SlSortCmp.NoneTotal
import Derived.Recover
import Derived.Test.YtcdjjjokniinkaaGreatDoorYBase
import Derived.Test.YtcdjjjokniinkaaGreatDoorYCc
import Derived.Test.YtcdjjjokniinkaaGreatDoorYGd
section
namespace Go.Proofs.YtcdjjjokniinkaaGreatDoor
open Go Go.RowKit Go.EYtcdjjjokniinkaaGreatDoor Go.Sort
set_option maxRecDepth 100000
set_option maxHeartbeats 4000000
variable {gl:List (Nat×List D)}
abbrev encC (p:Int×Int):List Value:=[.int .i64 p.1,.int .i64 p.2]
abbrev cfC (p q:Int×Int):Int:=orZ (cmpZ p.2 q.2) (cmpZ p.1 q.1)
abbrev lesP (p q:Int×Int):Prop:=p.2<q.2∨p.2=q.2∧p.1<q.1
theorem ltC_eq (p q:Int×Int):ltOf cfC p q=decide (lesP p q):=by
 unfold ltOf
 have:cfC p q<0↔lesP p q:=by
  unfold cfC orZ cmpZ lesP
  (repeat' split) <;> omega
 simp[this]
theorem swoC:SWO (ltOf cfC) where
 irrefl x:=by rw[ltC_eq];simp[lesP]
 trans x y z h1 h2:=by
  rw[ltC_eq] at *
  simp only[decide_eq_true_eq] at *
  unfold lesP at *
  omega
 ntrans x y z h1 h2:=by
  rw[ltC_eq] at *
  simp only[decide_eq_false_iff_not] at *
  unfold lesP at *
  omega
theorem totC (x y:Int×Int) (h1:ltOf cfC x y=false) (h2:ltOf cfC y x=false):x=y:=by
 rw[ltC_eq] at *
 simp only[decide_eq_false_iff_not] at *
 unfold lesP at *
 exact Prod.ext (by omega) (by omega)
def sortC (m:List (Int×Int)):List (Int×Int):=m.mergeSort fun x y=>!(ltOf cfC) y x
theorem sortC_perm (m:List (Int×Int)):(sortC m).Perm m:=List.mergeSort_perm m _
theorem sortC_len (m:List (Int×Int)):(sortC m).length=m.length:=(sortC_perm m).length_eq
theorem sortC_mem {m:List (Int×Int)} {p:Int×Int}:p ∈ sortC m↔p ∈ m:=(sortC_perm m).mem_iff
theorem sortC_sorted (m:List (Int×Int)):(sortC m).Pairwise fun x y=>¬ lesP y x:=by
 have h:=List.pairwise_mergeSort (le:=fun x y:Int×Int=>!(ltOf cfC) y x) (fun a b c h1 h2=>by
  simp only[ltC_eq,Bool.not_eq_true',decide_eq_false_iff_not] at *
  unfold lesP at *
  omega) (fun a b=>by
  simp only[ltC_eq,Bool.or_eq_true,Bool.not_eq_true',decide_eq_false_iff_not]
  unfold lesP
  omega) m
 refine h.imp fun {a b} hab=>?_
 simp only[ltC_eq,Bool.not_eq_true',decide_eq_false_iff_not] at hab
 exact hab
theorem flatC (m:List (Int×Int)):(flatK encC 2 m.toArray).toList=m.flatMap encC:=by
 have key:∀ (m:List (Int×Int)) (t:Nat),t<m.length * 2→(m.flatMap encC)[t]?=some ((encC m.toArray[t / 2]!)[t % 2]!):=by
  intro m
  induction m with
  | nil=>intro t h;simp at h
  | cons p m ih =>
   intro t h
   match t with
   | 0=>simp
   | 1=>simp
   | t+2 =>
    have h':t<m.length * 2:=by simp at h;omega
    have e1:(t+2) / 2=t / 2+1:=by omega
    have e2:(t+2) % 2=t % 2:=by omega
    rw[e1,e2]
    have:=ih t h'
    simp only[List.flatMap_cons,encC,List.cons_append,List.nil_append,List.getElem?_cons_succ]
    rw[show (List.flatMap (fun p:Int×Int=>[Value.int .i64 p.1,Value.int .i64 p.2]) m)[t]?=(m.flatMap encC)[t]? from rfl,this]
    simp
 apply List.ext_getElem?
 intro t
 by_cases h:t<m.length * 2
 ·rw[key m t h]
  simp only[flatK,Array.toList_map,List.getElem?_map]
  have:t<m.toArray.size * 2:=by simpa using h
  simp
  exact ⟨t,by rw[List.getElem?_range h],rfl⟩
 ·have hl:(m.flatMap encC).length=m.length * 2:=by
   clear key h
   induction m with
   | nil=>rfl
   | cons p m ih=>rw[List.flatMap_cons,List.length_append,ih,List.length_cons];simp;omega
  rw[List.getElem?_eq_none (by simp;omega),List.getElem?_eq_none (by omega)]
theorem rowsC_val {M:Nat→Prop} {w:World}:∀ {m:List (Int×Int)} {xs:List Value},DenL M w (m.map rowC).flatten xs→xs=m.flatMap encC
 | [],[],_=>rfl
 | [],_::_,h=>h.elim
 | p::m,xs,h=>by
  rw[List.map_cons,List.flatten_cons] at h
  match xs,h with
  | x::y::xs,⟨h1,h2,h3⟩ =>
   rw[DenD.v_inv h1,DenD.v_inv h2,rowsC_val h3]
   rfl
  | [x],⟨_,h2⟩=>exact h2.elim
  | [],h=>exact h.elim
theorem rowsC_den {M:Nat→Prop} {w:World}:∀ m:List (Int×Int),DenL M w (m.map rowC).flatten (m.flatMap encC)
 | []=>trivial
 | p::m=>by
  rw[List.map_cons,List.flatten_cons,List.flatMap_cons]
  exact ⟨.v _,.v _,rowsC_den m⟩
theorem put_take {F cur:Array Value} (h:F.size≤cur.size):(putCells id 0 F cur).toList.take F.size=F.toList∧(putCells id 0 F cur).size=cur.size:=by
 refine ⟨?_,by simp[putCells]⟩
 apply List.ext_getElem?
 intro k
 rw[List.getElem?_take]
 by_cases hk:k<F.size
 ·rw[if_pos hk]
  have hc:k<cur.size:=by omega
  simp[putCells,hk,hc]
 ·rw[if_neg hk,List.getElem?_eq_none (by simpa using Nat.le_of_not_lt hk)]
theorem sort_world {w:World} {b n:Nat} {cur:Array Value} {e:TypeId} (d:Array (Int×Int)) (os:Array Obj) (h:w.heap[b]?=some (Obj.cells cur e (0,0))) :
 (sortWorldK encC 2 w b 0 n d os).heap[b]?=some (Obj.cells (putCells id 0 (flatK encC 2 d) cur) e (0,0))∧Evo (fun x=>x=b) w (sortWorldK encC 2 w b 0 n d os):=by
 have hb:b<w.heap.size:=(Array.getElem?_eq_some_iff.1 h).1
 have hat:∀ x,x<w.heap.size→(sortWorldK encC 2 w b 0 n d os).heap[x]?=(w.heap[x]?).map (fun o=>if b=x then onCells (putCells id 0 (flatK encC 2 d)) o else o):=fun x hx=>by
  show ((w.heap.modify b (onCells (putCells id 0 (flatK encC 2 d))))++os)[x]?=_
  rw[Array.getElem?_append_left (by simpa using hx),Array.getElem?_modify]
  by_cases hbx:b=x
  ·rw[if_pos hbx]
   simp[hbx]
  ·rw[if_neg hbx]
   simp[hbx]
 refine ⟨by rw[hat b hb,h];simp[onCells],rfl,rfl,rfl,?_,fun x hx hn=>?_,fun x c e' f' hc=>?_⟩
 ·show w.heap.size≤((w.heap.modify b _)++os).size
  simp
 ·rw[hat x hx]
  have:¬ b=x:=fun e=>hn e.symm
  simp[this]
 ·have hx:x<w.heap.size:=(Array.getElem?_eq_some_iff.1 hc).1
  rw[hat x hx,hc]
  by_cases hbx:b=x
  ·refine ⟨putCells id 0 (flatK encC 2 d) c,by simp[hbx,onCells],by simp[putCells]⟩
  ·exact ⟨c,by simp[hbx],rfl⟩
theorem rows_keep {M0:Nat→Prop} {adr:Env} {w w':World} {b n c z e:Nat} {cur2:Array Value} {l l':List (List D)} {v:V} {x:Value} (hW:WOk M0 adr [(0,.rows z l e)] 1 w) (ha:adr 0=some (some b,n)) (hE:Evo (fun x=>x=b) w w') (hh:w'.heap[b]?=some (Obj.cells cur2 e (0,0)))
 (hs:cur2.size=c * z) (hz:0<z) (hr:∀ r ∈ l',r.length=z) (hn:l'.length=n) (hl:n≤c) (hc:c≤maxLen) (hden:DenL (Mut M0 adr [(0,.rows z l e)]) w l'.flatten (cur2.toList.take (l'.length * z))) (hv:DenV adr (Mut M0 adr [(0,.rows z l' e)]) w' v x) :
 ∃ adr':Env,Evo (Trk adr [(0,.rows z l e)]) w w'∧WOk M0 adr' [(0,.rows z l' e)] 1 w'∧(∀ k,k<1→k ∉ []→adr' k=adr k)∧(∀ k B b' m,Go.EYtcdjjjokniinkaaGreatDoor.look [(0,Blk.rows z l' e)] k=some B→adr' k=some (some b',m)→Trk adr [(0,.rows z l e)] b'∨w.heap.size≤b')∧
  RetOk adr' (Mut M0 adr' [(0,.rows z l' e)]) w' (.ret v) (.returned x):=by
 have hE':Evo (Trk adr [(0,.rows z l e)]) w w':=hE.mono fun x _ hx=>by subst hx;exact ⟨0,_,n,rfl,ha⟩
 have hM:∀ x,x<w.heap.size→Mut M0 adr [(0,.rows z l' e)] x→Mut M0 adr [(0,.rows z l e)] x:=by
  rintro x _ (h|⟨k,B,m,h1,h2⟩)
  ·exact .inl h
  ·match k,h1 with
   | 0,_=>exact .inr ⟨0,_,m,rfl,h2⟩
 refine ⟨adr,hE',⟨fun k B h=>?_,hW.fresh,fun k B h=>?_,fun k k' B B' b' m m' h h' _ _=>?_,fun k B b' m h he=>?_,fun x hx=>Nat.lt_of_lt_of_le (hW.bound x hx) hE'.size⟩,fun k _ _=>rfl,fun k B b' m h he=>?_,x,rfl,hv⟩
 ·match k,h with
  | 0,_=>decide
 ·match k,h with
  | 0,h =>
   cases h
   rw[ha]
   exact ⟨hz,hn,hr,cur2,c,hh,hs,by rw[hn];exact hl,hc,DenL.evo hE' (fun x _ ⟨k,B,m,h1,h2⟩=>.inr ⟨k,B,m,h1,h2⟩) hM hden⟩
 ·match k,k',h,h' with
  | 0,0,_,_=>rfl
 ·match k,h with
  | 0,_=>exact hW.prot 0 _ b' m rfl he
 ·match k,h with
  | 0,_=>exact .inl ⟨0,_,m,rfl,he⟩
end Go.Proofs.YtcdjjjokniinkaaGreatDoor
end
section
namespace Go.Proofs.YtcdjjjokniinkaaGreatDoor
open Go Go.RowKit Go.EYtcdjjjokniinkaaGreatDoor
set_option maxRecDepth 100000
def dedC:List (Int×Int)→List (Int×Int)
 | []=>[]
 | [p]=>[p]
 | p::q::l=>if p=q then dedC (q::l) else p::dedC (q::l)
theorem dedC_snoc:∀ {l:List (Int×Int)} {p q:Int×Int},dedC (l++[p,q])=if p=q then dedC (l++[p]) else dedC (l++[p])++[q]
 | [],p,q=>by
  show (if p=q then dedC [q] else p::dedC [q])=_
  by_cases h:p=q
  ·rw[if_pos h,if_pos h,h];rfl
  ·rw[if_neg h,if_neg h];rfl
 | [a],p,q=>by
  show (if a=p then dedC [p,q] else a::dedC [p,q])=if p=q then (if a=p then dedC [p] else a::dedC [p]) else (if a=p then dedC [p] else a::dedC [p])++[q]
  have h:=dedC_snoc (l:=[]) (p:=p) (q:=q)
  simp only[List.nil_append] at h
  rw[h]
  by_cases h1:p=q <;> by_cases h2:a=p <;> simp[h1,h2]
 | a::b::l,p,q=>by
  show (if a=b then dedC (b::(l++[p,q])) else a::dedC (b::(l++[p,q])))=if p=q then (if a=b then dedC (b::(l++[p])) else a::dedC (b::(l++[p]))) else (if a=b then dedC (b::(l++[p])) else a::dedC (b::(l++[p])))++[q]
  have h:=dedC_snoc (l:=b::l) (p:=p) (q:=q)
  simp only[List.cons_append] at h
  rw[h]
  by_cases h1:p=q <;> by_cases h2:a=b <;> simp[h1,h2]
theorem dedC_take {m:List (Int×Int)} {j:Nat} (h0:0<j) (hj:j<m.length):dedC (m.take (j+1))=if m[j - 1]=m[j] then dedC (m.take j) else dedC (m.take j)++[m[j]]:=by
 obtain ⟨i,rfl⟩:∃ i,j=i+1:=⟨j - 1,by omega⟩
 have e0:m.take (i+1+1)=m.take (i+1)++[m[i+1]]:=List.take_succ_eq_append_getElem hj
 have e2':m.take (i+1)=m.take i++[m[i]'(by omega)]:=List.take_succ_eq_append_getElem (by omega)
 have e1:m.take (i+1+1)=m.take i++[m[i]'(by omega),m[i+1]]:=by
  rw[e0,e2',List.append_assoc]
  rfl
 have e2:m.take (i+1)=m.take i++[m[i]]:=List.take_succ_eq_append_getElem (by omega)
 rw[e1,e2,dedC_snoc]
 rfl
theorem dedC_len:∀ m:List (Int×Int),(dedC m).length≤m.length
 | []=>Nat.le_refl _
 | [_]=>Nat.le_refl _
 | p::q::l=>by
  have:=dedC_len (q::l)
  unfold dedC
  split
  ·exact Nat.le_succ_of_le this
  ·exact Nat.succ_le_succ this
theorem dedC_mem:∀ {m:List (Int×Int)} {x:Int×Int},x ∈ dedC m↔x ∈ m
 | [],_=>Iff.rfl
 | [_],_=>Iff.rfl
 | p::q::l,x=>by
  have ih:=dedC_mem (m:=q::l) (x:=x)
  unfold dedC
  split
  ·rename_i h
   rw[ih,h]
   simp
  ·rw[List.mem_cons,ih,List.mem_cons (a:=x) (b:=p)]
theorem dedC_rise:∀ {m:List (Int×Int)},m.Pairwise (fun x y=>¬ lesP y x)→(dedC m).Pairwise lesP
 | [],_=>List.Pairwise.nil
 | [p],_=>List.pairwise_singleton _ _
 | p::q::l,h=>by
  obtain ⟨h1,h2⟩:=List.pairwise_cons.1 h
  have ih:=dedC_rise h2
  unfold dedC
  split
  ·exact ih
  ·rename_i hne
   refine List.pairwise_cons.2 ⟨fun x hx=>?_,ih⟩
   rw[dedC_mem] at hx
   have h3:=h1 q (by simp)
   have hpq:lesP p q:=by
    unfold lesP at *
    have:¬ (p.1=q.1∧p.2=q.2):=fun hh=>hne (Prod.ext hh.1 hh.2)
    omega
   rcases List.mem_cons.1 hx with rfl|hx
   ·exact hpq
   ·have h4:=(List.pairwise_cons.1 h2).1 x hx
    unfold lesP at *
    omega
end Go.Proofs.YtcdjjjokniinkaaGreatDoor
end
section
namespace Go.Proofs.YtcdjjjokniinkaaGreatDoor
open Go Go.EYtcdjjjokniinkaaGreatDoor
set_option maxRecDepth 100000
def ofU (m:List Bool) (x:Nat):List (Int×Int):=((List.range x).filter fun i=>m[i]?.getD false).map fun i=>(((i % 27:Nat):Int),((i / 27:Nat):Int))
theorem ofU_succ (m:List Bool) (x:Nat):ofU m (x+1)=if m[x]?.getD false=true then ofU m x++[(((x % 27:Nat):Int),((x / 27:Nat):Int))] else ofU m x:=by
 unfold ofU
 rw[List.range_succ,List.filter_append,List.map_append]
 by_cases h:m[x]?.getD false=true
 ·rw[if_pos h];simp[h]
 ·rw[if_neg h];simp[h]
theorem ofU_len (m:List Bool) (x:Nat):(ofU m x).length≤x:=by
 unfold ofU
 rw[List.length_map]
 exact Nat.le_trans (List.length_filter_le _ _) (by simp)
theorem mark_at:∀ (cs:List (Int×Int)) (m:List Bool) (i:Nat),i<m.length→((markL cs m)[i]?.getD false=true↔m[i]?.getD false=true∨∃ p ∈ cs,markAt p=i)
 | [],m,i,_=>by simp[markL]
 | p::cs,m,i,h=>by
  have ih:=mark_at cs (m.set (markAt p) true) i (by rw[List.length_set];exact h)
  show (markL cs (m.set (markAt p) true))[i]?.getD false=true↔_
  rw[ih,List.getElem?_set]
  by_cases hp:markAt p=i
  ·subst hp
   simp[h]
  ·rw[if_neg hp]
   simp[hp]
theorem rise_ext:∀ {l m:List (Int×Int)},l.Pairwise lesP→m.Pairwise lesP→(∀ p,p ∈ l↔p ∈ m)→l=m
 | [],[],_,_,_=>rfl
 | [],q::m,_,_,h=>by have:=(h q).2 (by simp);cases this
 | p::l,[],_,_,h=>by have:=(h p).1 (by simp);cases this
 | p::l,q::m,h1,h2,h=>by
  obtain ⟨a1,a2⟩:=List.pairwise_cons.1 h1
  obtain ⟨b1,b2⟩:=List.pairwise_cons.1 h2
  have hpq:p=q:=by
   rcases List.mem_cons.1 ((h p).1 (by simp)) with e|hp
   ·exact e
   ·rcases List.mem_cons.1 ((h q).2 (by simp)) with e|hq
    ·exact e.symm
    ·have:=a1 q hq
     have:=b1 p hp
     unfold lesP at *
     omega
  subst hpq
  refine congrArg (List.cons p) (rise_ext a2 b2 fun x=>⟨fun hx=>?_,fun hx=>?_⟩)
  ·rcases List.mem_cons.1 ((h x).1 (by simp[hx])) with e|hm
   ·have:=a1 x hx
    rw[e] at this
    unfold lesP at this
    omega
   ·exact hm
  ·rcases List.mem_cons.1 ((h x).2 (by simp[hx])) with e|hm
   ·have:=b1 x hx
    rw[e] at this
    unfold lesP at this
    omega
   ·exact hm
theorem marks_sorted (cs:List (Int×Int)) (h:∀ p ∈ cs,okP p.1 p.2):ofU (markL cs (List.replicate 2700 false)) 2700=dedC (sortC cs):=by
 refine rise_ext ?_ (dedC_rise (sortC_sorted cs)) fun p=>?_
 ·unfold ofU
  refine List.pairwise_map.2 (List.Pairwise.filter _ (List.pairwise_lt_range.imp fun {i j} hij=>?_))
  unfold lesP
  simp only
  omega
 ·rw[dedC_mem,sortC_mem]
  unfold ofU
  simp only[List.mem_map,List.mem_filter,List.mem_range]
  constructor
  ·rintro ⟨i,⟨hi,hm⟩,rfl⟩
   rw[mark_at _ _ _ (by simpa using hi)] at hm
   rcases hm with hm|⟨q,hq,he⟩
   ·exact absurd hm (by rw[List.getElem?_replicate,if_pos hi];simp)
   ·obtain ⟨h1,h2,h3,h4⟩:=h q hq
    unfold markAt at he
    have e:((((i % 27:Nat):Int),((i / 27:Nat):Int)):Int×Int)=q:=Prod.ext (by simp only;omega) (by simp only;omega)
    rw[e]
    exact hq
  ·intro hp
   obtain ⟨h1,h2,h3,h4⟩:=h p hp
   refine ⟨markAt p,⟨by unfold markAt;omega,(mark_at _ _ _ (by simp only[List.length_replicate];unfold markAt;omega)).2 (.inr ⟨p,hp,rfl⟩)⟩,?_⟩
   unfold markAt
   exact Prod.ext (by simp only;omega) (by simp only;omega)
end Go.Proofs.YtcdjjjokniinkaaGreatDoor
end
section
namespace Go.EYtcdjjjokniinkaaGreatDoor
open Go Go.RowKit
def mdOk (adr:Env) (M:Nat→Prop) (w:World):Option C→FrameMode→Prop
 | none,u=>u=.returning
 | some c,u=>∃ x,u=.panicking [{ v:=x,recovered:=false }]∧DenC adr M w c x
def FnD (P:Program) (gl:List (Nat×List D)) (g:Nat) (vs:List V) (H:List (Nat×Blk)) (n:Nat) (c:Option C) (H':List (Nat×Blk)) (n':Nat):Prop :=
 n≤n'∧(∀ k B,look H' k=some B→k<n→(look H k).isSome=true)∧∀ (w:World) (M0:Nat→Prop) (adr:Env) (xs:List Value) (u:FrameMode),WOk M0 adr H n w→Glob gl (Mut M0 adr H) w→All2 (DenV adr (Mut M0 adr H) w) vs xs→mdOk adr (Mut M0 adr H) w c u→
  CallsD P g xs.toArray u w fun e u' w'=>(∃ v,e=.returned v)∧settle u'=.returning∧∃ adr':Env,Evo (Trk adr H) w w'∧WOk M0 adr' H' n' w'∧(∀ k,k<n→adr' k=adr k)∧(∀ k B b m,look H' k=some B→adr' k=some (some b,m)→Trk adr H b∨w.heap.size≤b)
def dcall (P:Program) (gl:List (Nat×List D)) (g:Nat) (vs:List V) (c:Option C) (fr:List (Nat×V)) (L:List (Nat×Blk)) (n:Nat) (k:SK):Prop :=
 ∃ H H' n',FnD P gl g vs H n c H' n'∧subH H L∧fBs (H'++dropK H L) fun L'=>k fr L' n'
def ptrsV (cs:List (Nat×Nat)):List V:=cs.map fun p=>.c (.ptr p.1 p.2)
def endD (P:Program) (gl:List (Nat×List D)) (g:Nat) (cs:List (Nat×Nat)) (fx:List Nat) (rs:List ResultVar) (tt:List (Nat×TI)) (r:Ret) (H':List (Nat×Blk)) (n':Nat):XK:=fun x fr L n=>match x with
 | .normal=>dcall P gl g (ptrsV cs) none fr L n fun fr L n=>endR fx rs tt r H' n' fr L n
 | .ret=>dcall P gl g (ptrsV cs) none fr L n fun fr L n=>endR fx rs tt r H' n' fr L n
 | .panic c=>dcall P gl g (ptrsV cs) (some c) fr L n fun fr L n=>endR fx rs tt r H' n' fr L n
 | _=>False
def capsK (o:Option (List (Nat×Nat))) (K:List (Nat×Nat)→Prop):Prop:=match o with
 | some l=>K l
 | none=>False
def vcD (P:Program) (gl:List (Nat×List D)) (tt:List (Nat×TI)) (fx:List Nat) (N nv:Nat) (cu:List Nat) (a b rest:Code) (g d0:Nat) (caps:List Operand) (rs:List ResultVar) (r:Ret) (H':List (Nat×Blk)) (n':Nat) (fr:List (Nat×V)) (L:List (Nat×Blk)) (n:Nat):Prop :=
 vcCode P gl tt fx N nv cu a fr L n fun x fr1 L1 n1=>match x with
  | .normal=>vcCode P gl tt fx N nv cu b fr1 L1 n1 fun x fr2 L2 n2=>match x with
   | .normal=>capsK (capsOf (sval gl fr2) caps) fun cs=>vcCode P gl tt (fx++cs.map (·.1)) N nv cu rest ((d0,.c (.fn g cs))::fr2) L2 n2 (endD P gl g cs fx rs tt r H' n')
   | x=>endF fx rs tt r H' n' x fr2 L2 n2
  | x=>endF fx rs tt r H' n' x fr1 L1 n1
section
variable {P:Program} {gl:List (Nat×List D)} {tt:List (Nat×TI)} {nv:Nat} {cu:List Nat}
theorem fin_ok (hT:Fits P tt) {fn:Func} {H H':List (Nat×Blk)} {h n' n:Nat} {mv:List Nat} {r:Ret} {w w':World} {adr adr1:Env} {M0:Nat→Prop} {df:List Deferred} {fr:List (Nat×V)} {L:List (Nat×Blk)} {a:Act}
 (hr:endR (fxOf mv h) fn.results.toList tt r H' n' fr L n) (hx:Ok gl M0 (Trk adr H) ⟨w,adr,fxOf mv h,df⟩ fn.ntmps adr1 fr L n a w') :
 ∃ v,(results fn a.tmps).run P w'=.ok v w'∧∃ adr':Env,Evo (Trk adr H) w w'∧WOk M0 adr' H' n' w'∧(∀ k,k<h→k ∉ mv→adr' k=adr k)∧(∀ k B b m,look H' k=some B→adr' k=some (some b,m)→Trk adr H b∨w.heap.size≤b)∧RetOk adr' (Mut M0 adr' H') w' r (.returned v):=by
 let w0:Base:=⟨w,adr,fxOf mv h,df⟩
 have outS:∀ {s v:V} {x:Value},DenV adr1 (Mut M0 adr1 L) w' s x→endS (fxOf mv h) n s L n' v H'→
  ∃ adr':Env,Evo (Trk adr H) w w'∧WOk M0 adr' H' n' w'∧(∀ k,k<h→k ∉ mv→adr' k=adr k)∧(∀ k B b m,look H' k=some B→adr' k=some (some b,m)→Trk adr H b∨w.heap.size≤b)∧DenV adr' (Mut M0 adr' H') w' v x:=by
  intro s v x hs h3
  have hx1:Ok gl M0 (Trk adr H) w0 1 adr1 [(0,s)] L n ⟨#[x],df⟩ w':=⟨rfl,rfl,(fun t s' hl=>by
   rw[look_cons] at hl
   split at hl
   ·rename_i ht;cases hl;subst ht;exact hs
   ·cases hl),hx.wok,hx.glob,hx.base,hx.new,hx.same⟩
  obtain ⟨fr',L',h3,hx1⟩:∃ fr' L',sub3 (fxOf mv h) n fr' L' n' [(0,v)] H'∧Ok gl M0 (Trk adr H) w0 1 adr1 fr' L' n ⟨#[x],df⟩ w':=by
   unfold endS at h3
   split at h3
   ·split at h3
    ·exact ⟨_,_,h3,hx1⟩
    ·exact frzAll_ok h3 hx1
   ·exact ⟨_,_,h3,hx1⟩
  have hx2:=sub3_ok hx1 h3
  refine ⟨_,hx2.base,hx2.wok,fun k hk1 hk2=>(hx2.same k (fxOf_mem hk1 hk2)).2,hx2.new,?_⟩
  exact hx2.fr 0 v rfl
 obtain ⟨l,ys,hK,h1,h2⟩:=vcRes_ok hT hx hr
 refine ⟨_,run_results h1,?_⟩
 cases r with
 | panic c=>exact hK.elim
 | ret v =>
  obtain ⟨s,hs,h3⟩:=onS_ok hK
  obtain ⟨adr',e1,e2,e3,e4,e5⟩:=outS (retV_den hs h2) h3
  exact ⟨adr',e1,e2,e3,e4,_,rfl,e5⟩
theorem ptrsV_den {adr:Env} {M:Nat→Prop} {w:World}:∀ {cs:List (Nat×Nat)} {xs:List Value},All2 (DenP adr) cs xs→All2 (DenV adr M w) (ptrsV cs) xs
 | [],[],_=>trivial
 | _p::_cs,_x::_xs,h=>⟨h.1,ptrsV_den h.2⟩
 | [],_::_,h=>h.elim
 | _::_,[],h=>h.elim
theorem caps_ok {adr:Env} {M:Nat→Prop} {w:World} {fr:List (Nat×V)} {a:Act} (hf:FrOk adr M w fr a) (hg:Glob gl M w) {caps:List Operand} {cs:List (Nat×Nat)} (h:capsOf (sval gl fr) caps=some cs):All2 (DenP adr) cs (caps.map a.eval) :=
 capsOf_ok h fun _ _ _ hs=>sval_ok hf hg hs
theorem denP_lt {M0:Nat→Prop} {adr:Env} {L:List (Nat×Blk)} {n:Nat} {w:World} (hW:WOk M0 adr L n w):∀ {cs:List (Nat×Nat)} {xs:List Value},All2 (DenP adr) cs xs→∀ p ∈ cs,p.1<n
 | [],[],_,p,hp=>by simp at hp
 | q::cs,x::xs,h,p,hp=>by
  rcases List.mem_cons.1 hp with rfl|hp
  ·obtain ⟨b,m,h1,_⟩:=h.1
   rcases Nat.lt_or_ge p.1 n with h2|h2
   ·exact h2
   ·rw[hW.fresh p.1 h2] at h1;cases h1
  ·exact denP_lt hW h.2 p hp
 | [],_::_,h,_,_=>h.elim
 | _::_,[],h,_,_=>h.elim
theorem denP_move {adr adr':Env} {cs:List (Nat×Nat)} {xs:List Value} (h:All2 (DenP adr) cs xs) (ha:∀ p ∈ cs,adr' p.1=adr p.1):All2 (DenP adr') cs xs :=
 All2.imp' (fun p hp x hd=>by obtain ⟨b,m,h1,h2⟩:=hd;exact ⟨b,m,(ha p hp).trans h1,h2⟩) h
theorem Ok.rebase {M0 S0:Nat→Prop} {N:Nat} {w w':World} {adr adr1 adr2:Env} {fx fx':List Nat} {df:List Deferred} {fr:List (Nat×V)} {L:List (Nat×Blk)} {n:Nat} {a:Act} (h:Ok gl M0 S0 ⟨w,adr2,fx',df⟩ N adr1 fr L n a w') (h2:∀ k ∈ fx,k ∈ fx'∧adr2 k=adr k) :
 Ok gl M0 S0 ⟨w,adr,fx,df⟩ N adr1 fr L n a w':=⟨h.size,h.defers,h.fr,h.wok,h.glob,h.base,h.new,fun k hk=>by
  obtain ⟨h3,h4⟩:=h2 k hk
  obtain ⟨h5,h6⟩:=h.same k h3
  exact ⟨h5,h6.trans h4⟩⟩
theorem leaves_of_dcall {fn:Func} {g:Nat} {cs:List (Nat×Nat)} {c:Option C} {M0 S0:Nat→Prop} {w0:Base} {adr:Env} {fr:List (Nat×V)} {L:List (Nat×Blk)} {n:Nat} {a:Act} {w:World} {k:SK} {R:Ending→World→Prop} {u:FrameMode} {xs:List Value} (hB:HasBody P g)
 (h:dcall P gl g (ptrsV cs) c fr L n k) (hx:Ok gl M0 S0 w0 fn.ntmps adr fr L n a w) (hc:All2 (DenP adr) cs xs) (hu:mdOk adr (Mut M0 adr L) w c u)
 (hk:∀ adr' L' n' w',k fr L' n'→Ok gl M0 S0 w0 fn.ntmps adr' fr L' n' a w'→∃ v,(results fn a.tmps).run P w'=.ok v w'∧R (.returned v) w') :
 Leaves P fn a.tmps R [{ target:=.fn (.func g) xs.toArray,args:=#[] }] u w:=by
 obtain ⟨H,H',n',⟨hn,hkeys,hF⟩,hsub,hr⟩:=h
 rw[fBs_eq] at hr
 have hs:∀ k B,look H k=some B→look L k=some B:=fun k B=>subH_ok hsub
 have hur:u≠.run:=by
  cases c with
  | none=>rw[show u=.returning from hu];simp
  | some c=>obtain ⟨x,e,_⟩:=hu;rw[e];simp
 refine leaves_cons hur (f:=g) (args:=xs.toArray) ?_ ?_
 ·show (callFunc g (#[]++xs.toArray)).run P w=_
  rw[Array.empty_append]
  exact hB.enters _ _
 ·refine (hF w (Rest M0 adr L H) adr xs u (hx.wok.part hs) (by rw[mut_rest hs];exact hx.glob) (ptrsV_den hc) (by rw[mut_rest hs];exact hu)).mono ?_
  rintro e u' w' ⟨⟨v,rfl⟩,hst,adr',hE,hW,ha,hnew⟩
  obtain ⟨hok,_⟩:=hx.called (mv:=[]) hs hn hkeys hE hW (fun k hk _=>ha k hk) (by simp) (fun _ _ _ k hk=>by simp at hk) (fun _ _ _ _ _ _ _ j hj=>by simp at hj) (fun _ _=>by simp) hnew
  obtain ⟨v',h1,h2⟩:=hk adr' _ n' w' hr hok
  show Leaves P fn a.tmps R [] (settle u') w'
  rw[hst]
  exact ⟨v',h1,h2⟩
theorem wpWant {ops:Array Oper} {Q:Exit→Act→World→Prop} {a:Act} {w:World} {rest:List Oper} {o:Oper} (hw:Region.wanted o (yielded ops a.tmps)=true)
 (h:∀ K:Act→World→Prop,(∀ a w,wpList P ops Q rest a w→K a w)→o.wp P a w K Q):wpList P ops Q (o::rest) a w :=
 wpList_step fun K hK=>by rw[if_pos hw];exact h K hK
theorem fn_of_vcD (hT:Fits P tt) (hm:P.follows .mixedOrders=true) {f:FuncId} {fn:Func} {a b rest:Code} {id g d0:Nat} {caps:List Operand} {o0 o1:Oper} {vs:List V} {H:List (Nat×Blk)} {h:Nat} {r:Ret} {H':List (Nat×Blk)} {n':Nat} {mv:List Nat} (hf:P.funcs[f]?=some fn)
 (hb:fn.body=some (.seq a (.seq b (.seq (.region id #[o0,o1] false) rest)))) (h0:o0.op=.makeFunc (.func g) #[] caps.toArray) (h0d:o0.dst=some d0) (h0g:o0.guard=none) {c1:Call} (h1:o1.op=.defer c1) (h1c:c1.callee=.value (.tmp d0)) (h1a:c1.args=#[]) (h1d:o1.dst=none) (h1g:o1.guard=none)
 (hd0:Nat.blt d0 fn.ntmps=true) (hBg:HasBody P g) (hB:HasBody P f) (hN:Nat.ble vs.length fn.ntmps=true)
 (hh:Nat.ble h n'=true) (hk:keysIn h H H'=true) (hmv:allIn H mv=true)
 (hdr:drawn a=false∧drawn b=false∧drawn rest=false) (hv:vcD P gl tt (fxOf mv h) fn.ntmps nv cu a b rest g d0 caps fn.results.toList r H' n' (argFr 0 vs) H h):Fn P gl f vs H h r H' n' mv:=by
 refine ⟨Nat.le_of_ble_eq_true hh,keysIn_ok hk,allIn_ok hmv,fun w M0 adr xs hW hg hd=>.inl ⟨hB,?_⟩⟩
 have hN':=Nat.le_of_ble_eq_true hN
 have hlen:=All2.length hd
 let R:Ending→World→Prop:=fun e w'=>∃ adr':Env,Evo (Trk adr H) w w'∧WOk M0 adr' H' n' w'∧(∀ k,k<h→k ∉ mv→adr' k=adr k)∧(∀ k B b m,look H' k=some B→adr' k=some (some b,m)→Trk adr H b∨w.heap.size≤b)∧RetOk adr' (Mut M0 adr' H') w' r e
 let w0:Base:=⟨w,adr,fxOf mv h,[]⟩
 have start:Ok gl M0 (Trk adr H) w0 fn.ntmps adr (argFr 0 vs) H h ⟨xs.toArray++Array.replicate (fn.ntmps - xs.toArray.size) undef,[]⟩ w:=by
  refine ⟨?_,rfl,fun t s hl=>?_,hW,hg,Evo.refl _ _,fun k B b m hk ha=>.inl ⟨k,B,m,hk,ha⟩,fun k hk=>⟨fxOf_lt hk,rfl⟩⟩
  ·simp;omega
  ·obtain ⟨_,h2⟩:=look_argFr hl
   simp only[Nat.sub_zero] at h2
   obtain ⟨x,hx1,hx2⟩:=All2.get hd h2
   have hlt:t<xs.length:=(List.getElem?_eq_some_iff.1 hx1).1
   rw[Array.getD_eq_getD_getElem?,Array.getElem?_append_left (by simpa using hlt)]
   simp only[List.getElem?_toArray,hx1,Option.getD_some]
   exact hx2
 have out:∀ {c c':C} {L:List (Nat×Blk)} {n:Nat} {adr1:Env} {fr:List (Nat×V)} {a:Act} {w':World} {x:Value},Ok gl M0 (Trk adr H) w0 fn.ntmps adr1 fr L n a w'→DenC adr1 (Mut M0 adr1 L) w' c x→sub3 (fxOf mv h) n [(0,.c c)] L n' [(0,.c c')] H'→
  ∃ adr':Env,Evo (Trk adr H) w w'∧WOk M0 adr' H' n' w'∧(∀ k,k<h→k ∉ mv→adr' k=adr k)∧(∀ k B b m,look H' k=some B→adr' k=some (some b,m)→Trk adr H b∨w.heap.size≤b)∧DenC adr' (Mut M0 adr' H') w' c' x:=by
  intro c c' L n adr1 fr a w' x hx hs h3
  have hx1:Ok gl M0 (Trk adr H) w0 1 adr1 [(0,.c c)] L n ⟨#[x],[]⟩ w':=⟨rfl,rfl,(fun t s' hl=>by
   rw[look_cons] at hl
   split at hl
   ·rename_i ht;cases hl;subst ht;exact hs
   ·cases hl),hx.wok,hx.glob,hx.base,hx.new,hx.same⟩
  have hx2:=sub3_ok hx1 h3
  refine ⟨_,hx2.base,hx2.wok,fun k hk1 hk2=>(hx2.same k (fxOf_mem hk1 hk2)).2,hx2.new,?_⟩
  exact hx2.fr 0 (.c c') rfl
 -- endings ahead of the defer
 have q1:∀ {fr L n adr1 a w'},endR (fxOf mv h) fn.results.toList tt r H' n' fr L n→Ok gl M0 (Trk adr H) w0 fn.ntmps adr1 fr L n a w'→bodyPostD P fn R .ret a w':=by
  intro fr L n adr1 a w' hr hx
  obtain ⟨v,h1,h2⟩:=fin_ok hT hr hx
  show Leaves P fn a.tmps R a.defers .returning w'
  rw[hx.defers]
  exact ⟨v,h1,h2⟩
 have q2:∀ {c fr L n adr1 x a w'},endF (fxOf mv h) fn.results.toList tt r H' n' (.panic c) fr L n→Ok gl M0 (Trk adr H) w0 fn.ntmps adr1 fr L n a w'→DenC adr1 (Mut M0 adr1 L) w' c x→bodyPostD P fn R (.panic [{ v:=x,recovered:=false }]) a w':=by
  intro c fr L n adr1 x a w' hk hx hd'
  show Leaves P fn a.tmps R a.defers (.panicking _) w'
  rw[hx.defers]
  cases r with
  | ret v=>exact hk.elim
  | panic c' =>
   obtain ⟨adr',e1,e2,e3,e4,e5⟩:=out (c:=c) (c':=c') hx hd' hk
   exact ⟨adr',e1,e2,e3,e4,x,rfl,e5⟩
 replace hv:vcCode P gl tt (fxOf mv h) fn.ntmps nv cu a (argFr 0 vs) H h fun x fr1 L1 n1=>match x with
  | .normal=>vcCode P gl tt (fxOf mv h) fn.ntmps nv cu b fr1 L1 n1 fun x fr2 L2 n2=>match x with
   | .normal=>capsK (capsOf (sval gl fr2) caps) fun cs=>vcCode P gl tt (fxOf mv h++cs.map (·.1)) fn.ntmps nv cu rest ((d0,.c (.fn g cs))::fr2) L2 n2 (endD P gl g cs (fxOf mv h) fn.results.toList tt r H' n')
   | x=>endF (fxOf mv h) fn.results.toList tt r H' n' x fr2 L2 n2
  | x=>endF (fxOf mv h) fn.results.toList tt r H' n' x fr1 L1 n1:=hv
 refine calls_of_wp_defers hf hb (wp_seq (vcCode_ok (w0:=w0) hT hm a _ _ _ adr _ _ _ w hv start ⟨?_,?_,?_,?_,?_,fun e=>by rw[hdr.1] at e;cases e⟩))
 ·intro fr1 L1 n1 adr1 a1 w1 hk1 hx1
  refine wp_seq (vcCode_ok (w0:=w0) hT hm b _ _ _ adr1 _ _ _ w1 hk1 hx1 ⟨?_,?_,?_,?_,?_,fun e=>by rw[hdr.2.1] at e;cases e⟩)
  ·intro fr2 L2 n2 adr2 a2 w2 hk2 hx2
   replace hk2:capsK (capsOf (sval gl fr2) caps) fun cs=>vcCode P gl tt (fxOf mv h++cs.map (·.1)) fn.ntmps nv cu rest ((d0,.c (.fn g cs))::fr2) L2 n2 (endD P gl g cs (fxOf mv h) fn.results.toList tt r H' n'):=hk2
   cases hcs:capsOf (sval gl fr2) caps with
   | none=>rw[hcs] at hk2;exact hk2.elim
   | some cs =>
    rw[hcs] at hk2
    replace hk2:vcCode P gl tt (fxOf mv h++cs.map (·.1)) fn.ntmps nv cu rest ((d0,.c (.fn g cs))::fr2) L2 n2 (endD P gl g cs (fxOf mv h) fn.results.toList tt r H' n'):=hk2
    have hc:=caps_ok hx2.fr hx2.glob hcs
    have hsz:=hx2.size
    have hd0':Nat.blt d0 fn.ntmps=true:=hd0
    have hf2:FrOk adr2 (Mut M0 adr2 L2) w2 ((d0,.c (.fn g cs))::fr2) (a2.put (some d0) (.func (.func g) #[] (caps.map a2.eval).toArray)) :=
     hx2.fr.put (dst:=some d0) hsz hd0' (s:=.c (.fn g cs)) ⟨_,rfl,hc⟩
    have hput:(a2.put (some d0) (.func (.func g) #[] (caps.map a2.eval).toArray)).eval (.tmp d0)=.func (.func g) #[] (caps.map a2.eval).toArray:=by
     have:=tmps_put hsz hd0' (.func (.func g) #[] (caps.map a2.eval).toArray) d0
     rw[if_pos rfl] at this
     exact this
    have hx3:Ok gl M0 (Trk adr H) ⟨w,adr2,fxOf mv h++cs.map (·.1),[{ target:=.fn (.func g) (caps.map a2.eval).toArray,args:=#[] }]⟩ fn.ntmps adr2 ((d0,.c (.fn g cs))::fr2) L2 n2 ⟨(a2.put (some d0) (.func (.func g) #[] (caps.map a2.eval).toArray)).tmps,[{ target:=.fn (.func g) (caps.map a2.eval).toArray,args:=#[] }]⟩ w2 :=
     ⟨by rw[put_size];exact hsz,rfl,hf2,hx2.wok,hx2.glob,hx2.base,hx2.new,fun k hk=>by
      refine ⟨?_,rfl⟩
      rcases List.mem_append.1 hk with hk|hk
      ·exact (hx2.same k hk).1
      ·obtain ⟨p,hp,rfl⟩:=List.mem_map.1 hk
       exact denP_lt hx2.wok hc p hp⟩
    refine wp_seq (wp_region_list ?_)
    have hw0:∀ y,Region.wanted o0 y=true:=fun y=>by simp[Region.wanted,h0g]
    have hw1:∀ y,Region.wanted o1 y=true:=fun y=>by simp[Region.wanted,h1g]
    have hds:=hx2.defers
    refine wpWant (hw0 _) fun K hK=>?_
    unfold Oper.wp
    rw[show (execOp a2.eval o0).run P w2=.ok (.value (.func (.func g) #[] (caps.map a2.eval).toArray)) w2 from by unfold execOp;rw[h0];simp[Instr.makeFunc]]
    rw[Oper.upon_value,h0d]
    refine hK _ _ ?_
    refine wpWant (hw1 _) fun K hK=>?_
    unfold Oper.wp
    rw[show (execOp (a2.put (some d0) (.func (.func g) #[] (caps.map a2.eval).toArray)).eval o1).run P w2=.ok (.defer { target:=.fn (.func g) (caps.map a2.eval).toArray,args:=#[] }) w2 from by
     unfold execOp;rw[h1];simp[resolve,h1c,h1a,hput,Deferred.ofValue]]
    rw[Oper.upon_defer,h1d]
    refine hK _ _ ?_
    have hact:({ a2.put (some d0) (.func (.func g) #[] (caps.map a2.eval).toArray) with defers:={ target:=.fn (.func g) (caps.map a2.eval).toArray,args:=#[] }::(a2.put (some d0) (.func (.func g) #[] (caps.map a2.eval).toArray)).defers }:Act).put none undef=⟨(a2.put (some d0) (.func (.func g) #[] (caps.map a2.eval).toArray)).tmps,[{ target:=.fn (.func g) (caps.map a2.eval).toArray,args:=#[] }]⟩:=by
     rw[put_defers,hds];rfl
    rw[hact]
    have hfx:∀ k ∈ fxOf mv h,k ∈ fxOf mv h++cs.map (·.1)∧adr2 k=adr k:=fun k hk=>⟨List.mem_append_left _ hk,(hx2.same k hk).2⟩
    have q4:∀ {c:Option C} {u fr L n adr1 a w'},mdOk adr1 (Mut M0 adr1 L) w' c u→dcall P gl g (ptrsV cs) c fr L n (fun fr L n=>endR (fxOf mv h) fn.results.toList tt r H' n' fr L n)→Ok gl M0 (Trk adr H) ⟨w,adr2,fxOf mv h++cs.map (·.1),[{ target:=.fn (.func g) (caps.map a2.eval).toArray,args:=#[] }]⟩ fn.ntmps adr1 fr L n a w'→Leaves P fn a.tmps R a.defers u w':=by
     intro c u fr L n adr1 a w' hu hk hx
     rw[hx.defers]
     exact leaves_of_dcall hBg hk hx (denP_move hc fun p hp=>(hx.same p.1 (List.mem_append_right _ (List.mem_map_of_mem hp))).2) hu fun adr' L' n' w'' hk' hx'=>fin_ok hT hk' (hx'.rebase hfx)
    refine vcCode_ok (w0:=⟨w,adr2,fxOf mv h++cs.map (·.1),[{ target:=.fn (.func g) (caps.map a2.eval).toArray,args:=#[] }]⟩) hT hm rest _ _ _ adr2 _ _ _ w2 hk2 hx3 ⟨?_,?_,?_,?_,?_,fun e=>by rw[hdr.2.2] at e;cases e⟩
    ·intro fr L n adr1 a w' hk hx;exact q4 (c:=none) rfl hk hx
    ·intro id fr2 L2 n2 adr2 a2 w2 hk hx;exact hk.elim
    ·intro id fr2 L2 n2 adr2 a2 w2 hk hx;exact hk.elim
    ·intro fr L n adr1 a w' hk hx;exact q4 (c:=none) rfl hk hx
    ·intro c fr L n adr1 x a w' hk hx hd;exact q4 (c:=some c) ⟨x,rfl,hd⟩ hk hx
  ·intro id fr2 L2 n2 adr2 a2 w2 hk hx;exact hk.elim
  ·intro id fr2 L2 n2 adr2 a2 w2 hk hx;exact hk.elim
  ·intro fr2 L2 n2 adr2 a2 w2 hk hx;exact q1 hk hx
  ·intro c fr2 L2 n2 adr2 x a2 w2 hk hx hd;exact q2 hk hx hd
 ·intro id fr2 L2 n2 adr2 a2 w2 hk hx;exact hk.elim
 ·intro id fr2 L2 n2 adr2 a2 w2 hk hx;exact hk.elim
 ·intro fr2 L2 n2 adr2 a2 w2 hk hx;exact q1 hk hx
 ·intro c fr2 L2 n2 adr2 x a2 w2 hk hx hd;exact q2 hk hx hd
def recC:Option C→C
 | none=>.d (.v .nilIface)
 | some c=>c
theorem recoverD_none {c₀:Frame} {cs:List Frame} (h:c₀.mode=.returning):recoverD (c₀::cs)=none:=by
 obtain ⟨a1,a2,a3,a4,a5,a6,a7⟩:=c₀
 simp only at h
 subst h
 rfl
theorem recoverD_some {c₀:Frame} {cs:List Frame} {x:Value} (h:c₀.mode=.panicking [{ v:=x,recovered:=false }]):recoverD (c₀::cs)=some (x,{ c₀ with mode:=.panicking [{ v:=x,recovered:=true }] }::cs):=by
 obtain ⟨a1,a2,a3,a4,a5,a6,a7⟩:=c₀
 simp only at h
 subst h
 rfl
theorem fnD_of_vc (hT:Fits P tt) (hm:P.follows .mixedOrders=true) {f:FuncId} {fn:Func} {rest:Code} {id d6 d3:Nat} {o0 o1:Oper} {c0:Call} {vs:List V} {H:List (Nat×Blk)} {h:Nat} {c:Option C} {H':List (Nat×Blk)} {n':Nat} (hf:P.funcs[f]?=some fn)
 (hb:fn.body=some (.seq (.region id #[o0,o1] false) rest)) (h0:o0.op=.call c0) (h0c:c0.callee=.builtin .recover) (h0d:o0.dst=some d6) (h0g:o0.guard=none) (h1:o1.op=.assign (.tmp d6)) (h1d:o1.dst=some d3) (h1g:o1.guard=none)
 (hd6:Nat.blt d6 fn.ntmps=true) (hd3:Nat.blt d3 fn.ntmps=true) (hN:Nat.ble vs.length fn.ntmps=true)
 (hh:Nat.ble h n'=true) (hk:keysIn h H H'=true)
 (hv:vcCode P gl tt (fxOf [] h) fn.ntmps nv cu rest ((d3,.c (recC c))::(d6,.c (recC c))::argFr 0 vs) H h (endF (fxOf [] h) fn.results.toList tt (.ret (.tup [])) H' n')):FnD P gl f vs H h c H' n':=by
 refine ⟨Nat.le_of_ble_eq_true hh,keysIn_ok hk,fun w M0 adr xs u hW hg hd hu=>?_⟩
 have hN':=Nat.le_of_ble_eq_true hN
 have hlen:=All2.length hd
 let w0:Base:=⟨w,adr,fxOf [] h,[]⟩
 have start:Ok gl M0 (Trk adr H) w0 fn.ntmps adr (argFr 0 vs) H h ⟨xs.toArray++Array.replicate (fn.ntmps - xs.toArray.size) undef,[]⟩ w:=by
  refine ⟨?_,rfl,fun t s hl=>?_,hW,hg,Evo.refl _ _,fun k B b m hk ha=>.inl ⟨k,B,m,hk,ha⟩,fun k hk=>⟨fxOf_lt hk,rfl⟩⟩
  ·simp;omega
  ·obtain ⟨_,h2⟩:=look_argFr hl
   simp only[Nat.sub_zero] at h2
   obtain ⟨x,hx1,hx2⟩:=All2.get hd h2
   have hlt:t<xs.length:=(List.getElem?_eq_some_iff.1 hx1).1
   rw[Array.getD_eq_getD_getElem?,Array.getElem?_append_left (by simpa using hlt)]
   simp only[List.getElem?_toArray,hx1,Option.getD_some]
   exact hx2
 obtain ⟨y,hy⟩:∃ y:Value,DenC adr (Mut M0 adr H) w (recC c) y∧((c=none∧u=.returning∧y=.nilIface)∨u=.panicking [{ v:=y,recovered:=false }]):=by
  cases c with
  | none=>exact ⟨.nilIface,DenD.v _,.inl ⟨rfl,hu,rfl⟩⟩
  | some c=>obtain ⟨x,hx1,hx2⟩:=hu;exact ⟨x,hx2,.inr hx1⟩
 obtain ⟨hy,hyu⟩:=hy
 refine callsD_of_wpS hf hb fun c₀ cs hc₀=>wpS_seq (wpS_region ?_)
 have h6:=(start.put (dst:=some d6) hd6 (s:=.c (recC c)) hy)
 have hev:(({ tmps:=xs.toArray++Array.replicate (fn.ntmps - xs.toArray.size) undef,defers:=[] }:Act).put (some d6) y).eval (.tmp d6)=y:=by
  have:=tmps_put start.size hd6 y d6
  rw[if_pos rfl] at this
  exact this
 have h3:=(h6.put (dst:=some d3) hd3 (s:=.c (recC c)) hy)
 have hrun0:(execOp ({ tmps:=xs.toArray++Array.replicate (fn.ntmps - xs.toArray.size) undef,defers:=[] }:Act).eval o0).run P w=.ok .recover w:=by
  unfold execOp;rw[h0]
  obtain ⟨cal,ar,at'⟩:=c0
  simp only at h0c
  subst h0c
  rfl
 have hrun1:(execOp (({ tmps:=xs.toArray++Array.replicate (fn.ntmps - xs.toArray.size) undef,defers:=[] }:Act).put (some d6) y).eval o1).run P w=.ok (.value y) w:=by
  unfold execOp;rw[h1]
  simp only[Sem.run_pure,hev]
 have hw0:∀ y,Region.wanted o0 y=true:=fun y=>by simp[Region.wanted,h0g]
 have hw1:∀ y,Region.wanted o1 y=true:=fun y=>by simp[Region.wanted,h1g]
 -- behind the region
 have tail:∀ (cs':List Frame) (u':FrameMode),cs'={ c₀ with mode:=u' }::cs→settle u'=.returning→
  rest.wpS P (bodyPostS P fn c₀ cs fun e u' w'=>(∃ v,e=.returned v)∧settle u'=.returning∧∃ adr':Env,Evo (Trk adr H) w w'∧WOk M0 adr' H' n' w'∧(∀ k,k<h→adr' k=adr k)∧(∀ k B b m,look H' k=some B→adr' k=some (some b,m)→Trk adr H b∨w.heap.size≤b))
   ((({ tmps:=xs.toArray++Array.replicate (fn.ntmps - xs.toArray.size) undef,defers:=[] }:Act).put (some d6) y).put (some d3) y) cs' w:=by
  intro cs' u' hcs hst
  refine wpS_of_wp (vcCode_ok (w0:=w0) hT hm rest _ _ _ adr _ _ _ w hv h3 ⟨?_,?_,?_,?_,?_,?_⟩)
  ·intro fr L n adr1 a w' hk hx
   replace hk:endR (fxOf [] h) fn.results.toList tt (.ret (.tup [])) H' n' fr L n:=hk
   obtain ⟨v,q1,adr',e1,e2,e3,e4,e5⟩:=fin_ok hT hk hx
   exact ⟨hx.defers,u',hcs,v,q1,⟨v,rfl⟩,hst,adr',e1,e2,fun k hk=>e3 k hk (by simp),e4⟩
  ·intro id fr2 L2 n2 adr2 a2 w2 hk hx;exact hk.elim
  ·intro id fr2 L2 n2 adr2 a2 w2 hk hx;exact hk.elim
  ·intro fr L n adr1 a w' hk hx
   replace hk:endR (fxOf [] h) fn.results.toList tt (.ret (.tup [])) H' n' fr L n:=hk
   obtain ⟨v,q1,adr',e1,e2,e3,e4,e5⟩:=fin_ok hT hk hx
   exact ⟨hx.defers,u',hcs,v,q1,⟨v,rfl⟩,hst,adr',e1,e2,fun k hk=>e3 k hk (by simp),e4⟩
  ·intro c fr L n adr1 x a w' hk hx hd;exact hk.elim
  ·intro _ c a d v w h
   exact ⟨by have:=h.1;rwa [put_defers] at this,h.2⟩
 show wpOpsS P #[o0,o1] _ [0,1] _ (c₀::cs) w
 have e0:(#[o0,o1]:Array Oper)[0]?=some o0:=rfl
 have e1:(#[o0,o1]:Array Oper)[1]?=some o1:=rfl
 simp only[wpOpsS,e0,e1,hw0,hw1,if_true,hrun0]
 rcases hyu with ⟨rfl,rfl,rfl⟩|rfl
 ·rw[recoverD_none hc₀]
  simp only[h0d,hrun1,Oper.upon,h1d]
  exact tail _ .returning (by rw[← hc₀]) rfl
 ·rw[recoverD_some hc₀]
  simp only[h0d,hrun1,Oper.upon,h1d]
  exact tail _ _ rfl rfl
end
end Go.EYtcdjjjokniinkaaGreatDoor
end
