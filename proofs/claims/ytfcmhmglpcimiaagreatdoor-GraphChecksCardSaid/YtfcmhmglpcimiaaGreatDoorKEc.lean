/- Proved: a part of what the law is proved with (the reckoner, contracts of functions, plain laws). Conditions: as each says. -/
import Derived.Test.YtfcmhmglpcimiaaGreatDoorKEb
namespace Go.EYtfcmhmglpcimiaaGreatDoor
open Go Go.RowKit
section
variable {gl:List (Nat×List D)} {M0 S0:Nat→Prop} {w0:Base} {N:Nat} {adr:Env} {fr:List (Nat×V)} {L:List (Nat×Blk)} {n:Nat} {a:Act} {w:World}
theorem Ok.move (h:Ok gl M0 S0 w0 N adr fr L n a w) {S:Nat→Prop} {adr':Env} {fr':List (Nat×V)} {L':List (Nat×Blk)} {n':Nat} {w':World}
 (hE:Evo S w w') (hS:∀ b,b<w.heap.size→S b→Mut M0 adr L b∧(S0 b∨w0.w.heap.size≤b)) (hM:∀ b,b<w.heap.size→Mut M0 adr' L' b→Mut M0 adr L b)
 (hfr:∀ t s,look fr' t=some s→look fr t=some s∧∀ k e,menV k s=true→adr k=some e→adr' k=some e)
 (hW:WOk M0 adr' L' n' w') (hnew:∀ k B b m,look L' k=some B→adr' k=some (some b,m)→S0 b∨w0.w.heap.size≤b) (hsame:∀ k ∈ w0.fx,k<n→k<n'∧adr' k=adr k):Ok gl M0 S0 w0 N adr' fr' L' n' a w':=by
 refine ⟨h.size,h.defers,fun t s hl=>?_,hW,h.glob.evo hE (fun b hb hs=>(hS b hb hs).1) hM,?_,hnew,fun k hk=>by
  obtain ⟨h1,h2⟩:=h.same k hk
  obtain ⟨h3,h4⟩:=hsame k hk h1
  exact ⟨h3,h4.trans h2⟩⟩
 ·obtain ⟨h1,h2⟩:=hfr t s hl
  exact (h.fr t s h1).evo hE (fun b hb hs=>(hS b hb hs).1) hM h2
 ·refine ⟨hE.os.trans h.base.os,hE.tape.trans h.base.tape,hE.output.trans h.base.output,Nat.le_trans h.base.size hE.size,fun b hb hn=>?_,fun b cur e f hc=>?_⟩
  ·have hb':b<w.heap.size:=Nat.lt_of_lt_of_le hb h.base.size
   rw[hE.block b hb' (fun hs=>by rcases (hS b hb' hs).2 with h1|h1;exact hn h1;omega)]
   exact h.base.block b hb hn
  ·obtain ⟨c1,h1,s1⟩:=h.base.kind b cur e f hc
   obtain ⟨c2,h2,s2⟩:=hE.kind b c1 e f h1
   exact ⟨c2,h2,s2.trans s1⟩
def adrPush (adr:Env) (n:Nat) (e:Option Nat×Nat):Env:=fun k=>if k=n then some e else adr k
theorem adrPush_old {e e':Option Nat×Nat} {k:Nat} (hf:∀ k,n≤k→adr k=none) (h:adr k=some e):adrPush adr n e' k=some e:=by
 unfold adrPush
 rw[if_neg (fun hk=>by rw[hf k (by omega)] at h;cases h)]
 exact h
theorem mut_push {B:Blk} {b:Nat} {e:Option Nat×Nat} (hf:∀ k,n≤k→adr k=none) (hk:∀ k B,look L k=some B→k<n):Mut M0 (adrPush adr n e) ((n,B)::L) b↔Mut M0 adr L b∨e.1=some b:=by
 unfold Mut
 constructor
 ·rintro (h|⟨k,B',m,h1,h2⟩)
  ·exact .inl (.inl h)
  ·rw[look_cons] at h1
   unfold adrPush at h2
   by_cases hkn:k=n
   ·rw[if_pos hkn] at h2;cases h2;exact .inr rfl
   ·rw[if_neg (fun e=>hkn e.symm)] at h1
    rw[if_neg hkn] at h2
    exact .inl (.inr ⟨k,B',m,h1,h2⟩)
 ·rintro ((h|⟨k,B',m,h1,h2⟩)|h)
  ·exact .inl h
  ·refine .inr ⟨k,B',m,?_,adrPush_old hf h2⟩
   rw[look_cons,if_neg (fun e=>by have:=hk k B' h1;omega)]
   exact h1
  ·obtain ⟨e1,e2⟩:=e
   simp only at h;subst h
   exact .inr ⟨n,B,e2,by rw[look_cons,if_pos rfl],by unfold adrPush;rw[if_pos rfl]⟩
theorem LocB.evo {S:Nat→Prop} {M M':Nat→Prop} {adr':Env} {w':World} (h:Evo S w w') (hS:∀ b,b<w.heap.size→S b→M b) (hM:∀ b,b<w.heap.size→M' b→M b) {e:Option (Option Nat×Nat)} {B:Blk}
 (hb:∀ b m,e=some (some b,m)→b<w.heap.size→w'.heap[b]?=w.heap[b]?) (ha:∀ l t,B=.var l t→∀ c ∈ l,∀ k e,menC k c=true→adr k=some e→adr' k=some e) (hl:LocB adr M w e B):LocB adr' M' w' e B:=by
 match e,B,hl,hb,ha with
 | some (some b,_),.var l t,hl,hb,ha =>
  obtain ⟨xs,h1,h2⟩:=hl
  exact ⟨xs,(hb b _ rfl (Array.getElem?_eq_some_iff.1 h1).1).trans h1,h2.evo h hS hM (ha l t rfl)⟩
 | some (some b,_),.rows z l e,hl,hb,_ =>
  obtain ⟨g1,g2,g3,cur,c,g4,g5,g6,g7,g8⟩:=hl
  exact ⟨g1,g2,g3,cur,c,(hb b _ rfl (Array.getElem?_eq_some_iff.1 g4).1).trans g4,g5,g6,g7,g8.evo h hS hM⟩
 | some (none,_),.rows z l _,hl,_,_=>exact hl
 | some (some b,_),.mp ks vs,hl,hb,_ =>
  obtain ⟨es,cl,h1,h2⟩:=hl
  exact ⟨es,cl,(hb b _ rfl (Array.getElem?_eq_some_iff.1 h1).1).trans h1,h2.evo h hS hM⟩
 | some (none,_),.var _ _,hl,_,_=>exact hl.elim
 | none,.var _ _,hl,_,_=>exact hl.elim
 | none,.rows _ _ _,hl,_,_=>exact hl.elim
theorem Ok.push (h:Ok gl M0 S0 w0 N adr fr L n a w) {B:Blk} {o:Obj} {m:Nat}
 (hB:LocB (adrPush adr n (some w.heap.size,m)) (Mut M0 (adrPush adr n (some w.heap.size,m)) ((n,B)::L)) (w.alloc o) (some (some w.heap.size,m)) B) :
 Ok gl M0 S0 w0 N (adrPush adr n (some w.heap.size,m)) fr ((n,B)::L) (n+1) a (w.alloc o):=by
 have hf:=h.wok.fresh
 have hk:=h.wok.keys
 have hmut:∀ b,b<w.heap.size→Mut M0 (adrPush adr n (some w.heap.size,m)) ((n,B)::L) b→Mut M0 adr L b:=fun b hb hm=>by
  rcases (mut_push hf hk).1 hm with h1|h1
  ·exact h1
  ·cases h1;omega
 have hE:=Evo.alloc (fun _=>False) w o
 refine h.move hE (fun _ _ hs=>hs.elim) hmut (fun t s hl=>⟨hl,fun k e _ he=>adrPush_old hf he⟩) ?_ ?_ (fun k _ hk=>⟨by omega,by unfold adrPush;rw[if_neg (by omega)]⟩)
 ·refine ⟨fun k B' hl=>?_,fun k hkn=>?_,fun k B' hl=>?_,fun k k' B1 B2 b m1 m2 h1 h2 h3 h4=>?_,fun k B' b m' hl ha=>?_,fun b hb=>?_⟩
  ·rw[look_cons] at hl
   split at hl
   ·omega
   ·have:=hk k B' hl;omega
  ·unfold adrPush
   rw[if_neg (by omega)]
   exact hf k (by omega)
  ·rw[look_cons] at hl
   by_cases e:n=k
   ·subst e
    rw[if_pos rfl] at hl;cases hl
    have:adrPush adr n (some w.heap.size,m) n=some (some w.heap.size,m):=by unfold adrPush;rw[if_pos rfl]
    rw[this];exact hB
   ·rw[if_neg e] at hl
    have hlo:=h.wok.loc k B' hl
    have:adrPush adr n (some w.heap.size,m) k=adr k:=by unfold adrPush;rw[if_neg (fun h=>e h.symm)]
    rw[this]
    exact hlo.evo hE (fun _ _ hs=>hs.elim) hmut (fun b _ _ hb=>hE.block b hb (fun h=>h)) (fun l t _ c _ k e _ he=>adrPush_old hf he)
  ·have look':∀ k B1 b m',look ((n,B)::L) k=some B1→adrPush adr n (some w.heap.size,m) k=some (some b,m')→(k=n∧b=w.heap.size)∨(∃ B,look L k=some B∧adr k=some (some b,m')∧b<w.heap.size):=by
    intro k B1 b m' hl ha
    rw[look_cons] at hl
    unfold adrPush at ha
    by_cases e:k=n
    ·rw[if_pos e] at ha;cases ha;exact .inl ⟨e,rfl⟩
    ·rw[if_neg (fun h=>e h.symm)] at hl
     rw[if_neg e] at ha
     exact .inr ⟨B1,hl,ha,h.wok.lt hl ha⟩
   rcases look' k B1 b m1 h1 h3 with ⟨e1,e2⟩|⟨B1,g1,g2,g3⟩ <;> rcases look' k' B2 b m2 h2 h4 with ⟨e3,e4⟩|⟨B2,g4,g5,g6⟩
   ·omega
   ·omega
   ·omega
   ·exact h.wok.inj k k' B1 B2 b m1 m2 g1 g4 g2 g5
  ·rw[look_cons] at hl
   unfold adrPush at ha
   by_cases e:k=n
   ·rw[if_pos e] at ha;cases ha
    intro hm
    have:=h.wok.bound _ hm
    omega
   ·rw[if_neg (fun h=>e h.symm)] at hl
    rw[if_neg e] at ha
    exact h.wok.prot k B' b m' hl ha
  ·have:=h.wok.bound b hb
   simp;omega
 ·intro k B' b m' hl ha
  rw[look_cons] at hl
  unfold adrPush at ha
  by_cases e:k=n
  ·rw[if_pos e] at ha;cases ha
   exact .inr h.base.size
  ·rw[if_neg (fun h=>e h.symm)] at hl
   rw[if_neg e] at ha
   exact h.new k B' b m' hl ha
theorem locVar_new {l:List C} {t:Nat} {xs:List Value} {adr':Env} {M':Nat→Prop} (hf:∀ k e,adr k=some e→adr' k=some e) (hM:∀ b,b<w.heap.size→M' b→Mut M0 adr L b) (hd:DenCs adr (Mut M0 adr L) w l xs) (m:Nat) :
 LocB adr' M' (w.alloc (Obj.cells xs.toArray t (0,0))) (some (some w.heap.size,m)) (.var l t) :=
 ⟨xs,heap_alloc_new w _,hd.evo (Evo.alloc (fun _=>False) w _) (fun _ _ h=>h.elim) hM (fun _ _ k e _ he=>hf k e he)⟩
theorem Ok.pushVar (h:Ok gl M0 S0 w0 N adr fr L n a w) {l:List C} {xs:List Value} (t:Nat) (hd:DenCs adr (Mut M0 adr L) w l xs) :
 Ok gl M0 S0 w0 N (adrPush adr n (some w.heap.size,0)) fr ((n,.var l t)::L) (n+1) a (w.alloc (Obj.cells xs.toArray t (0,0))) :=
 h.push (locVar_new (fun k e he=>adrPush_old h.wok.fresh he) (fun b hb hm=>by
  rcases (mut_push h.wok.fresh h.wok.keys).1 hm with h1|h1
  ·exact h1
  ·cases h1;omega) hd 0)
theorem flatten_length {z:Nat}:∀ {l:List (List D)},(∀ r ∈ l,r.length=z)→l.flatten.length=l.length * z
 | [],_=>by simp
 | r::l,h=>by
  have ih:=flatten_length (z:=z) (l:=l) (fun r hr=>h r (by simp[hr]))
  simp only[List.flatten_cons,List.length_append,ih,h r (by simp),List.length_cons,Nat.add_mul];omega
theorem Ok.pushRows (h:Ok gl M0 S0 w0 N adr fr L n a w) {z:Nat} {l:List (List D)} {xs:List Value} (e:Nat) (hz:0<z) (hr:∀ r ∈ l,r.length=z) (hm:l.length≤maxLen) (hd:DenL (Mut M0 adr L) w l.flatten xs) :
 Ok gl M0 S0 w0 N (adrPush adr n (some w.heap.size,l.length)) fr ((n,.rows z l e)::L) (n+1) a (w.alloc (Obj.cells xs.toArray e (0,0))):=by
 refine h.push ⟨hz,rfl,hr,xs.toArray,l.length,heap_alloc_new w _,?_,Nat.le_refl _,hm,?_⟩
 ·have:=All2.length hd;rw[flatten_length hr] at this;simp[this]
 ·have hl:=All2.length hd
  rw[flatten_length hr] at hl
  rw[List.take_of_length_le (by simp[hl])]
  exact hd.evo (Evo.alloc (fun _=>False) w _) (fun _ _ h=>h.elim) (fun b hb hm=>by
   rcases (mut_push h.wok.fresh h.wok.keys).1 hm with h1|h1
   ·exact h1
   ·cases h1;omega)
def setL:List (Nat×Blk)→Nat→Blk→List (Nat×Blk)
 | [],_,_=>[]
 | (j,B')::r,k,B=>bif Nat.beq j k then (j,B)::r else (j,B')::setL r k B
theorem look_setL {k:Nat} {B:Blk}:∀ {L:List (Nat×Blk)} {j:Nat},look (setL L k B) j=if j=k then (look L j).map (fun _=>B) else look L j
 | [],j=>by simp[setL,look]
 | (i,B')::r,j=>by
  simp only[setL]
  cases hb:Nat.beq i k with
  | true =>
   have hik:=Nat.eq_of_beq_eq_true hb
   subst hik
   simp only[cond_true]
   rw[look_cons,look_cons]
   by_cases e:i=j
   ·subst e;simp
   ·rw[if_neg e,if_neg e,if_neg (fun h=>e h.symm)]
  | false =>
   have hik:=Nat.ne_of_beq_eq_false hb
   simp only[cond_false]
   rw[look_cons,look_cons,look_setL]
   by_cases e:i=j
   ·subst e;rw[if_pos rfl,if_pos rfl,if_neg hik]
   ·rw[if_neg e,if_neg e]
theorem mut_setL {k:Nat} {B:Blk} {b:Nat}:Mut M0 adr (setL L k B) b↔Mut M0 adr L b:=by
 unfold Mut
 constructor
 ·rintro (h|⟨j,B',m,h1,h2⟩)
  ·exact .inl h
  ·rw[look_setL] at h1
   by_cases e:j=k
   ·rw[if_pos e] at h1
    obtain ⟨B2,hB2,_⟩:=Option.map_eq_some_iff.1 h1
    exact .inr ⟨j,B2,m,hB2,h2⟩
   ·rw[if_neg e] at h1
    exact .inr ⟨j,B',m,h1,h2⟩
 ·rintro (h|⟨j,B',m,h1,h2⟩)
  ·exact .inl h
  ·by_cases e:j=k
   ·exact .inr ⟨j,B,m,by rw[look_setL,if_pos e,h1];rfl,h2⟩
   ·exact .inr ⟨j,B',m,by rw[look_setL,if_neg e];exact h1,h2⟩
theorem mut_setL_eq (k:Nat) (B:Blk):Mut M0 adr (setL L k B)=Mut M0 adr L:=funext fun _=>propext mut_setL
theorem Ok.set (h:Ok gl M0 S0 w0 N adr fr L n a w) {k b m:Nat} {B B':Blk} {cur cs:Array Value} {t:TypeId} (hk:look L k=some B) (ha:adr k=some (some b,m)) (hc:w.heap[b]?=some (Obj.cells cur t (0,0))) (hs:cs.size=cur.size)
 (hB:LocB adr (Mut M0 adr L) (w.setRow b cs) (some (some b,m)) B'):Ok gl M0 S0 w0 N adr fr (setL L k B') n a (w.setRow b cs):=by
 have hE:Evo (fun x=>x=b) w (w.setRow b cs):=Evo.setRow hc hs rfl
 have hS:∀ x,x<w.heap.size→x=b→Mut M0 adr L x:=fun x _ e=>e ▸ .inr ⟨k,B,m,hk,ha⟩
 have hM:∀ x,x<w.heap.size→Mut M0 adr (setL L k B') x→Mut M0 adr L x:=fun x _ hx=>mut_setL.1 hx
 refine h.move hE (fun x hx e=>⟨hS x hx e,e ▸ h.new k B b m hk ha⟩) hM (fun t s hl=>⟨hl,fun _ _ _ he=>he⟩) ?_ ?_ (fun k _ hk=>⟨hk,rfl⟩)
 ·refine ⟨fun j C hl=>?_,h.wok.fresh,fun j C hl=>?_,fun j j' B1 B2 b' m1 m2 h1 h2 h3 h4=>?_,fun j C b' m' hl ha'=>?_,fun x hx=>by simpa using h.wok.bound x hx⟩
  ·rw[look_setL] at hl
   by_cases e:j=k
   ·rw[e];exact h.wok.keys k B hk
   ·rw[if_neg e] at hl;exact h.wok.keys j C hl
  ·rw[look_setL] at hl
   rw[mut_setL_eq]
   by_cases e:j=k
   ·rw[if_pos e,e,hk] at hl
    cases hl
    rw[e,ha];exact hB
   ·rw[if_neg e] at hl
    refine (h.wok.loc j C hl).evo hE hS (fun _ _ h=>h) (fun b' m' he hb'=>?_) (fun _ _ _ _ _ _ _ _ he=>he)
    refine hE.block b' hb' (fun hbb=>?_)
    subst hbb
    exact e (h.wok.inj j k C B b' m' m hl hk he ha)
  ·have:∀ j B,look (setL L k B') j=some B→∃ B,look L j=some B:=fun j B hl=>by
    rw[look_setL] at hl
    split at hl
    ·obtain ⟨B2,hB2,_⟩:=Option.map_eq_some_iff.1 hl;exact ⟨B2,hB2⟩
    ·exact ⟨B,hl⟩
   obtain ⟨C1,g1⟩:=this _ _ h1
   obtain ⟨C2,g2⟩:=this _ _ h2
   exact h.wok.inj j j' C1 C2 b' m1 m2 g1 g2 h3 h4
  ·rw[look_setL] at hl
   split at hl
   ·obtain ⟨B2,hB2,_⟩:=Option.map_eq_some_iff.1 hl;exact h.wok.prot j B2 b' m' hB2 ha'
   ·exact h.wok.prot j C b' m' hl ha'
 ·intro j C b' m' hl ha'
  rw[look_setL] at hl
  split at hl
  ·obtain ⟨B2,hB2,_⟩:=Option.map_eq_some_iff.1 hl;exact h.new j B2 b' m' hB2 ha'
  ·exact h.new j C b' m' hl ha'
end
def over {α:Type} (l:List α) (o:Nat) (vs:List α):List α:=l.take o++vs++l.drop (o+vs.length)
theorem over_length {α:Type} {l vs:List α} {o:Nat} (h:o+vs.length≤l.length):(over l o vs).length=l.length:=by
 simp[over];omega
theorem All2.over {α β:Type} {R:α→β→Prop} {l:List α} {m:List β} {vs:List α} {us:List β} {o:Nat} (h:All2 R l m) (h2:All2 R vs us):All2 R (EYtfcmhmglpcimiaaGreatDoor.over l o vs) (EYtfcmhmglpcimiaaGreatDoor.over m o us):=by
 unfold EYtfcmhmglpcimiaaGreatDoor.over
 rw[All2.length h2]
 exact ((h.take o).app h2).app (h.drop _)
section
variable {gl:List (Nat×List D)} {M0 S0:Nat→Prop} {w0:Base} {N:Nat} {adr:Env} {fr:List (Nat×V)} {L:List (Nat×Blk)} {n:Nat} {a:Act} {w:World}
theorem Ok.setVar (h:Ok gl M0 S0 w0 N adr fr L n a w) {k b m o:Nat} {l vs:List C} {xs us:List Value} {t:Nat} (hk:look L k=some (.var l t)) (ha:adr k=some (some b,m)) (hx:w.heap[b]?=some (Obj.cells xs.toArray t (0,0)))
 (hl:DenCs adr (Mut M0 adr L) w l xs) (hv:DenCs adr (Mut M0 adr L) w vs us) (ho:o+vs.length≤l.length) :
 Ok gl M0 S0 w0 N adr fr (setL L k (.var (over l o vs) t)) n a (w.setRow b (over xs o us).toArray):=by
 have hlen:=All2.length hl
 have hlen2:=All2.length hv
 have hs:(over xs o us).toArray.size=xs.toArray.size:=by simp[over_length (show o+us.length≤xs.length by omega)]
 refine h.set hk ha hx hs ⟨over xs o us,setRow_heap w b _ _ _ _ hx,?_⟩
 have:=All2.over (o:=o) hl hv
 exact DenCs.evo (Evo.setRow hx hs rfl:Evo (fun x=>x=b) w _) (fun x _ e=>e ▸ .inr ⟨k,_,m,hk,ha⟩) (fun _ _ h=>h) (fun _ _ _ _ _ h=>h) this
theorem flatten_take_drop {z:Nat}:∀ {l:List (List D)} {i:Nat},(∀ r ∈ l,r.length=z)→(l.take i).flatten=l.flatten.take (i * z)
 | [],i,_=>by simp
 | r::l,0,_=>by simp
 | r::l,i+1,h=>by
  have hr:=h r (by simp)
  have ih:=flatten_take_drop (z:=z) (l:=l) (i:=i) (fun r hr=>h r (by simp[hr]))
  simp only[List.take_succ_cons,List.flatten_cons,ih]
  rw[show (i+1) * z=r.length+i * z by rw[hr,Nat.add_mul];omega,List.take_length_add_append]
theorem flatten_drop {z:Nat}:∀ {l:List (List D)} {i:Nat},(∀ r ∈ l,r.length=z)→(l.drop i).flatten=l.flatten.drop (i * z)
 | [],i,_=>by simp
 | r::l,0,_=>by simp
 | r::l,i+1,h=>by
  have hr:=h r (by simp)
  have ih:=flatten_drop (z:=z) (l:=l) (i:=i) (fun r hr=>h r (by simp[hr]))
  simp only[List.drop_succ_cons,List.flatten_cons,ih]
  rw[show (i+1) * z=r.length+i * z by rw[hr,Nat.add_mul];omega,List.drop_length_add_append]
theorem flatten_set {z:Nat} {l:List (List D)} {i:Nat} {r:List D} (h:∀ r ∈ l,r.length=z) (hr:r.length=z) (hi:i<l.length):(l.set i r).flatten=over l.flatten (i * z) r:=by
 unfold over
 rw[List.set_eq_take_append_cons_drop,if_pos hi,List.flatten_append,List.flatten_cons,flatten_take_drop h,flatten_drop h,hr,Nat.add_mul]
 simp
theorem over_over {α:Type} {l vs:List α} {i o:Nat} (hi:i+o+vs.length≤l.length) (z:Nat) (hz:o+vs.length≤z) (hiz:i+z≤l.length):over l i (over ((l.drop i).take z) o vs)=over l (i+o) vs:=by
 apply List.ext_getElem?
 intro j
 simp only[over,List.append_assoc,List.length_append,List.length_take,List.length_drop]
 simp only[List.getElem?_append,List.getElem?_take,List.getElem?_drop,List.length_take,List.length_drop]
 rw[show min (i+o) l.length=i+o by omega,show min i l.length=i by omega,show min o (min z (l.length - i))=o by omega]
 rw[show min z (l.length - i) - (o+vs.length)=z - (o+vs.length) by omega]
 rcases Nat.lt_or_ge j i with h1|h1
 ·simp[h1,show j<i+o by omega]
 ·rcases Nat.lt_or_ge j (i+o) with h2|h2
  ·simp[show ¬ j<i by omega,h2,show j - i<o by omega,show j - i<z by omega,show i+(j - i)=j by omega]
  ·rcases Nat.lt_or_ge j (i+o+vs.length) with h3|h3
   ·simp[show ¬ j<i by omega,show ¬ j<i+o by omega,show ¬ j - i<o by omega,show j - (i+o)<vs.length by omega,show j - i - o=j - (i+o) by omega]
   ·rcases Nat.lt_or_ge j (i+z) with h4|h4
    ·simp[show ¬ j<i by omega,show ¬ j<i+o by omega,show ¬ j - i<o by omega,show ¬ j - (i+o)<vs.length by omega,show ¬ j - i - o<vs.length by omega]
     rw[if_pos (by omega),if_pos (by omega)]
     congr 1;omega
    ·simp[show ¬ j<i by omega,show ¬ j<i+o by omega,show ¬ j - i<o by omega,show ¬ j - (i+o)<vs.length by omega,show ¬ j - i - o<vs.length by omega]
     rw[if_neg (by omega)]
     congr 1;omega
end
end Go.EYtfcmhmglpcimiaaGreatDoor
