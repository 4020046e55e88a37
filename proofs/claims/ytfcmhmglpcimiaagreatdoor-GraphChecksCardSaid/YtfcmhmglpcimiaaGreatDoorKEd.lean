/- Proved: a part of what the law is proved with (the reckoner, contracts of functions, plain laws). Conditions: as each says. -/
import Derived.Laws.OwnMore
import Derived.Test.YtfcmhmglpcimiaaGreatDoorKEc
namespace Go.EYtfcmhmglpcimiaaGreatDoor
open Go Go.RowKit
def killC (k:Nat) (c:C):C:=match menC k c with|true=>.junk|false=>c
def killB (k:Nat):Blk→Blk
 | .var l t=>.var (l.map (killC k)) t
 | B=>B
def killL (k:Nat):List (Nat×Blk)→List (Nat×Blk)
 | []=>[]
 | (j,B)::r=>(j,killB k B)::killL k r
theorem look_killL {k:Nat}:∀ {L:List (Nat×Blk)} {j:Nat},look (killL k L) j=(look L j).map (killB k)
 | [],j=>rfl
 | (i,B)::r,j=>by
  simp only[killL]
  rw[look_cons,look_cons]
  by_cases e:i=j
  ·rw[if_pos e,if_pos e];rfl
  ·rw[if_neg e,if_neg e,look_killL]
def killF (k:Nat):List (Nat×V)→List (Nat×V)
 | []=>[]
 | (t,s)::r=>match menV k s with|true=>(t,.c .junk)::killF k r|false=>(t,s)::killF k r
theorem look_killF {k:Nat}:∀ {fr:List (Nat×V)} {t:Nat} {s:V},look (killF k fr) t=some s→s=.c .junk∨(look fr t=some s∧menV k s=false)
 | [],t,s,h=>by cases h
 | (t',s')::r,t,s,h=>by
  simp only[killF] at h
  rw[look_cons]
  cases hm:menV k s' with
  | true =>
   rw[hm] at h
   simp only at h
   rw[look_cons] at h
   by_cases e:t'=t
   ·rw[if_pos e] at h;cases h;exact .inl rfl
   ·rw[if_neg e] at h ⊢;exact look_killF h
  | false =>
   rw[hm] at h
   simp only at h
   rw[look_cons] at h
   by_cases e:t'=t
   ·rw[if_pos e] at h ⊢;cases h;exact .inr ⟨rfl,hm⟩
   ·rw[if_neg e] at h ⊢;exact look_killF h
section
variable {gl:List (Nat×List D)} {M0 S0:Nat→Prop} {w0:Base} {N:Nat} {adr:Env} {fr:List (Nat×V)} {L:List (Nat×Blk)} {n:Nat} {a:Act} {w:World}
theorem Ok.fewer (h:Ok gl M0 S0 w0 N adr fr L n a w) {fr':List (Nat×V)} (hfr:∀ t s,look fr' t=some s→s=.c .junk∨look fr t=some s):Ok gl M0 S0 w0 N adr fr' L n a w :=
 ⟨h.size,h.defers,fun t s hl=>by rcases hfr t s hl with rfl|h1;exact trivial;exact h.fr t s h1,h.wok,h.glob,h.base,h.new,h.same⟩
theorem mut_killL {k b:Nat}:Mut M0 adr (killL k L) b↔Mut M0 adr L b:=by
 unfold Mut
 constructor
 ·rintro (h|⟨j,B',m,h1,h2⟩)
  ·exact .inl h
  ·rw[look_killL] at h1
   obtain ⟨B2,hB2,_⟩:=Option.map_eq_some_iff.1 h1
   exact .inr ⟨j,B2,m,hB2,h2⟩
 ·rintro (h|⟨j,B',m,h1,h2⟩)
  ·exact .inl h
  ·exact .inr ⟨j,killB k B',m,by rw[look_killL,h1];rfl,h2⟩
theorem killC_den {k:Nat} {M:Nat→Prop} {l:List C} {xs:List Value} (h:DenCs adr M w l xs):DenCs adr M w (l.map (killC k)) xs:=by
 rw[DenCs,All2.map_left]
 refine All2.imp (fun c x hx=>?_) h
 unfold killC
 cases menC k c with
 | true=>trivial
 | false=>exact hx
theorem killC_clean {k:Nat} {c:C} {l:List C} (h:c ∈ l.map (killC k)):menC k c=false:=by
 obtain ⟨c',_,rfl⟩:=List.mem_map.1 h
 unfold killC
 cases hm:menC k c' with
 | true=>rfl
 | false=>exact hm
def adrSet (adr:Env) (k:Nat) (e:Option Nat×Nat):Env:=fun j=>if j=k then some e else adr j
theorem Ok.regrow (h:Ok gl M0 S0 w0 N adr fr L n a w) {k m':Nat} {ob ob':Option Nat} {m:Nat} {z e:Nat} {l l':List (List D)} {w':World} (hk:look L k=some (.rows z l e)) (ha:adr k=some (ob,m))
 (hE:Evo (fun x=>ob=some x) w w') (hb':∀ b',ob'=some b'→ob=some b'∨w.heap.size≤b')
 (hloc:∀ M':Nat→Prop,(∀ b,b<w.heap.size→M' b→Mut M0 adr L b)→LocB (adrSet adr k (ob',m')) M' w' (some (ob',m')) (.rows z l' e)) (hfx:k ∉ w0.fx) :
 Ok gl M0 S0 w0 N (adrSet adr k (ob',m')) (killF k fr) (killL k (setL L k (.rows z l' e))) n a w':=by
 have hadr:∀ j e,j≠k→adr j=some e→adrSet adr k (ob',m') j=some e:=fun j e hj he=>by unfold adrSet;rw[if_neg hj];exact he
 have hself:adrSet adr k (ob',m') k=some (ob',m'):=by unfold adrSet;rw[if_pos rfl]
 have hS:∀ x,x<w.heap.size→ob=some x→Mut M0 adr L x:=fun x _ e=>.inr ⟨k,_,m,hk,by rw[ha,e]⟩
 have look':∀ j B,look (killL k (setL L k (.rows z l' e))) j=some B→(j=k∧B=.rows z l' e)∨(j≠k∧∃ B0,look L j=some B0∧B=killB k B0):=by
  intro j B hl
  rw[look_killL,look_setL] at hl
  by_cases e1:j=k
  ·rw[if_pos e1,e1,hk] at hl
   cases hl
   exact .inl ⟨e1,rfl⟩
  ·rw[if_neg e1] at hl
   obtain ⟨B0,h1,h2⟩:=Option.map_eq_some_iff.1 hl
   exact .inr ⟨e1,B0,h1,h2.symm⟩
 have hM:∀ x,x<w.heap.size→Mut M0 (adrSet adr k (ob',m')) (killL k (setL L k (.rows z l' e))) x→Mut M0 adr L x:=by
  rintro x hx (h1|⟨j,B,q,h1,h2⟩)
  ·exact .inl h1
  ·rcases look' j B h1 with ⟨rfl,_⟩|⟨hj,B0,g1,_⟩
   ·rw[hself] at h2;cases h2
    rcases hb' x rfl with hb'|hb'
    ·exact hS _ hx hb'
    ·omega
   ·unfold adrSet at h2
    rw[if_neg hj] at h2
    exact .inr ⟨j,B0,q,g1,h2⟩
 have hbase:∀ x,ob=some x→S0 x∨w0.w.heap.size≤x:=fun x e=>h.new k _ x m hk (by rw[ha,e])
 have hnew':∀ b',ob'=some b'→S0 b'∨w0.w.heap.size≤b':=by
  intro b' e
  rcases hb' b' e with hb'|hb'
  ·exact hbase b' hb'
  ·have:=h.base.size;exact .inr (by omega)
 have hpt:∀ b',ob'=some b'→¬ M0 b':=by
  intro b' e
  rcases hb' b' e with hb'|hb'
  ·exact h.wok.prot k _ b' m hk (by rw[ha,hb'])
  ·intro hm;have:=h.wok.bound b' hm;omega
 have hother:∀ j B0 b q,j≠k→look L j=some B0→adr j=some (some b,q)→ob'≠some b∧ob≠some b:=by
  intro j B0 b q hj g1 g2
  have h1:ob≠some b:=fun e=>hj (h.wok.inj j k B0 _ b q m g1 hk g2 (by rw[ha,e]))
  refine ⟨fun e=>?_,h1⟩
  rcases hb' b e with hb'|hb'
  ·exact h1 hb'
  ·have:=h.wok.lt g1 g2;omega
 have h':=h.fewer (fr':=killF k fr) (fun t s hl=>by rcases look_killF hl with h1|h1;exact .inl h1;exact .inr h1.1)
 refine h'.move hE (fun x hx e=>⟨hS x hx e,hbase x e⟩) hM (fun t s hl=>⟨hl,fun j e hm he=>?_⟩) ?_ ?_ (fun j hj hjn=>⟨hjn,by unfold adrSet;rw[if_neg (fun ee=>by subst ee;exact hfx hj)]⟩)
 ·refine hadr j e (fun ej=>?_) he
  subst ej
  rcases look_killF hl with h1|h1
  ·subst h1;cases hm
  ·rw[h1.2] at hm;cases hm
 ·refine ⟨fun j B hl=>?_,fun j hj=>?_,fun j B hl=>?_,fun j j' B1 B2 b q1 q2 h1 h2 h3 h4=>?_,fun j B b q hl hab=>?_,fun x hx=>Nat.lt_of_lt_of_le (h.wok.bound x hx) hE.size⟩
  ·rcases look' j B hl with ⟨rfl,_⟩|⟨_,B0,g1,_⟩
   ·exact h.wok.keys j _ hk
   ·exact h.wok.keys j _ g1
  ·have hkn:=h.wok.keys k _ hk
   unfold adrSet
   rw[if_neg (by omega)]
   exact h.wok.fresh j hj
  ·rcases look' j B hl with ⟨rfl,rfl⟩|⟨hj,B0,g1,rfl⟩
   ·rw[hself];exact hloc _ hM
   ·have hlo:=h.wok.loc j B0 g1
    have:adrSet adr k (ob',m') j=adr j:=by unfold adrSet;rw[if_neg hj]
    rw[this]
    have hkill:LocB adr (Mut M0 adr L) w (adr j) (killB k B0):=by
     cases B0 with
     | rows z l e=>exact hlo
     | mp ks vs=>exact hlo
     | var l t =>
      cases hq:adr j with
      | none=>rw[hq] at hlo;exact hlo.elim
      | some q =>
       obtain ⟨q1,q2⟩:=q
       cases q1 with
       | none=>rw[hq] at hlo;exact hlo.elim
       | some b=>rw[hq] at hlo;obtain ⟨xs,g2,g3⟩:=hlo;exact ⟨xs,g2,killC_den g3⟩
    refine hkill.evo hE hS hM (fun b q hbq hlt=>hE.block b hlt (hother j B0 b q hj g1 hbq).2) (fun l t hB c hc i e hm he=>hadr i e (fun ei=>?_) he)
    subst ei
    cases B0 with
    | rows z l e=>cases hB
    | mp ks vs=>cases hB
    | var l0 t0 =>
     cases hB
     rw[killC_clean hc] at hm;cases hm
  ·have key:∀ j B q,look (killL k (setL L k (.rows z l' e))) j=some B→adrSet adr k (ob',m') j=some (some b,q)→(j=k∧ob'=some b)∨(j≠k∧ob'≠some b∧∃ B0,look L j=some B0∧adr j=some (some b,q)):=by
    intro j B q hl hab
    rcases look' j B hl with ⟨rfl,_⟩|⟨hj,B0,g1,_⟩
    ·rw[hself] at hab;cases hab;exact .inl ⟨rfl,rfl⟩
    ·unfold adrSet at hab
     rw[if_neg hj] at hab
     exact .inr ⟨hj,(hother j B0 b q hj g1 hab).1,B0,g1,hab⟩
   rcases key j B1 q1 h1 h3 with ⟨e1,e2⟩|⟨e1,e2,C1,g1,g2⟩ <;> rcases key j' B2 q2 h2 h4 with ⟨e3,e4⟩|⟨e3,e4,C2,g3,g4⟩
   ·rw[e1,e3]
   ·exact absurd e2 e4
   ·exact absurd e4 e2
   ·exact h.wok.inj j j' C1 C2 b q1 q2 g1 g3 g2 g4
  ·rcases look' j B hl with ⟨rfl,_⟩|⟨hj,B0,g1,_⟩
   ·rw[hself] at hab;cases hab;exact hpt b rfl
   ·unfold adrSet at hab
    rw[if_neg hj] at hab
    exact h.wok.prot j B0 b q g1 hab
 ·intro j B b q hl hab
  rcases look' j B hl with ⟨rfl,_⟩|⟨hj,B0,g1,_⟩
  ·rw[hself] at hab;cases hab;exact hnew' b rfl
  ·unfold adrSet at hab
   rw[if_neg hj] at hab
   exact h.new j B0 b q g1 hab
theorem Ok.pushNil (h:Ok gl M0 S0 w0 N adr fr L n a w) {z:Nat} (e:Nat) (hz:0<z):Ok gl M0 S0 w0 N (adrPush adr n (none,0)) fr ((n,.rows z [] e)::L) (n+1) a w:=by
 have hf:=h.wok.fresh
 have hk:=h.wok.keys
 have hmut:∀ b,Mut M0 (adrPush adr n (none,0)) ((n,.rows z [] e)::L) b→Mut M0 adr L b:=fun b hm=>by
  rcases (mut_push hf hk).1 hm with h1|h1
  ·exact h1
  ·cases h1
 have old:∀ k B b m,look ((n,Blk.rows z [] e)::L) k=some B→adrPush adr n (none,0) k=some (some b,m)→look L k=some B∧adr k=some (some b,m):=by
  intro k B b m hl ha
  rw[look_cons] at hl
  unfold adrPush at ha
  by_cases e1:k=n
  ·rw[if_pos e1] at ha;cases ha
  ·rw[if_neg (fun h=>e1 h.symm)] at hl
   rw[if_neg e1] at ha
   exact ⟨hl,ha⟩
 refine h.move (Evo.refl (fun _=>False) w) (fun _ _ hs=>hs.elim) (fun b _ hm=>hmut b hm) (fun t s hl=>⟨hl,fun k e _ he=>adrPush_old hf he⟩) ?_ ?_ (fun k _ hk=>⟨by omega,by unfold adrPush;rw[if_neg (by omega)]⟩)
 ·refine ⟨fun k B' hl=>?_,fun k hkn=>?_,fun k B' hl=>?_,fun k k' B1 B2 b m1 m2 h1 h2 h3 h4=>?_,fun k B' b m' hl ha=>?_,h.wok.bound⟩
  ·rw[look_cons] at hl
   split at hl
   ·omega
   ·have:=hk k B' hl;omega
  ·unfold adrPush
   rw[if_neg (by omega)]
   exact hf k (by omega)
  ·rw[look_cons] at hl
   by_cases e1:n=k
   ·subst e1
    rw[if_pos rfl] at hl;cases hl
    have:adrPush adr n (none,0) n=some (none,0):=by unfold adrPush;rw[if_pos rfl]
    rw[this];exact ⟨hz,rfl,rfl⟩
   ·rw[if_neg e1] at hl
    have:adrPush adr n (none,0) k=adr k:=by unfold adrPush;rw[if_neg (fun h=>e1 h.symm)]
    rw[this]
    exact (h.wok.loc k B' hl).evo (Evo.refl (fun _=>False) w) (fun _ _ hs=>hs.elim) (fun b _ hm=>hmut b hm) (fun _ _ _ _=>rfl) (fun l t _ c _ k e _ he=>adrPush_old hf he)
  ·obtain ⟨g1,g2⟩:=old k B1 b m1 h1 h3
   obtain ⟨g3,g4⟩:=old k' B2 b m2 h2 h4
   exact h.wok.inj k k' B1 B2 b m1 m2 g1 g3 g2 g4
  ·obtain ⟨g1,g2⟩:=old k B' b m' hl ha
   exact h.wok.prot k B' b m' g1 g2
 ·intro k B' b m' hl ha
  obtain ⟨g1,g2⟩:=old k B' b m' hl ha
  exact h.new k B' b m' g1 g2
theorem Ok.setElt (h:Ok gl M0 S0 w0 N adr fr L n a w) {k b m i o z e:Nat} {l:List (List D)} {r vs:List D} {us:List Value} {cur:Array Value} (hk:look L k=some (.rows z l e)) (ha:adr k=some (some b,m))
 (hc:w.heap[b]?=some (Obj.cells cur e (0,0))) (hi:l[i]?=some r) (hv:DenL (Mut M0 adr L) w vs us) (ho:o+vs.length≤z) :
 Ok gl M0 S0 w0 N adr fr (setL L k (.rows z (l.set i (over r o vs)) e)) n a (w.setRow b (over cur.toList (i * z+o) us).toArray):=by
 have hloc:=h.wok.loc k _ hk
 rw[ha] at hloc
 obtain ⟨g1,g2,g3,cur',c,g4,g5,g6,g7,g8⟩:=hloc
 rw[hc] at g4
 obtain rfl:cur=cur':=by cases g4;rfl
 have hil:i<l.length:=(List.getElem?_eq_some_iff.1 hi).1
 have hr:r.length=z:=g3 r (List.mem_of_getElem? hi)
 have hlen:=All2.length hv
 have hmul:i * z+z≤l.length * z:=by
  have:(i+1) * z≤l.length * z:=Nat.mul_le_mul_right _ hil
  rw[Nat.add_mul] at this;omega
 have hmul2:l.length * z≤c * z:=Nat.mul_le_mul_right _ g6
 have hfl:=flatten_length g3
 have hs:(over cur.toList (i * z+o) us).toArray.size=cur.size:=by
  rw[List.size_toArray,over_length (by simp;omega)];simp
 have hflat:(l.set i (over r o vs)).flatten=over l.flatten (i * z+o) vs:=by
  rw[flatten_set g3 (by rw[over_length (by omega)];exact hr) hil]
  have hri:r=(l.flatten.drop (i * z)).take z:=by
   have h1:(l.drop i).flatten=l.flatten.drop (i * z):=flatten_drop g3
   rw[← h1,List.drop_eq_getElem_cons hil,List.flatten_cons]
   have h2:l[i]=r:=(List.getElem?_eq_some_iff.1 hi).2
   rw[h2,← hr,List.take_left]
  rw[hri]
  exact over_over (by omega) z ho (by omega)
 have htake:(over cur.toList (i * z+o) us).take (l.length * z)=over (cur.toList.take (l.length * z)) (i * z+o) us:=by
  apply List.ext_getElem?
  intro j
  simp only[over,List.append_assoc,List.getElem?_append,List.getElem?_take,List.getElem?_drop,List.length_take,Array.length_toList]
  rw[show min (i * z+o) cur.size=i * z+o by omega,show min (i * z+o) (min (l.length * z) cur.size)=i * z+o by omega]
  rcases Nat.lt_or_ge j (l.length * z) with hj|hj
  ·simp only[hj,if_true]
   split
   ·first|rfl|(rename_i h1;rw[if_pos h1])
   ·split
    ·rfl
    ·first|rfl|(rw[if_pos (by omega)])
  ·rw[if_neg (by omega),if_neg (by omega),if_neg (by omega),if_neg (by omega)]
 refine h.set hk ha hc hs ⟨g1,by simpa using g2,fun r' hr'=>?_,_,c,setRow_heap w b _ _ _ _ hc,by rw[hs];exact g5,by simpa using g6,g7,?_⟩
 ·rcases List.mem_or_eq_of_mem_set hr' with h1|h1
  ·exact g3 r' h1
  ·subst h1;rw[over_length (by omega)];exact hr
 ·rw[hflat,List.length_set,htake]
  exact (All2.over (R:=DenD (Mut M0 adr L) w) (o:=i * z+o) g8 hv).imp (fun d x hd=>hd.evo (Evo.setRow hc hs rfl:Evo (fun x=>x=b) w _) (fun x _ e=>e ▸ .inr ⟨k,_,m,hk,ha⟩) (fun _ _ h=>h))
structure LeD (d r:D):Prop where
 out:∀ (M:Nat→Prop) (w:World) (x:Value),DenD M w d x→DenD M w r x
theorem LeD.rfl {d:D}:LeD d d:=⟨fun _ _ _ h=>h⟩
theorem LeD.of {d r:D} (h:d=r):LeD d r:=⟨fun _ _ _ hx=>h ▸ hx⟩
theorem LeD.bt {p:Prop} {i:Decidable p} (h:p):LeD (.v (.bool true)) (.b p i):=by
 refine ⟨fun M w x hx=>?_⟩
 rw[DenD.v_inv hx];have:=DenD.b (M:=M) (w:=w) p i;rwa [decide_eq_true h] at this
theorem LeD.bf {p:Prop} {i:Decidable p} (h:¬ p):LeD (.v (.bool false)) (.b p i):=by
 refine ⟨fun M w x hx=>?_⟩
 rw[DenD.v_inv hx];have:=DenD.b (M:=M) (w:=w) p i;rwa [decide_eq_false h] at this
theorem LeD.b {p q:Prop} {i:Decidable p} {j:Decidable q} (h:p↔q):LeD (.b p i) (.b q j):=by
 refine ⟨fun M w x hx=>?_⟩
 rw[DenD.b_inv hx];have:=DenD.b (M:=M) (w:=w) q j
 rwa [show @decide q j=@decide p i by by_cases hp:p <;> simp[hp,← h]] at this
theorem LeDs {M:Nat→Prop} {w:World}:∀ {ds rs:List D} {xs:List Value},All2 LeD ds rs→DenL M w ds xs→DenL M w rs xs
 | [],[],_,_,h=>h
 | _::_,_::_,[],_,h=>h.elim
 | _::_,_::_,_::_,h,h'=>⟨h.1.out _ _ _ h'.1,LeDs h.2 h'.2⟩
 | [],_::_,_,h,_=>h.elim
 | _::_,[],_,h,_=>h.elim
theorem LeD.tup {ds rs:List D} (h:All2 LeD ds rs):LeD (.tup ds) (.tup rs):=by
 refine ⟨fun M w x hx=>?_⟩
 obtain ⟨xs,hx,h1⟩:=DenD.tup_inv hx;subst hx;exact DenD.tup_mk (LeDs h h1)
theorem LeD.agg {ds rs:List D} (h:All2 LeD ds rs):LeD (.agg ds) (.agg rs):=by
 refine ⟨fun M w x hx=>?_⟩
 obtain ⟨xs,hx,h1⟩:=DenD.agg_inv hx;subst hx;exact DenD.agg_mk (LeDs h h1)
theorem LeD.cons {d r:D} {ds rs:List D} (h:LeD d r) (h':All2 LeD ds rs):All2 LeD (d::ds) (r::rs):=⟨h,h'⟩
theorem LeD.nil:All2 LeD [] []:=trivial
theorem LeD.vt {p:Prop} {i:Decidable p} (h:p):LeD (.b p i) (.v (.bool true)):=⟨fun M w x hx=>by rw[DenD.b_inv hx,decide_eq_true h];exact .v _⟩
theorem LeD.vf {p:Prop} {i:Decidable p} (h:¬ p):LeD (.b p i) (.v (.bool false)):=⟨fun M w x hx=>by rw[DenD.b_inv hx,decide_eq_false h];exact .v _⟩
theorem LeD.ite_pos {p:Prop} {i:Decidable p} {d a b:D} (h:p) (ha:LeD d a):LeD d (@ite D p i a b):=by rw[if_pos h];exact ha
theorem LeD.ite_neg {p:Prop} {i:Decidable p} {d a b:D} (h:¬ p) (hb:LeD d b):LeD d (@ite D p i a b):=by rw[if_neg h];exact hb
def LeC (L:List (Nat×Blk)) (c c':C):Prop :=
 match c with
 | .d d=>(match c' with
  | .d r=>LeD d r
  | .own _ _ 0 0=>d=.v (.slice none 0 0)
  | _=>False)
 | .all z k=>(match look L k with
  | some (.rows _ l _)=>c'=.own z k 0 l.length
  | _=>False)
 | _=>False
def subC (L:List (Nat×Blk)) (n:Nat) (c c':C):Prop:=c'=.junk∨c=c'∨(c=.d (.v (.slice none 0 0))∧∃ z k,c'=.all z k∧n≤k)∨LeC L c c'
def subV (L:List (Nat×Blk)) (n:Nat):V→V→Prop
 | .c x,.c y=>subC L n x y
 | .agg l,.agg l'=>V.agg l=V.agg l'∨All2 (subC L n) l l'
 | s,s'=>s=s'
def subB (L:List (Nat×Blk)) (n:Nat):Blk→Blk→Prop
 | .var l t,.var l' t'=>t=t'∧All2 (subC L n) l l'
 | .rows z l e,.rows z' l' e'=>z=z'∧l=l'∧e=e'
 | .mp ks vs,.mp ks' vs'=>ks=ks'∧vs=vs'
 | _,_=>False
def ltC (n:Nat):C→Bool
 | .ptr j _=>Nat.blt j n
 | .elt _ j _ _=>Nat.blt j n
 | .own _ j _ _=>Nat.blt j n
 | .all _ j=>Nat.blt j n
 | .fn _ cs=>cs.all (fun p=>Nat.blt p.1 n)
 | .mref j=>Nat.blt j n
 | _=>true
theorem ltC_ok {n k:Nat} {c:C} (h:ltC n c=true) (hm:menC k c=true):k<n:=by
 cases c <;> simp only[menC,Bool.false_eq_true] at hm
 case fn f cs =>
  simp only[ltC,List.all_eq_true] at h
  simp only[List.any_eq_true] at hm
  obtain ⟨p,hp,hk⟩:=hm
  have h1:=h p hp
  simp[Nat.blt,Nat.ble_eq] at h1 hk;omega
 all_goals (simp[ltC,Nat.blt,Nat.ble_eq] at h hm;omega)
def ltV (n:Nat):V→Bool
 | .c x=>ltC n x
 | .agg l=>l.all (ltC n)
 | .tup l=>l.all fun p=>p.2.all (ltC n)
theorem ltV_ok {n k:Nat} {s:V} (h:ltV n s=true) (hm:menV k s=true):k<n:=by
 cases s with
 | c x=>exact ltC_ok h hm
 | agg l =>
  simp only[ltV,menV,List.all_eq_true,List.any_eq_true] at h hm
  obtain ⟨c,hc,hm⟩:=hm
  exact ltC_ok (h c hc) hm
 | tup l =>
  simp only[ltV,menV,List.all_eq_true,List.any_eq_true] at h hm
  obtain ⟨p,hp,c,hc,hm⟩:=hm
  exact ltC_ok (h p hp c hc) hm
def ltB (n:Nat):Blk→Bool
 | .var l _=>l.all (ltC n)
 | .rows _ _ _=>true
 | .mp _ _=>true
def ltF (n:Nat):List (Nat×V)→Bool
 | []=>true
 | (_,s)::r=>match ltV n s with|true=>ltF n r|false=>false
def ltL (n:Nat):List (Nat×Blk)→Bool
 | []=>true
 | (k,B)::r=>match Nat.blt k n with|true=>(match ltB n B with|true=>ltL n r|false=>false)|false=>false
theorem ltF_ok {n:Nat}:∀ {fr:List (Nat×V)} {t:Nat} {s:V},ltF n fr=true→look fr t=some s→ltV n s=true
 | [],t,s,_,h=>by cases h
 | (t',s')::r,t,s,h,hl=>by
  simp only[ltF] at h
  cases hv:ltV n s' with
  | false=>rw[hv] at h;cases h
  | true =>
   rw[hv] at h
   rw[look_cons] at hl
   by_cases e:t'=t
   ·rw[if_pos e] at hl;cases hl;exact hv
   ·rw[if_neg e] at hl;exact ltF_ok h hl
theorem ltL_ok {n:Nat}:∀ {L:List (Nat×Blk)} {k:Nat} {B:Blk},ltL n L=true→look L k=some B→k<n∧ltB n B=true
 | [],k,B,_,h=>by cases h
 | (k',B')::r,k,B,h,hl=>by
  simp only[ltL] at h
  cases hv:Nat.blt k' n with
  | false=>rw[hv] at h;cases h
  | true =>
   cases hb:ltB n B' with
   | false=>rw[hv,hb] at h;cases h
   | true =>
    rw[hv,hb] at h
    rw[look_cons] at hl
    by_cases e:k'=k
    ·rw[if_pos e] at hl;cases hl
     refine ⟨?_,hb⟩
     simp[Nat.blt,Nat.ble_eq] at hv;omega
    ·rw[if_neg e] at hl;exact ltL_ok h hl
def subF (L:List (Nat×Blk)) (n:Nat) (fr:List (Nat×V)):List (Nat×V)→Prop
 | []=>True
 | (t,s')::r=>(match look fr t with|some s=>subV L n s s'|none=>False)∧subF L n fr r
def subL (n:Nat) (L:List (Nat×Blk)):List (Nat×Blk)→Prop
 | []=>True
 | (k,B')::r=>(match look L k with|some B=>subB L n B B'|none=>∃ z e,B'=.rows z [] e∧0<z∧n≤k)∧subL n L r
theorem subF_ok {L:List (Nat×Blk)} {n:Nat} {fr:List (Nat×V)}:∀ {fr':List (Nat×V)} {t:Nat} {s':V},subF L n fr fr'→look fr' t=some s'→∃ s,look fr t=some s∧subV L n s s'
 | [],t,s,_,h=>by cases h
 | (t',s')::r,t,s,h,hl=>by
  rw[look_cons] at hl
  by_cases e:t'=t
  ·rw[if_pos e] at hl;cases hl
   have h1:=h.1
   subst e
   split at h1
   ·rename_i s0 h0;exact ⟨s0,h0,h1⟩
   ·exact h1.elim
  ·rw[if_neg e] at hl;exact subF_ok h.2 hl
theorem subL_ok {n:Nat} {L:List (Nat×Blk)}:∀ {L':List (Nat×Blk)} {k:Nat} {B':Blk},subL n L L'→look L' k=some B'→(∃ B,look L k=some B∧subB L n B B')∨(look L k=none∧∃ z e,B'=.rows z [] e∧0<z∧n≤k)
 | [],k,B',_,h=>by cases h
 | (k',B')::r,k,B,h,hl=>by
  rw[look_cons] at hl
  by_cases e:k'=k
  ·rw[if_pos e] at hl;cases hl
   have h1:=h.1
   subst e
   split at h1
   ·rename_i s0 h0;exact .inl ⟨s0,h0,h1⟩
   ·rename_i h0;exact .inr ⟨h0,h1⟩
  ·rw[if_neg e] at hl;exact subL_ok h.2 hl
def adrSub (adr:Env) (n:Nat) (L':List (Nat×Blk)) (n':Nat):Env:=fun k=>if k<n' then (if k<n then adr k else if (look L' k).isSome then some (none,0) else none) else none
theorem Ok.sub (h:Ok gl M0 S0 w0 N adr fr L n a w) {fr':List (Nat×V)} {L':List (Nat×Blk)} {n':Nat} (hF:subF L n fr fr') (hL:subL n L L') (h1:ltF n' fr'=true) (h2:ltL n' L'=true)
 (h3:∀ t s,look fr' t=some s→∀ k,menV k s=true→n≤k→(look L' k).isSome=true) (h4:∀ k l t,look L' k=some (.var l t)→∀ c ∈ l,∀ j,menC j c=true→n≤j→(look L' j).isSome=true) (h5:∀ k ∈ w0.fx,k<n') :
 Ok gl M0 S0 w0 N (adrSub adr n L' n') fr' L' n' a w:=by
 have hadr:∀ k e,k<n'→adr k=some e→adrSub adr n L' n' k=some e:=fun k e hk he=>by
  unfold adrSub
  rw[if_pos hk,if_pos]
  ·exact he
  ·rcases Nat.lt_or_ge k n with h|h'
   ·exact h
   ·rw[h.wok.fresh k h'] at he;cases he
 have hback:∀ k b m,adrSub adr n L' n' k=some (some b,m)→adr k=some (some b,m):=fun k b m he=>by
  unfold adrSub at he
  split at he
  ·split at he
   ·exact he
   ·split at he <;> cases he
  ·cases he
 have look':∀ k B' b m,look L' k=some B'→adrSub adr n L' n' k=some (some b,m)→∃ B,look L k=some B∧adr k=some (some b,m):=by
  intro k B' b m hl ha
  have ha':=hback k b m ha
  rcases subL_ok hL hl with ⟨B,g1,_⟩|⟨_,z,e,_,_,g4⟩
  ·exact ⟨B,g1,ha'⟩
  ·rw[h.wok.fresh k g4] at ha';cases ha'
 have hM:∀ x,Mut M0 (adrSub adr n L' n') L' x→Mut M0 adr L x:=by
  rintro x (hx|⟨k,B,m,g1,g2⟩)
  ·exact .inl hx
  ·obtain ⟨B0,g3,g4⟩:=look' k B x m g1 g2
   exact .inr ⟨k,B0,m,g3,g4⟩
 have hE:=Evo.refl (fun _=>False) w
 have hC:∀ c c' x,subC L n c c'→ltC n' c'=true→(∀ k,menC k c'=true→n≤k→(look L' k).isSome=true)→DenC adr (Mut M0 adr L) w c x→DenC (adrSub adr n L' n') (Mut M0 (adrSub adr n L' n') L') w c' x:=by
  intro c c' x hs hlt hmen hd
  rcases hs with rfl|rfl|⟨rfl,z,k,rfl,hk⟩|hle
  ·trivial
  ·exact hd.evo hE (fun _ _ h=>h.elim) (fun b _ hb=>hM b hb) (fun k e hm he=>hadr k e (ltC_ok hlt hm) he)
  ·have hx:=DenD.v_inv hd
   refine .inl ⟨?_,hx⟩
   have hkn:k<n':=ltC_ok hlt (by simp[menC])
   unfold adrSub
   rw[if_pos hkn,if_neg (by omega),if_pos (hmen k (by simp[menC]) hk)]
  ·cases c with
   | d d =>
    simp only[LeC] at hle
    split at hle
    ·exact DenD.evo hE (fun _ _ h=>h.elim) (fun b _ hb=>hM b hb) (LeD.out hle _ _ _ hd)
    ·subst hle
     exact .inl ⟨DenD.v_inv hd,rfl,rfl⟩
    ·exact hle.elim
   | all z k =>
    simp only[LeC] at hle
    split at hle
    ·rename_i z' l e hl
     subst hle
     have hlo:=h.wok.loc k _ hl
     rcases hd with ⟨g1,rfl⟩|⟨b,m,cp,cur,e',f,g1,g2,g3,g4,g5,rfl⟩
     ·rw[g1] at hlo
      obtain ⟨_,rfl,_⟩:=hlo
      exact .inl ⟨rfl,rfl,rfl⟩
     ·rw[g1] at hlo
      obtain ⟨_,g6,_⟩:=hlo
      subst g6
      exact .inr (.inr ⟨b,_,cp,cur,e',f,hadr k _ (ltC_ok hlt (by simp[menC])) g1,g2,g3,by omega,g5,by simp⟩)
    ·exact hle.elim
   | _=>exact False.elim hle
 have aux:∀ (l:List C) (xs:List Value) (l':List C),DenCs adr (Mut M0 adr L) w l xs→All2 (subC L n) l l'→(∀ c ∈ l',ltC n' c=true)→(∀ c ∈ l',∀ j,menC j c=true→n≤j→(look L' j).isSome=true)→DenCs (adrSub adr n L' n') (Mut M0 (adrSub adr n L' n') L') w l' xs:=by
  intro l
  induction l with
  | nil =>
   intro xs l' q1 q2 q3 q4
   cases l' with
   | nil=>cases xs with
    | nil=>trivial
    | cons _ _=>exact q1.elim
   | cons _ _=>exact q2.elim
  | cons c l ih =>
   intro xs l' q1 q2 q3 q4
   cases l' with
   | nil=>exact q2.elim
   | cons c' l'=>cases xs with
    | nil=>exact q1.elim
    | cons x xs=>exact ⟨hC c c' x q2.1 (q3 c' (by simp)) (q4 c' (by simp)) q1.1,ih xs l' q1.2 q2.2 (fun d hd=>q3 d (by simp[hd])) (fun d hd=>q4 d (by simp[hd]))⟩
 refine ⟨h.size,h.defers,fun t s' hl=>?_,?_,h.glob.evo hE (fun _ _ h=>h.elim) (fun b _ hb=>hM b hb),h.base,fun k B' b m hl ha=>?_,fun k hk=>⟨h5 k hk,by unfold adrSub;rw[if_pos (h5 k hk),if_pos (h.same k hk).1];exact (h.same k hk).2⟩⟩
 ·obtain ⟨s,g1,g2⟩:=subF_ok hF hl
  have hd:=h.fr t s g1
  have hlt:=ltF_ok h1 hl
  match s,s',g2,hd,hlt,h3 t s' hl with
  | .c x,.c y,g2,hd,hlt,h3=>exact hC x y _ g2 hlt h3 hd
  | .agg l,.agg l',g2,hd,hlt,h3 =>
   rcases g2 with g2|g2
   ·cases g2
    exact DenV.evo hE (fun _ _ h=>h.elim) (fun b _ hb=>hM b hb) (fun k e hm he=>hadr k e (ltV_ok hlt hm) he) hd
   ·obtain ⟨xs,hxe,hxs⟩:=hd
    exact ⟨xs,hxe,aux l xs l' hxs g2 (fun c hc=>List.all_eq_true.1 hlt c hc) fun c hc j hj=>h3 j (List.any_eq_true.2 ⟨c,hc,hj⟩)⟩
  | .agg l,.c y,g2,_,_,_=>exact absurd (show V.agg l=V.c y from g2) (by simp)
  | .agg l,.tup l',g2,_,_,_=>exact absurd (show V.agg l=V.tup l' from g2) (by simp)
  | .tup l,s',g2,hd,hlt,_=>obtain rfl:V.tup l=s':=g2;exact DenV.evo hE (fun _ _ h=>h.elim) (fun b _ hb=>hM b hb) (fun k e hm he=>hadr k e (ltV_ok hlt hm) he) hd
  | .c x,.agg l,g2,_,_,_=>exact absurd (show V.c x=V.agg l from g2) (by simp)
  | .c x,.tup l,g2,_,_,_=>exact absurd (show V.c x=V.tup l from g2) (by simp)
 ·refine ⟨fun k B' hl=>(ltL_ok h2 hl).1,fun k hk=>?_,fun k B' hl=>?_,fun k k' B1 B2 b m m' g1 g2 g3 g4=>?_,fun k B' b m hl ha=>?_,h.wok.bound⟩
  ·unfold adrSub;rw[if_neg (by omega)]
  ·obtain ⟨hk,hlt⟩:=ltL_ok h2 hl
   rcases subL_ok hL hl with ⟨B,g1,g2⟩|⟨g0,z,e,rfl,g3,g4⟩
   ·have hlo:=h.wok.loc k B g1
    have hkn:=h.wok.keys k B g1
    have ha:adrSub adr n L' n' k=adr k:=by unfold adrSub;rw[if_pos hk,if_pos hkn]
    rw[ha]
    match B,B',g2,hlo,hlt,h4 k with
    | .rows z l e,.rows z' l' e',g2,hlo,_,_ =>
     obtain ⟨rfl,rfl,rfl⟩:=g2
     exact hlo.evo hE (fun _ _ h=>h.elim) (fun b _ hb=>hM b hb) (fun _ _ _ _=>rfl) (fun l t hB=>by cases hB)
    | .mp ks vs,.mp ks' vs',g2,hlo,_,_ =>
     obtain ⟨rfl,rfl⟩:=g2
     exact hlo.evo hE (fun _ _ h=>h.elim) (fun b _ hb=>hM b hb) (fun _ _ _ _=>rfl) (fun l t hB=>by cases hB)
    | .var l t,.var l' t',g2,hlo,hlt,h4 =>
     obtain ⟨rfl,g2⟩:=g2
     cases hq:adr k with
     | none=>rw[hq] at hlo;exact hlo.elim
     | some q =>
      obtain ⟨q1,q2⟩:=q
      cases q1 with
      | none=>rw[hq] at hlo;exact hlo.elim
      | some b =>
       rw[hq] at hlo
       obtain ⟨xs,e1,e2⟩:=hlo
       refine ⟨xs,e1,?_⟩
       have h4':=h4 l' t hl
       simp only[ltB,List.all_eq_true] at hlt
       exact aux l xs l' e2 g2 hlt h4'
    | .rows _ _ _,.var _ _,g2,_,_,_=>exact g2.elim
    | .var _ _,.rows _ _ _,g2,_,_,_=>exact g2.elim
    | .mp _ _,.var _ _,g2,_,_,_=>exact g2.elim
    | .mp _ _,.rows _ _ _,g2,_,_,_=>exact g2.elim
    | .var _ _,.mp _ _,g2,_,_,_=>exact g2.elim
    | .rows _ _ _,.mp _ _,g2,_,_,_=>exact g2.elim
   ·have ha:adrSub adr n L' n' k=some (none,0):=by unfold adrSub;rw[if_pos hk,if_neg (by omega),if_pos (by rw[hl];rfl)]
    rw[ha];exact ⟨g3,rfl,rfl⟩
  ·obtain ⟨C1,e1,e2⟩:=look' k B1 b m g1 g3
   obtain ⟨C2,e3,e4⟩:=look' k' B2 b m' g2 g4
   exact h.wok.inj k k' C1 C2 b m m' e1 e3 e2 e4
  ·obtain ⟨C1,e1,e2⟩:=look' k B' b m hl ha
   exact h.wok.prot k C1 b m e1 e2
 ·obtain ⟨C1,e1,e2⟩:=look' k B' b m hl ha
  exact h.new k C1 b m e1 e2
end
end Go.EYtfcmhmglpcimiaaGreatDoor
