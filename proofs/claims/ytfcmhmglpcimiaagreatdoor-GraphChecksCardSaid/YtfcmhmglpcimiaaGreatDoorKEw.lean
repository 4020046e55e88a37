/- Proved: a part of what the law is proved with (the reckoner, contracts of functions, plain laws). Conditions: as each says. -/
import Derived.Test.YtfcmhmglpcimiaaGreatDoorKEj
namespace Go.EYtfcmhmglpcimiaaGreatDoor
open Go Go.RowKit
section
def dropK (H:List (Nat×Blk)):List (Nat×Blk)→List (Nat×Blk)
 | []=>[]
 | (k,B)::r=>match look H k with
  | some _=>dropK H r
  | none=>(k,B)::dropK H r
theorem look_dropK {H:List (Nat×Blk)}:∀ {L:List (Nat×Blk)} {k:Nat},look (dropK H L) k=match look H k with|some _=>none|none=>look L k
 | [],k=>by simp only[dropK,look];split <;> rfl
 | (j,B)::r,k=>by
  simp only[dropK]
  cases hj:look H j with
  | some B' =>
   simp only
   rw[look_dropK,look_cons]
   by_cases e:j=k
   ·subst e;rw[hj]
   ·rw[if_neg e]
  | none =>
   simp only
   rw[look_cons,look_cons,look_dropK]
   by_cases e:j=k
   ·subst e;simp[hj]
   ·rw[if_neg e,if_neg e]
theorem look_app {α:Type}:∀ {A B:List (Nat×α)} {k:Nat},look (A++B) k=match look A k with|some x=>some x|none=>look B k
 | [],B,k=>rfl
 | (j,x)::r,B,k=>by
  rw[List.cons_append,look_cons,look_cons]
  by_cases e:j=k
  ·rw[if_pos e,if_pos e]
  ·rw[if_neg e,if_neg e,look_app]
def subH (H L:List (Nat×Blk)):Prop:=match H with
 | []=>True
 | (k,B)::r=>look L k=some B∧subH r L
theorem subH_ok {L:List (Nat×Blk)}:∀ {H:List (Nat×Blk)} {k:Nat} {B:Blk},subH H L→look H k=some B→look L k=some B
 | [],k,B,_,h=>by cases h
 | (j,B')::r,k,B,h,hl=>by
  rw[look_cons] at hl
  by_cases e:j=k
  ·rw[if_pos e] at hl;cases hl;rw[← e];exact h.1
  ·rw[if_neg e] at hl;exact subH_ok h.2 hl
section
variable {P:Program} {gl:List (Nat×List D)} {M0 S0:Nat→Prop} {w0:Base} {N:Nat} {adr:Env} {fr:List (Nat×V)} {L:List (Nat×Blk)} {n:Nat} {a:Act} {w:World}
def Rest (M0:Nat→Prop) (adr:Env) (L H:List (Nat×Blk)) (b:Nat):Prop:=M0 b∨∃ k B m,look L k=some B∧look H k=none∧adr k=some (some b,m)
theorem mut_rest {H:List (Nat×Blk)} (hs:∀ k B,look H k=some B→look L k=some B):Mut (Rest M0 adr L H) adr H=Mut M0 adr L:=by
 funext b
 apply propext
 constructor
 ·rintro ((h|⟨k,B,m,h1,h2,h3⟩)|⟨k,B,m,h1,h2⟩)
  ·exact .inl h
  ·exact .inr ⟨k,B,m,h1,h3⟩
  ·exact .inr ⟨k,B,m,hs k B h1,h2⟩
 ·rintro (h|⟨k,B,m,h1,h2⟩)
  ·exact .inl (.inl h)
  ·cases hk:look H k with
   | none=>exact .inl (.inr ⟨k,B,m,h1,hk,h2⟩)
   | some B'=>exact .inr ⟨k,B',m,hk,h2⟩
theorem WOk.part (h:WOk M0 adr L n w) {H:List (Nat×Blk)} (hs:∀ k B,look H k=some B→look L k=some B):WOk (Rest M0 adr L H) adr H n w:=by
 refine ⟨fun k B hk=>h.keys k B (hs k B hk),h.fresh,fun k B hk=>?_,fun k k' B B' b m m' h1 h2 h3 h4=>h.inj k k' B B' b m m' (hs _ _ h1) (hs _ _ h2) h3 h4,fun k B b m hk ha=>?_,fun b hb=>?_⟩
 ·rw[mut_rest hs];exact h.loc k B (hs k B hk)
 ·rintro (h1|⟨j,B',m',h1,h2,h3⟩)
  ·exact h.prot k B b m (hs k B hk) ha h1
  ·have:=h.inj k j B B' b m m' (hs k B hk) h1 ha h3
   subst this
   rw[hk] at h2;cases h2
 ·rcases hb with h1|⟨j,B',m',h1,h2,h3⟩
  ·exact h.bound b h1
  ·exact h.lt h1 h3
theorem Ok.called (h:Ok gl M0 S0 w0 N adr fr L n a w) {H H':List (Nat×Blk)} {n':Nat} {mv:List Nat} {adr':Env} {w':World} (hs:∀ k B,look H k=some B→look L k=some B) (hn:n≤n') (hkeys:∀ k B,look H' k=some B→k<n→(look H k).isSome=true)
 (hE:Evo (Trk adr H) w w') (hW:WOk (Rest M0 adr L H) adr' H' n' w') (ha0:∀ k,k<n→k ∉ mv→adr' k=adr k) (hmv:∀ k ∈ mv,(look H k).isSome=true) (hmf:∀ t s,look fr t=some s→∀ k ∈ mv,menV k s=false) (hml:∀ k l t,look L k=some (.var l t)→look H k=none→∀ c ∈ l,∀ j ∈ mv,menC j c=false) (hmx:∀ k ∈ w0.fx,k ∉ mv) (hnew:∀ k B b m,look H' k=some B→adr' k=some (some b,m)→Trk adr H b∨w.heap.size≤b) :
 Ok gl M0 S0 w0 N adr' fr (H'++dropK H L) n' a w'∧Mut (Rest M0 adr L H) adr' H'=Mut M0 adr' (H'++dropK H L):=by
 have old:∀ k e,k ∉ mv→adr k=some e→adr' k=some e:=fun k e hk he=>by
  rcases Nat.lt_or_ge k n with h1|h1
  ·rw[ha0 k h1 hk];exact he
  ·rw[h.wok.fresh k h1] at he;cases he
 have ha:∀ k,k<n→look H k=none→adr' k=adr k:=fun k hk hH=>ha0 k hk fun hm=>by
  have:=hmv k hm;rw[hH] at this;cases this
 have lk:∀ k B,look (H'++dropK H L) k=some B→look H' k=some B∨(look H' k=none∧look H k=none∧look L k=some B):=fun k B hl=>by
  rw[look_app] at hl
  split at hl
  ·exact .inl (by rw[← hl];assumption)
  ·rename_i h1
   rw[look_dropK] at hl
   split at hl
   ·cases hl
   ·rename_i h2;exact .inr ⟨h1,h2,hl⟩
 have lk2:∀ k B,look H k=none→look L k=some B→look (H'++dropK H L) k=some B:=fun k B h1 h2=>by
  have hkn:=h.wok.keys k B h2
  have h3:look H' k=none:=by
   cases hq:look H' k with
   | none=>rfl
   | some B'=>have:=hkeys k B' hq hkn;rw[h1] at this;cases this
  rw[look_app,h3]
  simp only
  rw[look_dropK,h1];exact h2
 have lk1:∀ k B,look H' k=some B→look (H'++dropK H L) k=some B:=fun k B h1=>by rw[look_app,h1]
 have hmut:Mut (Rest M0 adr L H) adr' H'=Mut M0 adr' (H'++dropK H L):=by
  funext b
  apply propext
  constructor
  ·rintro ((h1|⟨k,B,m,h1,h2,h3⟩)|⟨k,B,m,h1,h2⟩)
   ·exact .inl h1
   ·exact .inr ⟨k,B,m,lk2 k B h2 h1,by rw[ha k (h.wok.keys k B h1) h2];exact h3⟩
   ·exact .inr ⟨k,B,m,lk1 k B h1,h2⟩
  ·rintro (h1|⟨k,B,m,h1,h2⟩)
   ·exact .inl (.inl h1)
   ·rcases lk k B h1 with h3|⟨_,h4,h5⟩
    ·exact .inr ⟨k,B,m,h3,h2⟩
    ·refine .inl (.inr ⟨k,B,m,h5,h4,?_⟩)
     rw[← ha k (h.wok.keys k B h5) h4];exact h2
 have hM:∀ b,b<w.heap.size→Mut M0 adr' (H'++dropK H L) b→Mut M0 adr L b:=by
  rintro b hb (h1|⟨k,B,m,h1,h2⟩)
  ·exact .inl h1
  ·rcases lk k B h1 with h3|⟨_,h4,h5⟩
   ·rcases hnew k B b m h3 h2 with ⟨j,B',m',h6,h7⟩|h6
    ·exact .inr ⟨j,B',m',hs j B' h6,h7⟩
    ·omega
   ·refine .inr ⟨k,B,m,h5,?_⟩
    rw[← ha k (h.wok.keys k B h5) h4];exact h2
 have hS:∀ b,b<w.heap.size→Trk adr H b→Mut M0 adr L b:=fun b _ ⟨j,B',m',h6,h7⟩=>.inr ⟨j,B',m',hs j B' h6,h7⟩
 refine ⟨h.move hE (fun b hb hT=>⟨hS b hb hT,?_⟩) hM (fun t s hl=>⟨hl,fun k e hm he=>old k e (fun hk=>by have:=hmf t s hl k hk;rw[this] at hm;cases hm) he⟩) ?_ ?_ (fun k hk hkn=>⟨by omega,ha0 k hkn (hmx k hk)⟩),hmut⟩
 ·obtain ⟨j,B',m',h6,h7⟩:=hT
  exact h.new j B' b m' (hs j B' h6) h7
 ·refine ⟨fun k B hl=>?_,hW.fresh,fun k B hl=>?_,fun k k' B B' b m m' h1 h2 h3 h4=>?_,fun k B b m hl hab=>?_,fun b hb=>Nat.lt_of_lt_of_le (h.wok.bound b hb) hE.size⟩
  ·rcases lk k B hl with h1|⟨_,_,h1⟩
   ·exact hW.keys k B h1
   ·have:=h.wok.keys k B h1;omega
  ·rcases lk k B hl with h1|⟨_,h2,h1⟩
   ·rw[← hmut];exact hW.loc k B h1
   ·have hkn:=h.wok.keys k B h1
    rw[ha k hkn h2]
    refine (h.wok.loc k B h1).evo hE hS hM (fun b m he hb=>hE.block b hb ?_) (fun l t hB c hc j e hm he=>old j e (fun hj=>by subst hB;have:=hml k l t h1 h2 c hc j hj;rw[this] at hm;cases hm) he)
    rintro ⟨j,B',m',h6,h7⟩
    have:=h.wok.inj k j B B' b m m' h1 (hs j B' h6) he h7
    subst this
    rw[h2] at h6;cases h6
  ·have rest:∀ k B m,look H k=none→look L k=some B→adr' k=some (some b,m)→Rest M0 adr L H b:=fun k B m h1 h2 h3=>.inr ⟨k,B,m,h2,h1,by rw[← ha k (h.wok.keys k B h2) h1];exact h3⟩
   rcases lk k B h1 with g1|⟨_,g2,g1⟩ <;> rcases lk k' B' h2 with g3|⟨_,g4,g3⟩
   ·exact hW.inj k k' B B' b m m' g1 g3 h3 h4
   ·exact absurd (rest k' B' m' g4 g3 h4) (hW.prot k B b m g1 h3)
   ·exact absurd (rest k B m g2 g1 h3) (hW.prot k' B' b m' g3 h4)
   ·have e1:=ha k (h.wok.keys k B g1) g2
    have e2:=ha k' (h.wok.keys k' B' g3) g4
    rw[e1] at h3;rw[e2] at h4
    exact h.wok.inj k k' B B' b m m' g1 g3 h3 h4
  ·rcases lk k B hl with h1|⟨_,h2,h1⟩
   ·intro hm;exact hW.prot k B b m h1 hab (.inl hm)
   ·rw[ha k (h.wok.keys k B h1) h2] at hab;exact h.wok.prot k B b m h1 hab
 ·intro k B b m hl hab
  rcases lk k B hl with h1|⟨_,h2,h1⟩
  ·rcases hnew k B b m h1 hab with ⟨j,B',m',h6,h7⟩|h6
   ·exact h.new j B' b m' (hs j B' h6) h7
   ·have:=h.base.size;exact .inr (by omega)
  ·rw[ha k (h.wok.keys k B h1) h2] at hab;exact h.new k B b m h1 hab
end
def killS (H:List (Nat×Blk)) (k:Nat):List (Nat×Blk)→List (Nat×Blk)
 | []=>[]
 | (j,B)::r=>(j,match look H j with|some _=>B|none=>killB k B)::killS H k r
theorem look_killS {H:List (Nat×Blk)} {k:Nat}:∀ {L:List (Nat×Blk)} {j:Nat},look (killS H k L) j=(look L j).map fun B=>match look H j with|some _=>B|none=>killB k B
 | [],j=>rfl
 | (i,B)::r,j=>by
  simp only[killS]
  rw[look_cons,look_cons]
  by_cases e:i=j
  ·subst e;rw[if_pos rfl,if_pos rfl];rfl
  ·rw[if_neg e,if_neg e,look_killS]
def killFs:List Nat→List (Nat×V)→List (Nat×V)
 | [],fr=>fr
 | k::r,fr=>killFs r (killF k fr)
def killSs (H:List (Nat×Blk)):List Nat→List (Nat×Blk)→List (Nat×Blk)
 | [],L=>L
 | k::r,L=>killSs H r (killS H k L)
section
variable {gl:List (Nat×List D)} {M0 S0:Nat→Prop} {w0:Base} {N:Nat} {adr:Env} {fr:List (Nat×V)} {L H:List (Nat×Blk)} {n:Nat} {a:Act} {w:World}
theorem Ok.killOne (h:Ok gl M0 S0 w0 N adr fr L n a w) (H:List (Nat×Blk)) (k:Nat):Ok gl M0 S0 w0 N adr (killF k fr) (killS H k L) n a w:=by
 have lk:∀ j B,look (killS H k L) j=some B→∃ B0,look L j=some B0∧(B=B0∨B=killB k B0):=fun j B hl=>by
  rw[look_killS] at hl
  obtain ⟨B0,h1,h2⟩:=Option.map_eq_some_iff.1 hl
  refine ⟨B0,h1,?_⟩
  split at h2
  ·exact .inl h2.symm
  ·exact .inr h2.symm
 have lk':∀ j B0,look L j=some B0→∃ B,look (killS H k L) j=some B:=fun j B0 hl=>by rw[look_killS,hl];exact ⟨_,rfl⟩
 have hm:Mut M0 adr (killS H k L)=Mut M0 adr L:=by
  funext b
  apply propext
  constructor
  ·rintro (h1|⟨j,B',m,h1,h2⟩)
   ·exact .inl h1
   ·obtain ⟨B0,h3,_⟩:=lk j B' h1;exact .inr ⟨j,B0,m,h3,h2⟩
  ·rintro (h1|⟨j,B',m,h1,h2⟩)
   ·exact .inl h1
   ·obtain ⟨B,h3⟩:=lk' j B' h1;exact .inr ⟨j,B,m,h3,h2⟩
 have h':=h.fewer (fr':=killF k fr) (fun t s hl=>by rcases look_killF hl with h1|h1;exact .inl h1;exact .inr h1.1)
 refine ⟨h.size,h.defers,by rw[hm];exact h'.fr,⟨fun j B hl=>?_,h.wok.fresh,fun j B hl=>?_,fun j j' B1 B2 b m m' h1 h2 h3 h4=>?_,fun j B b m hl ha=>?_,h.wok.bound⟩,by rw[hm];exact h.glob,h.base,fun j B b m hl ha=>?_,h.same⟩
 ·obtain ⟨B0,h1,_⟩:=lk j B hl;exact h.wok.keys j B0 h1
 ·obtain ⟨B0,h1,h2⟩:=lk j B hl
  have hlo:=h.wok.loc j B0 h1
  rw[hm]
  rcases h2 with rfl|rfl
  ·exact hlo
  ·cases B0 with
   | rows z l e=>exact hlo
   | mp ks vs=>exact hlo
   | var l t =>
    cases hq:adr j with
    | none=>rw[hq] at hlo;exact hlo.elim
    | some q =>
     obtain ⟨q1,q2⟩:=q
     cases q1 with
     | none=>rw[hq] at hlo;exact hlo.elim
     | some b=>rw[hq] at hlo;obtain ⟨xs,g2,g3⟩:=hlo;exact ⟨xs,g2,killC_den g3⟩
 ·obtain ⟨C1,g1,_⟩:=lk _ _ h1
  obtain ⟨C2,g2,_⟩:=lk _ _ h2
  exact h.wok.inj j j' C1 C2 b m m' g1 g2 h3 h4
 ·obtain ⟨B0,h1,_⟩:=lk j B hl;exact h.wok.prot j B0 b m h1 ha
 ·obtain ⟨B0,h1,_⟩:=lk j B hl;exact h.new j B0 b m h1 ha
def CleanF (k:Nat) (fr:List (Nat×V)):Prop:=∀ t s,look fr t=some s→menV k s=false
def CleanL (H:List (Nat×Blk)) (k:Nat) (L:List (Nat×Blk)):Prop:=∀ j l t,look L j=some (.var l t)→look H j=none→∀ c ∈ l,menC k c=false
theorem cleanF_kill (k:Nat) (fr:List (Nat×V)):CleanF k (killF k fr):=fun t s hl=>by
 rcases look_killF hl with rfl|h1
 ·rfl
 ·exact h1.2
theorem CleanF.kill {k j:Nat} (h:CleanF k fr):CleanF k (killF j fr):=fun t s hl=>by
 rcases look_killF hl with rfl|h1
 ·rfl
 ·exact h t s h1.1
theorem menC_killC {k j:Nat} {c:C} (h:menC k c=false):menC k (killC j c)=false:=by
 unfold killC
 cases menC j c with
 | true=>rfl
 | false=>exact h
theorem cleanL_kill (H:List (Nat×Blk)) (k:Nat) (L:List (Nat×Blk)):CleanL H k (killS H k L):=fun j l t hl hH c hc=>by
 rw[look_killS] at hl
 obtain ⟨B0,h1,h2⟩:=Option.map_eq_some_iff.1 hl
 rw[hH] at h2
 simp only at h2
 cases B0 with
 | rows z l e=>simp[killB] at h2
 | mp ks vs=>simp[killB] at h2
 | var l0 t0=>simp only[killB,Blk.var.injEq] at h2;rw[← h2.1] at hc;exact killC_clean hc
theorem CleanL.kill {k j:Nat} (h:CleanL H k L):CleanL H k (killS H j L):=fun i l t hl hH c hc=>by
 rw[look_killS] at hl
 obtain ⟨B0,h1,h2⟩:=Option.map_eq_some_iff.1 hl
 rw[hH] at h2
 simp only at h2
 cases B0 with
 | rows z l e=>simp[killB] at h2
 | mp ks vs=>simp[killB] at h2
 | var l0 t0 =>
  simp only[killB,Blk.var.injEq] at h2
  rw[← h2.1] at hc
  obtain ⟨c',hc',rfl⟩:=List.mem_map.1 hc
  exact menC_killC (h i l0 t0 h1 hH c' hc')
theorem cleanF_more {k:Nat}:∀ {ks:List Nat} {fr:List (Nat×V)},CleanF k fr→CleanF k (killFs ks fr)
 | [],_,h=>h
 | _::_,_,h=>by rw[killFs];exact cleanF_more h.kill
theorem cleanL_more {k:Nat}:∀ {ks:List Nat} {L:List (Nat×Blk)},CleanL H k L→CleanL H k (killSs H ks L)
 | [],_,h=>h
 | _::_,_,h=>by rw[killSs];exact cleanL_more h.kill
theorem Ok.killAll:∀ {ks:List Nat} {fr:List (Nat×V)} {L:List (Nat×Blk)},Ok gl M0 S0 w0 N adr fr L n a w→Ok gl M0 S0 w0 N adr (killFs ks fr) (killSs H ks L) n a w∧(∀ k ∈ ks,CleanF k (killFs ks fr))∧(∀ k ∈ ks,CleanL H k (killSs H ks L))∧(∀ k B,look H k=some B→look (killSs H ks L) k=look L k)
 | [],fr,L,h=>⟨h,by simp,by simp,fun _ _ _=>rfl⟩
 | k::ks,fr,L,h=>by
  obtain ⟨h1,h2,h3,h4⟩:=Ok.killAll (ks:=ks) (h.killOne H k)
  refine ⟨h1,fun j hj=>?_,fun j hj=>?_,fun j B hB=>?_⟩
  ·rcases List.mem_cons.1 hj with rfl|hj
   ·rw[killFs];exact cleanF_more (cleanF_kill _ _)
   ·exact h2 j hj
  ·rcases List.mem_cons.1 hj with rfl|hj
   ·rw[killSs];exact cleanL_more (cleanL_kill _ _ _)
   ·exact h3 j hj
  ·rw[killSs,h4 j B hB,look_killS,hB]
   cases look L j <;> rfl
end
abbrev SK:=List (Nat×V)→List (Nat×Blk)→Nat→Prop
def notIn (k:Nat):List Nat→Bool
 | []=>true
 | j::r=>match Nat.beq j k with
  | true=>false
  | false=>notIn k r
theorem notIn_ok {k:Nat}:∀ {l:List Nat},notIn k l=true→k ∉ l
 | [],_=>by simp
 | j::r,h=>by
  simp only[notIn] at h
  split at h
  ·cases h
  ·rename_i hj
   have:=Nat.ne_of_beq_eq_false hj
   intro hm
   rcases List.mem_cons.1 hm with h1|h1
   ·exact this h1.symm
   ·exact notIn_ok h h1
def noneIn:List Nat→List Nat→Bool
 | [],_=>true
 | k::r,l=>match notIn k l with
  | true=>noneIn r l
  | false=>false
theorem noneIn_ok:∀ {ks l:List Nat},noneIn ks l=true→∀ k ∈ ks,k ∉ l
 | [],_,_,k,hk=>by simp at hk
 | j::r,l,h,k,hk=>by
  simp only[noneIn] at h
  split at h
  ·rename_i hj
   rcases List.mem_cons.1 hk with rfl|h1
   ·exact notIn_ok hj
   ·exact noneIn_ok h k h1
  ·cases h
def hcall (P:Program) (gl:List (Nat×List D)) (fx:List Nat) (g:Nat) (vs:List V) (fr:List (Nat×V)) (L:List (Nat×Blk)) (n:Nat) (k:V→SK) (kp:C→SK):Prop :=
 ∃ H r H' n' mv,Fn P gl g vs H n r H' n' mv∧subH H L∧onB (noneIn mv fx) (match mv with
  | []=>(match r with
   | .ret v=>fV v fun s=>fBs (H'++dropK H L) fun L'=>k s fr L' n'
   | .panic c=>fC c fun c'=>fBs (H'++dropK H L) fun L'=>kp c' fr L' n')
  | mv=>fF (killFs mv fr) fun fr'=>fBs (H'++dropK H (killSs H mv L)) fun L'=>match r with
   | .ret v=>fV v fun s=>k s fr' L' n'
   | .panic c=>fC c fun c'=>kp c' fr' L' n')
def pcall (P:Program) (gl:List (Nat×List D)) (g:Nat) (vs:List V) (fr:List (Nat×V)) (L:List (Nat×Blk)) (n:Nat) (k:V→SK):Prop :=
 lendVs L vs fun ds ks=>∃ r,FnP P gl g ds r∧match ks with
  | []=>fV (vD r) fun s=>k s fr L n
  | _=>onB (flatD r) (fV (vD r) fun s=>k s fr L n)
def rCall (P:Program) (gl:List (Nat×List D)) (fx:List Nat) (g:Nat) (vs:List V) (fr:List (Nat×V)) (L:List (Nat×Blk)) (n:Nat) (k:V→SK) (kp:C→SK):Prop :=
 match isDVs vs with
 | true=>pcall P gl g vs fr L n k∨hcall P gl fx g vs fr L n k kp
 | false=>hcall P gl fx g vs fr L n k kp
section
variable {P:Program} {gl:List (Nat×List D)} {M0 S0:Nat→Prop} {w0:Base} {N:Nat} {adr:Env} {fr:List (Nat×V)} {L:List (Nat×Blk)} {n:Nat} {a:Act} {w:World}
theorem Glob.less {M M':Nat→Prop} (h:Glob gl M w) (hM:∀ b,b<w.heap.size→M' b→M b):Glob gl M' w:=h.evo (Evo.refl (fun _=>False) w) (fun _ _ h=>h.elim) hM
theorem pcall_ok {g:Nat} {vs:List V} {k:V→SK} (h:pcall P gl g vs fr L n k) (hx:Ok gl M0 S0 w0 N adr fr L n a w) {xs:List Value} (hd:All2 (DenV adr (Mut M0 adr L) w) vs xs) :
 Does P g xs.toArray w fun e w'=>∃ v x adr' fr' L' n',e=.returned x∧k v fr' L' n'∧Ok gl M0 S0 w0 N adr' fr' L' n' a w'∧DenV adr' (Mut M0 adr' L') w' v x:=by
 obtain ⟨ds,ks,⟨r,hF,hr⟩,hl⟩:=lendVs_ok h
 let M':Nat→Prop:=fun b=>Mut M0 adr L b∧¬ ∃ k ∈ ks,∃ m,adr k=some (some b,m)
 have hM':∀ b,b<w.heap.size→M' b→Mut M0 adr L b:=fun b _ hb=>hb.1
 have hsp:Spares adr ks M':=fun k hk b m ha hb=>hb.2 ⟨k,hk,m,ha⟩
 refine (hF w M' xs (fun b hb=>hx.wok.mutLt hb.1) (hx.glob.less hM') (hl M0 adr n w xs M' hx.wok hd hM' hsp)).mono ?_
 rintro e w' ⟨hE,x,rfl,hv⟩
 split at hr
 ·rw[fV_eq] at hr
  exact ⟨vD r,x,adr,fr,L,n,rfl,hr,hx.evo hE,vD_den (hv.less fun b _ hb=>⟨hb,fun ⟨k,hk,_⟩=>by simp at hk⟩)⟩
 ·obtain ⟨hf,hr⟩:=onB_ok hr
  rw[fV_eq] at hr
  exact ⟨vD r,x,adr,fr,L,n,rfl,hr,hx.evo hE,vD_den (flatD_ok hf hv)⟩
theorem rCall_ok {g:Nat} {vs:List V} {k:V→SK} {kp:C→SK} (h:rCall P gl w0.fx g vs fr L n k kp) (hx:Ok gl M0 S0 w0 N adr fr L n a w) {xs:List Value} (hd:All2 (DenV adr (Mut M0 adr L) w) vs xs) :
 Does P g xs.toArray w fun e w'=>(∃ v x adr' fr' L' n',e=.returned x∧k v fr' L' n'∧Ok gl M0 S0 w0 N adr' fr' L' n' a w'∧DenV adr' (Mut M0 adr' L') w' v x)∨(∃ c x adr' fr' L' n',e=.panicked [{ v:=x,recovered:=false }]∧kp c fr' L' n'∧Ok gl M0 S0 w0 N adr' fr' L' n' a w'∧DenC adr' (Mut M0 adr' L') w' c x):=by
 have hh:hcall P gl w0.fx g vs fr L n k kp→Does P g xs.toArray w fun e w'=>(∃ v x adr' fr' L' n',e=.returned x∧k v fr' L' n'∧Ok gl M0 S0 w0 N adr' fr' L' n' a w'∧DenV adr' (Mut M0 adr' L') w' v x)∨(∃ c x adr' fr' L' n',e=.panicked [{ v:=x,recovered:=false }]∧kp c fr' L' n'∧Ok gl M0 S0 w0 N adr' fr' L' n' a w'∧DenC adr' (Mut M0 adr' L') w' c x):=by
  rintro ⟨H,r,H',n',mv,⟨hn,hkeys,hmv,hF⟩,hsub,hr0⟩
  obtain ⟨hnx,hr⟩:=onB_ok hr0
  clear hr0
  have hmx:∀ k ∈ w0.fx,k ∉ mv:=fun k hk hm=>noneIn_ok hnx k hm hk
  have hs:∀ k B,look H k=some B→look L k=some B:=fun k B=>subH_ok hsub
  obtain ⟨hx2,hc1,hc2,hc3⟩:=hx.killAll (ks:=mv) (H:=H)
  have hs2:∀ k B,look H k=some B→look (killSs H mv L) k=some B:=fun k B hk=>by rw[hc3 k B hk];exact hs k B hk
  refine (hF w (Rest M0 adr L H) adr xs (hx.wok.part hs) (by rw[mut_rest hs];exact hx.glob) (by rw[mut_rest hs];exact hd)).mono ?_
  rintro e w' ⟨adr',hE,hW,ha,hnew,hret⟩
  have hrest:Rest M0 adr L H=Rest M0 adr (killSs H mv L) H:=by
   have lk:∀ (ks:List Nat) (L:List (Nat×Blk)) j,(look (killSs H ks L) j).isSome=(look L j).isSome:=fun ks=>by
    induction ks with
    | nil=>intro L j;rfl
    | cons k ks ih=>intro L j;rw[killSs,ih,look_killS];simp
   funext b
   apply propext
   constructor
   ·rintro (h1|⟨j,B,m,h1,h2,h3⟩)
    ·exact .inl h1
    ·obtain ⟨B',hB'⟩:=Option.isSome_iff_exists.1 (show (look (killSs H mv L) j).isSome=true by rw[lk,h1];rfl)
     exact .inr ⟨j,B',m,hB',h2,h3⟩
   ·rintro (h1|⟨j,B,m,h1,h2,h3⟩)
    ·exact .inl h1
    ·obtain ⟨B',hB'⟩:=Option.isSome_iff_exists.1 (show (look L j).isSome=true by rw[← lk mv,h1];rfl)
     exact .inr ⟨j,B',m,hB',h2,h3⟩
  rw[hrest] at hW hret
  obtain ⟨hok,hmut⟩:=hx2.called hs2 hn hkeys hE hW ha hmv (fun t s hl k hk=>hc1 k hk t s hl) (fun j l t hl hH c hc k hk=>hc2 k hk j l t hl hH c hc) hmx hnew
  have hr':match r with
   | .ret v=>k v (killFs mv fr) (H'++dropK H (killSs H mv L)) n'
   | .panic c=>kp c (killFs mv fr) (H'++dropK H (killSs H mv L)) n':=by
   cases mv with
   | nil=>cases r <;> simp only[fV_eq,fC_eq,fBs_eq] at hr <;> exact hr
   | cons q qs=>cases r <;> simp only[fV_eq,fC_eq,fBs_eq,fF_eq] at hr <;> exact hr
  cases r with
  | ret v =>
   obtain ⟨x,rfl,hv⟩:=hret
   exact .inl ⟨v,x,adr',_,_,n',rfl,hr',hok,by rw[← hmut];exact hv⟩
  | panic c =>
   obtain ⟨x,rfl,hv⟩:=hret
   exact .inr ⟨c,x,adr',_,_,n',rfl,hr',hok,by rw[← hmut];exact hv⟩
 unfold rCall at h
 split at h
 ·rcases h with h|h
  ·exact (pcall_ok h hx hd).mono fun _ _ h=>.inl h
  ·exact hh h
 ·exact hh h
end
end
section
theorem rep_flat {α:Type} (l:List α):∀ (n k:Nat),((List.replicate n l).flatten)[k]?=if k<n * l.length then l[k % l.length]? else none
 | 0,k=>by simp
 | n+1,k=>by
  rw[List.replicate_succ,List.flatten_cons,List.getElem?_append]
  by_cases hk:k<l.length
  ·rw[if_pos hk,if_pos (by rw[Nat.add_mul];omega),Nat.mod_eq_of_lt hk]
  ·rw[if_neg hk,rep_flat l n (k - l.length)]
   have e:(k - l.length) % l.length=k % l.length:=(Nat.mod_eq_sub_mod (by omega)).symm
   rw[e]
   by_cases h2:k<(n+1) * l.length
   ·rw[if_pos h2,if_pos (by rw[Nat.add_mul] at h2;omega)]
   ·rw[if_neg h2,if_neg (by rw[Nat.add_mul] at h2;omega)]
theorem zeroCells_flat (zero:Array Value) (n:Nat):(Builtin.zeroCells zero n).toList=(List.replicate n zero.toList).flatten:=by
 apply List.ext_getElem?
 intro k
 rw[rep_flat]
 simp only[Builtin.zeroCells,Array.toList_map,List.getElem?_map,Array.length_toList]
 by_cases hk:k<n * zero.size
 ·rw[if_pos hk]
  have h0:0<zero.size:=by
   rcases Nat.eq_zero_or_pos zero.size with h|h
   ·rw[h] at hk;omega
   ·exact h
  have hm:=Nat.mod_lt k h0
  simp[hk,hm]
 ·rw[if_neg hk]
  simp[hk]
def rClear (te:TI) (cx:C) (L:List (Nat×Blk)) (K:List (Nat×Blk)→Prop):Prop :=
 match cx with
 | .own z kk i q=>onB (Nat.beq z te.size) (match look L kk with
  | some (.rows z' l e)=>onB (Nat.beq z' te.size) ((i+q≤l.length∧allOne [te.zero]=true)∧setLK L kk (.rows z' (over l i (List.replicate q te.zero)) e) K)
  | _=>False)
 | _=>False
section
variable {P:Program} {gl:List (Nat×List D)} {M0 S0:Nat→Prop} {w0:Base} {N:Nat} {adr:Env} {fr:List (Nat×V)} {L:List (Nat×Blk)} {n:Nat} {a:Act} {w:World}
theorem Ok.clearRows (h:Ok gl M0 S0 w0 N adr fr L n a w) {k b m i z e q:Nat} {l:List (List D)} {zs:List D} {us:List Value} {cur:Array Value} (hk:look L k=some (.rows z l e)) (ha:adr k=some (some b,m))
 (hc:w.heap[b]?=some (Obj.cells cur e (0,0))) (hv:DenL (Mut M0 adr L) w zs us) (hzl:zs.length=z) (hi:i+q≤l.length) :
 Ok gl M0 S0 w0 N adr fr (setL L k (.rows z (over l i (List.replicate q zs)) e)) n a (w.setRow b (over cur.toList (i * z) (List.replicate q us).flatten).toArray):=by
 have hloc:=h.wok.loc k _ hk
 rw[ha] at hloc
 obtain ⟨g1,g2,g3,cur',c,g4,g5,g6,g7,g8⟩:=hloc
 rw[hc] at g4
 obtain rfl:cur=cur':=by cases g4;rfl
 have hul:us.length=z:=by rw[← hzl];exact (All2.length hv).symm
 have hrl:(List.replicate q us).flatten.length=q * z:=by simp[hul]
 have hmul:i * z+q * z≤l.length * z:=by rw[← Nat.add_mul];exact Nat.mul_le_mul_right _ hi
 have hmul2:l.length * z≤c * z:=Nat.mul_le_mul_right _ g6
 have hs:(over cur.toList (i * z) (List.replicate q us).flatten).toArray.size=cur.size:=by
  rw[List.size_toArray,over_length (by rw[hrl];simp;omega)];simp
 have hlen:(over l i (List.replicate q zs)).length=l.length:=over_length (by simpa using hi)
 have hflat:(over l i (List.replicate q zs)).flatten=over l.flatten (i * z) (List.replicate q zs).flatten:=by
  unfold over
  have hl2:(List.replicate q zs).flatten.length=q * z:=by simp[hzl]
  rw[List.flatten_append,List.flatten_append,flatten_take_drop g3,flatten_drop g3,List.length_replicate,hl2,Nat.add_mul]
 have htake:(over cur.toList (i * z) (List.replicate q us).flatten).take (l.length * z)=over (cur.toList.take (l.length * z)) (i * z) (List.replicate q us).flatten:=by
  apply List.ext_getElem?
  intro j
  simp only[over,List.append_assoc,List.getElem?_append,List.getElem?_take,List.getElem?_drop,List.length_take,Array.length_toList,hrl]
  rw[show min (i * z) cur.size=i * z by omega,show min (i * z) (min (l.length * z) cur.size)=i * z by omega]
  rcases Nat.lt_or_ge j (l.length * z) with hj|hj
  ·simp only[hj,if_true]
   split
   ·first|rfl|(rename_i h1;rw[if_pos h1])
   ·split
    ·rfl
    ·first|rfl|(rw[if_pos (by omega)])
  ·rw[if_neg (by omega),if_neg (by omega),if_neg (by omega),if_neg (by omega)]
 have hrep:DenL (Mut M0 adr L) w (List.replicate q zs).flatten (List.replicate q us).flatten:=by
  clear hrl hmul hs hlen hflat htake hi
  induction q with
  | zero=>exact trivial
  | succ q ih=>rw[List.replicate_succ,List.replicate_succ,List.flatten_cons,List.flatten_cons];exact All2.app hv ih
 refine h.set hk ha hc hs ⟨g1,by rw[hlen];exact g2,fun r' hr'=>?_,_,c,setRow_heap w b _ _ _ _ hc,by rw[hs];exact g5,by rw[hlen];exact g6,g7,?_⟩
 ·unfold over at hr'
  rcases List.mem_append.1 hr' with h1|h1
  ·rcases List.mem_append.1 h1 with h1|h1
   ·exact g3 r' (List.mem_of_mem_take h1)
   ·rw[List.eq_of_mem_replicate h1];exact hzl
  ·exact g3 r' (List.mem_of_mem_drop h1)
 ·rw[hflat,hlen,htake]
  exact (All2.over (R:=DenD (Mut M0 adr L) w) (o:=i * z) g8 hrep).imp (fun d x hd=>hd.evo (Evo.setRow hc hs rfl:Evo (fun x=>x=b) w _) (fun x _ e=>e ▸ .inr ⟨k,_,m,hk,ha⟩) (fun _ _ h=>h))
theorem rClear_ok {t ty e:Nat} {te:TI} (ht:P.underlying t=some (.slice e)) (he:FitsOne P e te) {cx:C} {K:List (Nat×Blk)→Prop} (h:rClear te cx L K) (hx:Ok gl M0 S0 w0 N adr fr L n a w) {x:Value} (hd:DenC adr (Mut M0 adr L) w cx x) :
 ∃ w' L',(Builtin.clear_ #[t] ty #[x]).run P w=.ok (.tuple #[]) w'∧K L'∧Ok gl M0 S0 w0 N adr fr L' n a w':=by
 unfold rClear at h
 split at h
 ·rename_i z kk i q
  obtain ⟨h1,h⟩:=onB_ok h
  split at h
  ·rename_i z' l e' hk
   obtain ⟨h2,⟨hi,hone⟩,h⟩:=onB_ok h
   have h1:=Nat.eq_of_beq_eq_true h1
   have h2:=Nat.eq_of_beq_eq_true h2
   subst h1
   subst h2
   rw[setLK_eq] at h
   have none0:∀ (a0:Option Addr) (c0:Nat),(Builtin.clear_ #[t] ty #[.slice a0 0 c0]).run P w=.ok (.tuple #[]) w:=fun a0 c0=>by
    cases a0 <;> simp[Builtin.clear_,run_underlying ht]
   have same:q=0→Ok gl M0 S0 w0 N adr fr (setL L kk (.rows te.size (over l i (List.replicate q te.zero)) e')) n a w:=fun h0=>by
    subst h0
    have:over l i (List.replicate 0 te.zero)=l:=by simp[over]
    rw[this,setL_same hk]
    exact hx
   rcases hd with ⟨rfl,h3,h4⟩|⟨_,h4,a0,c0,_,rfl⟩|⟨b,m,c,cur,ee,f,h5,h6,h7,h8,h9,rfl⟩
   ·exact ⟨w,_,none0 _ _,h,same h4⟩
   ·exact ⟨w,_,none0 _ _,h,same h4⟩
   ·by_cases h0:q=0
    ·exact ⟨w,_,by rw[h0];exact none0 _ _,h,same h0⟩
    ·have hloc:=hx.wok.loc kk _ hk
     rw[h5] at hloc
     obtain ⟨g1,g2,g3,cur',c',g4,g5,g6,g7,g8⟩:=hloc
     rw[h6] at g4
     cases g4
     obtain ⟨ii,zz,hii,hsz,_,hzz,hzc⟩:=he.infoE
     have hzr:(zeroValue e).run P w=.ok zz w:=by simp only[zeroValue,typeInfo,Sem.run_bind,run_program,Result.andThen_ok,hii,hzz,Sem.run_pure]
     have hcl:(Builtin.zeroCells zz.cells q).toList=(List.replicate q (te.zero.map undD)).flatten:=by rw[zeroCells_flat,hzc]
     have hzl:(te.zero.map undD).length=te.size:=by rw[List.length_map,he.zlen]
     have hrl:((List.replicate q (te.zero.map undD)).flatten).length=q * te.size:=by simp[he.zlen]
     have hbound:i * te.size+q * te.size≤cur.size:=by
      rw[g5,← Nat.add_mul]
      exact Nat.mul_le_mul_right _ (by omega)
     have hone':∀ v ∈ (List.replicate q (te.zero.map undD)).flatten,v.oneCell'=true:=fun v hv=>by
      obtain ⟨r,hr,hvr⟩:=List.mem_flatten.1 hv
      rw[List.eq_of_mem_replicate hr] at hvr
      exact allOne_ok (rs:=[te.zero]) hone (by simpa using he.zeroDen (Mut M0 adr L) w) v hvr
     have hst:=run_storeCells_at (P:=P) b (i * te.size) e' ((List.replicate q (te.zero.map undD)).flatten) 0 cur w h6 (by rw[hrl];omega) hone'
     refine ⟨_,_,?_,h,hx.clearRows hk h5 h6 (he.zeroDen _ w) he.zlen hi⟩
     obtain ⟨q',rfl⟩:∃ q',q=q'+1:=⟨q - 1,by omega⟩
     simp only[Nat.add_zero] at hst
     simp[Builtin.clear_,run_underlying ht,hzr,hcl,hst,over]
  ·exact h.elim
 ·exact h.elim
end
end
end Go.EYtfcmhmglpcimiaaGreatDoor
