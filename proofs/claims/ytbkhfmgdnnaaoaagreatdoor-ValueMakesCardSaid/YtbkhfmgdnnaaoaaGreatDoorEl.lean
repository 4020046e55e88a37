/- Proved: the tenth part of the reckoner: freezing, what a function's contract says, what an operation of any kind asks. No condition. -/
/- Proved: the eleventh part of the reckoner: calls on states; what an operation of any kind asks. No condition. -/
/- Proved: the twelfth part of the reckoner: operations of every kind on states. No condition. -/
import Derived.Test.YtbkhfmgdnnaaoaaGreatDoorEi
section
namespace Go.EYtbkhfmgdnnaaoaaGreatDoor
open Go Go.RowKit

/-! ### Forms written out -/
def fC (c : C) (K : C → Prop) : Prop :=
  match c with
  | .d x => match x with
    | .v a => K (.d (.v a))
    | .b p i => K (.d (.b p i))
    | .str l => K (.d (.str l))
    | .lst z l => K (.d (.lst z l))
    | .imm l => K (.d (.imm l))
    | .ifc t g l => K (.d (.ifc t g l))
    | .agg l => K (.d (.agg l))
    | .tup l => K (.d (.tup l))
  | .ptr k o => K (.ptr k o)
  | .elt z k i o => K (.elt z k i o)
  | .own z k i n => K (.own z k i n)
  | .all z k => K (.all z k)
  | .fn f cs => K (.fn f cs)
  | .junk => K .junk
theorem fC_eq (c : C) (K : C → Prop) : fC c K = K c := by
  cases c <;> try rfl
  case d x => cases x <;> rfl
def fL (l : List C) : (List C → Prop) → Prop :=
  List.rec (motive := fun _ => (List C → Prop) → Prop) (fun K => K []) (fun c _ ih K => fC c fun c' => ih fun r' => K (c' :: r')) l
theorem fL_eq : ∀ (l : List C) (K : List C → Prop), fL l K = K l
  | [], K => rfl
  | c :: r, K => by show fC c (fun c' => fL r fun r' => K (c' :: r')) = _; rw [fC_eq, fL_eq r]
def fT (l : List (Bool × List C)) : (List (Bool × List C) → Prop) → Prop :=
  List.rec (motive := fun _ => (List (Bool × List C) → Prop) → Prop) (fun K => K []) (fun p _ ih K => Prod.rec (motive := fun _ => Prop) (fun b l => fL l fun l' => ih fun r' => K ((b, l') :: r')) p) l
theorem fT_eq : ∀ (l : List (Bool × List C)) (K : List (Bool × List C) → Prop), fT l K = K l
  | [], K => rfl
  | (b, l) :: r, K => by show fL l (fun l' => fT r fun r' => K ((b, l') :: r')) = _; rw [fL_eq, fT_eq r]
def fV (s : V) (K : V → Prop) : Prop :=
  match s with
  | .c x => fC x fun x' => K (.c x')
  | .agg l => fL l fun l' => K (.agg l')
  | .tup l => fT l fun l' => K (.tup l')
theorem fV_eq (s : V) (K : V → Prop) : fV s K = K s := by
  cases s
  · exact fC_eq _ (fun x' => K (.c x'))
  · exact fL_eq _ (fun l' => K (.agg l'))
  · exact fT_eq _ (fun l' => K (.tup l'))
def fF (l : List (Nat × V)) : (List (Nat × V) → Prop) → Prop :=
  List.rec (motive := fun _ => (List (Nat × V) → Prop) → Prop) (fun K => K []) (fun p _ ih K => Prod.rec (motive := fun _ => Prop) (fun t s => fV s fun s' => ih fun r' => K ((t, s') :: r')) p) l
theorem fF_eq : ∀ (l : List (Nat × V)) (K : List (Nat × V) → Prop), fF l K = K l
  | [], K => rfl
  | (t, s) :: r, K => by show fV s (fun s' => fF r fun r' => K ((t, s') :: r')) = _; rw [fV_eq, fF_eq r]
def fBs (l : List (Nat × Blk)) : (List (Nat × Blk) → Prop) → Prop :=
  List.rec (motive := fun _ => (List (Nat × Blk) → Prop) → Prop) (fun K => K []) (fun p _ ih K => Prod.rec (motive := fun _ => Prop) (fun k B => match B with
    | .var l t => fL l fun l' => ih fun r' => K ((k, .var l' t) :: r')
    | .rows z l e => ih fun r' => K ((k, .rows z l e) :: r')) p) l
theorem fBs_eq : ∀ (l : List (Nat × Blk)) (K : List (Nat × Blk) → Prop), fBs l K = K l
  | [], K => rfl
  | (k, .var l t) :: r, K => by show fL l (fun l' => fBs r fun r' => K ((k, .var l' t) :: r')) = _; rw [fL_eq, fBs_eq r]
  | (k, .rows z l e) :: r, K => by show fBs r (fun r' => K ((k, .rows z l e) :: r')) = _; rw [fBs_eq r]
def setLK (l : List (Nat × Blk)) (k : Nat) (B : Blk) : (List (Nat × Blk) → Prop) → Prop :=
  List.rec (motive := fun _ => (List (Nat × Blk) → Prop) → Prop) (fun K => K []) (fun p r ih K => Prod.rec (motive := fun _ => Prop) (fun j B' => match Nat.beq j k with
    | true => K ((j, B) :: r)
    | false => ih fun r' => K ((j, B') :: r')) p) l
theorem setLK_eq : ∀ (L : List (Nat × Blk)) (k : Nat) (B : Blk) (K : List (Nat × Blk) → Prop), setLK L k B K = K (setL L k B)
  | [], _, _, K => rfl
  | (j, B') :: r, k, B, K => by
    show (match Nat.beq j k with | true => K ((j, B) :: r) | false => setLK r k B fun r' => K ((j, B') :: r')) = _
    simp only [setL]
    cases Nat.beq j k with
    | true => rfl
    | false => simp only [setLK_eq r, cond_false]
def putK (dst : Option Nat) (s : V) (fr : List (Nat × V)) (K : List (Nat × V) → Prop) : Prop := match dst with
  | some d => K ((d, s) :: fr)
  | none => K fr
theorem putK_eq (dst : Option Nat) (s : V) (fr : List (Nat × V)) (K : List (Nat × V) → Prop) : putK dst s fr K = K (putF fr dst s) := by cases dst <;> rfl

/-! ### Freezing -/
def frzC (k z : Nat) (l : List (List D)) (c : C) : C := match menC k c with
  | false => c
  | true => match c with
    | .all z' _ => bif Nat.beq z' z then .d (.lst z l) else .junk
    | _ => .junk
def frzV (k z : Nat) (l : List (List D)) : V → V
  | .c x => .c (frzC k z l x)
  | .agg cs => .agg (cs.map (frzC k z l))
  | .tup ts => .tup (ts.map fun p => (p.1, p.2.map (frzC k z l)))
def frzB (k z : Nat) (l : List (List D)) : Blk → Blk
  | .var cs t => .var (cs.map (frzC k z l)) t
  | B => B
def frzF (k z : Nat) (l : List (List D)) : List (Nat × V) → List (Nat × V)
  | [] => []
  | (t, s) :: r => (t, frzV k z l s) :: frzF k z l r
def frzL (k z : Nat) (l : List (List D)) : List (Nat × Blk) → List (Nat × Blk)
  | [] => []
  | (j, B) :: r => bif Nat.beq j k then frzL k z l r else (j, frzB k z l B) :: frzL k z l r
theorem look_frzF {k z : Nat} {l : List (List D)} : ∀ {fr : List (Nat × V)} {t : Nat}, look (frzF k z l fr) t = (look fr t).map (frzV k z l)
  | [], t => rfl
  | (t', s) :: r, t => by
    simp only [frzF]
    rw [look_cons, look_cons]
    by_cases e : t' = t
    · rw [if_pos e, if_pos e]; rfl
    · rw [if_neg e, if_neg e, look_frzF]
theorem look_frzL {k z : Nat} {l : List (List D)} : ∀ {L : List (Nat × Blk)} {j : Nat}, look (frzL k z l L) j = if j = k then none else (look L j).map (frzB k z l)
  | [], j => by simp [frzL, look]
  | (i, B) :: r, j => by
    simp only [frzL]
    cases hb : Nat.beq i k with
    | true =>
      have e := Nat.eq_of_beq_eq_true hb
      subst e
      simp only [cond_true]
      rw [look_frzL, look_cons]
      by_cases e : j = i
      · rw [if_pos e, if_pos e]
      · rw [if_neg e, if_neg e, if_neg (fun h => e h.symm)]
    | false =>
      have e := Nat.ne_of_beq_eq_false hb
      simp only [cond_false]
      rw [look_cons, look_cons, look_frzL]
      by_cases e1 : i = j
      · subst e1; rw [if_pos rfl, if_pos rfl, if_neg e]; rfl
      · rw [if_neg e1, if_neg e1]
section
variable {gl : List (Nat × List D)} {M0 S0 : Nat → Prop} {w0 : Base} {N : Nat} {adr : Env} {fr : List (Nat × V)} {L : List (Nat × Blk)} {n : Nat} {a : Act} {w : World}
theorem rows_lst (h : WOk M0 adr L n w) {k z e : Nat} {l : List (List D)} (hk : look L k = some (.rows z l e)) {M' : Nat → Prop} (hM : ∀ b, b < w.heap.size → M' b → Mut M0 adr L b) (hn : ∀ b m, adr k = some (some b, m) → ¬ M' b) {x : Value} (hx : AllAt adr w z k x) : DenD M' w (.lst z l) x := by
  have hloc := h.loc k _ hk
  rcases hx with ⟨h5, rfl⟩ | ⟨b, q, cp, cur, ee, f, h5, h6, h7, h8, h9, rfl⟩
  · rw [h5] at hloc
    obtain ⟨_, h6, _⟩ := hloc
    subst h6
    exact .lst0 _ _ _ (by simp [maxLen])
  · rw [h5] at hloc
    obtain ⟨g1, g2, g3, cur', cp', g4, g5, g6, g7, g8⟩ := hloc
    subst g2
    rw [h6] at g4; cases g4
    have hb : b < w.heap.size := (Array.getElem?_eq_some_iff.1 h6).1
    have hg : ∀ i j d, get2 l i j = some d → ∃ x, cur.toList[i * z + j]? = some x ∧ DenD (Mut M0 adr L) w d x := fun i j d hd => by
      obtain ⟨h1, h2⟩ := get2_lt g3 hd
      rw [← get2_flat g3 h2] at hd
      obtain ⟨x, hx1, hx2⟩ := All2.get g8 hd
      rw [List.getElem?_take] at hx1
      split at hx1
      · exact ⟨x, hx1, hx2⟩
      · cases hx1
    refine DenD.lst z l b 0 cp (fun i j => cur.toList.getD (i * z + j) undef) hb (hn b _ h5) h8 h9 g3 (fun i j d hd => ?_) (fun i j d hd => ?_)
    · obtain ⟨x, hx1, hx2⟩ := hg i j d hd
      simp only [World.cell?, h6]
      rw [Nat.zero_add]
      simp only [List.getD, hx1, Option.getD_some]
      simpa using hx1
    · obtain ⟨x, hx1, hx2⟩ := hg i j d hd
      simp only [List.getD, hx1, Option.getD_some]
      exact hx2.less hM
theorem Ok.freeze (h : Ok gl M0 S0 w0 N adr fr L n a w) {k z e : Nat} {l : List (List D)} (hk : look L k = some (.rows z l e)) : Ok gl M0 S0 w0 N adr (frzF k z l fr) (frzL k z l L) n a w := by
  have lk : ∀ j B, look (frzL k z l L) j = some B → j ≠ k ∧ ∃ B0, look L j = some B0 ∧ B = frzB k z l B0 := fun j B hl => by
    rw [look_frzL] at hl
    split at hl
    · cases hl
    · rename_i hj
      obtain ⟨B0, h1, h2⟩ := Option.map_eq_some_iff.1 hl
      exact ⟨hj, B0, h1, h2.symm⟩
  have hM : ∀ b, Mut M0 adr (frzL k z l L) b → Mut M0 adr L b := by
    rintro b (h1 | ⟨j, B, m, h1, h2⟩)
    · exact .inl h1
    · obtain ⟨_, B0, h3, _⟩ := lk j B h1
      exact .inr ⟨j, B0, m, h3, h2⟩
  have hn : ∀ b m, adr k = some (some b, m) → ¬ Mut M0 adr (frzL k z l L) b := by
    rintro b m ha (h1 | ⟨j, B, m', h1, h2⟩)
    · exact h.wok.prot k _ b m hk ha h1
    · obtain ⟨hj, B0, h3, _⟩ := lk j B h1
      exact hj (h.wok.inj j k B0 _ b m' m h3 hk h2 ha)
  have hE := Evo.refl (fun _ => False) w
  have hC : ∀ c x, DenC adr (Mut M0 adr L) w c x → DenC adr (Mut M0 adr (frzL k z l L)) w (frzC k z l c) x := by
    intro c x hd
    unfold frzC
    cases hm : menC k c with
    | false => exact hd.evo hE (fun _ _ h => h.elim) (fun b _ hb => hM b hb) (fun _ _ _ he => he)
    | true =>
      cases c with
      | all z' j =>
        simp only [menC] at hm
        have hj := Nat.eq_of_beq_eq_true hm
        subst hj
        simp only
        cases hz : Nat.beq z' z with
        | false => exact trivial
        | true =>
          have hz := Nat.eq_of_beq_eq_true hz
          subst hz
          exact rows_lst h.wok hk (fun b _ hb => hM b hb) hn hd
      | _ => exact trivial
  have hCs : ∀ cs xs, DenCs adr (Mut M0 adr L) w cs xs → DenCs adr (Mut M0 adr (frzL k z l L)) w (cs.map (frzC k z l)) xs := fun cs xs hd => All2.map_left.2 (All2.imp (fun c x => hC c x) hd)
  refine ⟨h.size, h.defers, fun t s hl => ?_, ?_, h.glob.evo hE (fun _ _ h => h.elim) (fun b _ hb => hM b hb), h.base, fun j B b m hl ha => ?_, h.same⟩
  · rw [look_frzF] at hl
    obtain ⟨s0, h1, rfl⟩ := Option.map_eq_some_iff.1 hl
    have hd := h.fr t s0 h1
    cases s0 with
    | c x => exact hC x _ hd
    | agg cs => obtain ⟨xs, e1, e2⟩ := hd; exact ⟨xs, e1, hCs cs xs e2⟩
    | tup ts =>
      obtain ⟨xs, e1, e2⟩ := hd
      refine ⟨xs, e1, All2.map_left.2 (All2.imp (fun p x hp => ?_) e2)⟩
      obtain ⟨g, cs⟩ := p
      cases g with
      | true => obtain ⟨ys, e3, e4⟩ := hp; exact ⟨ys, e3, hCs cs ys e4⟩
      | false =>
        obtain ⟨c, e3, e4⟩ := hp
        simp only at e3
        subst e3
        exact ⟨_, rfl, hC c x e4⟩
  · refine ⟨fun j B hl => ?_, h.wok.fresh, fun j B hl => ?_, fun j j' B1 B2 b m m' h1 h2 h3 h4 => ?_, fun j B b m hl ha => ?_, h.wok.bound⟩
    · obtain ⟨_, B0, h1, _⟩ := lk j B hl; exact h.wok.keys j B0 h1
    · obtain ⟨_, B0, h1, rfl⟩ := lk j B hl
      have hlo := h.wok.loc j B0 h1
      cases hq : adr j with
      | none => rw [hq] at hlo; cases B0 <;> exact hlo.elim
      | some q =>
        obtain ⟨q1, q2⟩ := q
        rw [hq] at hlo
        cases q1 with
        | none => cases B0 with
          | var cs t => exact hlo.elim
          | rows z' l' e' => exact hlo
        | some b => cases B0 with
          | var cs t => obtain ⟨xs, e1, e2⟩ := hlo; exact ⟨xs, e1, hCs cs xs e2⟩
          | rows z' l' e' =>
            obtain ⟨g1, g2, g3, cur, c, g4, g5, g6, g7, g8⟩ := hlo
            exact ⟨g1, g2, g3, cur, c, g4, g5, g6, g7, g8.evo hE (fun _ _ h => h.elim) (fun b _ hb => hM b hb)⟩
    · obtain ⟨_, C1, e1, _⟩ := lk _ _ h1
      obtain ⟨_, C2, e2, _⟩ := lk _ _ h2
      exact h.wok.inj j j' C1 C2 b m m' e1 e2 h3 h4
    · obtain ⟨_, B0, h1, _⟩ := lk j B hl; exact h.wok.prot j B0 b m h1 ha
  · obtain ⟨_, B0, h1, _⟩ := lk j B hl; exact h.new j B0 b m h1 ha
end
/-- The names of rows that a value holds whole. -/
def ownsC : C → List Nat
  | .all _ k => [k]
  | _ => []
def ownsCs : List C → List Nat
  | [] => []
  | c :: r => match c with
    | .all _ k => k :: ownsCs r
    | _ => ownsCs r
def ownsV : V → List Nat
  | .c c => ownsC c
  | .agg l => ownsCs l
  | .tup _ => []
def frzAll (ks : List Nat) : List (Nat × V) → List (Nat × Blk) → (List (Nat × V) → List (Nat × Blk) → Prop) → Prop :=
  List.rec (motive := fun _ => List (Nat × V) → List (Nat × Blk) → (List (Nat × V) → List (Nat × Blk) → Prop) → Prop) (fun fr L K => K fr L) (fun k _ ih fr L K => match look L k with
    | some (.rows z l _) => fF (frzF k z l fr) fun fr' => fBs (frzL k z l L) fun L' => ih fr' L' K
    | _ => ih fr L K) ks
theorem frzAll_ok {gl : List (Nat × List D)} {M0 S0 : Nat → Prop} {w0 : Base} {N : Nat} {adr : Env} {n : Nat} {a : Act} {w : World} : ∀ {ks : List Nat} {fr : List (Nat × V)} {L : List (Nat × Blk)} {K : List (Nat × V) → List (Nat × Blk) → Prop}, frzAll ks fr L K → Ok gl M0 S0 w0 N adr fr L n a w → ∃ fr' L', K fr' L' ∧ Ok gl M0 S0 w0 N adr fr' L' n a w
  | [], fr, L, K, h, hx => ⟨fr, L, h, hx⟩
  | k :: r, fr, L, K, h, hx => by
    have h : (match look L k with
      | some (.rows z l _) => fF (frzF k z l fr) fun fr' => fBs (frzL k z l L) fun L' => frzAll r fr' L' K
      | _ => frzAll r fr L K) := h
    split at h
    · rename_i z l e hk
      rw [fF_eq, fBs_eq] at h
      exact frzAll_ok h (hx.freeze hk)
    · exact frzAll_ok h hx

/-! ### Contracts -/
def HasBody (P : Program) (g : Nat) : Prop := (P.funcs[g]?).map (fun fn => fn.name == "runtime.NumGoroutine" || fn.body.isNone) = some false
theorem HasBody.enters {P : Program} {g : Nat} (h : HasBody P g) (args : Array Value) (w : World) : (callFunc g args).run P w = .ok (.enter g args) w := by
  unfold HasBody at h
  cases hf : P.funcs[g]? with
  | none => simp [hf] at h
  | some fn =>
    simp only [hf, Option.map_some, Option.some.injEq, Bool.or_eq_false_iff] at h
    unfold callFunc
    simp only [Sem.run_bind, run_program, Result.andThen_ok, hf, h.1, h.2, Bool.false_eq_true, if_false, Sem.run_pure]
/-- The function is entered and does this; or it has no body, and gives it at once. -/
def Does (P : Program) (g : Nat) (args : Array Value) (w : World) (R : Ending → World → Prop) : Prop :=
  (HasBody P g ∧ Calls P g args w R) ∨ ∃ v w', (callFunc g args).run P w = .ok (.value v) w' ∧ R (.returned v) w'
theorem Does.mono {P : Program} {g : Nat} {args : Array Value} {w : World} {R R' : Ending → World → Prop} (h : Does P g args w R) (hr : ∀ e w', R e w' → R' e w') : Does P g args w R' := by
  rcases h with ⟨h1, h2⟩ | ⟨v, w', h1, h2⟩
  · exact .inl ⟨h1, h2.mono hr⟩
  · exact .inr ⟨v, w', h1, hr _ _ h2⟩
/-- A function of data: called with what such data stand for it returns what this stands for, and turns nothing that was there. -/
def FnP (P : Program) (gl : List (Nat × List D)) (g : Nat) (ds : List D) (r : D) : Prop :=
  ∀ (w : World) (M : Nat → Prop) (xs : List Value), (∀ b, M b → b < w.heap.size) → Glob gl M w → DenL M w ds xs → Does P g xs.toArray w fun e w' => Evo (fun _ => False) w w' ∧ ∃ x, e = .returned x ∧ DenD M w' r x
inductive Ret where
  | ret (v : V)
  | panic (c : C)
def RetOk (adr : Env) (M : Nat → Prop) (w : World) : Ret → Ending → Prop
  | .ret v, e => ∃ x, e = .returned x ∧ DenV adr M w v x
  | .panic c, e => ∃ x, e = .panicked [{ v := x, recovered := false }] ∧ DenC adr M w c x
def Trk (adr : Env) (H : List (Nat × Blk)) (b : Nat) : Prop := ∃ k B m, look H k = some B ∧ adr k = some (some b, m)
/-- A function that is handed blocks: H before, H' behind; names from n on are new, up to n'; the rows of the names mv may lie elsewhere behind it. -/
def Fn (P : Program) (gl : List (Nat × List D)) (g : Nat) (vs : List V) (H : List (Nat × Blk)) (n : Nat) (r : Ret) (H' : List (Nat × Blk)) (n' : Nat) (mv : List Nat) : Prop :=
  n ≤ n' ∧ (∀ k B, look H' k = some B → k < n → (look H k).isSome = true) ∧ (∀ k ∈ mv, (look H k).isSome = true) ∧ ∀ (w : World) (M0 : Nat → Prop) (adr : Env) (xs : List Value), WOk M0 adr H n w → Glob gl (Mut M0 adr H) w → All2 (DenV adr (Mut M0 adr H) w) vs xs →
    Does P g xs.toArray w fun e w' => ∃ adr' : Env, Evo (Trk adr H) w w' ∧ WOk M0 adr' H' n' w' ∧ (∀ k, k < n → k ∉ mv → adr' k = adr k) ∧ (∀ k B b m, look H' k = some B → adr' k = some (some b, m) → Trk adr H b ∨ w.heap.size ≤ b) ∧ RetOk adr' (Mut M0 adr' H') w' r e

/-! ### Arguments lent -/
def isDC : C → Bool
  | .d _ => true
  | .all _ _ => true
  | .own _ _ _ _ => true
  | .fn _ [] => true
  | .ptr _ _ => true
  | _ => false
def isDL : List C → Bool
  | [] => true
  | c :: r => match isDC c with | true => isDL r | false => false
def isDV : V → Bool
  | .c c => isDC c
  | .agg l => isDL l
  | .tup _ => false
def isDVs : List V → Bool
  | [] => true
  | s :: r => match isDV s with | true => isDVs r | false => false
def lendC (L : List (Nat × Blk)) (c : C) (K : D → List Nat → Prop) : Prop :=
  match c with
  | .d x => K x []
  | .all z k => match look L k with
    | some (.rows z' l _) => onB (Nat.beq z' z) (K (.lst z' l) [k])
    | _ => False
  | .own z k i q => match look L k with
    | some (.rows z' l _) => onB (Nat.beq z' z) (i + q ≤ l.length ∧ K (.lst z' ((l.drop i).take q)) [k])
    | _ => False
  | .fn f [] => K (.v (.func (.func f) #[] #[])) []
  | .ptr k o => match look L k with
    | some (.var l _) => match dsOf (l.drop o) with
      | some ds => K (.imm ds) [k]
      | none => False
    | _ => False
  | _ => False
def lendL (L : List (Nat × Blk)) (l : List C) : (List D → List Nat → Prop) → Prop :=
  List.rec (motive := fun _ => (List D → List Nat → Prop) → Prop) (fun K => K [] []) (fun c _ ih K => lendC L c fun d ks => ih fun ds ks' => K (d :: ds) (ks ++ ks')) l
theorem lendL_cons (L : List (Nat × Blk)) (c : C) (r : List C) (K : List D → List Nat → Prop) : lendL L (c :: r) K = lendC L c fun d ks => lendL L r fun ds ks' => K (d :: ds) (ks ++ ks') := rfl
def lendV (L : List (Nat × Blk)) (s : V) (K : D → List Nat → Prop) : Prop :=
  match s with
  | .c c => lendC L c K
  | .agg l => lendL L l fun ds ks => K (.agg ds) ks
  | .tup _ => False
def lendVs (L : List (Nat × Blk)) (l : List V) : (List D → List Nat → Prop) → Prop :=
  List.rec (motive := fun _ => (List D → List Nat → Prop) → Prop) (fun K => K [] []) (fun s _ ih K => lendV L s fun d ks => ih fun ds ks' => K (d :: ds) (ks ++ ks')) l
theorem lendVs_cons (L : List (Nat × Blk)) (c : V) (r : List V) (K : List D → List Nat → Prop) : lendVs L (c :: r) K = lendV L c fun d ks => lendVs L r fun ds ks' => K (d :: ds) (ks ++ ks') := rfl
section
variable {M0 : Nat → Prop} {adr : Env} {L : List (Nat × Blk)} {n : Nat} {w : World}
/-- Those names' blocks are not among them. -/
def Spares (adr : Env) (ks : List Nat) (M' : Nat → Prop) : Prop := ∀ k ∈ ks, ∀ b m, adr k = some (some b, m) → ¬ M' b
theorem lendC_ok {c : C} {K : D → List Nat → Prop} (h : lendC L c K) : ∃ d ks, K d ks ∧ ∀ (M0 : Nat → Prop) (adr : Env) (n : Nat) (w : World) (x : Value) (M' : Nat → Prop), WOk M0 adr L n w → DenC adr (Mut M0 adr L) w c x → (∀ b, b < w.heap.size → M' b → Mut M0 adr L b) → Spares adr ks M' → DenD M' w d x := by
  unfold lendC at h
  split at h
  · exact ⟨_, _, h, fun M0 adr n w x M' hw hd hM _ => DenD.less hM hd⟩
  · rename_i z k
    split at h
    · rename_i z' l e hk
      obtain ⟨hz, hK⟩ := onB_ok h
      have hz := Nat.eq_of_beq_eq_true hz
      subst hz
      exact ⟨_, _, hK, fun M0 adr n w x M' hw hd hM hs => rows_lst hw hk hM (hs k (by simp)) hd⟩
    · exact h.elim
  · rename_i z k i q
    split at h
    · rename_i z' l e hk
      obtain ⟨hz, hle, hK⟩ := onB_ok h
      have hz := Nat.eq_of_beq_eq_true hz
      subst hz
      refine ⟨_, _, hK, fun M0 adr n w x M' hw hd hM hs => ?_⟩
      have hlen : ((l.drop i).take q).length = q := by simp; omega
      have hloc := hw.loc k _ hk
      rcases hd with ⟨rfl, h1, h2⟩ | ⟨_, h2, a, cp, hc, rfl⟩ | ⟨b, m, cp, cur, ee, f, h5, h6, h7, h8, h9, rfl⟩
      · subst h2; simp only [List.take_zero]; exact .lst0 _ _ _ (by simp [maxLen])
      · subst h2; simp only [List.take_zero]; exact .lst0 _ _ _ hc
      · have hfull := rows_lst hw hk hM (hs k (by simp)) (x := .slice (some ⟨b, 0, none⟩) m cp) (by
          refine .inr ⟨b, m, cp, cur, ee, f, h5, h6, h7, ?_, h9, rfl⟩
          rw [h5] at hloc
          obtain ⟨g1, g2, g3, cur', cp', g4, g5, g6, g7, g8⟩ := hloc
          rw [h6] at g4; cases g4
          have : cp * z' = cp' * z' := by omega
          have := Nat.eq_of_mul_eq_mul_right g1 this
          omega)
        rw [h5] at hloc
        obtain ⟨g1, g2, g3, cur', cp', g4, g5, g6, g7, g8⟩ := hloc
        subst g2
        have hget : ∀ i' j d, get2 ((l.drop i).take q) i' j = some d → get2 l (i + i') j = some d := by
          intro i' j d hg
          simp only [get2, Option.bind_eq_some_iff, List.getElem?_drop, List.getElem?_take] at hg ⊢
          obtain ⟨r, hr1, hr2⟩ := hg
          split at hr1
          · exact ⟨r, hr1, hr2⟩
          · cases hr1
        rcases Nat.eq_zero_or_pos q with h0 | h0
        · subst h0; simp only [List.take_zero]; exact .lst0 _ _ _ (by omega)
        · cases hfull with
          | lst0 => simp at hle; omega
          | lst _ _ _ _ _ cs hb hMb hl hc hlz hcell hden =>
            have key : DenD M' w (.lst z' ((l.drop i).take q)) (.slice (some ⟨b, i * z', none⟩) ((l.drop i).take q).length (cp - i)) := by
              refine DenD.lst z' _ b (i * z') (cp - i) (fun i' j => cs (i + i') j) hb hMb (by rw [hlen]; omega) (by omega) (fun e he => g3 e (List.mem_of_mem_drop (List.mem_of_mem_take he))) (fun i' j d hg => ?_) (fun i' j d hg => hden _ _ _ (hget i' j d hg))
              have := hcell (i + i') j d (hget i' j d hg)
              rw [Nat.add_mul] at this
              simpa [Nat.add_assoc] using this
            rw [hlen] at key
            exact key
    · exact h.elim
  · refine ⟨_, _, h, fun M0 adr n w x M' hw hd hM _ => ?_⟩
    obtain ⟨xs, rfl, h1⟩ := hd
    rw [All2.nil_iff] at h1
    subst h1
    exact .v _
  · rename_i k o
    split at h
    · rename_i l t hk
      split at h
      · rename_i ds hds
        refine ⟨_, _, h, fun M0 adr n w x M' hw hd hM hs => ?_⟩
        obtain ⟨b, m, ha, rfl⟩ := hd
        have hloc := hw.loc k _ hk
        rw [ha] at hloc
        obtain ⟨xs, e1, e2⟩ := hloc
        have e3 := All2.drop o e2
        rw [dsOf_ok hds] at e3
        have e4 : DenL (Mut M0 adr L) w ds (xs.drop o) := (All2.map_left (R := DenC adr (Mut M0 adr L) w) (f := C.d)).1 e3
        refine DenD.imm ds b o (fun j => (xs.drop o).getD j undef) (Array.getElem?_eq_some_iff.1 e1).1 (hs k (by simp) b m ha) (fun j d hj => ?_) (fun j d hj => ?_)
        · obtain ⟨x, hx1, _⟩ := All2.get e4 hj
          simp only [List.getD, hx1, Option.getD_some]
          rw [List.getElem?_drop] at hx1
          simp [World.cell?, e1, hx1]
        · obtain ⟨x, hx1, hx2⟩ := All2.get e4 hj
          simp only [List.getD, hx1, Option.getD_some]
          exact hx2.less hM
      · exact h.elim
    · exact h.elim
  · exact h.elim
theorem Spares.left {ks ks' : List Nat} {M' : Nat → Prop} (h : Spares adr (ks ++ ks') M') : Spares adr ks M' := fun k hk => h k (by simp [hk])
theorem Spares.right {ks ks' : List Nat} {M' : Nat → Prop} (h : Spares adr (ks ++ ks') M') : Spares adr ks' M' := fun k hk => h k (by simp [hk])
theorem lendL_ok : ∀ {l : List C} {K : List D → List Nat → Prop}, lendL L l K → ∃ ds ks, K ds ks ∧ ∀ (M0 : Nat → Prop) (adr : Env) (n : Nat) (w : World) (xs : List Value) (M' : Nat → Prop), WOk M0 adr L n w → DenCs adr (Mut M0 adr L) w l xs → (∀ b, b < w.heap.size → M' b → Mut M0 adr L b) → Spares adr ks M' → DenL M' w ds xs
  | [], K, h => ⟨_, _, h, fun M0 adr n w xs M' _ hd _ _ => by rw [DenCs, All2.nil_iff] at hd; subst hd; trivial⟩
  | c :: r, K, h => by
    obtain ⟨d, ks, h1, h2⟩ := lendC_ok (lendL_cons L c r K ▸ h)
    obtain ⟨ds, ks', hK, h3⟩ := lendL_ok h1
    refine ⟨_, _, hK, fun M0 adr n w xs M' hw hd hM hs => ?_⟩
    obtain ⟨x, xs', rfl, e1, e2⟩ := All2.cons_iff.1 hd
    exact ⟨h2 _ _ _ _ _ _ hw e1 hM hs.left, h3 _ _ _ _ _ _ hw e2 hM hs.right⟩
theorem lendV_ok {s : V} {K : D → List Nat → Prop} (h : lendV L s K) : ∃ d ks, K d ks ∧ ∀ (M0 : Nat → Prop) (adr : Env) (n : Nat) (w : World) (x : Value) (M' : Nat → Prop), WOk M0 adr L n w → DenV adr (Mut M0 adr L) w s x → (∀ b, b < w.heap.size → M' b → Mut M0 adr L b) → Spares adr ks M' → DenD M' w d x := by
  cases s with
  | c c => exact lendC_ok h
  | agg l =>
    obtain ⟨ds, ks, hK, h1⟩ := lendL_ok h
    refine ⟨_, _, hK, fun M0 adr n w x M' hw hd hM hs => ?_⟩
    obtain ⟨xs, rfl, e1⟩ := hd
    exact DenD.agg_mk (h1 _ _ _ _ _ _ hw e1 hM hs)
  | tup l => exact h.elim
theorem lendVs_ok : ∀ {l : List V} {K : List D → List Nat → Prop}, lendVs L l K → ∃ ds ks, K ds ks ∧ ∀ (M0 : Nat → Prop) (adr : Env) (n : Nat) (w : World) (xs : List Value) (M' : Nat → Prop), WOk M0 adr L n w → All2 (DenV adr (Mut M0 adr L) w) l xs → (∀ b, b < w.heap.size → M' b → Mut M0 adr L b) → Spares adr ks M' → DenL M' w ds xs
  | [], K, h => ⟨_, _, h, fun M0 adr n w xs M' _ hd _ _ => by rw [All2.nil_iff] at hd; subst hd; trivial⟩
  | c :: r, K, h => by
    obtain ⟨d, ks, h1, h2⟩ := lendV_ok (lendVs_cons L c r K ▸ h)
    obtain ⟨ds, ks', hK, h3⟩ := lendVs_ok h1
    refine ⟨_, _, hK, fun M0 adr n w xs M' hw hd hM hs => ?_⟩
    obtain ⟨x, xs', rfl, e1, e2⟩ := All2.cons_iff.1 hd
    exact ⟨h2 _ _ _ _ _ _ hw e1 hM hs.left, h3 _ _ _ _ _ _ hw e2 hM hs.right⟩
end
def flat1 : D → Bool
  | .v _ => true
  | .b _ _ => true
  | .str _ => true
  | _ => false
def flatL (f : D → Bool) : List D → Bool
  | [] => true
  | d :: r => match f d with | true => flatL f r | false => false
def flat2 : D → Bool
  | .agg l => flatL flat1 l
  | .ifc _ _ l => flatL flat1 l
  | d => flat1 d
def flatD : D → Bool
  | .tup l => flatL flat2 l
  | d => flat2 d
theorem flatL_mem {f : D → Bool} : ∀ {l : List D}, flatL f l = true → ∀ d ∈ l, f d = true
  | [], _, d, hd => by simp at hd
  | e :: r, h, d, hd => by
    simp only [flatL] at h
    cases he : f e with
    | false => rw [he] at h; cases h
    | true =>
      rw [he] at h
      rcases List.mem_cons.1 hd with rfl | hd
      · exact he
      · exact flatL_mem h d hd
theorem flat1_ok {M M' : Nat → Prop} {w : World} {d : D} {x : Value} (h : flat1 d = true) (hd : DenD M w d x) : DenD M' w d x := by
  cases hd <;> first | (cases h; done) | exact .v _ | exact .b _ _ | exact .str _
theorem flat2_ok {M M' : Nat → Prop} {w : World} {d : D} {x : Value} (h : flat2 d = true) (hd : DenD M w d x) : DenD M' w d x := by
  cases hd with
  | v => exact .v _
  | b => exact .b _ _
  | str => exact .str _
  | lst0 => cases h
  | lst => cases h
  | imm => cases h
  | tup => cases h
  | ifc1 t d x hd => exact .ifc1 t d x (flat1_ok (flatL_mem h d (by simp)) hd)
  | ifc2 t l xs hl hd => exact .ifc2 t l xs hl (fun j d x h1 h2 => flat1_ok (flatL_mem h d (List.mem_of_getElem? h1)) (hd j d x h1 h2))
  | agg l xs hl hd => exact .agg l xs hl (fun j d x h1 h2 => flat1_ok (flatL_mem h d (List.mem_of_getElem? h1)) (hd j d x h1 h2))
theorem flatD_ok {M M' : Nat → Prop} {w : World} {d : D} {x : Value} (h : flatD d = true) (hd : DenD M w d x) : DenD M' w d x := by
  cases d with
  | tup l =>
    obtain ⟨xs, rfl, h1⟩ := DenD.tup_inv hd
    exact DenD.tup_mk (All2.imp' (fun d hd' x hx => flat2_ok (flatL_mem h d hd') hx) h1)
  | _ => exact flat2_ok h hd
end Go.EYtbkhfmgdnnaaoaaGreatDoor
end

section
namespace Go.EYtbkhfmgdnnaaoaaGreatDoor
open Go Go.RowKit

def dropK (H : List (Nat × Blk)) : List (Nat × Blk) → List (Nat × Blk)
  | [] => []
  | (k, B) :: r => match look H k with
    | some _ => dropK H r
    | none => (k, B) :: dropK H r
theorem look_dropK {H : List (Nat × Blk)} : ∀ {L : List (Nat × Blk)} {k : Nat}, look (dropK H L) k = match look H k with | some _ => none | none => look L k
  | [], k => by simp only [dropK, look]; split <;> rfl
  | (j, B) :: r, k => by
    simp only [dropK]
    cases hj : look H j with
    | some B' =>
      simp only
      rw [look_dropK, look_cons]
      by_cases e : j = k
      · subst e; rw [hj]
      · rw [if_neg e]
    | none =>
      simp only
      rw [look_cons, look_cons, look_dropK]
      by_cases e : j = k
      · subst e; simp [hj]
      · rw [if_neg e, if_neg e]
theorem look_app {α : Type} : ∀ {A B : List (Nat × α)} {k : Nat}, look (A ++ B) k = match look A k with | some x => some x | none => look B k
  | [], B, k => rfl
  | (j, x) :: r, B, k => by
    rw [List.cons_append, look_cons, look_cons]
    by_cases e : j = k
    · rw [if_pos e, if_pos e]
    · rw [if_neg e, if_neg e, look_app]
def subH (H L : List (Nat × Blk)) : Prop := match H with
  | [] => True
  | (k, B) :: r => look L k = some B ∧ subH r L
theorem subH_ok {L : List (Nat × Blk)} : ∀ {H : List (Nat × Blk)} {k : Nat} {B : Blk}, subH H L → look H k = some B → look L k = some B
  | [], k, B, _, h => by cases h
  | (j, B') :: r, k, B, h, hl => by
    rw [look_cons] at hl
    by_cases e : j = k
    · rw [if_pos e] at hl; cases hl; rw [← e]; exact h.1
    · rw [if_neg e] at hl; exact subH_ok h.2 hl
section
variable {P : Program} {gl : List (Nat × List D)} {M0 S0 : Nat → Prop} {w0 : Base} {N : Nat} {adr : Env} {fr : List (Nat × V)} {L : List (Nat × Blk)} {n : Nat} {a : Act} {w : World}
/-- The blocks that a callee is not handed. -/
def Rest (M0 : Nat → Prop) (adr : Env) (L H : List (Nat × Blk)) (b : Nat) : Prop := M0 b ∨ ∃ k B m, look L k = some B ∧ look H k = none ∧ adr k = some (some b, m)
theorem mut_rest {H : List (Nat × Blk)} (hs : ∀ k B, look H k = some B → look L k = some B) : Mut (Rest M0 adr L H) adr H = Mut M0 adr L := by
  funext b
  apply propext
  constructor
  · rintro ((h | ⟨k, B, m, h1, h2, h3⟩) | ⟨k, B, m, h1, h2⟩)
    · exact .inl h
    · exact .inr ⟨k, B, m, h1, h3⟩
    · exact .inr ⟨k, B, m, hs k B h1, h2⟩
  · rintro (h | ⟨k, B, m, h1, h2⟩)
    · exact .inl (.inl h)
    · cases hk : look H k with
      | none => exact .inl (.inr ⟨k, B, m, h1, hk, h2⟩)
      | some B' => exact .inr ⟨k, B', m, hk, h2⟩
theorem WOk.part (h : WOk M0 adr L n w) {H : List (Nat × Blk)} (hs : ∀ k B, look H k = some B → look L k = some B) : WOk (Rest M0 adr L H) adr H n w := by
  refine ⟨fun k B hk => h.keys k B (hs k B hk), h.fresh, fun k B hk => ?_, fun k k' B B' b m m' h1 h2 h3 h4 => h.inj k k' B B' b m m' (hs _ _ h1) (hs _ _ h2) h3 h4, fun k B b m hk ha => ?_, fun b hb => ?_⟩
  · rw [mut_rest hs]; exact h.loc k B (hs k B hk)
  · rintro (h1 | ⟨j, B', m', h1, h2, h3⟩)
    · exact h.prot k B b m (hs k B hk) ha h1
    · have := h.inj k j B B' b m m' (hs k B hk) h1 ha h3
      subst this
      rw [hk] at h2; cases h2
  · rcases hb with h1 | ⟨j, B', m', h1, h2, h3⟩
    · exact h.bound b h1
    · exact h.lt h1 h3
/-- Behind a call. -/
theorem Ok.called (h : Ok gl M0 S0 w0 N adr fr L n a w) {H H' : List (Nat × Blk)} {n' : Nat} {mv : List Nat} {adr' : Env} {w' : World} (hs : ∀ k B, look H k = some B → look L k = some B) (hn : n ≤ n') (hkeys : ∀ k B, look H' k = some B → k < n → (look H k).isSome = true)
    (hE : Evo (Trk adr H) w w') (hW : WOk (Rest M0 adr L H) adr' H' n' w') (ha0 : ∀ k, k < n → k ∉ mv → adr' k = adr k) (hmv : ∀ k ∈ mv, (look H k).isSome = true) (hmf : ∀ t s, look fr t = some s → ∀ k ∈ mv, menV k s = false) (hml : ∀ k l t, look L k = some (.var l t) → look H k = none → ∀ c ∈ l, ∀ j ∈ mv, menC j c = false) (hmx : ∀ k ∈ w0.fx, k ∉ mv) (hnew : ∀ k B b m, look H' k = some B → adr' k = some (some b, m) → Trk adr H b ∨ w.heap.size ≤ b) :
    Ok gl M0 S0 w0 N adr' fr (H' ++ dropK H L) n' a w' ∧ Mut (Rest M0 adr L H) adr' H' = Mut M0 adr' (H' ++ dropK H L) := by
  have old : ∀ k e, k ∉ mv → adr k = some e → adr' k = some e := fun k e hk he => by
    rcases Nat.lt_or_ge k n with h1 | h1
    · rw [ha0 k h1 hk]; exact he
    · rw [h.wok.fresh k h1] at he; cases he
  have ha : ∀ k, k < n → look H k = none → adr' k = adr k := fun k hk hH => ha0 k hk fun hm => by
    have := hmv k hm; rw [hH] at this; cases this
  have lk : ∀ k B, look (H' ++ dropK H L) k = some B → look H' k = some B ∨ (look H' k = none ∧ look H k = none ∧ look L k = some B) := fun k B hl => by
    rw [look_app] at hl
    split at hl
    · exact .inl (by rw [← hl]; assumption)
    · rename_i h1
      rw [look_dropK] at hl
      split at hl
      · cases hl
      · rename_i h2; exact .inr ⟨h1, h2, hl⟩
  have lk2 : ∀ k B, look H k = none → look L k = some B → look (H' ++ dropK H L) k = some B := fun k B h1 h2 => by
    have hkn := h.wok.keys k B h2
    have h3 : look H' k = none := by
      cases hq : look H' k with
      | none => rfl
      | some B' => have := hkeys k B' hq hkn; rw [h1] at this; cases this
    rw [look_app, h3]
    simp only
    rw [look_dropK, h1]; exact h2
  have lk1 : ∀ k B, look H' k = some B → look (H' ++ dropK H L) k = some B := fun k B h1 => by rw [look_app, h1]
  have hmut : Mut (Rest M0 adr L H) adr' H' = Mut M0 adr' (H' ++ dropK H L) := by
    funext b
    apply propext
    constructor
    · rintro ((h1 | ⟨k, B, m, h1, h2, h3⟩) | ⟨k, B, m, h1, h2⟩)
      · exact .inl h1
      · exact .inr ⟨k, B, m, lk2 k B h2 h1, by rw [ha k (h.wok.keys k B h1) h2]; exact h3⟩
      · exact .inr ⟨k, B, m, lk1 k B h1, h2⟩
    · rintro (h1 | ⟨k, B, m, h1, h2⟩)
      · exact .inl (.inl h1)
      · rcases lk k B h1 with h3 | ⟨_, h4, h5⟩
        · exact .inr ⟨k, B, m, h3, h2⟩
        · refine .inl (.inr ⟨k, B, m, h5, h4, ?_⟩)
          rw [← ha k (h.wok.keys k B h5) h4]; exact h2
  have hM : ∀ b, b < w.heap.size → Mut M0 adr' (H' ++ dropK H L) b → Mut M0 adr L b := by
    rintro b hb (h1 | ⟨k, B, m, h1, h2⟩)
    · exact .inl h1
    · rcases lk k B h1 with h3 | ⟨_, h4, h5⟩
      · rcases hnew k B b m h3 h2 with ⟨j, B', m', h6, h7⟩ | h6
        · exact .inr ⟨j, B', m', hs j B' h6, h7⟩
        · omega
      · refine .inr ⟨k, B, m, h5, ?_⟩
        rw [← ha k (h.wok.keys k B h5) h4]; exact h2
  have hS : ∀ b, b < w.heap.size → Trk adr H b → Mut M0 adr L b := fun b _ ⟨j, B', m', h6, h7⟩ => .inr ⟨j, B', m', hs j B' h6, h7⟩
  refine ⟨h.move hE (fun b hb hT => ⟨hS b hb hT, ?_⟩) hM (fun t s hl => ⟨hl, fun k e hm he => old k e (fun hk => by have := hmf t s hl k hk; rw [this] at hm; cases hm) he⟩) ?_ ?_ (fun k hk hkn => ⟨by omega, ha0 k hkn (hmx k hk)⟩), hmut⟩
  · obtain ⟨j, B', m', h6, h7⟩ := hT
    exact h.new j B' b m' (hs j B' h6) h7
  · refine ⟨fun k B hl => ?_, hW.fresh, fun k B hl => ?_, fun k k' B B' b m m' h1 h2 h3 h4 => ?_, fun k B b m hl hab => ?_, fun b hb => Nat.lt_of_lt_of_le (h.wok.bound b hb) hE.size⟩
    · rcases lk k B hl with h1 | ⟨_, _, h1⟩
      · exact hW.keys k B h1
      · have := h.wok.keys k B h1; omega
    · rcases lk k B hl with h1 | ⟨_, h2, h1⟩
      · rw [← hmut]; exact hW.loc k B h1
      · have hkn := h.wok.keys k B h1
        rw [ha k hkn h2]
        refine (h.wok.loc k B h1).evo hE hS hM (fun b m he hb => hE.block b hb ?_) (fun l t hB c hc j e hm he => old j e (fun hj => by subst hB; have := hml k l t h1 h2 c hc j hj; rw [this] at hm; cases hm) he)
        rintro ⟨j, B', m', h6, h7⟩
        have := h.wok.inj k j B B' b m m' h1 (hs j B' h6) he h7
        subst this
        rw [h2] at h6; cases h6
    · have rest : ∀ k B m, look H k = none → look L k = some B → adr' k = some (some b, m) → Rest M0 adr L H b := fun k B m h1 h2 h3 => .inr ⟨k, B, m, h2, h1, by rw [← ha k (h.wok.keys k B h2) h1]; exact h3⟩
      rcases lk k B h1 with g1 | ⟨_, g2, g1⟩ <;> rcases lk k' B' h2 with g3 | ⟨_, g4, g3⟩
      · exact hW.inj k k' B B' b m m' g1 g3 h3 h4
      · exact absurd (rest k' B' m' g4 g3 h4) (hW.prot k B b m g1 h3)
      · exact absurd (rest k B m g2 g1 h3) (hW.prot k' B' b m' g3 h4)
      · have e1 := ha k (h.wok.keys k B g1) g2
        have e2 := ha k' (h.wok.keys k' B' g3) g4
        rw [e1] at h3; rw [e2] at h4
        exact h.wok.inj k k' B B' b m m' g1 g3 h3 h4
    · rcases lk k B hl with h1 | ⟨_, h2, h1⟩
      · intro hm; exact hW.prot k B b m h1 hab (.inl hm)
      · rw [ha k (h.wok.keys k B h1) h2] at hab; exact h.wok.prot k B b m h1 hab
  · intro k B b m hl hab
    rcases lk k B hl with h1 | ⟨_, h2, h1⟩
    · rcases hnew k B b m h1 hab with ⟨j, B', m', h6, h7⟩ | h6
      · exact h.new j B' b m' (hs j B' h6) h7
      · have := h.base.size; exact .inr (by omega)
    · rw [ha k (h.wok.keys k B h1) h2] at hab; exact h.new k B b m h1 hab
end

/-! ### Names that have moved -/
def killS (H : List (Nat × Blk)) (k : Nat) : List (Nat × Blk) → List (Nat × Blk)
  | [] => []
  | (j, B) :: r => (j, match look H j with | some _ => B | none => killB k B) :: killS H k r
theorem look_killS {H : List (Nat × Blk)} {k : Nat} : ∀ {L : List (Nat × Blk)} {j : Nat}, look (killS H k L) j = (look L j).map fun B => match look H j with | some _ => B | none => killB k B
  | [], j => rfl
  | (i, B) :: r, j => by
    simp only [killS]
    rw [look_cons, look_cons]
    by_cases e : i = j
    · subst e; rw [if_pos rfl, if_pos rfl]; rfl
    · rw [if_neg e, if_neg e, look_killS]
def killFs : List Nat → List (Nat × V) → List (Nat × V)
  | [], fr => fr
  | k :: r, fr => killFs r (killF k fr)
def killSs (H : List (Nat × Blk)) : List Nat → List (Nat × Blk) → List (Nat × Blk)
  | [], L => L
  | k :: r, L => killSs H r (killS H k L)
section
variable {gl : List (Nat × List D)} {M0 S0 : Nat → Prop} {w0 : Base} {N : Nat} {adr : Env} {fr : List (Nat × V)} {L H : List (Nat × Blk)} {n : Nat} {a : Act} {w : World}
theorem Ok.killOne (h : Ok gl M0 S0 w0 N adr fr L n a w) (H : List (Nat × Blk)) (k : Nat) : Ok gl M0 S0 w0 N adr (killF k fr) (killS H k L) n a w := by
  have lk : ∀ j B, look (killS H k L) j = some B → ∃ B0, look L j = some B0 ∧ (B = B0 ∨ B = killB k B0) := fun j B hl => by
    rw [look_killS] at hl
    obtain ⟨B0, h1, h2⟩ := Option.map_eq_some_iff.1 hl
    refine ⟨B0, h1, ?_⟩
    split at h2
    · exact .inl h2.symm
    · exact .inr h2.symm
  have lk' : ∀ j B0, look L j = some B0 → ∃ B, look (killS H k L) j = some B := fun j B0 hl => by rw [look_killS, hl]; exact ⟨_, rfl⟩
  have hm : Mut M0 adr (killS H k L) = Mut M0 adr L := by
    funext b
    apply propext
    constructor
    · rintro (h1 | ⟨j, B', m, h1, h2⟩)
      · exact .inl h1
      · obtain ⟨B0, h3, _⟩ := lk j B' h1; exact .inr ⟨j, B0, m, h3, h2⟩
    · rintro (h1 | ⟨j, B', m, h1, h2⟩)
      · exact .inl h1
      · obtain ⟨B, h3⟩ := lk' j B' h1; exact .inr ⟨j, B, m, h3, h2⟩
  have h' := h.fewer (fr' := killF k fr) (fun t s hl => by rcases look_killF hl with h1 | h1; exact .inl h1; exact .inr h1.1)
  refine ⟨h.size, h.defers, by rw [hm]; exact h'.fr, ⟨fun j B hl => ?_, h.wok.fresh, fun j B hl => ?_, fun j j' B1 B2 b m m' h1 h2 h3 h4 => ?_, fun j B b m hl ha => ?_, h.wok.bound⟩, by rw [hm]; exact h.glob, h.base, fun j B b m hl ha => ?_, h.same⟩
  · obtain ⟨B0, h1, _⟩ := lk j B hl; exact h.wok.keys j B0 h1
  · obtain ⟨B0, h1, h2⟩ := lk j B hl
    have hlo := h.wok.loc j B0 h1
    rw [hm]
    rcases h2 with rfl | rfl
    · exact hlo
    · cases B0 with
      | rows z l e => exact hlo
      | var l t =>
        cases hq : adr j with
        | none => rw [hq] at hlo; exact hlo.elim
        | some q =>
          obtain ⟨q1, q2⟩ := q
          cases q1 with
          | none => rw [hq] at hlo; exact hlo.elim
          | some b => rw [hq] at hlo; obtain ⟨xs, g2, g3⟩ := hlo; exact ⟨xs, g2, killC_den g3⟩
  · obtain ⟨C1, g1, _⟩ := lk _ _ h1
    obtain ⟨C2, g2, _⟩ := lk _ _ h2
    exact h.wok.inj j j' C1 C2 b m m' g1 g2 h3 h4
  · obtain ⟨B0, h1, _⟩ := lk j B hl; exact h.wok.prot j B0 b m h1 ha
  · obtain ⟨B0, h1, _⟩ := lk j B hl; exact h.new j B0 b m h1 ha
/-- Where a name is mentioned no more it comes to be mentioned nowhere by what is killed later. -/
def CleanF (k : Nat) (fr : List (Nat × V)) : Prop := ∀ t s, look fr t = some s → menV k s = false
def CleanL (H : List (Nat × Blk)) (k : Nat) (L : List (Nat × Blk)) : Prop := ∀ j l t, look L j = some (.var l t) → look H j = none → ∀ c ∈ l, menC k c = false
theorem cleanF_kill (k : Nat) (fr : List (Nat × V)) : CleanF k (killF k fr) := fun t s hl => by
  rcases look_killF hl with rfl | h1
  · rfl
  · exact h1.2
theorem CleanF.kill {k j : Nat} (h : CleanF k fr) : CleanF k (killF j fr) := fun t s hl => by
  rcases look_killF hl with rfl | h1
  · rfl
  · exact h t s h1.1
theorem menC_killC {k j : Nat} {c : C} (h : menC k c = false) : menC k (killC j c) = false := by
  unfold killC
  cases menC j c with
  | true => rfl
  | false => exact h
theorem cleanL_kill (H : List (Nat × Blk)) (k : Nat) (L : List (Nat × Blk)) : CleanL H k (killS H k L) := fun j l t hl hH c hc => by
  rw [look_killS] at hl
  obtain ⟨B0, h1, h2⟩ := Option.map_eq_some_iff.1 hl
  rw [hH] at h2
  simp only at h2
  cases B0 with
  | rows z l e => simp [killB] at h2
  | var l0 t0 => simp only [killB, Blk.var.injEq] at h2; rw [← h2.1] at hc; exact killC_clean hc
theorem CleanL.kill {k j : Nat} (h : CleanL H k L) : CleanL H k (killS H j L) := fun i l t hl hH c hc => by
  rw [look_killS] at hl
  obtain ⟨B0, h1, h2⟩ := Option.map_eq_some_iff.1 hl
  rw [hH] at h2
  simp only at h2
  cases B0 with
  | rows z l e => simp [killB] at h2
  | var l0 t0 =>
    simp only [killB, Blk.var.injEq] at h2
    rw [← h2.1] at hc
    obtain ⟨c', hc', rfl⟩ := List.mem_map.1 hc
    exact menC_killC (h i l0 t0 h1 hH c' hc')
theorem cleanF_more {k : Nat} : ∀ {ks : List Nat} {fr : List (Nat × V)}, CleanF k fr → CleanF k (killFs ks fr)
  | [], _, h => h
  | _ :: _, _, h => by rw [killFs]; exact cleanF_more h.kill
theorem cleanL_more {k : Nat} : ∀ {ks : List Nat} {L : List (Nat × Blk)}, CleanL H k L → CleanL H k (killSs H ks L)
  | [], _, h => h
  | _ :: _, _, h => by rw [killSs]; exact cleanL_more h.kill
theorem Ok.killAll : ∀ {ks : List Nat} {fr : List (Nat × V)} {L : List (Nat × Blk)}, Ok gl M0 S0 w0 N adr fr L n a w → Ok gl M0 S0 w0 N adr (killFs ks fr) (killSs H ks L) n a w ∧ (∀ k ∈ ks, CleanF k (killFs ks fr)) ∧ (∀ k ∈ ks, CleanL H k (killSs H ks L)) ∧ (∀ k B, look H k = some B → look (killSs H ks L) k = look L k)
  | [], fr, L, h => ⟨h, by simp, by simp, fun _ _ _ => rfl⟩
  | k :: ks, fr, L, h => by
    obtain ⟨h1, h2, h3, h4⟩ := Ok.killAll (ks := ks) (h.killOne H k)
    refine ⟨h1, fun j hj => ?_, fun j hj => ?_, fun j B hB => ?_⟩
    · rcases List.mem_cons.1 hj with rfl | hj
      · rw [killFs]; exact cleanF_more (cleanF_kill _ _)
      · exact h2 j hj
    · rcases List.mem_cons.1 hj with rfl | hj
      · rw [killSs]; exact cleanL_more (cleanL_kill _ _ _)
      · exact h3 j hj
    · rw [killSs, h4 j B hB, look_killS, hB]
      cases look L j <;> rfl
end

/-! ### The rules of calls -/
abbrev SK := List (Nat × V) → List (Nat × Blk) → Nat → Prop
def notIn (k : Nat) : List Nat → Bool
  | [] => true
  | j :: r => match Nat.beq j k with
    | true => false
    | false => notIn k r
theorem notIn_ok {k : Nat} : ∀ {l : List Nat}, notIn k l = true → k ∉ l
  | [], _ => by simp
  | j :: r, h => by
    simp only [notIn] at h
    split at h
    · cases h
    · rename_i hj
      have := Nat.ne_of_beq_eq_false hj
      intro hm
      rcases List.mem_cons.1 hm with h1 | h1
      · exact this h1.symm
      · exact notIn_ok h h1
def noneIn : List Nat → List Nat → Bool
  | [], _ => true
  | k :: r, l => match notIn k l with
    | true => noneIn r l
    | false => false
theorem noneIn_ok : ∀ {ks l : List Nat}, noneIn ks l = true → ∀ k ∈ ks, k ∉ l
  | [], _, _, k, hk => by simp at hk
  | j :: r, l, h, k, hk => by
    simp only [noneIn] at h
    split at h
    · rename_i hj
      rcases List.mem_cons.1 hk with rfl | h1
      · exact notIn_ok hj
      · exact noneIn_ok h k h1
    · cases h
def hcall (P : Program) (gl : List (Nat × List D)) (fx : List Nat) (g : Nat) (vs : List V) (fr : List (Nat × V)) (L : List (Nat × Blk)) (n : Nat) (k : V → SK) (kp : C → SK) : Prop :=
  ∃ H r H' n' mv, Fn P gl g vs H n r H' n' mv ∧ subH H L ∧ onB (noneIn mv fx) (match mv with
    | [] => (match r with
      | .ret v => fV v fun s => fBs (H' ++ dropK H L) fun L' => k s fr L' n'
      | .panic c => fC c fun c' => fBs (H' ++ dropK H L) fun L' => kp c' fr L' n')
    | mv => fF (killFs mv fr) fun fr' => fBs (H' ++ dropK H (killSs H mv L)) fun L' => match r with
      | .ret v => fV v fun s => k s fr' L' n'
      | .panic c => fC c fun c' => kp c' fr' L' n')
def pcall (P : Program) (gl : List (Nat × List D)) (g : Nat) (vs : List V) (fr : List (Nat × V)) (L : List (Nat × Blk)) (n : Nat) (k : V → SK) : Prop :=
  lendVs L vs fun ds ks => ∃ r, FnP P gl g ds r ∧ match ks with
    | [] => fV (vD r) fun s => k s fr L n
    | _ => onB (flatD r) (fV (vD r) fun s => k s fr L n)
def rCall (P : Program) (gl : List (Nat × List D)) (fx : List Nat) (g : Nat) (vs : List V) (fr : List (Nat × V)) (L : List (Nat × Blk)) (n : Nat) (k : V → SK) (kp : C → SK) : Prop :=
  match isDVs vs with
  | true => pcall P gl g vs fr L n k ∨ hcall P gl fx g vs fr L n k kp
  | false => hcall P gl fx g vs fr L n k kp
section
variable {P : Program} {gl : List (Nat × List D)} {M0 S0 : Nat → Prop} {w0 : Base} {N : Nat} {adr : Env} {fr : List (Nat × V)} {L : List (Nat × Blk)} {n : Nat} {a : Act} {w : World}
theorem Glob.less {M M' : Nat → Prop} (h : Glob gl M w) (hM : ∀ b, b < w.heap.size → M' b → M b) : Glob gl M' w := h.evo (Evo.refl (fun _ => False) w) (fun _ _ h => h.elim) hM
theorem pcall_ok {g : Nat} {vs : List V} {k : V → SK} (h : pcall P gl g vs fr L n k) (hx : Ok gl M0 S0 w0 N adr fr L n a w) {xs : List Value} (hd : All2 (DenV adr (Mut M0 adr L) w) vs xs) :
    Does P g xs.toArray w fun e w' => ∃ v x adr' fr' L' n', e = .returned x ∧ k v fr' L' n' ∧ Ok gl M0 S0 w0 N adr' fr' L' n' a w' ∧ DenV adr' (Mut M0 adr' L') w' v x := by
  obtain ⟨ds, ks, ⟨r, hF, hr⟩, hl⟩ := lendVs_ok h
  let M' : Nat → Prop := fun b => Mut M0 adr L b ∧ ¬ ∃ k ∈ ks, ∃ m, adr k = some (some b, m)
  have hM' : ∀ b, b < w.heap.size → M' b → Mut M0 adr L b := fun b _ hb => hb.1
  have hsp : Spares adr ks M' := fun k hk b m ha hb => hb.2 ⟨k, hk, m, ha⟩
  refine (hF w M' xs (fun b hb => hx.wok.mutLt hb.1) (hx.glob.less hM') (hl M0 adr n w xs M' hx.wok hd hM' hsp)).mono ?_
  rintro e w' ⟨hE, x, rfl, hv⟩
  split at hr
  · rw [fV_eq] at hr
    exact ⟨vD r, x, adr, fr, L, n, rfl, hr, hx.evo hE, vD_den (hv.less fun b _ hb => ⟨hb, fun ⟨k, hk, _⟩ => by simp at hk⟩)⟩
  · obtain ⟨hf, hr⟩ := onB_ok hr
    rw [fV_eq] at hr
    exact ⟨vD r, x, adr, fr, L, n, rfl, hr, hx.evo hE, vD_den (flatD_ok hf hv)⟩
theorem rCall_ok {g : Nat} {vs : List V} {k : V → SK} {kp : C → SK} (h : rCall P gl w0.fx g vs fr L n k kp) (hx : Ok gl M0 S0 w0 N adr fr L n a w) {xs : List Value} (hd : All2 (DenV adr (Mut M0 adr L) w) vs xs) :
    Does P g xs.toArray w fun e w' => (∃ v x adr' fr' L' n', e = .returned x ∧ k v fr' L' n' ∧ Ok gl M0 S0 w0 N adr' fr' L' n' a w' ∧ DenV adr' (Mut M0 adr' L') w' v x) ∨ (∃ c x adr' fr' L' n', e = .panicked [{ v := x, recovered := false }] ∧ kp c fr' L' n' ∧ Ok gl M0 S0 w0 N adr' fr' L' n' a w' ∧ DenC adr' (Mut M0 adr' L') w' c x) := by
  have hh : hcall P gl w0.fx g vs fr L n k kp → Does P g xs.toArray w fun e w' => (∃ v x adr' fr' L' n', e = .returned x ∧ k v fr' L' n' ∧ Ok gl M0 S0 w0 N adr' fr' L' n' a w' ∧ DenV adr' (Mut M0 adr' L') w' v x) ∨ (∃ c x adr' fr' L' n', e = .panicked [{ v := x, recovered := false }] ∧ kp c fr' L' n' ∧ Ok gl M0 S0 w0 N adr' fr' L' n' a w' ∧ DenC adr' (Mut M0 adr' L') w' c x) := by
    rintro ⟨H, r, H', n', mv, ⟨hn, hkeys, hmv, hF⟩, hsub, hr0⟩
    obtain ⟨hnx, hr⟩ := onB_ok hr0
    clear hr0
    have hmx : ∀ k ∈ w0.fx, k ∉ mv := fun k hk hm => noneIn_ok hnx k hm hk
    have hs : ∀ k B, look H k = some B → look L k = some B := fun k B => subH_ok hsub
    obtain ⟨hx2, hc1, hc2, hc3⟩ := hx.killAll (ks := mv) (H := H)
    have hs2 : ∀ k B, look H k = some B → look (killSs H mv L) k = some B := fun k B hk => by rw [hc3 k B hk]; exact hs k B hk
    refine (hF w (Rest M0 adr L H) adr xs (hx.wok.part hs) (by rw [mut_rest hs]; exact hx.glob) (by rw [mut_rest hs]; exact hd)).mono ?_
    rintro e w' ⟨adr', hE, hW, ha, hnew, hret⟩
    have hrest : Rest M0 adr L H = Rest M0 adr (killSs H mv L) H := by
      have lk : ∀ (ks : List Nat) (L : List (Nat × Blk)) j, (look (killSs H ks L) j).isSome = (look L j).isSome := fun ks => by
        induction ks with
        | nil => intro L j; rfl
        | cons k ks ih => intro L j; rw [killSs, ih, look_killS]; simp
      funext b
      apply propext
      constructor
      · rintro (h1 | ⟨j, B, m, h1, h2, h3⟩)
        · exact .inl h1
        · obtain ⟨B', hB'⟩ := Option.isSome_iff_exists.1 (show (look (killSs H mv L) j).isSome = true by rw [lk, h1]; rfl)
          exact .inr ⟨j, B', m, hB', h2, h3⟩
      · rintro (h1 | ⟨j, B, m, h1, h2, h3⟩)
        · exact .inl h1
        · obtain ⟨B', hB'⟩ := Option.isSome_iff_exists.1 (show (look L j).isSome = true by rw [← lk mv, h1]; rfl)
          exact .inr ⟨j, B', m, hB', h2, h3⟩
    rw [hrest] at hW hret
    obtain ⟨hok, hmut⟩ := hx2.called hs2 hn hkeys hE hW ha hmv (fun t s hl k hk => hc1 k hk t s hl) (fun j l t hl hH c hc k hk => hc2 k hk j l t hl hH c hc) hmx hnew
    have hr' : match r with
        | .ret v => k v (killFs mv fr) (H' ++ dropK H (killSs H mv L)) n'
        | .panic c => kp c (killFs mv fr) (H' ++ dropK H (killSs H mv L)) n' := by
      cases mv with
      | nil => cases r <;> simp only [fV_eq, fC_eq, fBs_eq] at hr <;> exact hr
      | cons q qs => cases r <;> simp only [fV_eq, fC_eq, fBs_eq, fF_eq] at hr <;> exact hr
    cases r with
    | ret v =>
      obtain ⟨x, rfl, hv⟩ := hret
      exact .inl ⟨v, x, adr', _, _, n', rfl, hr', hok, by rw [← hmut]; exact hv⟩
    | panic c =>
      obtain ⟨x, rfl, hv⟩ := hret
      exact .inr ⟨c, x, adr', _, _, n', rfl, hr', hok, by rw [← hmut]; exact hv⟩
  unfold rCall at h
  split at h
  · rcases h with h | h
    · exact (pcall_ok h hx hd).mono fun _ _ h => .inl h
    · exact hh h
  · exact hh h
end
end Go.EYtbkhfmgdnnaaoaaGreatDoor
end

section
namespace Go.EYtbkhfmgdnnaaoaaGreatDoor
open Go Go.RowKit

/-! ### The rules -/
def svals (gl : List (Nat × List D)) (fr : List (Nat × V)) : List Operand → Option (List V)
  | [] => some []
  | y :: r => match sval gl fr y, svals gl fr r with
    | some s, some l => some (s :: l)
    | _, _ => none
def rStore (L : List (Nat × Blk)) (c : C) (l : List C) (k : List (Nat × Blk) → Prop) : Prop :=
  match c with
  | .ptr j f => match look L j with
    | some (.var cells tb) => onB (Nat.ble (f + l.length) cells.length) (onB (oneL l) (fL (over cells f l) fun cells' => setLK L j (.var cells' tb) k))
    | _ => False
  | .elt z j i f => match look L j with
    | some (.rows z' rows e) => match dsOf l with
      | some ds => onB (Nat.beq z z') (onB (Nat.ble (f + ds.length) z) (onB (oneL l) (∃ r, rows[i]? = some r ∧ setLK L j (.rows z' (rows.set i (over r f ds)) e) k)))
      | none => False
    | _ => False
  | _ => False
/-- Rows that grow. -/
def rGrow (fx : List Nat) (te : TI) (kk : Nat) (l : List (List D)) (e : Nat) (rs : List (List D)) (fr : List (Nat × V)) (L : List (Nat × Blk)) (n : Nat) (k : V → SK) : Prop :=
  onB (notIn kk fx) ((allOne rs = true ∧ (l.length + rs.length) * te.bytes ≤ 140737488355328 ∧ l.length + rs.length ≤ maxLen) ∧
    fF (killF kk fr) fun fr' => fBs (killL kk (setL L kk (.rows te.size (l ++ rs) e))) fun L' => k (.c (.all te.size kk)) fr' L' n)
def rAppend (fx : List Nat) (te : TI) (e : Nat) (cx cy : C) (fr : List (Nat × V)) (L : List (Nat × Blk)) (n : Nat) (k : V → SK) : Prop :=
  onB (Nat.blt 0 te.size) (onRows L te.size cy fun rs => match cx with
  | .all z kk => onB (Nat.beq z te.size) (match look L kk with
    | some (.rows z' l e') => onB (Nat.beq z' te.size) (onB (Nat.beq e' e) (rGrow fx te kk l e rs fr L n k))
    | _ => False)
  | .own z kk i m => onB (Nat.beq z te.size) (onB (Nat.beq i 0) (match look L kk with
    | some (.rows z' l e') => onB (Nat.beq z' te.size) (onB (Nat.beq e' e) (m ≤ l.length ∧ rGrow fx te kk (l.take m) e rs fr L n k))
    | _ => False))
  | .d (.v (.slice none 0 0)) => rGrow fx te n [] e rs fr ((n, .rows te.size [] e) :: L) (n + 1) k
  | _ => False)
def denseB : Nat → List (Nat × Operand) → Bool
  | _, [] => true
  | n, (i, _) :: r => match Nat.beq n i with
    | true => denseB (n + 1) r
    | false => false
def rowsV : List V → Option (List (List D))
  | [] => some []
  | s :: r => match cellsOf s, rowsV r with
    | some l, some rs => match dsOf l with
      | some ds => some (ds :: rs)
      | none => none
    | _, _ => none
def eachLen (z : Nat) : List (List D) → Bool
  | [] => true
  | r :: l => match Nat.beq r.length z with
    | true => eachLen z l
    | false => false
def ownsVs : List V → List Nat
  | [] => []
  | s :: r => ownsV s ++ ownsVs r
/-- A function of data, the rows that it is handed being written no more. -/
def fcall (P : Program) (gl : List (Nat × List D)) (g : Nat) (vs : List V) (args : List Operand) (fr : List (Nat × V)) (L : List (Nat × Blk)) (n : Nat) (k : V → SK) : Prop :=
  frzAll (ownsVs vs) fr L fun fr' L' => match svals gl fr' args with
    | some vs' => pcall P gl g vs' fr' L' n k
    | none => False
def rBuildS (gl : List (Nat × List D)) (te : TI) (e len : Nat) (ps : List (Nat × Operand)) (rs : List (List D)) (q : Nat) (fr : List (Nat × V)) (L : List (Nat × Blk)) (n : Nat) (k : V → SK) : Prop :=
  onB (Nat.blt 0 te.size) (onB (denseB 0 ps) (onB (Nat.beq q len) (onB (Nat.blt 0 len) (onB (Nat.ble (len * te.size) 16777216) (onB (eachLen te.size rs)
          (k (.c (.all te.size n)) fr ((n, .rows te.size rs e) :: L) (n + 1)))))))
def xOp (P : Program) (gl : List (Nat × List D)) (tt : List (Nat × TI)) (fx : List Nat) (op : Op) (fr : List (Nat × V)) (L : List (Nat × Blk)) (n : Nat) (k : V → SK) (kp : C → SK) : Prop :=
  match op with
  | .box t y => onS (sval gl fr y) fun s => match cellsOf s with
    | some l => k (.c (.ptr n 0)) fr ((n, .var l t) :: L) (n + 1)
    | none => False
  | .alloc t => onT tt t fun ti => fL (ti.zero.map C.d) fun l => k (.c (.ptr n 0)) fr ((n, .var l t) :: L) (n + 1)
  | .store t y z => onC (sval gl fr y) fun c => onT tt t fun ti => onS (sval gl fr z) fun s => match cellsOf s with
    | some l => onB (Nat.beq l.length ti.size) (match c, dsOf l with
      | .elt _ _ _ _, none => frzAll (ownsCs l) fr L fun fr' L' => onC (sval gl fr' y) fun c' => onS (sval gl fr' z) fun s' => (match cellsOf s' with
        | some l' => onB (Nat.beq l'.length ti.size) (rStore L' c' l' fun L2 => k (.c (.d (.v undef))) fr' L2 n)
        | none => False)
      | _, _ => rStore L c l fun L' => k (.c (.d (.v undef))) fr L' n)
    | none => False
  | .buildSlice t len ps => onT tt t fun ti => match Nat.beq ti.kd 3, ti.el with
    | true, some e => onT tt e fun te => match svals gl fr (ps.toList.map (·.2)) with
      | some vs => match rowsV vs with
        | some rs => rBuildS gl te e len ps.toList rs vs.length fr L n k
        | none => frzAll (ownsVs vs) fr L fun fr' L' => match svals gl fr' (ps.toList.map (·.2)) with
          | some vs' => (match rowsV vs' with
            | some rs => rBuildS gl te e len ps.toList rs vs'.length fr' L' n k
            | none => False)
          | none => False
      | none => False
    | _, _ => False
  | .makeSlice t x y => onC (sval gl fr x) fun cx => onC (sval gl fr y) fun cy => onT tt t fun ti => match cx, cy with
    | .d (.v (.int _ a)), .d (.v (.int _ b)) => match Nat.beq ti.kd 3, ti.el with
      | true, some e => onT tt e fun te => onB (Nat.blt 0 te.size) ((0 ≤ a ∧ a ≤ b ∧ (te.bytes : Int) * b ≤ 281474976710656 ∧ b ≤ 9223372036854775807) ∧
          k (.c (.all te.size n)) fr ((n, .rows te.size (List.replicate a.toNat te.zero) e) :: L) (n + 1))
      | _, _ => False
    | _, _ => False
  | .convert s d x => onC (sval gl fr x) fun c => onT tt s fun ts => onT tt d fun td => match Nat.beq td.kd 3, td.el, c with
    | true, some e, .d (.str l) => onT tt e fun te => onB (Nat.beq ts.kd 2) (onB (match te.ik with | some k => ikeq k .u8 | none => false) (l.length ≤ maxLen ∧ k (.c (.d (.lst 1 (l.map u8D)))) fr L n))
    | _, _, _ => rConv L ts td (elTI tt ts) c fun s => k s fr L n
  | .call c => match c.callee with
    | .value f => onC (sval gl fr f) fun cf => match svals gl fr c.args.toList with
      | some vs => match cf with
        | .fn g [] => rCall P gl fx g vs fr L n k kp ∨ fcall P gl g vs c.args.toList fr L n k
        | .fn g cs => rCall P gl fx g (vs ++ cs.map fun p => V.c (.ptr p.1 p.2)) fr L n k kp
        | .d (.v (.func (.func g) ⟨[]⟩ ⟨[]⟩)) => rCall P gl fx g vs fr L n k kp ∨ fcall P gl g vs c.args.toList fr L n k
        | _ => False
      | none => False
    | .builtin .append => match c.args, c.argTypes with
      | ⟨[x, y]⟩, ⟨[t, t']⟩ => onC (sval gl fr x) fun cx => onC (sval gl fr y) fun cy => onT tt t fun ti => match Nat.beq t t', Nat.beq ti.kd 3, ti.el with
        | true, true, some e => onT tt e fun te => rAppend fx te e cx cy fr L n k
        | _, _, _ => False
      | _, _ => False
    | _ => pOp tt (sval gl fr) L op fun s => k s fr L n
  | .panic x => onC (sval gl fr x) fun c => onB (isIf c) (kp c fr L n)
  | op => pOp tt (sval gl fr) L op fun s => k s fr L n

/-! ### They hold -/
section
variable {P : Program} {gl : List (Nat × List D)} {tt : List (Nat × TI)} {M0 S0 : Nat → Prop} {w0 : Base} {N : Nat} {adr : Env} {fr : List (Nat × V)} {L : List (Nat × Blk)} {n : Nat} {a : Act} {w : World}
theorem svals_ok {M : Nat → Prop} (hf : FrOk adr M w fr a) (hg : Glob gl M w) : ∀ {ys : List Operand} {l : List V}, svals gl fr ys = some l → All2 (DenV adr M w) l (ys.map a.eval)
  | [], l, hl => by simp only [svals, Option.some.injEq] at hl; subst hl; trivial
  | y :: r, l, hl => by
    simp only [svals] at hl
    split at hl
    · rename_i s l' hs hr
      cases hl
      exact ⟨sval_ok hf hg hs, svals_ok hf hg hr⟩
    · cases hl
theorem Ok.sval (hx : Ok gl M0 S0 w0 N adr fr L n a w) {x : Operand} {s : V} (hs : sval gl fr x = some s) : DenV adr (Mut M0 adr L) w s (a.eval x) := sval_ok hx.fr hx.glob hs
theorem Ok.svals (hx : Ok gl M0 S0 w0 N adr fr L n a w) {ys : List Operand} {l : List V} (hl : svals gl fr ys = some l) : All2 (DenV adr (Mut M0 adr L) w) l (ys.map a.eval) := svals_ok hx.fr hx.glob hl
/-- What is asked behind an operation. -/
def After (gl : List (Nat × List D)) (M0 S0 : Nat → Prop) (w0 : Base) (N : Nat) (a : Act) (k : V → SK) (v : Value) (w' : World) : Prop :=
  ∃ s fr' L' n' adr', k s fr' L' n' ∧ Ok gl M0 S0 w0 N adr' fr' L' n' a w' ∧ DenV adr' (Mut M0 adr' L') w' s v
theorem caps_den {M : Nat → Prop} : ∀ {cs : List (Nat × Nat)} {xs : List Value}, All2 (DenP adr) cs xs → All2 (DenV adr M w) (cs.map fun p => V.c (.ptr p.1 p.2)) xs
  | [], [], _ => trivial
  | _ :: _, _ :: _, h => ⟨h.1, caps_den h.2⟩
  | [], _ :: _, h => h.elim
  | _ :: _, [], h => h.elim
theorem rStore_ok (hT : Fits P tt) {t : Nat} {ti : TI} (hti : look tt t = some ti) {c : C} {s : V} {l : List C} {k : List (Nat × Blk) → Prop} (h : rStore L c l k) (hx : Ok gl M0 S0 w0 N adr fr L n a w) (hl : cellsOf s = some l) (hlen : l.length = ti.size)
    {x u : Value} (hc : DenC adr (Mut M0 adr L) w c x) (hs : DenV adr (Mut M0 adr L) w s u) : ∃ w' L', (Instr.storeAt t x u).run P w = .ok () w' ∧ k L' ∧ Ok gl M0 S0 w0 N adr fr L' n a w' := by
  have hcs := cellsOf_ok hl hs
  unfold rStore at h
  split at h
  · rename_i j f
    split at h
    · rename_i cells tb hk
      obtain ⟨hle, h⟩ := onB_ok h
      obtain ⟨hone, h⟩ := onB_ok h
      rw [fL_eq, setLK_eq] at h
      have hle := Nat.le_of_ble_eq_true hle
      obtain ⟨b, m, ha, rfl⟩ := hc
      have hloc := hx.wok.loc j _ hk
      rw [ha] at hloc
      obtain ⟨xs, h1, h2⟩ := hloc
      have hl2 := All2.length h2
      have hl3 := All2.length hcs
      have hr := (hT t ti hti).store (w := w) (b := b) (o := f) (cur := xs) (v := u) (vs := u.cells.toList) h1 rfl (by omega) (by omega) (hcs.one hone)
      exact ⟨_, _, hr, h, hx.setVar hk ha h1 h2 hcs hle⟩
    · exact h.elim
  · rename_i z j i f
    split at h
    · rename_i z' rows e hk
      split at h
      · rename_i ds hds
        obtain ⟨hz, h1⟩ := onB_ok h
        obtain ⟨hle, h2⟩ := onB_ok h1
        obtain ⟨hone, r, hi, h3⟩ := onB_ok h2
        clear h h1 h2
        rw [setLK_eq] at h3
        have hz := Nat.eq_of_beq_eq_true hz
        subst hz
        have hle := Nat.le_of_ble_eq_true hle
        obtain ⟨b, m, ha, rfl⟩ := hc
        have hloc := hx.wok.loc j _ hk
        rw [ha] at hloc
        obtain ⟨g1, g2, g3, cur, cp, g4, g5, g6, g7, g8⟩ := hloc
        have hd := dsOf_ok hds
        subst hd
        have hden : DenL (Mut M0 adr L) w ds u.cells.toList := (All2.map_left (R := DenC adr (Mut M0 adr L) w) (f := C.d)).1 hcs
        have hl3 := All2.length hden
        have hil : i < rows.length := (List.getElem?_eq_some_iff.1 hi).1
        have hmul : i * z + z ≤ rows.length * z := by
          have : (i + 1) * z ≤ rows.length * z := Nat.mul_le_mul_right _ hil
          rw [Nat.add_mul] at this; omega
        have hmul2 : rows.length * z ≤ cp * z := Nat.mul_le_mul_right _ g6
        have hr := (hT t ti hti).store (w := w) (b := b) (o := i * z + f) (cur := cur.toList) (v := u) (vs := u.cells.toList) g4 rfl (by rw [← hl3]; simpa using hlen) (by simp; simp at hl3; omega) (hcs.one hone)
        exact ⟨_, _, hr, h3, hx.setElt hk ha g4 hi hden hle⟩
      · exact h.elim
    · exact h.elim
  · exact h.elim

theorem rGrow_ok {t ty e : Nat} {te : TI} (ht : P.underlying t = some (.slice e)) (he : FitsOne P e te) (hz : 0 < te.size) {kk : Nat} {l l0 rs : List (List D)} {k : V → SK} (hk : look L kk = some (.rows te.size l0 e)) (m : Nat) (hm : m ≤ l0.length) (hl : l = l0.take m)
    (h : rGrow w0.fx te kk l e rs fr L n k) (hx : Ok gl M0 S0 w0 N adr fr L n a w) {v x : Value} (hv : (v = .slice none 0 0 ∧ m = 0) ∨ ∃ b cap, adr kk = some (some b, l0.length) ∧ v = .slice (some ⟨b, 0, none⟩) m cap ∧ m ≤ cap ∧ ∃ cur f, w.heap[b]? = some (.cells cur e f) ∧ cur.size = cap * te.size ∧ cap ≤ maxLen)
    (hr : RowsAt (Mut M0 adr L) w te.size rs x) : ∃ v' w', (Builtin.append_ #[t, t] ty #[v, x]).run P w = .ok v' w' ∧ After gl M0 S0 w0 N a k v' w' := by
  obtain ⟨hfx, ⟨h1, h2, h3⟩, h0⟩ := onB_ok h
  rw [fF_eq, fBs_eq] at h0
  have hlen : l.length = m := by rw [hl]; simp; omega
  rw [hlen] at h2 h3
  obtain ⟨v', w', adr', e1, e2, e3⟩ := hx.append (ty := ty) (q := 0) ht he hz hk hm hv hr h1 h2 h3 (notIn_ok hfx)
  rw [← hl] at e2
  exact ⟨v', w', e1, _, _, _, _, adr', h0, e2, e3⟩

theorem rAppend_ok {t ty e : Nat} {te : TI} (ht : P.underlying t = some (.slice e)) (he : FitsOne P e te) {cx cy : C} {k : V → SK} (h : rAppend w0.fx te e cx cy fr L n k) (hx : Ok gl M0 S0 w0 N adr fr L n a w) {v x : Value}
    (hv : DenC adr (Mut M0 adr L) w cx v) (hy : DenC adr (Mut M0 adr L) w cy x) : ∃ v' w', (Builtin.append_ #[t, t] ty #[v, x]).run P w = .ok v' w' ∧ After gl M0 S0 w0 N a k v' w' := by
  obtain ⟨hz0, h0⟩ := onB_ok h
  clear h
  have hz : 0 < te.size := by simp [Nat.blt, Nat.ble_eq] at hz0; omega
  obtain ⟨rs, h, hrs⟩ := onRows_ok h0
  clear h0
  have hr := hrs M0 adr L n w x (fun _ _ h => h) hx.wok hy
  split at h
  · rename_i z kk
    obtain ⟨e1, h1⟩ := onB_ok h
    clear h
    have e1 := Nat.eq_of_beq_eq_true e1
    split at h1
    · rename_i z' l e' hk
      obtain ⟨e2, h2⟩ := onB_ok h1
      obtain ⟨e3, h3⟩ := onB_ok h2
      clear h1 h2
      have e2 := Nat.eq_of_beq_eq_true e2
      have e3 := Nat.eq_of_beq_eq_true e3
      subst e1; subst e2; subst e3
      refine rGrow_ok ht he hz hk l.length (Nat.le_refl _) (by simp) h3 hx ?_ hr
      have hloc := hx.wok.loc kk _ hk
      rcases hv with ⟨h5, rfl⟩ | ⟨b, m, cp, cur, ee, f, h5, h6, h7, h8, h9, rfl⟩
      · rw [h5] at hloc
        obtain ⟨_, h6, _⟩ := hloc
        subst h6; exact .inl ⟨rfl, rfl⟩
      · rw [h5] at hloc
        obtain ⟨g1, g2, g3, cur', cp', g4, g5, g6, g7, g8⟩ := hloc
        subst g2
        rw [h6] at g4; cases g4
        exact .inr ⟨b, cp, h5, rfl, h8, cur, _, h6, h7, h9⟩
    · exact h1.elim
  · rename_i z kk i m
    obtain ⟨e1, h1⟩ := onB_ok h
    obtain ⟨e0, h2⟩ := onB_ok h1
    clear h h1
    have e1 := Nat.eq_of_beq_eq_true e1
    have e0 := Nat.eq_of_beq_eq_true e0
    subst e0
    split at h2
    · rename_i z' l e' hk
      obtain ⟨e2, h3⟩ := onB_ok h2
      obtain ⟨e3, hm, h4⟩ := onB_ok h3
      clear h2 h3
      have e2 := Nat.eq_of_beq_eq_true e2
      have e3 := Nat.eq_of_beq_eq_true e3
      subst e1; subst e2; subst e3
      refine rGrow_ok ht he hz hk m hm rfl h4 hx ?_ hr
      have hloc := hx.wok.loc kk _ hk
      rcases hv with ⟨rfl, _, rfl⟩ | ⟨h0, _⟩ | ⟨b, q, cp, cur, ee, f, h5, h6, h7, h8, h9, rfl⟩
      · exact .inl ⟨rfl, rfl⟩
      · exact absurd rfl h0
      · rw [h5] at hloc
        obtain ⟨g1, g2, g3, cur', cp', g4, g5, g6, g7, g8⟩ := hloc
        subst g2
        rw [h6] at g4; cases g4
        exact .inr ⟨b, cp, h5, by simp, by omega, cur, _, h6, h7, h9⟩
    · exact h2.elim
  · obtain rfl := DenD.v_inv hv
    refine rGrow_ok (L := (n, .rows te.size [] e) :: L) ht he hz (by rw [look_cons, if_pos rfl]) 0 (Nat.zero_le _) (by simp) h (hx.pushNil e hz) (.inl ⟨rfl, rfl⟩) ?_
    refine hrs M0 _ _ _ w x (fun j B hj => ?_) (hx.pushNil e hz).wok (DenC.evo (Evo.refl (fun _ => False) w) (fun _ _ h => h.elim) (fun b hb hm => ?_) (fun j b _ hj => adrPush_old hx.wok.fresh hj) hy)
    · rw [look_cons, if_neg (fun e => by have := hx.wok.keys j B hj; omega)]; exact hj
    · rcases (mut_push hx.wok.fresh hx.wok.keys).1 hm with h1 | h1
      · exact h1
      · cases h1
  · exact h.elim

theorem dense_ok : ∀ {ps : List (Nat × Operand)} {i : Nat} (ρ : Operand → Value), denseB i ps = true → ps.map (fun p => (p.1, ρ p.2)) = (((ps.map fun p => ρ p.2).zipIdx i).map fun x => (x.2, x.1))
  | [], _, _, _ => rfl
  | (j, x) :: r, i, ρ, h => by
    simp only [denseB] at h
    split at h
    · rename_i hj
      have hj := Nat.eq_of_beq_eq_true hj
      subst hj
      simp only [List.map_cons, List.zipIdx_cons, dense_ok ρ h]
    · cases h
theorem rowsV_ok {M : Nat → Prop} : ∀ {vs : List V} {rs : List (List D)} {xs : List Value}, rowsV vs = some rs → All2 (DenV adr M w) vs xs → All2 (fun r v => DenL M w r v.cells.toList) rs xs
  | [], rs, xs, h, hd => by
    simp only [rowsV, Option.some.injEq] at h; subst h
    cases xs with
    | nil => trivial
    | cons _ _ => exact hd.elim
  | s :: r, rs, xs, h, hd => by
    cases xs with
    | nil => exact hd.elim
    | cons x xs =>
      simp only [rowsV] at h
      split at h
      · rename_i l rs' hl hr
        split at h
        · rename_i ds hds
          cases h
          have h1 := cellsOf_ok hl hd.1
          rw [dsOf_ok hds] at h1
          exact ⟨(All2.map_left (R := DenC adr M w) (f := C.d)).1 h1, rowsV_ok hr hd.2⟩
        · cases h
      · cases h
theorem eachLen_ok {z : Nat} : ∀ {l : List (List D)}, eachLen z l = true → ∀ r ∈ l, r.length = z
  | [], _, r, hr => by simp at hr
  | r' :: l, h, r, hr => by
    simp only [eachLen] at h
    split at h
    · rename_i hb
      rcases List.mem_cons.1 hr with rfl | hr
      · exact Nat.eq_of_beq_eq_true hb
      · exact eachLen_ok h r hr
    · cases h
theorem kd3 {t : Nat} {ti : TI} {e : Nat} (h : FitsOne P t ti) (h3 : Nat.beq ti.kd 3 = true) (hel : ti.el = some e) : P.underlying t = some (.slice e) := by
  obtain ⟨d, hd, _, _, _, _, hdel, hkd⟩ := h.desc
  rw [Nat.eq_of_beq_eq_true h3] at hkd
  rw [hel] at hdel
  cases d <;> simp [kdOf] at hkd
  simp only [elOf, Option.some.injEq] at hdel; subst hdel; exact hd
theorem zero_len {te : TI} {e : Nat} (he : FitsOne P e te) : te.zero.length = te.size := he.zlen

theorem xOp_ok (hT : Fits P tt) {o : Oper} {k : V → SK} {kp : C → SK} {K : Act → World → Prop} {Q : Exit → Act → World → Prop} (h : xOp P gl tt w0.fx o.op fr L n k kp) (hx : Ok gl M0 S0 w0 N adr fr L n a w)
    (hk : ∀ v w', After gl M0 S0 w0 N a k v w' → K (a.put o.dst v) w')
    (hp : ∀ c fr' L' n' adr' x w', kp c fr' L' n' → Ok gl M0 S0 w0 N adr' fr' L' n' a w' → DenC adr' (Mut M0 adr' L') w' c x → Q (.panic [{ v := x, recovered := false }]) a w') : o.wp P a w K Q := by
  obtain ⟨dst, op, ty, pos, after, guard⟩ := o
  have pcase : pOp tt (sval gl fr) L op (fun s => k s fr L n) → Oper.wp P ⟨dst, op, ty, pos, after, guard⟩ a w K Q := by
    intro h
    obtain ⟨s, hK, hg⟩ := pOp_ok (gl := gl) hT (o := ⟨dst, op, ty, pos, after, guard⟩) h
    obtain ⟨v, h1, h2⟩ := hg M0 adr L n w a.eval (fun _ _ h => h) hx.wok hx.glob (fun x _ s hs => hx.sval hs)
    unfold Oper.wp
    rw [h1, Oper.upon_value]
    exact hk v w ⟨s, fr, L, n, adr, hK, hx, h2⟩
  have call : ∀ (g : Nat) (vs : List V) (xs : List Value) (c : Call), rCall P gl w0.fx g vs fr L n k kp → All2 (DenV adr (Mut M0 adr L) w) vs xs → op = .call c → (execOp a.eval ⟨dst, op, ty, pos, after, guard⟩).run P w = (callFunc g xs.toArray).run P w → Oper.wp P ⟨dst, op, ty, pos, after, guard⟩ a w K Q := by
    intro g vs xs c hc hd _ he
    unfold Oper.wp
    rw [he]
    rcases rCall_ok hc hx hd with ⟨hB, hC⟩ | ⟨v, w', h1, h2⟩
    · rw [hB.enters, Oper.upon_enter]
      refine hC.mono fun e w' hret => ?_
      rcases hret with ⟨v, x, adr', fr', L', n', rfl, h1, h2, h3⟩ | ⟨c, x, adr', fr', L', n', rfl, h1, h2, h3⟩
      · exact hk x w' ⟨v, fr', L', n', adr', h1, h2, h3⟩
      · exact hp c fr' L' n' adr' x w' h1 h2 h3
    · rw [h1, Oper.upon_value]
      rcases h2 with ⟨v', x, adr', fr', L', n', e1, h1, h2, h3⟩ | ⟨c, x, adr', fr', L', n', e1, h1, h2, h3⟩
      · cases e1; exact hk v w' ⟨v', fr', L', n', adr', h1, h2, h3⟩
      · cases e1
  cases op with
  | box t y =>
    obtain ⟨s, hs, h⟩ := onS_ok h
    split at h
    · rename_i l hl
      have hd := cellsOf_ok hl (hx.sval hs)
      have hr : (Instr.box t (a.eval y)).run P w = .ok (.pointer (some ⟨w.heap.size, 0, none⟩)) (w.alloc (.cells (a.eval y).cells t (0, 0))) := by
        simp only [Instr.box, newVar, newRow, Sem.run_bind, run_newObj_alloc, Result.andThen_ok, Sem.run_pure]
      unfold Oper.wp execOp
      simp only [Sem.run_bind, hr, Result.andThen_ok, Sem.run_pure]
      rw [Oper.upon_value]
      have hpv := hx.pushVar t hd
      rw [Array.toArray_toList] at hpv
      exact hk _ _ ⟨_, _, _, _, _, h, hpv, w.heap.size, 0, by unfold adrPush; rw [if_pos rfl], rfl⟩
    · exact h.elim
  | alloc t =>
    obtain ⟨ti, hl, h⟩ := onT_ok h
    rw [fL_eq] at h
    obtain ⟨i, z, hq, _, _, hz, hzc⟩ := (hT t ti hl).infoE
    have hd : DenCs adr (Mut M0 adr L) w (ti.zero.map C.d) (ti.zero.map undD) := All2.map_left.2 ((hT t ti hl).zeroDen _ _)
    have hcells : z.cells = (ti.zero.map undD).toArray := by rw [← hzc]
    have hr : (Instr.alloc t true (.tuple #[])).run P w = .ok (.pointer (some ⟨w.heap.size, 0, none⟩)) (w.alloc (.cells (ti.zero.map undD).toArray t (0, 0))) := by
      simp only [Instr.alloc, zeroValue, typeInfo, Sem.run_bind, run_program, Result.andThen_ok, hq, hz, Sem.run_pure, newVar, newRow, run_newObj_alloc, hcells]
    unfold Oper.wp execOp
    simp only [Sem.run_bind, hr, Result.andThen_ok, Sem.run_pure]
    rw [Oper.upon_value]
    exact hk _ _ ⟨_, _, _, _, _, h, hx.pushVar t hd, w.heap.size, 0, by unfold adrPush; rw [if_pos rfl], rfl⟩
  | store t y z =>
    obtain ⟨c, hc, h⟩ := onC_ok h
    obtain ⟨ti, hl, h⟩ := onT_ok h
    obtain ⟨s, hs, h⟩ := onS_ok h
    split at h
    · rename_i l hcl
      obtain ⟨hlen, h0⟩ := onB_ok h
      clear h
      have fin : ∀ {fr' : List (Nat × V)} {L1 : List (Nat × Blk)} {c' : C} {s' : V} {l' : List C}, rStore L1 c' l' (fun L2 => k (.c (.d (.v undef))) fr' L2 n) → Ok gl M0 S0 w0 N adr fr' L1 n a w → sval gl fr' y = some (.c c') → sval gl fr' z = some s' → cellsOf s' = some l' → l'.length = ti.size → Oper.wp P ⟨dst, .store t y z, ty, pos, after, guard⟩ a w K Q := by
        intro fr' L1 c' s' l' h hx hc hs hcl hlen
        obtain ⟨w', L', h1, h2, h3⟩ := rStore_ok hT hl h hx hcl hlen (hx.sval hc) (hx.sval hs)
        unfold Oper.wp execOp
        simp only [Sem.run_bind, h1, Result.andThen_ok, Sem.run_pure]
        rw [Oper.upon_skip]
        exact hk _ _ ⟨_, _, _, _, _, h2, h3, .v _⟩
      split at h0
      · obtain ⟨fr', L', q1, hx'⟩ := frzAll_ok h0 hx
        obtain ⟨c', hc', q2⟩ := onC_ok q1
        obtain ⟨s', hs', q3⟩ := onS_ok q2
        split at q3
        · rename_i l' hcl'
          obtain ⟨hlen', q4⟩ := onB_ok q3
          exact fin q4 hx' hc' hs' hcl' (Nat.eq_of_beq_eq_true hlen')
        · exact q3.elim
      · exact fin h0 hx hc hs hcl (Nat.eq_of_beq_eq_true hlen)
    · exact h.elim
  | buildSlice t len ps =>
    obtain ⟨ti, hl, q1⟩ := onT_ok h
    clear h
    split at q1
    · rename_i e h3 hel
      obtain ⟨te, hle, q2⟩ := onT_ok q1
      clear q1
      have fin : ∀ {fr' : List (Nat × V)} {L1 : List (Nat × Blk)} {vs : List V} {rs : List (List D)}, svals gl fr' (ps.toList.map (·.2)) = some vs → rowsV vs = some rs → rBuildS gl te e len ps.toList rs vs.length fr' L1 n k → Ok gl M0 S0 w0 N adr fr' L1 n a w → Oper.wp P ⟨dst, .buildSlice t len ps, ty, pos, after, guard⟩ a w K Q := by
        intro fr' L1 vs rs hvs hrs h hx
        obtain ⟨g1, z1⟩ := onB_ok h
        obtain ⟨g2, z2⟩ := onB_ok z1
        obtain ⟨g3, z3⟩ := onB_ok z2
        obtain ⟨g4, z4⟩ := onB_ok z3
        obtain ⟨g5, z5⟩ := onB_ok z4
        obtain ⟨g6, hK⟩ := onB_ok z5
        clear h z1 z2 z3 z4 z5
        have g1 : 0 < te.size := by simp [Nat.blt, Nat.ble_eq] at g1; omega
        have g3 := Nat.eq_of_beq_eq_true g3
        have g4 : 0 < len := by simp [Nat.blt, Nat.ble_eq] at g4; omega
        have g5 := Nat.le_of_ble_eq_true g5
        have hden := hx.svals hvs
        have hlv := All2.length hden
        have hrow := rowsV_ok hrs hden
        have hrl := All2.length hrow
        have hz := eachLen_ok g6
        obtain ⟨cur, h1, h2⟩ := run_buildSlice_rows w (kd3 (hT t ti hl) h3 hel) (hT e te hle) g1 hrow hz (by rw [← hlv, g3]; exact g5) (by rw [← hlv, g3]; exact g4)
        have hmax : rs.length ≤ maxLen := by
          rw [hrl, ← hlv, g3]
          have : len ≤ len * te.size := Nat.le_mul_of_pos_right _ g1
          simp only [maxLen]; omega
        have hcl := All2.length h2
        rw [flatten_length hz] at hcl
        obtain ⟨e1, e2⟩ := hx.allNew (cap := rs.length) e g1 hz hmax (Nat.le_refl _) hcl.symm (by rw [List.take_of_length_le (by omega)]; exact h2)
        have hparts : (ps.map fun (i, x) => (i, a.eval x)) = ((((ps.toList.map (·.2)).map a.eval).zipIdx 0).map fun x => (x.2, x.1)).toArray := by
          apply Array.ext'
          have := dense_ok a.eval g2
          rw [List.map_map]
          simp only [Function.comp_def]
          rw [← this]
          simp
        have hlen : ((ps.toList.map (·.2)).map a.eval).length = len := by rw [← hlv, g3]
        rw [hlen] at h1
        unfold Oper.wp execOp
        simp only [hparts, Sem.run_bind, h1, Result.andThen_ok, Sem.run_pure]
        rw [Oper.upon_value]
        have hrlen : rs.length = len := by rw [hrl, ← hlv, g3]
        rw [hrlen] at e2 e1
        exact hk _ _ ⟨_, _, _, _, _, hK, e1, e2⟩
      split at q2
      · rename_i vs hvs
        split at q2
        · rename_i rs hrs
          exact fin hvs hrs q2 hx
        · obtain ⟨fr', L', q3, hx'⟩ := frzAll_ok q2 hx
          split at q3
          · rename_i vs' hvs'
            split at q3
            · rename_i rs hrs
              exact fin hvs' hrs q3 hx'
            · exact q3.elim
          · exact q3.elim
      · exact q2.elim
    · exact q1.elim
  | makeSlice t x y =>
    obtain ⟨cx, hcx, q1⟩ := onC_ok h
    obtain ⟨cy, hcy, q2⟩ := onC_ok q1
    obtain ⟨ti, hl, q3⟩ := onT_ok q2
    clear h q1 q2
    split at q3
    · rename_i k1 m1 k2 m2
      split at q3
      · rename_i e h3 hel
        obtain ⟨te, hle, q4⟩ := onT_ok q3
        obtain ⟨g1, ⟨g2, g3, g4, g5⟩, h⟩ := onB_ok q4
        clear q3 q4
        have g1 : 0 < te.size := by simp [Nat.blt, Nat.ble_eq] at g1; omega
        have ex := DenD.v_inv (hx.sval hcx)
        have ey := DenD.v_inv (hx.sval hcy)
        obtain ⟨i, z, hq, hsz, hby, hz, hzc⟩ := (hT e te hle).infoE
        have hr := run_make (P := P) w t e i z (kd3 (hT t ti hl) h3 hel) hq hz k1 k2 m1 m2 g2 g3 (by rw [hby]; exact g4) g5
        have hzs : z.cells.size = te.size := by rw [← Array.length_toList, hzc, List.length_map, (hT e te hle).zlen]
        have hrow : ∀ r ∈ List.replicate m1.toNat te.zero, r.length = te.size := fun r hr => by rw [List.eq_of_mem_replicate hr]; exact (hT e te hle).zlen
        have hm2 : m2.toNat ≤ maxLen := by simp only [maxLen]; omega
        have hden : DenL (Mut M0 adr L) w (List.replicate m1.toNat te.zero).flatten ((madeCells z.cells (m2.toNat * i.size)).toList.take (m1.toNat * te.size)) := by
          have := made_take (z := z.cells) (n := m1.toNat) (c := m2.toNat) (by omega)
          rw [hsz, ← hzs, this, hzc]
          clear this
          induction m1.toNat with
          | zero => trivial
          | succ q ih => rw [List.replicate_succ, List.replicate_succ, List.flatten_cons, List.flatten_cons]; exact All2.app ((hT e te hle).zeroDen _ _) ih
        obtain ⟨e1, e2⟩ := hx.allNew (l := List.replicate m1.toNat te.zero) (xs := (madeCells z.cells (m2.toNat * i.size)).toList) (cap := m2.toNat) e g1 hrow hm2 (by simp; omega) (by simp [size_madeCells, hsz]) (by simpa using hden)
        unfold Oper.wp execOp
        simp only [ex, ey, Sem.run_bind, hr, Result.andThen_ok, Sem.run_pure]
        rw [Oper.upon_value]
        rw [List.length_replicate] at e1 e2
        rw [Array.toArray_toList] at e1 e2
        exact hk _ _ ⟨_, _, _, _, _, h, e1, e2⟩
      · exact q3.elim
    · exact q3.elim
  | convert src d x =>
    obtain ⟨c, hc, q1⟩ := onC_ok h
    obtain ⟨ts, hl, q2⟩ := onT_ok q1
    obtain ⟨td, hl2, q3⟩ := onT_ok q2
    clear h q1 q2
    split at q3
    · rename_i e l h3 hel
      obtain ⟨te, hle, q4⟩ := onT_ok q3
      obtain ⟨g1, q5⟩ := onB_ok q4
      obtain ⟨g2, hlen, h'⟩ := onB_ok q5
      clear q3 q4 q5
      have hstr : P.underlying src = some .string := by
        obtain ⟨d, hd, _, _, _, _, _, hkd⟩ := (hT src ts hl).desc
        rw [Nat.eq_of_beq_eq_true g1] at hkd
        cases d <;> simp [kdOf] at hkd; exact hd
      have hu8 : P.underlying e = some (.int .u8) := by
        obtain ⟨de, ee, _, _, _, ike, _⟩ := (hT e te hle).desc
        cases hk : te.ik with
        | none => rw [hk] at g2; cases g2
        | some k =>
          rw [hk] at g2 ike
          obtain rfl := ikeq_ok g2
          cases de <;> simp only [ikOf, reduceCtorEq, Option.some.injEq] at ike
          subst ike; exact ee
      have ex := DenD.str_inv (hx.sval hc)
      obtain ⟨v, w', h1, h2, h3'⟩ := run_str_bytes w hstr (kd3 (hT d td hl2) h3 hel) hu8 (M := Mut M0 adr L) (fun b hb => hx.wok.mutLt hb) l hlen
      unfold Oper.wp execOp
      simp only [ex, Sem.run_bind, h1, Result.andThen_ok, Sem.run_pure]
      rw [Oper.upon_value]
      exact hk _ _ ⟨_, _, _, _, _, h', hx.evo h2, h3'⟩
    · refine pcase ?_
      show onC (sval gl fr x) _
      rw [hc]
      show onT tt src _
      unfold onT
      rw [hl]
      show match look tt d with | some ti => _ | none => False
      rw [hl2]
      exact q3
  | call c =>
    obtain ⟨callee, args, ats⟩ := c
    cases callee with
    | value f =>
      obtain ⟨cf, hcf, q1⟩ := onC_ok h
      clear h
      have plain : ∀ (g : Nat) (vs : List V), svals gl fr args.toList = some vs → a.eval f = .func (.func g) #[] #[] → (rCall P gl w0.fx g vs fr L n k kp ∨ fcall P gl g vs args.toList fr L n k) → Oper.wp P ⟨dst, .call ⟨.value f, args, ats⟩, ty, pos, after, guard⟩ a w K Q := by
        intro g vs hvs e1 h
        have he : (execOp a.eval ⟨dst, .call ⟨.value f, args, ats⟩, ty, pos, after, guard⟩).run P w = (callFunc g (args.toList.map a.eval).toArray).run P w := by
          unfold execOp
          simp only [resolve, e1, Deferred.ofValue, Sem.run_bind, Sem.run_pure, Result.andThen_ok, invoke, Array.empty_append, Array.append_empty]
          congr 2
          apply Array.ext'
          simp
        rcases h with h | h
        · exact call g _ (args.toList.map a.eval) ⟨.value f, args, ats⟩ h (hx.svals hvs) rfl he
        · obtain ⟨fr', L', q3, hx'⟩ := frzAll_ok h hx
          split at q3
          · rename_i vs' hvs'
            unfold Oper.wp
            rw [he]
            rcases pcall_ok q3 hx' (hx'.svals hvs') with ⟨hB, hC⟩ | ⟨v, w', h1, h2⟩
            · rw [hB.enters, Oper.upon_enter]
              refine hC.mono fun e w' hret => ?_
              obtain ⟨v, x, adr', fr', L', n', rfl, h1, h2, h3⟩ := hret
              exact hk x w' ⟨v, fr', L', n', adr', h1, h2, h3⟩
            · rw [h1, Oper.upon_value]
              obtain ⟨v', x, adr', fr', L', n', e1, h1, h2, h3⟩ := h2
              cases e1
              exact hk _ w' ⟨v', fr', L', n', adr', h1, h2, h3⟩
          · exact q3.elim
      split at q1
      · rename_i vs hvs
        have hden := hx.svals hvs
        have hf := hx.sval hcf
        split at q1
        · rename_i g
          obtain ⟨xs, e1, e2⟩ := hf
          rw [All2.nil_iff] at e2; subst e2
          exact plain g vs hvs e1 q1
        · rename_i g cs _
          obtain ⟨xs, e1, e2⟩ := hf
          refine call g _ (args.toList.map a.eval ++ xs) ⟨.value f, args, ats⟩ q1 (All2.app hden (caps_den e2)) rfl ?_
          unfold execOp
          simp only [resolve, e1, Deferred.ofValue, Sem.run_bind, Sem.run_pure, Result.andThen_ok, invoke, Array.empty_append]
          congr 2
          apply Array.ext'
          simp
        · rename_i g
          exact plain g vs hvs (DenD.v_inv hf) q1
        · exact q1.elim
      · exact q1.elim
    | builtin b =>
      cases b with
      | append =>
        simp only [xOp] at h
        split at h
        · rename_i x y t t'
          obtain ⟨cx, hcx, q1⟩ := onC_ok h
          obtain ⟨cy, hcy, q2⟩ := onC_ok q1
          obtain ⟨ti, hl, q3⟩ := onT_ok q2
          clear h q1 q2
          split at q3
          · rename_i e g1 g2 hel
            obtain ⟨te, hle, h⟩ := onT_ok q3
            clear q3
            have g1 := Nat.eq_of_beq_eq_true g1
            subst g1
            obtain ⟨v', w', h1, h2⟩ := rAppend_ok (ty := ty) (kd3 (hT t ti hl) g2 hel) (hT e te hle) h hx (hx.sval hcx) (hx.sval hcy)
            have h1' : (Builtin.append_ { toList := [t, t] } ty #[a.eval x, a.eval y]).run P w = .ok v' w' := h1
            unfold Oper.wp
            have : (execOp a.eval ⟨dst, .call ⟨.builtin .append, ⟨[x, y]⟩, ⟨[t, t]⟩⟩, ty, pos, after, guard⟩).run P w = .ok (.value v') w' := by
              simp [execOp, resolve, invoke, builtin, h1']
            rw [this, Oper.upon_value]
            exact hk _ _ h2
          · exact q3.elim
        · exact h.elim
      | _ => exact pcase h
    | invoke r m => exact pcase h
  | panic x =>
    obtain ⟨c, hc, h⟩ := onC_ok h
    obtain ⟨hi, h⟩ := onB_ok h
    have hd := hx.sval hc
    obtain ⟨t, u, e1⟩ := isIf_ok hi hd
    unfold Oper.wp
    have : (execOp a.eval ⟨dst, .panic x, ty, pos, after, guard⟩).run P w = .halt (.panic (a.eval x)) w := by
      simp [execOp, Instr.panic, e1, goPanic]
    rw [this, Oper.upon_panic]
    exact hp c fr L n adr _ w h hx hd
  | _ => exact pcase h
end
end Go.EYtbkhfmgdnnaaoaaGreatDoor
end
