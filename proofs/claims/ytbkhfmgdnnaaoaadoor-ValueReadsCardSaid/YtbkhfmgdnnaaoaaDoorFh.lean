/- Proved: small lemmas for the frames of this family: the arguments opened, data that stand for them. No condition. -/
import Derived.Test.YtbkhfmgdnnaaoaaDoorRows
import Derived.Test.YtbkhfmgdnnaaoaaDoorTie
import Derived.Test.YtbkhfmgdnnaaoaaDoorCards
import Derived.Test.YtbkhfmgdnnaaoaaDoorEq
import Derived.Test.YtbkhfmgdnnaaoaaDoorPa
import Derived.ProofKit
import Derived.LaidLaws
import Derived.LaidHandle
import Derived.Lib.SmallJoins
import Derived.Deep.Fields
import Derived.Carry
import Derived.Lay
namespace Go.Proofs.YtbkhfmgdnnaaoaaDoor
open Go Go.ChangeShapes Go.WideShapes Go.ChangeAt Go.RowKit Go.EYtbkhfmgdnnaaoaaDoor
set_option linter.unusedVariables false
set_option maxRecDepth 100000
theorem Door.own : ownKnob Tryd.prog.godebug = none := by kernel_rfl
theorem Door.out : laidOutB Tryd.prog = true := by kernel_rfl
theorem Door.et : Tryd.prog.globalNamed "errors.errorType" = some 1 := by kernel_rfl
theorem Door.rt : (Tryd.prog.cutTypes.find? (·.1 == "internal/reflectlite.rtype")).map (·.2) = some 141 := by kernel_rfl
theorem Door.size : Tryd.prog.types.size = 231 := by kernel_rfl
theorem Door.oneRow : ((List.range 231).filter fun t => Tryd.prog.rowNamed t [101, 114, 114, 111, 114]) = [33] := by kernel_rfl
theorem Door.hh : typeHandle Tryd.prog 33 = .pointer (some ⟨10, 33, none⟩) := by kernel_rfl

/-- What the condition gives a walk: the variable's one cell. -/
theorem Door.handle {W : World} (h : laidMetH Tryd.prog Rows.addrShiftsRow.laid W) : W.cell? ⟨1, 0, none⟩ = some (.iface 141 (.agg #[.pointer (some ⟨10, 33, none⟩)])) := by
  have h' : laidMet Tryd.prog [] W ∧ handlesMet Tryd.prog Rows.addrShiftsRow.laid W := h
  obtain ⟨name, u, ty, e1, e2, e3, e4, e5⟩ := h'.2 _ (List.mem_singleton.2 rfl)
  have en : name = [101, 114, 114, 111, 114] := (Option.some.inj e1).symm
  subst en
  obtain rfl := Option.some.inj (Door.rt.symm.trans e2)
  have hm : ty ∈ (List.range 231).filter fun t => Tryd.prog.rowNamed t [101, 114, 114, 111, 114] := List.mem_filter.2 ⟨List.mem_range.2 (by rw [← Door.size]; exact e3), e4⟩
  rw [Door.oneRow] at hm
  obtain rfl := List.mem_singleton.1 hm
  rw [Door.hh] at e5
  simpa using World.var?_cell Door.et e5 0

/-! ### The arguments opened -/
section
variable {H : Type} {enc : TypeId × Value → H} {W : World} {base : Nat} {sp : Nat → Bool} {hd : Bool}
theorem cellsOf3 : Tryd.prog.cellsOf 3 = 1 := by kernel_rfl
theorem cellsOf4 : Tryd.prog.cellsOf 4 = 1 := by kernel_rfl
theorem cellsOf23 : Tryd.prog.cellsOf 23 = 2 := by kernel_rfl
theorem cellsOf25 : Tryd.prog.cellsOf 25 = 4 := by kernel_rfl
theorem cellsOf27 : Tryd.prog.cellsOf 27 = 4 := by kernel_rfl
theorem trodCell {f : Nat} {a b : Value} {x : DataW H × List MemPlace} (h : DataW.trod enc Tryd.prog W base sp hd f 23 [a, b] = some x) : ∃ c r : Int, a = .int .i64 c ∧ b = .int .i64 r := by
  obtain ⟨xs, n, _, _, _, hlen, hf⟩ := DataW.trod_struct Tryd.underlying23 h
  match xs, hlen with
  | [y0, y1], _ =>
    obtain ⟨c, hc, _⟩ := DataW.trod_int Tryd.underlying3 (hf 0 _ rfl)
    obtain ⟨r, hr, _⟩ := DataW.trod_int Tryd.underlying3 (hf 1 _ rfl)
    simp [cellsOf3] at hc hr
    exact ⟨c, r, hc, hr⟩
theorem openCell {v : Value} {d : DataW H} {p : List MemPlace} {b0 : Nat} (hv : Value.okWide Tryd.prog W .any b0 23 v) (h : DataW.Trod enc Tryd.prog W base sp hd 23 v d p) :
    ∃ c r : Int, v = .agg #[.int .i64 c, .int .i64 r] := by
  obtain ⟨cs, rfl, hsz⟩ := okWide_struct Tryd.underlying23 hv
  obtain ⟨l⟩ := cs
  match l, hsz.trans cellsOf23 with
  | [a, b], _ =>
    obtain ⟨f, hf⟩ := h
    obtain ⟨c, r, rfl, rfl⟩ := trodCell hf
    exact ⟨c, r, rfl⟩
theorem openRef {v : Value} {d : DataW H} {p : List MemPlace} {b0 : Nat} (hv : Value.okWide Tryd.prog W .any b0 25 v) (h : DataW.Trod enc Tryd.prog W base sp hd 25 v d p) :
    ∃ (c r : Int) (fc fr : Bool), v = .agg #[.int .i64 c, .int .i64 r, .bool fc, .bool fr] := by
  obtain ⟨cs, rfl, hsz⟩ := okWide_struct Tryd.underlying25 hv
  obtain ⟨l⟩ := cs
  match l, hsz.trans cellsOf25 with
  | [a, b, x, y], _ =>
    obtain ⟨f, hf⟩ := h
    obtain ⟨xs, n, _, _, _, hlen, hg⟩ := DataW.trod_struct Tryd.underlying25 hf
    match xs, hlen with
    | [y0, y1, y2], _ =>
      have h0 := hg 0 _ rfl
      have h1 := hg 1 _ rfl
      have h2 := hg 2 _ rfl
      have h0 : DataW.trod enc Tryd.prog W base sp hd n 23 [a, b] = some y0 := by have h := h0; change DataW.trod enc Tryd.prog W base sp hd n 23 (List.take (Tryd.prog.cellsOf 23) [a, b, x, y]) = some y0 at h; rw [cellsOf23] at h; exact h
      have h1 : DataW.trod enc Tryd.prog W base sp hd n 4 [x] = some y1 := by have h := h1; change DataW.trod enc Tryd.prog W base sp hd n 4 (List.take (Tryd.prog.cellsOf 4) [x, y]) = some y1 at h; rw [cellsOf4] at h; exact h
      have h2 : DataW.trod enc Tryd.prog W base sp hd n 4 [y] = some y2 := by have h := h2; change DataW.trod enc Tryd.prog W base sp hd n 4 (List.take (Tryd.prog.cellsOf 4) [y]) = some y2 at h; rw [cellsOf4] at h; exact h
      obtain ⟨c, r, rfl, rfl⟩ := trodCell h0
      obtain ⟨fc, hc, _⟩ := DataW.trod_bool Tryd.underlying4 h1
      obtain ⟨fr, hr, _⟩ := DataW.trod_bool Tryd.underlying4 h2
      cases hc; cases hr
      exact ⟨c, r, fc, fr, rfl⟩
theorem openBox {v : Value} {d : DataW H} {p : List MemPlace} {b0 : Nat} (hv : Value.okWide Tryd.prog W .any b0 27 v) (h : DataW.Trod enc Tryd.prog W base sp hd 27 v d p) :
    ∃ x0 y0 x1 y1 : Int, v = .agg #[.int .i64 x0, .int .i64 y0, .int .i64 x1, .int .i64 y1] := by
  obtain ⟨cs, rfl, hsz⟩ := okWide_struct Tryd.underlying27 hv
  obtain ⟨l⟩ := cs
  match l, hsz.trans cellsOf27 with
  | [a, b, x, y], _ =>
    obtain ⟨f, hf⟩ := h
    obtain ⟨xs, n, _, _, _, hlen, hg⟩ := DataW.trod_struct Tryd.underlying27 hf
    match xs, hlen with
    | [y0, y1], _ =>
      have h0 := hg 0 _ rfl
      have h1 := hg 1 _ rfl
      have h0 : DataW.trod enc Tryd.prog W base sp hd n 23 [a, b] = some y0 := by have h := h0; change DataW.trod enc Tryd.prog W base sp hd n 23 (List.take (Tryd.prog.cellsOf 23) [a, b, x, y]) = some y0 at h; rw [cellsOf23] at h; exact h
      have h1 : DataW.trod enc Tryd.prog W base sp hd n 23 [x, y] = some y1 := by have h := h1; change DataW.trod enc Tryd.prog W base sp hd n 23 (List.take (Tryd.prog.cellsOf 23) [x, y]) = some y1 at h; rw [cellsOf23] at h; exact h
      obtain ⟨c, r, rfl, rfl⟩ := trodCell h0
      obtain ⟨c', r', rfl, rfl⟩ := trodCell h1
      exact ⟨c, r, c', r', rfl⟩
end
theorem den_i (M : Nat → Prop) (w : World) (c : Int) : DenD M w (iD c) (.int .i64 c) := .v _
theorem den_t (M : Nat → Prop) (w : World) (b : Bool) : DenD M w (tD b) (.bool b) := by
  have := DenD.b (M := M) (w := w) (b = true) inferInstance
  rwa [show decide (b = true) = b by cases b <;> rfl] at this
theorem den_cell (M : Nat → Prop) (w : World) (c r : Int) : DenD M w (cellD c r) (.agg #[.int .i64 c, .int .i64 r]) :=
  DenD.agg_mk (xs := [.int .i64 c, .int .i64 r]) ⟨den_i _ _ _, den_i _ _ _, trivial⟩
theorem den_ref (M : Nat → Prop) (w : World) (c r : Int) (fc fr : Bool) : DenD M w (refD c r fc fr) (.agg #[.int .i64 c, .int .i64 r, .bool fc, .bool fr]) :=
  DenD.agg_mk (xs := [.int .i64 c, .int .i64 r, .bool fc, .bool fr]) ⟨den_i _ _ _, den_i _ _ _, den_t _ _ _, den_t _ _ _, trivial⟩
theorem den_box (M : Nat → Prop) (w : World) (a b c d : Int) : DenD M w (boxD a b c d) (.agg #[.int .i64 a, .int .i64 b, .int .i64 c, .int .i64 d]) :=
  DenD.agg_mk (xs := [.int .i64 a, .int .i64 b, .int .i64 c, .int .i64 d]) ⟨den_i _ _ _, den_i _ _ _, den_i _ _ _, den_i _ _ _, trivial⟩
/-- What a function of data does, called by the frame. -/
theorem FnP.calls {P : Program} {gl : List (Nat × List D)} {g : Nat} {ds : List D} {r : Value} {xs : List Value} {w : World} (h : FnP P gl g ds (.v r)) (hb : HasBody P g) (hg : Glob gl (fun _ => False) w) (hd : DenL (fun _ => False) w ds xs) :
    Calls P g xs.toArray w fun e w' => e = .returned r ∧ Below w.heap.size w w' := by
  rcases h w (fun _ => False) xs (fun _ h => h.elim) hg hd with ⟨_, h1⟩ | ⟨v, w', h1, h2⟩
  · refine h1.mono fun e w' ⟨h2, x, h3, h4⟩ => ?_
    rw [DenD.v_inv h4] at h3
    exact ⟨h3, h2.below⟩
  · rw [hb.enters] at h1; cases h1

theorem trodAll_below {H : Type} {enc : TypeId × Value → H} {P : Program} (hl : laidOutB P = true) {W W' : World} {sp : Nat → Bool} (hb : Below W.heap.size W W') : ∀ {ts : List TypeId} {vs : List Value} {ds : List (DataW H)} {ps : List MemPlace},
    (∀ t ∈ ts, P.readableRec t = true ∧ t < P.types.size) → DataW.TrodAll enc P W 0 (fun _ => true) true ts vs ds ps → (∀ x ∈ ps, x.block < W.heap.size) → (∀ x ∈ ps, sp x.block = true) → DataW.TrodAll enc P W' 0 sp true ts vs ds ps
  | [], _, _, _, _, h, _, _ => by
    obtain ⟨rfl, rfl, rfl⟩ := trodAll_nil h
    exact trodAll_mk0
  | t :: ts, _, _, _, hr, h, hlt, hs => by
    obtain ⟨v, vs, d, ds, p, q, rfl, rfl, rfl, h1, h2⟩ := trodAll_cons h
    exact trodAll_cons_mk (WideElems.Trod_stays hl (hr t (List.mem_cons_self ..)).1 (hr t (List.mem_cons_self ..)).2 h1 (fun x hx => hb.same (hlt x (List.mem_append_left _ hx))) (fun x hx => hs x (List.mem_append_left _ hx)))
      (trodAll_below hl hb (fun t ht => hr t (List.mem_cons_of_mem _ ht)) h2 (fun x hx => hlt x (List.mem_append_right _ hx)) (fun x hx => hs x (List.mem_append_right _ hx)))
end Go.Proofs.YtbkhfmgdnnaaoaaDoor
