/- Proved: small lemmas for the frames of the laws on values: a value opened, data that stand for it. No condition. -/
import Derived.Test.YtbkhfmgdnnaaoaaGreatDoorFk
import Derived.Test.YtbkhfmgdnnaaoaaGreatDoorVa
import Derived.ChangeMaps5
namespace Go.Proofs.YtbkhfmgdnnaaoaaGreatDoor
open Go Go.ChangeShapes Go.WideShapes Go.ChangeAt Go.RowKit Go.EYtbkhfmgdnnaaoaaGreatDoor
set_option linter.unusedVariables false
set_option maxRecDepth 100000
theorem glob_none {M : Nat → Prop} {w : World} : Glob [] M w := fun g l hl => by cases hl
theorem okI_of_wf {n : Int} (h : (Lit.int .i64 n).wf = true) : -9223372036854775808 ≤ n ∧ n ≤ 9223372036854775807 := by
  simp [Lit.wf, IntKind.min, IntKind.max, IntKind.signed, IntKind.bits] at h
  omega
theorem cellsOf9 : Tryz.prog.cellsOf 9 = 1 := by kernel_rfl
theorem cellsOf58 : Tryz.prog.cellsOf 23 = 3 := by kernel_rfl
theorem openValue {H : Type} {enc : TypeId × Value → H} {W : World} {base b0 : Nat} {sp : Nat → Bool} {hd : Bool} {v : Value} {d : DataW H} {p : List MemPlace} (hv : Value.okWide Tryz.prog W .any b0 23 v) (h : DataW.Trod enc Tryz.prog W base sp hd 23 v d p) :
    ∃ (k n : Int) (s : List UInt8), (-9223372036854775808 ≤ n ∧ n ≤ 9223372036854775807) ∧ v = .agg #[.int .i64 k, .int .i64 n, .string ⟨s.toArray⟩] ∧ d = .agg [.lit (.int .i64 k), .lit (.int .i64 n), .lit (.string s)] := by
  obtain ⟨cs, rfl, hsz⟩ := okWide_struct Tryz.underlying23 hv
  obtain ⟨l⟩ := cs
  match l, hsz.trans cellsOf58 with
  | [a, b, c], _ =>
    obtain ⟨f, hf⟩ := h
    obtain ⟨xs, n, _, hd', _, hlen, hg⟩ := DataW.trod_struct Tryz.underlying23 hf
    match xs, hlen with
    | [y0, y1, y2], _ =>
      have h0 := hg 0 _ rfl
      have h1 := hg 1 _ rfl
      have h2 := hg 2 _ rfl
      have h0 : DataW.trod enc Tryz.prog W base sp hd n 3 [a] = some y0 := by have h := h0; change DataW.trod enc Tryz.prog W base sp hd n 3 (List.take (Tryz.prog.cellsOf 3) [a, b, c]) = some y0 at h; rw [cellsOf3] at h; exact h
      have h1 : DataW.trod enc Tryz.prog W base sp hd n 3 [b] = some y1 := by have h := h1; change DataW.trod enc Tryz.prog W base sp hd n 3 (List.take (Tryz.prog.cellsOf 3) [b, c]) = some y1 at h; rw [cellsOf3] at h; exact h
      have h2 : DataW.trod enc Tryz.prog W base sp hd n 9 [c] = some y2 := by have h := h2; change DataW.trod enc Tryz.prog W base sp hd n 9 (List.take (Tryz.prog.cellsOf 9) [c]) = some y2 at h; rw [cellsOf9] at h; exact h
      obtain ⟨k, e0, x0, _⟩ := DataW.trod_int Tryz.underlying3 h0
      obtain ⟨m, e1, x1, hm⟩ := DataW.trod_int Tryz.underlying3 h1
      obtain ⟨s, e2, x2, _⟩ := DataW.trod_string Tryz.underlying9 h2
      cases e0; cases e1; cases e2
      subst x0 x1 x2
      refine ⟨k, m, s.data.toList, okI_of_wf hm, rfl, ?_⟩
      exact congrArg Prod.fst hd'
theorem sized_value {H : Type} {ts : List TypeId} {ds : List (DataW H)} {j : Nat} {a b : DataW H} {s : List UInt8} (h : (DataW.weightsEach Tryz.prog ts ds).all (· ≤ reachBytes) = true) (ht : ts[j]? = some 23) (hd : ds[j]? = some (.agg [a, b, .lit (.string s)])) : s.length ≤ reachBytes := by
  have := List.all_eq_true.1 h s.length (DataW.weights_mem_each ht hd _ (by
    simp only [DataW.weights, Tryz.underlying23]
    simp [DataW.weightsEach, DataW.weights]))
  simpa using this
theorem den_vl (M : Nat → Prop) (w : World) (k n : Int) (s : List UInt8) : DenD M w (vlD k n s) (.agg #[.int .i64 k, .int .i64 n, .string ⟨s.toArray⟩]) :=
  DenD.agg_mk (xs := [.int .i64 k, .int .i64 n, .string ⟨s.toArray⟩]) ⟨den_i _ _ _, den_i _ _ _, .str _, trivial⟩
end Go.Proofs.YtbkhfmgdnnaaoaaGreatDoor
