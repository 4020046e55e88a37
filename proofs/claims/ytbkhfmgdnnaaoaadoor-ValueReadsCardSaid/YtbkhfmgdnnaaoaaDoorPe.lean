/- Proved: the law AddrShifts, called with any data, answers true. Condition: errors.errorType reads as laid. -/
import Derived.Test.YtbkhfmgdnnaaoaaDoorPd
namespace Go.Proofs.YtbkhfmgdnnaaoaaDoor
open Go Go.EYtbkhfmgdnnaaoaaDoor Go.RowKit
set_option maxRecDepth 100000
variable {gl : List (Nat × List D)}

def pairsL (c0 r0 : Int) (n k : Nat) : List (Int × Int) := (List.range k).flatMap fun (i : Nat) => (List.range n).map fun (j : Nat) => (c0 + j, r0 + i)
theorem rowsL_pairs (c0 r0 : Int) (n k : Nat) : rowsL c0 r0 n k = (pairsL c0 r0 n k).map rowD := by
  unfold rowsL pairsL partL
  rw [List.map_flatMap]
  simp [rowD, cellRow, Function.comp_def]
theorem pairsL_len (c0 r0 : Int) (n k : Nat) : (pairsL c0 r0 n k).length = k * n := by
  have := rowsL_len c0 r0 n k
  rwa [rowsL_pairs, List.length_map] at this
theorem Shift_s {c r : Int} {fc fr : Bool} {dc dr : Int} (h : shiftP c r fc fr dc dr) : FnP Tryd.prog gl 11 [refD c r fc fr, iD dc, iD dr] (.tup [refD (if fc = true then c else c + dc) (if fr = true then r else r + dr) fc fr, tD true]) := by
  have := Shift_d (gl := gl) c r fc fr dc dr; unfold shiftR at this; rwa [if_pos h] at this
theorem Shift_n {c r : Int} {fc fr : Bool} {dc dr : Int} (h : ¬ shiftP c r fc fr dc dr) : FnP Tryd.prog gl 11 [refD c r fc fr, iD dc, iD dr] (.tup [refD 0 0 false false, tD false]) := by
  have := Shift_d (gl := gl) c r fc fr dc dr; unfold shiftR at this; rwa [if_neg h] at this
theorem refShift_s {c r : Int} {fc fr : Bool} {dc dr : Int} (h : shiftP c r fc fr dc dr) : FnP Tryd.prog gl 10 [refD c r fc fr, iD dc, iD dr] (.tup [refD (if fc = true then c else c + dc) (if fr = true then r else r + dr) fc fr, tD true]) := by
  have := refShift_d (gl := gl) c r fc fr dc dr; unfold shiftR at this; rwa [if_pos h] at this
theorem refShift_n {c r : Int} {fc fr : Bool} {dc dr : Int} (h : ¬ shiftP c r fc fr dc dr) : FnP Tryd.prog gl 10 [refD c r fc fr, iD dc, iD dr] (.tup [refD 0 0 false false, tD false]) := by
  have := refShift_d (gl := gl) c r fc fr dc dr; unfold shiftR at this; rwa [if_neg h] at this
theorem Box_s {c r c' r' : Int} (h : okP c r) (h' : okP c' r') : FnP Tryd.prog gl 14 [cellD c r, cellD c' r'] (.tup [boxD (min c c') (min r r') (max c c') (max r r'), errD 0]) := by
  have := Box_d (gl := gl) c r c' r'; unfold boxR at this; rwa [if_pos ⟨h, h'⟩] at this
theorem Box_n {c r c' r' : Int} (h : ¬ (okP c r ∧ okP c' r')) : FnP Tryd.prog gl 14 [cellD c r, cellD c' r'] (.tup [boxD 0 0 0 0, errD 1]) := by
  have := Box_d (gl := gl) c r c' r'; unfold boxR at this; rwa [if_neg h] at this
theorem Cells_s {a b c d : Int} (h : boxP a b c d) : FnP Tryd.prog gl 18 [boxD a b c d] (.tup [.lst 2 ((pairsL a b (c - a + 1).toNat (d - b + 1).toNat).map rowD), errD 0]) := by
  have := Cells_d (gl := gl) a b c d; rw [if_pos h] at this; unfold cellsD at this; rwa [rowsL_pairs] at this
theorem Cells_n {a b c d : Int} (h : ¬ boxP a b c d) : FnP Tryd.prog gl 18 [boxD a b c d] (.tup [.lst 2 (([] : List (Int × Int)).map rowD), errD 1]) := by
  have := Cells_d (gl := gl) a b c d; rwa [if_neg h] at this
theorem refCells_s {a b c d : Int} (h : boxP a b c d) : FnP Tryd.prog gl 17 [boxD a b c d] (.lst 2 ((pairsL a b (c - a + 1).toNat (d - b + 1).toNat).map rowD)) := by
  have := refCells_d (gl := gl) a b c d h; unfold cellsD at this; rwa [rowsL_pairs] at this
theorem cells_len {a b c d : Int} (h : boxP a b c d) : (pairsL a b (c - a + 1).toNat (d - b + 1).toNat).length ≤ 9223372036854775806 := by
  rw [pairsL_len]
  obtain ⟨⟨h1, h2, h3, h4⟩, ⟨h5, h6, h7, h8⟩, h9, h10⟩ := h
  have : (d - b + 1).toNat * (c - a + 1).toNat ≤ 99 * 26 := Nat.mul_le_mul (by omega) (by omega)
  omega
theorem sameNil : FnP Tryd.prog gl 19 [.lst 2 [], .v (.slice none 0 0)] (.b True inferInstance) := by
  refine fnP_of_vc (nv := 9999) (cu := []) fits mixed Tryd.func19 rfl (by unfold HasBody; kernel_rfl) rfl ?_
  ((repeat' ((conv => whnf); (first | refine Fork.yes (by assumption) ?_ | refine Fork.no (by assumption) ?_ | refine Fork.nono (by assumption) ?_ | (refine Fork.yes ?_ ?_; focus (simp [andPD]; done)) | (refine Fork.no ?_ ?_; focus (simp [andPD]; done)) | refine Fork.neg (fun _ => ?_) (fun _ => ?_) | refine Fork.mk (fun _ => ?_) (fun _ => ?_)))); (all_goals (conv => whnf)))
  refine ⟨{ σ := Unit, fr := fun _ => [(5, .c (.d (iD 0)))], ks := [], L := fun _ => [], ex := 0, I := fun _ => True, μ := fun _ => 0 }, ⟨(), trivial, ?_⟩, fun _ _ => ?_⟩
  · ((repeat' first | exact rfl | ((conv => whnf); first | done | exact True.intro | exact Or.inr (Or.inl rfl) | exact Or.inr (Or.inr (Or.inl ⟨rfl, _, _, rfl, by omega⟩)) | refine And.intro ?_ ?_)); (all_goals (conv => whnf)))
  · ((repeat' ((conv => whnf); (first | refine Fork.yes (by assumption) ?_ | refine Fork.no (by assumption) ?_ | refine Fork.nono (by assumption) ?_ | (refine Fork.yes ?_ ?_; focus (simp [andPD]; done)) | (refine Fork.no ?_ ?_; focus (simp [andPD]; done)) | refine Fork.neg (fun _ => ?_) (fun _ => ?_) | refine Fork.mk (fun _ => ?_) (fun _ => ?_)))); (all_goals (conv => whnf)))
    exact LeD.bt trivial
theorem AddrShifts_d (c r dc dr c' r' x0 y0 x1 y1 : Int) (fc fr : Bool) (h : Go.EYtbkhfmgdnnaaoaaDoor.look gl 1 = some errT) :
    FnP Tryd.prog gl 3 [refD c r fc fr, iD dc, iD dr, cellD c' r', boxD x0 y0 x1 y1] (.v (.bool true)) := by
  by_cases h1 : shiftP c r fc fr dc dr <;> by_cases h2 : okP c r <;> by_cases h3 : okP c' r' <;> by_cases h4 : boxP x0 y0 x1 y1
  all_goals refine fnP_of_vc (nv := 9999) (cu := []) fits mixed Tryd.func3 rfl (by unfold HasBody; kernel_rfl) rfl ?_
  all_goals ((repeat' ((conv => whnf); first | (first | refine Fork.yes (by assumption) ?_ | refine Fork.no (by assumption) ?_ | refine Fork.nono (by assumption) ?_ | (refine Fork.yes ?_ ?_; focus (simp [andPD]; done)) | (refine Fork.no ?_ ?_; focus (simp [andPD]; done)) | refine Fork.neg (fun _ => ?_) (fun _ => ?_) | refine Fork.mk (fun _ => ?_) (fun _ => ?_)) | refine Or.inl (Or.inl (Exists.intro _ (And.intro (by first | exact refShift_s h1 | exact refShift_n h1 | exact Shift_s h1 | exact Shift_n h1 | exact In_d _ _ | exact Corners_d _ _ _ _ | exact Box_s h2 h3 | exact Box_n (fun hh => h2 hh.1) | exact Box_n (fun hh => h3 hh.2) | exact Error_d 0 _ h | exact Error_d 1 _ h | exact refBoxed_d _ _ _ _ | exact refCells_s h4 | exact Cells_s h4 | exact Cells_n h4 | exact sameCells_d _ _ (cells_len h4) | exact sameNil | exact Less_d _ _ _ _ | exact Ahead_d _ _ _ _) ?_))) | refine Exists.intro _ (And.intro (by first | exact refShift_s h1 | exact refShift_n h1 | exact Shift_s h1 | exact Shift_n h1 | exact In_d _ _ | exact Corners_d _ _ _ _ | exact Box_s h2 h3 | exact Box_n (fun hh => h2 hh.1) | exact Box_n (fun hh => h3 hh.2) | exact Error_d 0 _ h | exact Error_d 1 _ h | exact refBoxed_d _ _ _ _ | exact refCells_s h4 | exact Cells_s h4 | exact Cells_n h4 | exact sameCells_d _ _ (cells_len h4) | exact sameNil | exact Less_d _ _ _ _ | exact Ahead_d _ _ _ _) ?_))); (all_goals (conv => whnf)))
  all_goals exact LeD.vt Iff.rfl
end Go.Proofs.YtbkhfmgdnnaaoaaDoor
