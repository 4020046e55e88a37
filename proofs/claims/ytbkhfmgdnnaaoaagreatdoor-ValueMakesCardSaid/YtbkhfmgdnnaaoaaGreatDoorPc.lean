/- Proved: what addr.Cells, its reference and sccsame.Cells return. No condition. -/
import Derived.Test.YtbkhfmgdnnaaoaaGreatDoorPb
namespace Go.Proofs.YtbkhfmgdnnaaoaaGreatDoor
open Go Go.EYtbkhfmgdnnaaoaaGreatDoor
set_option maxRecDepth 100000
variable {gl : List (Nat × List D)}

def cellRow (c r : Int) : List D := [iD c, iD r]
def partL (c0 r : Int) (j : Nat) : List (List D) := (List.range j).map fun (i : Nat) => cellRow (c0 + i) r
def rowsL (c0 r0 : Int) (n k : Nat) : List (List D) := (List.range k).flatMap fun (i : Nat) => partL c0 (r0 + i) n
theorem partL_succ (c0 r : Int) (j : Nat) : partL c0 r (j + 1) = partL c0 r j ++ [cellRow (c0 + j) r] := by simp [partL, List.range_succ]
theorem rowsL_succ (c0 r0 : Int) (n k : Nat) : rowsL c0 r0 n (k + 1) = rowsL c0 r0 n k ++ partL c0 (r0 + k) n := by simp [rowsL, List.range_succ]
theorem partL_len (c0 r : Int) (j : Nat) : (partL c0 r j).length = j := by simp [partL]
theorem rowsL_len (c0 r0 : Int) (n k : Nat) : (rowsL c0 r0 n k).length = k * n := by
  induction k with
  | zero => simp [rowsL]
  | succ k ih => rw [rowsL_succ, List.length_append, ih, partL_len, Nat.add_mul, Nat.one_mul]
def cellsD (a b c d : Int) : D := .lst 2 (rowsL a b (c - a + 1).toNat (d - b + 1).toNat)
theorem ceq {x y : Int} (h : x = y) {P : Prop} : C.d (iD y) = C.junk ∨ C.d (iD x) = C.d (iD y) ∨ P := .inr (.inl (congrArg (fun z => C.d (iD z)) h))
end Go.Proofs.YtbkhfmgdnnaaoaaGreatDoor
