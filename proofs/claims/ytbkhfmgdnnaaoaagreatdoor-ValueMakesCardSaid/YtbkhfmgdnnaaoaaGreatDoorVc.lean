/- Proved: the law ValueOrder, called with any data, answers true. No condition. -/
import Derived.Test.YtbkhfmgdnnaaoaaGreatDoorVb
namespace Go.Proofs.YtbkhfmgdnnaaoaaGreatDoor
open Go Go.EYtbkhfmgdnnaaoaaGreatDoor
set_option maxRecDepth 100000
variable {gl : List (Nat × List D)}
theorem cmpZ_range (x y : Int) : -1 ≤ cmpZ x y ∧ cmpZ x y ≤ 1 := by unfold cmpZ; repeat' split <;> omega
theorem cv_range (k n : Int) (s : List UInt8) (k' n' : Int) (s' : List UInt8) : -1 ≤ cv k n s k' n' s' ∧ cv k n s k' n' s' ≤ 1 := by
  rw [cv_eq]
  have h1 := cmpZ_range k k'
  have h2 := cmpZ_range n n'
  have h3 : -1 ≤ cmpS s s' ∧ cmpS s s' ≤ 1 := by rcases cmpS_cases s s' with h | h | h <;> omega
  split
  · split
    · exact h3
    · exact h2
  · exact h1
theorem factO : FnP Tryz.prog gl 6 [vlD 1 1 [], vlD 2 0 []] (iD (-1)) := vCompare_d 1 1 [] 2 0 []
end Go.Proofs.YtbkhfmgdnnaaoaaGreatDoor
