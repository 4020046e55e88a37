/- Proved: what the functions of package addr and their references return. No condition. -/
import Derived.Test.YtbkhfmgdnnaaoaaGreatDoorET
import Derived.IntWalk
namespace Go.Proofs.YtbkhfmgdnnaaoaaGreatDoor
open Go Go.EYtbkhfmgdnnaaoaaGreatDoor
set_option maxRecDepth 100000
variable {gl : List (Nat × List D)}

abbrev iD (n : Int) : D := .v (.int .i64 n)
abbrev tD (b : Bool) : D := .b (b = true) inferInstance
def cellD (c r : Int) : D := .agg [iD c, iD r]
def refD (c r : Int) (fc fr : Bool) : D := .agg [iD c, iD r, tD fc, tD fr]
def boxD (a b c d : Int) : D := .agg [iD a, iD b, iD c, iD d]
def errD (n : Int) : D := if n = 0 then .v .nilIface else .v (.iface 64 (.int .i64 n))
abbrev okP (c r : Int) : Prop := 1 ≤ c ∧ c ≤ 26 ∧ 1 ≤ r ∧ r ≤ 99
abbrev farP (n : Int) : Prop := 1000 < n ∨ n < -1000

abbrev boxP (a b c d : Int) : Prop := okP a b ∧ okP c d ∧ a ≤ c ∧ b ≤ d
theorem isNaN_d (a : Int) : FnP Tryz.prog gl 63 [iD a] (.v (.bool false)) := by
  refine fnP_of_vc (nv := 9999) (cu := []) fits mixed Tryz.func63 rfl (by unfold HasBody; kernel_rfl) rfl ?_
  ((repeat' ((conv => whnf); (first | refine Fork.yes (by assumption) ?_ | refine Fork.no (by assumption) ?_ | refine Fork.nono (by assumption) ?_ | (refine Fork.yes ?_ ?_; focus (simp [andPD]; done)) | (refine Fork.no ?_ ?_; focus (simp [andPD]; done)) | refine Fork.neg (fun _ => ?_) (fun _ => ?_) | refine Fork.mk (fun _ => ?_) (fun _ => ?_)))); (all_goals (conv => whnf)))
  exact ⟨fun M w x hx => by rw [DenD.b_inv hx, decide_eq_false (by simp)]; exact .v _⟩
def cmpZ (a b : Int) : Int := if a < b then -1 else if b < a then 1 else 0
theorem cmpInt_d (a b : Int) : FnP Tryz.prog gl 28 [iD a, iD b] (iD (cmpZ a b)) := by
  refine fnP_of_vc (nv := 9999) (cu := []) fits mixed Tryz.func28 rfl (by unfold HasBody; kernel_rfl) rfl ?_
  ((repeat' ((conv => whnf); first | (first | refine Fork.yes (by assumption) ?_ | refine Fork.no (by assumption) ?_ | refine Fork.nono (by assumption) ?_ | (refine Fork.yes ?_ ?_; focus (simp [andPD]; done)) | (refine Fork.no ?_ ?_; focus (simp [andPD]; done)) | refine Fork.neg (fun _ => ?_) (fun _ => ?_) | refine Fork.mk (fun _ => ?_) (fun _ => ?_)) | refine Or.inl (Or.inl (Exists.intro _ (And.intro (by first | exact isNaN_d _) ?_))) | refine Exists.intro _ (And.intro (by first | exact isNaN_d _) ?_))); (all_goals (conv => whnf)))
  all_goals (refine LeD.of (congrArg iD ?_); unfold cmpZ; split <;> (try split) <;> omega)
theorem boxD_eq {a b c d a' b' c' d' : Int} (h1 : a = a') (h2 : b = b') (h3 : c = c') (h4 : d = d') : boxD a b c d = boxD a' b' c' d' := by rw [h1, h2, h3, h4]
def boxR (c r c' r' : Int) : D := if okP c r ∧ okP c' r' then .tup [boxD (min c c') (min r r') (max c c') (max r r'), errD 0] else .tup [boxD 0 0 0 0, errD 1]
/-- A ref, shifted: none where it falls off the sheet. -/
def shiftP (c r : Int) (fc fr : Bool) (dc dr : Int) : Prop := okP c r ∧ (fc = true ∨ ¬ farP dc) ∧ (fr = true ∨ ¬ farP dr) ∧ okP (if fc = true then c else c + dc) (if fr = true then r else r + dr)
instance (c r : Int) (fc fr : Bool) (dc dr : Int) : Decidable (shiftP c r fc fr dc dr) := by unfold shiftP; infer_instance
def shiftR (c r : Int) (fc fr : Bool) (dc dr : Int) : D :=
  if shiftP c r fc fr dc dr then .tup [refD (if fc = true then c else c + dc) (if fr = true then r else r + dr) fc fr, tD true] else .tup [refD 0 0 false false, tD false]
theorem wrapI {n : Int} (h : -9223372036854775808 ≤ n ∧ n ≤ 9223372036854775807) : IntKind.i64.wrap n = n := IntWalk.i64_in _ h
theorem tD_le (b : Bool) : LeD (.v (.bool b)) (tD b) := ⟨fun M w x hx => by
  rw [DenD.v_inv hx]; have := DenD.b (M := M) (w := w) (b = true) inferInstance; cases b <;> simpa using this⟩
theorem noneR_le : LeD (retD [D.agg [iD 0, iD 0, .v (.bool false), .v (.bool false)], .v (.bool false)]) (.tup [refD 0 0 false false, tD false]) :=
  LeD.tup ⟨LeD.agg ⟨LeD.rfl, LeD.rfl, tD_le _, tD_le _, trivial⟩, tD_le _, trivial⟩
theorem someR_le {c r c' r' : Int} {fc fr : Bool} (h1 : c = c') (h2 : r = r') : LeD (retD [D.agg [iD c, iD r, tD fc, tD fr], .v (.bool true)]) (.tup [refD c' r' fc fr, tD true]) := by
  subst h1; subst h2; exact LeD.tup ⟨LeD.rfl, tD_le _, trivial⟩
end Go.Proofs.YtbkhfmgdnnaaoaaGreatDoor
