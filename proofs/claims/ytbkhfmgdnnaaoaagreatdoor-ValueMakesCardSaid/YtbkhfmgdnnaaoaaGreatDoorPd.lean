/- Proved: what sccsame.Cells, plain.Told and sccsame.Error return. Condition: errors.errorType reads as laid. -/
import Derived.Test.YtbkhfmgdnnaaoaaGreatDoorPc
import Derived.Test.YtbkhfmgdnnaaoaaGreatDoorErrAs
namespace Go.Proofs.YtbkhfmgdnnaaoaaGreatDoor
open Go Go.EYtbkhfmgdnnaaoaaGreatDoor Go.RowKit
set_option maxRecDepth 100000
variable {gl : List (Nat × List D)}

def rowD (p : Int × Int) : List D := [iD p.1, iD p.2]
theorem FnP.of_below {P : Program} {g : Nat} {ds : List D} {xs : List Value} {r : D} {v : Value} (hB : HasBody P g) (hx : ∀ M w ys, DenL M w ds ys → ys = xs) (hv : ∀ M w, DenD M w r v)
    (h : ∀ M w, Glob gl M w → Calls P g xs.toArray w fun e w' => e = .returned v ∧ Below w.heap.size w w') : FnP P gl g ds r := fun w M ys _ hg hd => by
  obtain rfl := hx M w ys hd
  exact .inl ⟨hB, (h M w hg).mono fun e w' ⟨h1, h2⟩ => ⟨Evo.of_below h2 _, v, h1, hv _ _⟩⟩
/-- The variable errors.errorType, as laid. -/
abbrev errT : List D := [.v (.iface 158 (.agg #[.pointer (some ⟨11, 31, none⟩)]))]
theorem errT_of {M : Nat → Prop} {w : World} (hg : Glob gl M w) (h : Go.EYtbkhfmgdnnaaoaaGreatDoor.look gl 2 = some errT) : ErrT w := by
  obtain ⟨_, xs, h2, _, h4⟩ := hg _ _ h
  obtain ⟨x, rfl, h5⟩ := All2.one_iff.1 h4
  obtain rfl := DenD.v_inv h5
  exact globCell h2 0 _ rfl
theorem Told_nil : FnP Tryz.prog gl 48 [.v .nilIface] (iD 0) :=
  FnP.of_below (xs := [.nilIface]) (v := .int .i64 0) (by unfold HasBody; kernel_rfl) (fun M w ys hd => by
    obtain ⟨y, rfl, h1⟩ := All2.one_iff.1 hd
    rw [DenD.v_inv h1]) (fun _ _ => .v _) (fun M w hg => told_nil w)
theorem Told_err (n : Int) (h : Go.EYtbkhfmgdnnaaoaaGreatDoor.look gl 2 = some errT) : FnP Tryz.prog gl 48 [.v (.iface 64 (.int .i64 n))] (iD n) :=
  FnP.of_below (xs := [.iface 64 (.int .i64 n)]) (v := .int .i64 n) (by unfold HasBody; kernel_rfl) (fun M w ys hd => by
    obtain ⟨y, rfl, h1⟩ := All2.one_iff.1 hd
    rw [DenD.v_inv h1]) (fun _ _ => .v _) (fun M w hg => told_err n w (errT_of hg h))
theorem errD_cases {P : D → Prop} (n : Int) (h0 : n = 0 → P (.v .nilIface)) (h1 : n ≠ 0 → P (.v (.iface 64 (.int .i64 n)))) : P (errD n) := by
  unfold errD
  split
  · exact h0 ‹_›
  · exact h1 ‹_›
theorem Error_d (n k : Int) (h : Go.EYtbkhfmgdnnaaoaaGreatDoor.look gl 2 = some errT) : FnP Tryz.prog gl 15 [errD n, iD k] (.b (n = k) inferInstance) := by
  refine errD_cases (P := fun d => FnP Tryz.prog gl 15 [d, iD k] (.b (n = k) inferInstance)) n (fun h0 => ?_) (fun h0 => ?_)
  · subst h0
    refine fnP_of_vc (nv := 9999) (cu := []) fits mixed Tryz.func15 rfl (by unfold HasBody; kernel_rfl) rfl ?_
    ((repeat' ((conv => whnf); first | (first | refine Fork.yes (by assumption) ?_ | refine Fork.no (by assumption) ?_ | refine Fork.nono (by assumption) ?_ | (refine Fork.yes ?_ ?_; focus (simp [andPD]; done)) | (refine Fork.no ?_ ?_; focus (simp [andPD]; done)) | refine Fork.neg (fun _ => ?_) (fun _ => ?_) | refine Fork.mk (fun _ => ?_) (fun _ => ?_)) | refine Or.inl (Or.inl (Exists.intro _ (And.intro (by first | exact Told_nil) ?_))) | refine Exists.intro _ (And.intro (by first | exact Told_nil) ?_))); (all_goals (conv => whnf)))
    exact LeD.b (by omega)
  · refine fnP_of_vc (nv := 9999) (cu := []) fits mixed Tryz.func15 rfl (by unfold HasBody; kernel_rfl) rfl ?_
    ((repeat' ((conv => whnf); first | (first | refine Fork.yes (by assumption) ?_ | refine Fork.no (by assumption) ?_ | refine Fork.nono (by assumption) ?_ | (refine Fork.yes ?_ ?_; focus (simp [andPD]; done)) | (refine Fork.no ?_ ?_; focus (simp [andPD]; done)) | refine Fork.neg (fun _ => ?_) (fun _ => ?_) | refine Fork.mk (fun _ => ?_) (fun _ => ?_)) | refine Or.inl (Or.inl (Exists.intro _ (And.intro (by first | exact Told_err n h) ?_))) | refine Exists.intro _ (And.intro (by first | exact Told_err n h) ?_))); (all_goals (conv => whnf)))
    exact LeD.b (by omega)
end Go.Proofs.YtbkhfmgdnnaaoaaGreatDoor
