/- Proved: what the reference's Ref and RefName return, addr.Cell and addr.Check. Condition: texts no longer than 2 ^ 47 bytes. -/
import Derived.Test.YtbkhfmgdnnaaoaaDoorBg
namespace Go.Proofs.YtbkhfmgdnnaaoaaDoor
open Go Go.EYtbkhfmgdnnaaoaaDoor
set_option maxRecDepth 100000
variable {gl : List (Nat × List D)}
theorem byteTab : ∀ n : Fin 27, ((64 : Int) + (n.val : Int)) = ((UInt8.ofNat (64 + n.val)).toNat : Int) := by decide
theorem refRefName_s {c r : Int} {fc fr : Bool} (h : okP c r) : FnP Tryd.prog gl 27 [refD c r fc fr] (.str (nameL c r fc fr)) := by
  obtain ⟨h1, h2, h3, h4⟩ := id h
  obtain ⟨n, rfl⟩ := Int.eq_ofNat_of_zero_le (show 0 ≤ r by omega)
  obtain ⟨m, rfl⟩ := Int.eq_ofNat_of_zero_le (show 0 ≤ c by omega)
  have hd := digs_len n
  have hD := Digits_p (gl := gl) n (by omega)
  rw [decB_digs (by omega)] at hD
  have hb : IntKind.u8.wrap (IntKind.i64.wrap ((64 : Int) + (m : Int))) = ((UInt8.ofNat (64 + m)).toNat : Int) := by
    rw [wrapI (by omega), IntWalk.u8_in _ (by omega)]; exact byteTab ⟨m, by omega⟩
  refine fnP_of_vc (nv := 9999) (cu := []) fits mixed Tryd.func27 rfl (by unfold HasBody; kernel_rfl) rfl ?_
  ((repeat' ((conv => whnf); (first | refine Fork.yes (by assumption) ?_ | refine Fork.no (by assumption) ?_ | refine Fork.nono (by assumption) ?_ | (refine Fork.yes ?_ ?_; focus (simp [andPD]; done)) | (refine Fork.no ?_ ?_; focus (simp [andPD]; done)) | refine Fork.neg (fun _ => ?_) (fun _ => ?_) | refine Fork.mk (fun _ => ?_) (fun _ => ?_) | refine Or.inl (Or.inl (Exists.intro _ (And.intro (by first | exact hD) ?_))) | refine Or.inl (Exists.intro _ (And.intro (by first | exact hD) ?_)) | refine Exists.intro _ (And.intro (by first | exact hD) ?_) | (refine And.intro ?_ ?_; focus (first | (kernel_rfl; done) | (first | assumption | omega | (simp; done) | (simp; omega); done)))))); (all_goals (conv => whnf)))
  all_goals refine ⟨[UInt8.ofNat (64 + m)], by show [[D.v (.int .u8 (IntKind.u8.wrap (IntKind.i64.wrap ((64 : Int) + (m : Int)))))]] = _; rw [hb]; rfl, ?_⟩
  all_goals ((repeat' ((conv => whnf); (first | refine Fork.yes (by assumption) ?_ | refine Fork.no (by assumption) ?_ | refine Fork.nono (by assumption) ?_ | (refine Fork.yes ?_ ?_; focus (simp [andPD]; done)) | (refine Fork.no ?_ ?_; focus (simp [andPD]; done)) | refine Fork.neg (fun _ => ?_) (fun _ => ?_) | refine Fork.mk (fun _ => ?_) (fun _ => ?_) | refine Or.inl (Or.inl (Exists.intro _ (And.intro (by first | exact hD) ?_))) | refine Or.inl (Exists.intro _ (And.intro (by first | exact hD) ?_)) | refine Exists.intro _ (And.intro (by first | exact hD) ?_) | (refine And.intro ?_ ?_; focus (first | (kernel_rfl; done) | (first | assumption | omega | (simp; done) | (simp; omega); done)))))); (all_goals (conv => whnf)))
  all_goals exact LeD.of (by simp [nameL, *]; try rfl)
theorem Check_s {c r : Int} (h : okP c r) : FnP Tryd.prog gl 28 [cellD c r] (errD 0) := by
  refine fnP_of_vc (nv := 9999) (cu := []) fits mixed Tryd.func28 rfl (by unfold HasBody; kernel_rfl) rfl ?_
  ((repeat' ((conv => whnf); (first | refine Fork.yes (by assumption) ?_ | refine Fork.no (by assumption) ?_ | refine Fork.nono (by assumption) ?_ | (refine Fork.yes ?_ ?_; focus (simp [andPD]; done)) | (refine Fork.no ?_ ?_; focus (simp [andPD]; done)) | refine Fork.neg (fun _ => ?_) (fun _ => ?_) | refine Fork.mk (fun _ => ?_) (fun _ => ?_) | refine Or.inl (Or.inl (Exists.intro _ (And.intro (by first | exact ok_d _ _) ?_))) | refine Or.inl (Exists.intro _ (And.intro (by first | exact ok_d _ _) ?_)) | refine Exists.intro _ (And.intro (by first | exact ok_d _ _) ?_) | (refine And.intro ?_ ?_; focus (first | (kernel_rfl; done) | (first | assumption | omega | (simp; done); done)))))); (all_goals (conv => whnf)))
  exact LeD.rfl
theorem Check_n {c r : Int} (h : ¬ okP c r) : FnP Tryd.prog gl 28 [cellD c r] (errD 1) := by
  refine fnP_of_vc (nv := 9999) (cu := []) fits mixed Tryd.func28 rfl (by unfold HasBody; kernel_rfl) rfl ?_
  ((repeat' ((conv => whnf); (first | refine Fork.yes (by assumption) ?_ | refine Fork.no (by assumption) ?_ | refine Fork.nono (by assumption) ?_ | (refine Fork.yes ?_ ?_; focus (simp [andPD]; done)) | (refine Fork.no ?_ ?_; focus (simp [andPD]; done)) | refine Fork.neg (fun _ => ?_) (fun _ => ?_) | refine Fork.mk (fun _ => ?_) (fun _ => ?_) | refine Or.inl (Or.inl (Exists.intro _ (And.intro (by first | exact ok_d _ _) ?_))) | refine Or.inl (Exists.intro _ (And.intro (by first | exact ok_d _ _) ?_)) | refine Exists.intro _ (And.intro (by first | exact ok_d _ _) ?_) | (refine And.intro ?_ ?_; focus (first | (kernel_rfl; done) | (first | assumption | omega | (simp; done); done)))))); (all_goals (conv => whnf)))
  exact LeD.rfl
theorem Cell_n {s : List UInt8} (h : FnP Tryd.prog gl 24 [.str s] refBad) : FnP Tryd.prog gl 26 [.str s] (.tup [cellD 0 0, errD 2]) := by
  refine fnP_of_vc (nv := 9999) (cu := []) fits mixed Tryd.func26 rfl (by unfold HasBody; kernel_rfl) rfl ?_
  ((repeat' ((conv => whnf); (first | refine Fork.yes (by assumption) ?_ | refine Fork.no (by assumption) ?_ | refine Fork.nono (by assumption) ?_ | (refine Fork.yes ?_ ?_; focus (simp [andPD]; done)) | (refine Fork.no ?_ ?_; focus (simp [andPD]; done)) | refine Fork.neg (fun _ => ?_) (fun _ => ?_) | refine Fork.mk (fun _ => ?_) (fun _ => ?_) | refine Or.inl (Or.inl (Exists.intro _ (And.intro (by first | exact h) ?_))) | refine Or.inl (Exists.intro _ (And.intro (by first | exact h) ?_)) | refine Exists.intro _ (And.intro (by first | exact h) ?_) | (refine And.intro ?_ ?_; focus (first | (kernel_rfl; done) | (first | assumption | omega | (simp; done); done)))))); (all_goals (conv => whnf)))
  all_goals exact LeD.rfl
theorem Cell_s {s : List UInt8} {c r : Int} {fc fr : Bool} (h : FnP Tryd.prog gl 24 [.str s] (.tup [refD c r fc fr, errD 0])) : FnP Tryd.prog gl 26 [.str s] (if fc = true ∨ fr = true then .tup [cellD 0 0, errD 2] else .tup [cellD c r, errD 0]) := by
  refine fnP_of_vc (nv := 9999) (cu := []) fits mixed Tryd.func26 rfl (by unfold HasBody; kernel_rfl) rfl ?_
  ((repeat' ((conv => whnf); (first | refine Fork.yes (by assumption) ?_ | refine Fork.no (by assumption) ?_ | refine Fork.nono (by assumption) ?_ | (refine Fork.yes ?_ ?_; focus (simp [andPD]; done)) | (refine Fork.no ?_ ?_; focus (simp [andPD]; done)) | refine Fork.neg (fun _ => ?_) (fun _ => ?_) | refine Fork.mk (fun _ => ?_) (fun _ => ?_) | refine Or.inl (Or.inl (Exists.intro _ (And.intro (by first | exact h) ?_))) | refine Or.inl (Exists.intro _ (And.intro (by first | exact h) ?_)) | refine Exists.intro _ (And.intro (by first | exact h) ?_) | (refine And.intro ?_ ?_; focus (first | (kernel_rfl; done) | (first | assumption | omega | (simp; done); done)))))); (all_goals (conv => whnf)))
  all_goals first | exact LeD.ite_pos (by simp [*]) LeD.rfl | exact LeD.ite_neg (by simp [*]) LeD.rfl
abbrev rrBad : D := .tup [refD 0 0 false false, tD false]
theorem rrBad_le : LeD (retD [D.agg [iD 0, iD 0, .v (.bool false), .v (.bool false)], .v (.bool false)]) rrBad := noneR_le
theorem w01 : IntKind.i64.wrap (0 + 1) = 1 := by decide
theorem w011 : IntKind.i64.wrap (IntKind.i64.wrap (0 + 1) + 1) = 2 := by decide
theorem w0111 : IntKind.i64.wrap (IntKind.i64.wrap (IntKind.i64.wrap (0 + 1) + 1) + 1) = 3 := by decide
theorem dl_inv1 {s : List UInt8} {b : Bool} (h : dl s = (b, [])) : s = [] ∨ s = [36] := by
  cases s with
  | nil => exact .inl rfl
  | cons a s =>
    right
    by_cases ha : a = 36
    · simp only [dl, if_pos ha, Prod.mk.injEq] at h; rw [ha, h.2]
    · simp only [dl, if_neg ha, Prod.mk.injEq] at h; cases h.2
theorem dl_inv2 {s t : List UInt8} {b : Bool} {ch : UInt8} (h : dl s = (b, ch :: t)) : (s = 36 :: ch :: t ∧ b = true) ∨ (s = ch :: t ∧ ch ≠ 36 ∧ b = false) := by
  cases s with
  | nil => cases h
  | cons a s =>
    by_cases ha : a = 36
    · simp only [dl, if_pos ha, Prod.mk.injEq] at h; left; rw [ha, h.2]; exact ⟨rfl, h.1.symm⟩
    · simp only [dl, if_neg ha, Prod.mk.injEq] at h; right; cases h.2; exact ⟨rfl, ha, h.1.symm⟩
theorem ne36 {c : UInt8} (h : c ≠ 36) : ¬ ((c.toNat : Nat) : Int) = 36 := fun e => h (UInt8.toNat_inj.1 (Int.ofNat.inj e))
theorem rRef_1 {s : List UInt8} {b : Bool} (h : dl s = (b, [])) : FnP Tryd.prog gl 25 [.str s] rrBad := by
  rcases dl_inv1 h with rfl | rfl
  · refine fnP_of_vc (nv := 9999) (cu := []) fits mixed Tryd.func25 rfl (by unfold HasBody; kernel_rfl) rfl ?_
    ((repeat' ((conv => whnf); (first | refine Fork.yes (by assumption) ?_ | refine Fork.no (by assumption) ?_ | refine Fork.nono (by assumption) ?_ | (refine Fork.yes ?_ ?_; focus (simp [andPD]; done)) | (refine Fork.no ?_ ?_; focus (simp [andPD]; done)) | refine Fork.neg (fun _ => ?_) (fun _ => ?_) | refine Fork.mk (fun _ => ?_) (fun _ => ?_) | (refine And.intro ?_ ?_; focus (first | (kernel_rfl; done) | (first | assumption | omega | (simp; done) | (rw [w01]; simp; done) | (rw [w01]; simp; omega); done)))))); (all_goals (conv => whnf)))
    exact rrBad_le
  · have f1 : ((([36] : List UInt8).length : Nat) : Int) ≤ IntKind.i64.wrap (0 + 1) := by decide
    refine fnP_of_vc (nv := 9999) (cu := []) fits mixed Tryd.func25 rfl (by unfold HasBody; kernel_rfl) rfl ?_
    ((repeat' ((conv => whnf); (first | refine Fork.yes (by assumption) ?_ | refine Fork.no (by assumption) ?_ | refine Fork.nono (by assumption) ?_ | (refine Fork.yes ?_ ?_; focus (simp [andPD]; done)) | (refine Fork.no ?_ ?_; focus (simp [andPD]; done)) | refine Fork.neg (fun _ => ?_) (fun _ => ?_) | refine Fork.mk (fun _ => ?_) (fun _ => ?_) | (refine And.intro ?_ ?_; focus (first | (kernel_rfl; done) | (first | assumption | omega | (simp; done) | (rw [w01]; simp; done) | (rw [w01]; simp; omega); done)))))); (all_goals (conv => whnf)))
    all_goals first | exact rrBad_le
theorem rRef_2 {s t : List UInt8} {b : Bool} {ch : UInt8} (h : dl s = (b, ch :: t)) (hc : ¬ (65 ≤ ch.toNat ∧ ch.toNat ≤ 90)) : FnP Tryd.prog gl 25 [.str s] rrBad := by
  rcases dl_inv2 h with ⟨rfl, _⟩ | ⟨rfl, h36, _⟩
  · have f1 : ¬ (((36 :: ch :: t).length : Nat) : Int) ≤ IntKind.i64.wrap (0 + 1) := by rw [w01]; simp; try omega
    have fe : (36 :: ch :: t).getD (IntKind.i64.wrap (0 + 1)).toNat 0 = ch := by rw [w01]; rfl
    by_cases hlo : (((36 :: ch :: t).getD (IntKind.i64.wrap (0 + 1)).toNat 0).toNat : Int) < 65
    · refine fnP_of_vc (nv := 9999) (cu := []) fits mixed Tryd.func25 rfl (by unfold HasBody; kernel_rfl) rfl ?_
      ((repeat' ((conv => whnf); (first | refine Fork.yes (by assumption) ?_ | refine Fork.no (by assumption) ?_ | refine Fork.nono (by assumption) ?_ | (refine Fork.yes ?_ ?_; focus (simp [andPD]; done)) | (refine Fork.no ?_ ?_; focus (simp [andPD]; done)) | refine Fork.neg (fun _ => ?_) (fun _ => ?_) | refine Fork.mk (fun _ => ?_) (fun _ => ?_) | (refine And.intro ?_ ?_; focus (first | (kernel_rfl; done) | (first | assumption | omega | (simp; done) | (rw [w01]; simp; done) | (rw [w01]; simp; omega); done)))))); (all_goals (conv => whnf)))
      all_goals first | exact rrBad_le
    · have hhi : 90 < (((36 :: ch :: t).getD (IntKind.i64.wrap (0 + 1)).toNat 0).toNat : Int) := by rw [fe] at hlo ⊢; omega
      refine fnP_of_vc (nv := 9999) (cu := []) fits mixed Tryd.func25 rfl (by unfold HasBody; kernel_rfl) rfl ?_
      ((repeat' ((conv => whnf); (first | refine Fork.yes (by assumption) ?_ | refine Fork.no (by assumption) ?_ | refine Fork.nono (by assumption) ?_ | (refine Fork.yes ?_ ?_; focus (simp [andPD]; done)) | (refine Fork.no ?_ ?_; focus (simp [andPD]; done)) | refine Fork.neg (fun _ => ?_) (fun _ => ?_) | refine Fork.mk (fun _ => ?_) (fun _ => ?_) | (refine And.intro ?_ ?_; focus (first | (kernel_rfl; done) | (first | assumption | omega | (simp; done) | (rw [w01]; simp; done) | (rw [w01]; simp; omega); done)))))); (all_goals (conv => whnf)))
      all_goals first | exact rrBad_le
  · have f0 : ¬ (((ch :: t).getD (Int.toNat 0) 0).toNat : Int) = 36 := ne36 h36
    have f1 : ¬ (((ch :: t).length : Nat) : Int) ≤ 0 := by simp; try omega
    by_cases hlo : (((ch :: t).getD (Int.toNat 0) 0).toNat : Int) < 65
    · refine fnP_of_vc (nv := 9999) (cu := []) fits mixed Tryd.func25 rfl (by unfold HasBody; kernel_rfl) rfl ?_
      ((repeat' ((conv => whnf); (first | refine Fork.yes (by assumption) ?_ | refine Fork.no (by assumption) ?_ | refine Fork.nono (by assumption) ?_ | (refine Fork.yes ?_ ?_; focus (simp [andPD]; done)) | (refine Fork.no ?_ ?_; focus (simp [andPD]; done)) | refine Fork.neg (fun _ => ?_) (fun _ => ?_) | refine Fork.mk (fun _ => ?_) (fun _ => ?_) | (refine And.intro ?_ ?_; focus (first | (kernel_rfl; done) | (first | assumption | omega | (simp; done) | (rw [w01]; simp; done) | (rw [w01]; simp; omega); done)))))); (all_goals (conv => whnf)))
      all_goals first | exact rrBad_le
    · have hhi : 90 < (((ch :: t).getD (Int.toNat 0) 0).toNat : Int) := by
        have hlo' : ¬ ((ch.toNat : Nat) : Int) < 65 := hlo
        show 90 < ((ch.toNat : Nat) : Int)
        omega
      refine fnP_of_vc (nv := 9999) (cu := []) fits mixed Tryd.func25 rfl (by unfold HasBody; kernel_rfl) rfl ?_
      ((repeat' ((conv => whnf); (first | refine Fork.yes (by assumption) ?_ | refine Fork.no (by assumption) ?_ | refine Fork.nono (by assumption) ?_ | (refine Fork.yes ?_ ?_; focus (simp [andPD]; done)) | (refine Fork.no ?_ ?_; focus (simp [andPD]; done)) | refine Fork.neg (fun _ => ?_) (fun _ => ?_) | refine Fork.mk (fun _ => ?_) (fun _ => ?_) | (refine And.intro ?_ ?_; focus (first | (kernel_rfl; done) | (first | assumption | omega | (simp; done) | (rw [w01]; simp; done) | (rw [w01]; simp; omega); done)))))); (all_goals (conv => whnf)))
      all_goals first | exact rrBad_le
end Go.Proofs.YtbkhfmgdnnaaoaaDoor
