/- Proved: the law AddrBack, called with any data, answers true. No condition. -/
import Derived.Test.YtbkhfmgdnnaaoaaDoorPf
namespace Go.Proofs.YtbkhfmgdnnaaoaaDoor
open Go Go.EYtbkhfmgdnnaaoaaDoor
set_option maxRecDepth 100000
variable {gl : List (Nat × List D)}
theorem digsTab : ∀ n : Fin 100, 1 ≤ n.val → digs n.val ≠ [] ∧ (digs n.val).head? ≠ some 48 ∧ (digs n.val).head? ≠ some 36 ∧ (∀ d ∈ digs n.val, isDig d) ∧ rv (digs n.val) (digs n.val).length = n.val := by decide +kernel
theorem chTab : ∀ n : Fin 27, 1 ≤ n.val → (UInt8.ofNat (64 + n.val)).toNat = 64 + n.val := by decide +kernel
theorem dl_n {b : UInt8} {s : List UInt8} (h : b ≠ 36) : dl (b :: s) = (false, b :: s) := by simp [dl, h]
theorem dl_y (s : List UInt8) : dl (36 :: s) = (true, s) := by simp [dl]
theorem dl_if (f : Bool) {b : UInt8} {s : List UInt8} (h : b ≠ 36) : dl ((if f = true then [36] else []) ++ b :: s) = (f, b :: s) := by
  cases f
  · exact dl_n h
  · exact dl_y _
/-- What is named is read back. -/
theorem Ref_name {c r : Int} {fc fr : Bool} (h : okP c r) : FnP Tryd.prog gl 24 [.str (nameL c r fc fr)] (.tup [refD c r fc fr, errD 0]) := by
  obtain ⟨h1, h2, h3, h4⟩ := h
  obtain ⟨n, rfl⟩ := Int.eq_ofNat_of_zero_le (show 0 ≤ r by omega)
  obtain ⟨m, rfl⟩ := Int.eq_ofNat_of_zero_le (show 0 ≤ c by omega)
  obtain ⟨d1, d2, d3, d4, d5⟩ := digsTab ⟨n, by omega⟩ (by show 1 ≤ n; omega)
  have hc := chTab ⟨m, by omega⟩ (by show 1 ≤ m; omega)
  simp only at d1 d2 d3 d4 d5 hc
  obtain ⟨a, l, e⟩ := List.exists_cons_of_ne_nil d1
  have hch : UInt8.ofNat (64 + m) ≠ 36 := fun e => by rw [e] at hc; have : (36 : Nat) = 64 + m := hc; omega
  have ha : a ≠ 36 := fun h => d3 (by rw [e, h]; rfl)
  have e1 : dl (nameL m n fc fr) = (fc, UInt8.ofNat (64 + m) :: ((if fr = true then [36] else []) ++ digs n)) := dl_if fc hch
  have e2 : dl ((if fr = true then [36] else []) ++ digs n) = (fr, digs n) := by rw [e]; exact dl_if fr ha
  have := Ref_4 (gl := gl) e1 (by rw [hc]; omega) e2 d1 (digs_len n) d2
  rw [if_pos d4, d5, hc, show 64 + m - 64 = m by omega] at this
  exact this
theorem Name_B12 : FnP Tryd.prog gl 22 [cellD 2 12] (.tup [.str [66, 49, 50], errD 0]) := by
  have h : nameL 2 12 false false = [66, 49, 50] := by decide
  rw [← h]; exact Name_s (by unfold okP; omega)
theorem Shift_back {c r dc dr : Int} {fc fr : Bool} (h : okP c r) (hf : -99 ≤ dc ∧ dc ≤ 99 ∧ -99 ≤ dr ∧ dr ≤ 99) (hs : shiftP c r fc fr dc dr) :
    FnP Tryd.prog gl 11 [refD (if fc = true then c else c + dc) (if fr = true then r else r + dr) fc fr, iD (IntKind.i64.wrap (0 - dc)), iD (IntKind.i64.wrap (0 - dr))] (.tup [refD c r fc fr, tD true]) := by
  obtain ⟨h1, _, _, h4⟩ := hs
  rw [wrapI (n := 0 - dc) (by omega), wrapI (n := 0 - dr) (by omega)]
  have e1 : (if fc = true then (if fc = true then c else c + dc) else (if fc = true then c else c + dc) + (0 - dc)) = c := by split <;> omega
  have e2 : (if fr = true then (if fr = true then r else r + dr) else (if fr = true then r else r + dr) + (0 - dr)) = r := by split <;> omega
  have := Shift_s (gl := gl) (c := if fc = true then c else c + dc) (r := if fr = true then r else r + dr) (fc := fc) (fr := fr) (dc := 0 - dc) (dr := 0 - dr) ⟨h4, .inr (by unfold farP; omega), .inr (by unfold farP; omega), by rw [e1, e2]; exact h1⟩
  rwa [e1, e2] at this
theorem AddrBack_d (c r dc dr : Int) (fc fr : Bool) : FnP Tryd.prog gl 4 [refD c r fc fr, iD dc, iD dr] (.v (.bool true)) := by
  by_cases h : okP c r
  · by_cases hs : shiftP c r fc fr dc dr
    · by_cases hf : -99 ≤ dc ∧ dc ≤ 99 ∧ -99 ≤ dr ∧ dr ≤ 99
      · refine fnP_of_vc (nv := 9999) (cu := []) fits mixed Tryd.func4 rfl (by unfold HasBody; kernel_rfl) rfl ?_
        ((repeat' ((conv => whnf); (first | refine Fork.yes (by assumption) ?_ | refine Fork.no (by assumption) ?_ | refine Fork.nono (by assumption) ?_ | (refine Fork.yes ?_ ?_; focus (simp [andPD]; done)) | (refine Fork.no ?_ ?_; focus (simp [andPD]; done)) | refine Fork.neg (fun _ => ?_) (fun _ => ?_) | refine Fork.mk (fun _ => ?_) (fun _ => ?_) | refine Or.inl (Or.inl (Exists.intro _ (And.intro (by first | exact Name_B12 | exact RefName_s h | exact Ref_name h | exact Shift_back h hf hs | exact Shift_s hs) ?_))) | refine Or.inl (Exists.intro _ (And.intro (by first | exact Name_B12 | exact RefName_s h | exact Ref_name h | exact Shift_back h hf hs | exact Shift_s hs) ?_)) | refine Exists.intro _ (And.intro (by first | exact Name_B12 | exact RefName_s h | exact Ref_name h | exact Shift_back h hf hs | exact Shift_s hs) ?_) | (refine And.intro ?_ ?_; focus (first | (kernel_rfl; done) | (simp; done; done)))))); (all_goals (conv => whnf)))
        all_goals first | exact LeD.rfl | exact LeD.vt ⟨⟨rfl, rfl, trivial⟩, Iff.rfl, Iff.rfl, trivial⟩ | exact LeD.vt (by simp [andPD])
      · refine fnP_of_vc (nv := 9999) (cu := []) fits mixed Tryd.func4 rfl (by unfold HasBody; kernel_rfl) rfl ?_
        ((repeat' ((conv => whnf); (first | refine Fork.yes (by assumption) ?_ | refine Fork.no (by assumption) ?_ | refine Fork.nono (by assumption) ?_ | (refine Fork.yes ?_ ?_; focus (simp [andPD]; done)) | (refine Fork.no ?_ ?_; focus (simp [andPD]; done)) | refine Fork.neg (fun _ => ?_) (fun _ => ?_) | refine Fork.mk (fun _ => ?_) (fun _ => ?_) | refine Or.inl (Or.inl (Exists.intro _ (And.intro (by first | exact Name_B12 | exact RefName_s h | exact Ref_name h | exact Shift_s hs) ?_))) | refine Or.inl (Exists.intro _ (And.intro (by first | exact Name_B12 | exact RefName_s h | exact Ref_name h | exact Shift_s hs) ?_)) | refine Exists.intro _ (And.intro (by first | exact Name_B12 | exact RefName_s h | exact Ref_name h | exact Shift_s hs) ?_) | (refine And.intro ?_ ?_; focus (first | (kernel_rfl; done) | (simp; done; done)))))); (all_goals (conv => whnf)))
        all_goals first | exact LeD.rfl | (exfalso; omega)
    · refine fnP_of_vc (nv := 9999) (cu := []) fits mixed Tryd.func4 rfl (by unfold HasBody; kernel_rfl) rfl ?_
      ((repeat' ((conv => whnf); (first | refine Fork.yes (by assumption) ?_ | refine Fork.no (by assumption) ?_ | refine Fork.nono (by assumption) ?_ | (refine Fork.yes ?_ ?_; focus (simp [andPD]; done)) | (refine Fork.no ?_ ?_; focus (simp [andPD]; done)) | refine Fork.neg (fun _ => ?_) (fun _ => ?_) | refine Fork.mk (fun _ => ?_) (fun _ => ?_) | refine Or.inl (Or.inl (Exists.intro _ (And.intro (by first | exact Name_B12 | exact RefName_s h | exact Ref_name h | exact Shift_n hs) ?_))) | refine Or.inl (Exists.intro _ (And.intro (by first | exact Name_B12 | exact RefName_s h | exact Ref_name h | exact Shift_n hs) ?_)) | refine Exists.intro _ (And.intro (by first | exact Name_B12 | exact RefName_s h | exact Ref_name h | exact Shift_n hs) ?_) | (refine And.intro ?_ ?_; focus (first | (kernel_rfl; done) | (simp; done; done)))))); (all_goals (conv => whnf)))
      all_goals exact LeD.rfl
  · refine fnP_of_vc (nv := 9999) (cu := []) fits mixed Tryd.func4 rfl (by unfold HasBody; kernel_rfl) rfl ?_
    ((repeat' ((conv => whnf); (first | refine Fork.yes (by assumption) ?_ | refine Fork.no (by assumption) ?_ | refine Fork.nono (by assumption) ?_ | (refine Fork.yes ?_ ?_; focus (simp [andPD]; done)) | (refine Fork.no ?_ ?_; focus (simp [andPD]; done)) | refine Fork.neg (fun _ => ?_) (fun _ => ?_) | refine Fork.mk (fun _ => ?_) (fun _ => ?_) | refine Or.inl (Or.inl (Exists.intro _ (And.intro (by first | exact Name_B12 | exact RefName_n h) ?_))) | refine Or.inl (Exists.intro _ (And.intro (by first | exact Name_B12 | exact RefName_n h) ?_)) | refine Exists.intro _ (And.intro (by first | exact Name_B12 | exact RefName_n h) ?_) | (refine And.intro ?_ ?_; focus (first | (kernel_rfl; done) | (simp; done; done)))))); (all_goals (conv => whnf)))
    all_goals exact LeD.rfl
end Go.Proofs.YtbkhfmgdnnaaoaaDoor
