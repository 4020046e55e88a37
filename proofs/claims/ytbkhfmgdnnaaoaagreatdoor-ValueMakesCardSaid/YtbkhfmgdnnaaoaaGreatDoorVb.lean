/- Proved: values stand in a row; the law ValueOrder, called with any data, answers true. No condition. -/
import Derived.Test.YtbkhfmgdnnaaoaaGreatDoorVa
namespace Go.Proofs.YtbkhfmgdnnaaoaaGreatDoor
open Go Go.EYtbkhfmgdnnaaoaaGreatDoor
set_option maxRecDepth 100000
variable {gl : List (Nat × List D)}
theorem bl_cons (a b : UInt8) (x y : List UInt8) : Op.bytesLess (a :: x) (b :: y) = true ↔ a.toNat < b.toNat ∨ (a = b ∧ Op.bytesLess x y = true) := by
  rw [Op.bytesLess]; simp [UInt8.lt_iff_toNat_lt]
theorem bl_nil (x : List UInt8) : ¬ Op.bytesLess x [] = true := by cases x <;> simp [Op.bytesLess]
theorem bl_nil_cons (b : UInt8) (y : List UInt8) : Op.bytesLess [] (b :: y) = true := by simp [Op.bytesLess]
theorem bl_asymm : ∀ (x y : List UInt8), Op.bytesLess x y = true → ¬ Op.bytesLess y x = true
  | _, [], h => absurd h (bl_nil _)
  | [], _ :: _, _ => bl_nil _
  | a :: x, b :: y, h => by
    rw [bl_cons] at h ⊢
    rcases h with h | ⟨rfl, h⟩
    · rintro (h' | ⟨rfl, _⟩) <;> omega
    · rintro (h' | ⟨_, h'⟩)
      · omega
      · exact bl_asymm x y h h'
theorem bl_tri : ∀ (x y : List UInt8), ¬ Op.bytesLess x y = true → x ≠ y → Op.bytesLess y x = true
  | [], [], _, h => absurd rfl h
  | a :: x, [], _, _ => bl_nil_cons _ _
  | [], b :: y, h, _ => absurd (bl_nil_cons b y) h
  | a :: x, b :: y, h, hne => by
    rw [bl_cons] at h ⊢
    rcases Nat.lt_trichotomy a.toNat b.toNat with h1 | h1 | h1
    · exact absurd (.inl h1) h
    · obtain rfl := UInt8.toNat_inj.1 h1
      exact .inr ⟨rfl, bl_tri x y (fun h2 => h (.inr ⟨rfl, h2⟩)) (fun e => hne (by rw [e]))⟩
    · exact .inl h1
theorem bl_trans : ∀ (x y z : List UInt8), Op.bytesLess x y = true → Op.bytesLess y z = true → Op.bytesLess x z = true
  | _, [], _, h, _ => absurd h (bl_nil _)
  | _, _ :: _, [], _, h => absurd h (bl_nil _)
  | [], _ :: _, _ :: _, _, _ => bl_nil_cons _ _
  | a :: x, b :: y, c :: z, h, k => by
    rw [bl_cons] at h k ⊢
    rcases h with h | ⟨rfl, h⟩ <;> rcases k with k | ⟨rfl, k⟩
    · exact .inl (by omega)
    · exact .inl h
    · exact .inl k
    · exact .inr ⟨rfl, bl_trans x y z h k⟩
theorem cmpS_cases (x y : List UInt8) : (cmpS x y = -1 ∧ Op.bytesLess x y = true) ∨ (cmpS x y = 0 ∧ x = y) ∨ (cmpS x y = 1 ∧ Op.bytesLess y x = true) := by
  unfold cmpS
  by_cases h : Op.bytesLess x y = true
  · rw [if_pos h]; exact .inl ⟨rfl, h⟩
  · rw [if_neg h]
    by_cases e : x = y
    · rw [if_pos e]; exact .inr (.inl ⟨rfl, e⟩)
    · rw [if_neg e]; exact .inr (.inr ⟨rfl, bl_tri x y h e⟩)
theorem cmpS_swap (x y : List UInt8) : cmpS y x = - cmpS x y := by
  rcases cmpS_cases x y with ⟨h1, h2⟩ | ⟨h1, h2⟩ | ⟨h1, h2⟩ <;> rcases cmpS_cases y x with ⟨k1, k2⟩ | ⟨k1, k2⟩ | ⟨k1, k2⟩
  · exact absurd k2 (bl_asymm _ _ h2)
  · subst k2; exact absurd h2 (bl_asymm _ _ h2)
  · omega
  · subst h2; exact absurd k2 (bl_asymm _ _ k2)
  · omega
  · subst h2; exact absurd k2 (bl_asymm _ _ k2)
  · omega
  · subst k2; exact absurd h2 (bl_asymm _ _ h2)
  · exact absurd k2 (bl_asymm _ _ h2)
theorem cmpS_zero {x y : List UInt8} : cmpS x y = 0 ↔ x = y := by
  rcases cmpS_cases x y with ⟨h1, h2⟩ | ⟨h1, rfl⟩ | ⟨h1, h2⟩
  · exact ⟨fun h => by omega, fun e => by subst e; exact absurd h2 (bl_asymm _ _ h2)⟩
  · exact ⟨fun _ => rfl, fun _ => h1⟩
  · exact ⟨fun h => by omega, fun e => by subst e; exact absurd h2 (bl_asymm _ _ h2)⟩
theorem cmpS_le {x y z : List UInt8} (h : cmpS x y ≤ 0) (k : cmpS y z ≤ 0) : cmpS x z ≤ 0 ∧ (cmpS x z = 0 → cmpS x y = 0 ∧ cmpS y z = 0) := by
  rcases cmpS_cases x y with ⟨h1, h2⟩ | ⟨h1, rfl⟩ | ⟨h1, h2⟩
  · rcases cmpS_cases y z with ⟨k1, k2⟩ | ⟨k1, rfl⟩ | ⟨k1, k2⟩
    · have h3 := bl_trans x y z h2 k2
      have : cmpS x z = -1 := by unfold cmpS; rw [if_pos h3]
      exact ⟨by omega, fun e => by omega⟩
    · exact ⟨h, fun e => ⟨e, k1⟩⟩
    · omega
  · exact ⟨k, fun e => ⟨h1, e⟩⟩
  · omega
theorem cmpZ_swap (x y : Int) : cmpZ y x = - cmpZ x y := by unfold cmpZ; repeat' split <;> omega
theorem cmpZ_zero {x y : Int} : cmpZ x y = 0 ↔ x = y := by unfold cmpZ; repeat' split <;> omega
theorem cmpZ_le {x y z : Int} (h : cmpZ x y ≤ 0) (k : cmpZ y z ≤ 0) : cmpZ x z ≤ 0 ∧ (cmpZ x z = 0 → cmpZ x y = 0 ∧ cmpZ y z = 0) := by
  have h' : x ≤ y := by unfold cmpZ at h; split at h <;> (try split at h) <;> omega
  have k' : y ≤ z := by unfold cmpZ at k; split at k <;> (try split at k) <;> omega
  refine ⟨?_, fun e => ?_⟩
  · unfold cmpZ; repeat' split <;> omega
  · have := cmpZ_zero.1 e
    exact ⟨cmpZ_zero.2 (by omega), cmpZ_zero.2 (by omega)⟩
theorem cv_eq (k n : Int) (s : List UInt8) (k' n' : Int) (s' : List UInt8) : cv k n s k' n' s' = if cmpZ k k' = 0 then (if cmpZ n n' = 0 then cmpS s s' else cmpZ n n') else cmpZ k k' := by
  unfold cv orL orL orL orL
  by_cases h : cmpZ k k' = 0
  · rw [if_pos h, if_pos h]
    by_cases h2 : cmpZ n n' = 0
    · rw [if_pos h2, if_pos h2]; split <;> rename_i h3 <;> first | exact h3.symm | rfl
    · rw [if_neg h2, if_neg h2]
  · rw [if_neg h, if_neg h]
theorem cv_swap (k n : Int) (s : List UInt8) (k' n' : Int) (s' : List UInt8) : cv k' n' s' k n s = - cv k n s k' n' s' := by
  rw [cv_eq, cv_eq, cmpZ_swap k k', cmpZ_swap n n', cmpS_swap s s']
  repeat' split <;> omega
theorem cv_zero {k n : Int} {s : List UInt8} {k' n' : Int} {s' : List UInt8} : cv k n s k' n' s' = 0 ↔ (k = k' ∧ n = n' ∧ s = s') := by
  rw [cv_eq, ← cmpZ_zero (x := k), ← cmpZ_zero (x := n), ← cmpS_zero]
  by_cases h : cmpZ k k' = 0 <;> by_cases h2 : cmpZ n n' = 0 <;> simp [h, h2]
theorem cv_le {k n : Int} {s : List UInt8} {k' n' : Int} {s' : List UInt8} {k2 n2 : Int} {s2 : List UInt8} (h : cv k n s k' n' s' ≤ 0) (hk : cv k' n' s' k2 n2 s2 ≤ 0) : cv k n s k2 n2 s2 ≤ 0 := by
  rw [cv_eq] at h hk ⊢
  have a1 : cmpZ k k' ≤ 0 := by split at h <;> omega
  have a2 : cmpZ k' k2 ≤ 0 := by split at hk <;> omega
  obtain ⟨a3, a4⟩ := cmpZ_le a1 a2
  by_cases e : cmpZ k k2 = 0
  · obtain ⟨e1, e2⟩ := a4 e
    rw [if_pos e1] at h
    rw [if_pos e2] at hk
    rw [if_pos e]
    have b1 : cmpZ n n' ≤ 0 := by split at h <;> omega
    have b2 : cmpZ n' n2 ≤ 0 := by split at hk <;> omega
    obtain ⟨b3, b4⟩ := cmpZ_le b1 b2
    by_cases f : cmpZ n n2 = 0
    · obtain ⟨f1, f2⟩ := b4 f
      rw [if_pos f1] at h
      rw [if_pos f2] at hk
      rw [if_pos f]
      exact (cmpS_le h hk).1
    · rw [if_neg f]; exact b3
  · rw [if_neg e]; exact a3
theorem Two_3 {k n : Int} {s : List UInt8} {n' : Int} {s' : List UInt8} (hk : ¬ k = 4) (r : Int) (hr : (cv k n s k n' s' < 0 ∧ r = 1) ∨ (¬ cv k n s k n' s' < 0 ∧ r = 0)) : FnP Tryz.prog gl 9 [iD 3, vlD k n s, vlD k n' s'] (vlD 3 r []) := by
  rcases hr with ⟨h, rfl⟩ | ⟨h, rfl⟩
  · refine fnP_of_vc (nv := 9999) (cu := []) fits mixed Tryz.func9 rfl (by unfold HasBody; kernel_rfl) rfl ?_
    ((repeat' ((conv => whnf); (first | refine Fork.yes (by assumption) ?_ | refine Fork.no (by assumption) ?_ | refine Fork.nono (by assumption) ?_ | (refine Fork.yes ?_ ?_; focus (simp [andPD]; done)) | (refine Fork.no ?_ ?_; focus (simp [andPD]; done)) | refine Fork.neg (fun _ => ?_) (fun _ => ?_) | refine Fork.mk (fun _ => ?_) (fun _ => ?_) | refine Or.inl (Or.inl (Exists.intro _ (And.intro (by first | exact IsBad_d _ _ _ | exact like_same k n s n' s' | exact like_same k n' s' n s | exact vCompare_d _ _ _ _ _ _ | exact Is_y _ h) ?_))) | refine Or.inl (Exists.intro _ (And.intro (by first | exact IsBad_d _ _ _ | exact like_same k n s n' s' | exact like_same k n' s' n s | exact vCompare_d _ _ _ _ _ _ | exact Is_y _ h) ?_)) | refine Exists.intro _ (And.intro (by first | exact IsBad_d _ _ _ | exact like_same k n s n' s' | exact like_same k n' s' n s | exact vCompare_d _ _ _ _ _ _ | exact Is_y _ h) ?_) | refine Both.mk ?_ ?_ | (refine And.intro ?_ ?_; focus (first | (kernel_rfl; done) | (first | assumption | omega | (simp; done); done)))))); (all_goals (conv => whnf)))
    all_goals exact LeD.rfl
  · refine fnP_of_vc (nv := 9999) (cu := []) fits mixed Tryz.func9 rfl (by unfold HasBody; kernel_rfl) rfl ?_
    ((repeat' ((conv => whnf); (first | refine Fork.yes (by assumption) ?_ | refine Fork.no (by assumption) ?_ | refine Fork.nono (by assumption) ?_ | (refine Fork.yes ?_ ?_; focus (simp [andPD]; done)) | (refine Fork.no ?_ ?_; focus (simp [andPD]; done)) | refine Fork.neg (fun _ => ?_) (fun _ => ?_) | refine Fork.mk (fun _ => ?_) (fun _ => ?_) | refine Or.inl (Or.inl (Exists.intro _ (And.intro (by first | exact IsBad_d _ _ _ | exact like_same k n s n' s' | exact like_same k n' s' n s | exact vCompare_d _ _ _ _ _ _ | exact Is_n _ h) ?_))) | refine Or.inl (Exists.intro _ (And.intro (by first | exact IsBad_d _ _ _ | exact like_same k n s n' s' | exact like_same k n' s' n s | exact vCompare_d _ _ _ _ _ _ | exact Is_n _ h) ?_)) | refine Exists.intro _ (And.intro (by first | exact IsBad_d _ _ _ | exact like_same k n s n' s' | exact like_same k n' s' n s | exact vCompare_d _ _ _ _ _ _ | exact Is_n _ h) ?_) | refine Both.mk ?_ ?_ | (refine And.intro ?_ ?_; focus (first | (kernel_rfl; done) | (first | assumption | omega | (simp; done); done)))))); (all_goals (conv => whnf)))
    all_goals exact LeD.rfl
theorem Two_1 {k n : Int} {s : List UInt8} {n' : Int} {s' : List UInt8} (hk : ¬ k = 4) (r : Int) (hr : (cv k n s k n' s' = 0 ∧ r = 1) ∨ (¬ cv k n s k n' s' = 0 ∧ r = 0)) : FnP Tryz.prog gl 9 [iD 1, vlD k n s, vlD k n' s'] (vlD 3 r []) := by
  rcases hr with ⟨h, rfl⟩ | ⟨h, rfl⟩
  · refine fnP_of_vc (nv := 9999) (cu := []) fits mixed Tryz.func9 rfl (by unfold HasBody; kernel_rfl) rfl ?_
    ((repeat' ((conv => whnf); (first | refine Fork.yes (by assumption) ?_ | refine Fork.no (by assumption) ?_ | refine Fork.nono (by assumption) ?_ | (refine Fork.yes ?_ ?_; focus (simp [andPD]; done)) | (refine Fork.no ?_ ?_; focus (simp [andPD]; done)) | refine Fork.neg (fun _ => ?_) (fun _ => ?_) | refine Fork.mk (fun _ => ?_) (fun _ => ?_) | refine Or.inl (Or.inl (Exists.intro _ (And.intro (by first | exact IsBad_d _ _ _ | exact like_same k n s n' s' | exact like_same k n' s' n s | exact vCompare_d _ _ _ _ _ _ | exact Is_y _ h) ?_))) | refine Or.inl (Exists.intro _ (And.intro (by first | exact IsBad_d _ _ _ | exact like_same k n s n' s' | exact like_same k n' s' n s | exact vCompare_d _ _ _ _ _ _ | exact Is_y _ h) ?_)) | refine Exists.intro _ (And.intro (by first | exact IsBad_d _ _ _ | exact like_same k n s n' s' | exact like_same k n' s' n s | exact vCompare_d _ _ _ _ _ _ | exact Is_y _ h) ?_) | refine Both.mk ?_ ?_ | (refine And.intro ?_ ?_; focus (first | (kernel_rfl; done) | (first | assumption | omega | (simp; done); done)))))); (all_goals (conv => whnf)))
    all_goals exact LeD.rfl
  · refine fnP_of_vc (nv := 9999) (cu := []) fits mixed Tryz.func9 rfl (by unfold HasBody; kernel_rfl) rfl ?_
    ((repeat' ((conv => whnf); (first | refine Fork.yes (by assumption) ?_ | refine Fork.no (by assumption) ?_ | refine Fork.nono (by assumption) ?_ | (refine Fork.yes ?_ ?_; focus (simp [andPD]; done)) | (refine Fork.no ?_ ?_; focus (simp [andPD]; done)) | refine Fork.neg (fun _ => ?_) (fun _ => ?_) | refine Fork.mk (fun _ => ?_) (fun _ => ?_) | refine Or.inl (Or.inl (Exists.intro _ (And.intro (by first | exact IsBad_d _ _ _ | exact like_same k n s n' s' | exact like_same k n' s' n s | exact vCompare_d _ _ _ _ _ _ | exact Is_n _ h) ?_))) | refine Or.inl (Exists.intro _ (And.intro (by first | exact IsBad_d _ _ _ | exact like_same k n s n' s' | exact like_same k n' s' n s | exact vCompare_d _ _ _ _ _ _ | exact Is_n _ h) ?_)) | refine Exists.intro _ (And.intro (by first | exact IsBad_d _ _ _ | exact like_same k n s n' s' | exact like_same k n' s' n s | exact vCompare_d _ _ _ _ _ _ | exact Is_n _ h) ?_) | refine Both.mk ?_ ?_ | (refine And.intro ?_ ?_; focus (first | (kernel_rfl; done) | (first | assumption | omega | (simp; done); done)))))); (all_goals (conv => whnf)))
    all_goals exact LeD.rfl
end Go.Proofs.YtbkhfmgdnnaaoaaGreatDoor
