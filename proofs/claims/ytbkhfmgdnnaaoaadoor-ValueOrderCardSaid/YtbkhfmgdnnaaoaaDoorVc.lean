/- Proved: the law ValueOrder, called with any data, answers true. No condition. -/
import Derived.Test.YtbkhfmgdnnaaoaaDoorVb
namespace Go.Proofs.YtbkhfmgdnnaaoaaDoor
open Go Go.EYtbkhfmgdnnaaoaaDoor
set_option maxRecDepth 100000
variable {gl : List (Nat × List D)}
theorem cmpZ_range (x y : Int) : -1 ≤ cmpZ x y ∧ cmpZ x y ≤ 1 := by unfold cmpZ; repeat' split <;> omega
theorem cv_range (k n : Int) (s : List UInt8) (k' n' : Int) (s' : List UInt8) : -1 ≤ cv k n s k' n' s' ∧ cv k n s k' n' s' ≤ 1 := by
  rw [cv_eq]
  have h1 := cmpZ_range k k'
  have h2 := cmpZ_range n n'
  have h3 : -1 ≤ cmpS s s' ∧ cmpS s s' ≤ 1 := by rcases cmpS_cases s s' with h | h | h <;> omega
  split
  · split
    · exact h3
    · exact h2
  · exact h1
theorem factO : FnP Tryd.prog gl 37 [vlD 1 1 [], vlD 2 0 []] (iD (-1)) := vCompare_d 1 1 [] 2 0 []
theorem ValueOrder_d (k1 n1 : Int) (s1 : List UInt8) (k2 n2 : Int) (s2 : List UInt8) (k3 n3 : Int) (s3 : List UInt8) : FnP Tryd.prog gl 9 [vlD k1 n1 s1, vlD k2 n2 s2, vlD k3 n3 s3] (.v (.bool true)) := by
  by_cases h1 : isV k1 n1 s1
  · by_cases h2 : isV k2 n2 s2
    · by_cases h3 : isV k3 n3 s3
      · have hz := cv_zero (k := k1) (n := n1) (s := s1) (k' := k2) (n' := n2) (s' := s2)
        have hr := cv_range k1 n1 s1 k2 n2 s2
        have ht := cv_le (k := k1) (n := n1) (s := s1) (k' := k2) (n' := n2) (s' := s2) (k2 := k3) (n2 := n3) (s2 := s3)
        have c1 := vCompare_d (gl := gl) k1 n1 s1 k2 n2 s2
        have c2 := vCompare_d (gl := gl) k2 n2 s2 k1 n1 s1
        have c3 := vCompare_d (gl := gl) k2 n2 s2 k3 n3 s3
        have c4 := vCompare_d (gl := gl) k1 n1 s1 k3 n3 s3
        rw [cv_swap k1 n1 s1 k2 n2 s2] at c2
        have T3 : k1 = k2 → ¬ k1 = 4 → FnP Tryd.prog gl 34 [iD 3, vlD k1 n1 s1, vlD k2 n2 s2] (vlD 3 (if cv k1 n1 s1 k2 n2 s2 < 0 then 1 else 0) []) := fun e h4 => by
          subst e; exact Two_3 h4 _ (by by_cases h : cv k1 n1 s1 k1 n2 s2 < 0 <;> simp [h])
        have T1 : k1 = k2 → ¬ k1 = 4 → FnP Tryd.prog gl 34 [iD 1, vlD k1 n1 s1, vlD k2 n2 s2] (vlD 3 (if cv k1 n1 s1 k2 n2 s2 = 0 then 1 else 0) []) := fun e h4 => by
          subst e; exact Two_1 h4 _ (by by_cases h : cv k1 n1 s1 k1 n2 s2 = 0 <;> simp [h])
        generalize cv k1 n1 s1 k2 n2 s2 = x at *
        generalize cv k2 n2 s2 k3 n3 s3 = y at *
        generalize cv k1 n1 s1 k3 n3 s3 = z at *
        have hw : x = IntKind.i64.wrap (0 - -x) := by rw [wrapI (by omega)]; omega
        by_cases e4 : k1 = k2
        · by_cases h4 : k1 = 4
          · refine fnP_of_vc (nv := 9999) (cu := []) fits mixed Tryd.func9 rfl (by unfold HasBody; kernel_rfl) rfl ?_
            ((repeat' ((conv => whnf); (first | refine Fork.yes (by assumption) ?_ | refine Fork.no (by assumption) ?_ | refine Fork.nono (by assumption) ?_ | (refine Fork.yes ?_ ?_; focus (simp [andPD]; done)) | (refine Fork.no ?_ ?_; focus (simp [andPD]; done)) | refine Fork.neg (fun _ => ?_) (fun _ => ?_) | refine Fork.mk (fun _ => ?_) (fun _ => ?_) | refine Or.inl (Or.inl (Exists.intro _ (And.intro (by first | exact rNum_d _ | exact rTxt_d _ | exact factO | exact vCheck_s h1 | exact vCheck_s h2 | exact vCheck_s h3 | exact c1 | exact c2 | exact c3 | exact c4) ?_))) | refine Or.inl (Exists.intro _ (And.intro (by first | exact rNum_d _ | exact rTxt_d _ | exact factO | exact vCheck_s h1 | exact vCheck_s h2 | exact vCheck_s h3 | exact c1 | exact c2 | exact c3 | exact c4) ?_)) | refine Exists.intro _ (And.intro (by first | exact rNum_d _ | exact rTxt_d _ | exact factO | exact vCheck_s h1 | exact vCheck_s h2 | exact vCheck_s h3 | exact c1 | exact c2 | exact c3 | exact c4) ?_) | (refine And.intro ?_ ?_; focus (first | (kernel_rfl; done) | (first | assumption | omega | (simp; done); done)))))); (all_goals (conv => whnf)))
            all_goals first | exact LeD.rfl | exact LeD.vt (by simp [andPD]) | (exfalso; have := ht (by assumption) (by assumption); omega) | (exfalso; rename_i hh; exact hh (by simpa [andPD] using hz))
          · have TA := T3 e4 h4
            have TB := T1 e4 h4
            rcases Int.lt_trichotomy x 0 with hx | hx | hx
            · have hx0 : ¬ x = 0 := by omega
              rw [if_pos hx] at TA
              rw [if_neg hx0] at TB
              refine fnP_of_vc (nv := 9999) (cu := []) fits mixed Tryd.func9 rfl (by unfold HasBody; kernel_rfl) rfl ?_
              ((repeat' ((conv => whnf); (first | refine Fork.yes (by assumption) ?_ | refine Fork.no (by assumption) ?_ | refine Fork.nono (by assumption) ?_ | (refine Fork.yes ?_ ?_; focus (simp [andPD]; done)) | (refine Fork.no ?_ ?_; focus (simp [andPD]; done)) | refine Fork.neg (fun _ => ?_) (fun _ => ?_) | refine Fork.mk (fun _ => ?_) (fun _ => ?_) | refine Or.inl (Or.inl (Exists.intro _ (And.intro (by first | exact rNum_d _ | exact rTxt_d _ | exact factO | exact vCheck_s h1 | exact vCheck_s h2 | exact vCheck_s h3 | exact c1 | exact c2 | exact c3 | exact c4 | exact TA | exact TB | exact rTru_y _ hx | exact rTru_n _ hx0) ?_))) | refine Or.inl (Exists.intro _ (And.intro (by first | exact rNum_d _ | exact rTxt_d _ | exact factO | exact vCheck_s h1 | exact vCheck_s h2 | exact vCheck_s h3 | exact c1 | exact c2 | exact c3 | exact c4 | exact TA | exact TB | exact rTru_y _ hx | exact rTru_n _ hx0) ?_)) | refine Exists.intro _ (And.intro (by first | exact rNum_d _ | exact rTxt_d _ | exact factO | exact vCheck_s h1 | exact vCheck_s h2 | exact vCheck_s h3 | exact c1 | exact c2 | exact c3 | exact c4 | exact TA | exact TB | exact rTru_y _ hx | exact rTru_n _ hx0) ?_) | (refine And.intro ?_ ?_; focus (first | (kernel_rfl; done) | (first | assumption | omega | (simp; done); done)))))); (all_goals (conv => whnf)))
              all_goals first | exact LeD.rfl | exact LeD.vt (by simp [andPD]) | (exfalso; have := ht (by assumption) (by assumption); omega) | (exfalso; rename_i hh; exact hh (by simpa [andPD] using hz))
            · have hx0 : ¬ x < 0 := by omega
              rw [if_neg hx0] at TA
              rw [if_pos hx] at TB
              refine fnP_of_vc (nv := 9999) (cu := []) fits mixed Tryd.func9 rfl (by unfold HasBody; kernel_rfl) rfl ?_
              ((repeat' ((conv => whnf); (first | refine Fork.yes (by assumption) ?_ | refine Fork.no (by assumption) ?_ | refine Fork.nono (by assumption) ?_ | (refine Fork.yes ?_ ?_; focus (simp [andPD]; done)) | (refine Fork.no ?_ ?_; focus (simp [andPD]; done)) | refine Fork.neg (fun _ => ?_) (fun _ => ?_) | refine Fork.mk (fun _ => ?_) (fun _ => ?_) | refine Or.inl (Or.inl (Exists.intro _ (And.intro (by first | exact rNum_d _ | exact rTxt_d _ | exact factO | exact vCheck_s h1 | exact vCheck_s h2 | exact vCheck_s h3 | exact c1 | exact c2 | exact c3 | exact c4 | exact TA | exact TB | exact rTru_y _ hx | exact rTru_n _ hx0) ?_))) | refine Or.inl (Exists.intro _ (And.intro (by first | exact rNum_d _ | exact rTxt_d _ | exact factO | exact vCheck_s h1 | exact vCheck_s h2 | exact vCheck_s h3 | exact c1 | exact c2 | exact c3 | exact c4 | exact TA | exact TB | exact rTru_y _ hx | exact rTru_n _ hx0) ?_)) | refine Exists.intro _ (And.intro (by first | exact rNum_d _ | exact rTxt_d _ | exact factO | exact vCheck_s h1 | exact vCheck_s h2 | exact vCheck_s h3 | exact c1 | exact c2 | exact c3 | exact c4 | exact TA | exact TB | exact rTru_y _ hx | exact rTru_n _ hx0) ?_) | (refine And.intro ?_ ?_; focus (first | (kernel_rfl; done) | (first | assumption | omega | (simp; done); done)))))); (all_goals (conv => whnf)))
              all_goals first | exact LeD.rfl | exact LeD.vt (by simp [andPD]) | (exfalso; have := ht (by assumption) (by assumption); omega) | (exfalso; rename_i hh; exact hh (by simpa [andPD] using hz))
            · have hx0 : ¬ x = 0 := by omega
              have hx1 : ¬ x < 0 := by omega
              rw [if_neg hx1] at TA
              rw [if_neg hx0] at TB
              refine fnP_of_vc (nv := 9999) (cu := []) fits mixed Tryd.func9 rfl (by unfold HasBody; kernel_rfl) rfl ?_
              ((repeat' ((conv => whnf); (first | refine Fork.yes (by assumption) ?_ | refine Fork.no (by assumption) ?_ | refine Fork.nono (by assumption) ?_ | (refine Fork.yes ?_ ?_; focus (simp [andPD]; done)) | (refine Fork.no ?_ ?_; focus (simp [andPD]; done)) | refine Fork.neg (fun _ => ?_) (fun _ => ?_) | refine Fork.mk (fun _ => ?_) (fun _ => ?_) | refine Or.inl (Or.inl (Exists.intro _ (And.intro (by first | exact rNum_d _ | exact rTxt_d _ | exact factO | exact vCheck_s h1 | exact vCheck_s h2 | exact vCheck_s h3 | exact c1 | exact c2 | exact c3 | exact c4 | exact TA | exact TB | exact rTru_n _ hx1 | exact rTru_n _ hx0) ?_))) | refine Or.inl (Exists.intro _ (And.intro (by first | exact rNum_d _ | exact rTxt_d _ | exact factO | exact vCheck_s h1 | exact vCheck_s h2 | exact vCheck_s h3 | exact c1 | exact c2 | exact c3 | exact c4 | exact TA | exact TB | exact rTru_n _ hx1 | exact rTru_n _ hx0) ?_)) | refine Exists.intro _ (And.intro (by first | exact rNum_d _ | exact rTxt_d _ | exact factO | exact vCheck_s h1 | exact vCheck_s h2 | exact vCheck_s h3 | exact c1 | exact c2 | exact c3 | exact c4 | exact TA | exact TB | exact rTru_n _ hx1 | exact rTru_n _ hx0) ?_) | (refine And.intro ?_ ?_; focus (first | (kernel_rfl; done) | (first | assumption | omega | (simp; done); done)))))); (all_goals (conv => whnf)))
              all_goals first | exact LeD.rfl | exact LeD.vt (by simp [andPD]) | (exfalso; have := ht (by assumption) (by assumption); omega) | (exfalso; rename_i hh; exact hh (by simpa [andPD] using hz))
        · refine fnP_of_vc (nv := 9999) (cu := []) fits mixed Tryd.func9 rfl (by unfold HasBody; kernel_rfl) rfl ?_
          ((repeat' ((conv => whnf); (first | refine Fork.yes (by assumption) ?_ | refine Fork.no (by assumption) ?_ | refine Fork.nono (by assumption) ?_ | (refine Fork.yes ?_ ?_; focus (simp [andPD]; done)) | (refine Fork.no ?_ ?_; focus (simp [andPD]; done)) | refine Fork.neg (fun _ => ?_) (fun _ => ?_) | refine Fork.mk (fun _ => ?_) (fun _ => ?_) | refine Or.inl (Or.inl (Exists.intro _ (And.intro (by first | exact rNum_d _ | exact rTxt_d _ | exact factO | exact vCheck_s h1 | exact vCheck_s h2 | exact vCheck_s h3 | exact c1 | exact c2 | exact c3 | exact c4) ?_))) | refine Or.inl (Exists.intro _ (And.intro (by first | exact rNum_d _ | exact rTxt_d _ | exact factO | exact vCheck_s h1 | exact vCheck_s h2 | exact vCheck_s h3 | exact c1 | exact c2 | exact c3 | exact c4) ?_)) | refine Exists.intro _ (And.intro (by first | exact rNum_d _ | exact rTxt_d _ | exact factO | exact vCheck_s h1 | exact vCheck_s h2 | exact vCheck_s h3 | exact c1 | exact c2 | exact c3 | exact c4) ?_) | (refine And.intro ?_ ?_; focus (first | (kernel_rfl; done) | (first | assumption | omega | (simp; done); done)))))); (all_goals (conv => whnf)))
          all_goals first | exact LeD.rfl | exact LeD.vt (by simp [andPD]) | (exfalso; have := ht (by assumption) (by assumption); omega) | (exfalso; rename_i hh; exact hh (by simpa [andPD] using hz))
      · refine fnP_of_vc (nv := 9999) (cu := []) fits mixed Tryd.func9 rfl (by unfold HasBody; kernel_rfl) rfl ?_
        ((repeat' ((conv => whnf); (first | refine Fork.yes (by assumption) ?_ | refine Fork.no (by assumption) ?_ | refine Fork.nono (by assumption) ?_ | (refine Fork.yes ?_ ?_; focus (simp [andPD]; done)) | (refine Fork.no ?_ ?_; focus (simp [andPD]; done)) | refine Fork.neg (fun _ => ?_) (fun _ => ?_) | refine Fork.mk (fun _ => ?_) (fun _ => ?_) | refine Or.inl (Or.inl (Exists.intro _ (And.intro (by first | exact rNum_d _ | exact rTxt_d _ | exact factO | exact vCheck_s h1 | exact vCheck_s h2 | exact vCheck_n h3) ?_))) | refine Or.inl (Exists.intro _ (And.intro (by first | exact rNum_d _ | exact rTxt_d _ | exact factO | exact vCheck_s h1 | exact vCheck_s h2 | exact vCheck_n h3) ?_)) | refine Exists.intro _ (And.intro (by first | exact rNum_d _ | exact rTxt_d _ | exact factO | exact vCheck_s h1 | exact vCheck_s h2 | exact vCheck_n h3) ?_) | (refine And.intro ?_ ?_; focus (first | (kernel_rfl; done) | (first | assumption | omega | (simp; done); done)))))); (all_goals (conv => whnf)))
        all_goals exact LeD.rfl
    · by_cases h3 : isV k3 n3 s3
      · refine fnP_of_vc (nv := 9999) (cu := []) fits mixed Tryd.func9 rfl (by unfold HasBody; kernel_rfl) rfl ?_
        ((repeat' ((conv => whnf); (first | refine Fork.yes (by assumption) ?_ | refine Fork.no (by assumption) ?_ | refine Fork.nono (by assumption) ?_ | (refine Fork.yes ?_ ?_; focus (simp [andPD]; done)) | (refine Fork.no ?_ ?_; focus (simp [andPD]; done)) | refine Fork.neg (fun _ => ?_) (fun _ => ?_) | refine Fork.mk (fun _ => ?_) (fun _ => ?_) | refine Or.inl (Or.inl (Exists.intro _ (And.intro (by first | exact rNum_d _ | exact rTxt_d _ | exact factO | exact vCheck_s h1 | exact vCheck_n h2 | exact vCheck_s h3) ?_))) | refine Or.inl (Exists.intro _ (And.intro (by first | exact rNum_d _ | exact rTxt_d _ | exact factO | exact vCheck_s h1 | exact vCheck_n h2 | exact vCheck_s h3) ?_)) | refine Exists.intro _ (And.intro (by first | exact rNum_d _ | exact rTxt_d _ | exact factO | exact vCheck_s h1 | exact vCheck_n h2 | exact vCheck_s h3) ?_) | (refine And.intro ?_ ?_; focus (first | (kernel_rfl; done) | (first | assumption | omega | (simp; done); done)))))); (all_goals (conv => whnf)))
        all_goals exact LeD.rfl
      · refine fnP_of_vc (nv := 9999) (cu := []) fits mixed Tryd.func9 rfl (by unfold HasBody; kernel_rfl) rfl ?_
        ((repeat' ((conv => whnf); (first | refine Fork.yes (by assumption) ?_ | refine Fork.no (by assumption) ?_ | refine Fork.nono (by assumption) ?_ | (refine Fork.yes ?_ ?_; focus (simp [andPD]; done)) | (refine Fork.no ?_ ?_; focus (simp [andPD]; done)) | refine Fork.neg (fun _ => ?_) (fun _ => ?_) | refine Fork.mk (fun _ => ?_) (fun _ => ?_) | refine Or.inl (Or.inl (Exists.intro _ (And.intro (by first | exact rNum_d _ | exact rTxt_d _ | exact factO | exact vCheck_s h1 | exact vCheck_n h2 | exact vCheck_n h3) ?_))) | refine Or.inl (Exists.intro _ (And.intro (by first | exact rNum_d _ | exact rTxt_d _ | exact factO | exact vCheck_s h1 | exact vCheck_n h2 | exact vCheck_n h3) ?_)) | refine Exists.intro _ (And.intro (by first | exact rNum_d _ | exact rTxt_d _ | exact factO | exact vCheck_s h1 | exact vCheck_n h2 | exact vCheck_n h3) ?_) | (refine And.intro ?_ ?_; focus (first | (kernel_rfl; done) | (first | assumption | omega | (simp; done); done)))))); (all_goals (conv => whnf)))
        all_goals exact LeD.rfl
  · by_cases h2 : isV k2 n2 s2 <;> by_cases h3 : isV k3 n3 s3
    all_goals refine fnP_of_vc (nv := 9999) (cu := []) fits mixed Tryd.func9 rfl (by unfold HasBody; kernel_rfl) rfl ?_
    all_goals ((repeat' ((conv => whnf); (first | refine Fork.yes (by assumption) ?_ | refine Fork.no (by assumption) ?_ | refine Fork.nono (by assumption) ?_ | (refine Fork.yes ?_ ?_; focus (simp [andPD]; done)) | (refine Fork.no ?_ ?_; focus (simp [andPD]; done)) | refine Fork.neg (fun _ => ?_) (fun _ => ?_) | refine Fork.mk (fun _ => ?_) (fun _ => ?_) | refine Or.inl (Or.inl (Exists.intro _ (And.intro (by first | exact rNum_d _ | exact rTxt_d _ | exact factO | exact vCheck_n h1 | exact vCheck_s h2 | exact vCheck_n h2 | exact vCheck_s h3 | exact vCheck_n h3) ?_))) | refine Or.inl (Exists.intro _ (And.intro (by first | exact rNum_d _ | exact rTxt_d _ | exact factO | exact vCheck_n h1 | exact vCheck_s h2 | exact vCheck_n h2 | exact vCheck_s h3 | exact vCheck_n h3) ?_)) | refine Exists.intro _ (And.intro (by first | exact rNum_d _ | exact rTxt_d _ | exact factO | exact vCheck_n h1 | exact vCheck_s h2 | exact vCheck_n h2 | exact vCheck_s h3 | exact vCheck_n h3) ?_) | (refine And.intro ?_ ?_; focus (first | (kernel_rfl; done) | (first | assumption | omega | (simp; done); done)))))); (all_goals (conv => whnf)))
    all_goals exact LeD.rfl
end Go.Proofs.YtbkhfmgdnnaaoaaDoor
