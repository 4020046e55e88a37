/- Proved: the law ValueRing, called with any two numbers of 64 bits, answers true. No condition. -/
import Derived.Test.YtbkhfmgdnnaaoaaDoorRa
namespace Go.Proofs.YtbkhfmgdnnaaoaaDoor
open Go Go.EYtbkhfmgdnnaaoaaDoor
set_option maxRecDepth 100000
variable {gl : List (Nat × List D)}
theorem ValueRing_d (a b : Int) (ha : okI a) (hb : okI b) : FnP Tryd.prog gl 8 [iD a, iD b] (.v (.bool true)) := by
  have f1 : FnP Tryd.prog gl 34 [iD 8, vlD 1 2 [], vlD 1 3 []] (vlD 1 5 []) := Two_ar (by omega) (by omega) (rk8_s (by omega) (by omega) (by omega))
  have sum : ∃ k n, (k = 1 → n = a + b ∧ okI (a + b)) ∧ FnP Tryd.prog gl 34 [iD 8, vlD 1 a [], vlD 1 b []] (vlD k n []) ∧ FnP Tryd.prog gl 34 [iD 8, vlD 1 b [], vlD 1 a []] (vlD k n []) := by
    by_cases h : okI (a + b)
    · refine ⟨1, a + b, fun _ => ⟨rfl, h⟩, Two_ar (by omega) (by omega) (rk8_s ha hb h), ?_⟩
      rw [Int.add_comm a b] at h ⊢
      exact Two_ar (by omega) (by omega) (rk8_s hb ha h)
    · refine ⟨4, 5, fun h => by omega, Two_ar (by omega) (by omega) (rk8_n ha hb h), ?_⟩
      rw [Int.add_comm a b] at h
      exact Two_ar (by omega) (by omega) (rk8_n hb ha h)
  have prod : ∃ k n, FnP Tryd.prog gl 34 [iD 10, vlD 1 a [], vlD 1 b []] (vlD k n []) ∧ FnP Tryd.prog gl 34 [iD 10, vlD 1 b [], vlD 1 a []] (vlD k n []) := by
    by_cases h : okI (a * b)
    · refine ⟨1, a * b, Two_ar (by omega) (by omega) (rk10_s ha hb h), ?_⟩
      rw [Int.mul_comm a b] at h ⊢
      exact Two_ar (by omega) (by omega) (rk10_s hb ha h)
    · refine ⟨4, 5, Two_ar (by omega) (by omega) (rk10_n ha hb h), ?_⟩
      rw [Int.mul_comm a b] at h
      exact Two_ar (by omega) (by omega) (rk10_n hb ha h)
  obtain ⟨ks, ns, h1, s1, s2⟩ := sum
  obtain ⟨kp, np, p1, p2⟩ := prod
  have bk : ks = 1 → FnP Tryd.prog gl 34 [iD 9, vlD ks ns [], vlD 1 b []] (vlD 1 a []) := fun h => by
    obtain ⟨rfl, h2⟩ := h1 h
    subst h
    have e : a + b - b = a := by omega
    have := Two_ar (gl := gl) (by omega) (by omega) (rk9_s (a := a + b) (b := b) h2 hb (by omega))
    rwa [e] at this
  clear h1
  by_cases h0 : b = 0
  · subst h0
    have d1 := Two_ar (gl := gl) (by omega) (by omega) (rk11_0 a)
    by_cases hk : ks = 1
    · have bk1 := bk hk
      refine fnP_of_vc (nv := 9999) (cu := []) fits mixed Tryd.func8 rfl (by unfold HasBody; kernel_rfl) rfl ?_
      ((repeat' ((conv => whnf); (first | refine Fork.yes (by assumption) ?_ | refine Fork.no (by assumption) ?_ | refine Fork.nono (by assumption) ?_ | (refine Fork.yes ?_ ?_; focus (simp [andPD]; done)) | (refine Fork.no ?_ ?_; focus (simp [andPD]; done)) | refine Fork.neg (fun _ => ?_) (fun _ => ?_) | refine Fork.mk (fun _ => ?_) (fun _ => ?_) | refine Or.inl (Or.inl (Exists.intro _ (And.intro (by first | exact rNum_d _ | exact rBad_d _ | exact f1 | exact s1 | exact s2 | exact p1 | exact p2 | exact bk1 | exact d1 | exact Mod_0 a) ?_))) | refine Or.inl (Exists.intro _ (And.intro (by first | exact rNum_d _ | exact rBad_d _ | exact f1 | exact s1 | exact s2 | exact p1 | exact p2 | exact bk1 | exact d1 | exact Mod_0 a) ?_)) | refine Exists.intro _ (And.intro (by first | exact rNum_d _ | exact rBad_d _ | exact f1 | exact s1 | exact s2 | exact p1 | exact p2 | exact bk1 | exact d1 | exact Mod_0 a) ?_) | (refine And.intro ?_ ?_; focus (first | (kernel_rfl; done) | (first | assumption | omega | (simp; done); done)))))); (all_goals (conv => whnf)))
      all_goals first | exact LeD.rfl | exact LeD.vt (by simp [andPD])
    · refine fnP_of_vc (nv := 9999) (cu := []) fits mixed Tryd.func8 rfl (by unfold HasBody; kernel_rfl) rfl ?_
      ((repeat' ((conv => whnf); (first | refine Fork.yes (by assumption) ?_ | refine Fork.no (by assumption) ?_ | refine Fork.nono (by assumption) ?_ | (refine Fork.yes ?_ ?_; focus (simp [andPD]; done)) | (refine Fork.no ?_ ?_; focus (simp [andPD]; done)) | refine Fork.neg (fun _ => ?_) (fun _ => ?_) | refine Fork.mk (fun _ => ?_) (fun _ => ?_) | refine Or.inl (Or.inl (Exists.intro _ (And.intro (by first | exact rNum_d _ | exact rBad_d _ | exact f1 | exact s1 | exact s2 | exact p1 | exact p2 | exact d1 | exact Mod_0 a) ?_))) | refine Or.inl (Exists.intro _ (And.intro (by first | exact rNum_d _ | exact rBad_d _ | exact f1 | exact s1 | exact s2 | exact p1 | exact p2 | exact d1 | exact Mod_0 a) ?_)) | refine Exists.intro _ (And.intro (by first | exact rNum_d _ | exact rBad_d _ | exact f1 | exact s1 | exact s2 | exact p1 | exact p2 | exact d1 | exact Mod_0 a) ?_) | (refine And.intro ?_ ?_; focus (first | (kernel_rfl; done) | (first | assumption | omega | (simp; done); done)))))); (all_goals (conv => whnf)))
      all_goals first | exact LeD.rfl | exact LeD.vt (by simp [andPD])
  · have m1 := Mod_s (gl := gl) ha hb h0
    obtain ⟨m2, m3⟩ := fmod_facts a h0
    have m4 := Int.mul_fdiv_add_fmod a b
    generalize a.fmod b = m at *
    generalize a.fdiv b = q at *
    have dif : ∃ k n, (k = 1 → n = a - m ∧ okI (a - m)) ∧ FnP Tryd.prog gl 34 [iD 9, vlD 1 a [], vlD 1 m []] (vlD k n []) := by
      by_cases h : okI (a - m)
      · exact ⟨1, a - m, fun _ => ⟨rfl, h⟩, Two_ar (by omega) (by omega) (rk9_s ha (by omega) h)⟩
      · exact ⟨4, 5, fun h => by omega, Two_ar (by omega) (by omega) (rk9_n ha (by omega) h)⟩
    obtain ⟨kd, nd, d1, d2⟩ := dif
    have quo : ∃ k n, (kd = 1 → k = 1 → n = q ∧ okI q) ∧ (kd = 1 → FnP Tryd.prog gl 34 [iD 11, vlD kd nd [], vlD 1 b []] (vlD k n [])) := by
      by_cases hk : kd = 1
      · obtain ⟨rfl, d3⟩ := d1 hk
        subst hk
        have e : (a - m).tdiv b = q := by
          rw [show a - m = b * q by omega]
          exact Int.mul_tdiv_cancel_left q h0
        by_cases h : okI q
        · refine ⟨1, q, fun _ _ => ⟨rfl, h⟩, fun _ => ?_⟩
          rw [← e] at h ⊢
          exact Two_ar (by omega) (by omega) (rk11_s d3 h0 h)
        · refine ⟨4, 5, fun _ h => by omega, fun _ => ?_⟩
          rw [← e] at h
          exact Two_ar (by omega) (by omega) (rk11_n d3 h)
      · exact ⟨0, 0, fun h => absurd h hk, fun h => absurd h hk⟩
    obtain ⟨kq, nq, q1, q2⟩ := quo
    have back : kd = 1 → kq = 1 → FnP Tryd.prog gl 34 [iD 10, vlD kq nq [], vlD 1 b []] (vlD 1 nd []) := fun hk hq => by
      obtain ⟨rfl, d3⟩ := d1 hk
      obtain ⟨rfl, q3⟩ := q1 hk hq
      subst hq
      have e : nq * b = a - m := by rw [Int.mul_comm]; omega
      rw [← e] at d3 ⊢
      exact Two_ar (by omega) (by omega) (rk10_s q3 hb d3)
    clear d1 q1
    by_cases hk : ks = 1
    · have bk1 := bk hk
      by_cases hd : kd = 1
      · have q3 := q2 hd
        by_cases hq : kq = 1
        · have bk2 := back hd hq
          refine fnP_of_vc (nv := 9999) (cu := []) fits mixed Tryd.func8 rfl (by unfold HasBody; kernel_rfl) rfl ?_
          ((repeat' ((conv => whnf); (first | refine Fork.yes (by assumption) ?_ | refine Fork.no (by assumption) ?_ | refine Fork.nono (by assumption) ?_ | (refine Fork.yes ?_ ?_; focus (simp [andPD]; done)) | (refine Fork.no ?_ ?_; focus (simp [andPD]; done)) | refine Fork.neg (fun _ => ?_) (fun _ => ?_) | refine Fork.mk (fun _ => ?_) (fun _ => ?_) | refine Or.inl (Or.inl (Exists.intro _ (And.intro (by first | exact rNum_d _ | exact rBad_d _ | exact f1 | exact s1 | exact s2 | exact p1 | exact p2 | exact bk1 | exact m1 | exact d2 | exact q3 | exact bk2) ?_))) | refine Or.inl (Exists.intro _ (And.intro (by first | exact rNum_d _ | exact rBad_d _ | exact f1 | exact s1 | exact s2 | exact p1 | exact p2 | exact bk1 | exact m1 | exact d2 | exact q3 | exact bk2) ?_)) | refine Exists.intro _ (And.intro (by first | exact rNum_d _ | exact rBad_d _ | exact f1 | exact s1 | exact s2 | exact p1 | exact p2 | exact bk1 | exact m1 | exact d2 | exact q3 | exact bk2) ?_) | (refine And.intro ?_ ?_; focus (first | (kernel_rfl; done) | (first | assumption | omega | (simp; done); done)))))); (all_goals (conv => whnf)))
          all_goals first | exact LeD.rfl | (exfalso; omega) | exact LeD.vt ⟨hd.symm, rfl, rfl⟩ | exact LeD.vt (by simp [andPD, hd])
        · refine fnP_of_vc (nv := 9999) (cu := []) fits mixed Tryd.func8 rfl (by unfold HasBody; kernel_rfl) rfl ?_
          ((repeat' ((conv => whnf); (first | refine Fork.yes (by assumption) ?_ | refine Fork.no (by assumption) ?_ | refine Fork.nono (by assumption) ?_ | (refine Fork.yes ?_ ?_; focus (simp [andPD]; done)) | (refine Fork.no ?_ ?_; focus (simp [andPD]; done)) | refine Fork.neg (fun _ => ?_) (fun _ => ?_) | refine Fork.mk (fun _ => ?_) (fun _ => ?_) | refine Or.inl (Or.inl (Exists.intro _ (And.intro (by first | exact rNum_d _ | exact rBad_d _ | exact f1 | exact s1 | exact s2 | exact p1 | exact p2 | exact bk1 | exact m1 | exact d2 | exact q3) ?_))) | refine Or.inl (Exists.intro _ (And.intro (by first | exact rNum_d _ | exact rBad_d _ | exact f1 | exact s1 | exact s2 | exact p1 | exact p2 | exact bk1 | exact m1 | exact d2 | exact q3) ?_)) | refine Exists.intro _ (And.intro (by first | exact rNum_d _ | exact rBad_d _ | exact f1 | exact s1 | exact s2 | exact p1 | exact p2 | exact bk1 | exact m1 | exact d2 | exact q3) ?_) | (refine And.intro ?_ ?_; focus (first | (kernel_rfl; done) | (first | assumption | omega | (simp; done); done)))))); (all_goals (conv => whnf)))
          all_goals first | exact LeD.rfl | (exfalso; omega)
      · refine fnP_of_vc (nv := 9999) (cu := []) fits mixed Tryd.func8 rfl (by unfold HasBody; kernel_rfl) rfl ?_
        ((repeat' ((conv => whnf); (first | refine Fork.yes (by assumption) ?_ | refine Fork.no (by assumption) ?_ | refine Fork.nono (by assumption) ?_ | (refine Fork.yes ?_ ?_; focus (simp [andPD]; done)) | (refine Fork.no ?_ ?_; focus (simp [andPD]; done)) | refine Fork.neg (fun _ => ?_) (fun _ => ?_) | refine Fork.mk (fun _ => ?_) (fun _ => ?_) | refine Or.inl (Or.inl (Exists.intro _ (And.intro (by first | exact rNum_d _ | exact rBad_d _ | exact f1 | exact s1 | exact s2 | exact p1 | exact p2 | exact bk1 | exact m1 | exact d2) ?_))) | refine Or.inl (Exists.intro _ (And.intro (by first | exact rNum_d _ | exact rBad_d _ | exact f1 | exact s1 | exact s2 | exact p1 | exact p2 | exact bk1 | exact m1 | exact d2) ?_)) | refine Exists.intro _ (And.intro (by first | exact rNum_d _ | exact rBad_d _ | exact f1 | exact s1 | exact s2 | exact p1 | exact p2 | exact bk1 | exact m1 | exact d2) ?_) | (refine And.intro ?_ ?_; focus (first | (kernel_rfl; done) | (first | assumption | omega | (simp; done); done)))))); (all_goals (conv => whnf)))
        all_goals first | exact LeD.rfl | (exfalso; omega)
    · by_cases hd : kd = 1
      · have q3 := q2 hd
        by_cases hq : kq = 1
        · have bk2 := back hd hq
          refine fnP_of_vc (nv := 9999) (cu := []) fits mixed Tryd.func8 rfl (by unfold HasBody; kernel_rfl) rfl ?_
          ((repeat' ((conv => whnf); (first | refine Fork.yes (by assumption) ?_ | refine Fork.no (by assumption) ?_ | refine Fork.nono (by assumption) ?_ | (refine Fork.yes ?_ ?_; focus (simp [andPD]; done)) | (refine Fork.no ?_ ?_; focus (simp [andPD]; done)) | refine Fork.neg (fun _ => ?_) (fun _ => ?_) | refine Fork.mk (fun _ => ?_) (fun _ => ?_) | refine Or.inl (Or.inl (Exists.intro _ (And.intro (by first | exact rNum_d _ | exact rBad_d _ | exact f1 | exact s1 | exact s2 | exact p1 | exact p2 | exact m1 | exact d2 | exact q3 | exact bk2) ?_))) | refine Or.inl (Exists.intro _ (And.intro (by first | exact rNum_d _ | exact rBad_d _ | exact f1 | exact s1 | exact s2 | exact p1 | exact p2 | exact m1 | exact d2 | exact q3 | exact bk2) ?_)) | refine Exists.intro _ (And.intro (by first | exact rNum_d _ | exact rBad_d _ | exact f1 | exact s1 | exact s2 | exact p1 | exact p2 | exact m1 | exact d2 | exact q3 | exact bk2) ?_) | (refine And.intro ?_ ?_; focus (first | (kernel_rfl; done) | (first | assumption | omega | (simp; done); done)))))); (all_goals (conv => whnf)))
          all_goals first | exact LeD.rfl | (exfalso; omega) | exact LeD.vt ⟨hd.symm, rfl, rfl⟩ | exact LeD.vt (by simp [andPD, hd])
        · refine fnP_of_vc (nv := 9999) (cu := []) fits mixed Tryd.func8 rfl (by unfold HasBody; kernel_rfl) rfl ?_
          ((repeat' ((conv => whnf); (first | refine Fork.yes (by assumption) ?_ | refine Fork.no (by assumption) ?_ | refine Fork.nono (by assumption) ?_ | (refine Fork.yes ?_ ?_; focus (simp [andPD]; done)) | (refine Fork.no ?_ ?_; focus (simp [andPD]; done)) | refine Fork.neg (fun _ => ?_) (fun _ => ?_) | refine Fork.mk (fun _ => ?_) (fun _ => ?_) | refine Or.inl (Or.inl (Exists.intro _ (And.intro (by first | exact rNum_d _ | exact rBad_d _ | exact f1 | exact s1 | exact s2 | exact p1 | exact p2 | exact m1 | exact d2 | exact q3) ?_))) | refine Or.inl (Exists.intro _ (And.intro (by first | exact rNum_d _ | exact rBad_d _ | exact f1 | exact s1 | exact s2 | exact p1 | exact p2 | exact m1 | exact d2 | exact q3) ?_)) | refine Exists.intro _ (And.intro (by first | exact rNum_d _ | exact rBad_d _ | exact f1 | exact s1 | exact s2 | exact p1 | exact p2 | exact m1 | exact d2 | exact q3) ?_) | (refine And.intro ?_ ?_; focus (first | (kernel_rfl; done) | (first | assumption | omega | (simp; done); done)))))); (all_goals (conv => whnf)))
          all_goals first | exact LeD.rfl | (exfalso; omega)
      · refine fnP_of_vc (nv := 9999) (cu := []) fits mixed Tryd.func8 rfl (by unfold HasBody; kernel_rfl) rfl ?_
        ((repeat' ((conv => whnf); (first | refine Fork.yes (by assumption) ?_ | refine Fork.no (by assumption) ?_ | refine Fork.nono (by assumption) ?_ | (refine Fork.yes ?_ ?_; focus (simp [andPD]; done)) | (refine Fork.no ?_ ?_; focus (simp [andPD]; done)) | refine Fork.neg (fun _ => ?_) (fun _ => ?_) | refine Fork.mk (fun _ => ?_) (fun _ => ?_) | refine Or.inl (Or.inl (Exists.intro _ (And.intro (by first | exact rNum_d _ | exact rBad_d _ | exact f1 | exact s1 | exact s2 | exact p1 | exact p2 | exact m1 | exact d2) ?_))) | refine Or.inl (Exists.intro _ (And.intro (by first | exact rNum_d _ | exact rBad_d _ | exact f1 | exact s1 | exact s2 | exact p1 | exact p2 | exact m1 | exact d2) ?_)) | refine Exists.intro _ (And.intro (by first | exact rNum_d _ | exact rBad_d _ | exact f1 | exact s1 | exact s2 | exact p1 | exact p2 | exact m1 | exact d2) ?_) | (refine And.intro ?_ ?_; focus (first | (kernel_rfl; done) | (first | assumption | omega | (simp; done); done)))))); (all_goals (conv => whnf)))
        all_goals first | exact LeD.rfl | (exfalso; omega)
end Go.Proofs.YtbkhfmgdnnaaoaaDoor
