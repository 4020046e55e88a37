/- Proved: Compare and Two of package value and of the reference, on any two values; the law ValueTwo, called with any data, answers true. Conditions: the variables read as laid. -/
import Derived.Test.YtbkhfmgdnnaaoaaGreatDoorTd
import Derived.Test.YtbkhfmgdnnaaoaaGreatDoorVc
namespace Go.Proofs.YtbkhfmgdnnaaoaaGreatDoor
open Go Go.EYtbkhfmgdnnaaoaaGreatDoor
set_option maxRecDepth 100000
variable {gl : List (Nat × List D)}
/-! ### Compare -/
abbrev lessP (k n : Int) (s : List UInt8) (k' n' : Int) (s' : List UInt8) : Prop := k < k' ∨ (k = k' ∧ ((k = 2 ∧ Op.bytesLess s s' = true) ∨ (k ≠ 2 ∧ n < n')))
theorem less_y {k n : Int} {s : List UInt8} {k' n' : Int} {s' : List UInt8} (h : lessP k n s k' n' s') : FnP Tryz.prog gl 47 [vlD k n s, vlD k' n' s'] (.v (.bool true)) := by
  rcases h with h | ⟨rfl, ⟨rfl, h⟩ | ⟨h1, h⟩⟩
  · have hk : ¬ k = k' := by omega
    refine fnP_of_vc (nv := 9999) (cu := []) fits mixed Tryz.func47 rfl (by unfold HasBody; kernel_rfl) rfl ?_
    ((repeat' ((conv => whnf); (first | refine Fork.yes (by assumption) ?_ | refine Fork.no (by assumption) ?_ | refine Fork.nono (by assumption) ?_ | (refine Fork.yes ?_ ?_; focus (simp [andPD]; done)) | (refine Fork.no ?_ ?_; focus (simp [andPD]; done)) | refine Fork.neg (fun _ => ?_) (fun _ => ?_) | refine Fork.mk (fun _ => ?_) (fun _ => ?_) | refine Both.mk ?_ ?_ | (refine And.intro ?_ ?_; focus (first | (kernel_rfl; done) | (first | assumption | omega | (simp; done); done)))))); (all_goals (conv => whnf)))
    exact LeD.vt h
  · refine fnP_of_vc (nv := 9999) (cu := []) fits mixed Tryz.func47 rfl (by unfold HasBody; kernel_rfl) rfl ?_
    ((repeat' ((conv => whnf); (first | refine Fork.yes (by assumption) ?_ | refine Fork.no (by assumption) ?_ | refine Fork.nono (by assumption) ?_ | (refine Fork.yes ?_ ?_; focus (simp [andPD]; done)) | (refine Fork.no ?_ ?_; focus (simp [andPD]; done)) | refine Fork.neg (fun _ => ?_) (fun _ => ?_) | refine Fork.mk (fun _ => ?_) (fun _ => ?_) | refine Both.mk ?_ ?_ | (refine And.intro ?_ ?_; focus (first | (kernel_rfl; done) | (first | assumption | omega | (simp; done); done)))))); (all_goals (conv => whnf)))
    exact LeD.vt h
  · refine fnP_of_vc (nv := 9999) (cu := []) fits mixed Tryz.func47 rfl (by unfold HasBody; kernel_rfl) rfl ?_
    ((repeat' ((conv => whnf); (first | refine Fork.yes (by assumption) ?_ | refine Fork.no (by assumption) ?_ | refine Fork.nono (by assumption) ?_ | (refine Fork.yes ?_ ?_; focus (simp [andPD]; done)) | (refine Fork.no ?_ ?_; focus (simp [andPD]; done)) | refine Fork.neg (fun _ => ?_) (fun _ => ?_) | refine Fork.mk (fun _ => ?_) (fun _ => ?_) | refine Both.mk ?_ ?_ | (refine And.intro ?_ ?_; focus (first | (kernel_rfl; done) | (first | assumption | omega | (simp; done); done)))))); (all_goals (conv => whnf)))
    exact LeD.vt h
theorem less_n {k n : Int} {s : List UInt8} {k' n' : Int} {s' : List UInt8} (h : ¬ lessP k n s k' n' s') : FnP Tryz.prog gl 47 [vlD k n s, vlD k' n' s'] (.v (.bool false)) := by
  by_cases hk : k = k'
  · subst hk
    by_cases h2 : k = 2
    · subst h2
      refine fnP_of_vc (nv := 9999) (cu := []) fits mixed Tryz.func47 rfl (by unfold HasBody; kernel_rfl) rfl ?_
      ((repeat' ((conv => whnf); (first | refine Fork.yes (by assumption) ?_ | refine Fork.no (by assumption) ?_ | refine Fork.nono (by assumption) ?_ | (refine Fork.yes ?_ ?_; focus (simp [andPD]; done)) | (refine Fork.no ?_ ?_; focus (simp [andPD]; done)) | refine Fork.neg (fun _ => ?_) (fun _ => ?_) | refine Fork.mk (fun _ => ?_) (fun _ => ?_) | refine Both.mk ?_ ?_ | (refine And.intro ?_ ?_; focus (first | (kernel_rfl; done) | (first | assumption | omega | (simp; done); done)))))); (all_goals (conv => whnf)))
      exact LeD.vf fun hh => h (.inr ⟨rfl, .inl ⟨rfl, hh⟩⟩)
    · refine fnP_of_vc (nv := 9999) (cu := []) fits mixed Tryz.func47 rfl (by unfold HasBody; kernel_rfl) rfl ?_
      ((repeat' ((conv => whnf); (first | refine Fork.yes (by assumption) ?_ | refine Fork.no (by assumption) ?_ | refine Fork.nono (by assumption) ?_ | (refine Fork.yes ?_ ?_; focus (simp [andPD]; done)) | (refine Fork.no ?_ ?_; focus (simp [andPD]; done)) | refine Fork.neg (fun _ => ?_) (fun _ => ?_) | refine Fork.mk (fun _ => ?_) (fun _ => ?_) | refine Both.mk ?_ ?_ | (refine And.intro ?_ ?_; focus (first | (kernel_rfl; done) | (first | assumption | omega | (simp; done); done)))))); (all_goals (conv => whnf)))
      exact LeD.vf fun hh => h (.inr ⟨rfl, .inr ⟨h2, hh⟩⟩)
  · refine fnP_of_vc (nv := 9999) (cu := []) fits mixed Tryz.func47 rfl (by unfold HasBody; kernel_rfl) rfl ?_
    ((repeat' ((conv => whnf); (first | refine Fork.yes (by assumption) ?_ | refine Fork.no (by assumption) ?_ | refine Fork.nono (by assumption) ?_ | (refine Fork.yes ?_ ?_; focus (simp [andPD]; done)) | (refine Fork.no ?_ ?_; focus (simp [andPD]; done)) | refine Fork.neg (fun _ => ?_) (fun _ => ?_) | refine Fork.mk (fun _ => ?_) (fun _ => ?_) | refine Both.mk ?_ ?_ | (refine And.intro ?_ ?_; focus (first | (kernel_rfl; done) | (first | assumption | omega | (simp; done); done)))))); (all_goals (conv => whnf)))
    exact LeD.vf fun hh => h (.inl hh)
theorem cmpS_nil : cmpS [] [] = 0 := rfl
theorem cmpS_neg {s s' : List UInt8} : cmpS s s' < 0 ↔ Op.bytesLess s s' = true := by
  unfold cmpS
  split
  · rename_i h; simp [h]
  · rename_i h; split <;> simp [h]
theorem cmpZ_neg {x y : Int} : cmpZ x y < 0 ↔ x < y := by unfold cmpZ; repeat' split <;> omega
theorem less_cv {k n : Int} {s : List UInt8} {k' n' : Int} {s' : List UInt8} (ha : isV k n s) (hb : isV k' n' s') : lessP k n s k' n' s' ↔ cv k n s k' n' s' < 0 := by
  rw [cv_eq]
  have hz := @cmpZ_neg k k'
  have hz0 := @cmpZ_zero k k'
  have hn := @cmpZ_neg n n'
  have hn0 := @cmpZ_zero n n'
  by_cases hk : k = k'
  · subst hk
    rw [if_pos (hz0.2 rfl)]
    by_cases h2 : k = 2
    · subst h2
      have e1 : n = 0 := by rcases ha with h | h | h | h | h <;> omega
      have e2 : n' = 0 := by rcases hb with h | h | h | h | h <;> omega
      subst e1 e2
      rw [if_pos (hn0.2 rfl), cmpS_neg]
      simp [lessP]
    · have e1 : s = [] := by rcases ha with h | h | h | h | h <;> first | exact h.2.2 | exact h.2 | exact absurd h.1 h2 | exact h.2.2.2
      have e2 : s' = [] := by rcases hb with h | h | h | h | h <;> first | exact h.2.2 | exact h.2 | exact absurd h.1 h2 | exact h.2.2.2
      subst e1 e2
      by_cases hn1 : n = n'
      · rw [if_pos (hn0.2 hn1), cmpS_nil]; simp [lessP, h2]; omega
      · rw [if_neg (fun h => hn1 (hn0.1 h)), hn]; simp [lessP, h2]
  · rw [if_neg (fun h => hk (hz0.1 h)), hz]; simp [lessP, hk]
theorem rCompare_d {k n : Int} {s : List UInt8} {k' n' : Int} {s' : List UInt8} (ha : isV k n s) (hb : isV k' n' s') : FnP Tryz.prog gl 13 [vlD k n s, vlD k' n' s'] (iD (cv k n s k' n' s')) := by
  have h1 := less_cv ha hb
  have h2 := less_cv hb ha
  have h3 := cv_swap k n s k' n' s'
  have h4 := cv_range k n s k' n' s'
  rcases Int.lt_trichotomy (cv k n s k' n' s') 0 with h | h | h
  · have c1 := less_y (gl := gl) (h1.2 h)
    have c2 := less_n (gl := gl) (fun hh => absurd (h2.1 hh) (by omega))
    refine fnP_of_vc (nv := 9999) (cu := []) fits mixed Tryz.func13 rfl (by unfold HasBody; kernel_rfl) rfl ?_
    ((repeat' ((conv => whnf); (first | refine Fork.yes (by assumption) ?_ | refine Fork.no (by assumption) ?_ | refine Fork.nono (by assumption) ?_ | (refine Fork.yes ?_ ?_; focus (simp [andPD]; done)) | (refine Fork.no ?_ ?_; focus (simp [andPD]; done)) | refine Fork.neg (fun _ => ?_) (fun _ => ?_) | refine Fork.mk (fun _ => ?_) (fun _ => ?_) | refine Or.inl (Or.inl (Exists.intro _ (And.intro (by first | exact c1 | exact c2) ?_))) | refine Or.inl (Exists.intro _ (And.intro (by first | exact c1 | exact c2) ?_)) | refine Exists.intro _ (And.intro (by first | exact c1 | exact c2) ?_) | refine Both.mk ?_ ?_ | (refine And.intro ?_ ?_; focus (first | (kernel_rfl; done) | (first | assumption | omega | (simp; done); done)))))); (all_goals (conv => whnf)))
    exact LeD.of (congrArg iD (by omega))
  · have c1 := less_n (gl := gl) (fun hh => absurd (h1.1 hh) (by omega))
    have c2 := less_n (gl := gl) (fun hh => absurd (h2.1 hh) (by omega))
    refine fnP_of_vc (nv := 9999) (cu := []) fits mixed Tryz.func13 rfl (by unfold HasBody; kernel_rfl) rfl ?_
    ((repeat' ((conv => whnf); (first | refine Fork.yes (by assumption) ?_ | refine Fork.no (by assumption) ?_ | refine Fork.nono (by assumption) ?_ | (refine Fork.yes ?_ ?_; focus (simp [andPD]; done)) | (refine Fork.no ?_ ?_; focus (simp [andPD]; done)) | refine Fork.neg (fun _ => ?_) (fun _ => ?_) | refine Fork.mk (fun _ => ?_) (fun _ => ?_) | refine Or.inl (Or.inl (Exists.intro _ (And.intro (by first | exact c1 | exact c2) ?_))) | refine Or.inl (Exists.intro _ (And.intro (by first | exact c1 | exact c2) ?_)) | refine Exists.intro _ (And.intro (by first | exact c1 | exact c2) ?_) | refine Both.mk ?_ ?_ | (refine And.intro ?_ ?_; focus (first | (kernel_rfl; done) | (first | assumption | omega | (simp; done); done)))))); (all_goals (conv => whnf)))
    exact LeD.of (congrArg iD (by omega))
  · have c1 := less_n (gl := gl) (fun hh => absurd (h1.1 hh) (by omega))
    have c2 := less_y (gl := gl) (h2.2 (by omega))
    refine fnP_of_vc (nv := 9999) (cu := []) fits mixed Tryz.func13 rfl (by unfold HasBody; kernel_rfl) rfl ?_
    ((repeat' ((conv => whnf); (first | refine Fork.yes (by assumption) ?_ | refine Fork.no (by assumption) ?_ | refine Fork.nono (by assumption) ?_ | (refine Fork.yes ?_ ?_; focus (simp [andPD]; done)) | (refine Fork.no ?_ ?_; focus (simp [andPD]; done)) | refine Fork.neg (fun _ => ?_) (fun _ => ?_) | refine Fork.mk (fun _ => ?_) (fun _ => ?_) | refine Or.inl (Or.inl (Exists.intro _ (And.intro (by first | exact c1 | exact c2) ?_))) | refine Or.inl (Exists.intro _ (And.intro (by first | exact c1 | exact c2) ?_)) | refine Exists.intro _ (And.intro (by first | exact c1 | exact c2) ?_) | refine Both.mk ?_ ?_ | (refine And.intro ?_ ?_; focus (first | (kernel_rfl; done) | (first | assumption | omega | (simp; done); done)))))); (all_goals (conv => whnf)))
    exact LeD.of (congrArg iD (by omega))
/-! ### What is blank -/
def likeV (a b : Vl) : Vl := if a.k = 0 ∧ b.k ≠ 4 then ⟨b.k, a.n, a.s⟩ else a
theorem like_d (k n : Int) (s : List UInt8) (k' n' : Int) (s' : List UInt8) : FnP Tryz.prog gl 34 [vlD k n s, vlD k' n' s'] (likeV ⟨k, n, s⟩ ⟨k', n', s'⟩).d := by
  unfold likeV
  by_cases h : k = 0
  · subst h
    by_cases h4 : k' = 4
    · subst h4
      refine fnP_of_vc (nv := 9999) (cu := []) fits mixed Tryz.func34 rfl (by unfold HasBody; kernel_rfl) rfl ?_
      ((repeat' ((conv => whnf); (first | refine Fork.yes (by assumption) ?_ | refine Fork.no (by assumption) ?_ | refine Fork.nono (by assumption) ?_ | (refine Fork.yes ?_ ?_; focus (simp [andPD]; done)) | (refine Fork.no ?_ ?_; focus (simp [andPD]; done)) | refine Fork.neg (fun _ => ?_) (fun _ => ?_) | refine Fork.mk (fun _ => ?_) (fun _ => ?_) | refine Both.mk ?_ ?_ | (refine And.intro ?_ ?_; focus (first | (kernel_rfl; done) | (first | assumption | omega | (simp; done); done)))))); (all_goals (conv => whnf)))
      exact LeD.rfl
    · rw [if_pos ⟨rfl, h4⟩]
      refine fnP_of_vc (nv := 9999) (cu := []) fits mixed Tryz.func34 rfl (by unfold HasBody; kernel_rfl) rfl ?_
      ((repeat' ((conv => whnf); (first | refine Fork.yes (by assumption) ?_ | refine Fork.no (by assumption) ?_ | refine Fork.nono (by assumption) ?_ | (refine Fork.yes ?_ ?_; focus (simp [andPD]; done)) | (refine Fork.no ?_ ?_; focus (simp [andPD]; done)) | refine Fork.neg (fun _ => ?_) (fun _ => ?_) | refine Fork.mk (fun _ => ?_) (fun _ => ?_) | refine Both.mk ?_ ?_ | (refine And.intro ?_ ?_; focus (first | (kernel_rfl; done) | (first | assumption | omega | (simp; done); done)))))); (all_goals (conv => whnf)))
      exact LeD.rfl
  · rw [if_neg (fun hh => h hh.1)]
    refine fnP_of_vc (nv := 9999) (cu := []) fits mixed Tryz.func34 rfl (by unfold HasBody; kernel_rfl) rfl ?_
    ((repeat' ((conv => whnf); (first | refine Fork.yes (by assumption) ?_ | refine Fork.no (by assumption) ?_ | refine Fork.nono (by assumption) ?_ | (refine Fork.yes ?_ ?_; focus (simp [andPD]; done)) | (refine Fork.no ?_ ?_; focus (simp [andPD]; done)) | refine Fork.neg (fun _ => ?_) (fun _ => ?_) | refine Fork.mk (fun _ => ?_) (fun _ => ?_) | refine Both.mk ?_ ?_ | (refine And.intro ?_ ?_; focus (first | (kernel_rfl; done) | (first | assumption | omega | (simp; done); done)))))); (all_goals (conv => whnf)))
    exact LeD.rfl
theorem beside_d {k n : Int} {s : List UInt8} {k' n' : Int} {s' : List UInt8} (ha : isV k n s) (hb : isV k' n' s') : FnP Tryz.prog gl 39 [vlD k n s, vlD k' n' s'] (likeV ⟨k, n, s⟩ ⟨k', n', s'⟩).d := by
  unfold likeV
  by_cases h : k = 0
  · subst h
    have e1 : n = 0 ∧ s = [] := by rcases ha with h | h | h | h | h <;> first | exact h.2 | (exfalso; omega)
    obtain ⟨rfl, rfl⟩ := e1
    have hk : k' = 0 ∨ k' = 1 ∨ k' = 2 ∨ k' = 3 ∨ k' = 4 := by rcases hb with h | h | h | h | h <;> omega
    rcases hk with rfl | rfl | rfl | rfl | rfl
    · refine fnP_of_vc (nv := 9999) (cu := []) fits mixed Tryz.func39 rfl (by unfold HasBody; kernel_rfl) rfl ?_
      ((repeat' ((conv => whnf); (first | refine Fork.yes (by assumption) ?_ | refine Fork.no (by assumption) ?_ | refine Fork.nono (by assumption) ?_ | (refine Fork.yes ?_ ?_; focus (simp [andPD]; done)) | (refine Fork.no ?_ ?_; focus (simp [andPD]; done)) | refine Fork.neg (fun _ => ?_) (fun _ => ?_) | refine Fork.mk (fun _ => ?_) (fun _ => ?_) | refine Both.mk ?_ ?_ | (refine And.intro ?_ ?_; focus (first | (kernel_rfl; done) | (first | assumption | omega | (simp; done); done)))))); (all_goals (conv => whnf)))
      exact LeD.rfl
    · refine fnP_of_vc (nv := 9999) (cu := []) fits mixed Tryz.func39 rfl (by unfold HasBody; kernel_rfl) rfl ?_
      ((repeat' ((conv => whnf); (first | refine Fork.yes (by assumption) ?_ | refine Fork.no (by assumption) ?_ | refine Fork.nono (by assumption) ?_ | (refine Fork.yes ?_ ?_; focus (simp [andPD]; done)) | (refine Fork.no ?_ ?_; focus (simp [andPD]; done)) | refine Fork.neg (fun _ => ?_) (fun _ => ?_) | refine Fork.mk (fun _ => ?_) (fun _ => ?_) | refine Or.inl (Or.inl (Exists.intro _ (And.intro (by first | exact rNum_d _) ?_))) | refine Or.inl (Exists.intro _ (And.intro (by first | exact rNum_d _) ?_)) | refine Exists.intro _ (And.intro (by first | exact rNum_d _) ?_) | refine Both.mk ?_ ?_ | (refine And.intro ?_ ?_; focus (first | (kernel_rfl; done) | (first | assumption | omega | (simp; done); done)))))); (all_goals (conv => whnf)))
      exact LeD.rfl
    · refine fnP_of_vc (nv := 9999) (cu := []) fits mixed Tryz.func39 rfl (by unfold HasBody; kernel_rfl) rfl ?_
      ((repeat' ((conv => whnf); (first | refine Fork.yes (by assumption) ?_ | refine Fork.no (by assumption) ?_ | refine Fork.nono (by assumption) ?_ | (refine Fork.yes ?_ ?_; focus (simp [andPD]; done)) | (refine Fork.no ?_ ?_; focus (simp [andPD]; done)) | refine Fork.neg (fun _ => ?_) (fun _ => ?_) | refine Fork.mk (fun _ => ?_) (fun _ => ?_) | refine Or.inl (Or.inl (Exists.intro _ (And.intro (by first | exact rTxt_d _) ?_))) | refine Or.inl (Exists.intro _ (And.intro (by first | exact rTxt_d _) ?_)) | refine Exists.intro _ (And.intro (by first | exact rTxt_d _) ?_) | refine Both.mk ?_ ?_ | (refine And.intro ?_ ?_; focus (first | (kernel_rfl; done) | (first | assumption | omega | (simp; done); done)))))); (all_goals (conv => whnf)))
      exact LeD.rfl
    · refine fnP_of_vc (nv := 9999) (cu := []) fits mixed Tryz.func39 rfl (by unfold HasBody; kernel_rfl) rfl ?_
      ((repeat' ((conv => whnf); (first | refine Fork.yes (by assumption) ?_ | refine Fork.no (by assumption) ?_ | refine Fork.nono (by assumption) ?_ | (refine Fork.yes ?_ ?_; focus (simp [andPD]; done)) | (refine Fork.no ?_ ?_; focus (simp [andPD]; done)) | refine Fork.neg (fun _ => ?_) (fun _ => ?_) | refine Fork.mk (fun _ => ?_) (fun _ => ?_) | refine Or.inl (Or.inl (Exists.intro _ (And.intro (by first | exact rTru_c false) ?_))) | refine Or.inl (Exists.intro _ (And.intro (by first | exact rTru_c false) ?_)) | refine Exists.intro _ (And.intro (by first | exact rTru_c false) ?_) | refine Both.mk ?_ ?_ | (refine And.intro ?_ ?_; focus (first | (kernel_rfl; done) | (first | assumption | omega | (simp; done); done)))))); (all_goals (conv => whnf)))
      exact LeD.rfl
    · refine fnP_of_vc (nv := 9999) (cu := []) fits mixed Tryz.func39 rfl (by unfold HasBody; kernel_rfl) rfl ?_
      ((repeat' ((conv => whnf); (first | refine Fork.yes (by assumption) ?_ | refine Fork.no (by assumption) ?_ | refine Fork.nono (by assumption) ?_ | (refine Fork.yes ?_ ?_; focus (simp [andPD]; done)) | (refine Fork.no ?_ ?_; focus (simp [andPD]; done)) | refine Fork.neg (fun _ => ?_) (fun _ => ?_) | refine Fork.mk (fun _ => ?_) (fun _ => ?_) | refine Both.mk ?_ ?_ | (refine And.intro ?_ ?_; focus (first | (kernel_rfl; done) | (first | assumption | omega | (simp; done); done)))))); (all_goals (conv => whnf)))
      exact LeD.rfl
  · rw [if_neg (fun hh => h hh.1)]
    refine fnP_of_vc (nv := 9999) (cu := []) fits mixed Tryz.func39 rfl (by unfold HasBody; kernel_rfl) rfl ?_
    ((repeat' ((conv => whnf); (first | refine Fork.yes (by assumption) ?_ | refine Fork.no (by assumption) ?_ | refine Fork.nono (by assumption) ?_ | (refine Fork.yes ?_ ?_; focus (simp [andPD]; done)) | (refine Fork.no ?_ ?_; focus (simp [andPD]; done)) | refine Fork.neg (fun _ => ?_) (fun _ => ?_) | refine Fork.mk (fun _ => ?_) (fun _ => ?_) | refine Both.mk ?_ ?_ | (refine And.intro ?_ ?_; focus (first | (kernel_rfl; done) | (first | assumption | omega | (simp; done); done)))))); (all_goals (conv => whnf)))
    exact LeD.rfl
theorem likeV_ok {a b : Vl} (ha : isV a.k a.n a.s) (hb : isV b.k b.n b.s) : isV (likeV a b).k (likeV a b).n (likeV a b).s := by
  unfold likeV
  split
  · rename_i h
    have e1 : a.n = 0 ∧ a.s = [] := by rcases ha with h | h | h | h | h <;> first | exact h.2 | (exfalso; omega)
    obtain ⟨e1, e2⟩ := e1
    show isV b.k a.n a.s
    rw [e1, e2]
    rcases hb with h | h | h | h | h
    · exact .inl ⟨h.1, rfl, rfl⟩
    · exact .inr (.inl ⟨h.1, rfl⟩)
    · exact .inr (.inr (.inl ⟨h.1, rfl, by simp⟩))
    · exact .inr (.inr (.inr (.inl ⟨h.1, .inl rfl, rfl⟩)))
    · omega
  · exact ha
/-! ### Two -/
def cvV (a b : Vl) : Int := cv a.k a.n a.s b.k b.n b.s
def cmpN (op c : Int) : Int := if op = 1 then (if c = 0 then 1 else 0) else if op = 2 then (if ¬ c = 0 then 1 else 0) else if op = 3 then (if c < 0 then 1 else 0) else if op = 4 then (if c ≤ 0 then 1 else 0) else if op = 5 then (if 0 < c then 1 else 0) else (if 0 ≤ c then 1 else 0)
def twoV (op : Int) (a b : Vl) : Vl :=
  if op < 1 ∨ 11 < op then ⟨4, 4, []⟩ else
  if 8 ≤ op then (if (numV a).k = 4 then numV a else if (numV b).k = 4 then numV b else rkV op (numV a).n (numV b).n) else
  if a.k = 4 then a else if b.k = 4 then b else
  if op = 7 then (if 200 < (showV a ++ showV b).length then ⟨4, 2, []⟩ else ⟨2, 0, showV a ++ showV b⟩) else
  ⟨3, cmpN op (cvV (likeV a b) (likeV b a)), []⟩
theorem len200' {s : List UInt8} (h : ¬ 200 < s.length) : ¬ (200 : Int) < ((s.length : Nat) : Int) := by omega
theorem Two_v (te : TypeId) (pe : Value) (op : Int) {a b : Vl} (ha : a.ok) (hb : b.ok) : FnP Tryz.prog (glV te pe) 9 [iD op, a.d, b.d] (twoV op a b).d := by
  have hla := showV_len ha
  have hlb := showV_len hb
  obtain ⟨na, na'⟩ := numV_ok ha
  obtain ⟨nb, nb'⟩ := numV_ok hb
  have hs : ∀ v : Vl, v.ok → v.s.length ≤ 140737488355328 := fun v hv => by
    rcases hv.1 with h | h | h | h | h
    · rw [h.2.2]; decide
    · rw [h.2]; decide
    · omega
    · rw [h.2.2]; decide
    · rw [h.2.2.2]; decide
  have c1 := Number_d te pe a.k a.n a.s (hs a ha)
  have c2 := Number_d te pe b.k b.n b.s (hs b hb)
  unfold twoV
  by_cases h1 : op < 1
  · rw [if_pos (.inl h1)]
    refine fnP_of_vc (nv := 9999) (cu := []) fits mixed Tryz.func9 rfl (by unfold HasBody; kernel_rfl) rfl ?_
    ((repeat' ((conv => whnf); (first | refine Fork.yes (by assumption) ?_ | refine Fork.no (by assumption) ?_ | refine Fork.nono (by assumption) ?_ | (refine Fork.yes ?_ ?_; focus (simp [andPD]; done)) | (refine Fork.no ?_ ?_; focus (simp [andPD]; done)) | refine Fork.neg (fun _ => ?_) (fun _ => ?_) | refine Fork.mk (fun _ => ?_) (fun _ => ?_) | refine Or.inl (Or.inl (Exists.intro _ (And.intro (by first | exact Wrong_d _) ?_))) | refine Or.inl (Exists.intro _ (And.intro (by first | exact Wrong_d _) ?_)) | refine Exists.intro _ (And.intro (by first | exact Wrong_d _) ?_) | refine Both.mk ?_ ?_ | (refine And.intro ?_ ?_; focus (first | (kernel_rfl; done) | (first | assumption | omega | (simp; done); done)))))); (all_goals (conv => whnf)))
    exact LeD.rfl
  by_cases h2 : 11 < op
  · rw [if_pos (.inr h2)]
    refine fnP_of_vc (nv := 9999) (cu := []) fits mixed Tryz.func9 rfl (by unfold HasBody; kernel_rfl) rfl ?_
    ((repeat' ((conv => whnf); (first | refine Fork.yes (by assumption) ?_ | refine Fork.no (by assumption) ?_ | refine Fork.nono (by assumption) ?_ | (refine Fork.yes ?_ ?_; focus (simp [andPD]; done)) | (refine Fork.no ?_ ?_; focus (simp [andPD]; done)) | refine Fork.neg (fun _ => ?_) (fun _ => ?_) | refine Fork.mk (fun _ => ?_) (fun _ => ?_) | refine Or.inl (Or.inl (Exists.intro _ (And.intro (by first | exact Wrong_d _) ?_))) | refine Or.inl (Exists.intro _ (And.intro (by first | exact Wrong_d _) ?_)) | refine Exists.intro _ (And.intro (by first | exact Wrong_d _) ?_) | refine Both.mk ?_ ?_ | (refine And.intro ?_ ?_; focus (first | (kernel_rfl; done) | (first | assumption | omega | (simp; done); done)))))); (all_goals (conv => whnf)))
    exact LeD.rfl
  rw [if_neg (fun h => by omega)]
  by_cases h8 : 8 ≤ op
  · rw [if_pos h8]
    change FnP Tryz.prog (glV te pe) 17 [vlD a.k a.n a.s] (numV a).d at c1
    change FnP Tryz.prog (glV te pe) 17 [vlD b.k b.n b.s] (numV b).d at c2
    have c3 := reckon_d (gl := glV te pe) h8 (by omega) na.2 nb.2
    generalize numV a = x at *
    generalize numV b = y at *
    generalize rkV op x.n y.n = z at *
    by_cases q1 : x.k = 4
    · rw [if_pos q1]
      refine fnP_of_vc (nv := 9999) (cu := []) fits mixed Tryz.func9 rfl (by unfold HasBody; kernel_rfl) rfl ?_
      ((repeat' ((conv => whnf); (first | refine Fork.yes (by assumption) ?_ | refine Fork.no (by assumption) ?_ | refine Fork.nono (by assumption) ?_ | (refine Fork.yes ?_ ?_; focus (simp [andPD]; done)) | (refine Fork.no ?_ ?_; focus (simp [andPD]; done)) | refine Fork.neg (fun _ => ?_) (fun _ => ?_) | refine Fork.mk (fun _ => ?_) (fun _ => ?_) | refine Or.inl (Or.inl (Exists.intro _ (And.intro (by first | exact c1 | exact c2 | exact IsBad_d _ _ _) ?_))) | refine Or.inl (Exists.intro _ (And.intro (by first | exact c1 | exact c2 | exact IsBad_d _ _ _) ?_)) | refine Exists.intro _ (And.intro (by first | exact c1 | exact c2 | exact IsBad_d _ _ _) ?_) | refine Both.mk ?_ ?_ | (refine And.intro ?_ ?_; focus (first | (kernel_rfl; done) | (first | assumption | omega | (simp; done); done)))))); (all_goals (conv => whnf)))
      all_goals exact LeD.rfl
    · rw [if_neg q1]
      by_cases q2 : y.k = 4
      · rw [if_pos q2]
        refine fnP_of_vc (nv := 9999) (cu := []) fits mixed Tryz.func9 rfl (by unfold HasBody; kernel_rfl) rfl ?_
        ((repeat' ((conv => whnf); (first | refine Fork.yes (by assumption) ?_ | refine Fork.no (by assumption) ?_ | refine Fork.nono (by assumption) ?_ | (refine Fork.yes ?_ ?_; focus (simp [andPD]; done)) | (refine Fork.no ?_ ?_; focus (simp [andPD]; done)) | refine Fork.neg (fun _ => ?_) (fun _ => ?_) | refine Fork.mk (fun _ => ?_) (fun _ => ?_) | refine Or.inl (Or.inl (Exists.intro _ (And.intro (by first | exact c1 | exact c2 | exact IsBad_d _ _ _) ?_))) | refine Or.inl (Exists.intro _ (And.intro (by first | exact c1 | exact c2 | exact IsBad_d _ _ _) ?_)) | refine Exists.intro _ (And.intro (by first | exact c1 | exact c2 | exact IsBad_d _ _ _) ?_) | refine Both.mk ?_ ?_ | (refine And.intro ?_ ?_; focus (first | (kernel_rfl; done) | (first | assumption | omega | (simp; done); done)))))); (all_goals (conv => whnf)))
        all_goals exact LeD.rfl
      · rw [if_neg q2]
        refine fnP_of_vc (nv := 9999) (cu := []) fits mixed Tryz.func9 rfl (by unfold HasBody; kernel_rfl) rfl ?_
        ((repeat' ((conv => whnf); (first | refine Fork.yes (by assumption) ?_ | refine Fork.no (by assumption) ?_ | refine Fork.nono (by assumption) ?_ | (refine Fork.yes ?_ ?_; focus (simp [andPD]; done)) | (refine Fork.no ?_ ?_; focus (simp [andPD]; done)) | refine Fork.neg (fun _ => ?_) (fun _ => ?_) | refine Fork.mk (fun _ => ?_) (fun _ => ?_) | refine Or.inl (Or.inl (Exists.intro _ (And.intro (by first | exact c1 | exact c2 | exact c3 | exact IsBad_d _ _ _) ?_))) | refine Or.inl (Exists.intro _ (And.intro (by first | exact c1 | exact c2 | exact c3 | exact IsBad_d _ _ _) ?_)) | refine Exists.intro _ (And.intro (by first | exact c1 | exact c2 | exact c3 | exact IsBad_d _ _ _) ?_) | refine Both.mk ?_ ?_ | (refine And.intro ?_ ?_; focus (first | (kernel_rfl; done) | (first | assumption | omega | (simp; done); done)))))); (all_goals (conv => whnf)))
        all_goals exact LeD.rfl
  rw [if_neg h8]
  by_cases q1 : a.k = 4
  · rw [if_pos q1]
    refine fnP_of_vc (nv := 9999) (cu := []) fits mixed Tryz.func9 rfl (by unfold HasBody; kernel_rfl) rfl ?_
    ((repeat' ((conv => whnf); (first | refine Fork.yes (by assumption) ?_ | refine Fork.no (by assumption) ?_ | refine Fork.nono (by assumption) ?_ | (refine Fork.yes ?_ ?_; focus (simp [andPD]; done)) | (refine Fork.no ?_ ?_; focus (simp [andPD]; done)) | refine Fork.neg (fun _ => ?_) (fun _ => ?_) | refine Fork.mk (fun _ => ?_) (fun _ => ?_) | refine Or.inl (Or.inl (Exists.intro _ (And.intro (by first | exact IsBad_d _ _ _) ?_))) | refine Or.inl (Exists.intro _ (And.intro (by first | exact IsBad_d _ _ _) ?_)) | refine Exists.intro _ (And.intro (by first | exact IsBad_d _ _ _) ?_) | refine Both.mk ?_ ?_ | (refine And.intro ?_ ?_; focus (first | (kernel_rfl; done) | (first | assumption | omega | (simp; done); done)))))); (all_goals (conv => whnf)))
    all_goals exact LeD.rfl
  rw [if_neg q1]
  by_cases q2 : b.k = 4
  · rw [if_pos q2]
    refine fnP_of_vc (nv := 9999) (cu := []) fits mixed Tryz.func9 rfl (by unfold HasBody; kernel_rfl) rfl ?_
    ((repeat' ((conv => whnf); (first | refine Fork.yes (by assumption) ?_ | refine Fork.no (by assumption) ?_ | refine Fork.nono (by assumption) ?_ | (refine Fork.yes ?_ ?_; focus (simp [andPD]; done)) | (refine Fork.no ?_ ?_; focus (simp [andPD]; done)) | refine Fork.neg (fun _ => ?_) (fun _ => ?_) | refine Fork.mk (fun _ => ?_) (fun _ => ?_) | refine Or.inl (Or.inl (Exists.intro _ (And.intro (by first | exact IsBad_d _ _ _) ?_))) | refine Or.inl (Exists.intro _ (And.intro (by first | exact IsBad_d _ _ _) ?_)) | refine Exists.intro _ (And.intro (by first | exact IsBad_d _ _ _) ?_) | refine Both.mk ?_ ?_ | (refine And.intro ?_ ?_; focus (first | (kernel_rfl; done) | (first | assumption | omega | (simp; done); done)))))); (all_goals (conv => whnf)))
    all_goals exact LeD.rfl
  rw [if_neg q2]
  by_cases h7 : op = 7
  · subst h7
    rw [if_pos rfl]
    have s1 := Show_d te pe a ha.2
    have s2 := Show_d te pe b hb.2
    generalize showV a = x at *
    generalize showV b = y at *
    by_cases hl : 200 < (x ++ y).length
    · rw [if_pos hl]
      have hl' := len_200.2 hl
      refine fnP_of_vc (nv := 9999) (cu := []) fits mixed Tryz.func9 rfl (by unfold HasBody; kernel_rfl) rfl ?_
      ((repeat' ((conv => whnf); (first | refine Fork.yes (by assumption) ?_ | refine Fork.no (by assumption) ?_ | refine Fork.nono (by assumption) ?_ | (refine Fork.yes ?_ ?_; focus (simp [andPD]; done)) | (refine Fork.no ?_ ?_; focus (simp [andPD]; done)) | refine Fork.neg (fun _ => ?_) (fun _ => ?_) | refine Fork.mk (fun _ => ?_) (fun _ => ?_) | refine Or.inl (Or.inl (Exists.intro _ (And.intro (by first | exact s1 | exact s2 | exact IsBad_d _ _ _ | exact Wrong_d _) ?_))) | refine Or.inl (Exists.intro _ (And.intro (by first | exact s1 | exact s2 | exact IsBad_d _ _ _ | exact Wrong_d _) ?_)) | refine Exists.intro _ (And.intro (by first | exact s1 | exact s2 | exact IsBad_d _ _ _ | exact Wrong_d _) ?_) | refine Both.mk ?_ ?_ | (refine And.intro ?_ ?_; focus (first | (kernel_rfl; done) | (first | assumption | omega | (simp; done); done)))))); (all_goals (conv => whnf)))
      all_goals exact LeD.rfl
    · rw [if_neg hl]
      have hl' := len200' hl
      refine fnP_of_vc (nv := 9999) (cu := []) fits mixed Tryz.func9 rfl (by unfold HasBody; kernel_rfl) rfl ?_
      ((repeat' ((conv => whnf); (first | refine Fork.yes (by assumption) ?_ | refine Fork.no (by assumption) ?_ | refine Fork.nono (by assumption) ?_ | (refine Fork.yes ?_ ?_; focus (simp [andPD]; done)) | (refine Fork.no ?_ ?_; focus (simp [andPD]; done)) | refine Fork.neg (fun _ => ?_) (fun _ => ?_) | refine Fork.mk (fun _ => ?_) (fun _ => ?_) | refine Or.inl (Or.inl (Exists.intro _ (And.intro (by first | exact s1 | exact s2 | exact IsBad_d _ _ _ | exact Of_d _) ?_))) | refine Or.inl (Exists.intro _ (And.intro (by first | exact s1 | exact s2 | exact IsBad_d _ _ _ | exact Of_d _) ?_)) | refine Exists.intro _ (And.intro (by first | exact s1 | exact s2 | exact IsBad_d _ _ _ | exact Of_d _) ?_) | refine Both.mk ?_ ?_ | (refine And.intro ?_ ?_; focus (first | (kernel_rfl; done) | (first | assumption | omega | (simp; done); done)))))); (all_goals (conv => whnf)))
      all_goals exact LeD.rfl
  rw [if_neg h7]
  have l1 := like_d (gl := glV te pe) a.k a.n a.s b.k b.n b.s
  have l2 := like_d (gl := glV te pe) b.k b.n b.s a.k a.n a.s
  change FnP Tryz.prog (glV te pe) 34 [vlD a.k a.n a.s, vlD b.k b.n b.s] (likeV a b).d at l1
  change FnP Tryz.prog (glV te pe) 34 [vlD b.k b.n b.s, vlD a.k a.n a.s] (likeV b a).d at l2
  generalize likeV a b = x at *
  generalize likeV b a = y at *
  have c3 := vCompare_d (gl := glV te pe) x.k x.n x.s y.k y.n y.s
  change FnP Tryz.prog (glV te pe) 6 [vlD x.k x.n x.s, vlD y.k y.n y.s] (iD (cvV x y)) at c3
  generalize cvV x y = c at *
  have e : op = 1 ∨ op = 2 ∨ op = 3 ∨ op = 4 ∨ op = 5 ∨ op = 6 := by omega
  rcases e with rfl | rfl | rfl | rfl | rfl | rfl
  all_goals
    refine fnP_of_vc (nv := 9999) (cu := []) fits mixed Tryz.func9 rfl (by unfold HasBody; kernel_rfl) rfl ?_
    ((repeat' ((conv => whnf); (first | refine Fork.yes (by assumption) ?_ | refine Fork.no (by assumption) ?_ | refine Fork.nono (by assumption) ?_ | (refine Fork.yes ?_ ?_; focus (simp [andPD]; done)) | (refine Fork.no ?_ ?_; focus (simp [andPD]; done)) | refine Fork.neg (fun _ => ?_) (fun _ => ?_) | refine Fork.mk (fun _ => ?_) (fun _ => ?_) | refine Or.inl (Or.inl (Exists.intro _ (And.intro (by first | exact l1 | exact l2 | exact c3 | exact IsBad_d _ _ _ | exact Is_b _) ?_))) | refine Or.inl (Exists.intro _ (And.intro (by first | exact l1 | exact l2 | exact c3 | exact IsBad_d _ _ _ | exact Is_b _) ?_)) | refine Exists.intro _ (And.intro (by first | exact l1 | exact l2 | exact c3 | exact IsBad_d _ _ _ | exact Is_b _) ?_) | refine Both.mk ?_ ?_ | (refine And.intro ?_ ?_; focus (first | (kernel_rfl; done) | (first | assumption | omega | (simp; done); done)))))); (all_goals (conv => whnf)))
    all_goals exact LeD.rfl
theorem rTwo_v (op : Int) {a b : Vl} (ha : a.ok) (hb : b.ok) : FnP Tryz.prog gl 10 [iD op, a.d, b.d] (twoV op a b).d := by
  have hla := showV_len ha
  have hlb := showV_len hb
  obtain ⟨na, na'⟩ := numV_ok ha
  obtain ⟨nb, nb'⟩ := numV_ok hb
  have hs : ∀ v : Vl, v.ok → v.s.length ≤ 140737488355328 := fun v hv => by
    rcases hv.1 with h | h | h | h | h
    · rw [h.2.2]; decide
    · rw [h.2]; decide
    · omega
    · rw [h.2.2]; decide
    · rw [h.2.2.2]; decide
  have c1 := rNumber_d (gl := gl) ha.1
  have c2 := rNumber_d (gl := gl) hb.1
  unfold twoV
  by_cases h1 : op < 1
  · rw [if_pos (.inl h1)]
    refine fnP_of_vc (nv := 9999) (cu := []) fits mixed Tryz.func10 rfl (by unfold HasBody; kernel_rfl) rfl ?_
    ((repeat' ((conv => whnf); (first | refine Fork.yes (by assumption) ?_ | refine Fork.no (by assumption) ?_ | refine Fork.nono (by assumption) ?_ | (refine Fork.yes ?_ ?_; focus (simp [andPD]; done)) | (refine Fork.no ?_ ?_; focus (simp [andPD]; done)) | refine Fork.neg (fun _ => ?_) (fun _ => ?_) | refine Fork.mk (fun _ => ?_) (fun _ => ?_) | refine Or.inl (Or.inl (Exists.intro _ (And.intro (by first | exact rBad_d _) ?_))) | refine Or.inl (Exists.intro _ (And.intro (by first | exact rBad_d _) ?_)) | refine Exists.intro _ (And.intro (by first | exact rBad_d _) ?_) | refine Both.mk ?_ ?_ | (refine And.intro ?_ ?_; focus (first | (kernel_rfl; done) | (first | assumption | omega | (simp; done); done)))))); (all_goals (conv => whnf)))
    exact LeD.rfl
  by_cases h2 : 11 < op
  · rw [if_pos (.inr h2)]
    refine fnP_of_vc (nv := 9999) (cu := []) fits mixed Tryz.func10 rfl (by unfold HasBody; kernel_rfl) rfl ?_
    ((repeat' ((conv => whnf); (first | refine Fork.yes (by assumption) ?_ | refine Fork.no (by assumption) ?_ | refine Fork.nono (by assumption) ?_ | (refine Fork.yes ?_ ?_; focus (simp [andPD]; done)) | (refine Fork.no ?_ ?_; focus (simp [andPD]; done)) | refine Fork.neg (fun _ => ?_) (fun _ => ?_) | refine Fork.mk (fun _ => ?_) (fun _ => ?_) | refine Or.inl (Or.inl (Exists.intro _ (And.intro (by first | exact rBad_d _) ?_))) | refine Or.inl (Exists.intro _ (And.intro (by first | exact rBad_d _) ?_)) | refine Exists.intro _ (And.intro (by first | exact rBad_d _) ?_) | refine Both.mk ?_ ?_ | (refine And.intro ?_ ?_; focus (first | (kernel_rfl; done) | (first | assumption | omega | (simp; done); done)))))); (all_goals (conv => whnf)))
    exact LeD.rfl
  rw [if_neg (fun h => by omega)]
  by_cases h8 : 8 ≤ op
  · rw [if_pos h8]
    change FnP Tryz.prog gl 21 [vlD a.k a.n a.s] (numV a).d at c1
    change FnP Tryz.prog gl 21 [vlD b.k b.n b.s] (numV b).d at c2
    have c3 := rReckon_d (gl := gl) h8 (by omega) na.2 nb.2
    generalize numV a = x at *
    generalize numV b = y at *
    generalize rkV op x.n y.n = z at *
    by_cases q1 : x.k = 4
    · rw [if_pos q1]
      refine fnP_of_vc (nv := 9999) (cu := []) fits mixed Tryz.func10 rfl (by unfold HasBody; kernel_rfl) rfl ?_
      ((repeat' ((conv => whnf); (first | refine Fork.yes (by assumption) ?_ | refine Fork.no (by assumption) ?_ | refine Fork.nono (by assumption) ?_ | (refine Fork.yes ?_ ?_; focus (simp [andPD]; done)) | (refine Fork.no ?_ ?_; focus (simp [andPD]; done)) | refine Fork.neg (fun _ => ?_) (fun _ => ?_) | refine Fork.mk (fun _ => ?_) (fun _ => ?_) | refine Or.inl (Or.inl (Exists.intro _ (And.intro (by first | exact c1 | exact c2) ?_))) | refine Or.inl (Exists.intro _ (And.intro (by first | exact c1 | exact c2) ?_)) | refine Exists.intro _ (And.intro (by first | exact c1 | exact c2) ?_) | refine Both.mk ?_ ?_ | (refine And.intro ?_ ?_; focus (first | (kernel_rfl; done) | (first | assumption | omega | (simp; done); done)))))); (all_goals (conv => whnf)))
      all_goals exact LeD.rfl
    · rw [if_neg q1]
      by_cases q2 : y.k = 4
      · rw [if_pos q2]
        refine fnP_of_vc (nv := 9999) (cu := []) fits mixed Tryz.func10 rfl (by unfold HasBody; kernel_rfl) rfl ?_
        ((repeat' ((conv => whnf); (first | refine Fork.yes (by assumption) ?_ | refine Fork.no (by assumption) ?_ | refine Fork.nono (by assumption) ?_ | (refine Fork.yes ?_ ?_; focus (simp [andPD]; done)) | (refine Fork.no ?_ ?_; focus (simp [andPD]; done)) | refine Fork.neg (fun _ => ?_) (fun _ => ?_) | refine Fork.mk (fun _ => ?_) (fun _ => ?_) | refine Or.inl (Or.inl (Exists.intro _ (And.intro (by first | exact c1 | exact c2) ?_))) | refine Or.inl (Exists.intro _ (And.intro (by first | exact c1 | exact c2) ?_)) | refine Exists.intro _ (And.intro (by first | exact c1 | exact c2) ?_) | refine Both.mk ?_ ?_ | (refine And.intro ?_ ?_; focus (first | (kernel_rfl; done) | (first | assumption | omega | (simp; done); done)))))); (all_goals (conv => whnf)))
        all_goals exact LeD.rfl
      · rw [if_neg q2]
        refine fnP_of_vc (nv := 9999) (cu := []) fits mixed Tryz.func10 rfl (by unfold HasBody; kernel_rfl) rfl ?_
        ((repeat' ((conv => whnf); (first | refine Fork.yes (by assumption) ?_ | refine Fork.no (by assumption) ?_ | refine Fork.nono (by assumption) ?_ | (refine Fork.yes ?_ ?_; focus (simp [andPD]; done)) | (refine Fork.no ?_ ?_; focus (simp [andPD]; done)) | refine Fork.neg (fun _ => ?_) (fun _ => ?_) | refine Fork.mk (fun _ => ?_) (fun _ => ?_) | refine Or.inl (Or.inl (Exists.intro _ (And.intro (by first | exact c1 | exact c2 | exact c3) ?_))) | refine Or.inl (Exists.intro _ (And.intro (by first | exact c1 | exact c2 | exact c3) ?_)) | refine Exists.intro _ (And.intro (by first | exact c1 | exact c2 | exact c3) ?_) | refine Both.mk ?_ ?_ | (refine And.intro ?_ ?_; focus (first | (kernel_rfl; done) | (first | assumption | omega | (simp; done); done)))))); (all_goals (conv => whnf)))
        all_goals exact LeD.rfl
  rw [if_neg h8]
  by_cases q1 : a.k = 4
  · rw [if_pos q1]
    refine fnP_of_vc (nv := 9999) (cu := []) fits mixed Tryz.func10 rfl (by unfold HasBody; kernel_rfl) rfl ?_
    ((repeat' ((conv => whnf); (first | refine Fork.yes (by assumption) ?_ | refine Fork.no (by assumption) ?_ | refine Fork.nono (by assumption) ?_ | (refine Fork.yes ?_ ?_; focus (simp [andPD]; done)) | (refine Fork.no ?_ ?_; focus (simp [andPD]; done)) | refine Fork.neg (fun _ => ?_) (fun _ => ?_) | refine Fork.mk (fun _ => ?_) (fun _ => ?_) | refine Or.inl (Or.inl (Exists.intro _ (And.intro (by first | exact rBad_d _) ?_))) | refine Or.inl (Exists.intro _ (And.intro (by first | exact rBad_d _) ?_)) | refine Exists.intro _ (And.intro (by first | exact rBad_d _) ?_) | refine Both.mk ?_ ?_ | (refine And.intro ?_ ?_; focus (first | (kernel_rfl; done) | (first | assumption | omega | (simp; done); done)))))); (all_goals (conv => whnf)))
    all_goals exact LeD.rfl
  rw [if_neg q1]
  by_cases q2 : b.k = 4
  · rw [if_pos q2]
    refine fnP_of_vc (nv := 9999) (cu := []) fits mixed Tryz.func10 rfl (by unfold HasBody; kernel_rfl) rfl ?_
    ((repeat' ((conv => whnf); (first | refine Fork.yes (by assumption) ?_ | refine Fork.no (by assumption) ?_ | refine Fork.nono (by assumption) ?_ | (refine Fork.yes ?_ ?_; focus (simp [andPD]; done)) | (refine Fork.no ?_ ?_; focus (simp [andPD]; done)) | refine Fork.neg (fun _ => ?_) (fun _ => ?_) | refine Fork.mk (fun _ => ?_) (fun _ => ?_) | refine Or.inl (Or.inl (Exists.intro _ (And.intro (by first | exact rBad_d _) ?_))) | refine Or.inl (Exists.intro _ (And.intro (by first | exact rBad_d _) ?_)) | refine Exists.intro _ (And.intro (by first | exact rBad_d _) ?_) | refine Both.mk ?_ ?_ | (refine And.intro ?_ ?_; focus (first | (kernel_rfl; done) | (first | assumption | omega | (simp; done); done)))))); (all_goals (conv => whnf)))
    all_goals exact LeD.rfl
  rw [if_neg q2]
  by_cases h7 : op = 7
  · subst h7
    rw [if_pos rfl]
    have s1 := rShow_d (gl := gl) ha.1 ha.2
    have s2 := rShow_d (gl := gl) hb.1 hb.2
    change FnP Tryz.prog gl 20 [vlD a.k a.n a.s] (.str (showV a)) at s1
    change FnP Tryz.prog gl 20 [vlD b.k b.n b.s] (.str (showV b)) at s2
    generalize showV a = x at *
    generalize showV b = y at *
    by_cases hl : 200 < (x ++ y).length
    · rw [if_pos hl]
      have hl' := len_200.2 hl
      refine fnP_of_vc (nv := 9999) (cu := []) fits mixed Tryz.func10 rfl (by unfold HasBody; kernel_rfl) rfl ?_
      ((repeat' ((conv => whnf); (first | refine Fork.yes (by assumption) ?_ | refine Fork.no (by assumption) ?_ | refine Fork.nono (by assumption) ?_ | (refine Fork.yes ?_ ?_; focus (simp [andPD]; done)) | (refine Fork.no ?_ ?_; focus (simp [andPD]; done)) | refine Fork.neg (fun _ => ?_) (fun _ => ?_) | refine Fork.mk (fun _ => ?_) (fun _ => ?_) | refine Or.inl (Or.inl (Exists.intro _ (And.intro (by first | exact s1 | exact s2 | exact rBad_d _) ?_))) | refine Or.inl (Exists.intro _ (And.intro (by first | exact s1 | exact s2 | exact rBad_d _) ?_)) | refine Exists.intro _ (And.intro (by first | exact s1 | exact s2 | exact rBad_d _) ?_) | refine Both.mk ?_ ?_ | (refine And.intro ?_ ?_; focus (first | (kernel_rfl; done) | (first | assumption | omega | (simp; done); done)))))); (all_goals (conv => whnf)))
      all_goals exact LeD.rfl
    · rw [if_neg hl]
      have hl' := len200' hl
      refine fnP_of_vc (nv := 9999) (cu := []) fits mixed Tryz.func10 rfl (by unfold HasBody; kernel_rfl) rfl ?_
      ((repeat' ((conv => whnf); (first | refine Fork.yes (by assumption) ?_ | refine Fork.no (by assumption) ?_ | refine Fork.nono (by assumption) ?_ | (refine Fork.yes ?_ ?_; focus (simp [andPD]; done)) | (refine Fork.no ?_ ?_; focus (simp [andPD]; done)) | refine Fork.neg (fun _ => ?_) (fun _ => ?_) | refine Fork.mk (fun _ => ?_) (fun _ => ?_) | refine Or.inl (Or.inl (Exists.intro _ (And.intro (by first | exact s1 | exact s2 | exact rTxt_d _) ?_))) | refine Or.inl (Exists.intro _ (And.intro (by first | exact s1 | exact s2 | exact rTxt_d _) ?_)) | refine Exists.intro _ (And.intro (by first | exact s1 | exact s2 | exact rTxt_d _) ?_) | refine Both.mk ?_ ?_ | (refine And.intro ?_ ?_; focus (first | (kernel_rfl; done) | (first | assumption | omega | (simp; done); done)))))); (all_goals (conv => whnf)))
      all_goals exact LeD.rfl
  rw [if_neg h7]
  have l1 := beside_d (gl := gl) ha.1 hb.1
  have l2 := beside_d (gl := gl) hb.1 ha.1
  change FnP Tryz.prog gl 39 [vlD a.k a.n a.s, vlD b.k b.n b.s] (likeV a b).d at l1
  change FnP Tryz.prog gl 39 [vlD b.k b.n b.s, vlD a.k a.n a.s] (likeV b a).d at l2
  have v1 := likeV_ok ha.1 hb.1
  have v2 := likeV_ok hb.1 ha.1
  generalize likeV a b = x at *
  generalize likeV b a = y at *
  have c3 := rCompare_d (gl := gl) v1 v2
  change FnP Tryz.prog gl 13 [vlD x.k x.n x.s, vlD y.k y.n y.s] (iD (cvV x y)) at c3
  generalize cvV x y = c at *
  have e : op = 1 ∨ op = 2 ∨ op = 3 ∨ op = 4 ∨ op = 5 ∨ op = 6 := by omega
  rcases e with rfl | rfl | rfl | rfl | rfl | rfl
  all_goals
    refine fnP_of_vc (nv := 9999) (cu := []) fits mixed Tryz.func10 rfl (by unfold HasBody; kernel_rfl) rfl ?_
    ((repeat' ((conv => whnf); (first | refine Fork.yes (by assumption) ?_ | refine Fork.no (by assumption) ?_ | refine Fork.nono (by assumption) ?_ | (refine Fork.yes ?_ ?_; focus (simp [andPD]; done)) | (refine Fork.no ?_ ?_; focus (simp [andPD]; done)) | refine Fork.neg (fun _ => ?_) (fun _ => ?_) | refine Fork.mk (fun _ => ?_) (fun _ => ?_) | refine Or.inl (Or.inl (Exists.intro _ (And.intro (by first | exact l1 | exact l2 | exact c3 | exact rTru_b _) ?_))) | refine Or.inl (Exists.intro _ (And.intro (by first | exact l1 | exact l2 | exact c3 | exact rTru_b _) ?_)) | refine Exists.intro _ (And.intro (by first | exact l1 | exact l2 | exact c3 | exact rTru_b _) ?_) | refine Both.mk ?_ ?_ | (refine And.intro ?_ ?_; focus (first | (kernel_rfl; done) | (first | assumption | omega | (simp; done); done)))))); (all_goals (conv => whnf)))
    all_goals exact LeD.rfl
/-! ### The laws -/
theorem isR_y {k n : Int} {s : List UInt8} (h : isV k n s) : FnP Tryz.prog gl 8 [vlD k n s] (.v (.bool true)) := by
  rcases h with ⟨rfl, rfl, rfl⟩ | ⟨rfl, rfl⟩ | ⟨rfl, rfl, hl⟩ | ⟨rfl, rfl | rfl, rfl⟩ | ⟨rfl, h1, h2, rfl⟩
  · refine fnP_of_vc (nv := 9999) (cu := []) fits mixed Tryz.func8 rfl (by unfold HasBody; kernel_rfl) rfl ?_
    ((repeat' ((conv => whnf); (first | refine Fork.yes (by assumption) ?_ | refine Fork.no (by assumption) ?_ | refine Fork.nono (by assumption) ?_ | (refine Fork.yes ?_ ?_; focus (simp [andPD]; done)) | (refine Fork.no ?_ ?_; focus (simp [andPD]; done)) | refine Fork.neg (fun _ => ?_) (fun _ => ?_) | refine Fork.mk (fun _ => ?_) (fun _ => ?_) | refine Both.mk ?_ ?_ | (refine And.intro ?_ ?_; focus (first | (kernel_rfl; done) | (first | assumption | omega | (simp; done); done)))))); (all_goals (conv => whnf)))
    all_goals first | exact LeD.rfl | exact LeD.vt rfl | exact LeD.vt (by omega)
  · refine fnP_of_vc (nv := 9999) (cu := []) fits mixed Tryz.func8 rfl (by unfold HasBody; kernel_rfl) rfl ?_
    ((repeat' ((conv => whnf); (first | refine Fork.yes (by assumption) ?_ | refine Fork.no (by assumption) ?_ | refine Fork.nono (by assumption) ?_ | (refine Fork.yes ?_ ?_; focus (simp [andPD]; done)) | (refine Fork.no ?_ ?_; focus (simp [andPD]; done)) | refine Fork.neg (fun _ => ?_) (fun _ => ?_) | refine Fork.mk (fun _ => ?_) (fun _ => ?_) | refine Both.mk ?_ ?_ | (refine And.intro ?_ ?_; focus (first | (kernel_rfl; done) | (first | assumption | omega | (simp; done); done)))))); (all_goals (conv => whnf)))
    all_goals first | exact LeD.rfl | exact LeD.vt rfl | exact LeD.vt (by omega)
  · refine fnP_of_vc (nv := 9999) (cu := []) fits mixed Tryz.func8 rfl (by unfold HasBody; kernel_rfl) rfl ?_
    ((repeat' ((conv => whnf); (first | refine Fork.yes (by assumption) ?_ | refine Fork.no (by assumption) ?_ | refine Fork.nono (by assumption) ?_ | (refine Fork.yes ?_ ?_; focus (simp [andPD]; done)) | (refine Fork.no ?_ ?_; focus (simp [andPD]; done)) | refine Fork.neg (fun _ => ?_) (fun _ => ?_) | refine Fork.mk (fun _ => ?_) (fun _ => ?_) | refine Both.mk ?_ ?_ | (refine And.intro ?_ ?_; focus (first | (kernel_rfl; done) | (first | assumption | omega | (simp; done); done)))))); (all_goals (conv => whnf)))
    all_goals first | exact LeD.rfl | exact LeD.vt rfl | exact LeD.vt (by omega)
  · refine fnP_of_vc (nv := 9999) (cu := []) fits mixed Tryz.func8 rfl (by unfold HasBody; kernel_rfl) rfl ?_
    ((repeat' ((conv => whnf); (first | refine Fork.yes (by assumption) ?_ | refine Fork.no (by assumption) ?_ | refine Fork.nono (by assumption) ?_ | (refine Fork.yes ?_ ?_; focus (simp [andPD]; done)) | (refine Fork.no ?_ ?_; focus (simp [andPD]; done)) | refine Fork.neg (fun _ => ?_) (fun _ => ?_) | refine Fork.mk (fun _ => ?_) (fun _ => ?_) | refine Both.mk ?_ ?_ | (refine And.intro ?_ ?_; focus (first | (kernel_rfl; done) | (first | assumption | omega | (simp; done); done)))))); (all_goals (conv => whnf)))
    all_goals first | exact LeD.rfl | exact LeD.vt rfl | exact LeD.vt (by omega)
  · refine fnP_of_vc (nv := 9999) (cu := []) fits mixed Tryz.func8 rfl (by unfold HasBody; kernel_rfl) rfl ?_
    ((repeat' ((conv => whnf); (first | refine Fork.yes (by assumption) ?_ | refine Fork.no (by assumption) ?_ | refine Fork.nono (by assumption) ?_ | (refine Fork.yes ?_ ?_; focus (simp [andPD]; done)) | (refine Fork.no ?_ ?_; focus (simp [andPD]; done)) | refine Fork.neg (fun _ => ?_) (fun _ => ?_) | refine Fork.mk (fun _ => ?_) (fun _ => ?_) | refine Both.mk ?_ ?_ | (refine And.intro ?_ ?_; focus (first | (kernel_rfl; done) | (first | assumption | omega | (simp; done); done)))))); (all_goals (conv => whnf)))
    all_goals first | exact LeD.rfl | exact LeD.vt rfl | exact LeD.vt (by omega)
  · refine fnP_of_vc (nv := 9999) (cu := []) fits mixed Tryz.func8 rfl (by unfold HasBody; kernel_rfl) rfl ?_
    ((repeat' ((conv => whnf); (first | refine Fork.yes (by assumption) ?_ | refine Fork.no (by assumption) ?_ | refine Fork.nono (by assumption) ?_ | (refine Fork.yes ?_ ?_; focus (simp [andPD]; done)) | (refine Fork.no ?_ ?_; focus (simp [andPD]; done)) | refine Fork.neg (fun _ => ?_) (fun _ => ?_) | refine Fork.mk (fun _ => ?_) (fun _ => ?_) | refine Both.mk ?_ ?_ | (refine And.intro ?_ ?_; focus (first | (kernel_rfl; done) | (first | assumption | omega | (simp; done); done)))))); (all_goals (conv => whnf)))
    all_goals first | exact LeD.rfl | exact LeD.vt rfl | exact LeD.vt (by omega)
theorem isR_n {k n : Int} {s : List UInt8} (h : ¬ isV k n s) : FnP Tryz.prog gl 8 [vlD k n s] (.v (.bool false)) := by
  refine fnP_of_vc (nv := 9999) (cu := []) fits mixed Tryz.func8 rfl (by unfold HasBody; kernel_rfl) rfl ?_
  ((repeat' ((conv => whnf); (first | refine Fork.yes (by assumption) ?_ | refine Fork.no (by assumption) ?_ | refine Fork.nono (by assumption) ?_ | (refine Fork.yes ?_ ?_; focus (simp [andPD]; done)) | (refine Fork.no ?_ ?_; focus (simp [andPD]; done)) | refine Fork.neg (fun _ => ?_) (fun _ => ?_) | refine Fork.mk (fun _ => ?_) (fun _ => ?_) | refine Both.mk ?_ ?_ | (refine And.intro ?_ ?_; focus (first | (kernel_rfl; done) | (first | assumption | omega | (simp; done); done)))))); (all_goals (conv => whnf)))
  all_goals first | exact LeD.rfl | (refine LeD.vf fun hh => h ?_; unfold isV; simp_all; done) | (refine LeD.vf fun hh => h ?_; unfold isV; simp_all; omega) | (exfalso; apply h; unfold isV; simp_all; done) | (exfalso; apply h; unfold isV; simp_all; omega)
theorem ValueTwo_d (te : TypeId) (pe : Value) (op k n : Int) (s : List UInt8) (k' n' : Int) (s' : List UInt8) (hn : okI n) (hn' : okI n') : FnP Tryz.prog (glV te pe) 3 [iD op, vlD k n s, vlD k' n' s'] (.v (.bool true)) := by
  have f1 : FnP Tryz.prog (glV te pe) 6 [vlD 1 2 [], vlD 1 1 []] (iD 1) := vCompare_d 1 2 [] 1 1 []
  by_cases ha : isV k n s
  · have i1 := isR_y (gl := glV te pe) ha
    by_cases hb : isV k' n' s'
    · have i2 := isR_y (gl := glV te pe) hb
      have oa : (Vl.mk k n s).ok := ⟨ha, hn⟩
      have ob : (Vl.mk k' n' s').ok := ⟨hb, hn'⟩
      have t1 := Two_v te pe op oa ob
      have t2 := rTwo_v (gl := glV te pe) op oa ob
      have hs : ∀ v : Vl, v.ok → v.s.length ≤ 140737488355328 := fun v hv => by
        rcases hv.1 with h | h | h | h | h
        · rw [h.2.2]; decide
        · rw [h.2]; decide
        · omega
        · rw [h.2.2]; decide
        · rw [h.2.2.2]; decide
      obtain ⟨na, na'⟩ := numV_ok oa
      obtain ⟨nb, nb'⟩ := numV_ok ob
      have m1 := modN te pe na nb (Number_d te pe k n s (hs _ oa)) (Number_d te pe k' n' s' (hs _ ob)) _ rfl
      have m2 := rModN (gl := glV te pe) na nb (rNumber_d ha) (rNumber_d hb) _ rfl
      have d1 := vCompare_d (gl := glV te pe) k n s k' n' s'
      have d2 := rCompare_d (gl := glV te pe) ha hb
      generalize twoV op ⟨k, n, s⟩ ⟨k', n', s'⟩ = x at *
      generalize cv k n s k' n' s' = c at *
      change FnP Tryz.prog (glV te pe) 9 [iD op, vlD k n s, vlD k' n' s'] x.d at t1
      change FnP Tryz.prog (glV te pe) 10 [iD op, vlD k n s, vlD k' n' s'] x.d at t2
      generalize (if (numV ⟨k, n, s⟩).k = 4 then numV ⟨k, n, s⟩ else if (numV ⟨k', n', s'⟩).k = 4 then numV ⟨k', n', s'⟩ else if (numV ⟨k', n', s'⟩).n = 0 then (⟨4, 1, []⟩ : Vl) else ⟨1, (numV ⟨k, n, s⟩).n.fmod (numV ⟨k', n', s'⟩).n, []⟩) = y at *
      refine fnP_of_vc (nv := 9999) (cu := []) fits mixed Tryz.func3 rfl (by unfold HasBody; kernel_rfl) rfl ?_
      ((repeat' ((conv => whnf); (first | refine Fork.yes (by assumption) ?_ | refine Fork.no (by assumption) ?_ | refine Fork.nono (by assumption) ?_ | (refine Fork.yes ?_ ?_; focus (simp [andPD]; done)) | (refine Fork.no ?_ ?_; focus (simp [andPD]; done)) | refine Fork.neg (fun _ => ?_) (fun _ => ?_) | refine Fork.mk (fun _ => ?_) (fun _ => ?_) | refine Or.inl (Or.inl (Exists.intro _ (And.intro (by first | exact rNum_d _ | exact f1 | exact i1 | exact i2 | exact t1 | exact t2 | exact m1 | exact m2 | exact d1 | exact d2) ?_))) | refine Or.inl (Exists.intro _ (And.intro (by first | exact rNum_d _ | exact f1 | exact i1 | exact i2 | exact t1 | exact t2 | exact m1 | exact m2 | exact d1 | exact d2) ?_)) | refine Exists.intro _ (And.intro (by first | exact rNum_d _ | exact f1 | exact i1 | exact i2 | exact t1 | exact t2 | exact m1 | exact m2 | exact d1 | exact d2) ?_) | refine Both.mk ?_ ?_ | (refine And.intro ?_ ?_; focus (first | (kernel_rfl; done) | (first | assumption | omega | (simp; done); done)))))); (all_goals (conv => whnf)))
      all_goals first | exact LeD.rfl | exact LeD.vt rfl | exact LeD.vt (by simp [andPD])
    · have i2 := isR_n (gl := glV te pe) hb
      refine fnP_of_vc (nv := 9999) (cu := []) fits mixed Tryz.func3 rfl (by unfold HasBody; kernel_rfl) rfl ?_
      ((repeat' ((conv => whnf); (first | refine Fork.yes (by assumption) ?_ | refine Fork.no (by assumption) ?_ | refine Fork.nono (by assumption) ?_ | (refine Fork.yes ?_ ?_; focus (simp [andPD]; done)) | (refine Fork.no ?_ ?_; focus (simp [andPD]; done)) | refine Fork.neg (fun _ => ?_) (fun _ => ?_) | refine Fork.mk (fun _ => ?_) (fun _ => ?_) | refine Or.inl (Or.inl (Exists.intro _ (And.intro (by first | exact rNum_d _ | exact f1 | exact i1 | exact i2) ?_))) | refine Or.inl (Exists.intro _ (And.intro (by first | exact rNum_d _ | exact f1 | exact i1 | exact i2) ?_)) | refine Exists.intro _ (And.intro (by first | exact rNum_d _ | exact f1 | exact i1 | exact i2) ?_) | refine Both.mk ?_ ?_ | (refine And.intro ?_ ?_; focus (first | (kernel_rfl; done) | (first | assumption | omega | (simp; done); done)))))); (all_goals (conv => whnf)))
      all_goals exact LeD.rfl
  · have i1 := isR_n (gl := glV te pe) ha
    by_cases hb : isV k' n' s'
    · have i2 := isR_y (gl := glV te pe) hb
      refine fnP_of_vc (nv := 9999) (cu := []) fits mixed Tryz.func3 rfl (by unfold HasBody; kernel_rfl) rfl ?_
      ((repeat' ((conv => whnf); (first | refine Fork.yes (by assumption) ?_ | refine Fork.no (by assumption) ?_ | refine Fork.nono (by assumption) ?_ | (refine Fork.yes ?_ ?_; focus (simp [andPD]; done)) | (refine Fork.no ?_ ?_; focus (simp [andPD]; done)) | refine Fork.neg (fun _ => ?_) (fun _ => ?_) | refine Fork.mk (fun _ => ?_) (fun _ => ?_) | refine Or.inl (Or.inl (Exists.intro _ (And.intro (by first | exact rNum_d _ | exact f1 | exact i1 | exact i2) ?_))) | refine Or.inl (Exists.intro _ (And.intro (by first | exact rNum_d _ | exact f1 | exact i1 | exact i2) ?_)) | refine Exists.intro _ (And.intro (by first | exact rNum_d _ | exact f1 | exact i1 | exact i2) ?_) | refine Both.mk ?_ ?_ | (refine And.intro ?_ ?_; focus (first | (kernel_rfl; done) | (first | assumption | omega | (simp; done); done)))))); (all_goals (conv => whnf)))
      all_goals exact LeD.rfl
    · have i2 := isR_n (gl := glV te pe) hb
      refine fnP_of_vc (nv := 9999) (cu := []) fits mixed Tryz.func3 rfl (by unfold HasBody; kernel_rfl) rfl ?_
      ((repeat' ((conv => whnf); (first | refine Fork.yes (by assumption) ?_ | refine Fork.no (by assumption) ?_ | refine Fork.nono (by assumption) ?_ | (refine Fork.yes ?_ ?_; focus (simp [andPD]; done)) | (refine Fork.no ?_ ?_; focus (simp [andPD]; done)) | refine Fork.neg (fun _ => ?_) (fun _ => ?_) | refine Fork.mk (fun _ => ?_) (fun _ => ?_) | refine Or.inl (Or.inl (Exists.intro _ (And.intro (by first | exact rNum_d _ | exact f1 | exact i1 | exact i2) ?_))) | refine Or.inl (Exists.intro _ (And.intro (by first | exact rNum_d _ | exact f1 | exact i1 | exact i2) ?_)) | refine Exists.intro _ (And.intro (by first | exact rNum_d _ | exact f1 | exact i1 | exact i2) ?_) | refine Both.mk ?_ ?_ | (refine And.intro ?_ ?_; focus (first | (kernel_rfl; done) | (first | assumption | omega | (simp; done); done)))))); (all_goals (conv => whnf)))
      all_goals exact LeD.rfl
end Go.Proofs.YtbkhfmgdnnaaoaaGreatDoor
