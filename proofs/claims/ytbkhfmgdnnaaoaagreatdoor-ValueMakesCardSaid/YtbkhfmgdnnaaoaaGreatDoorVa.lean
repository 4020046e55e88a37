/- Proved: what the functions of package value without text reading return: makers, Check, Compare, like. No condition. -/
import Derived.Test.YtbkhfmgdnnaaoaaGreatDoorPf
namespace Go.Proofs.YtbkhfmgdnnaaoaaGreatDoor
open Go Go.EYtbkhfmgdnnaaoaaGreatDoor
set_option maxRecDepth 100000
variable {gl : List (Nat × List D)}
def vlD (k n : Int) (s : List UInt8) : D := .agg [iD k, iD n, .str s]
theorem Num_d (n : Int) : FnP Tryz.prog gl 41 [iD n] (vlD 1 n []) := by
  refine fnP_of_vc (nv := 9999) (cu := []) fits mixed Tryz.func41 rfl (by unfold HasBody; kernel_rfl) rfl ?_
  ((repeat' ((conv => whnf); (first | refine Fork.yes (by assumption) ?_ | refine Fork.no (by assumption) ?_ | refine Fork.nono (by assumption) ?_ | (refine Fork.yes ?_ ?_; focus (simp [andPD]; done)) | (refine Fork.no ?_ ?_; focus (simp [andPD]; done)) | refine Fork.neg (fun _ => ?_) (fun _ => ?_) | refine Fork.mk (fun _ => ?_) (fun _ => ?_) | refine Both.mk ?_ ?_ | (refine And.intro ?_ ?_; focus (first | (kernel_rfl; done) | (fail; done)))))); (all_goals (conv => whnf)))
  exact LeD.rfl
theorem Wrong_d (n : Int) : FnP Tryz.prog gl 30 [iD n] (vlD 4 n []) := by
  refine fnP_of_vc (nv := 9999) (cu := []) fits mixed Tryz.func30 rfl (by unfold HasBody; kernel_rfl) rfl ?_
  ((repeat' ((conv => whnf); (first | refine Fork.yes (by assumption) ?_ | refine Fork.no (by assumption) ?_ | refine Fork.nono (by assumption) ?_ | (refine Fork.yes ?_ ?_; focus (simp [andPD]; done)) | (refine Fork.no ?_ ?_; focus (simp [andPD]; done)) | refine Fork.neg (fun _ => ?_) (fun _ => ?_) | refine Fork.mk (fun _ => ?_) (fun _ => ?_) | refine Both.mk ?_ ?_ | (refine And.intro ?_ ?_; focus (first | (kernel_rfl; done) | (fail; done)))))); (all_goals (conv => whnf)))
  exact LeD.rfl
theorem Of_d (s : List UInt8) : FnP Tryz.prog gl 33 [.str s] (vlD 2 0 s) := by
  refine fnP_of_vc (nv := 9999) (cu := []) fits mixed Tryz.func33 rfl (by unfold HasBody; kernel_rfl) rfl ?_
  ((repeat' ((conv => whnf); (first | refine Fork.yes (by assumption) ?_ | refine Fork.no (by assumption) ?_ | refine Fork.nono (by assumption) ?_ | (refine Fork.yes ?_ ?_; focus (simp [andPD]; done)) | (refine Fork.no ?_ ?_; focus (simp [andPD]; done)) | refine Fork.neg (fun _ => ?_) (fun _ => ?_) | refine Fork.mk (fun _ => ?_) (fun _ => ?_) | refine Both.mk ?_ ?_ | (refine And.intro ?_ ?_; focus (first | (kernel_rfl; done) | (fail; done)))))); (all_goals (conv => whnf)))
  exact LeD.rfl
theorem rNum_d (n : Int) : FnP Tryz.prog gl 7 [iD n] (vlD 1 n []) := by
  refine fnP_of_vc (nv := 9999) (cu := []) fits mixed Tryz.func7 rfl (by unfold HasBody; kernel_rfl) rfl ?_
  ((repeat' ((conv => whnf); (first | refine Fork.yes (by assumption) ?_ | refine Fork.no (by assumption) ?_ | refine Fork.nono (by assumption) ?_ | (refine Fork.yes ?_ ?_; focus (simp [andPD]; done)) | (refine Fork.no ?_ ?_; focus (simp [andPD]; done)) | refine Fork.neg (fun _ => ?_) (fun _ => ?_) | refine Fork.mk (fun _ => ?_) (fun _ => ?_) | refine Both.mk ?_ ?_ | (refine And.intro ?_ ?_; focus (first | (kernel_rfl; done) | (fail; done)))))); (all_goals (conv => whnf)))
  exact LeD.rfl
theorem rTxt_d (s : List UInt8) : FnP Tryz.prog gl 38 [.str s] (vlD 2 0 s) := by
  refine fnP_of_vc (nv := 9999) (cu := []) fits mixed Tryz.func38 rfl (by unfold HasBody; kernel_rfl) rfl ?_
  ((repeat' ((conv => whnf); (first | refine Fork.yes (by assumption) ?_ | refine Fork.no (by assumption) ?_ | refine Fork.nono (by assumption) ?_ | (refine Fork.yes ?_ ?_; focus (simp [andPD]; done)) | (refine Fork.no ?_ ?_; focus (simp [andPD]; done)) | refine Fork.neg (fun _ => ?_) (fun _ => ?_) | refine Fork.mk (fun _ => ?_) (fun _ => ?_) | refine Both.mk ?_ ?_ | (refine And.intro ?_ ?_; focus (first | (kernel_rfl; done) | (fail; done)))))); (all_goals (conv => whnf)))
  exact LeD.rfl
theorem rBad_d (n : Int) : FnP Tryz.prog gl 36 [iD n] (vlD 4 n []) := by
  refine fnP_of_vc (nv := 9999) (cu := []) fits mixed Tryz.func36 rfl (by unfold HasBody; kernel_rfl) rfl ?_
  ((repeat' ((conv => whnf); (first | refine Fork.yes (by assumption) ?_ | refine Fork.no (by assumption) ?_ | refine Fork.nono (by assumption) ?_ | (refine Fork.yes ?_ ?_; focus (simp [andPD]; done)) | (refine Fork.no ?_ ?_; focus (simp [andPD]; done)) | refine Fork.neg (fun _ => ?_) (fun _ => ?_) | refine Fork.mk (fun _ => ?_) (fun _ => ?_) | refine Both.mk ?_ ?_ | (refine And.intro ?_ ?_; focus (first | (kernel_rfl; done) | (fail; done)))))); (all_goals (conv => whnf)))
  exact LeD.rfl
theorem rTru_y {p : Prop} (i : Decidable p) (h : p) : FnP Tryz.prog gl 40 [.b p i] (vlD 3 1 []) := by
  refine fnP_of_vc (nv := 9999) (cu := []) fits mixed Tryz.func40 rfl (by unfold HasBody; kernel_rfl) rfl ?_
  ((repeat' ((conv => whnf); (first | refine Fork.yes (by assumption) ?_ | refine Fork.no (by assumption) ?_ | refine Fork.nono (by assumption) ?_ | (refine Fork.yes ?_ ?_; focus (simp [andPD]; done)) | (refine Fork.no ?_ ?_; focus (simp [andPD]; done)) | refine Fork.neg (fun _ => ?_) (fun _ => ?_) | refine Fork.mk (fun _ => ?_) (fun _ => ?_) | refine Both.mk ?_ ?_ | (refine And.intro ?_ ?_; focus (first | (kernel_rfl; done) | (fail; done)))))); (all_goals (conv => whnf)))
  exact LeD.rfl
theorem rTru_n {p : Prop} (i : Decidable p) (h : ¬ p) : FnP Tryz.prog gl 40 [.b p i] (vlD 3 0 []) := by
  refine fnP_of_vc (nv := 9999) (cu := []) fits mixed Tryz.func40 rfl (by unfold HasBody; kernel_rfl) rfl ?_
  ((repeat' ((conv => whnf); (first | refine Fork.yes (by assumption) ?_ | refine Fork.no (by assumption) ?_ | refine Fork.nono (by assumption) ?_ | (refine Fork.yes ?_ ?_; focus (simp [andPD]; done)) | (refine Fork.no ?_ ?_; focus (simp [andPD]; done)) | refine Fork.neg (fun _ => ?_) (fun _ => ?_) | refine Fork.mk (fun _ => ?_) (fun _ => ?_) | refine Both.mk ?_ ?_ | (refine And.intro ?_ ?_; focus (first | (kernel_rfl; done) | (fail; done)))))); (all_goals (conv => whnf)))
  exact LeD.rfl
theorem Is_y {p : Prop} (i : Decidable p) (h : p) : FnP Tryz.prog gl 35 [.b p i] (vlD 3 1 []) := by
  refine fnP_of_vc (nv := 9999) (cu := []) fits mixed Tryz.func35 rfl (by unfold HasBody; kernel_rfl) rfl ?_
  ((repeat' ((conv => whnf); (first | refine Fork.yes (by assumption) ?_ | refine Fork.no (by assumption) ?_ | refine Fork.nono (by assumption) ?_ | (refine Fork.yes ?_ ?_; focus (simp [andPD]; done)) | (refine Fork.no ?_ ?_; focus (simp [andPD]; done)) | refine Fork.neg (fun _ => ?_) (fun _ => ?_) | refine Fork.mk (fun _ => ?_) (fun _ => ?_) | refine Both.mk ?_ ?_ | (refine And.intro ?_ ?_; focus (first | (kernel_rfl; done) | (fail; done)))))); (all_goals (conv => whnf)))
  exact LeD.rfl
theorem Is_n {p : Prop} (i : Decidable p) (h : ¬ p) : FnP Tryz.prog gl 35 [.b p i] (vlD 3 0 []) := by
  refine fnP_of_vc (nv := 9999) (cu := []) fits mixed Tryz.func35 rfl (by unfold HasBody; kernel_rfl) rfl ?_
  ((repeat' ((conv => whnf); (first | refine Fork.yes (by assumption) ?_ | refine Fork.no (by assumption) ?_ | refine Fork.nono (by assumption) ?_ | (refine Fork.yes ?_ ?_; focus (simp [andPD]; done)) | (refine Fork.no ?_ ?_; focus (simp [andPD]; done)) | refine Fork.neg (fun _ => ?_) (fun _ => ?_) | refine Fork.mk (fun _ => ?_) (fun _ => ?_) | refine Both.mk ?_ ?_ | (refine And.intro ?_ ?_; focus (first | (kernel_rfl; done) | (fail; done)))))); (all_goals (conv => whnf)))
  exact LeD.rfl
theorem IsBad_d (k n : Int) (s : List UInt8) : FnP Tryz.prog gl 31 [vlD k n s] (.b (k = 4) inferInstance) := by
  refine fnP_of_vc (nv := 9999) (cu := []) fits mixed Tryz.func31 rfl (by unfold HasBody; kernel_rfl) rfl ?_
  ((repeat' ((conv => whnf); (first | refine Fork.yes (by assumption) ?_ | refine Fork.no (by assumption) ?_ | refine Fork.nono (by assumption) ?_ | (refine Fork.yes ?_ ?_; focus (simp [andPD]; done)) | (refine Fork.no ?_ ?_; focus (simp [andPD]; done)) | refine Fork.neg (fun _ => ?_) (fun _ => ?_) | refine Fork.mk (fun _ => ?_) (fun _ => ?_) | refine Both.mk ?_ ?_ | (refine And.intro ?_ ?_; focus (first | (kernel_rfl; done) | (fail; done)))))); (all_goals (conv => whnf)))
  exact LeD.rfl
abbrev isV (k n : Int) (s : List UInt8) : Prop := (k = 0 ∧ n = 0 ∧ s = []) ∨ (k = 1 ∧ s = []) ∨ (k = 2 ∧ n = 0 ∧ s.length ≤ 200) ∨ (k = 3 ∧ (n = 0 ∨ n = 1) ∧ s = []) ∨ (k = 4 ∧ 1 ≤ n ∧ n ≤ 6 ∧ s = [])
theorem isNaNs_d (a : List UInt8) : FnP Tryz.prog gl 64 [.str a] (.v (.bool false)) := by
  refine fnP_of_vc (nv := 9999) (cu := []) fits mixed Tryz.func64 rfl (by unfold HasBody; kernel_rfl) rfl ?_
  ((repeat' ((conv => whnf); (first | refine Fork.yes (by assumption) ?_ | refine Fork.no (by assumption) ?_ | refine Fork.nono (by assumption) ?_ | (refine Fork.yes ?_ ?_; focus (simp [andPD]; done)) | (refine Fork.no ?_ ?_; focus (simp [andPD]; done)) | refine Fork.neg (fun _ => ?_) (fun _ => ?_) | refine Fork.mk (fun _ => ?_) (fun _ => ?_) | refine Both.mk ?_ ?_ | (refine And.intro ?_ ?_; focus (first | (kernel_rfl; done) | (fail; done)))))); (all_goals (conv => whnf)))
  exact LeD.vf (by simp)
def cmpS (a b : List UInt8) : Int := if Op.bytesLess a b = true then -1 else if a = b then 0 else 1
theorem cmpStr_d (a b : List UInt8) : FnP Tryz.prog gl 29 [.str a, .str b] (iD (cmpS a b)) := by
  refine fnP_of_vc (nv := 9999) (cu := []) fits mixed Tryz.func29 rfl (by unfold HasBody; kernel_rfl) rfl ?_
  ((repeat' ((conv => whnf); (first | refine Fork.yes (by assumption) ?_ | refine Fork.no (by assumption) ?_ | refine Fork.nono (by assumption) ?_ | (refine Fork.yes ?_ ?_; focus (simp [andPD]; done)) | (refine Fork.no ?_ ?_; focus (simp [andPD]; done)) | refine Fork.neg (fun _ => ?_) (fun _ => ?_) | refine Fork.mk (fun _ => ?_) (fun _ => ?_) | refine Or.inl (Or.inl (Exists.intro _ (And.intro (by first | exact isNaNs_d _) ?_))) | refine Or.inl (Exists.intro _ (And.intro (by first | exact isNaNs_d _) ?_)) | refine Exists.intro _ (And.intro (by first | exact isNaNs_d _) ?_) | refine Both.mk ?_ ?_ | (refine And.intro ?_ ?_; focus (first | (kernel_rfl; done) | (fail; done)))))); (all_goals (conv => whnf)))
  · rename_i h1
    exact LeD.of (congrArg iD (by unfold cmpS; rw [if_pos h1]))
  · rename_i h1 h2
    exact LeD.of (congrArg iD (by unfold cmpS; rw [if_neg h1, if_neg fun e => h2 (.inr e)]))
  · rename_i h1 h2
    exact LeD.of (congrArg iD (by unfold cmpS; rw [if_neg h1, if_pos (h2.resolve_left h1)]))
def cv (k n : Int) (s : List UInt8) (k' n' : Int) (s' : List UInt8) : Int := orL [cmpZ k k', cmpZ n n', cmpS s s']
theorem vCompare_d (k n : Int) (s : List UInt8) (k' n' : Int) (s' : List UInt8) : FnP Tryz.prog gl 6 [vlD k n s, vlD k' n' s'] (iD (cv k n s k' n' s')) := by
  refine fnP_of_vc (nv := 9999) (cu := []) fits mixed Tryz.func6 rfl (by unfold HasBody; kernel_rfl) rfl ?_
  ((repeat' ((conv => whnf); (first | refine Fork.yes (by assumption) ?_ | refine Fork.no (by assumption) ?_ | refine Fork.nono (by assumption) ?_ | (refine Fork.yes ?_ ?_; focus (simp [andPD]; done)) | (refine Fork.no ?_ ?_; focus (simp [andPD]; done)) | refine Fork.neg (fun _ => ?_) (fun _ => ?_) | refine Fork.mk (fun _ => ?_) (fun _ => ?_) | refine Or.inl (Or.inl (Exists.intro _ (And.intro (by first | exact cmpInt_d _ _ | exact cmpStr_d _ _ | exact Or_d [_, _, _] (by simp)) ?_))) | refine Or.inl (Exists.intro _ (And.intro (by first | exact cmpInt_d _ _ | exact cmpStr_d _ _ | exact Or_d [_, _, _] (by simp)) ?_)) | refine Exists.intro _ (And.intro (by first | exact cmpInt_d _ _ | exact cmpStr_d _ _ | exact Or_d [_, _, _] (by simp)) ?_) | refine Both.mk ?_ ?_ | (refine And.intro ?_ ?_; focus (first | (kernel_rfl; done) | (fail; done)))))); (all_goals (conv => whnf)))
  all_goals exact LeD.rfl
theorem like_same (k n : Int) (s : List UInt8) (n' : Int) (s' : List UInt8) : FnP Tryz.prog gl 34 [vlD k n s, vlD k n' s'] (vlD k n s) := by
  refine fnP_of_vc (nv := 9999) (cu := []) fits mixed Tryz.func34 rfl (by unfold HasBody; kernel_rfl) rfl ?_
  ((repeat' ((conv => whnf); (first | refine Fork.yes (by assumption) ?_ | refine Fork.no (by assumption) ?_ | refine Fork.nono (by assumption) ?_ | (refine Fork.yes ?_ ?_; focus (simp [andPD]; done)) | (refine Fork.no ?_ ?_; focus (simp [andPD]; done)) | refine Fork.neg (fun _ => ?_) (fun _ => ?_) | refine Fork.mk (fun _ => ?_) (fun _ => ?_) | refine Both.mk ?_ ?_ | (refine And.intro ?_ ?_; focus (first | (kernel_rfl; done) | (fail; done)))))); (all_goals (conv => whnf)))
  all_goals exact LeD.rfl
theorem vCheck_s {k n : Int} {s : List UInt8} (h : isV k n s) : FnP Tryz.prog gl 14 [vlD k n s] (errD 0) := by
  have key : s.length ≤ 200 → ((s.length : Nat) : Int) ≤ 200 := fun h => by omega
  rcases h with ⟨rfl, rfl, rfl⟩ | ⟨rfl, rfl⟩ | ⟨rfl, rfl, hl⟩ | ⟨rfl, rfl | rfl, rfl⟩ | ⟨rfl, h1, h2, rfl⟩
  all_goals try have hl' := key hl
  all_goals
    refine fnP_of_vc (nv := 9999) (cu := []) fits mixed Tryz.func14 rfl (by unfold HasBody; kernel_rfl) rfl ?_
    ((repeat' ((conv => whnf); (first | refine Fork.yes (by assumption) ?_ | refine Fork.no (by assumption) ?_ | refine Fork.nono (by assumption) ?_ | (refine Fork.yes ?_ ?_; focus (simp [andPD]; done)) | (refine Fork.no ?_ ?_; focus (simp [andPD]; done)) | refine Fork.neg (fun _ => ?_) (fun _ => ?_) | refine Fork.mk (fun _ => ?_) (fun _ => ?_) | refine Both.mk ?_ ?_ | (refine And.intro ?_ ?_; focus (first | (kernel_rfl; done) | (fail; done)))))); (all_goals (conv => whnf)))
    exact LeD.rfl
theorem vCheck_n {k n : Int} {s : List UInt8} (h : ¬ isV k n s) : FnP Tryz.prog gl 14 [vlD k n s] (errD 1) := by
  refine fnP_of_vc (nv := 9999) (cu := []) fits mixed Tryz.func14 rfl (by unfold HasBody; kernel_rfl) rfl ?_
  ((repeat' ((conv => whnf); (first | refine Fork.yes (by assumption) ?_ | refine Fork.no (by assumption) ?_ | refine Fork.nono (by assumption) ?_ | (refine Fork.yes ?_ ?_; focus (simp [andPD]; done)) | (refine Fork.no ?_ ?_; focus (simp [andPD]; done)) | refine Fork.neg (fun _ => ?_) (fun _ => ?_) | refine Fork.mk (fun _ => ?_) (fun _ => ?_) | refine Both.mk ?_ ?_ | (refine And.intro ?_ ?_; focus (first | (kernel_rfl; done) | (fail; done)))))); (all_goals (conv => whnf)))
  all_goals first | exact LeD.rfl | (exfalso; apply h; unfold isV; simp_all; done) | (exfalso; apply h; unfold isV; simp_all; omega)
end Go.Proofs.YtbkhfmgdnnaaoaaGreatDoor
