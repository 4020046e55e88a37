/- Proved: the law ValueMakes, called with any data, answers true. Conditions: the variables read as laid, the errors' type among them. -/
import Derived.Test.YtbkhfmgdnnaaoaaGreatDoorTe
namespace Go.Proofs.YtbkhfmgdnnaaoaaGreatDoor
open Go Go.EYtbkhfmgdnnaaoaaGreatDoor
set_option maxRecDepth 100000
variable {gl : List (Nat × List D)}
theorem FnP.more {P : Program} {gl gl' : List (Nat × List D)} {f : Nat} {ds : List D} {r : D} (hs : ∀ g l, Go.EYtbkhfmgdnnaaoaaGreatDoor.look gl g = some l → Go.EYtbkhfmgdnnaaoaaGreatDoor.look gl' g = some l) (h : FnP P gl f ds r) : FnP P gl' f ds r :=
  fun w M xs hM hg hd => h w M xs hM (fun g l hl => hg g l (hs g l hl)) hd
/-- What the variables hold, the errors' type among them. -/
abbrev glE (te : TypeId) (pe : Value) : List (Nat × List D) := (2, errT) :: glV te pe
theorem FnP.moreE {P : Program} {te : TypeId} {pe : Value} {f : Nat} {ds : List D} {r : D} (h : FnP P (glV te pe) f ds r) : FnP P (glE te pe) f ds r :=
  FnP.more (fun g l hl => by
    rw [look_cons]
    split
    · rename_i e
      subst e
      cases hl
    · exact hl) h
theorem Neg_v (te : TypeId) (pe : Value) {v : Vl} (hv : v.ok) : FnP Tryz.prog (glV te pe) 19 [v.d] (twoV 9 ⟨1, 0, []⟩ v).d := by
  have h := Two_v te pe 9 (a := ⟨1, 0, []⟩) ⟨.inr (.inl ⟨rfl, rfl⟩), by decide⟩ hv
  refine fnP_of_vc (nv := 9999) (cu := []) fits mixed Tryz.func19 rfl (by unfold HasBody; kernel_rfl) rfl ?_
  ((repeat' ((conv => whnf); (first | refine Fork.yes (by assumption) ?_ | refine Fork.no (by assumption) ?_ | refine Fork.nono (by assumption) ?_ | (refine Fork.yes ?_ ?_; focus (simp [andPD]; done)) | (refine Fork.no ?_ ?_; focus (simp [andPD]; done)) | refine Fork.neg (fun _ => ?_) (fun _ => ?_) | refine Fork.mk (fun _ => ?_) (fun _ => ?_) | refine Or.inl (Or.inl (Exists.intro _ (And.intro (by first | exact Num_d _ | exact h) ?_))) | refine Or.inl (Exists.intro _ (And.intro (by first | exact Num_d _ | exact h) ?_)) | refine Exists.intro _ (And.intro (by first | exact Num_d _ | exact h) ?_) | refine Both.mk ?_ ?_ | (refine And.intro ?_ ?_; focus (first | (kernel_rfl; done) | (first | assumption | omega | (simp; done); done)))))); (all_goals (conv => whnf)))
  exact LeD.rfl
theorem ValueMakes_d (te : TypeId) (pe : Value) (k n : Int) (s : List UInt8) (hn : okI n) : FnP Tryz.prog (glE te pe) 4 [vlD k n s] (.v (.bool true)) := by
  by_cases ha : isV k n s
  · have oa : (Vl.mk k n s).ok := ⟨ha, hn⟩
    have hs : s.length ≤ 140737488355328 := by
      rcases ha with h | h | h | h | h
      · rw [h.2.2]; decide
      · rw [h.2]; decide
      · omega
      · rw [h.2.2]; decide
      · rw [h.2.2.2]; decide
    have c1 := vCheck_s (gl := glE te pe) ha
    have c2 := Error_d (gl := glE te pe) 0 0 rfl
    have c3 := isR_y (gl := glE te pe) ha
    have s1 := FnP.moreE (Show_3 te pe k n s hn)
    have s2 := rShow_d (gl := glE te pe) ha hn
    have n1 := FnP.moreE (Number_d te pe k n s hs)
    have n2 := rNumber_d (gl := glE te pe) ha
    have t1 := FnP.moreE (Truth_d te pe ha)
    have t2 := rTruth_d (gl := glE te pe) ha
    have m1 := FnP.moreE (Neg_v te pe oa)
    have m2 := rTwo_v (gl := glE te pe) 9 (a := ⟨1, 0, []⟩) ⟨.inr (.inl ⟨rfl, rfl⟩), by decide⟩ oa
    change FnP Tryz.prog (glE te pe) 16 [vlD k n s] (.str (showV ⟨k, n, s⟩)) at s1
    change FnP Tryz.prog (glE te pe) 19 [vlD k n s] _ at m1
    change FnP Tryz.prog (glE te pe) 10 [iD 9, vlD 1 0 [], vlD k n s] _ at m2
    generalize showV ⟨k, n, s⟩ = x1 at *
    generalize numV ⟨k, n, s⟩ = x2 at *
    generalize truV ⟨k, n, s⟩ = x3 at *
    generalize twoV 9 ⟨1, 0, []⟩ ⟨k, n, s⟩ = x4 at *
    refine fnP_of_vc (nv := 9999) (cu := []) fits mixed Tryz.func4 rfl (by unfold HasBody; kernel_rfl) rfl ?_
    ((repeat' ((conv => whnf); (first | refine Fork.yes (by assumption) ?_ | refine Fork.no (by assumption) ?_ | refine Fork.nono (by assumption) ?_ | (refine Fork.yes ?_ ?_; focus (simp [andPD]; done)) | (refine Fork.no ?_ ?_; focus (simp [andPD]; done)) | refine Fork.neg (fun _ => ?_) (fun _ => ?_) | refine Fork.mk (fun _ => ?_) (fun _ => ?_) | refine Or.inl (Or.inl (Exists.intro _ (And.intro (by first | exact c1 | exact c2 | exact c3 | exact s1 | exact s2 | exact n1 | exact n2 | exact t1 | exact t2 | exact m1 | exact m2 | exact rNum_d _) ?_))) | refine Or.inl (Exists.intro _ (And.intro (by first | exact c1 | exact c2 | exact c3 | exact s1 | exact s2 | exact n1 | exact n2 | exact t1 | exact t2 | exact m1 | exact m2 | exact rNum_d _) ?_)) | refine Exists.intro _ (And.intro (by first | exact c1 | exact c2 | exact c3 | exact s1 | exact s2 | exact n1 | exact n2 | exact t1 | exact t2 | exact m1 | exact m2 | exact rNum_d _) ?_) | refine Both.mk ?_ ?_ | (refine And.intro ?_ ?_; focus (first | (kernel_rfl; done) | (first | assumption | omega | (simp; done); done)))))); (all_goals (conv => whnf)))
    all_goals first | exact True.intro | exact LeD.rfl | exact LeD.vt rfl | exact LeD.vt (by simp [andPD]) | exact LeD.vt (by simp)
  · have c1 := vCheck_n (gl := glE te pe) ha
    have c2 := Error_d (gl := glE te pe) 1 1 rfl
    have c3 := isR_n (gl := glE te pe) ha
    refine fnP_of_vc (nv := 9999) (cu := []) fits mixed Tryz.func4 rfl (by unfold HasBody; kernel_rfl) rfl ?_
    ((repeat' ((conv => whnf); (first | refine Fork.yes (by assumption) ?_ | refine Fork.no (by assumption) ?_ | refine Fork.nono (by assumption) ?_ | (refine Fork.yes ?_ ?_; focus (simp [andPD]; done)) | (refine Fork.no ?_ ?_; focus (simp [andPD]; done)) | refine Fork.neg (fun _ => ?_) (fun _ => ?_) | refine Fork.mk (fun _ => ?_) (fun _ => ?_) | refine Or.inl (Or.inl (Exists.intro _ (And.intro (by first | exact c1 | exact c2 | exact c3) ?_))) | refine Or.inl (Exists.intro _ (And.intro (by first | exact c1 | exact c2 | exact c3) ?_)) | refine Exists.intro _ (And.intro (by first | exact c1 | exact c2 | exact c3) ?_) | refine Both.mk ?_ ?_ | (refine And.intro ?_ ?_; focus (first | (kernel_rfl; done) | (first | assumption | omega | (simp; done); done)))))); (all_goals (conv => whnf)))
    all_goals first | exact True.intro | exact LeD.rfl | exact LeD.vt rfl | exact LeD.vt (by simp [andPD]) | exact LeD.vt (by simp)
end Go.Proofs.YtbkhfmgdnnaaoaaGreatDoor
