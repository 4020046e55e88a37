/- Proved: Mod, Truth, Compare and Two of package value and of the reference, on any two values. Conditions: the variables read as laid. -/
import Derived.Test.YtbkhfmgdnnaaoaaGreatDoorTc
namespace Go.Proofs.YtbkhfmgdnnaaoaaGreatDoor
open Go Go.EYtbkhfmgdnnaaoaaGreatDoor
set_option maxRecDepth 100000
variable {gl : List (Nat × List D)}
/-! ### Mod -/
theorem Rem_z {x y : Int} (hx : okI x) (hy : okI y) (h0 : y ≠ 0) : Go.EYtbkhfmgdnnaaoaaGreatDoor.Fn Tryz.prog gl 43 [.c (.ptr 0 0), .c (.d (.imm (zD x))), .c (.d (.imm (zD y)))] z0 1 (.ret (.c (.ptr 0 0))) (zB (x.tmod y)) 1 [] := by
  have hq := QuoRem_z (gl := gl) hx hy h0
  refine fn_of_vc (nv := 9999) (cu := []) fits mixed Tryz.func43 rfl (by unfold HasBody; kernel_rfl) rfl rfl rfl rfl ?_
  ((repeat' ((conv => whnf); (first | refine Fork.yes (by assumption) ?_ | refine Fork.no (by assumption) ?_ | refine Fork.nono (by assumption) ?_ | (refine Fork.yes ?_ ?_; focus (simp [andPD]; done)) | (refine Fork.no ?_ ?_; focus (simp [andPD]; done)) | refine Fork.neg (fun _ => ?_) (fun _ => ?_) | refine Fork.mk (fun _ => ?_) (fun _ => ?_) | (refine Or.inr (Exists.intro _ (Exists.intro _ (Exists.intro _ (Exists.intro _ (Exists.intro _ (And.intro (hq.ren [1, 0] _ rfl (by decide) (by decide)) (And.intro ?_ ?_))))))); focus ((repeat' first | exact rfl | ((conv => whnf); first | done | exact True.intro | refine And.intro ?_ ?_)); done)) | (refine Or.inl (Or.inr (Exists.intro _ (Exists.intro _ (Exists.intro _ (Exists.intro _ (Exists.intro _ (And.intro (hq.ren [1, 0] _ rfl (by decide) (by decide)) (And.intro ?_ ?_)))))))); focus ((repeat' first | exact rfl | ((conv => whnf); first | done | exact True.intro | refine And.intro ?_ ?_)); done)) | refine Both.mk ?_ ?_ | (refine And.intro ?_ ?_; focus (first | (kernel_rfl; done) | (first | assumption | omega | (simp; done); done)))))); (all_goals (conv => whnf)))
  ((repeat' first | exact rfl | ((conv => whnf); first | done | exact True.intro | exact Or.inr (Or.inl rfl) | exact Or.inr (Or.inr (Or.inl ⟨rfl, _, _, rfl, by omega⟩)) | refine And.intro ?_ ?_)); (all_goals (conv => whnf)))
def sgn (z : Int) : Int := if z = 0 then 0 else if z < 0 then -1 else 1
theorem Sign_z (z : Int) : FnP Tryz.prog gl 44 [.imm (zD z)] (iD (sgn z)) := by
  have hw := wlen (m := z.natAbs)
  unfold sgn
  by_cases h0 : z = 0
  · have h1 : (((wD (ws z.natAbs)).length : Nat) : Int) = 0 := by omega
    rw [if_pos h0]
    refine fnP_of_vc (nv := 9999) (cu := []) fits mixed Tryz.func44 rfl (by unfold HasBody; kernel_rfl) rfl ?_
    ((repeat' ((conv => whnf); (first | refine Fork.yes (by assumption) ?_ | refine Fork.no (by assumption) ?_ | refine Fork.nono (by assumption) ?_ | (refine Fork.yes ?_ ?_; focus (simp [andPD]; done)) | (refine Fork.no ?_ ?_; focus (simp [andPD]; done)) | refine Fork.neg (fun _ => ?_) (fun _ => ?_) | refine Fork.mk (fun _ => ?_) (fun _ => ?_) | refine Both.mk ?_ ?_ | (refine And.intro ?_ ?_; focus (first | (kernel_rfl; done) | (first | assumption | omega | (simp; done); done)))))); (all_goals (conv => whnf)))
    exact LeD.rfl
  · have h1 : ¬ (((wD (ws z.natAbs)).length : Nat) : Int) = 0 := by omega
    rw [if_neg h0]
    by_cases hz : z < 0
    · rw [if_pos hz]
      refine fnP_of_vc (nv := 9999) (cu := []) fits mixed Tryz.func44 rfl (by unfold HasBody; kernel_rfl) rfl ?_
      ((repeat' ((conv => whnf); (first | refine Fork.yes (by assumption) ?_ | refine Fork.no (by assumption) ?_ | refine Fork.nono (by assumption) ?_ | (refine Fork.yes ?_ ?_; focus (simp [andPD]; done)) | (refine Fork.no ?_ ?_; focus (simp [andPD]; done)) | refine Fork.neg (fun _ => ?_) (fun _ => ?_) | refine Fork.mk (fun _ => ?_) (fun _ => ?_) | refine Both.mk ?_ ?_ | (refine And.intro ?_ ?_; focus (first | (kernel_rfl; done) | (first | assumption | omega | (simp; done); done)))))); (all_goals (conv => whnf)))
      exact LeD.rfl
    · rw [if_neg hz]
      refine fnP_of_vc (nv := 9999) (cu := []) fits mixed Tryz.func44 rfl (by unfold HasBody; kernel_rfl) rfl ?_
      ((repeat' ((conv => whnf); (first | refine Fork.yes (by assumption) ?_ | refine Fork.no (by assumption) ?_ | refine Fork.nono (by assumption) ?_ | (refine Fork.yes ?_ ?_; focus (simp [andPD]; done)) | (refine Fork.no ?_ ?_; focus (simp [andPD]; done)) | refine Fork.neg (fun _ => ?_) (fun _ => ?_) | refine Fork.mk (fun _ => ?_) (fun _ => ?_) | refine Both.mk ?_ ?_ | (refine And.intro ?_ ?_; focus (first | (kernel_rfl; done) | (first | assumption | omega | (simp; done); done)))))); (all_goals (conv => whnf)))
      exact LeD.rfl
theorem give_zz {p p0 : Prop} (i : Decidable p) (i0 : Decidable p0) (m : Nat) (l : List (List D)) {z : Int} (hz : (p ∧ m ≠ 0) ↔ z < 0) : Go.EYtbkhfmgdnnaaoaaGreatDoor.Fn Tryz.prog gl 73 [.c (.ptr 0 0), .c (.d (.b p i)), .c (.d (W m))] [(0, .var [.d (.b p0 i0), .d (.lst 1 l)] 59)] 1 (.ret (.c (.ptr 0 0))) [(0, .var [.d (.b (z < 0) inferInstance), .d (W m)] 59)] 1 [] := by
  have hw := wlen (m := m)
  by_cases hp : p
  · refine fn_of_vc (nv := 9999) (cu := []) fits mixed Tryz.func73 rfl (by unfold HasBody; kernel_rfl) rfl rfl rfl rfl ?_
    ((repeat' ((conv => whnf); (first | refine Fork.yes (by assumption) ?_ | refine Fork.no (by assumption) ?_ | refine Fork.nono (by assumption) ?_ | (refine Fork.yes ?_ ?_; focus (simp [andPD]; done)) | (refine Fork.no ?_ ?_; focus (simp [andPD]; done)) | refine Fork.neg (fun _ => ?_) (fun _ => ?_) | refine Fork.mk (fun _ => ?_) (fun _ => ?_) | refine Both.mk ?_ ?_ | (refine And.intro ?_ ?_; focus (first | (kernel_rfl; done) | (first | assumption | omega | (simp; done); done)))))); (all_goals (conv => whnf)))
    ((repeat' first | exact rfl | ((conv => whnf); first | done | exact True.intro | exact Or.inr (Or.inl rfl) | exact Or.inr (Or.inr (Or.inl ⟨rfl, _, _, rfl, by omega⟩)) | refine And.intro ?_ ?_)); (all_goals (conv => whnf)))
    exact .inr (.inr (.inr (show LeD _ _ from LeD.b (by rw [hw, ← hz]; simp [hp]))))
  · have h0 : ¬ z < 0 := fun h => hp (hz.2 h).1
    refine fn_of_vc (nv := 9999) (cu := []) fits mixed Tryz.func73 rfl (by unfold HasBody; kernel_rfl) rfl rfl rfl rfl ?_
    ((repeat' ((conv => whnf); (first | refine Fork.yes (by assumption) ?_ | refine Fork.no (by assumption) ?_ | refine Fork.nono (by assumption) ?_ | (refine Fork.yes ?_ ?_; focus (simp [andPD]; done)) | (refine Fork.no ?_ ?_; focus (simp [andPD]; done)) | refine Fork.neg (fun _ => ?_) (fun _ => ?_) | refine Fork.mk (fun _ => ?_) (fun _ => ?_) | refine Both.mk ?_ ?_ | (refine And.intro ?_ ?_; focus (first | (kernel_rfl; done) | (first | assumption | omega | (simp; done); done)))))); (all_goals (conv => whnf)))
    ((repeat' first | exact rfl | ((conv => whnf); first | done | exact True.intro | exact Or.inr (Or.inl rfl) | exact Or.inr (Or.inr (Or.inl ⟨rfl, _, _, rfl, by omega⟩)) | refine And.intro ?_ ?_)); (all_goals (conv => whnf)))
    exact .inr (.inr (.inr (show LeD _ _ from LeD.bf h0)))
theorem Add_zz {x y : Int} (hx : okI x) (hy : okI y) : Go.EYtbkhfmgdnnaaoaaGreatDoor.Fn Tryz.prog gl 45 [.c (.ptr 0 0), .c (.ptr 0 0), .c (.d (.imm (zD y)))] (zB x) 1 (.ret (.c (.ptr 0 0))) (zB (x + y)) 1 [] := by
  have h2 := ws2 (n := x.natAbs) (by omega)
  have h3 := ws2 (n := y.natAbs) (by omega)
  obtain ⟨r, k, t, h1, hs⟩ := sum_z (gl := gl) (p := x < 0) (q := y < 0) inferInstance inferInstance x.natAbs y.natAbs (by omega) (by omega)
  rw [sv_z, sv_z] at h1
  obtain ⟨rfl, h4⟩ := sv_flag h1
  have hg := give_zz (gl := gl) k (inferInstance : Decidable (x < 0)) _ (wD (ws x.natAbs)) h4
  refine fn_of_vc (nv := 9999) (cu := []) fits mixed Tryz.func45 rfl (by unfold HasBody; kernel_rfl) rfl rfl rfl rfl ?_
  ((repeat' ((conv => whnf); (first | refine Fork.yes (by assumption) ?_ | refine Fork.no (by assumption) ?_ | refine Fork.nono (by assumption) ?_ | (refine Fork.yes ?_ ?_; focus (simp [andPD]; done)) | (refine Fork.no ?_ ?_; focus (simp [andPD]; done)) | refine Fork.neg (fun _ => ?_) (fun _ => ?_) | refine Fork.mk (fun _ => ?_) (fun _ => ?_) | (refine Or.inr (Exists.intro _ (Exists.intro _ (Exists.intro _ (Exists.intro _ (Exists.intro _ (And.intro (hg.ren [0] _ rfl (by decide) (by decide)) (And.intro ?_ ?_))))))); focus ((repeat' first | exact rfl | ((conv => whnf); first | done | exact True.intro | refine And.intro ?_ ?_)); done)) | (refine Or.inl (Or.inr (Exists.intro _ (Exists.intro _ (Exists.intro _ (Exists.intro _ (Exists.intro _ (And.intro (hg.ren [0] _ rfl (by decide) (by decide)) (And.intro ?_ ?_)))))))); focus ((repeat' first | exact rfl | ((conv => whnf); first | done | exact True.intro | refine And.intro ?_ ?_)); done)) | refine Or.inl (Or.inl (Exists.intro _ (And.intro (by first | exact hs) ?_))) | refine Or.inl (Exists.intro _ (And.intro (by first | exact hs) ?_)) | refine Exists.intro _ (And.intro (by first | exact hs) ?_) | refine Both.mk ?_ ?_ | (refine And.intro ?_ ?_; focus (first | (kernel_rfl; done) | (first | assumption | omega | (simp; done); done)))))); (all_goals (conv => whnf)))
  ((repeat' first | exact rfl | ((conv => whnf); first | done | exact True.intro | exact Or.inr (Or.inl rfl) | exact Or.inr (Or.inr (Or.inl ⟨rfl, _, _, rfl, by omega⟩)) | refine And.intro ?_ ?_)); (all_goals (conv => whnf)))
theorem fmod_okI {x y : Int} (hx : okI x) (hy : okI y) (h0 : ¬ y = 0) : okI (x.fmod y) := by
  obtain ⟨h1, h2⟩ := fmod_facts x h0
  omega
def modV (a b : Vl) : Vl := if (numV a).k = 4 then numV a else if (numV b).k = 4 then numV b else if (numV b).n = 0 then ⟨4, 1, []⟩ else ⟨1, (numV a).n.fmod (numV b).n, []⟩
/-- Mod of two numbers: the rest is that of the rounded quotient. -/
theorem modN (te : TypeId) (pe : Value) {k n k' n' : Int} {s s' : List UInt8} {a b : Vl} (ha : a.ok) (hb : b.ok) (hA : FnP Tryz.prog (glV te pe) 17 [vlD k n s] a.d) (hB : FnP Tryz.prog (glV te pe) 17 [vlD k' n' s'] b.d) (r : Vl)
    (hr : r = if a.k = 4 then a else if b.k = 4 then b else if b.n = 0 then ⟨4, 1, []⟩ else ⟨1, a.n.fmod b.n, []⟩) : FnP Tryz.prog (glV te pe) 11 [vlD k n s, vlD k' n' s'] r.d := by
  obtain ⟨ak, an, a3⟩ := a
  obtain ⟨bk, bn, b3⟩ := b
  replace hA : FnP Tryz.prog (glV te pe) 17 [vlD k n s] (vlD ak an a3) := hA
  replace hB : FnP Tryz.prog (glV te pe) 17 [vlD k' n' s'] (vlD bk bn b3) := hB
  have h1 := ha.2
  have h2 := hb.2
  simp only at h1 h2 hr
  by_cases q1 : ak = 4
  · rw [if_pos q1] at hr
    subst hr
    refine fnP_of_vc (nv := 9999) (cu := []) fits mixed Tryz.func11 rfl (by unfold HasBody; kernel_rfl) rfl ?_
    ((repeat' ((conv => whnf); (first | refine Fork.yes (by assumption) ?_ | refine Fork.no (by assumption) ?_ | refine Fork.nono (by assumption) ?_ | (refine Fork.yes ?_ ?_; focus (simp [andPD]; done)) | (refine Fork.no ?_ ?_; focus (simp [andPD]; done)) | refine Fork.neg (fun _ => ?_) (fun _ => ?_) | refine Fork.mk (fun _ => ?_) (fun _ => ?_) | refine Or.inl (Or.inl (Exists.intro _ (And.intro (by first | exact hA | exact hB | exact IsBad_d _ _ _) ?_))) | refine Or.inl (Exists.intro _ (And.intro (by first | exact hA | exact hB | exact IsBad_d _ _ _) ?_)) | refine Exists.intro _ (And.intro (by first | exact hA | exact hB | exact IsBad_d _ _ _) ?_) | refine Both.mk ?_ ?_ | (refine And.intro ?_ ?_; focus (first | (kernel_rfl; done) | (first | assumption | omega | (simp; done); done)))))); (all_goals (conv => whnf)))
    all_goals exact LeD.rfl
  rw [if_neg q1] at hr
  by_cases q2 : bk = 4
  · rw [if_pos q2] at hr
    subst hr
    refine fnP_of_vc (nv := 9999) (cu := []) fits mixed Tryz.func11 rfl (by unfold HasBody; kernel_rfl) rfl ?_
    ((repeat' ((conv => whnf); (first | refine Fork.yes (by assumption) ?_ | refine Fork.no (by assumption) ?_ | refine Fork.nono (by assumption) ?_ | (refine Fork.yes ?_ ?_; focus (simp [andPD]; done)) | (refine Fork.no ?_ ?_; focus (simp [andPD]; done)) | refine Fork.neg (fun _ => ?_) (fun _ => ?_) | refine Fork.mk (fun _ => ?_) (fun _ => ?_) | refine Or.inl (Or.inl (Exists.intro _ (And.intro (by first | exact hA | exact hB | exact IsBad_d _ _ _) ?_))) | refine Or.inl (Exists.intro _ (And.intro (by first | exact hA | exact hB | exact IsBad_d _ _ _) ?_)) | refine Exists.intro _ (And.intro (by first | exact hA | exact hB | exact IsBad_d _ _ _) ?_) | refine Both.mk ?_ ?_ | (refine And.intro ?_ ?_; focus (first | (kernel_rfl; done) | (first | assumption | omega | (simp; done); done)))))); (all_goals (conv => whnf)))
    all_goals exact LeD.rfl
  rw [if_neg q2] at hr
  by_cases q3 : bn = 0
  · rw [if_pos q3] at hr
    subst hr
    refine fnP_of_vc (nv := 9999) (cu := []) fits mixed Tryz.func11 rfl (by unfold HasBody; kernel_rfl) rfl ?_
    ((repeat' ((conv => whnf); (first | refine Fork.yes (by assumption) ?_ | refine Fork.no (by assumption) ?_ | refine Fork.nono (by assumption) ?_ | (refine Fork.yes ?_ ?_; focus (simp [andPD]; done)) | (refine Fork.no ?_ ?_; focus (simp [andPD]; done)) | refine Fork.neg (fun _ => ?_) (fun _ => ?_) | refine Fork.mk (fun _ => ?_) (fun _ => ?_) | refine Or.inl (Or.inl (Exists.intro _ (And.intro (by first | exact hA | exact hB | exact IsBad_d _ _ _ | exact Wrong_d _) ?_))) | refine Or.inl (Exists.intro _ (And.intro (by first | exact hA | exact hB | exact IsBad_d _ _ _ | exact Wrong_d _) ?_)) | refine Exists.intro _ (And.intro (by first | exact hA | exact hB | exact IsBad_d _ _ _ | exact Wrong_d _) ?_) | refine Both.mk ?_ ?_ | (refine And.intro ?_ ?_; focus (first | (kernel_rfl; done) | (first | assumption | omega | (simp; done); done)))))); (all_goals (conv => whnf)))
    all_goals exact LeD.rfl
  rw [if_neg q3] at hr
  subst hr
  have e := fmod_tmod an q3
  have e2 : bn = -1 → an.tmod bn = 0 := fun hb => by rw [hb, Int.tmod_neg, Int.tmod_one]
  have e3 := fmod_facts an q3
  have e4 : (an.tmod bn).natAbs ≤ bn.natAbs := by
    rw [Int.natAbs_tmod]; exact Nat.le_of_lt (Nat.mod_lt _ (by omega))
  have e5 := i64w (an.tmod bn + bn)
  refine fnP_of_vc (nv := 9999) (cu := []) fits mixed Tryz.func11 rfl (by unfold HasBody; kernel_rfl) rfl ?_
  ((repeat' ((conv => whnf); (first | refine Fork.yes (by assumption) ?_ | refine Fork.no (by assumption) ?_ | refine Fork.nono (by assumption) ?_ | (refine Fork.yes ?_ ?_; focus (simp [andPD]; done)) | (refine Fork.no ?_ ?_; focus (simp [andPD]; done)) | refine Fork.neg (fun _ => ?_) (fun _ => ?_) | refine Fork.mk (fun _ => ?_) (fun _ => ?_) | refine Or.inl (Or.inl (Exists.intro _ (And.intro (by first | exact hA | exact hB | exact IsBad_d _ _ _ | exact Wrong_d _ | exact Num_d _) ?_))) | refine Or.inl (Exists.intro _ (And.intro (by first | exact hA | exact hB | exact IsBad_d _ _ _ | exact Wrong_d _ | exact Num_d _) ?_)) | refine Exists.intro _ (And.intro (by first | exact hA | exact hB | exact IsBad_d _ _ _ | exact Wrong_d _ | exact Num_d _) ?_) | refine Both.mk ?_ ?_ | (refine And.intro ?_ ?_; focus (first | (kernel_rfl; done) | (first | assumption | omega | (simp; done); done)))))); (all_goals (conv => whnf)))
  all_goals (refine vl_le rfl ?_; show _ = an.fmod bn; split at e <;> omega)
theorem rModN {k n k' n' : Int} {s s' : List UInt8} {a b : Vl} (ha : a.ok) (hb : b.ok) (hA : FnP Tryz.prog gl 21 [vlD k n s] a.d) (hB : FnP Tryz.prog gl 21 [vlD k' n' s'] b.d) (r : Vl)
    (hr : r = if a.k = 4 then a else if b.k = 4 then b else if b.n = 0 then ⟨4, 1, []⟩ else ⟨1, a.n.fmod b.n, []⟩) : FnP Tryz.prog gl 12 [vlD k n s, vlD k' n' s'] r.d := by
  obtain ⟨ak, an, a3⟩ := a
  obtain ⟨bk, bn, b3⟩ := b
  replace hA : FnP Tryz.prog gl 21 [vlD k n s] (vlD ak an a3) := hA
  replace hB : FnP Tryz.prog gl 21 [vlD k' n' s'] (vlD bk bn b3) := hB
  have h1 := ha.2
  have h2 := hb.2
  simp only at h1 h2 hr
  by_cases q1 : ak = 4
  · rw [if_pos q1] at hr
    subst hr
    refine fnP_of_vc (nv := 9999) (cu := []) fits mixed Tryz.func12 rfl (by unfold HasBody; kernel_rfl) rfl ?_
    ((repeat' ((conv => whnf); (first | refine Fork.yes (by assumption) ?_ | refine Fork.no (by assumption) ?_ | refine Fork.nono (by assumption) ?_ | (refine Fork.yes ?_ ?_; focus (simp [andPD]; done)) | (refine Fork.no ?_ ?_; focus (simp [andPD]; done)) | refine Fork.neg (fun _ => ?_) (fun _ => ?_) | refine Fork.mk (fun _ => ?_) (fun _ => ?_) | refine Or.inl (Or.inl (Exists.intro _ (And.intro (by first | exact hA | exact hB) ?_))) | refine Or.inl (Exists.intro _ (And.intro (by first | exact hA | exact hB) ?_)) | refine Exists.intro _ (And.intro (by first | exact hA | exact hB) ?_) | refine Both.mk ?_ ?_ | (refine And.intro ?_ ?_; focus (first | (kernel_rfl; done) | (first | assumption | omega | (simp; done); done)))))); (all_goals (conv => whnf)))
    all_goals exact LeD.rfl
  rw [if_neg q1] at hr
  by_cases q2 : bk = 4
  · rw [if_pos q2] at hr
    subst hr
    refine fnP_of_vc (nv := 9999) (cu := []) fits mixed Tryz.func12 rfl (by unfold HasBody; kernel_rfl) rfl ?_
    ((repeat' ((conv => whnf); (first | refine Fork.yes (by assumption) ?_ | refine Fork.no (by assumption) ?_ | refine Fork.nono (by assumption) ?_ | (refine Fork.yes ?_ ?_; focus (simp [andPD]; done)) | (refine Fork.no ?_ ?_; focus (simp [andPD]; done)) | refine Fork.neg (fun _ => ?_) (fun _ => ?_) | refine Fork.mk (fun _ => ?_) (fun _ => ?_) | refine Or.inl (Or.inl (Exists.intro _ (And.intro (by first | exact hA | exact hB) ?_))) | refine Or.inl (Exists.intro _ (And.intro (by first | exact hA | exact hB) ?_)) | refine Exists.intro _ (And.intro (by first | exact hA | exact hB) ?_) | refine Both.mk ?_ ?_ | (refine And.intro ?_ ?_; focus (first | (kernel_rfl; done) | (first | assumption | omega | (simp; done); done)))))); (all_goals (conv => whnf)))
    all_goals exact LeD.rfl
  rw [if_neg q2] at hr
  by_cases q3 : bn = 0
  · rw [if_pos q3] at hr
    subst hr
    refine fnP_of_vc (nv := 9999) (cu := []) fits mixed Tryz.func12 rfl (by unfold HasBody; kernel_rfl) rfl ?_
    ((repeat' ((conv => whnf); (first | refine Fork.yes (by assumption) ?_ | refine Fork.no (by assumption) ?_ | refine Fork.nono (by assumption) ?_ | (refine Fork.yes ?_ ?_; focus (simp [andPD]; done)) | (refine Fork.no ?_ ?_; focus (simp [andPD]; done)) | refine Fork.neg (fun _ => ?_) (fun _ => ?_) | refine Fork.mk (fun _ => ?_) (fun _ => ?_) | refine Or.inl (Or.inl (Exists.intro _ (And.intro (by first | exact hA | exact hB | exact rBad_d _) ?_))) | refine Or.inl (Exists.intro _ (And.intro (by first | exact hA | exact hB | exact rBad_d _) ?_)) | refine Exists.intro _ (And.intro (by first | exact hA | exact hB | exact rBad_d _) ?_) | refine Both.mk ?_ ?_ | (refine And.intro ?_ ?_; focus (first | (kernel_rfl; done) | (first | assumption | omega | (simp; done); done)))))); (all_goals (conv => whnf)))
    all_goals exact LeD.rfl
  rw [if_neg q3] at hr
  subst hr
  have e := fmod_tmod an q3
  have e4 : (an.tmod bn).natAbs < bn.natAbs := by
    rw [Int.natAbs_tmod]; exact Nat.mod_lt _ (by omega)
  have e3 := fmod_facts an q3
  have c1 := NewInt_z (gl := gl) h1
  have c2 := NewInt_z (gl := gl) h2
  have c3 := Rem_z (gl := gl) h1 h2 q3
  have c4 := Sign_z (gl := gl) (an.tmod bn)
  have c5 := Sign_z (gl := gl) bn
  by_cases hc : ¬ an.tmod bn = 0 ∧ ((an.tmod bn < 0) ↔ ¬ (bn < 0))
  · rw [if_pos hc] at e
    have c6 := Add_zz (gl := gl) (x := an.tmod bn) (y := bn) (by omega) h2
    have c7 := Int64_z (gl := gl) (z := an.tmod bn + bn) (by omega)
    have d1 : ¬ sgn (an.tmod bn) = 0 := by unfold sgn; split <;> (try split) <;> omega
    have d2 : ¬ sgn (an.tmod bn) = sgn bn := by unfold sgn; repeat' split <;> omega
    refine fnP_of_vc (nv := 9999) (cu := []) fits mixed Tryz.func12 rfl (by unfold HasBody; kernel_rfl) rfl ?_
    ((repeat' ((conv => whnf); (first | refine Fork.yes (by assumption) ?_ | refine Fork.no (by assumption) ?_ | refine Fork.nono (by assumption) ?_ | (refine Fork.yes ?_ ?_; focus (simp [andPD]; done)) | (refine Fork.no ?_ ?_; focus (simp [andPD]; done)) | refine Fork.neg (fun _ => ?_) (fun _ => ?_) | refine Fork.mk (fun _ => ?_) (fun _ => ?_) | (refine Or.inr (Exists.intro _ (Exists.intro _ (Exists.intro _ (Exists.intro _ (Exists.intro _ (And.intro (c3.ren [3] _ rfl (by decide) (by decide)) (And.intro ?_ ?_))))))); focus ((repeat' first | exact rfl | ((conv => whnf); first | done | exact True.intro | refine And.intro ?_ ?_)); done)) | (refine Or.inl (Or.inr (Exists.intro _ (Exists.intro _ (Exists.intro _ (Exists.intro _ (Exists.intro _ (And.intro (c3.ren [3] _ rfl (by decide) (by decide)) (And.intro ?_ ?_)))))))); focus ((repeat' first | exact rfl | ((conv => whnf); first | done | exact True.intro | refine And.intro ?_ ?_)); done)) | (refine Or.inr (Exists.intro _ (Exists.intro _ (Exists.intro _ (Exists.intro _ (Exists.intro _ (And.intro (c6.ren [3] _ rfl (by decide) (by decide)) (And.intro ?_ ?_))))))); focus ((repeat' first | exact rfl | ((conv => whnf); first | done | exact True.intro | refine And.intro ?_ ?_)); done)) | (refine Or.inl (Or.inr (Exists.intro _ (Exists.intro _ (Exists.intro _ (Exists.intro _ (Exists.intro _ (And.intro (c6.ren [3] _ rfl (by decide) (by decide)) (And.intro ?_ ?_)))))))); focus ((repeat' first | exact rfl | ((conv => whnf); first | done | exact True.intro | refine And.intro ?_ ?_)); done)) | refine Or.inl (Or.inl (Exists.intro _ (And.intro (by first | exact hA | exact hB | exact c1 | exact c2 | exact c4 | exact c5 | exact c7 | exact rNum_d _) ?_))) | refine Or.inl (Exists.intro _ (And.intro (by first | exact hA | exact hB | exact c1 | exact c2 | exact c4 | exact c5 | exact c7 | exact rNum_d _) ?_)) | refine Exists.intro _ (And.intro (by first | exact hA | exact hB | exact c1 | exact c2 | exact c4 | exact c5 | exact c7 | exact rNum_d _) ?_) | refine Both.mk ?_ ?_ | (refine And.intro ?_ ?_; focus (first | (kernel_rfl; done) | (first | assumption | omega | (simp; done); done)))))); (all_goals (conv => whnf)))
    all_goals exact vl_le rfl e.symm
  · rw [if_neg hc] at e
    have c7 := Int64_z (gl := gl) (z := an.tmod bn) (by omega)
    by_cases hz : an.tmod bn = 0
    · have d1 : sgn (an.tmod bn) = 0 := by unfold sgn; rw [if_pos hz]
      refine fnP_of_vc (nv := 9999) (cu := []) fits mixed Tryz.func12 rfl (by unfold HasBody; kernel_rfl) rfl ?_
      ((repeat' ((conv => whnf); (first | refine Fork.yes (by assumption) ?_ | refine Fork.no (by assumption) ?_ | refine Fork.nono (by assumption) ?_ | (refine Fork.yes ?_ ?_; focus (simp [andPD]; done)) | (refine Fork.no ?_ ?_; focus (simp [andPD]; done)) | refine Fork.neg (fun _ => ?_) (fun _ => ?_) | refine Fork.mk (fun _ => ?_) (fun _ => ?_) | (refine Or.inr (Exists.intro _ (Exists.intro _ (Exists.intro _ (Exists.intro _ (Exists.intro _ (And.intro (c3.ren [3] _ rfl (by decide) (by decide)) (And.intro ?_ ?_))))))); focus ((repeat' first | exact rfl | ((conv => whnf); first | done | exact True.intro | refine And.intro ?_ ?_)); done)) | (refine Or.inl (Or.inr (Exists.intro _ (Exists.intro _ (Exists.intro _ (Exists.intro _ (Exists.intro _ (And.intro (c3.ren [3] _ rfl (by decide) (by decide)) (And.intro ?_ ?_)))))))); focus ((repeat' first | exact rfl | ((conv => whnf); first | done | exact True.intro | refine And.intro ?_ ?_)); done)) | refine Or.inl (Or.inl (Exists.intro _ (And.intro (by first | exact hA | exact hB | exact c1 | exact c2 | exact c4 | exact c5 | exact c7 | exact rNum_d _) ?_))) | refine Or.inl (Exists.intro _ (And.intro (by first | exact hA | exact hB | exact c1 | exact c2 | exact c4 | exact c5 | exact c7 | exact rNum_d _) ?_)) | refine Exists.intro _ (And.intro (by first | exact hA | exact hB | exact c1 | exact c2 | exact c4 | exact c5 | exact c7 | exact rNum_d _) ?_) | refine Both.mk ?_ ?_ | (refine And.intro ?_ ?_; focus (first | (kernel_rfl; done) | (first | assumption | omega | (simp; done); done)))))); (all_goals (conv => whnf)))
      all_goals exact vl_le rfl e.symm
    · have d1 : ¬ sgn (an.tmod bn) = 0 := by unfold sgn; split <;> (try split) <;> omega
      have d2 : sgn (an.tmod bn) = sgn bn := by unfold sgn; repeat' split <;> omega
      refine fnP_of_vc (nv := 9999) (cu := []) fits mixed Tryz.func12 rfl (by unfold HasBody; kernel_rfl) rfl ?_
      ((repeat' ((conv => whnf); (first | refine Fork.yes (by assumption) ?_ | refine Fork.no (by assumption) ?_ | refine Fork.nono (by assumption) ?_ | (refine Fork.yes ?_ ?_; focus (simp [andPD]; done)) | (refine Fork.no ?_ ?_; focus (simp [andPD]; done)) | refine Fork.neg (fun _ => ?_) (fun _ => ?_) | refine Fork.mk (fun _ => ?_) (fun _ => ?_) | (refine Or.inr (Exists.intro _ (Exists.intro _ (Exists.intro _ (Exists.intro _ (Exists.intro _ (And.intro (c3.ren [3] _ rfl (by decide) (by decide)) (And.intro ?_ ?_))))))); focus ((repeat' first | exact rfl | ((conv => whnf); first | done | exact True.intro | refine And.intro ?_ ?_)); done)) | (refine Or.inl (Or.inr (Exists.intro _ (Exists.intro _ (Exists.intro _ (Exists.intro _ (Exists.intro _ (And.intro (c3.ren [3] _ rfl (by decide) (by decide)) (And.intro ?_ ?_)))))))); focus ((repeat' first | exact rfl | ((conv => whnf); first | done | exact True.intro | refine And.intro ?_ ?_)); done)) | refine Or.inl (Or.inl (Exists.intro _ (And.intro (by first | exact hA | exact hB | exact c1 | exact c2 | exact c4 | exact c5 | exact c7 | exact rNum_d _) ?_))) | refine Or.inl (Exists.intro _ (And.intro (by first | exact hA | exact hB | exact c1 | exact c2 | exact c4 | exact c5 | exact c7 | exact rNum_d _) ?_)) | refine Exists.intro _ (And.intro (by first | exact hA | exact hB | exact c1 | exact c2 | exact c4 | exact c5 | exact c7 | exact rNum_d _) ?_) | refine Both.mk ?_ ?_ | (refine And.intro ?_ ?_; focus (first | (kernel_rfl; done) | (first | assumption | omega | (simp; done); done)))))); (all_goals (conv => whnf)))
      all_goals exact vl_le rfl e.symm
/-! ### Truth -/
def truV (v : Vl) : Vl := if v.k = 3 ∨ v.k = 4 then v else if v.k = 2 then (if v.s = tT then ⟨3, 1, []⟩ else if v.s = tF then ⟨3, 0, []⟩ else ⟨4, 2, []⟩) else ⟨3, if v.n = 0 then 0 else 1, []⟩
theorem Is_b {p : Prop} (i : Decidable p) : FnP Tryz.prog gl 35 [.b p i] (vlD 3 (@ite _ p i 1 0) []) := by
  by_cases h : p
  · rw [if_pos h]; exact Is_y i h
  · rw [if_neg h]; exact Is_n i h
theorem rTru_b {p : Prop} (i : Decidable p) : FnP Tryz.prog gl 40 [.b p i] (vlD 3 (@ite _ p i 1 0) []) := by
  by_cases h : p
  · rw [if_pos h]; exact rTru_y i h
  · rw [if_neg h]; exact rTru_n i h
theorem rTru_c (b : Bool) : FnP Tryz.prog gl 40 [.v (.bool b)] (vlD 3 (if b then 1 else 0) []) := by
  cases b
  · refine fnP_of_vc (nv := 9999) (cu := []) fits mixed Tryz.func40 rfl (by unfold HasBody; kernel_rfl) rfl ?_
    ((repeat' ((conv => whnf); (first | refine Fork.yes (by assumption) ?_ | refine Fork.no (by assumption) ?_ | refine Fork.nono (by assumption) ?_ | (refine Fork.yes ?_ ?_; focus (simp [andPD]; done)) | (refine Fork.no ?_ ?_; focus (simp [andPD]; done)) | refine Fork.neg (fun _ => ?_) (fun _ => ?_) | refine Fork.mk (fun _ => ?_) (fun _ => ?_) | refine Both.mk ?_ ?_ | (refine And.intro ?_ ?_; focus (first | (kernel_rfl; done) | (fail; done)))))); (all_goals (conv => whnf)))
    exact LeD.rfl
  · refine fnP_of_vc (nv := 9999) (cu := []) fits mixed Tryz.func40 rfl (by unfold HasBody; kernel_rfl) rfl ?_
    ((repeat' ((conv => whnf); (first | refine Fork.yes (by assumption) ?_ | refine Fork.no (by assumption) ?_ | refine Fork.nono (by assumption) ?_ | (refine Fork.yes ?_ ?_; focus (simp [andPD]; done)) | (refine Fork.no ?_ ?_; focus (simp [andPD]; done)) | refine Fork.neg (fun _ => ?_) (fun _ => ?_) | refine Fork.mk (fun _ => ?_) (fun _ => ?_) | refine Both.mk ?_ ?_ | (refine And.intro ?_ ?_; focus (first | (kernel_rfl; done) | (fail; done)))))); (all_goals (conv => whnf)))
    exact LeD.rfl
theorem Truth_d (te : TypeId) (pe : Value) {k n : Int} {s : List UInt8} (hv : isV k n s) : FnP Tryz.prog (glV te pe) 18 [vlD k n s] (truV ⟨k, n, s⟩).d := by
  rcases hv with ⟨rfl, rfl, rfl⟩ | ⟨rfl, rfl⟩ | ⟨rfl, rfl, hl⟩ | ⟨rfl, h3, rfl⟩ | ⟨rfl, h1, h2, rfl⟩
  · refine fnP_of_vc (nv := 9999) (cu := []) fits mixed Tryz.func18 rfl (by unfold HasBody; kernel_rfl) rfl ?_
    ((repeat' ((conv => whnf); (first | refine Fork.yes (by assumption) ?_ | refine Fork.no (by assumption) ?_ | refine Fork.nono (by assumption) ?_ | (refine Fork.yes ?_ ?_; focus (simp [andPD]; done)) | (refine Fork.no ?_ ?_; focus (simp [andPD]; done)) | refine Fork.neg (fun _ => ?_) (fun _ => ?_) | refine Fork.mk (fun _ => ?_) (fun _ => ?_) | refine Or.inl (Or.inl (Exists.intro _ (And.intro (by first | exact Is_b _) ?_))) | refine Or.inl (Exists.intro _ (And.intro (by first | exact Is_b _) ?_)) | refine Exists.intro _ (And.intro (by first | exact Is_b _) ?_) | refine Both.mk ?_ ?_ | (refine And.intro ?_ ?_; focus (first | (kernel_rfl; done) | (first | assumption | omega | (simp; done); done)))))); (all_goals (conv => whnf)))
    exact LeD.rfl
  · refine fnP_of_vc (nv := 9999) (cu := []) fits mixed Tryz.func18 rfl (by unfold HasBody; kernel_rfl) rfl ?_
    ((repeat' ((conv => whnf); (first | refine Fork.yes (by assumption) ?_ | refine Fork.no (by assumption) ?_ | refine Fork.nono (by assumption) ?_ | (refine Fork.yes ?_ ?_; focus (simp [andPD]; done)) | (refine Fork.no ?_ ?_; focus (simp [andPD]; done)) | refine Fork.neg (fun _ => ?_) (fun _ => ?_) | refine Fork.mk (fun _ => ?_) (fun _ => ?_) | refine Or.inl (Or.inl (Exists.intro _ (And.intro (by first | exact Is_b _) ?_))) | refine Or.inl (Exists.intro _ (And.intro (by first | exact Is_b _) ?_)) | refine Exists.intro _ (And.intro (by first | exact Is_b _) ?_) | refine Both.mk ?_ ?_ | (refine And.intro ?_ ?_; focus (first | (kernel_rfl; done) | (first | assumption | omega | (simp; done); done)))))); (all_goals (conv => whnf)))
    refine vl_le rfl ?_
    show (if ¬ n = 0 then (1 : Int) else 0) = if n = 0 then 0 else 1
    by_cases h : n = 0 <;> simp [h]
  · have hl := Literal_d te pe s
    by_cases hT : s = tT
    · subst hT
      refine fnP_of_vc (nv := 9999) (cu := []) fits mixed Tryz.func18 rfl (by unfold HasBody; kernel_rfl) rfl ?_
      ((repeat' ((conv => whnf); (first | refine Fork.yes (by assumption) ?_ | refine Fork.no (by assumption) ?_ | refine Fork.nono (by assumption) ?_ | (refine Fork.yes ?_ ?_; focus (simp [andPD]; done)) | (refine Fork.no ?_ ?_; focus (simp [andPD]; done)) | refine Fork.neg (fun _ => ?_) (fun _ => ?_) | refine Fork.mk (fun _ => ?_) (fun _ => ?_) | refine Or.inl (Or.inl (Exists.intro _ (And.intro (by first | exact hl) ?_))) | refine Or.inl (Exists.intro _ (And.intro (by first | exact hl) ?_)) | refine Exists.intro _ (And.intro (by first | exact hl) ?_) | refine Both.mk ?_ ?_ | (refine And.intro ?_ ?_; focus (first | (kernel_rfl; done) | (first | assumption | omega | (simp; done); done)))))); (all_goals (conv => whnf)))
      exact LeD.rfl
    · by_cases hF : s = tF
      · subst hF
        refine fnP_of_vc (nv := 9999) (cu := []) fits mixed Tryz.func18 rfl (by unfold HasBody; kernel_rfl) rfl ?_
        ((repeat' ((conv => whnf); (first | refine Fork.yes (by assumption) ?_ | refine Fork.no (by assumption) ?_ | refine Fork.nono (by assumption) ?_ | (refine Fork.yes ?_ ?_; focus (simp [andPD]; done)) | (refine Fork.no ?_ ?_; focus (simp [andPD]; done)) | refine Fork.neg (fun _ => ?_) (fun _ => ?_) | refine Fork.mk (fun _ => ?_) (fun _ => ?_) | refine Or.inl (Or.inl (Exists.intro _ (And.intro (by first | exact hl) ?_))) | refine Or.inl (Exists.intro _ (And.intro (by first | exact hl) ?_)) | refine Exists.intro _ (And.intro (by first | exact hl) ?_) | refine Both.mk ?_ ?_ | (refine And.intro ?_ ?_; focus (first | (kernel_rfl; done) | (first | assumption | omega | (simp; done); done)))))); (all_goals (conv => whnf)))
        exact LeD.rfl
      · have e : truV ⟨2, 0, s⟩ = ⟨4, 2, []⟩ := by unfold truV; simp [hT, hF]
        rw [e]
        cases hz : litZ s with
        | none =>
          rw [hz] at hl
          refine fnP_of_vc (nv := 9999) (cu := []) fits mixed Tryz.func18 rfl (by unfold HasBody; kernel_rfl) rfl ?_
          ((repeat' ((conv => whnf); (first | refine Fork.yes (by assumption) ?_ | refine Fork.no (by assumption) ?_ | refine Fork.nono (by assumption) ?_ | (refine Fork.yes ?_ ?_; focus (simp [andPD]; done)) | (refine Fork.no ?_ ?_; focus (simp [andPD]; done)) | refine Fork.neg (fun _ => ?_) (fun _ => ?_) | refine Fork.mk (fun _ => ?_) (fun _ => ?_) | refine Or.inl (Or.inl (Exists.intro _ (And.intro (by first | exact hl | exact Wrong_d _) ?_))) | refine Or.inl (Exists.intro _ (And.intro (by first | exact hl | exact Wrong_d _) ?_)) | refine Exists.intro _ (And.intro (by first | exact hl | exact Wrong_d _) ?_) | refine Both.mk ?_ ?_ | (refine And.intro ?_ ?_; focus (first | (kernel_rfl; done) | (first | assumption | omega | (simp; done); done)))))); (all_goals (conv => whnf)))
          exact LeD.rfl
        | some p =>
          have hp : ¬ p.1 = 3 := by
            intro h
            unfold litZ at hz
            rw [if_neg hT, if_neg hF] at hz
            obtain ⟨i, _, rfl⟩ := Option.map_eq_some_iff.1 hz
            cases h
          rw [hz] at hl
          refine fnP_of_vc (nv := 9999) (cu := []) fits mixed Tryz.func18 rfl (by unfold HasBody; kernel_rfl) rfl ?_
          ((repeat' ((conv => whnf); (first | refine Fork.yes (by assumption) ?_ | refine Fork.no (by assumption) ?_ | refine Fork.nono (by assumption) ?_ | (refine Fork.yes ?_ ?_; focus (simp [andPD]; done)) | (refine Fork.no ?_ ?_; focus (simp [andPD]; done)) | refine Fork.neg (fun _ => ?_) (fun _ => ?_) | refine Fork.mk (fun _ => ?_) (fun _ => ?_) | refine Or.inl (Or.inl (Exists.intro _ (And.intro (by first | exact hl | exact Wrong_d _) ?_))) | refine Or.inl (Exists.intro _ (And.intro (by first | exact hl | exact Wrong_d _) ?_)) | refine Exists.intro _ (And.intro (by first | exact hl | exact Wrong_d _) ?_) | refine Both.mk ?_ ?_ | (refine And.intro ?_ ?_; focus (first | (kernel_rfl; done) | (first | assumption | omega | (simp; done); done)))))); (all_goals (conv => whnf)))
          exact LeD.rfl
  · refine fnP_of_vc (nv := 9999) (cu := []) fits mixed Tryz.func18 rfl (by unfold HasBody; kernel_rfl) rfl ?_
    ((repeat' ((conv => whnf); (first | refine Fork.yes (by assumption) ?_ | refine Fork.no (by assumption) ?_ | refine Fork.nono (by assumption) ?_ | (refine Fork.yes ?_ ?_; focus (simp [andPD]; done)) | (refine Fork.no ?_ ?_; focus (simp [andPD]; done)) | refine Fork.neg (fun _ => ?_) (fun _ => ?_) | refine Fork.mk (fun _ => ?_) (fun _ => ?_) | refine Both.mk ?_ ?_ | (refine And.intro ?_ ?_; focus (first | (kernel_rfl; done) | (first | assumption | omega | (simp; done); done)))))); (all_goals (conv => whnf)))
    exact LeD.rfl
  · refine fnP_of_vc (nv := 9999) (cu := []) fits mixed Tryz.func18 rfl (by unfold HasBody; kernel_rfl) rfl ?_
    ((repeat' ((conv => whnf); (first | refine Fork.yes (by assumption) ?_ | refine Fork.no (by assumption) ?_ | refine Fork.nono (by assumption) ?_ | (refine Fork.yes ?_ ?_; focus (simp [andPD]; done)) | (refine Fork.no ?_ ?_; focus (simp [andPD]; done)) | refine Fork.neg (fun _ => ?_) (fun _ => ?_) | refine Fork.mk (fun _ => ?_) (fun _ => ?_) | refine Both.mk ?_ ?_ | (refine And.intro ?_ ?_; focus (first | (kernel_rfl; done) | (first | assumption | omega | (simp; done); done)))))); (all_goals (conv => whnf)))
    exact LeD.rfl
theorem readV_3 {s : List UInt8} (hT : ¬ s = tT) (hF : ¬ s = tF) : ¬ (readV s).k = 3 := by
  unfold readV
  split
  · intro e; cases e
  · split
    · intro e; cases e
    · split
      · rename_i p hp
        intro e
        have : p.1 = 3 := e
        unfold litZ at hp
        rw [if_neg hT, if_neg hF] at hp
        obtain ⟨i, _, rfl⟩ := Option.map_eq_some_iff.1 hp
        cases this
      · split
        · intro e; cases e
        · intro e; cases e
theorem rTruth_d {k n : Int} {s : List UInt8} (hv : isV k n s) : FnP Tryz.prog gl 22 [vlD k n s] (truV ⟨k, n, s⟩).d := by
  rcases hv with ⟨rfl, rfl, rfl⟩ | ⟨rfl, rfl⟩ | ⟨rfl, rfl, hl⟩ | ⟨rfl, h3, rfl⟩ | ⟨rfl, h1, h2, rfl⟩
  · refine fnP_of_vc (nv := 9999) (cu := []) fits mixed Tryz.func22 rfl (by unfold HasBody; kernel_rfl) rfl ?_
    ((repeat' ((conv => whnf); (first | refine Fork.yes (by assumption) ?_ | refine Fork.no (by assumption) ?_ | refine Fork.nono (by assumption) ?_ | (refine Fork.yes ?_ ?_; focus (simp [andPD]; done)) | (refine Fork.no ?_ ?_; focus (simp [andPD]; done)) | refine Fork.neg (fun _ => ?_) (fun _ => ?_) | refine Fork.mk (fun _ => ?_) (fun _ => ?_) | refine Or.inl (Or.inl (Exists.intro _ (And.intro (by first | exact rTru_c false) ?_))) | refine Or.inl (Exists.intro _ (And.intro (by first | exact rTru_c false) ?_)) | refine Exists.intro _ (And.intro (by first | exact rTru_c false) ?_) | refine Both.mk ?_ ?_ | (refine And.intro ?_ ?_; focus (first | (kernel_rfl; done) | (first | assumption | omega | (simp; done); done)))))); (all_goals (conv => whnf)))
    exact LeD.rfl
  · refine fnP_of_vc (nv := 9999) (cu := []) fits mixed Tryz.func22 rfl (by unfold HasBody; kernel_rfl) rfl ?_
    ((repeat' ((conv => whnf); (first | refine Fork.yes (by assumption) ?_ | refine Fork.no (by assumption) ?_ | refine Fork.nono (by assumption) ?_ | (refine Fork.yes ?_ ?_; focus (simp [andPD]; done)) | (refine Fork.no ?_ ?_; focus (simp [andPD]; done)) | refine Fork.neg (fun _ => ?_) (fun _ => ?_) | refine Fork.mk (fun _ => ?_) (fun _ => ?_) | refine Or.inl (Or.inl (Exists.intro _ (And.intro (by first | exact rTru_b _) ?_))) | refine Or.inl (Exists.intro _ (And.intro (by first | exact rTru_b _) ?_)) | refine Exists.intro _ (And.intro (by first | exact rTru_b _) ?_) | refine Both.mk ?_ ?_ | (refine And.intro ?_ ?_; focus (first | (kernel_rfl; done) | (first | assumption | omega | (simp; done); done)))))); (all_goals (conv => whnf)))
    refine vl_le rfl ?_
    show (if ¬ n = 0 then (1 : Int) else 0) = if n = 0 then 0 else 1
    by_cases h : n = 0 <;> simp [h]
  · have hl := rRead_d (gl := gl) s (by omega)
    by_cases hT : s = tT
    · subst hT
      have e : readV tT = ⟨3, 1, []⟩ := read_show (v := ⟨3, 1, []⟩) (.inr (.inr (.inr (.inl ⟨rfl, .inr rfl, rfl⟩)))) (by decide) (by decide)
      rw [e] at hl
      refine fnP_of_vc (nv := 9999) (cu := []) fits mixed Tryz.func22 rfl (by unfold HasBody; kernel_rfl) rfl ?_
      ((repeat' ((conv => whnf); (first | refine Fork.yes (by assumption) ?_ | refine Fork.no (by assumption) ?_ | refine Fork.nono (by assumption) ?_ | (refine Fork.yes ?_ ?_; focus (simp [andPD]; done)) | (refine Fork.no ?_ ?_; focus (simp [andPD]; done)) | refine Fork.neg (fun _ => ?_) (fun _ => ?_) | refine Fork.mk (fun _ => ?_) (fun _ => ?_) | refine Or.inl (Or.inl (Exists.intro _ (And.intro (by first | exact hl) ?_))) | refine Or.inl (Exists.intro _ (And.intro (by first | exact hl) ?_)) | refine Exists.intro _ (And.intro (by first | exact hl) ?_) | refine Both.mk ?_ ?_ | (refine And.intro ?_ ?_; focus (first | (kernel_rfl; done) | (first | assumption | omega | (simp; done); done)))))); (all_goals (conv => whnf)))
      exact LeD.rfl
    · by_cases hF : s = tF
      · subst hF
        have e : readV tF = ⟨3, 0, []⟩ := read_show (v := ⟨3, 0, []⟩) (.inr (.inr (.inr (.inl ⟨rfl, .inl rfl, rfl⟩)))) (by decide) (by decide)
        rw [e] at hl
        refine fnP_of_vc (nv := 9999) (cu := []) fits mixed Tryz.func22 rfl (by unfold HasBody; kernel_rfl) rfl ?_
        ((repeat' ((conv => whnf); (first | refine Fork.yes (by assumption) ?_ | refine Fork.no (by assumption) ?_ | refine Fork.nono (by assumption) ?_ | (refine Fork.yes ?_ ?_; focus (simp [andPD]; done)) | (refine Fork.no ?_ ?_; focus (simp [andPD]; done)) | refine Fork.neg (fun _ => ?_) (fun _ => ?_) | refine Fork.mk (fun _ => ?_) (fun _ => ?_) | refine Or.inl (Or.inl (Exists.intro _ (And.intro (by first | exact hl) ?_))) | refine Or.inl (Exists.intro _ (And.intro (by first | exact hl) ?_)) | refine Exists.intro _ (And.intro (by first | exact hl) ?_) | refine Both.mk ?_ ?_ | (refine And.intro ?_ ?_; focus (first | (kernel_rfl; done) | (first | assumption | omega | (simp; done); done)))))); (all_goals (conv => whnf)))
        exact LeD.rfl
      · have e : truV ⟨2, 0, s⟩ = ⟨4, 2, []⟩ := by unfold truV; simp [hT, hF]
        have h3 := readV_3 hT hF
        rw [e]
        refine fnP_of_vc (nv := 9999) (cu := []) fits mixed Tryz.func22 rfl (by unfold HasBody; kernel_rfl) rfl ?_
        ((repeat' ((conv => whnf); (first | refine Fork.yes (by assumption) ?_ | refine Fork.no (by assumption) ?_ | refine Fork.nono (by assumption) ?_ | (refine Fork.yes ?_ ?_; focus (simp [andPD]; done)) | (refine Fork.no ?_ ?_; focus (simp [andPD]; done)) | refine Fork.neg (fun _ => ?_) (fun _ => ?_) | refine Fork.mk (fun _ => ?_) (fun _ => ?_) | refine Or.inl (Or.inl (Exists.intro _ (And.intro (by first | exact hl | exact rBad_d _) ?_))) | refine Or.inl (Exists.intro _ (And.intro (by first | exact hl | exact rBad_d _) ?_)) | refine Exists.intro _ (And.intro (by first | exact hl | exact rBad_d _) ?_) | refine Both.mk ?_ ?_ | (refine And.intro ?_ ?_; focus (first | (kernel_rfl; done) | (first | assumption | omega | (simp; done); done)))))); (all_goals (conv => whnf)))
        exact LeD.rfl
  · refine fnP_of_vc (nv := 9999) (cu := []) fits mixed Tryz.func22 rfl (by unfold HasBody; kernel_rfl) rfl ?_
    ((repeat' ((conv => whnf); (first | refine Fork.yes (by assumption) ?_ | refine Fork.no (by assumption) ?_ | refine Fork.nono (by assumption) ?_ | (refine Fork.yes ?_ ?_; focus (simp [andPD]; done)) | (refine Fork.no ?_ ?_; focus (simp [andPD]; done)) | refine Fork.neg (fun _ => ?_) (fun _ => ?_) | refine Fork.mk (fun _ => ?_) (fun _ => ?_) | refine Both.mk ?_ ?_ | (refine And.intro ?_ ?_; focus (first | (kernel_rfl; done) | (first | assumption | omega | (simp; done); done)))))); (all_goals (conv => whnf)))
    exact LeD.rfl
  · refine fnP_of_vc (nv := 9999) (cu := []) fits mixed Tryz.func22 rfl (by unfold HasBody; kernel_rfl) rfl ?_
    ((repeat' ((conv => whnf); (first | refine Fork.yes (by assumption) ?_ | refine Fork.no (by assumption) ?_ | refine Fork.nono (by assumption) ?_ | (refine Fork.yes ?_ ?_; focus (simp [andPD]; done)) | (refine Fork.no ?_ ?_; focus (simp [andPD]; done)) | refine Fork.neg (fun _ => ?_) (fun _ => ?_) | refine Fork.mk (fun _ => ?_) (fun _ => ?_) | refine Both.mk ?_ ?_ | (refine And.intro ?_ ?_; focus (first | (kernel_rfl; done) | (first | assumption | omega | (simp; done); done)))))); (all_goals (conv => whnf)))
    exact LeD.rfl
end Go.Proofs.YtbkhfmgdnnaaoaaGreatDoor
