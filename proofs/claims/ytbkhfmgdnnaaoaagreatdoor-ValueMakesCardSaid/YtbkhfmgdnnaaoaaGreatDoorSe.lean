/- Proved: what package value's Whole and the reference's return of any text. Conditions: no longer than 2 ^ 47 bytes; the variable strconv.ErrRange holds some error. -/
import Derived.Test.YtbkhfmgdnnaaoaaGreatDoorSd
namespace Go.Proofs.YtbkhfmgdnnaaoaaGreatDoor
open Go Go.EYtbkhfmgdnnaaoaaGreatDoor
set_option maxRecDepth 100000
variable {gl : List (Nat × List D)}
theorem dig_contains (x : UInt8) : D10.contains x = true ↔ isDig x := by
  constructor
  · intro h
    have h' : x ∈ D10 := by simpa using h
    simp only [List.mem_cons, List.not_mem_nil, or_false] at h'
    rcases h' with rfl | rfl | rfl | rfl | rfl | rfl | rfl | rfl | rfl | rfl <;> decide
  · rintro ⟨h1, h2⟩
    have key : ∀ n : Fin 256, 48 ≤ n.val → n.val ≤ 57 → D10.contains (UInt8.ofNat n.val) = true := by decide +kernel
    have := key ⟨x.toNat, UInt8.toNat_lt x⟩ h1 h2
    simpa using this
theorem dropWhile_nil {α : Type} {p : α → Bool} {l : List α} : l.dropWhile p = [] ↔ ∀ x ∈ l, p x = true := by
  induction l with
  | nil => simp
  | cons a l ih =>
    rw [List.dropWhile_cons]
    by_cases h : p a = true
    · rw [if_pos h, ih]; simp [h]
    · rw [if_neg h]; simp [h]
theorem trimS_nil {l cs : List UInt8} : Lib.trimS l cs = [] ↔ ∀ x ∈ l, cs.contains x = true := by
  unfold Lib.trimS Lib.trimLeftS Lib.trimRightS
  rw [dropWhile_nil]
  constructor
  · intro h x hx
    have h2 : l.reverse.dropWhile (fun b => cs.contains b) = [] := by
      cases hd : l.reverse.dropWhile (fun b => cs.contains b) with
      | nil => rfl
      | cons a r =>
        have h3 := List.head?_dropWhile_not (fun b => cs.contains b) l.reverse
        rw [hd] at h3 h
        have h4 := h a (by simp)
        simp at h3 h4
        exact absurd h4 h3
    rw [dropWhile_nil] at h2
    exact h2 x (by simpa using hx)
  · intro h x hx
    have := List.mem_reverse.1 hx
    exact h x (List.mem_reverse.1 ((List.dropWhile_sublist _).mem this))
def rvF (acc : Nat) (l : List UInt8) : Nat := l.foldl (fun n d => n * 10 + (d.toNat - 48)) acc
theorem rvF_ge (l : List UInt8) : ∀ acc, acc ≤ rvF acc l := by
  induction l with
  | nil => intro acc; exact Nat.le_refl _
  | cons d l ih => intro acc; exact Nat.le_trans (by omega) (ih (acc * 10 + (d.toNat - 48)))
theorem rv_all (l : List UInt8) : rv l l.length = rvF 0 l := by unfold rv rvF; rw [List.take_length]
theorem parse_dig (l : List UInt8) : ∀ acc, acc < 18446744073709551616 → (∀ d ∈ l, isDig d) → Lib.parseUint10 acc l = if rvF acc l < 18446744073709551616 then .ok (rvF acc l) else .range := by
  induction l with
  | nil => intro acc h _; have e : rvF acc [] = acc := rfl; rw [e, if_pos h]; rfl
  | cons d l ih =>
    intro acc h hd
    have h1 : isDig d := hd d (by simp)
    have e : rvF acc (d :: l) = rvF (acc * 10 + (d.toNat - 48)) l := rfl
    have h2 := rvF_ge l (acc * 10 + (d.toNat - 48))
    rw [Lib.parseUint10, if_pos h1, e]
    by_cases h3 : 1844674407370955162 ≤ acc
    · rw [if_pos h3, if_neg (by omega)]
    · rw [if_neg h3]
      by_cases h4 : 18446744073709551616 ≤ acc * 10 + (d.toNat - 48)
      · rw [if_pos h4, if_neg (by omega)]
      · rw [if_neg h4]
        exact ih _ (by omega) (fun x hx => hd x (by simp [hx]))
/-- The number that a text spells: digits, perhaps behind a minus, without a needless nought. -/
abbrev wholeOk (s : List UInt8) : Prop := unsg s ≠ [] ∧ ¬ ((unsg s).head? = some 48 ∧ s ≠ [48]) ∧ ∀ x ∈ unsg s, isDig x
def wholeV (s : List UInt8) : Int := if s.head? = some 45 then -(rv (unsg s) (unsg s).length : Int) else rv (unsg s) (unsg s).length
def wholeZ (s : List UInt8) : Option Int := if wholeOk s ∧ okI (wholeV s) then some (wholeV s) else none
theorem atoi_whole {s : List UInt8} (h : wholeOk s) : Lib.atoiAll s = if okI (wholeV s) then .ok (wholeV s) else .range := by
  obtain ⟨h1, h2, h3⟩ := h
  have hp := parse_dig (unsg s) 0 (by omega) h3
  cases s with
  | nil => exact absurd rfl h1
  | cons c r =>
    unfold wholeV
    rw [rv_all]
    by_cases hc : c = 45
    · subst hc
      have eu : unsg (45 :: r) = r := rfl
      rw [eu] at h1 hp ⊢
      simp only [Lib.atoiAll, Lib.parseMag, List.head?_cons, if_true, h1, if_false, hp, show ((45 : UInt8).toNat = 45) from rfl, or_true]
      generalize rvF 0 r = u
      by_cases hu : u < 18446744073709551616
      · simp only [hu, if_true, not_true_eq_false, false_and, if_false, true_and]
        by_cases hv : 9223372036854775808 < u
        · rw [if_pos hv, if_neg (by omega)]
        · rw [if_neg hv, if_pos (by omega)]
      · simp only [hu, if_false]
        rw [if_neg (by omega)]
    · have hc' : ¬ c.toNat = 45 := fun e => hc (UInt8.toNat_inj.1 e)
      have eu : unsg (c :: r) = c :: r := by simp [unsg, hc]
      rw [eu] at h1 h3 hp ⊢
      have h43 : ¬ c.toNat = 43 := fun e => by have := (h3 c (by simp)).1; omega
      simp only [Lib.atoiAll, Lib.parseMag, List.head?_cons, Option.some.injEq, hc, if_false, hc', h43, or_self, h1, hp]
      generalize rvF 0 (c :: r) = u
      by_cases hu : u < 18446744073709551616
      · simp only [hu, if_true, not_false_eq_true, true_and, false_and, if_false]
        by_cases hv : 9223372036854775808 ≤ u
        · rw [if_pos hv, if_neg (by omega)]
        · rw [if_neg hv, if_pos (by omega)]
      · simp only [hu, if_false]
        rw [if_neg (by omega)]
theorem unsg_len (s : List UInt8) : (unsg s).length ≤ s.length := by unfold unsg; split <;> simp
theorem Whole_e {s : List UInt8} (h : unsg s = []) : FnP Tryz.prog gl 50 [.str s] (.tup [iD 0, fD]) := by
  have hT := TrimPrefix_d (gl := gl) s
  rw [h] at hT
  refine fnP_of_vc (nv := 9999) (cu := []) fits mixed Tryz.func50 rfl (by unfold HasBody; kernel_rfl) rfl ?_
  ((repeat' ((conv => whnf); (first | refine Fork.yes (by assumption) ?_ | refine Fork.no (by assumption) ?_ | refine Fork.nono (by assumption) ?_ | (refine Fork.yes ?_ ?_; focus (simp [andPD]; done)) | (refine Fork.no ?_ ?_; focus (simp [andPD]; done)) | refine Fork.neg (fun _ => ?_) (fun _ => ?_) | refine Fork.mk (fun _ => ?_) (fun _ => ?_) | refine Or.inl (Or.inl (Exists.intro _ (And.intro (by first | exact hT) ?_))) | refine Or.inl (Exists.intro _ (And.intro (by first | exact hT) ?_)) | refine Exists.intro _ (And.intro (by first | exact hT) ?_) | refine Both.mk ?_ ?_ | (refine And.intro ?_ ?_; focus (first | (kernel_rfl; done) | (first | assumption | omega | (simp; done); done)))))); (all_goals (conv => whnf)))
  all_goals exact LeD.rfl
theorem Whole_0 {s : List UInt8} (h : (unsg s).head? = some 48) (h2 : s ≠ [48]) : FnP Tryz.prog gl 50 [.str s] (.tup [iD 0, fD]) := by
  have hT := TrimPrefix_d (gl := gl) s
  obtain ⟨l, e⟩ : ∃ l, unsg s = 48 :: l := by
    cases hu : unsg s with
    | nil => rw [hu] at h; cases h
    | cons a l => rw [hu] at h; cases h; exact ⟨l, rfl⟩
  rw [e] at hT
  have h3 : (((48 :: l).getD (Int.toNat 0) 0).toNat : Int) = 48 := rfl
  refine fnP_of_vc (nv := 9999) (cu := []) fits mixed Tryz.func50 rfl (by unfold HasBody; kernel_rfl) rfl ?_
  ((repeat' ((conv => whnf); (first | refine Fork.yes (by assumption) ?_ | refine Fork.no (by assumption) ?_ | refine Fork.nono (by assumption) ?_ | (refine Fork.yes ?_ ?_; focus (simp [andPD]; done)) | (refine Fork.no ?_ ?_; focus (simp [andPD]; done)) | refine Fork.neg (fun _ => ?_) (fun _ => ?_) | refine Fork.mk (fun _ => ?_) (fun _ => ?_) | refine Or.inl (Or.inl (Exists.intro _ (And.intro (by first | exact hT) ?_))) | refine Or.inl (Exists.intro _ (And.intro (by first | exact hT) ?_)) | refine Exists.intro _ (And.intro (by first | exact hT) ?_) | refine Both.mk ?_ ?_ | (refine And.intro ?_ ?_; focus (first | (kernel_rfl; done) | (first | assumption | omega | (simp; done) | (simp; omega); done)))))); (all_goals (conv => whnf)))
  all_goals exact LeD.rfl
theorem Whole_d {s : List UInt8} (hs : s.length ≤ 140737488355328) (h1 : unsg s ≠ []) (h2 : ¬ ((unsg s).head? = some 48 ∧ s ≠ [48])) (h3 : ¬ ∀ x ∈ unsg s, isDig x) : FnP Tryz.prog gl 50 [.str s] (.tup [iD 0, fD]) := by
  have hT := TrimPrefix_d (gl := gl) s
  have hl := unsg_len s
  have hR := Trim_d (gl := gl) (unsg s) (by omega)
  have hn : ¬ Lib.trimS (unsg s) D10 = [] := fun e => h3 fun x hx => (dig_contains x).1 (trimS_nil.1 e x hx)
  generalize Lib.trimS (unsg s) D10 = t at hR hn
  obtain ⟨a, l, e⟩ := List.exists_cons_of_ne_nil h1
  rw [e] at hT hR h2
  by_cases ha : a = 48
  · subst ha
    have hz : s = [48] := Classical.byContradiction fun h => h2 ⟨rfl, h⟩
    have h4 : (((48 :: l).getD (Int.toNat 0) 0).toNat : Int) = 48 := rfl
    refine fnP_of_vc (nv := 9999) (cu := []) fits mixed Tryz.func50 rfl (by unfold HasBody; kernel_rfl) rfl ?_
    ((repeat' ((conv => whnf); (first | refine Fork.yes (by assumption) ?_ | refine Fork.no (by assumption) ?_ | refine Fork.nono (by assumption) ?_ | (refine Fork.yes ?_ ?_; focus (simp [andPD]; done)) | (refine Fork.no ?_ ?_; focus (simp [andPD]; done)) | refine Fork.neg (fun _ => ?_) (fun _ => ?_) | refine Fork.mk (fun _ => ?_) (fun _ => ?_) | refine Or.inl (Or.inl (Exists.intro _ (And.intro (by first | exact hT | exact hR) ?_))) | refine Or.inl (Exists.intro _ (And.intro (by first | exact hT | exact hR) ?_)) | refine Exists.intro _ (And.intro (by first | exact hT | exact hR) ?_) | refine Both.mk ?_ ?_ | (refine And.intro ?_ ?_; focus (first | (kernel_rfl; done) | (first | assumption | omega | (simp; done) | (simp; omega); done)))))); (all_goals (conv => whnf)))
    all_goals exact LeD.rfl
  · have h4 : ¬ (((a :: l).getD (Int.toNat 0) 0).toNat : Int) = 48 := fun e => ha (UInt8.toNat_inj.1 (show a.toNat = (48 : UInt8).toNat from Int.ofNat.inj e))
    refine fnP_of_vc (nv := 9999) (cu := []) fits mixed Tryz.func50 rfl (by unfold HasBody; kernel_rfl) rfl ?_
    ((repeat' ((conv => whnf); (first | refine Fork.yes (by assumption) ?_ | refine Fork.no (by assumption) ?_ | refine Fork.nono (by assumption) ?_ | (refine Fork.yes ?_ ?_; focus (simp [andPD]; done)) | (refine Fork.no ?_ ?_; focus (simp [andPD]; done)) | refine Fork.neg (fun _ => ?_) (fun _ => ?_) | refine Fork.mk (fun _ => ?_) (fun _ => ?_) | refine Or.inl (Or.inl (Exists.intro _ (And.intro (by first | exact hT | exact hR) ?_))) | refine Or.inl (Exists.intro _ (And.intro (by first | exact hT | exact hR) ?_)) | refine Exists.intro _ (And.intro (by first | exact hT | exact hR) ?_) | refine Both.mk ?_ ?_ | (refine And.intro ?_ ?_; focus (first | (kernel_rfl; done) | (first | assumption | omega | (simp; done) | (simp; omega); done)))))); (all_goals (conv => whnf)))
    all_goals exact LeD.rfl
theorem Whole_a {s : List UInt8} (hs : s.length ≤ 140737488355328) (h : wholeOk s) {v : Int} {d : D} {b : Bool} (hd : (d = .v .nilIface ∧ b = true) ∨ (d = .ifc 182 false [.imm []] ∧ b = false)) (hA : FnP Tryz.prog gl 80 [.str s] (.tup [iD v, d])) : FnP Tryz.prog gl 50 [.str s] (.tup [iD v, .v (.bool b)]) := by
  obtain ⟨h1, h2, h3⟩ := h
  have hT := TrimPrefix_d (gl := gl) s
  have hl := unsg_len s
  have hR := Trim_d (gl := gl) (unsg s) (by omega)
  have hn : Lib.trimS (unsg s) D10 = [] := trimS_nil.2 fun x hx => (dig_contains x).2 (h3 x hx)
  rw [hn] at hR
  obtain ⟨a, l, e⟩ := List.exists_cons_of_ne_nil h1
  rw [e] at hT hR h2
  by_cases ha : a = 48
  · subst ha
    have hz : s = [48] := Classical.byContradiction fun h => h2 ⟨rfl, h⟩
    have h4 : (((48 :: l).getD (Int.toNat 0) 0).toNat : Int) = 48 := rfl
    rcases hd with ⟨rfl, rfl⟩ | ⟨rfl, rfl⟩
    all_goals
      refine fnP_of_vc (nv := 9999) (cu := []) fits mixed Tryz.func50 rfl (by unfold HasBody; kernel_rfl) rfl ?_
      ((repeat' ((conv => whnf); (first | refine Fork.yes (by assumption) ?_ | refine Fork.no (by assumption) ?_ | refine Fork.nono (by assumption) ?_ | (refine Fork.yes ?_ ?_; focus (simp [andPD]; done)) | (refine Fork.no ?_ ?_; focus (simp [andPD]; done)) | refine Fork.neg (fun _ => ?_) (fun _ => ?_) | refine Fork.mk (fun _ => ?_) (fun _ => ?_) | refine Or.inl (Or.inl (Exists.intro _ (And.intro (by first | exact hT | exact hR | exact hA) ?_))) | refine Or.inl (Exists.intro _ (And.intro (by first | exact hT | exact hR | exact hA) ?_)) | refine Exists.intro _ (And.intro (by first | exact hT | exact hR | exact hA) ?_) | refine Both.mk ?_ ?_ | (refine And.intro ?_ ?_; focus (first | (kernel_rfl; done) | (first | assumption | omega | (simp; done) | (simp; omega); done)))))); (all_goals (conv => whnf)))
      all_goals first | exact LeD.rfl | exact LeD.tup ⟨LeD.rfl, LeD.vt trivial, trivial⟩ | exact LeD.tup ⟨LeD.rfl, LeD.vf (by simp), trivial⟩
  · have h4 : ¬ (((a :: l).getD (Int.toNat 0) 0).toNat : Int) = 48 := fun e => ha (UInt8.toNat_inj.1 (show a.toNat = (48 : UInt8).toNat from Int.ofNat.inj e))
    rcases hd with ⟨rfl, rfl⟩ | ⟨rfl, rfl⟩
    all_goals
      refine fnP_of_vc (nv := 9999) (cu := []) fits mixed Tryz.func50 rfl (by unfold HasBody; kernel_rfl) rfl ?_
      ((repeat' ((conv => whnf); (first | refine Fork.yes (by assumption) ?_ | refine Fork.no (by assumption) ?_ | refine Fork.nono (by assumption) ?_ | (refine Fork.yes ?_ ?_; focus (simp [andPD]; done)) | (refine Fork.no ?_ ?_; focus (simp [andPD]; done)) | refine Fork.neg (fun _ => ?_) (fun _ => ?_) | refine Fork.mk (fun _ => ?_) (fun _ => ?_) | refine Or.inl (Or.inl (Exists.intro _ (And.intro (by first | exact hT | exact hR | exact hA) ?_))) | refine Or.inl (Exists.intro _ (And.intro (by first | exact hT | exact hR | exact hA) ?_)) | refine Exists.intro _ (And.intro (by first | exact hT | exact hR | exact hA) ?_) | refine Both.mk ?_ ?_ | (refine And.intro ?_ ?_; focus (first | (kernel_rfl; done) | (first | assumption | omega | (simp; done) | (simp; omega); done)))))); (all_goals (conv => whnf)))
      all_goals first | exact LeD.rfl | exact LeD.tup ⟨LeD.rfl, LeD.vt trivial, trivial⟩ | exact LeD.tup ⟨LeD.rfl, LeD.vf (by simp), trivial⟩
theorem Whole_some {s : List UInt8} {v : Int} (hs : s.length ≤ 140737488355328) (h : wholeZ s = some v) : FnP Tryz.prog gl 50 [.str s] (.tup [iD v, .v (.bool true)]) := by
  unfold wholeZ at h
  split at h
  · rename_i hh
    cases h
    have ha := atoi_whole hh.1
    rw [if_pos hh.2] at ha
    exact Whole_a hs hh.1 (.inl ⟨rfl, rfl⟩) (Atoi_s s _ hs ha)
  · cases h
theorem Whole_none {s : List UInt8} (hs : s.length ≤ 140737488355328) (hr : errR gl) (h : wholeZ s = none) : ∃ n, FnP Tryz.prog gl 50 [.str s] (.tup [iD n, .v (.bool false)]) := by
  unfold wholeZ at h
  split at h
  · cases h
  · rename_i hh
    by_cases h1 : wholeOk s
    · have ha := atoi_whole h1
      rw [if_neg (fun h => hh ⟨h1, h⟩)] at ha
      exact ⟨_, Whole_a hs h1 (.inr ⟨rfl, rfl⟩) (Atoi_r s hs ha hr)⟩
    · refine ⟨0, ?_⟩
      by_cases q1 : unsg s = []
      · exact Whole_e q1
      · by_cases q2 : (unsg s).head? = some 48 ∧ s ≠ [48]
        · exact Whole_0 q2.1 q2.2
        · exact Whole_d hs q1 q2 fun q3 => h1 ⟨q1, q2, q3⟩
/-! ### The reference's -/
theorem rWhole_e {s : List UInt8} (h : unsg s = []) : FnP Tryz.prog gl 82 [.str s, .v (.bool true)] (.tup [iD 0, fD]) := by
  have e : s = [] ∨ s = [45] := by
    cases s with
    | nil => exact .inl rfl
    | cons a l =>
      by_cases ha : a = 45
      · subst ha; have : l = [] := h; subst this; exact .inr rfl
      · simp [unsg, ha] at h
  rcases e with rfl | rfl
  all_goals
    refine fnP_of_vc (nv := 9999) (cu := []) fits mixed Tryz.func82 rfl (by unfold HasBody; kernel_rfl) rfl ?_
    ((repeat' ((conv => whnf); (first | refine Fork.yes (by assumption) ?_ | refine Fork.no (by assumption) ?_ | refine Fork.nono (by assumption) ?_ | (refine Fork.yes ?_ ?_; focus (simp [andPD]; done)) | (refine Fork.no ?_ ?_; focus (simp [andPD]; done)) | refine Fork.neg (fun _ => ?_) (fun _ => ?_) | refine Fork.mk (fun _ => ?_) (fun _ => ?_) | refine Both.mk ?_ ?_ | (refine And.intro ?_ ?_; focus (first | (kernel_rfl; done) | (first | assumption | omega | (simp; done) | (simp; omega); done)))))); (all_goals (conv => whnf)))
    all_goals exact LeD.rfl
theorem rWhole_0 {s : List UInt8} (h : (unsg s).head? = some 48) (h2 : s ≠ [48]) : FnP Tryz.prog gl 82 [.str s, .v (.bool true)] (.tup [iD 0, fD]) := by
  cases s with
  | nil => cases h
  | cons a l =>
    by_cases ha : a = 45
    · subst ha
      have h' : l.head? = some 48 := h
      cases l with
      | nil => cases h'
      | cons b l =>
        cases h'
        have h3 : (((48 :: l).getD (Int.toNat 0) 0).toNat : Int) = 48 := rfl
        have h4 : (((45 :: 48 :: l).getD (Int.toNat 0) 0).toNat : Int) = 45 := rfl
        refine fnP_of_vc (nv := 9999) (cu := []) fits mixed Tryz.func82 rfl (by unfold HasBody; kernel_rfl) rfl ?_
        ((repeat' ((conv => whnf); (first | refine Fork.yes (by assumption) ?_ | refine Fork.no (by assumption) ?_ | refine Fork.nono (by assumption) ?_ | (refine Fork.yes ?_ ?_; focus (simp [andPD]; done)) | (refine Fork.no ?_ ?_; focus (simp [andPD]; done)) | refine Fork.neg (fun _ => ?_) (fun _ => ?_) | refine Fork.mk (fun _ => ?_) (fun _ => ?_) | (rw [drop1]) | refine Both.mk ?_ ?_ | (refine And.intro ?_ ?_; focus (first | (kernel_rfl; done) | (first | assumption | omega | (simp; done) | (simp; omega); done)))))); (all_goals (conv => whnf)))
        all_goals exact LeD.rfl
    · have e : unsg (a :: l) = a :: l := by simp [unsg, ha]
      rw [e] at h
      cases h
      have h3 : (((48 :: l).getD (Int.toNat 0) 0).toNat : Int) = 48 := rfl
      have h4 : ¬ (((48 :: l).getD (Int.toNat 0) 0).toNat : Int) = 45 := by rw [h3]; omega
      refine fnP_of_vc (nv := 9999) (cu := []) fits mixed Tryz.func82 rfl (by unfold HasBody; kernel_rfl) rfl ?_
      ((repeat' ((conv => whnf); (first | refine Fork.yes (by assumption) ?_ | refine Fork.no (by assumption) ?_ | refine Fork.nono (by assumption) ?_ | (refine Fork.yes ?_ ?_; focus (simp [andPD]; done)) | (refine Fork.no ?_ ?_; focus (simp [andPD]; done)) | refine Fork.neg (fun _ => ?_) (fun _ => ?_) | refine Fork.mk (fun _ => ?_) (fun _ => ?_) | refine Both.mk ?_ ?_ | (refine And.intro ?_ ?_; focus (first | (kernel_rfl; done) | (first | assumption | omega | (simp; done) | (simp; omega); done)))))); (all_goals (conv => whnf)))
      all_goals exact LeD.rfl
theorem rWhole_ok {s : List UInt8} (hs : s.length ≤ 140737488355328) (h1 : unsg s ≠ []) (h2 : ¬ ((unsg s).head? = some 48 ∧ s ≠ [48])) : FnP Tryz.prog gl 82 [.str s, .v (.bool true)] (if (∀ x ∈ unsg s, isDig x) ∧ okI (wholeV s) then .tup [iD (wholeV s), .v (.bool true)] else .tup [iD 0, fD]) := by
  cases s with
  | nil => exact absurd rfl h1
  | cons a l =>
    by_cases ha : a = 45
    · subst ha
      have h := Whole_m (gl := gl) l h1 (fun e => h2 ⟨e, by simp⟩) (by simp at hs; omega)
      have ev : wholeV (45 :: l) = -(rv l l.length : Int) := rfl
      have eu : unsg (45 :: l) = l := rfl
      rw [ev, eu]
      refine cast (congrArg _ ?_) h
      by_cases hc : (∀ x ∈ l, isDig x) ∧ rv l l.length ≤ 9223372036854775808
      · rw [if_pos hc, if_pos ⟨hc.1, by omega⟩]
      · rw [if_neg hc, if_neg (fun hh => hc ⟨hh.1, by omega⟩)]
    · have eu : unsg (a :: l) = a :: l := by simp [unsg, ha]
      rw [eu] at h2
      have h := Whole_t (gl := gl) (a :: l) (by simp [ha]) (by simp) h2 hs
      have ev : wholeV (a :: l) = (rv (a :: l) (a :: l).length : Int) := by unfold wholeV; rw [eu]; simp [ha]
      rw [ev, eu]
      refine cast (congrArg _ ?_) h
      by_cases hc : wholeC (a :: l)
      · rw [if_pos hc, if_pos ⟨hc.1, by omega⟩]
      · rw [if_neg hc, if_neg (fun hh => hc ⟨hh.1, by omega⟩)]
theorem rWhole_some {s : List UInt8} {v : Int} (hs : s.length ≤ 140737488355328) (h : wholeZ s = some v) : FnP Tryz.prog gl 82 [.str s, .v (.bool true)] (.tup [iD v, .v (.bool true)]) := by
  unfold wholeZ at h
  split at h
  · rename_i hh
    cases h
    have := rWhole_ok (gl := gl) hs hh.1.1 hh.1.2.1
    rwa [if_pos ⟨hh.1.2.2, hh.2⟩] at this
  · cases h
theorem rWhole_none {s : List UInt8} (hs : s.length ≤ 140737488355328) (h : wholeZ s = none) : FnP Tryz.prog gl 82 [.str s, .v (.bool true)] (.tup [iD 0, .v (.bool false)]) := by
  unfold wholeZ at h
  split at h
  · cases h
  · rename_i hh
    by_cases q1 : unsg s = []
    · exact rWhole_e q1
    · by_cases q2 : (unsg s).head? = some 48 ∧ s ≠ [48]
      · exact rWhole_0 q2.1 q2.2
      · have := rWhole_ok (gl := gl) hs q1 q2
        rwa [if_neg (fun h => hh ⟨⟨q1, q2, h.1⟩, h.2⟩)] at this
end Go.Proofs.YtbkhfmgdnnaaoaaGreatDoor
