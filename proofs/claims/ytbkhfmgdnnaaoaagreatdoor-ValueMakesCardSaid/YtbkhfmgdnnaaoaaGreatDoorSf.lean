/- Proved: what package value's Literal and Read, and the reference's Named and Read, return of any text; the law ValueReads, called with any text, answers true. Conditions: no longer than 2 ^ 47 bytes; the variables value.texts and strconv.ErrRange read as laid. -/
import Derived.Test.YtbkhfmgdnnaaoaaGreatDoorSe
namespace Go.Proofs.YtbkhfmgdnnaaoaaGreatDoor
open Go Go.EYtbkhfmgdnnaaoaaGreatDoor
set_option maxRecDepth 100000
variable {gl : List (Nat × List D)}
/-- The texts of what is bad. -/
def tx : List (List UInt8) := [[], [35, 68, 73, 86, 33], [35, 86, 65, 76, 85, 69, 33], [35, 82, 69, 70, 33], [35, 78, 65, 77, 69, 33], [35, 78, 85, 77, 33], [35, 78, 79, 78, 69, 33]]
abbrev tT : List UInt8 := [84, 82, 85, 69]
abbrev tF : List UInt8 := [70, 65, 76, 83, 69]
/-- What the variables hold. -/
abbrev glV (te : TypeId) (pe : Value) : List (Nat × List D) := [(0, tx.map D.str), (5, [.v (.iface te pe)]), (3, Lib.pow10Tab.map fun z => D.v (.int .u64 z))]
theorem errR_V (te : TypeId) (pe : Value) : errR (glV te pe) := ⟨te, pe, rfl⟩
/-- The first of the texts, from the second on, that is this. -/
def txI (s : List UInt8) : Nat → Option Nat
  | 0 => none
  | n + 1 => if tx.getD (6 - n) [] = s then some (6 - n) else txI s n
/-- A truth, or what is bad, of its text. -/
def litZ (s : List UInt8) : Option (Int × Int) := if s = tT then some (3, 1) else if s = tF then some (3, 0) else (txI s 6).map fun (i : Nat) => ((4 : Int), (i : Int))
theorem tx_get {k : Nat} (h : k < 7) : (tx.map fun t => C.d (.str t))[((k : Nat) : Int).toNat]? = some (.d (.str (tx.getD k []))) := by
  have h' : k < tx.length := h
  rw [Int.toNat_natCast, List.getElem?_map, List.getElem?_eq_getElem h']
  simp [List.getD, List.getElem?_eq_getElem h']
theorem txI_step {s : List UInt8} {k : Nat} (h0 : 1 ≤ k) (h : k ≤ 6) : txI s (7 - k) = if tx.getD k [] = s then some k else txI s (7 - (k + 1)) := by
  have e : 7 - k = (6 - k) + 1 := by omega
  have e2 : 6 - (6 - k) = k := by omega
  have e3 : 7 - (k + 1) = 6 - k := by omega
  rw [e, e3, txI, e2]
theorem tx_ne {k : Nat} (h0 : 0 < k) (h : k < 7) : tx.getD k [] ≠ [] := by
  have key : ∀ n : Fin 7, 0 < n.val → tx.getD n.val [] ≠ [] := by decide
  exact key ⟨k, h⟩ h0
theorem Is_t : FnP Tryz.prog gl 35 [.v (.bool true)] (vlD 3 1 []) := by
  refine fnP_of_vc (nv := 9999) (cu := []) fits mixed Tryz.func35 rfl (by unfold HasBody; kernel_rfl) rfl ?_
  ((repeat' ((conv => whnf); (first | refine Fork.yes (by assumption) ?_ | refine Fork.no (by assumption) ?_ | refine Fork.nono (by assumption) ?_ | (refine Fork.yes ?_ ?_; focus (simp [andPD]; done)) | (refine Fork.no ?_ ?_; focus (simp [andPD]; done)) | refine Fork.neg (fun _ => ?_) (fun _ => ?_) | refine Fork.mk (fun _ => ?_) (fun _ => ?_) | refine Both.mk ?_ ?_ | (refine And.intro ?_ ?_; focus (first | (kernel_rfl; done) | (fail; done)))))); (all_goals (conv => whnf)))
  exact LeD.rfl
theorem Is_f : FnP Tryz.prog gl 35 [.v (.bool false)] (vlD 3 0 []) := by
  refine fnP_of_vc (nv := 9999) (cu := []) fits mixed Tryz.func35 rfl (by unfold HasBody; kernel_rfl) rfl ?_
  ((repeat' ((conv => whnf); (first | refine Fork.yes (by assumption) ?_ | refine Fork.no (by assumption) ?_ | refine Fork.nono (by assumption) ?_ | (refine Fork.yes ?_ ?_; focus (simp [andPD]; done)) | (refine Fork.no ?_ ?_; focus (simp [andPD]; done)) | refine Fork.neg (fun _ => ?_) (fun _ => ?_) | refine Fork.mk (fun _ => ?_) (fun _ => ?_) | refine Both.mk ?_ ?_ | (refine And.intro ?_ ?_; focus (first | (kernel_rfl; done) | (fail; done)))))); (all_goals (conv => whnf)))
  exact LeD.rfl
/-- A value and whether there is one. -/
def optV : Option (Int × Int) → D
  | some p => .tup [vlD p.1 p.2 [], .v (.bool true)]
  | none => .tup [vlD 0 0 [], .v (.bool false)]
theorem Literal_l (te : TypeId) (pe : Value) {s : List UInt8} (hT : ¬ s = tT) (hF : ¬ s = tF) {hit : Option Nat} (h : txI s 6 = hit) : FnP Tryz.prog (glV te pe) 51 [.str s] (optV (hit.map fun (i : Nat) => ((4 : Int), (i : Int)))) := by
  refine fnP_of_vc (nv := 9999) (cu := []) fits mixed Tryz.func51 rfl (by unfold HasBody; kernel_rfl) rfl ?_
  ((repeat' ((conv => whnf); (first | refine Fork.yes (by assumption) ?_ | refine Fork.no (by assumption) ?_ | refine Fork.nono (by assumption) ?_ | (refine Fork.yes ?_ ?_; focus (simp [andPD]; done)) | (refine Fork.no ?_ ?_; focus (simp [andPD]; done)) | refine Fork.neg (fun _ => ?_) (fun _ => ?_) | refine Fork.mk (fun _ => ?_) (fun _ => ?_) | refine Both.mk ?_ ?_ | (refine And.intro ?_ ?_; focus (first | (kernel_rfl; done) | (first | assumption | omega | (simp; done); done)))))); (all_goals (conv => whnf)))
  refine ⟨{ σ := Nat, fr := fun k => [(14, .c (.d (iD k)))], ks := [], L := fun _ => [], ex := 0, I := fun k => k ≤ 7 ∧ (k = 0 ∨ txI s (7 - k) = hit), μ := fun k => 7 - k }, ⟨0, ⟨Nat.zero_le _, .inl rfl⟩, ?_⟩, fun (k : Nat) hk => ?_⟩
  · ((repeat' first | exact rfl | ((conv => whnf); first | done | exact True.intro | exact Or.inr (Or.inl rfl) | exact Or.inr (Or.inr (Or.inl ⟨rfl, _, _, rfl, by omega⟩)) | refine And.intro ?_ ?_)); (all_goals (conv => whnf)))
  · obtain ⟨hk1, hk2⟩ := hk
    by_cases hk7 : k < 7
    · have hk7' : (k : Int) < 7 := by omega
      ((repeat' ((conv => whnf); (first | refine Fork.yes (by assumption) ?_ | refine Fork.no (by assumption) ?_ | refine Fork.nono (by assumption) ?_ | (refine Fork.yes ?_ ?_; focus (simp [andPD]; done)) | (refine Fork.no ?_ ?_; focus (simp [andPD]; done)) | refine Fork.neg (fun _ => ?_) (fun _ => ?_) | refine Fork.mk (fun _ => ?_) (fun _ => ?_) | refine Both.mk ?_ ?_ | (refine And.intro ?_ ?_; focus (first | (kernel_rfl; done) | (first | assumption | omega | (simp; done); done)))))); (all_goals (conv => whnf)))
      refine ⟨_, tx_get hk7, ?_⟩
      ((repeat' ((conv => whnf); (first | refine Fork.yes (by assumption) ?_ | refine Fork.no (by assumption) ?_ | refine Fork.nono (by assumption) ?_ | (refine Fork.yes ?_ ?_; focus (simp [andPD]; done)) | (refine Fork.no ?_ ?_; focus (simp [andPD]; done)) | refine Fork.neg (fun _ => ?_) (fun _ => ?_) | refine Fork.mk (fun _ => ?_) (fun _ => ?_) | refine Or.inl (Or.inl (Exists.intro _ (And.intro (by first | exact Wrong_d _) ?_))) | refine Or.inl (Exists.intro _ (And.intro (by first | exact Wrong_d _) ?_)) | refine Exists.intro _ (And.intro (by first | exact Wrong_d _) ?_) | refine Both.mk ?_ ?_ | (refine And.intro ?_ ?_; focus (first | (kernel_rfl; done) | (first | assumption | omega | (simp; done); done)))))); (all_goals (conv => whnf)))
      · rename_i h1 h2
        rcases hk2 with rfl | hk2
        · exact absurd h1.symm h2
        · rcases Nat.eq_zero_or_pos k with rfl | h0
          · exact absurd h1.symm h2
          · rw [txI_step h0 (by omega), if_pos h1] at hk2
            subst hk2
            exact LeD.rfl
      all_goals
        refine ⟨k + 1, ⟨⟨hk7, .inr ?_⟩, by show 7 - (k + 1) < 7 - k; omega⟩, ?_⟩
        · rcases Nat.eq_zero_or_pos k with rfl | h0
          · exact h
          · have hk3 := hk2.resolve_left (by omega)
            rw [txI_step h0 (by omega)] at hk3
            have hne : ¬ tx.getD k [] = s := by
              first
                | assumption
                | (intro e
                   have hs : s = [] := by assumption
                   rw [hs] at e
                   exact tx_ne h0 hk7 e)
            rwa [if_neg hne] at hk3
        · ((repeat' first | exact rfl | ((conv => whnf); first | done | exact True.intro | exact Or.inr (Or.inl rfl) | exact Or.inr (Or.inr (Or.inl ⟨rfl, _, _, rfl, by omega⟩)) | refine And.intro ?_ ?_)); (all_goals (conv => whnf)))
          exact ceq (by rw [wrapI (by omega)]; rfl)
    · have hk7' : ¬ (k : Int) < 7 := by omega
      have e7 : k = 7 := by omega
      subst e7
      have hh : txI s 0 = hit := hk2.resolve_left (by omega)
      subst hh
      ((repeat' ((conv => whnf); (first | refine Fork.yes (by assumption) ?_ | refine Fork.no (by assumption) ?_ | refine Fork.nono (by assumption) ?_ | (refine Fork.yes ?_ ?_; focus (simp [andPD]; done)) | (refine Fork.no ?_ ?_; focus (simp [andPD]; done)) | refine Fork.neg (fun _ => ?_) (fun _ => ?_) | refine Fork.mk (fun _ => ?_) (fun _ => ?_) | refine Both.mk ?_ ?_ | (refine And.intro ?_ ?_; focus (first | (kernel_rfl; done) | (first | assumption | omega | (simp; done); done)))))); (all_goals (conv => whnf)))
      exact LeD.rfl
/-- Literal, of any text. -/
theorem Literal_d (te : TypeId) (pe : Value) (s : List UInt8) : FnP Tryz.prog (glV te pe) 51 [.str s] (optV (litZ s)) := by
  unfold litZ
  split
  · rename_i hs
    subst hs
    refine fnP_of_vc (nv := 9999) (cu := []) fits mixed Tryz.func51 rfl (by unfold HasBody; kernel_rfl) rfl ?_
    ((repeat' ((conv => whnf); (first | refine Fork.yes (by assumption) ?_ | refine Fork.no (by assumption) ?_ | refine Fork.nono (by assumption) ?_ | (refine Fork.yes ?_ ?_; focus (simp [andPD]; done)) | (refine Fork.no ?_ ?_; focus (simp [andPD]; done)) | refine Fork.neg (fun _ => ?_) (fun _ => ?_) | refine Fork.mk (fun _ => ?_) (fun _ => ?_) | refine Or.inl (Or.inl (Exists.intro _ (And.intro (by first | exact Is_t) ?_))) | refine Or.inl (Exists.intro _ (And.intro (by first | exact Is_t) ?_)) | refine Exists.intro _ (And.intro (by first | exact Is_t) ?_) | refine Both.mk ?_ ?_ | (refine And.intro ?_ ?_; focus (first | (kernel_rfl; done) | (first | assumption | omega | (simp; done); done)))))); (all_goals (conv => whnf)))
    all_goals exact LeD.rfl
  · rename_i hs
    split
    · rename_i hs2
      subst hs2
      refine fnP_of_vc (nv := 9999) (cu := []) fits mixed Tryz.func51 rfl (by unfold HasBody; kernel_rfl) rfl ?_
      ((repeat' ((conv => whnf); (first | refine Fork.yes (by assumption) ?_ | refine Fork.no (by assumption) ?_ | refine Fork.nono (by assumption) ?_ | (refine Fork.yes ?_ ?_; focus (simp [andPD]; done)) | (refine Fork.no ?_ ?_; focus (simp [andPD]; done)) | refine Fork.neg (fun _ => ?_) (fun _ => ?_) | refine Fork.mk (fun _ => ?_) (fun _ => ?_) | refine Or.inl (Or.inl (Exists.intro _ (And.intro (by first | exact Is_f) ?_))) | refine Or.inl (Exists.intro _ (And.intro (by first | exact Is_f) ?_)) | refine Exists.intro _ (And.intro (by first | exact Is_f) ?_) | refine Both.mk ?_ ?_ | (refine And.intro ?_ ?_; focus (first | (kernel_rfl; done) | (first | assumption | omega | (simp; done); done)))))); (all_goals (conv => whnf)))
      all_goals exact LeD.rfl
    · rename_i hs2
      exact Literal_l te pe hs hs2 rfl
/-! ### The reference's -/
theorem Wrongs_d : FnP Tryz.prog gl 53 [] (.lst 1 (tx.map fun t => [.str t])) := by
  refine fnP_of_vc (nv := 9999) (cu := []) fits mixed Tryz.func53 rfl (by unfold HasBody; kernel_rfl) rfl ?_
  ((repeat' ((conv => whnf); (first | refine Fork.yes (by assumption) ?_ | refine Fork.no (by assumption) ?_ | refine Fork.nono (by assumption) ?_ | (refine Fork.yes ?_ ?_; focus (simp [andPD]; done)) | (refine Fork.no ?_ ?_; focus (simp [andPD]; done)) | refine Fork.neg (fun _ => ?_) (fun _ => ?_) | refine Fork.mk (fun _ => ?_) (fun _ => ?_) | refine Both.mk ?_ ?_ | (refine And.intro ?_ ?_; focus (first | (kernel_rfl; done) | (fail; done)))))); (all_goals (conv => whnf)))
  exact LeD.rfl
theorem txr_get {k : Nat} (h : k < 7) : (tx.map fun t => [D.str t])[((k : Nat) : Int).toNat]? = some [.str (tx.getD k [])] := by
  have h' : k < tx.length := h
  rw [Int.toNat_natCast, List.getElem?_map, List.getElem?_eq_getElem h']
  simp [List.getD, List.getElem?_eq_getElem h']
theorem Named_l {s : List UInt8} (hT : ¬ s = tT) (hF : ¬ s = tF) {hit : Option Nat} (h : txI s 6 = hit) : FnP Tryz.prog gl 83 [.str s] (optV (hit.map fun (i : Nat) => ((4 : Int), (i : Int)))) := by
  refine fnP_of_vc (nv := 9999) (cu := []) fits mixed Tryz.func83 rfl (by unfold HasBody; kernel_rfl) rfl ?_
  ((repeat' ((conv => whnf); (first | refine Fork.yes (by assumption) ?_ | refine Fork.no (by assumption) ?_ | refine Fork.nono (by assumption) ?_ | (refine Fork.yes ?_ ?_; focus (simp [andPD]; done)) | (refine Fork.no ?_ ?_; focus (simp [andPD]; done)) | refine Fork.neg (fun _ => ?_) (fun _ => ?_) | refine Fork.mk (fun _ => ?_) (fun _ => ?_) | refine Or.inl (Or.inl (Exists.intro _ (And.intro (by first | exact Wrongs_d) ?_))) | refine Or.inl (Exists.intro _ (And.intro (by first | exact Wrongs_d) ?_)) | refine Exists.intro _ (And.intro (by first | exact Wrongs_d) ?_) | refine Both.mk ?_ ?_ | (refine And.intro ?_ ?_; focus (first | (kernel_rfl; done) | (first | assumption | omega | (simp; done); done)))))); (all_goals (conv => whnf)))
  refine ⟨{ σ := Nat, fr := fun k => [(5, .c (.d (iD k)))], ks := [], L := fun _ => [], ex := 0, I := fun k => 1 ≤ k ∧ k ≤ 7 ∧ txI s (7 - k) = hit, μ := fun k => 7 - k }, ⟨1, ⟨Nat.le_refl _, by omega, h⟩, ?_⟩, fun (k : Nat) hk => ?_⟩
  · ((repeat' first | exact rfl | ((conv => whnf); first | done | exact True.intro | exact Or.inr (Or.inl rfl) | exact Or.inr (Or.inr (Or.inl ⟨rfl, _, _, rfl, by omega⟩)) | refine And.intro ?_ ?_)); (all_goals (conv => whnf)))
  · obtain ⟨h0, hk1, hk2⟩ := hk
    by_cases hk7 : k < 7
    · have hk7' : (k : Int) < 7 := by omega
      rw [txI_step h0 (by omega)] at hk2
      by_cases hm : tx.getD k [] = s
      · rw [if_pos hm] at hk2
        subst hk2
        ((repeat' ((conv => whnf); (first | refine Fork.yes (by assumption) ?_ | refine Fork.no (by assumption) ?_ | refine Fork.nono (by assumption) ?_ | (refine Fork.yes ?_ ?_; focus (simp [andPD]; done)) | (refine Fork.no ?_ ?_; focus (simp [andPD]; done)) | refine Fork.neg (fun _ => ?_) (fun _ => ?_) | refine Fork.mk (fun _ => ?_) (fun _ => ?_) | refine Both.mk ?_ ?_ | (refine And.intro ?_ ?_; focus (first | (kernel_rfl; done) | (first | assumption | omega | (simp; done); done)))))); (all_goals (conv => whnf)))
        refine ⟨_, txr_get hk7, ?_⟩
        ((repeat' ((conv => whnf); (first | refine Fork.yes (by assumption) ?_ | refine Fork.no (by assumption) ?_ | refine Fork.nono (by assumption) ?_ | (refine Fork.yes ?_ ?_; focus (simp [andPD]; done)) | (refine Fork.no ?_ ?_; focus (simp [andPD]; done)) | refine Fork.neg (fun _ => ?_) (fun _ => ?_) | refine Fork.mk (fun _ => ?_) (fun _ => ?_) | refine Or.inl (Or.inl (Exists.intro _ (And.intro (by first | exact rBad_d _) ?_))) | refine Or.inl (Exists.intro _ (And.intro (by first | exact rBad_d _) ?_)) | refine Exists.intro _ (And.intro (by first | exact rBad_d _) ?_) | refine Both.mk ?_ ?_ | (refine And.intro ?_ ?_; focus (first | (kernel_rfl; done) | (first | assumption | omega | (simp; done); done)))))); (all_goals (conv => whnf)))
        exact LeD.rfl
      · rw [if_neg hm] at hk2
        ((repeat' ((conv => whnf); (first | refine Fork.yes (by assumption) ?_ | refine Fork.no (by assumption) ?_ | refine Fork.nono (by assumption) ?_ | (refine Fork.yes ?_ ?_; focus (simp [andPD]; done)) | (refine Fork.no ?_ ?_; focus (simp [andPD]; done)) | refine Fork.neg (fun _ => ?_) (fun _ => ?_) | refine Fork.mk (fun _ => ?_) (fun _ => ?_) | refine Both.mk ?_ ?_ | (refine And.intro ?_ ?_; focus (first | (kernel_rfl; done) | (first | assumption | omega | (simp; done); done)))))); (all_goals (conv => whnf)))
        refine ⟨_, txr_get hk7, ?_⟩
        ((repeat' ((conv => whnf); (first | refine Fork.yes (by assumption) ?_ | refine Fork.no (by assumption) ?_ | refine Fork.nono (by assumption) ?_ | (refine Fork.yes ?_ ?_; focus (simp [andPD]; done)) | (refine Fork.no ?_ ?_; focus (simp [andPD]; done)) | refine Fork.neg (fun _ => ?_) (fun _ => ?_) | refine Fork.mk (fun _ => ?_) (fun _ => ?_) | refine Both.mk ?_ ?_ | (refine And.intro ?_ ?_; focus (first | (kernel_rfl; done) | (first | assumption | omega | (simp; done); done)))))); (all_goals (conv => whnf)))
        refine ⟨k + 1, ⟨⟨by omega, hk7, hk2⟩, by show 7 - (k + 1) < 7 - k; omega⟩, ?_⟩
        ((repeat' first | exact rfl | ((conv => whnf); first | done | exact True.intro | exact Or.inr (Or.inl rfl) | exact Or.inr (Or.inr (Or.inl ⟨rfl, _, _, rfl, by omega⟩)) | refine And.intro ?_ ?_)); (all_goals (conv => whnf)))
        exact ceq (by rw [wrapI (by omega)]; rfl)
    · have hk7' : ¬ (k : Int) < 7 := by omega
      have e7 : k = 7 := by omega
      subst e7
      have hh : txI s 0 = hit := hk2
      subst hh
      ((repeat' ((conv => whnf); (first | refine Fork.yes (by assumption) ?_ | refine Fork.no (by assumption) ?_ | refine Fork.nono (by assumption) ?_ | (refine Fork.yes ?_ ?_; focus (simp [andPD]; done)) | (refine Fork.no ?_ ?_; focus (simp [andPD]; done)) | refine Fork.neg (fun _ => ?_) (fun _ => ?_) | refine Fork.mk (fun _ => ?_) (fun _ => ?_) | refine Both.mk ?_ ?_ | (refine And.intro ?_ ?_; focus (first | (kernel_rfl; done) | (first | assumption | omega | (simp; done); done)))))); (all_goals (conv => whnf)))
      exact LeD.rfl
theorem Named_d (s : List UInt8) : FnP Tryz.prog gl 83 [.str s] (optV (litZ s)) := by
  unfold litZ
  split
  · rename_i hs
    subst hs
    refine fnP_of_vc (nv := 9999) (cu := []) fits mixed Tryz.func83 rfl (by unfold HasBody; kernel_rfl) rfl ?_
    ((repeat' ((conv => whnf); (first | refine Fork.yes (by assumption) ?_ | refine Fork.no (by assumption) ?_ | refine Fork.nono (by assumption) ?_ | (refine Fork.yes ?_ ?_; focus (simp [andPD]; done)) | (refine Fork.no ?_ ?_; focus (simp [andPD]; done)) | refine Fork.neg (fun _ => ?_) (fun _ => ?_) | refine Fork.mk (fun _ => ?_) (fun _ => ?_) | refine Or.inl (Or.inl (Exists.intro _ (And.intro (by first | exact rTru_y _ rfl) ?_))) | refine Or.inl (Exists.intro _ (And.intro (by first | exact rTru_y _ rfl) ?_)) | refine Exists.intro _ (And.intro (by first | exact rTru_y _ rfl) ?_) | refine Both.mk ?_ ?_ | (refine And.intro ?_ ?_; focus (first | (kernel_rfl; done) | (first | assumption | omega | (simp; done); done)))))); (all_goals (conv => whnf)))
    all_goals exact LeD.rfl
  · rename_i hs
    split
    · rename_i hs2
      subst hs2
      refine fnP_of_vc (nv := 9999) (cu := []) fits mixed Tryz.func83 rfl (by unfold HasBody; kernel_rfl) rfl ?_
      ((repeat' ((conv => whnf); (first | refine Fork.yes (by assumption) ?_ | refine Fork.no (by assumption) ?_ | refine Fork.nono (by assumption) ?_ | (refine Fork.yes ?_ ?_; focus (simp [andPD]; done)) | (refine Fork.no ?_ ?_; focus (simp [andPD]; done)) | refine Fork.neg (fun _ => ?_) (fun _ => ?_) | refine Fork.mk (fun _ => ?_) (fun _ => ?_) | refine Or.inl (Or.inl (Exists.intro _ (And.intro (by first | exact rTru_n _ (by decide)) ?_))) | refine Or.inl (Exists.intro _ (And.intro (by first | exact rTru_n _ (by decide)) ?_)) | refine Exists.intro _ (And.intro (by first | exact rTru_n _ (by decide)) ?_) | refine Both.mk ?_ ?_ | (refine And.intro ?_ ?_; focus (first | (kernel_rfl; done) | (first | assumption | omega | (simp; done); done)))))); (all_goals (conv => whnf)))
      all_goals exact LeD.rfl
    · rename_i hs2
      exact Named_l hs hs2 rfl
/-! ### Read -/
/-- A value. -/
structure Vl where
  k : Int
  n : Int
  s : List UInt8
def Vl.d (v : Vl) : D := vlD v.k v.n v.s
def readV (s : List UInt8) : Vl :=
  if s = [] then ⟨0, 0, []⟩ else match wholeZ s with
    | some v => ⟨1, v, []⟩
    | none => match litZ s with
      | some p => ⟨p.1, p.2, []⟩
      | none => if 200 < s.length then ⟨4, 2, []⟩ else ⟨2, 0, s⟩
theorem len_200 {s : List UInt8} : (200 : Int) < ((s.length : Nat) : Int) ↔ 200 < s.length := by omega
theorem rRead_d (s : List UInt8) (hs : s.length ≤ 140737488355328) : FnP Tryz.prog gl 54 [.str s] (readV s).d := by
  unfold readV
  split
  · rename_i h0
    subst h0
    refine fnP_of_vc (nv := 9999) (cu := []) fits mixed Tryz.func54 rfl (by unfold HasBody; kernel_rfl) rfl ?_
    ((repeat' ((conv => whnf); (first | refine Fork.yes (by assumption) ?_ | refine Fork.no (by assumption) ?_ | refine Fork.nono (by assumption) ?_ | (refine Fork.yes ?_ ?_; focus (simp [andPD]; done)) | (refine Fork.no ?_ ?_; focus (simp [andPD]; done)) | refine Fork.neg (fun _ => ?_) (fun _ => ?_) | refine Fork.mk (fun _ => ?_) (fun _ => ?_) | refine Both.mk ?_ ?_ | (refine And.intro ?_ ?_; focus (first | (kernel_rfl; done) | (first | assumption | omega | (simp; done); done)))))); (all_goals (conv => whnf)))
    exact LeD.rfl
  · rename_i h0
    split
    · rename_i v hv
      have hw := rWhole_some (gl := gl) hs hv
      refine fnP_of_vc (nv := 9999) (cu := []) fits mixed Tryz.func54 rfl (by unfold HasBody; kernel_rfl) rfl ?_
      ((repeat' ((conv => whnf); (first | refine Fork.yes (by assumption) ?_ | refine Fork.no (by assumption) ?_ | refine Fork.nono (by assumption) ?_ | (refine Fork.yes ?_ ?_; focus (simp [andPD]; done)) | (refine Fork.no ?_ ?_; focus (simp [andPD]; done)) | refine Fork.neg (fun _ => ?_) (fun _ => ?_) | refine Fork.mk (fun _ => ?_) (fun _ => ?_) | refine Or.inl (Or.inl (Exists.intro _ (And.intro (by first | exact hw | exact rNum_d _) ?_))) | refine Or.inl (Exists.intro _ (And.intro (by first | exact hw | exact rNum_d _) ?_)) | refine Exists.intro _ (And.intro (by first | exact hw | exact rNum_d _) ?_) | refine Both.mk ?_ ?_ | (refine And.intro ?_ ?_; focus (first | (kernel_rfl; done) | (first | assumption | omega | (simp; done); done)))))); (all_goals (conv => whnf)))
      exact LeD.rfl
    · rename_i hv
      have hw := rWhole_none (gl := gl) hs hv
      have hl := Named_d (gl := gl) s
      split
      · rename_i p hp
        rw [hp] at hl
        refine fnP_of_vc (nv := 9999) (cu := []) fits mixed Tryz.func54 rfl (by unfold HasBody; kernel_rfl) rfl ?_
        ((repeat' ((conv => whnf); (first | refine Fork.yes (by assumption) ?_ | refine Fork.no (by assumption) ?_ | refine Fork.nono (by assumption) ?_ | (refine Fork.yes ?_ ?_; focus (simp [andPD]; done)) | (refine Fork.no ?_ ?_; focus (simp [andPD]; done)) | refine Fork.neg (fun _ => ?_) (fun _ => ?_) | refine Fork.mk (fun _ => ?_) (fun _ => ?_) | refine Or.inl (Or.inl (Exists.intro _ (And.intro (by first | exact hw | exact hl) ?_))) | refine Or.inl (Exists.intro _ (And.intro (by first | exact hw | exact hl) ?_)) | refine Exists.intro _ (And.intro (by first | exact hw | exact hl) ?_) | refine Both.mk ?_ ?_ | (refine And.intro ?_ ?_; focus (first | (kernel_rfl; done) | (first | assumption | omega | (simp; done); done)))))); (all_goals (conv => whnf)))
        exact LeD.rfl
      · rename_i hp
        rw [hp] at hl
        split
        · rename_i h200
          have h200' := len_200.2 h200
          refine fnP_of_vc (nv := 9999) (cu := []) fits mixed Tryz.func54 rfl (by unfold HasBody; kernel_rfl) rfl ?_
          ((repeat' ((conv => whnf); (first | refine Fork.yes (by assumption) ?_ | refine Fork.no (by assumption) ?_ | refine Fork.nono (by assumption) ?_ | (refine Fork.yes ?_ ?_; focus (simp [andPD]; done)) | (refine Fork.no ?_ ?_; focus (simp [andPD]; done)) | refine Fork.neg (fun _ => ?_) (fun _ => ?_) | refine Fork.mk (fun _ => ?_) (fun _ => ?_) | refine Or.inl (Or.inl (Exists.intro _ (And.intro (by first | exact hw | exact hl | exact rBad_d _) ?_))) | refine Or.inl (Exists.intro _ (And.intro (by first | exact hw | exact hl | exact rBad_d _) ?_)) | refine Exists.intro _ (And.intro (by first | exact hw | exact hl | exact rBad_d _) ?_) | refine Both.mk ?_ ?_ | (refine And.intro ?_ ?_; focus (first | (kernel_rfl; done) | (first | assumption | omega | (simp; done); done)))))); (all_goals (conv => whnf)))
          exact LeD.rfl
        · rename_i h200
          have h200' := fun h => h200 (len_200.1 h)
          refine fnP_of_vc (nv := 9999) (cu := []) fits mixed Tryz.func54 rfl (by unfold HasBody; kernel_rfl) rfl ?_
          ((repeat' ((conv => whnf); (first | refine Fork.yes (by assumption) ?_ | refine Fork.no (by assumption) ?_ | refine Fork.nono (by assumption) ?_ | (refine Fork.yes ?_ ?_; focus (simp [andPD]; done)) | (refine Fork.no ?_ ?_; focus (simp [andPD]; done)) | refine Fork.neg (fun _ => ?_) (fun _ => ?_) | refine Fork.mk (fun _ => ?_) (fun _ => ?_) | refine Or.inl (Or.inl (Exists.intro _ (And.intro (by first | exact hw | exact hl | exact rTxt_d _) ?_))) | refine Or.inl (Exists.intro _ (And.intro (by first | exact hw | exact hl | exact rTxt_d _) ?_)) | refine Exists.intro _ (And.intro (by first | exact hw | exact hl | exact rTxt_d _) ?_) | refine Both.mk ?_ ?_ | (refine And.intro ?_ ?_; focus (first | (kernel_rfl; done) | (first | assumption | omega | (simp; done); done)))))); (all_goals (conv => whnf)))
          exact LeD.rfl
end Go.Proofs.YtbkhfmgdnnaaoaaGreatDoor
