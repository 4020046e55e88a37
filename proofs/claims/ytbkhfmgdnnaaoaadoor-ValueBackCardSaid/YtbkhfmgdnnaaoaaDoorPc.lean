/- Proved: what addr.Cells, its reference and sccsame.Cells return. No condition. -/
import Derived.Test.YtbkhfmgdnnaaoaaDoorPb
namespace Go.Proofs.YtbkhfmgdnnaaoaaDoor
open Go Go.EYtbkhfmgdnnaaoaaDoor
set_option maxRecDepth 100000
variable {gl : List (Nat × List D)}

def cellRow (c r : Int) : List D := [iD c, iD r]
def partL (c0 r : Int) (j : Nat) : List (List D) := (List.range j).map fun (i : Nat) => cellRow (c0 + i) r
def rowsL (c0 r0 : Int) (n k : Nat) : List (List D) := (List.range k).flatMap fun (i : Nat) => partL c0 (r0 + i) n
theorem partL_succ (c0 r : Int) (j : Nat) : partL c0 r (j + 1) = partL c0 r j ++ [cellRow (c0 + j) r] := by simp [partL, List.range_succ]
theorem rowsL_succ (c0 r0 : Int) (n k : Nat) : rowsL c0 r0 n (k + 1) = rowsL c0 r0 n k ++ partL c0 (r0 + k) n := by simp [rowsL, List.range_succ]
theorem partL_len (c0 r : Int) (j : Nat) : (partL c0 r j).length = j := by simp [partL]
theorem rowsL_len (c0 r0 : Int) (n k : Nat) : (rowsL c0 r0 n k).length = k * n := by
  induction k with
  | zero => simp [rowsL]
  | succ k ih => rw [rowsL_succ, List.length_append, ih, partL_len, Nat.add_mul, Nat.one_mul]
def cellsD (a b c d : Int) : D := .lst 2 (rowsL a b (c - a + 1).toNat (d - b + 1).toNat)
theorem ceq {x y : Int} (h : x = y) {P : Prop} : C.d (iD y) = C.junk ∨ C.d (iD x) = C.d (iD y) ∨ P := .inr (.inl (congrArg (fun z => C.d (iD z)) h))
theorem refCells_d (a b c d : Int) (h : boxP a b c d) : FnP Tryd.prog gl 17 [boxD a b c d] (cellsD a b c d) := by
  obtain ⟨⟨h1, h2, h3, h4⟩, ⟨h5, h6, h7, h8⟩, h9, h10⟩ := h
  obtain ⟨n, hn⟩ : ∃ n, (c - a + 1).toNat = n := ⟨_, rfl⟩
  obtain ⟨m, hm⟩ : ∃ m, (d - b + 1).toNat = m := ⟨_, rfl⟩
  unfold cellsD
  rw [hn, hm]
  refine fnP_of_vc (nv := 9999) (cu := []) fits mixed Tryd.func17 rfl (by unfold HasBody; kernel_rfl) rfl ?_
  ((repeat' ((conv => whnf); (first | refine Fork.yes (by assumption) ?_ | refine Fork.no (by assumption) ?_ | refine Fork.nono (by assumption) ?_ | (refine Fork.yes ?_ ?_; focus (simp [andPD]; done)) | (refine Fork.no ?_ ?_; focus (simp [andPD]; done)) | refine Fork.neg (fun _ => ?_) (fun _ => ?_) | refine Fork.mk (fun _ => ?_) (fun _ => ?_)))); (all_goals (conv => whnf)))
  refine ⟨{ σ := Nat, fr := fun k => [(3, .c (.all 2 1)), (4, .c (.d (iD (b + (k : Int)))))], ks := [1], L := fun k => [(1, .rows 2 (rowsL a b n k) 23)], ex := 1, I := fun k => k ≤ m, μ := fun k => m - k }, ⟨0, Nat.zero_le _, ?_⟩, fun (k : Nat) hk => ?_⟩
  · ((repeat' first | exact rfl | ((conv => whnf); first | done | exact True.intro | exact Or.inr (Or.inl rfl) | exact Or.inr (Or.inr (Or.inl ⟨rfl, _, _, rfl, by omega⟩)) | refine And.intro ?_ ?_)); (all_goals (conv => whnf)))
    · exact ceq (by simp)
    · exact ⟨_, _, rfl, by omega, by omega⟩
  · replace hk : k ≤ m := hk
    have hkn : k * n ≤ 99 * 26 := Nat.mul_le_mul (by omega) (by omega)
    ((repeat' ((conv => whnf); (first | refine Fork.yes (by assumption) ?_ | refine Fork.no (by assumption) ?_ | refine Fork.nono (by assumption) ?_ | (refine Fork.yes ?_ ?_; focus (simp [andPD]; done)) | (refine Fork.no ?_ ?_; focus (simp [andPD]; done)) | refine Fork.neg (fun _ => ?_) (fun _ => ?_) | refine Fork.mk (fun _ => ?_) (fun _ => ?_)))); (all_goals (conv => whnf)))
    · have hlt : k < m := by omega
      refine ⟨{ σ := Nat, fr := fun j => [(3, .c (.all 2 1)), (5, .c (.d (iD (a + (j : Int)))))], ks := [1], L := fun j => [(1, .rows 2 (rowsL a b n k ++ partL a (b + k) j) 23)], ex := 0, I := fun j => j ≤ n, μ := fun j => n - j }, ⟨0, Nat.zero_le _, ?_⟩, fun (j : Nat) hj => ?_⟩
      · ((repeat' first | exact rfl | ((conv => whnf); first | done | exact True.intro | exact Or.inr (Or.inl rfl) | exact Or.inr (Or.inr (Or.inl ⟨rfl, _, _, rfl, by omega⟩)) | refine And.intro ?_ ?_)); (all_goals (conv => whnf)))
        · exact ceq (by simp)
        · simp [partL]
      · replace hj : j ≤ n := hj
        ((repeat' ((conv => whnf); (first | refine Fork.yes (by assumption) ?_ | refine Fork.no (by assumption) ?_ | refine Fork.nono (by assumption) ?_ | (refine Fork.yes ?_ ?_; focus (simp [andPD]; done)) | (refine Fork.no ?_ ?_; focus (simp [andPD]; done)) | refine Fork.neg (fun _ => ?_) (fun _ => ?_) | refine Fork.mk (fun _ => ?_) (fun _ => ?_)))); (all_goals (conv => whnf)))
        · have hjl : j < n := by omega
          refine ⟨⟨rfl, ?_, ?_⟩, ?_⟩
          · rw [List.length_append, rowsL_len, partL_len]; show (k * n + j + 1) * 16 ≤ _; omega
          · rw [List.length_append, rowsL_len, partL_len]; show k * n + j + 1 ≤ _; unfold maxLen; omega
          · ((repeat' ((conv => whnf); (first | refine Fork.yes (by assumption) ?_ | refine Fork.no (by assumption) ?_ | refine Fork.nono (by assumption) ?_ | (refine Fork.yes ?_ ?_; focus (simp [andPD]; done)) | (refine Fork.no ?_ ?_; focus (simp [andPD]; done)) | refine Fork.neg (fun _ => ?_) (fun _ => ?_) | refine Fork.mk (fun _ => ?_) (fun _ => ?_)))); (all_goals (conv => whnf)))
            refine ⟨j + 1, ⟨hjl, by show n - (j + 1) < n - j; omega⟩, ?_⟩
            ((repeat' first | exact rfl | ((conv => whnf); first | done | exact True.intro | exact Or.inr (Or.inl rfl) | exact Or.inr (Or.inr (Or.inl ⟨rfl, _, _, rfl, by omega⟩)) | refine And.intro ?_ ?_)); (all_goals (conv => whnf)))
            · exact ceq (show IntKind.i64.wrap (a + (j : Int) + 1) = a + ((j + 1 : Nat) : Int) by rw [wrapI (by omega)]; omega)
            · rw [partL_succ, List.append_assoc]; rfl
        · have hjn : j = n := by omega
          subst hjn
          refine ⟨k + 1, ⟨hlt, by show m - (k + 1) < m - k; omega⟩, ?_⟩
          ((repeat' first | exact rfl | ((conv => whnf); first | done | exact True.intro | exact Or.inr (Or.inl rfl) | exact Or.inr (Or.inr (Or.inl ⟨rfl, _, _, rfl, by omega⟩)) | refine And.intro ?_ ?_)); (all_goals (conv => whnf)))
          · exact ceq (show IntKind.i64.wrap (b + (k : Int) + 1) = b + ((k + 1 : Nat) : Int) by rw [wrapI (by omega)]; omega)
          · rw [rowsL_succ]
    · have hkm : k = m := by omega
      subst hkm
      exact LeD.rfl

theorem Cells_d (a b c d : Int) : FnP Tryd.prog gl 18 [boxD a b c d] (if boxP a b c d then .tup [cellsD a b c d, errD 0] else .tup [.lst 2 [], errD 1]) := by
  by_cases h : boxP a b c d
  · rw [if_pos h]
    have hb := h
    obtain ⟨⟨h1, h2, h3, h4⟩, ⟨h5, h6, h7, h8⟩, h9, h10⟩ := h
    obtain ⟨n, hn⟩ : ∃ n, (c - a + 1).toNat = n := ⟨_, rfl⟩
    obtain ⟨m, hm⟩ : ∃ m, (d - b + 1).toNat = m := ⟨_, rfl⟩
    unfold cellsD
    rw [hn, hm]
    refine fnP_of_vc (nv := 9999) (cu := []) fits mixed Tryd.func18 rfl (by unfold HasBody; kernel_rfl) rfl ?_
    ((repeat' ((conv => whnf); first | (first | refine Fork.yes (by assumption) ?_ | refine Fork.no (by assumption) ?_ | refine Fork.nono (by assumption) ?_ | (refine Fork.yes ?_ ?_; focus (simp [andPD]; done)) | (refine Fork.no ?_ ?_; focus (simp [andPD]; done)) | refine Fork.neg (fun _ => ?_) (fun _ => ?_) | refine Fork.mk (fun _ => ?_) (fun _ => ?_)) | refine Or.inl (Or.inl (Exists.intro _ (And.intro (by first | exact Boxed_d _ _ _ _) ?_))) | refine Exists.intro _ (And.intro (by first | exact Boxed_d _ _ _ _) ?_))); (all_goals (conv => whnf)))
    refine ⟨{ σ := Nat, fr := fun k => [(4, .c (.all 2 1)), (5, .c (.d (iD (b + (k : Int)))))], ks := [1], L := fun k => [(1, .rows 2 (rowsL a b n k) 23)], ex := 1, I := fun k => k ≤ m, μ := fun k => m - k }, ⟨0, Nat.zero_le _, ?_⟩, fun (k : Nat) hk => ?_⟩
    · ((repeat' first | exact rfl | ((conv => whnf); first | done | exact True.intro | exact Or.inr (Or.inl rfl) | exact Or.inr (Or.inr (Or.inl ⟨rfl, _, _, rfl, by omega⟩)) | refine And.intro ?_ ?_)); (all_goals (conv => whnf)))
      · exact ceq (by simp)
      · exact ⟨_, _, rfl, by omega, by omega⟩
    · replace hk : k ≤ m := hk
      have hkn : k * n ≤ 99 * 26 := Nat.mul_le_mul (by omega) (by omega)
      ((repeat' ((conv => whnf); (first | refine Fork.yes (by assumption) ?_ | refine Fork.no (by assumption) ?_ | refine Fork.nono (by assumption) ?_ | (refine Fork.yes ?_ ?_; focus (simp [andPD]; done)) | (refine Fork.no ?_ ?_; focus (simp [andPD]; done)) | refine Fork.neg (fun _ => ?_) (fun _ => ?_) | refine Fork.mk (fun _ => ?_) (fun _ => ?_)))); (all_goals (conv => whnf)))
      · have hlt : k < m := by omega
        refine ⟨{ σ := Nat, fr := fun j => [(4, .c (.all 2 1)), (6, .c (.d (iD (a + (j : Int)))))], ks := [1], L := fun j => [(1, .rows 2 (rowsL a b n k ++ partL a (b + k) j) 23)], ex := 0, I := fun j => j ≤ n, μ := fun j => n - j }, ⟨0, Nat.zero_le _, ?_⟩, fun (j : Nat) hj => ?_⟩
        · ((repeat' first | exact rfl | ((conv => whnf); first | done | exact True.intro | exact Or.inr (Or.inl rfl) | exact Or.inr (Or.inr (Or.inl ⟨rfl, _, _, rfl, by omega⟩)) | refine And.intro ?_ ?_)); (all_goals (conv => whnf)))
          · exact ceq (by simp)
          · simp [partL]
        · replace hj : j ≤ n := hj
          ((repeat' ((conv => whnf); (first | refine Fork.yes (by assumption) ?_ | refine Fork.no (by assumption) ?_ | refine Fork.nono (by assumption) ?_ | (refine Fork.yes ?_ ?_; focus (simp [andPD]; done)) | (refine Fork.no ?_ ?_; focus (simp [andPD]; done)) | refine Fork.neg (fun _ => ?_) (fun _ => ?_) | refine Fork.mk (fun _ => ?_) (fun _ => ?_)))); (all_goals (conv => whnf)))
          · have hjl : j < n := by omega
            refine ⟨⟨rfl, ?_, ?_⟩, ?_⟩
            · rw [List.length_append, rowsL_len, partL_len]; show (k * n + j + 1) * 16 ≤ _; omega
            · rw [List.length_append, rowsL_len, partL_len]; show k * n + j + 1 ≤ _; unfold maxLen; omega
            · ((repeat' ((conv => whnf); (first | refine Fork.yes (by assumption) ?_ | refine Fork.no (by assumption) ?_ | refine Fork.nono (by assumption) ?_ | (refine Fork.yes ?_ ?_; focus (simp [andPD]; done)) | (refine Fork.no ?_ ?_; focus (simp [andPD]; done)) | refine Fork.neg (fun _ => ?_) (fun _ => ?_) | refine Fork.mk (fun _ => ?_) (fun _ => ?_)))); (all_goals (conv => whnf)))
              refine ⟨j + 1, ⟨hjl, by show n - (j + 1) < n - j; omega⟩, ?_⟩
              ((repeat' first | exact rfl | ((conv => whnf); first | done | exact True.intro | exact Or.inr (Or.inl rfl) | exact Or.inr (Or.inr (Or.inl ⟨rfl, _, _, rfl, by omega⟩)) | refine And.intro ?_ ?_)); (all_goals (conv => whnf)))
              · exact ceq (show IntKind.i64.wrap (a + (j : Int) + 1) = a + ((j + 1 : Nat) : Int) by rw [wrapI (by omega)]; omega)
              · rw [partL_succ, List.append_assoc]; rfl
          · have hjn : j = n := by omega
            subst hjn
            refine ⟨k + 1, ⟨hlt, by show m - (k + 1) < m - k; omega⟩, ?_⟩
            ((repeat' first | exact rfl | ((conv => whnf); first | done | exact True.intro | exact Or.inr (Or.inl rfl) | exact Or.inr (Or.inr (Or.inl ⟨rfl, _, _, rfl, by omega⟩)) | refine And.intro ?_ ?_)); (all_goals (conv => whnf)))
            · exact ceq (show IntKind.i64.wrap (b + (k : Int) + 1) = b + ((k + 1 : Nat) : Int) by rw [wrapI (by omega)]; omega)
            · rw [rowsL_succ]
      · have hkm : k = m := by omega
        subst hkm
        exact LeD.rfl
  · rw [if_neg h]
    refine fnP_of_vc (nv := 9999) (cu := []) fits mixed Tryd.func18 rfl (by unfold HasBody; kernel_rfl) rfl ?_
    ((repeat' ((conv => whnf); first | (first | refine Fork.yes (by assumption) ?_ | refine Fork.no (by assumption) ?_ | refine Fork.nono (by assumption) ?_ | (refine Fork.yes ?_ ?_; focus (simp [andPD]; done)) | (refine Fork.no ?_ ?_; focus (simp [andPD]; done)) | refine Fork.neg (fun _ => ?_) (fun _ => ?_) | refine Fork.mk (fun _ => ?_) (fun _ => ?_)) | refine Or.inl (Or.inl (Exists.intro _ (And.intro (by first | exact Boxed_d _ _ _ _) ?_))) | refine Exists.intro _ (And.intro (by first | exact Boxed_d _ _ _ _) ?_))); (all_goals (conv => whnf)))
    refine LeD.tup ⟨⟨fun M w x hx => ?_⟩, LeD.rfl, trivial⟩
    rw [DenD.v_inv hx]; exact .lst0 _ _ _ (by simp [maxLen])
end Go.Proofs.YtbkhfmgdnnaaoaaDoor
