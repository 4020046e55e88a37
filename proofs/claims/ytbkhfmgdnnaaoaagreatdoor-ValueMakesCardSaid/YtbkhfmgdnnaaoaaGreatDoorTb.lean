/- Proved: what the reference's Digits returns of a number of 64 bits. No condition. -/
import Derived.Test.YtbkhfmgdnnaaoaaGreatDoorTa
import Derived.Test.YtbkhfmgdnnaaoaaGreatDoorSg
namespace Go.Proofs.YtbkhfmgdnnaaoaaGreatDoor
open Go Go.EYtbkhfmgdnnaaoaaGreatDoor
set_option maxRecDepth 100000
variable {gl : List (Nat × List D)}
theorem Text_y {p : Prop} (i : Decidable p) (hz : ¬ p) (n : Nat) (hn : (ws n).length ≤ 8796093022208) : FnP Tryz.prog gl 113 [.imm [.b p i, W n], iD 10] (.str (decB n)) := by
  have wa := wD_len (ws n)
  have ht := twin_d (gl := gl) (ws n) (by omega)
  by_cases h0 : n = 0
  · subst h0
    have hl0 : (((wD (ws 0)).length : Nat) : Int) = 0 := by rw [wa, ws_zero]; rfl
    refine fnP_of_vc (nv := 9999) (cu := []) fits mixed Tryz.func113 rfl (by unfold HasBody; kernel_rfl) rfl ?_
    ((repeat' ((conv => whnf); (first | refine Fork.yes (by assumption) ?_ | refine Fork.no (by assumption) ?_ | refine Fork.nono (by assumption) ?_ | (refine Fork.yes ?_ ?_; focus (simp [andPD]; done)) | (refine Fork.no ?_ ?_; focus (simp [andPD]; done)) | refine Fork.neg (fun _ => ?_) (fun _ => ?_) | refine Fork.mk (fun _ => ?_) (fun _ => ?_) | refine Both.mk ?_ ?_ | (refine And.intro ?_ ?_; focus (first | (kernel_rfl; done) | (first | assumption | omega | (simp; done); done)))))); (all_goals (conv => whnf)))
    exact LeD.of rfl
  have hl0 : ¬ (((wD (ws n)).length : Nat) : Int) = 0 := by rw [wa]; intro h; exact h0 (ws_nil.1 (List.eq_nil_of_length_eq_zero (Int.ofNat.inj h)))
  refine fnP_of_vc (nv := 9999) (cu := []) fits mixed Tryz.func113 rfl (by unfold HasBody; kernel_rfl) rfl ?_
  ((repeat' ((conv => whnf); (first | refine Fork.yes (by assumption) ?_ | refine Fork.no (by assumption) ?_ | refine Fork.nono (by assumption) ?_ | (refine Fork.yes ?_ ?_; focus (simp [andPD]; done)) | (refine Fork.no ?_ ?_; focus (simp [andPD]; done)) | refine Fork.neg (fun _ => ?_) (fun _ => ?_) | refine Fork.mk (fun _ => ?_) (fun _ => ?_) | refine Or.inl (Or.inl (Exists.intro _ (And.intro (by first | exact ht) ?_))) | refine Or.inl (Exists.intro _ (And.intro (by first | exact ht) ?_)) | refine Exists.intro _ (And.intro (by first | exact ht) ?_) | refine Both.mk ?_ ?_ | (refine And.intro ?_ ?_; focus (first | (kernel_rfl; done) | (first | assumption | omega | (simp; done); done)))))); (all_goals (conv => whnf)))
  refine ⟨{ σ := (Nat × List UInt8), fr := fun s => [(5, .c (.all 1 0)), (6, .c (.d (W s.1)))], ks := [0], L := fun s => [(0, .rows 1 (bD s.2) 5)], ex := 1, I := fun s => dl10 n = s.2 ++ dl10 s.1 ∧ s.1 ≤ n, μ := fun s => s.1 }, ⟨(n, []), ⟨rfl, Nat.le_refl _⟩, ?_⟩, ?_⟩
  · ((repeat' first | exact rfl | ((conv => whnf); first | done | exact True.intro | exact Or.inr (Or.inl rfl) | exact Or.inr (Or.inr (Or.inl ⟨rfl, _, _, rfl, by omega⟩)) | refine And.intro ?_ ?_)); (all_goals (conv => whnf)))
    exact ⟨1, 5, rfl, by decide, Nat.le_refl _⟩
  · rintro ⟨m, b⟩ ⟨h1, h2⟩
    simp only at h1 h2
    have hm : (ws m).length ≤ 8796093022208 := Nat.le_trans (ws_len_le (Nat.lt_of_le_of_lt h2 (lt_ws_len n))) hn
    have hs := bigSmall_d (gl := gl) m 10 (by decide) (by decide) hm
    have h10 : ((m % 10 : Nat) : Int) < 10 := by omega
    have hbl : b.length ≤ 87960930222080 := by
      have := dl10_max n
      rw [h1, List.length_append] at this
      omega
    ((repeat' ((conv => whnf); (first | refine Fork.yes (by assumption) ?_ | refine Fork.no (by assumption) ?_ | refine Fork.nono (by assumption) ?_ | (refine Fork.yes ?_ ?_; focus (simp [andPD]; done)) | (refine Fork.no ?_ ?_; focus (simp [andPD]; done)) | refine Fork.neg (fun _ => ?_) (fun _ => ?_) | refine Fork.mk (fun _ => ?_) (fun _ => ?_) | refine Or.inl (Or.inl (Exists.intro _ (And.intro (by first | exact hs) ?_))) | refine Or.inl (Exists.intro _ (And.intro (by first | exact hs) ?_)) | refine Exists.intro _ (And.intro (by first | exact hs) ?_) | refine Both.mk ?_ ?_ | (refine And.intro ?_ ?_; focus (first | (kernel_rfl; done) | (first | assumption | omega | (simp; done); done)))))); (all_goals (conv => whnf)))
    · rename_i hx
      have hm0 : m ≠ 0 := fun e => by
        have hx' : 0 < (((wD (ws m)).length : Nat) : Int) := hx
        rw [e, wD_len, ws_zero] at hx'
        exact absurd hx' (by decide)
      refine ⟨⟨rfl, by show ((bD b).length + 1) * 1 ≤ 140737488355328; unfold bD; rw [List.length_map]; omega, by show (bD b).length + 1 ≤ maxLen; unfold bD maxLen; rw [List.length_map]; omega⟩, ?_⟩
      ((repeat' ((conv => whnf); (first | refine Fork.yes (by assumption) ?_ | refine Fork.no (by assumption) ?_ | refine Fork.nono (by assumption) ?_ | (refine Fork.yes ?_ ?_; focus (simp [andPD]; done)) | (refine Fork.no ?_ ?_; focus (simp [andPD]; done)) | refine Fork.neg (fun _ => ?_) (fun _ => ?_) | refine Fork.mk (fun _ => ?_) (fun _ => ?_) | refine Both.mk ?_ ?_ | (refine And.intro ?_ ?_; focus (first | (kernel_rfl; done) | (first | assumption | omega | (simp; done); done)))))); (all_goals (conv => whnf)))
      refine ⟨(m / 10, b ++ [dig (m % 10)]), ⟨⟨?_, Nat.le_trans (Nat.div_le_self _ _) h2⟩, Nat.div_lt_self (Nat.pos_of_ne_zero hm0) (by decide)⟩, ?_⟩
      · rw [h1, dl10_pos hm0, List.append_assoc]; rfl
      · ((repeat' first | exact rfl | ((conv => whnf); first | done | exact True.intro | exact Or.inr (Or.inl rfl) | exact Or.inr (Or.inr (Or.inl ⟨rfl, _, _, rfl, by omega⟩)) | refine And.intro ?_ ?_)); (all_goals (conv => whnf)))
        show bD b ++ [[D.v (.int .u8 (IntKind.u8.wrap (IntKind.u32.wrap (48 + ((m % 10 : Nat) : Int)))))]] = bD (b ++ [dig (m % 10)])
        rw [IntWalk.u32_in _ (by omega), IntWalk.u8_in _ (by omega), bD_app, dig_nat (Nat.mod_lt m (by decide))]
    · rename_i hx
      have hm0 : m = 0 := Classical.byContradiction fun e => hx (by
        show 0 < (((wD (ws m)).length : Nat) : Int)
        rw [wD_len]
        have : (ws m).length ≠ 0 := fun h => e (ws_nil.1 (List.eq_nil_of_length_eq_zero h))
        omega)
      have hb : b = dl10 n := by rw [h1, hm0, dl10_zero, List.append_nil]
      subst hm0
      have hb0 : b ≠ [] := by rw [hb, dl10_pos h0]; exact List.cons_ne_nil _ _
      have hbp : 0 < b.length := List.length_pos_iff.2 hb0
      refine ⟨{ σ := (Nat × List UInt8), fr := fun s => [(8, .c (.d (iD s.1))), (9, .c (.d (iD ((b.length - 1 - s.1 : Nat) : Int))))], ks := [0], L := fun s => [(0, .rows 1 (bD s.2) 5)], ex := 0, I := fun s => Turned b s.2 s.1, μ := fun s => b.length - s.1 }, ⟨(0, b), Turned.zero b, ?_⟩, ?_⟩
      · ((repeat' first | exact rfl | ((conv => whnf); first | done | exact True.intro | exact Or.inr (Or.inl rfl) | exact Or.inr (Or.inr (Or.inl ⟨rfl, _, _, rfl, by omega⟩)) | refine And.intro ?_ ?_)); (all_goals (conv => whnf)))
        exact ceq (show IntKind.i64.wrap ((((bD b).length : Nat) : Int) - 1) = ((b.length - 1 - 0 : Nat) : Int) by rw [bD_len, wrapI (by omega)]; omega)
      · rintro ⟨k, p⟩ ht
        have ht' : Turned b p k := ht
        obtain ⟨t1, t2, _⟩ := id ht'
        have hki : 0 ≤ (k : Int) ∧ (k : Int) < ((bD p).length : Nat) := by rw [bD_len]; omega
        have hji : 0 ≤ ((b.length - 1 - k : Nat) : Int) ∧ ((b.length - 1 - k : Nat) : Int) < ((bD p).length : Nat) := by rw [bD_len]; omega
        have hk : k < p.length := by omega
        have hj : b.length - 1 - k < p.length := by omega
        have hji2 : 0 ≤ ((b.length - 1 - k : Nat) : Int) ∧ ((b.length - 1 - k : Nat) : Int) < (((bD p).set ((k : Nat) : Int).toNat (u8D p[b.length - 1 - k])).length : Nat) := by rw [List.length_set]; exact hji
        ((repeat' ((conv => whnf); (first | refine Fork.yes (by assumption) ?_ | refine Fork.no (by assumption) ?_ | refine Fork.nono (by assumption) ?_ | (refine Fork.yes ?_ ?_; focus (simp [andPD]; done)) | (refine Fork.no ?_ ?_; focus (simp [andPD]; done)) | refine Fork.neg (fun _ => ?_) (fun _ => ?_) | refine Fork.mk (fun _ => ?_) (fun _ => ?_) | refine Both.mk ?_ ?_ | (refine And.intro ?_ ?_; focus (first | (kernel_rfl; done) | (first | exact hki | exact hji | exact hji2 | assumption | omega | (simp; done); done)))))); (all_goals (conv => whnf)))
        · rename_i hx
          have hx' : k < b.length - 1 - k := Int.ofNat_lt.1 hx
          have hj2 : b.length - 1 - k < (p.set k p[b.length - 1 - k]).length := by rw [List.length_set]; exact hj
          have hg3 : ((bD p).set ((k : Nat) : Int).toNat (u8D p[b.length - 1 - k]))[((b.length - 1 - k : Nat) : Int).toNat]? = some (u8D (p.set k p[b.length - 1 - k])[b.length - 1 - k]) := by rw [bset]; exact bget hj2
          refine ⟨_, bget hk, ?_⟩
          ((repeat' ((conv => whnf); (first | refine Fork.yes (by assumption) ?_ | refine Fork.no (by assumption) ?_ | refine Fork.nono (by assumption) ?_ | (refine Fork.yes ?_ ?_; focus (simp [andPD]; done)) | (refine Fork.no ?_ ?_; focus (simp [andPD]; done)) | refine Fork.neg (fun _ => ?_) (fun _ => ?_) | refine Fork.mk (fun _ => ?_) (fun _ => ?_) | refine Both.mk ?_ ?_ | (refine And.intro ?_ ?_; focus (first | (kernel_rfl; done) | (first | exact hki | exact hji | exact hji2 | assumption | omega | (simp; done); done)))))); (all_goals (conv => whnf)))
          refine ⟨_, bget hj, ?_⟩
          ((repeat' ((conv => whnf); (first | refine Fork.yes (by assumption) ?_ | refine Fork.no (by assumption) ?_ | refine Fork.nono (by assumption) ?_ | (refine Fork.yes ?_ ?_; focus (simp [andPD]; done)) | (refine Fork.no ?_ ?_; focus (simp [andPD]; done)) | refine Fork.neg (fun _ => ?_) (fun _ => ?_) | refine Fork.mk (fun _ => ?_) (fun _ => ?_) | refine Both.mk ?_ ?_ | (refine And.intro ?_ ?_; focus (first | (kernel_rfl; done) | (first | exact hki | exact hji | exact hji2 | assumption | omega | (simp; done); done)))))); (all_goals (conv => whnf)))
          refine ⟨_, bget hk, ?_⟩
          ((repeat' ((conv => whnf); (first | refine Fork.yes (by assumption) ?_ | refine Fork.no (by assumption) ?_ | refine Fork.nono (by assumption) ?_ | (refine Fork.yes ?_ ?_; focus (simp [andPD]; done)) | (refine Fork.no ?_ ?_; focus (simp [andPD]; done)) | refine Fork.neg (fun _ => ?_) (fun _ => ?_) | refine Fork.mk (fun _ => ?_) (fun _ => ?_) | refine Both.mk ?_ ?_ | (refine And.intro ?_ ?_; focus (first | (kernel_rfl; done) | (first | exact hki | exact hji | exact hji2 | assumption | omega | (simp; done); done)))))); (all_goals (conv => whnf)))
          refine ⟨_, hg3, ?_⟩
          ((repeat' ((conv => whnf); (first | refine Fork.yes (by assumption) ?_ | refine Fork.no (by assumption) ?_ | refine Fork.nono (by assumption) ?_ | (refine Fork.yes ?_ ?_; focus (simp [andPD]; done)) | (refine Fork.no ?_ ?_; focus (simp [andPD]; done)) | refine Fork.neg (fun _ => ?_) (fun _ => ?_) | refine Fork.mk (fun _ => ?_) (fun _ => ?_) | refine Both.mk ?_ ?_ | (refine And.intro ?_ ?_; focus (first | (kernel_rfl; done) | (first | exact hki | exact hji | exact hji2 | assumption | omega | (simp; done); done)))))); (all_goals (conv => whnf)))
          refine ⟨(k + 1, (p.set k p[b.length - 1 - k]).set (b.length - 1 - k) p[k]), ⟨ht'.step hx' hk hj, by show b.length - (k + 1) < b.length - k; omega⟩, ?_⟩
          ((repeat' first | exact rfl | ((conv => whnf); first | done | exact True.intro | exact Or.inr (Or.inl rfl) | exact Or.inr (Or.inr (Or.inl ⟨rfl, _, _, rfl, by omega⟩)) | refine And.intro ?_ ?_)); (all_goals (conv => whnf)))
          · exact ceq (show IntKind.i64.wrap ((k : Int) + 1) = ((k + 1 : Nat) : Int) by rw [wrapI (by omega)]; rfl)
          · exact ceq (show IntKind.i64.wrap (((b.length - 1 - k : Nat) : Int) - 1) = ((b.length - 1 - (k + 1) : Nat) : Int) by rw [wrapI (by omega)]; omega)
          · show List.set (List.set (bD p) ((k : Nat) : Int).toNat (u8D p[b.length - 1 - k])) ((b.length - 1 - k : Nat) : Int).toNat (u8D p[k]) = bD ((p.set k p[b.length - 1 - k]).set (b.length - 1 - k) p[k])
            rw [bset, bset]
        · rename_i hx
          have hx' : ¬ k < b.length - 1 - k := fun h => hx (Int.ofNat_lt.2 h)
          refine ⟨p, rfl, ?_⟩
          ((repeat' ((conv => whnf); (first | refine Fork.yes (by assumption) ?_ | refine Fork.no (by assumption) ?_ | refine Fork.nono (by assumption) ?_ | (refine Fork.yes ?_ ?_; focus (simp [andPD]; done)) | (refine Fork.no ?_ ?_; focus (simp [andPD]; done)) | refine Fork.neg (fun _ => ?_) (fun _ => ?_) | refine Fork.mk (fun _ => ?_) (fun _ => ?_) | refine Both.mk ?_ ?_ | (refine And.intro ?_ ?_; focus (first | (kernel_rfl; done) | (first | assumption | omega | (simp; done); done)))))); (all_goals (conv => whnf)))
          refine LeD.of (congrArg D.str ?_)
          rw [ht'.done hx', hb, decB, if_neg h0]
theorem Text_m {p : Prop} (i : Decidable p) (hz : p) (n : Nat) (h0 : n ≠ 0) (hn : (ws n).length ≤ 8796093022208) : FnP Tryz.prog gl 113 [.imm [.b p i, W n], iD 10] (.str (45 :: decB n)) := by
  have wa := wD_len (ws n)
  have ht := twin_d (gl := gl) (ws n) (by omega)
  have hl0 : ¬ (((wD (ws n)).length : Nat) : Int) = 0 := by rw [wa]; intro h; exact h0 (ws_nil.1 (List.eq_nil_of_length_eq_zero (Int.ofNat.inj h)))
  refine fnP_of_vc (nv := 9999) (cu := []) fits mixed Tryz.func113 rfl (by unfold HasBody; kernel_rfl) rfl ?_
  ((repeat' ((conv => whnf); (first | refine Fork.yes (by assumption) ?_ | refine Fork.no (by assumption) ?_ | refine Fork.nono (by assumption) ?_ | (refine Fork.yes ?_ ?_; focus (simp [andPD]; done)) | (refine Fork.no ?_ ?_; focus (simp [andPD]; done)) | refine Fork.neg (fun _ => ?_) (fun _ => ?_) | refine Fork.mk (fun _ => ?_) (fun _ => ?_) | refine Or.inl (Or.inl (Exists.intro _ (And.intro (by first | exact ht) ?_))) | refine Or.inl (Exists.intro _ (And.intro (by first | exact ht) ?_)) | refine Exists.intro _ (And.intro (by first | exact ht) ?_) | refine Both.mk ?_ ?_ | (refine And.intro ?_ ?_; focus (first | (kernel_rfl; done) | (first | assumption | omega | (simp; done); done)))))); (all_goals (conv => whnf)))
  refine ⟨{ σ := (Nat × List UInt8), fr := fun s => [(5, .c (.all 1 0)), (6, .c (.d (W s.1)))], ks := [0], L := fun s => [(0, .rows 1 (bD s.2) 5)], ex := 1, I := fun s => dl10 n = s.2 ++ dl10 s.1 ∧ s.1 ≤ n, μ := fun s => s.1 }, ⟨(n, []), ⟨rfl, Nat.le_refl _⟩, ?_⟩, ?_⟩
  · ((repeat' first | exact rfl | ((conv => whnf); first | done | exact True.intro | exact Or.inr (Or.inl rfl) | exact Or.inr (Or.inr (Or.inl ⟨rfl, _, _, rfl, by omega⟩)) | refine And.intro ?_ ?_)); (all_goals (conv => whnf)))
    exact ⟨1, 5, rfl, by decide, Nat.le_refl _⟩
  · rintro ⟨m, b⟩ ⟨h1, h2⟩
    simp only at h1 h2
    have hm : (ws m).length ≤ 8796093022208 := Nat.le_trans (ws_len_le (Nat.lt_of_le_of_lt h2 (lt_ws_len n))) hn
    have hs := bigSmall_d (gl := gl) m 10 (by decide) (by decide) hm
    have h10 : ((m % 10 : Nat) : Int) < 10 := by omega
    have hbl : b.length ≤ 87960930222080 := by
      have := dl10_max n
      rw [h1, List.length_append] at this
      omega
    ((repeat' ((conv => whnf); (first | refine Fork.yes (by assumption) ?_ | refine Fork.no (by assumption) ?_ | refine Fork.nono (by assumption) ?_ | (refine Fork.yes ?_ ?_; focus (simp [andPD]; done)) | (refine Fork.no ?_ ?_; focus (simp [andPD]; done)) | refine Fork.neg (fun _ => ?_) (fun _ => ?_) | refine Fork.mk (fun _ => ?_) (fun _ => ?_) | refine Or.inl (Or.inl (Exists.intro _ (And.intro (by first | exact hs) ?_))) | refine Or.inl (Exists.intro _ (And.intro (by first | exact hs) ?_)) | refine Exists.intro _ (And.intro (by first | exact hs) ?_) | refine Both.mk ?_ ?_ | (refine And.intro ?_ ?_; focus (first | (kernel_rfl; done) | (first | assumption | omega | (simp; done); done)))))); (all_goals (conv => whnf)))
    · rename_i hx
      have hm0 : m ≠ 0 := fun e => by
        have hx' : 0 < (((wD (ws m)).length : Nat) : Int) := hx
        rw [e, wD_len, ws_zero] at hx'
        exact absurd hx' (by decide)
      refine ⟨⟨rfl, by show ((bD b).length + 1) * 1 ≤ 140737488355328; unfold bD; rw [List.length_map]; omega, by show (bD b).length + 1 ≤ maxLen; unfold bD maxLen; rw [List.length_map]; omega⟩, ?_⟩
      ((repeat' ((conv => whnf); (first | refine Fork.yes (by assumption) ?_ | refine Fork.no (by assumption) ?_ | refine Fork.nono (by assumption) ?_ | (refine Fork.yes ?_ ?_; focus (simp [andPD]; done)) | (refine Fork.no ?_ ?_; focus (simp [andPD]; done)) | refine Fork.neg (fun _ => ?_) (fun _ => ?_) | refine Fork.mk (fun _ => ?_) (fun _ => ?_) | refine Both.mk ?_ ?_ | (refine And.intro ?_ ?_; focus (first | (kernel_rfl; done) | (first | assumption | omega | (simp; done); done)))))); (all_goals (conv => whnf)))
      refine ⟨(m / 10, b ++ [dig (m % 10)]), ⟨⟨?_, Nat.le_trans (Nat.div_le_self _ _) h2⟩, Nat.div_lt_self (Nat.pos_of_ne_zero hm0) (by decide)⟩, ?_⟩
      · rw [h1, dl10_pos hm0, List.append_assoc]; rfl
      · ((repeat' first | exact rfl | ((conv => whnf); first | done | exact True.intro | exact Or.inr (Or.inl rfl) | exact Or.inr (Or.inr (Or.inl ⟨rfl, _, _, rfl, by omega⟩)) | refine And.intro ?_ ?_)); (all_goals (conv => whnf)))
        show bD b ++ [[D.v (.int .u8 (IntKind.u8.wrap (IntKind.u32.wrap (48 + ((m % 10 : Nat) : Int)))))]] = bD (b ++ [dig (m % 10)])
        rw [IntWalk.u32_in _ (by omega), IntWalk.u8_in _ (by omega), bD_app, dig_nat (Nat.mod_lt m (by decide))]
    · rename_i hx
      have hm0 : m = 0 := Classical.byContradiction fun e => hx (by
        show 0 < (((wD (ws m)).length : Nat) : Int)
        rw [wD_len]
        have : (ws m).length ≠ 0 := fun h => e (ws_nil.1 (List.eq_nil_of_length_eq_zero h))
        omega)
      have hb : b = dl10 n := by rw [h1, hm0, dl10_zero, List.append_nil]
      subst hm0
      have hb0 : b ≠ [] := by rw [hb, dl10_pos h0]; exact List.cons_ne_nil _ _
      have hbp : 0 < b.length := List.length_pos_iff.2 hb0
      have hbl2 : b.length ≤ 87960930222080 := hbl
      obtain ⟨b2, e2⟩ : ∃ b2, b2 = b ++ [45] := ⟨_, rfl⟩
      have e3 : bD b2 = bD b ++ [[D.v (.int .u8 45)]] := by rw [e2, bD_app]; rfl
      have hbl3 : b2.length = b.length + 1 := by rw [e2, List.length_append]; rfl
      refine ⟨⟨rfl, by show ((bD b).length + 1) * 1 ≤ 140737488355328; unfold bD; rw [List.length_map]; omega, by show (bD b).length + 1 ≤ maxLen; unfold bD maxLen; rw [List.length_map]; omega⟩, ?_⟩
      ((repeat' ((conv => whnf); (first | refine Fork.yes (by assumption) ?_ | refine Fork.no (by assumption) ?_ | refine Fork.nono (by assumption) ?_ | (refine Fork.yes ?_ ?_; focus (simp [andPD]; done)) | (refine Fork.no ?_ ?_; focus (simp [andPD]; done)) | refine Fork.neg (fun _ => ?_) (fun _ => ?_) | refine Fork.mk (fun _ => ?_) (fun _ => ?_) | refine Both.mk ?_ ?_ | (refine And.intro ?_ ?_; focus (first | (kernel_rfl; done) | (first | assumption | omega | (simp; done); done)))))); (all_goals (conv => whnf)))
      refine ⟨{ σ := (Nat × List UInt8), fr := fun s => [(8, .c (.d (iD s.1))), (9, .c (.d (iD ((b2.length - 1 - s.1 : Nat) : Int))))], ks := [0], L := fun s => [(0, .rows 1 (bD s.2) 5)], ex := 0, I := fun s => Turned b2 s.2 s.1, μ := fun s => b2.length - s.1 }, ⟨(0, b2), Turned.zero b2, ?_⟩, ?_⟩
      · ((repeat' first | exact rfl | ((conv => whnf); first | done | exact True.intro | exact Or.inr (Or.inl rfl) | exact Or.inr (Or.inr (Or.inl ⟨rfl, _, _, rfl, by omega⟩)) | refine And.intro ?_ ?_)); (all_goals (conv => whnf)))
        · refine ceq ?_
          show IntKind.i64.wrap ((((bD b ++ [[D.v (.int .u8 45)]]).length : Nat) : Int) - 1) = ((b2.length - 1 - 0 : Nat) : Int)
          rw [← e3, bD_len, wrapI (by omega)]; omega
        · exact e3.symm
      · rintro ⟨k, p⟩ ht
        have ht' : Turned b2 p k := ht
        obtain ⟨t1, t2, _⟩ := id ht'
        have hki : 0 ≤ (k : Int) ∧ (k : Int) < ((bD p).length : Nat) := by rw [bD_len]; omega
        have hji : 0 ≤ ((b2.length - 1 - k : Nat) : Int) ∧ ((b2.length - 1 - k : Nat) : Int) < ((bD p).length : Nat) := by rw [bD_len]; omega
        have hk : k < p.length := by omega
        have hj : b2.length - 1 - k < p.length := by omega
        have hji2 : 0 ≤ ((b2.length - 1 - k : Nat) : Int) ∧ ((b2.length - 1 - k : Nat) : Int) < (((bD p).set ((k : Nat) : Int).toNat (u8D p[b2.length - 1 - k])).length : Nat) := by rw [List.length_set]; exact hji
        ((repeat' ((conv => whnf); (first | refine Fork.yes (by assumption) ?_ | refine Fork.no (by assumption) ?_ | refine Fork.nono (by assumption) ?_ | (refine Fork.yes ?_ ?_; focus (simp [andPD]; done)) | (refine Fork.no ?_ ?_; focus (simp [andPD]; done)) | refine Fork.neg (fun _ => ?_) (fun _ => ?_) | refine Fork.mk (fun _ => ?_) (fun _ => ?_) | refine Both.mk ?_ ?_ | (refine And.intro ?_ ?_; focus (first | (kernel_rfl; done) | (first | exact hki | exact hji | exact hji2 | assumption | omega | (simp; done); done)))))); (all_goals (conv => whnf)))
        · rename_i hx
          have hx' : k < b2.length - 1 - k := Int.ofNat_lt.1 hx
          have hj2 : b2.length - 1 - k < (p.set k p[b2.length - 1 - k]).length := by rw [List.length_set]; exact hj
          have hg3 : ((bD p).set ((k : Nat) : Int).toNat (u8D p[b2.length - 1 - k]))[((b2.length - 1 - k : Nat) : Int).toNat]? = some (u8D (p.set k p[b2.length - 1 - k])[b2.length - 1 - k]) := by rw [bset]; exact bget hj2
          refine ⟨_, bget hk, ?_⟩
          ((repeat' ((conv => whnf); (first | refine Fork.yes (by assumption) ?_ | refine Fork.no (by assumption) ?_ | refine Fork.nono (by assumption) ?_ | (refine Fork.yes ?_ ?_; focus (simp [andPD]; done)) | (refine Fork.no ?_ ?_; focus (simp [andPD]; done)) | refine Fork.neg (fun _ => ?_) (fun _ => ?_) | refine Fork.mk (fun _ => ?_) (fun _ => ?_) | refine Both.mk ?_ ?_ | (refine And.intro ?_ ?_; focus (first | (kernel_rfl; done) | (first | exact hki | exact hji | exact hji2 | assumption | omega | (simp; done); done)))))); (all_goals (conv => whnf)))
          refine ⟨_, bget hj, ?_⟩
          ((repeat' ((conv => whnf); (first | refine Fork.yes (by assumption) ?_ | refine Fork.no (by assumption) ?_ | refine Fork.nono (by assumption) ?_ | (refine Fork.yes ?_ ?_; focus (simp [andPD]; done)) | (refine Fork.no ?_ ?_; focus (simp [andPD]; done)) | refine Fork.neg (fun _ => ?_) (fun _ => ?_) | refine Fork.mk (fun _ => ?_) (fun _ => ?_) | refine Both.mk ?_ ?_ | (refine And.intro ?_ ?_; focus (first | (kernel_rfl; done) | (first | exact hki | exact hji | exact hji2 | assumption | omega | (simp; done); done)))))); (all_goals (conv => whnf)))
          refine ⟨_, bget hk, ?_⟩
          ((repeat' ((conv => whnf); (first | refine Fork.yes (by assumption) ?_ | refine Fork.no (by assumption) ?_ | refine Fork.nono (by assumption) ?_ | (refine Fork.yes ?_ ?_; focus (simp [andPD]; done)) | (refine Fork.no ?_ ?_; focus (simp [andPD]; done)) | refine Fork.neg (fun _ => ?_) (fun _ => ?_) | refine Fork.mk (fun _ => ?_) (fun _ => ?_) | refine Both.mk ?_ ?_ | (refine And.intro ?_ ?_; focus (first | (kernel_rfl; done) | (first | exact hki | exact hji | exact hji2 | assumption | omega | (simp; done); done)))))); (all_goals (conv => whnf)))
          refine ⟨_, hg3, ?_⟩
          ((repeat' ((conv => whnf); (first | refine Fork.yes (by assumption) ?_ | refine Fork.no (by assumption) ?_ | refine Fork.nono (by assumption) ?_ | (refine Fork.yes ?_ ?_; focus (simp [andPD]; done)) | (refine Fork.no ?_ ?_; focus (simp [andPD]; done)) | refine Fork.neg (fun _ => ?_) (fun _ => ?_) | refine Fork.mk (fun _ => ?_) (fun _ => ?_) | refine Both.mk ?_ ?_ | (refine And.intro ?_ ?_; focus (first | (kernel_rfl; done) | (first | exact hki | exact hji | exact hji2 | assumption | omega | (simp; done); done)))))); (all_goals (conv => whnf)))
          refine ⟨(k + 1, (p.set k p[b2.length - 1 - k]).set (b2.length - 1 - k) p[k]), ⟨ht'.step hx' hk hj, by show b2.length - (k + 1) < b2.length - k; omega⟩, ?_⟩
          ((repeat' first | exact rfl | ((conv => whnf); first | done | exact True.intro | exact Or.inr (Or.inl rfl) | exact Or.inr (Or.inr (Or.inl ⟨rfl, _, _, rfl, by omega⟩)) | refine And.intro ?_ ?_)); (all_goals (conv => whnf)))
          · exact ceq (show IntKind.i64.wrap ((k : Int) + 1) = ((k + 1 : Nat) : Int) by rw [wrapI (by omega)]; rfl)
          · exact ceq (show IntKind.i64.wrap (((b2.length - 1 - k : Nat) : Int) - 1) = ((b2.length - 1 - (k + 1) : Nat) : Int) by rw [wrapI (by omega)]; omega)
          · show List.set (List.set (bD p) ((k : Nat) : Int).toNat (u8D p[b2.length - 1 - k])) ((b2.length - 1 - k : Nat) : Int).toNat (u8D p[k]) = bD ((p.set k p[b2.length - 1 - k]).set (b2.length - 1 - k) p[k])
            rw [bset, bset]
        · rename_i hx
          have hx' : ¬ k < b2.length - 1 - k := fun h => hx (Int.ofNat_lt.2 h)
          refine ⟨p, rfl, ?_⟩
          ((repeat' ((conv => whnf); (first | refine Fork.yes (by assumption) ?_ | refine Fork.no (by assumption) ?_ | refine Fork.nono (by assumption) ?_ | (refine Fork.yes ?_ ?_; focus (simp [andPD]; done)) | (refine Fork.no ?_ ?_; focus (simp [andPD]; done)) | refine Fork.neg (fun _ => ?_) (fun _ => ?_) | refine Fork.mk (fun _ => ?_) (fun _ => ?_) | refine Both.mk ?_ ?_ | (refine And.intro ?_ ?_; focus (first | (kernel_rfl; done) | (first | assumption | omega | (simp; done); done)))))); (all_goals (conv => whnf)))
          refine LeD.of (congrArg D.str ?_)
          rw [ht'.done hx', e2, hb, decB, if_neg h0, List.reverse_append]; rfl
/-- A number's digits, behind a minus if need be. -/
def decZ (z : Int) : List UInt8 := if z < 0 then 45 :: decB z.natAbs else decB z.natAbs
theorem Digits_z {z : Int} (hz : okI z) : FnP Tryz.prog gl 52 [iD z] (.str (decZ z)) := by
  have h2 := NewInt_z (gl := gl) hz
  have h3 := ws2 (n := z.natAbs) (by omega)
  have h4 : FnP Tryz.prog gl 113 [.imm (zD z), iD 10] (.str (decZ z)) := by
    unfold decZ
    by_cases h : z < 0
    · rw [if_pos h]; exact Text_m _ h _ (by omega) (by omega)
    · rw [if_neg h]; exact Text_y _ h _ (by omega)
  have h5 : FnP Tryz.prog gl 81 [.imm (zD z)] (.str (decZ z)) := by
    refine fnP_of_vc (nv := 9999) (cu := []) fits mixed Tryz.func81 rfl (by unfold HasBody; kernel_rfl) rfl ?_
    ((repeat' ((conv => whnf); (first | refine Fork.yes (by assumption) ?_ | refine Fork.no (by assumption) ?_ | refine Fork.nono (by assumption) ?_ | (refine Fork.yes ?_ ?_; focus (simp [andPD]; done)) | (refine Fork.no ?_ ?_; focus (simp [andPD]; done)) | refine Fork.neg (fun _ => ?_) (fun _ => ?_) | refine Fork.mk (fun _ => ?_) (fun _ => ?_) | refine Or.inl (Or.inl (Exists.intro _ (And.intro (by first | exact h4) ?_))) | refine Or.inl (Exists.intro _ (And.intro (by first | exact h4) ?_)) | refine Exists.intro _ (And.intro (by first | exact h4) ?_) | refine Both.mk ?_ ?_ | (refine And.intro ?_ ?_; focus (first | (kernel_rfl; done) | (first | assumption | omega | (simp; done); done)))))); (all_goals (conv => whnf)))
    exact LeD.rfl
  refine fnP_of_vc (nv := 9999) (cu := []) fits mixed Tryz.func52 rfl (by unfold HasBody; kernel_rfl) rfl ?_
  ((repeat' ((conv => whnf); (first | refine Fork.yes (by assumption) ?_ | refine Fork.no (by assumption) ?_ | refine Fork.nono (by assumption) ?_ | (refine Fork.yes ?_ ?_; focus (simp [andPD]; done)) | (refine Fork.no ?_ ?_; focus (simp [andPD]; done)) | refine Fork.neg (fun _ => ?_) (fun _ => ?_) | refine Fork.mk (fun _ => ?_) (fun _ => ?_) | refine Or.inl (Or.inl (Exists.intro _ (And.intro (by first | exact h5 | exact h2) ?_))) | refine Or.inl (Exists.intro _ (And.intro (by first | exact h5 | exact h2) ?_)) | refine Exists.intro _ (And.intro (by first | exact h5 | exact h2) ?_) | refine Both.mk ?_ ?_ | (refine And.intro ?_ ?_; focus (first | (kernel_rfl; done) | (first | assumption | omega | (simp; done); done)))))); (all_goals (conv => whnf)))
  exact LeD.rfl
theorem dl10_rev (n : Nat) : n ≠ 0 → (dl10 n).reverse = Lib.decDigits n := by
  induction n using Nat.strongRecOn with
  | ind n ih =>
    intro h
    rw [dl10_pos h, List.reverse_cons]
    by_cases h10 : n < 10
    · rw [show n / 10 = 0 by omega, dl10_zero, decDigits_small h10, show n % 10 = n by omega]; rfl
    · rw [ih (n / 10) (by omega) (by omega), decDigits_big h10]; rfl
theorem decB_eq (n : Nat) : decB n = Lib.decDigits n := by
  unfold decB
  split
  · subst n; rw [decDigits_small (by omega)]; rfl
  · rename_i h; exact dl10_rev n h
theorem decZ_eq (z : Int) : decZ z = Lib.itoa z := by
  unfold decZ Lib.itoa
  rw [decB_eq]
  split
  · rfl
  · rw [show z.natAbs = z.toNat by omega]
end Go.Proofs.YtbkhfmgdnnaaoaaGreatDoor
