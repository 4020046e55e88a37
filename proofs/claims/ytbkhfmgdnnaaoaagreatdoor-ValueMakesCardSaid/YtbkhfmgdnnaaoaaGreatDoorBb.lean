/- Proved: what addition and multiplication of rows of words return. No condition. -/
import Derived.Test.YtbkhfmgdnnaaoaaGreatDoorBa
namespace Go.Proofs.YtbkhfmgdnnaaoaaGreatDoor
open Go Go.EYtbkhfmgdnnaaoaaGreatDoor
set_option maxRecDepth 100000
variable {gl : List (Nat × List D)}
theorem val_take_succ {l : List Nat} {i : Nat} (h : i < l.length) : val (l.take (i + 1)) = val (l.take i) + B32 ^ i * l[i] := by
  rw [List.take_succ_eq_append_getElem h, val_app, List.length_take, Nat.min_eq_left (by omega)]
  simp [val]
theorem val_take_ge {l : List Nat} {i : Nat} (h : l.length ≤ i) : val (l.take i) = val l := by rw [List.take_of_length_le h]
theorem wD_app (l m : List Nat) : wD (l ++ m) = wD l ++ wD m := List.map_append ..
theorem wD_rep (k : Nat) : wD (List.replicate k 0) = List.replicate k [u32D 0] := List.map_replicate ..
theorem wset (l : List Nat) (i x : Nat) : (wD l).set ((i : Nat) : Int).toNat [.v (.int .u32 (x : Int))] = wD (l.set i x) := by
  rw [Int.toNat_natCast]; exact (List.map_set ..).symm
theorem set_rep {r : List Nat} {k : Nat} (x : Nat) : (r ++ List.replicate (k + 1) 0).set r.length x = (r ++ [x]) ++ List.replicate k 0 := by
  rw [List.set_append_right _ _ (Nat.le_refl _), Nat.sub_self, List.replicate_succ, List.set_cons_zero, List.append_assoc]; rfl
theorem lo32 {x : Nat} : IntKind.u32.wrap (x : Int) = ((x % B32 : Nat) : Int) := by rw [IntKind.wrap_u32]; simp
theorem hi32 {x : Nat} : (x : Int).fdiv (2 ^ min (Int.toNat 32) IntKind.u64.bits) = ((x / B32 : Nat) : Int) := by
  rw [show (2 : Int) ^ min (Int.toNat 32) IntKind.u64.bits = 4294967296 from by decide, Int.fdiv_eq_ediv_of_nonneg _ (by decide)]; rfl
theorem w64 {x : Nat} (h : x < 18446744073709551616) : IntKind.u64.wrap (x : Int) = x := IntWalk.u64_in _ (by omega)
theorem add_step {r : List Nat} {i c t a b v w v' w' : Nat} (h1 : r.length = i) (h5 : val r + B32 ^ i * c = v + w) (ht : t = c + a + b) (hv : v' = v + B32 ^ i * a) (hw : w' = w + B32 ^ i * b) : val (r ++ [t % B32]) + B32 ^ (i + 1) * (t / B32) = v' + w' := by
  rw [val_app, h1, show val [t % B32] = t % B32 by show t % B32 + B32 * 0 = _; omega, Nat.pow_succ, Nat.mul_assoc, Nat.add_assoc, ← Nat.mul_add, Nat.mod_add_div, ht, hv, hw, Nat.mul_add, Nat.mul_add]
  omega
theorem dig_app {r : List Nat} {t : Nat} (h : ∀ d ∈ r, d < B32) : ∀ d ∈ r ++ [t % B32], d < B32 := by
  intro d hd
  rcases List.mem_append.1 hd with hd | hd
  · exact h d hd
  · rw [List.mem_singleton.1 hd]; exact Nat.mod_lt _ (by decide)
theorem add_ge (m n : Nat) (hm : (ws m).length ≤ 35184372088832) (hle : (ws n).length ≤ (ws m).length) : FnP Tryz.prog gl 95 [W m, W n] (W (m + n)) := by
  have wa := wD_len (ws m)
  have wb := wD_len (ws n)
  have e1 : IntKind.i64.wrap ((((wD (ws m)).length : Nat) : Int) + 1) = (((ws m).length + 1 : Nat) : Int) := by rw [wa, wrapI (by omega)]; omega
  have hlt : ¬ ((((wD (ws m)).length : Nat) : Int) < (((wD (ws n)).length : Nat) : Int)) := by rw [wa, wb]; omega
  refine fnP_of_vc (nv := 9999) (cu := []) fits mixed Tryz.func95 rfl (by unfold HasBody; kernel_rfl) rfl ?_
  ((repeat' ((conv => whnf); (first | refine Fork.yes (by assumption) ?_ | refine Fork.no (by assumption) ?_ | refine Fork.nono (by assumption) ?_ | (refine Fork.yes ?_ ?_; focus (simp [andPD]; done)) | (refine Fork.no ?_ ?_; focus (simp [andPD]; done)) | refine Fork.neg (fun _ => ?_) (fun _ => ?_) | refine Fork.mk (fun _ => ?_) (fun _ => ?_) | (rw [e1]) | refine Both.mk ?_ ?_ | (refine And.intro ?_ ?_; focus (first | (kernel_rfl; done) | (first | omega | (simp; done); done)))))); (all_goals (conv => whnf)))
  refine ⟨⟨by omega, by omega, by show (4 : Int) * _ ≤ _; omega, by omega⟩, ?_⟩
  ((repeat' ((conv => whnf); (first | refine Fork.yes (by assumption) ?_ | refine Fork.no (by assumption) ?_ | refine Fork.nono (by assumption) ?_ | (refine Fork.yes ?_ ?_; focus (simp [andPD]; done)) | (refine Fork.no ?_ ?_; focus (simp [andPD]; done)) | refine Fork.neg (fun _ => ?_) (fun _ => ?_) | refine Fork.mk (fun _ => ?_) (fun _ => ?_) | refine Both.mk ?_ ?_ | (refine And.intro ?_ ?_; focus (first | (kernel_rfl; done) | (first | omega | (simp; done); done)))))); (all_goals (conv => whnf)))
  refine ⟨{ σ := (Nat × List Nat × Nat), fr := fun s => [(6, .c (.d (.v (.int .u64 s.2.2)))), (7, .c (.d (iD s.1)))], ks := [0], L := fun s => [(0, .rows 1 (wD (s.2.1 ++ List.replicate ((ws m).length + 1 - s.1) 0)) 123)], ex := 0, I := fun s => s.2.1.length = s.1 ∧ s.1 ≤ (ws m).length ∧ (∀ d ∈ s.2.1, d < B32) ∧ s.2.2 ≤ 1 ∧ val s.2.1 + B32 ^ s.1 * s.2.2 = val ((ws m).take s.1) + val ((ws n).take s.1), μ := fun s => (ws m).length - s.1 }, ⟨(0, [], 0), ⟨rfl, Nat.zero_le _, by simp, by simp, rfl⟩, ?_⟩, ?_⟩
  · ((repeat' first | exact rfl | ((conv => whnf); first | done | exact True.intro | exact Or.inr (Or.inl rfl) | exact Or.inr (Or.inr (Or.inl ⟨rfl, _, _, rfl, by omega⟩)) | refine And.intro ?_ ?_)); (all_goals (conv => whnf)))
    show List.replicate (((ws m).length + 1 : Nat) : Int).toNat _ = wD (List.replicate ((ws m).length + 1) 0)
    rw [wD_rep, Int.toNat_natCast]
    rfl
  · rintro ⟨i, r, c⟩ ⟨h1, h2, h3, h4, h5⟩
    simp only at h1 h2 h3 h4 h5
    have hil : i < (r ++ List.replicate ((ws m).length + 1 - i) 0).length := by simp; omega
    have hil' : (((i : Nat) : Int)) < ((wD (r ++ List.replicate ((ws m).length + 1 - i) 0)).length : Nat) := by rw [wD_len]; exact Int.ofNat_lt.2 hil
    have h0i := Int.natCast_nonneg i
    ((repeat' ((conv => whnf); (first | refine Fork.yes (by assumption) ?_ | refine Fork.no (by assumption) ?_ | refine Fork.nono (by assumption) ?_ | (refine Fork.yes ?_ ?_; focus (simp [andPD]; done)) | (refine Fork.no ?_ ?_; focus (simp [andPD]; done)) | refine Fork.neg (fun _ => ?_) (fun _ => ?_) | refine Fork.mk (fun _ => ?_) (fun _ => ?_) | refine Both.mk ?_ ?_ | (refine And.intro ?_ ?_; focus (first | (kernel_rfl; done) | (first | omega | (simp; done); done)))))); (all_goals (conv => whnf)))
    · rename_i hx
      have hia : i < (ws m).length := by rw [wa] at hx; exact Int.ofNat_lt.1 hx
      have ha := ws_lt m _ (List.getElem_mem hia)
      refine ⟨_, wget hia, ?_⟩
      have ei : IntKind.i64.wrap ((i : Int) + 1) = ((i + 1 : Nat) : Int) := by rw [wrapI (by omega)]; rfl
      have hrow : ∀ x : Nat, (wD (r ++ List.replicate ((ws m).length + 1 - i) 0)).set ((i : Nat) : Int).toNat [.v (.int .u32 (x : Int))] = wD (r ++ [x] ++ List.replicate ((ws m).length + 1 - (i + 1)) 0) := fun x => by
        rw [wset, show (ws m).length + 1 - i = (ws m).length + 1 - (i + 1) + 1 by omega, ← h1, set_rep]
      ((repeat' ((conv => whnf); (first | refine Fork.yes (by assumption) ?_ | refine Fork.no (by assumption) ?_ | refine Fork.nono (by assumption) ?_ | (refine Fork.yes ?_ ?_; focus (simp [andPD]; done)) | (refine Fork.no ?_ ?_; focus (simp [andPD]; done)) | refine Fork.neg (fun _ => ?_) (fun _ => ?_) | refine Fork.mk (fun _ => ?_) (fun _ => ?_) | refine Both.mk ?_ ?_ | (refine And.intro ?_ ?_; focus (first | (kernel_rfl; done) | (first | omega | (simp; done); done)))))); (all_goals (conv => whnf)))
      · rename_i hy
        have hib : i < (ws n).length := by rw [wb] at hy; exact Int.ofNat_lt.1 hy
        have hb := ws_lt n _ (List.getElem_mem hib)
        refine ⟨_, wget hib, ?_⟩
        ((repeat' ((conv => whnf); (first | refine Fork.yes (by assumption) ?_ | refine Fork.no (by assumption) ?_ | refine Fork.nono (by assumption) ?_ | (refine Fork.yes ?_ ?_; focus (simp [andPD]; done)) | (refine Fork.no ?_ ?_; focus (simp [andPD]; done)) | refine Fork.neg (fun _ => ?_) (fun _ => ?_) | refine Fork.mk (fun _ => ?_) (fun _ => ?_) | refine Both.mk ?_ ?_ | (refine And.intro ?_ ?_; focus (first | (kernel_rfl; done) | (first | omega | (simp; done); done)))))); (all_goals (conv => whnf)))
        refine ⟨⟨h0i, hil'⟩, ?_⟩
        ((repeat' ((conv => whnf); (first | refine Fork.yes (by assumption) ?_ | refine Fork.no (by assumption) ?_ | refine Fork.nono (by assumption) ?_ | (refine Fork.yes ?_ ?_; focus (simp [andPD]; done)) | (refine Fork.no ?_ ?_; focus (simp [andPD]; done)) | refine Fork.neg (fun _ => ?_) (fun _ => ?_) | refine Fork.mk (fun _ => ?_) (fun _ => ?_) | refine Both.mk ?_ ?_ | (refine And.intro ?_ ?_; focus (first | (kernel_rfl; done) | (first | omega | (simp; done); done)))))); (all_goals (conv => whnf)))
        refine ⟨_, wget hil, ?_⟩
        ((repeat' ((conv => whnf); (first | refine Fork.yes (by assumption) ?_ | refine Fork.no (by assumption) ?_ | refine Fork.nono (by assumption) ?_ | (refine Fork.yes ?_ ?_; focus (simp [andPD]; done)) | (refine Fork.no ?_ ?_; focus (simp [andPD]; done)) | refine Fork.neg (fun _ => ?_) (fun _ => ?_) | refine Fork.mk (fun _ => ?_) (fun _ => ?_) | refine Both.mk ?_ ?_ | (refine And.intro ?_ ?_; focus (first | (kernel_rfl; done) | (first | omega | (simp; done); done)))))); (all_goals (conv => whnf)))
        obtain ⟨t, ht⟩ : ∃ t, t = c + (ws m)[i] + (ws n)[i] := ⟨_, rfl⟩
        have et : IntKind.u64.wrap (IntKind.u64.wrap ((c : Int) + IntKind.u64.wrap ((ws m)[i] : Int)) + IntKind.u64.wrap ((ws n)[i] : Int)) = (t : Int) := by
          simp only [B32] at ha hb
          rw [w64 (x := (ws m)[i]) (by omega), w64 (x := (ws n)[i]) (by omega), IntWalk.u64_in ((c : Int) + ((ws m)[i] : Nat)) (by omega), IntWalk.u64_in _ (by omega), ht]; omega
        refine ⟨(i + 1, r ++ [t % B32], t / B32), ⟨⟨by simp [h1], hia, dig_app h3, by simp only [B32] at *; omega, add_step h1 h5 ht (val_take_succ hia) (val_take_succ hib)⟩, by show (ws m).length - (i + 1) < (ws m).length - i; omega⟩, ?_⟩
        ((repeat' first | exact rfl | ((conv => whnf); first | done | exact True.intro | exact Or.inr (Or.inl rfl) | exact Or.inr (Or.inr (Or.inl ⟨rfl, _, _, rfl, by omega⟩)) | refine And.intro ?_ ?_)); (all_goals (conv => whnf)))
        · exact ceqK (show (IntKind.u64.wrap (IntKind.u64.wrap ((c : Int) + IntKind.u64.wrap ((ws m)[i] : Int)) + IntKind.u64.wrap ((ws n)[i] : Int))).fdiv (2 ^ min (Int.toNat 32) IntKind.u64.bits) = ((t / B32 : Nat) : Int) by rw [et, hi32])
        · exact ceq ei
        · refine Eq.trans ?_ (hrow (t % B32))
          show List.set _ _ [D.v (.int .u32 (IntKind.u32.wrap (IntKind.u64.wrap (IntKind.u64.wrap ((c : Int) + IntKind.u64.wrap ((ws m)[i] : Int)) + IntKind.u64.wrap ((ws n)[i] : Int)))))] = _
          rw [et, lo32]
      · rename_i hy
        have hib : (ws n).length ≤ i := by rw [wb] at hy; exact Nat.le_of_not_lt fun h => hy (Int.ofNat_lt.2 h)
        refine ⟨⟨h0i, hil'⟩, ?_⟩
        ((repeat' ((conv => whnf); (first | refine Fork.yes (by assumption) ?_ | refine Fork.no (by assumption) ?_ | refine Fork.nono (by assumption) ?_ | (refine Fork.yes ?_ ?_; focus (simp [andPD]; done)) | (refine Fork.no ?_ ?_; focus (simp [andPD]; done)) | refine Fork.neg (fun _ => ?_) (fun _ => ?_) | refine Fork.mk (fun _ => ?_) (fun _ => ?_) | refine Both.mk ?_ ?_ | (refine And.intro ?_ ?_; focus (first | (kernel_rfl; done) | (first | omega | (simp; done); done)))))); (all_goals (conv => whnf)))
        refine ⟨_, wget hil, ?_⟩
        ((repeat' ((conv => whnf); (first | refine Fork.yes (by assumption) ?_ | refine Fork.no (by assumption) ?_ | refine Fork.nono (by assumption) ?_ | (refine Fork.yes ?_ ?_; focus (simp [andPD]; done)) | (refine Fork.no ?_ ?_; focus (simp [andPD]; done)) | refine Fork.neg (fun _ => ?_) (fun _ => ?_) | refine Fork.mk (fun _ => ?_) (fun _ => ?_) | refine Both.mk ?_ ?_ | (refine And.intro ?_ ?_; focus (first | (kernel_rfl; done) | (first | omega | (simp; done); done)))))); (all_goals (conv => whnf)))
        obtain ⟨t, ht⟩ : ∃ t, t = c + (ws m)[i] + 0 := ⟨_, rfl⟩
        have et : IntKind.u64.wrap ((c : Int) + IntKind.u64.wrap ((ws m)[i] : Int)) = (t : Int) := by
          simp only [B32] at ha
          rw [w64 (by omega), IntWalk.u64_in (_ + _) (by omega), ht]; omega
        refine ⟨(i + 1, r ++ [t % B32], t / B32), ⟨⟨by simp [h1], hia, dig_app h3, by simp only [B32] at *; omega, add_step h1 h5 ht (val_take_succ hia) (by rw [val_take_ge hib, val_take_ge (by omega)]; omega)⟩, by show (ws m).length - (i + 1) < (ws m).length - i; omega⟩, ?_⟩
        ((repeat' first | exact rfl | ((conv => whnf); first | done | exact True.intro | exact Or.inr (Or.inl rfl) | exact Or.inr (Or.inr (Or.inl ⟨rfl, _, _, rfl, by omega⟩)) | refine And.intro ?_ ?_)); (all_goals (conv => whnf)))
        · exact ceqK (show (IntKind.u64.wrap ((c : Int) + IntKind.u64.wrap ((ws m)[i] : Int))).fdiv (2 ^ min (Int.toNat 32) IntKind.u64.bits) = ((t / B32 : Nat) : Int) by rw [et, hi32])
        · exact ceq ei
        · refine Eq.trans ?_ (hrow (t % B32))
          show List.set _ _ [D.v (.int .u32 (IntKind.u32.wrap (IntKind.u64.wrap ((c : Int) + IntKind.u64.wrap ((ws m)[i] : Int)))))] = _
          rw [et, lo32]
    · rename_i hx
      have hi : i = (ws m).length := by rw [wa] at hx; exact Nat.le_antisymm h2 (Nat.le_of_not_lt fun h => hx (Int.ofNat_lt.2 h))
      subst hi
      refine ⟨⟨Int.natCast_nonneg _, by rw [wa]; exact hil'⟩, ?_⟩
      ((repeat' ((conv => whnf); (first | refine Fork.yes (by assumption) ?_ | refine Fork.no (by assumption) ?_ | refine Fork.nono (by assumption) ?_ | (refine Fork.yes ?_ ?_; focus (simp [andPD]; done)) | (refine Fork.no ?_ ?_; focus (simp [andPD]; done)) | refine Fork.neg (fun _ => ?_) (fun _ => ?_) | refine Fork.mk (fun _ => ?_) (fun _ => ?_) | refine Both.mk ?_ ?_ | (refine And.intro ?_ ?_; focus (first | (kernel_rfl; done) | (first | omega | (simp; done); done)))))); (all_goals (conv => whnf)))
      have hil2 : (wD (ws m)).length < (r ++ List.replicate ((ws m).length + 1 - (ws m).length) 0).length := by rw [wa]; exact hil
      refine ⟨_, wget hil2, ?_⟩
      have hl : (r ++ List.replicate ((ws m).length + 1 - (ws m).length) 0).set (ws m).length c = r ++ [c] := by
        rw [show (ws m).length + 1 - (ws m).length = 0 + 1 by omega, ← h1, set_rep]; simp
      have hlow : IntKind.u32.wrap (c : Int) = (c : Int) := IntWalk.u32_in _ (by omega)
      have ht := trim_d (gl := gl) (r ++ [c]) (fun d hd => by
        rcases List.mem_append.1 hd with hd | hd
        · exact h3 d hd
        · rw [List.mem_singleton.1 hd]; simp only [B32]; omega) (by simp [h1]; unfold maxLen; omega)
      have hv : val (r ++ [c]) = m + n := by
        rw [val_app, h1, show val [c] = c by show c + B32 * 0 = c; omega, h5, val_take_ge (Nat.le_refl _), val_take_ge (by omega), val_ws, val_ws]
      rw [hv, ← hl, ← wset] at ht
      have ht2 : FnP Tryz.prog gl 123 [.lst 1 ((wD (r ++ List.replicate ((ws m).length + 1 - (ws m).length) 0)).set ((((wD (ws m)).length : Nat) : Int)).toNat [.v (.int .u32 (IntKind.u32.wrap (c : Int)))])] (W (m + n)) := by
        rw [hlow, wa]; exact ht
      ((repeat' ((conv => whnf); (first | refine Fork.yes (by assumption) ?_ | refine Fork.no (by assumption) ?_ | refine Fork.nono (by assumption) ?_ | (refine Fork.yes ?_ ?_; focus (simp [andPD]; done)) | (refine Fork.no ?_ ?_; focus (simp [andPD]; done)) | refine Fork.neg (fun _ => ?_) (fun _ => ?_) | refine Fork.mk (fun _ => ?_) (fun _ => ?_) | refine Or.inr (Exists.intro _ (And.intro (by first | exact ht2) ?_)) | refine Both.mk ?_ ?_ | (refine And.intro ?_ ?_; focus (first | (kernel_rfl; done) | (first | omega | (simp; done); done)))))); (all_goals (conv => whnf)))
      exact LeD.rfl
theorem add_lt (m n : Nat) (hm : (ws m).length ≤ 35184372088832) (hlt' : (ws n).length < (ws m).length) : FnP Tryz.prog gl 95 [W n, W m] (W (m + n)) := by
  have hle : (ws n).length ≤ (ws m).length := by omega
  have wa := wD_len (ws m)
  have wb := wD_len (ws n)
  have e1 : IntKind.i64.wrap ((((wD (ws m)).length : Nat) : Int) + 1) = (((ws m).length + 1 : Nat) : Int) := by rw [wa, wrapI (by omega)]; omega
  have hlt : (((wD (ws n)).length : Nat) : Int) < (((wD (ws m)).length : Nat) : Int) := by rw [wa, wb]; omega
  refine fnP_of_vc (nv := 9999) (cu := []) fits mixed Tryz.func95 rfl (by unfold HasBody; kernel_rfl) rfl ?_
  ((repeat' ((conv => whnf); (first | refine Fork.yes (by assumption) ?_ | refine Fork.no (by assumption) ?_ | refine Fork.nono (by assumption) ?_ | (refine Fork.yes ?_ ?_; focus (simp [andPD]; done)) | (refine Fork.no ?_ ?_; focus (simp [andPD]; done)) | refine Fork.neg (fun _ => ?_) (fun _ => ?_) | refine Fork.mk (fun _ => ?_) (fun _ => ?_) | (rw [e1]) | refine Both.mk ?_ ?_ | (refine And.intro ?_ ?_; focus (first | (kernel_rfl; done) | (first | omega | (simp; done); done)))))); (all_goals (conv => whnf)))
  refine ⟨⟨by omega, by omega, by show (4 : Int) * _ ≤ _; omega, by omega⟩, ?_⟩
  ((repeat' ((conv => whnf); (first | refine Fork.yes (by assumption) ?_ | refine Fork.no (by assumption) ?_ | refine Fork.nono (by assumption) ?_ | (refine Fork.yes ?_ ?_; focus (simp [andPD]; done)) | (refine Fork.no ?_ ?_; focus (simp [andPD]; done)) | refine Fork.neg (fun _ => ?_) (fun _ => ?_) | refine Fork.mk (fun _ => ?_) (fun _ => ?_) | refine Both.mk ?_ ?_ | (refine And.intro ?_ ?_; focus (first | (kernel_rfl; done) | (first | omega | (simp; done); done)))))); (all_goals (conv => whnf)))
  refine ⟨{ σ := (Nat × List Nat × Nat), fr := fun s => [(6, .c (.d (.v (.int .u64 s.2.2)))), (7, .c (.d (iD s.1)))], ks := [0], L := fun s => [(0, .rows 1 (wD (s.2.1 ++ List.replicate ((ws m).length + 1 - s.1) 0)) 123)], ex := 0, I := fun s => s.2.1.length = s.1 ∧ s.1 ≤ (ws m).length ∧ (∀ d ∈ s.2.1, d < B32) ∧ s.2.2 ≤ 1 ∧ val s.2.1 + B32 ^ s.1 * s.2.2 = val ((ws m).take s.1) + val ((ws n).take s.1), μ := fun s => (ws m).length - s.1 }, ⟨(0, [], 0), ⟨rfl, Nat.zero_le _, by simp, by simp, rfl⟩, ?_⟩, ?_⟩
  · ((repeat' first | exact rfl | ((conv => whnf); first | done | exact True.intro | exact Or.inr (Or.inl rfl) | exact Or.inr (Or.inr (Or.inl ⟨rfl, _, _, rfl, by omega⟩)) | refine And.intro ?_ ?_)); (all_goals (conv => whnf)))
    show List.replicate (((ws m).length + 1 : Nat) : Int).toNat _ = wD (List.replicate ((ws m).length + 1) 0)
    rw [wD_rep, Int.toNat_natCast]
    rfl
  · rintro ⟨i, r, c⟩ ⟨h1, h2, h3, h4, h5⟩
    simp only at h1 h2 h3 h4 h5
    have hil : i < (r ++ List.replicate ((ws m).length + 1 - i) 0).length := by simp; omega
    have hil' : (((i : Nat) : Int)) < ((wD (r ++ List.replicate ((ws m).length + 1 - i) 0)).length : Nat) := by rw [wD_len]; exact Int.ofNat_lt.2 hil
    have h0i := Int.natCast_nonneg i
    ((repeat' ((conv => whnf); (first | refine Fork.yes (by assumption) ?_ | refine Fork.no (by assumption) ?_ | refine Fork.nono (by assumption) ?_ | (refine Fork.yes ?_ ?_; focus (simp [andPD]; done)) | (refine Fork.no ?_ ?_; focus (simp [andPD]; done)) | refine Fork.neg (fun _ => ?_) (fun _ => ?_) | refine Fork.mk (fun _ => ?_) (fun _ => ?_) | refine Both.mk ?_ ?_ | (refine And.intro ?_ ?_; focus (first | (kernel_rfl; done) | (first | omega | (simp; done); done)))))); (all_goals (conv => whnf)))
    · rename_i hx
      have hia : i < (ws m).length := by rw [wa] at hx; exact Int.ofNat_lt.1 hx
      have ha := ws_lt m _ (List.getElem_mem hia)
      refine ⟨_, wget hia, ?_⟩
      have ei : IntKind.i64.wrap ((i : Int) + 1) = ((i + 1 : Nat) : Int) := by rw [wrapI (by omega)]; rfl
      have hrow : ∀ x : Nat, (wD (r ++ List.replicate ((ws m).length + 1 - i) 0)).set ((i : Nat) : Int).toNat [.v (.int .u32 (x : Int))] = wD (r ++ [x] ++ List.replicate ((ws m).length + 1 - (i + 1)) 0) := fun x => by
        rw [wset, show (ws m).length + 1 - i = (ws m).length + 1 - (i + 1) + 1 by omega, ← h1, set_rep]
      ((repeat' ((conv => whnf); (first | refine Fork.yes (by assumption) ?_ | refine Fork.no (by assumption) ?_ | refine Fork.nono (by assumption) ?_ | (refine Fork.yes ?_ ?_; focus (simp [andPD]; done)) | (refine Fork.no ?_ ?_; focus (simp [andPD]; done)) | refine Fork.neg (fun _ => ?_) (fun _ => ?_) | refine Fork.mk (fun _ => ?_) (fun _ => ?_) | refine Both.mk ?_ ?_ | (refine And.intro ?_ ?_; focus (first | (kernel_rfl; done) | (first | omega | (simp; done); done)))))); (all_goals (conv => whnf)))
      · rename_i hy
        have hib : i < (ws n).length := by rw [wb] at hy; exact Int.ofNat_lt.1 hy
        have hb := ws_lt n _ (List.getElem_mem hib)
        refine ⟨_, wget hib, ?_⟩
        ((repeat' ((conv => whnf); (first | refine Fork.yes (by assumption) ?_ | refine Fork.no (by assumption) ?_ | refine Fork.nono (by assumption) ?_ | (refine Fork.yes ?_ ?_; focus (simp [andPD]; done)) | (refine Fork.no ?_ ?_; focus (simp [andPD]; done)) | refine Fork.neg (fun _ => ?_) (fun _ => ?_) | refine Fork.mk (fun _ => ?_) (fun _ => ?_) | refine Both.mk ?_ ?_ | (refine And.intro ?_ ?_; focus (first | (kernel_rfl; done) | (first | omega | (simp; done); done)))))); (all_goals (conv => whnf)))
        refine ⟨⟨h0i, hil'⟩, ?_⟩
        ((repeat' ((conv => whnf); (first | refine Fork.yes (by assumption) ?_ | refine Fork.no (by assumption) ?_ | refine Fork.nono (by assumption) ?_ | (refine Fork.yes ?_ ?_; focus (simp [andPD]; done)) | (refine Fork.no ?_ ?_; focus (simp [andPD]; done)) | refine Fork.neg (fun _ => ?_) (fun _ => ?_) | refine Fork.mk (fun _ => ?_) (fun _ => ?_) | refine Both.mk ?_ ?_ | (refine And.intro ?_ ?_; focus (first | (kernel_rfl; done) | (first | omega | (simp; done); done)))))); (all_goals (conv => whnf)))
        refine ⟨_, wget hil, ?_⟩
        ((repeat' ((conv => whnf); (first | refine Fork.yes (by assumption) ?_ | refine Fork.no (by assumption) ?_ | refine Fork.nono (by assumption) ?_ | (refine Fork.yes ?_ ?_; focus (simp [andPD]; done)) | (refine Fork.no ?_ ?_; focus (simp [andPD]; done)) | refine Fork.neg (fun _ => ?_) (fun _ => ?_) | refine Fork.mk (fun _ => ?_) (fun _ => ?_) | refine Both.mk ?_ ?_ | (refine And.intro ?_ ?_; focus (first | (kernel_rfl; done) | (first | omega | (simp; done); done)))))); (all_goals (conv => whnf)))
        obtain ⟨t, ht⟩ : ∃ t, t = c + (ws m)[i] + (ws n)[i] := ⟨_, rfl⟩
        have et : IntKind.u64.wrap (IntKind.u64.wrap ((c : Int) + IntKind.u64.wrap ((ws m)[i] : Int)) + IntKind.u64.wrap ((ws n)[i] : Int)) = (t : Int) := by
          simp only [B32] at ha hb
          rw [w64 (x := (ws m)[i]) (by omega), w64 (x := (ws n)[i]) (by omega), IntWalk.u64_in ((c : Int) + ((ws m)[i] : Nat)) (by omega), IntWalk.u64_in _ (by omega), ht]; omega
        refine ⟨(i + 1, r ++ [t % B32], t / B32), ⟨⟨by simp [h1], hia, dig_app h3, by simp only [B32] at *; omega, add_step h1 h5 ht (val_take_succ hia) (val_take_succ hib)⟩, by show (ws m).length - (i + 1) < (ws m).length - i; omega⟩, ?_⟩
        ((repeat' first | exact rfl | ((conv => whnf); first | done | exact True.intro | exact Or.inr (Or.inl rfl) | exact Or.inr (Or.inr (Or.inl ⟨rfl, _, _, rfl, by omega⟩)) | refine And.intro ?_ ?_)); (all_goals (conv => whnf)))
        · exact ceqK (show (IntKind.u64.wrap (IntKind.u64.wrap ((c : Int) + IntKind.u64.wrap ((ws m)[i] : Int)) + IntKind.u64.wrap ((ws n)[i] : Int))).fdiv (2 ^ min (Int.toNat 32) IntKind.u64.bits) = ((t / B32 : Nat) : Int) by rw [et, hi32])
        · exact ceq ei
        · refine Eq.trans ?_ (hrow (t % B32))
          show List.set _ _ [D.v (.int .u32 (IntKind.u32.wrap (IntKind.u64.wrap (IntKind.u64.wrap ((c : Int) + IntKind.u64.wrap ((ws m)[i] : Int)) + IntKind.u64.wrap ((ws n)[i] : Int)))))] = _
          rw [et, lo32]
      · rename_i hy
        have hib : (ws n).length ≤ i := by rw [wb] at hy; exact Nat.le_of_not_lt fun h => hy (Int.ofNat_lt.2 h)
        refine ⟨⟨h0i, hil'⟩, ?_⟩
        ((repeat' ((conv => whnf); (first | refine Fork.yes (by assumption) ?_ | refine Fork.no (by assumption) ?_ | refine Fork.nono (by assumption) ?_ | (refine Fork.yes ?_ ?_; focus (simp [andPD]; done)) | (refine Fork.no ?_ ?_; focus (simp [andPD]; done)) | refine Fork.neg (fun _ => ?_) (fun _ => ?_) | refine Fork.mk (fun _ => ?_) (fun _ => ?_) | refine Both.mk ?_ ?_ | (refine And.intro ?_ ?_; focus (first | (kernel_rfl; done) | (first | omega | (simp; done); done)))))); (all_goals (conv => whnf)))
        refine ⟨_, wget hil, ?_⟩
        ((repeat' ((conv => whnf); (first | refine Fork.yes (by assumption) ?_ | refine Fork.no (by assumption) ?_ | refine Fork.nono (by assumption) ?_ | (refine Fork.yes ?_ ?_; focus (simp [andPD]; done)) | (refine Fork.no ?_ ?_; focus (simp [andPD]; done)) | refine Fork.neg (fun _ => ?_) (fun _ => ?_) | refine Fork.mk (fun _ => ?_) (fun _ => ?_) | refine Both.mk ?_ ?_ | (refine And.intro ?_ ?_; focus (first | (kernel_rfl; done) | (first | omega | (simp; done); done)))))); (all_goals (conv => whnf)))
        obtain ⟨t, ht⟩ : ∃ t, t = c + (ws m)[i] + 0 := ⟨_, rfl⟩
        have et : IntKind.u64.wrap ((c : Int) + IntKind.u64.wrap ((ws m)[i] : Int)) = (t : Int) := by
          simp only [B32] at ha
          rw [w64 (by omega), IntWalk.u64_in (_ + _) (by omega), ht]; omega
        refine ⟨(i + 1, r ++ [t % B32], t / B32), ⟨⟨by simp [h1], hia, dig_app h3, by simp only [B32] at *; omega, add_step h1 h5 ht (val_take_succ hia) (by rw [val_take_ge hib, val_take_ge (by omega)]; omega)⟩, by show (ws m).length - (i + 1) < (ws m).length - i; omega⟩, ?_⟩
        ((repeat' first | exact rfl | ((conv => whnf); first | done | exact True.intro | exact Or.inr (Or.inl rfl) | exact Or.inr (Or.inr (Or.inl ⟨rfl, _, _, rfl, by omega⟩)) | refine And.intro ?_ ?_)); (all_goals (conv => whnf)))
        · exact ceqK (show (IntKind.u64.wrap ((c : Int) + IntKind.u64.wrap ((ws m)[i] : Int))).fdiv (2 ^ min (Int.toNat 32) IntKind.u64.bits) = ((t / B32 : Nat) : Int) by rw [et, hi32])
        · exact ceq ei
        · refine Eq.trans ?_ (hrow (t % B32))
          show List.set _ _ [D.v (.int .u32 (IntKind.u32.wrap (IntKind.u64.wrap ((c : Int) + IntKind.u64.wrap ((ws m)[i] : Int)))))] = _
          rw [et, lo32]
    · rename_i hx
      have hi : i = (ws m).length := by rw [wa] at hx; exact Nat.le_antisymm h2 (Nat.le_of_not_lt fun h => hx (Int.ofNat_lt.2 h))
      subst hi
      refine ⟨⟨Int.natCast_nonneg _, by rw [wa]; exact hil'⟩, ?_⟩
      ((repeat' ((conv => whnf); (first | refine Fork.yes (by assumption) ?_ | refine Fork.no (by assumption) ?_ | refine Fork.nono (by assumption) ?_ | (refine Fork.yes ?_ ?_; focus (simp [andPD]; done)) | (refine Fork.no ?_ ?_; focus (simp [andPD]; done)) | refine Fork.neg (fun _ => ?_) (fun _ => ?_) | refine Fork.mk (fun _ => ?_) (fun _ => ?_) | refine Both.mk ?_ ?_ | (refine And.intro ?_ ?_; focus (first | (kernel_rfl; done) | (first | omega | (simp; done); done)))))); (all_goals (conv => whnf)))
      have hil2 : (wD (ws m)).length < (r ++ List.replicate ((ws m).length + 1 - (ws m).length) 0).length := by rw [wa]; exact hil
      refine ⟨_, wget hil2, ?_⟩
      have hl : (r ++ List.replicate ((ws m).length + 1 - (ws m).length) 0).set (ws m).length c = r ++ [c] := by
        rw [show (ws m).length + 1 - (ws m).length = 0 + 1 by omega, ← h1, set_rep]; simp
      have hlow : IntKind.u32.wrap (c : Int) = (c : Int) := IntWalk.u32_in _ (by omega)
      have ht := trim_d (gl := gl) (r ++ [c]) (fun d hd => by
        rcases List.mem_append.1 hd with hd | hd
        · exact h3 d hd
        · rw [List.mem_singleton.1 hd]; simp only [B32]; omega) (by simp [h1]; unfold maxLen; omega)
      have hv : val (r ++ [c]) = m + n := by
        rw [val_app, h1, show val [c] = c by show c + B32 * 0 = c; omega, h5, val_take_ge (Nat.le_refl _), val_take_ge (by omega), val_ws, val_ws]
      rw [hv, ← hl, ← wset] at ht
      have ht2 : FnP Tryz.prog gl 123 [.lst 1 ((wD (r ++ List.replicate ((ws m).length + 1 - (ws m).length) 0)).set ((((wD (ws m)).length : Nat) : Int)).toNat [.v (.int .u32 (IntKind.u32.wrap (c : Int)))])] (W (m + n)) := by
        rw [hlow, wa]; exact ht
      ((repeat' ((conv => whnf); (first | refine Fork.yes (by assumption) ?_ | refine Fork.no (by assumption) ?_ | refine Fork.nono (by assumption) ?_ | (refine Fork.yes ?_ ?_; focus (simp [andPD]; done)) | (refine Fork.no ?_ ?_; focus (simp [andPD]; done)) | refine Fork.neg (fun _ => ?_) (fun _ => ?_) | refine Fork.mk (fun _ => ?_) (fun _ => ?_) | refine Or.inr (Exists.intro _ (And.intro (by first | exact ht2) ?_)) | refine Both.mk ?_ ?_ | (refine And.intro ?_ ?_; focus (first | (kernel_rfl; done) | (first | omega | (simp; done); done)))))); (all_goals (conv => whnf)))
      exact LeD.rfl
theorem add_d (m n : Nat) (hm : (ws m).length ≤ 35184372088832) (hn : (ws n).length ≤ 35184372088832) : FnP Tryz.prog gl 95 [W m, W n] (W (m + n)) := by
  rcases Nat.lt_or_ge (ws m).length (ws n).length with h | h
  · rw [Nat.add_comm]; exact add_lt n m hn h
  · exact add_ge m n hm h
end Go.Proofs.YtbkhfmgdnnaaoaaGreatDoor
