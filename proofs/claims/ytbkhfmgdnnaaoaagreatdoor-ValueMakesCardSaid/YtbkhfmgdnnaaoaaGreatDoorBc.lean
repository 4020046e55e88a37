/- Proved: what multiplication of rows of words returns. No condition. -/
import Derived.Test.YtbkhfmgdnnaaoaaGreatDoorBb
namespace Go.Proofs.YtbkhfmgdnnaaoaaGreatDoor
open Go Go.EYtbkhfmgdnnaaoaaGreatDoor
set_option maxRecDepth 100000
variable {gl : List (Nat × List D)}
theorem val_set {l : List Nat} {i d : Nat} (h : i < l.length) : val (l.set i d) + B32 ^ i * l[i] = val l + B32 ^ i * d := by
  have e1 : val (l.set i d) = val (l.take i) + B32 ^ i * (d + B32 * val (l.drop (i + 1))) := by
    rw [List.set_eq_take_append_cons_drop, if_pos h, val_app, List.length_take, Nat.min_eq_left (by omega)]; rfl
  have e2 : val l = val (l.take i) + B32 ^ i * (l[i] + B32 * val (l.drop (i + 1))) := by
    conv => lhs; rw [← List.take_append_drop i l, val_app, List.length_take, Nat.min_eq_left (by omega), List.drop_eq_getElem_cons h]
    rfl
  rw [e1, e2, Nat.mul_add, Nat.mul_add]; omega
theorem set_dig {p : List Nat} {k x : Nat} (h : ∀ d ∈ p, d < B32) (hx : x < B32) : ∀ d ∈ p.set k x, d < B32 := fun d hd => by
  rcases List.mem_or_eq_of_mem_set hd with h1 | h1
  · exact h d h1
  · rw [h1]; exact hx
theorem set_drop {p q : List Nat} {k x : Nat} (h : p.drop k = q.drop k) : (p.set k x).drop (k + 1) = q.drop (k + 1) := by
  rw [List.drop_set_of_lt (by omega), ← List.drop_drop, ← List.drop_drop, h]
theorem mul_step {p q : List Nat} {i j a b c t vb : Nat} (hk : i + j < p.length) (ht : t = c + (a * b + p[i + j])) (h : val p + B32 ^ (i + j) * c = val q + B32 ^ i * (a * vb)) :
    val (p.set (i + j) (t % B32)) + B32 ^ (i + (j + 1)) * (t / B32) = val q + B32 ^ i * (a * (vb + B32 ^ j * b)) := by
  have h1 := val_set (d := t % B32) hk
  have h2 : B32 ^ (i + (j + 1)) * (t / B32) = B32 ^ (i + j) * (B32 * (t / B32)) := by rw [← Nat.add_assoc, Nat.pow_succ, Nat.mul_assoc]
  have h3 : B32 ^ (i + j) * (t % B32) + B32 ^ (i + j) * (B32 * (t / B32)) = B32 ^ (i + j) * c + (B32 ^ (i + j) * (a * b) + B32 ^ (i + j) * p[i + j]) := by
    rw [← Nat.mul_add, Nat.mod_add_div, ht, Nat.mul_add, Nat.mul_add]
  have h4 : B32 ^ i * (a * (vb + B32 ^ j * b)) = B32 ^ i * (a * vb) + B32 ^ (i + j) * (a * b) := by
    rw [Nat.mul_add, Nat.mul_add, Nat.pow_add, Nat.mul_assoc, Nat.mul_left_comm a]
  rw [h2, h4]
  omega
theorem mul_lt {a b c p : Nat} (ha : a < B32) (hb : b < B32) (hc : c < B32) (hp : p < B32) : c + (a * b + p) < 18446744073709551616 := by
  simp only [B32] at *
  have : a * b ≤ 4294967295 * 4294967295 := Nat.mul_le_mul (by omega) (by omega)
  omega
theorem mul_d (m n : Nat) (hm : (ws m).length ≤ 35184372088832) (hn : (ws n).length ≤ 35184372088832) : FnP Tryz.prog gl 91 [W m, W n] (W (m * n)) := by
  have wa := wD_len (ws m)
  have wb := wD_len (ws n)
  by_cases ha0 : (ws m).length = 0
  · have h0 : (((wD (ws m)).length : Nat) : Int) = 0 := by rw [wa, ha0]; rfl
    have : m = 0 := ws_nil.1 (List.eq_nil_of_length_eq_zero ha0)
    refine fnP_of_vc (nv := 9999) (cu := []) fits mixed Tryz.func91 rfl (by unfold HasBody; kernel_rfl) rfl ?_
    ((repeat' ((conv => whnf); (first | refine Fork.yes (by assumption) ?_ | refine Fork.no (by assumption) ?_ | refine Fork.nono (by assumption) ?_ | (refine Fork.yes ?_ ?_; focus (simp [andPD]; done)) | (refine Fork.no ?_ ?_; focus (simp [andPD]; done)) | refine Fork.neg (fun _ => ?_) (fun _ => ?_) | refine Fork.mk (fun _ => ?_) (fun _ => ?_) | refine Both.mk ?_ ?_ | (refine And.intro ?_ ?_; focus (first | (kernel_rfl; done) | (first | omega | (simp; done); done)))))); (all_goals (conv => whnf)))
    simp only [this, Nat.zero_mul, ws_zero, W]
    exact nilW_le 1
  have h0 : ¬ (((wD (ws m)).length : Nat) : Int) = 0 := by rw [wa]; omega
  by_cases hb0 : (ws n).length = 0
  · have h1 : (((wD (ws n)).length : Nat) : Int) = 0 := by rw [wb, hb0]; rfl
    have : n = 0 := ws_nil.1 (List.eq_nil_of_length_eq_zero hb0)
    refine fnP_of_vc (nv := 9999) (cu := []) fits mixed Tryz.func91 rfl (by unfold HasBody; kernel_rfl) rfl ?_
    ((repeat' ((conv => whnf); (first | refine Fork.yes (by assumption) ?_ | refine Fork.no (by assumption) ?_ | refine Fork.nono (by assumption) ?_ | (refine Fork.yes ?_ ?_; focus (simp [andPD]; done)) | (refine Fork.no ?_ ?_; focus (simp [andPD]; done)) | refine Fork.neg (fun _ => ?_) (fun _ => ?_) | refine Fork.mk (fun _ => ?_) (fun _ => ?_) | refine Both.mk ?_ ?_ | (refine And.intro ?_ ?_; focus (first | (kernel_rfl; done) | (first | omega | (simp; done); done)))))); (all_goals (conv => whnf)))
    simp only [this, Nat.mul_zero, ws_zero, W]
    exact nilW_le 1
  have h1 : ¬ (((wD (ws n)).length : Nat) : Int) = 0 := by rw [wb]; omega
  have e1 : IntKind.i64.wrap ((((wD (ws m)).length : Nat) : Int) + (((wD (ws n)).length : Nat) : Int)) = (((ws m).length + (ws n).length : Nat) : Int) := by rw [wa, wb, wrapI (by omega)]; omega
  refine fnP_of_vc (nv := 9999) (cu := []) fits mixed Tryz.func91 rfl (by unfold HasBody; kernel_rfl) rfl ?_
  ((repeat' ((conv => whnf); (first | refine Fork.yes (by assumption) ?_ | refine Fork.no (by assumption) ?_ | refine Fork.nono (by assumption) ?_ | (refine Fork.yes ?_ ?_; focus (simp [andPD]; done)) | (refine Fork.no ?_ ?_; focus (simp [andPD]; done)) | refine Fork.neg (fun _ => ?_) (fun _ => ?_) | refine Fork.mk (fun _ => ?_) (fun _ => ?_) | (rw [e1]) | refine Both.mk ?_ ?_ | (refine And.intro ?_ ?_; focus (first | (kernel_rfl; done) | (first | omega | (simp; done); done)))))); (all_goals (conv => whnf)))
  refine ⟨⟨by omega, by omega, by show (4 : Int) * _ ≤ _; omega, by omega⟩, ?_⟩
  ((repeat' ((conv => whnf); (first | refine Fork.yes (by assumption) ?_ | refine Fork.no (by assumption) ?_ | refine Fork.nono (by assumption) ?_ | (refine Fork.yes ?_ ?_; focus (simp [andPD]; done)) | (refine Fork.no ?_ ?_; focus (simp [andPD]; done)) | refine Fork.neg (fun _ => ?_) (fun _ => ?_) | refine Fork.mk (fun _ => ?_) (fun _ => ?_) | refine Both.mk ?_ ?_ | (refine And.intro ?_ ?_; focus (first | (kernel_rfl; done) | (first | omega | (simp; done); done)))))); (all_goals (conv => whnf)))
  refine ⟨{ σ := (Nat × List Nat), fr := fun s => [(6, .c (.d (iD s.1)))], ks := [0], L := fun s => [(0, .rows 1 (wD s.2) 123)], ex := 0, I := fun s => s.2.length = (ws m).length + (ws n).length ∧ s.1 ≤ (ws m).length ∧ (∀ d ∈ s.2, d < B32) ∧ val s.2 = val ((ws m).take s.1) * n ∧ s.2.drop (s.1 + (ws n).length) = List.replicate ((ws m).length - s.1) 0, μ := fun s => (ws m).length - s.1 }, ⟨(0, List.replicate ((ws m).length + (ws n).length) 0), ⟨by simp, Nat.zero_le _, by simp, by rw [val_zeros]; show 0 = 0 * n; omega, by simp⟩, ?_⟩, ?_⟩
  · ((repeat' first | exact rfl | ((conv => whnf); first | done | exact True.intro | exact Or.inr (Or.inl rfl) | exact Or.inr (Or.inr (Or.inl ⟨rfl, _, _, rfl, by omega⟩)) | refine And.intro ?_ ?_)); (all_goals (conv => whnf)))
    show List.replicate (((ws m).length + (ws n).length : Nat) : Int).toNat _ = wD (List.replicate ((ws m).length + (ws n).length) 0)
    rw [wD_rep, Int.toNat_natCast]
    rfl
  · rintro ⟨i, q⟩ ⟨q1, q2, q3, q4, q5⟩
    simp only at q1 q2 q3 q4 q5
    ((repeat' ((conv => whnf); (first | refine Fork.yes (by assumption) ?_ | refine Fork.no (by assumption) ?_ | refine Fork.nono (by assumption) ?_ | (refine Fork.yes ?_ ?_; focus (simp [andPD]; done)) | (refine Fork.no ?_ ?_; focus (simp [andPD]; done)) | refine Fork.neg (fun _ => ?_) (fun _ => ?_) | refine Fork.mk (fun _ => ?_) (fun _ => ?_) | refine Both.mk ?_ ?_ | (refine And.intro ?_ ?_; focus (first | (kernel_rfl; done) | (first | omega | (simp; done); done)))))); (all_goals (conv => whnf)))
    · rename_i hx
      have hia : i < (ws m).length := by rw [wa] at hx; exact Int.ofNat_lt.1 hx
      have ha := ws_lt m _ (List.getElem_mem hia)
      refine ⟨{ σ := (Nat × List Nat × Nat), fr := fun s => [(7, .c (.d (.v (.int .u64 s.2.2)))), (8, .c (.d (iD s.1)))], ks := [0], L := fun s => [(0, .rows 1 (wD s.2.1) 123)], ex := 0, I := fun s => s.2.1.length = (ws m).length + (ws n).length ∧ s.1 ≤ (ws n).length ∧ (∀ d ∈ s.2.1, d < B32) ∧ s.2.2 < B32 ∧ s.2.1.drop (i + s.1) = q.drop (i + s.1) ∧ val s.2.1 + B32 ^ (i + s.1) * s.2.2 = val q + B32 ^ i * ((ws m)[i] * val ((ws n).take s.1)), μ := fun s => (ws n).length - s.1 }, ⟨(0, q, 0), ⟨q1, Nat.zero_le _, q3, Nat.zero_lt_succ _, rfl, by simp [val]⟩, ?_⟩, ?_⟩
      · ((repeat' first | exact rfl | ((conv => whnf); first | done | exact True.intro | exact Or.inr (Or.inl rfl) | exact Or.inr (Or.inr (Or.inl ⟨rfl, _, _, rfl, by omega⟩)) | refine And.intro ?_ ?_)); (all_goals (conv => whnf)))
      · rintro ⟨j, p, c⟩ ⟨p1, p2, p3, p4, p5, p6⟩
        simp only at p1 p2 p3 p4 p5 p6
        ((repeat' ((conv => whnf); (first | refine Fork.yes (by assumption) ?_ | refine Fork.no (by assumption) ?_ | refine Fork.nono (by assumption) ?_ | (refine Fork.yes ?_ ?_; focus (simp [andPD]; done)) | (refine Fork.no ?_ ?_; focus (simp [andPD]; done)) | refine Fork.neg (fun _ => ?_) (fun _ => ?_) | refine Fork.mk (fun _ => ?_) (fun _ => ?_) | refine Both.mk ?_ ?_ | (refine And.intro ?_ ?_; focus (first | (kernel_rfl; done) | (first | omega | (simp; done); done)))))); (all_goals (conv => whnf)))
        · rename_i hy
          have hjb : j < (ws n).length := by rw [wb] at hy; exact Int.ofNat_lt.1 hy
          have hb := ws_lt n _ (List.getElem_mem hjb)
          have hij : i + j < p.length := by omega
          have hpd := p3 _ (List.getElem_mem hij)
          refine ⟨_, wget hia, ?_⟩
          ((repeat' ((conv => whnf); (first | refine Fork.yes (by assumption) ?_ | refine Fork.no (by assumption) ?_ | refine Fork.nono (by assumption) ?_ | (refine Fork.yes ?_ ?_; focus (simp [andPD]; done)) | (refine Fork.no ?_ ?_; focus (simp [andPD]; done)) | refine Fork.neg (fun _ => ?_) (fun _ => ?_) | refine Fork.mk (fun _ => ?_) (fun _ => ?_) | refine Both.mk ?_ ?_ | (refine And.intro ?_ ?_; focus (first | (kernel_rfl; done) | (first | omega | (simp; done); done)))))); (all_goals (conv => whnf)))
          refine ⟨_, wget hjb, ?_⟩
          ((repeat' ((conv => whnf); (first | refine Fork.yes (by assumption) ?_ | refine Fork.no (by assumption) ?_ | refine Fork.nono (by assumption) ?_ | (refine Fork.yes ?_ ?_; focus (simp [andPD]; done)) | (refine Fork.no ?_ ?_; focus (simp [andPD]; done)) | refine Fork.neg (fun _ => ?_) (fun _ => ?_) | refine Fork.mk (fun _ => ?_) (fun _ => ?_) | refine Both.mk ?_ ?_ | (refine And.intro ?_ ?_; focus (first | (kernel_rfl; done) | (first | omega | (simp; done); done)))))); (all_goals (conv => whnf)))
          have eij : IntKind.i64.wrap ((i : Int) + (j : Int)) = ((i + j : Nat) : Int) := by rw [wrapI (by omega)]; omega
          have hidx : 0 ≤ IntKind.i64.wrap ((i : Int) + (j : Int)) ∧ IntKind.i64.wrap ((i : Int) + (j : Int)) < ((wD p).length : Nat) := by rw [eij, wD_len]; exact ⟨Int.natCast_nonneg _, Int.ofNat_lt.2 hij⟩
          have hget : (wD p)[(IntKind.i64.wrap ((i : Int) + (j : Int))).toNat]? = some [u32D p[i + j]] := by rw [eij]; exact wget hij
          refine ⟨hidx, ?_⟩
          ((repeat' ((conv => whnf); (first | refine Fork.yes (by assumption) ?_ | refine Fork.no (by assumption) ?_ | refine Fork.nono (by assumption) ?_ | (refine Fork.yes ?_ ?_; focus (simp [andPD]; done)) | (refine Fork.no ?_ ?_; focus (simp [andPD]; done)) | refine Fork.neg (fun _ => ?_) (fun _ => ?_) | refine Fork.mk (fun _ => ?_) (fun _ => ?_) | refine Both.mk ?_ ?_ | (refine And.intro ?_ ?_; focus (first | (kernel_rfl; done) | (first | omega | (simp; done); done)))))); (all_goals (conv => whnf)))
          refine ⟨_, hget, ?_⟩
          ((repeat' ((conv => whnf); (first | refine Fork.yes (by assumption) ?_ | refine Fork.no (by assumption) ?_ | refine Fork.nono (by assumption) ?_ | (refine Fork.yes ?_ ?_; focus (simp [andPD]; done)) | (refine Fork.no ?_ ?_; focus (simp [andPD]; done)) | refine Fork.neg (fun _ => ?_) (fun _ => ?_) | refine Fork.mk (fun _ => ?_) (fun _ => ?_) | refine Both.mk ?_ ?_ | (refine And.intro ?_ ?_; focus (first | (kernel_rfl; done) | (first | omega | (simp; done); done)))))); (all_goals (conv => whnf)))
          refine ⟨_, hget, ?_⟩
          ((repeat' ((conv => whnf); (first | refine Fork.yes (by assumption) ?_ | refine Fork.no (by assumption) ?_ | refine Fork.nono (by assumption) ?_ | (refine Fork.yes ?_ ?_; focus (simp [andPD]; done)) | (refine Fork.no ?_ ?_; focus (simp [andPD]; done)) | refine Fork.neg (fun _ => ?_) (fun _ => ?_) | refine Fork.mk (fun _ => ?_) (fun _ => ?_) | refine Both.mk ?_ ?_ | (refine And.intro ?_ ?_; focus (first | (kernel_rfl; done) | (first | omega | (simp; done); done)))))); (all_goals (conv => whnf)))
          obtain ⟨t, ht⟩ : ∃ t, t = c + ((ws m)[i] * (ws n)[j] + p[i + j]) := ⟨_, rfl⟩
          have htl : t < 18446744073709551616 := ht ▸ mul_lt ha hb p4 hpd
          have et : IntKind.u64.wrap ((c : Int) + IntKind.u64.wrap (IntKind.u64.wrap (IntKind.u64.wrap ((ws m)[i] : Int) * IntKind.u64.wrap ((ws n)[j] : Int)) + IntKind.u64.wrap (p[i + j] : Int))) = (t : Int) := by
            simp only [B32] at ha hb hpd p4
            rw [w64 (x := (ws m)[i]) (by omega), w64 (x := (ws n)[j]) (by omega), w64 (x := p[i + j]) (by omega), ← Int.natCast_mul, w64 (x := (ws m)[i] * (ws n)[j]) (by omega), ← Int.natCast_add, w64 (by omega), ← Int.natCast_add, ← ht, w64 htl]
          refine ⟨(j + 1, p.set (i + j) (t % B32), t / B32), ⟨⟨by simpa using p1, hjb, set_dig p3 (Nat.mod_lt _ (by decide)), by simp only [B32]; omega, set_drop p5, ?_⟩, by show (ws n).length - (j + 1) < (ws n).length - j; omega⟩, ?_⟩
          · rw [val_take_succ hjb]; exact mul_step hij ht p6
          · ((repeat' first | exact rfl | ((conv => whnf); first | done | exact True.intro | exact Or.inr (Or.inl rfl) | exact Or.inr (Or.inr (Or.inl ⟨rfl, _, _, rfl, by omega⟩)) | refine And.intro ?_ ?_)); (all_goals (conv => whnf)))
            · exact ceqK (show (IntKind.u64.wrap ((c : Int) + IntKind.u64.wrap (IntKind.u64.wrap (IntKind.u64.wrap ((ws m)[i] : Int) * IntKind.u64.wrap ((ws n)[j] : Int)) + IntKind.u64.wrap (p[i + j] : Int)))).fdiv (2 ^ min (Int.toNat 32) IntKind.u64.bits) = ((t / B32 : Nat) : Int) by rw [et, hi32])
            · exact ceq (show IntKind.i64.wrap ((j : Int) + 1) = ((j + 1 : Nat) : Int) by rw [wrapI (by omega)]; rfl)
            · show List.set (wD p) (IntKind.i64.wrap ((i : Int) + (j : Int))).toNat [D.v (.int .u32 (IntKind.u32.wrap (IntKind.u64.wrap ((c : Int) + IntKind.u64.wrap (IntKind.u64.wrap (IntKind.u64.wrap ((ws m)[i] : Int) * IntKind.u64.wrap ((ws n)[j] : Int)) + IntKind.u64.wrap (p[i + j] : Int))))))] = wD (p.set (i + j) (t % B32))
              rw [eij, et, lo32, wset]
        · rename_i hy
          have hj : j = (ws n).length := by rw [wb] at hy; exact Nat.le_antisymm p2 (Nat.le_of_not_lt fun h => hy (Int.ofNat_lt.2 h))
          subst hj
          have hk : i + (ws n).length < p.length := by omega
          have eil : IntKind.i64.wrap ((i : Int) + (((wD (ws n)).length : Nat) : Int)) = ((i + (ws n).length : Nat) : Int) := by rw [wb, wrapI (by omega)]; omega
          refine ⟨⟨by rw [eil]; exact Int.natCast_nonneg _, by rw [eil, wD_len]; exact Int.ofNat_lt.2 hk⟩, ?_⟩
          ((repeat' ((conv => whnf); (first | refine Fork.yes (by assumption) ?_ | refine Fork.no (by assumption) ?_ | refine Fork.nono (by assumption) ?_ | (refine Fork.yes ?_ ?_; focus (simp [andPD]; done)) | (refine Fork.no ?_ ?_; focus (simp [andPD]; done)) | refine Fork.neg (fun _ => ?_) (fun _ => ?_) | refine Fork.mk (fun _ => ?_) (fun _ => ?_) | refine Both.mk ?_ ?_ | (refine And.intro ?_ ?_; focus (first | (kernel_rfl; done) | (first | omega | (simp; done); done)))))); (all_goals (conv => whnf)))
          refine ⟨_, by rw [eil]; exact wget hk, ?_⟩
          ((repeat' ((conv => whnf); (first | refine Fork.yes (by assumption) ?_ | refine Fork.no (by assumption) ?_ | refine Fork.nono (by assumption) ?_ | (refine Fork.yes ?_ ?_; focus (simp [andPD]; done)) | (refine Fork.no ?_ ?_; focus (simp [andPD]; done)) | refine Fork.neg (fun _ => ?_) (fun _ => ?_) | refine Fork.mk (fun _ => ?_) (fun _ => ?_) | refine Both.mk ?_ ?_ | (refine And.intro ?_ ?_; focus (first | (kernel_rfl; done) | (first | omega | (simp; done); done)))))); (all_goals (conv => whnf)))
          have hp0 : p[i + (ws n).length] = 0 := by
            have h2 : (p.drop (i + (ws n).length))[0]? = some 0 := by
              rw [p5, q5, List.getElem?_replicate, if_pos (by omega)]
            rw [List.getElem?_drop, Nat.add_zero, List.getElem?_eq_getElem hk] at h2
            exact Option.some.inj h2
          have hv := val_set (d := c) hk
          rw [hp0, Nat.mul_zero, Nat.add_zero, p6, val_take_ge (Nat.le_refl _), val_ws] at hv
          refine ⟨(i + 1, p.set (i + (ws n).length) c), ⟨⟨by simpa using p1, hia, set_dig p3 p4, ?_, ?_⟩, by show (ws m).length - (i + 1) < (ws m).length - i; omega⟩, ?_⟩
          · rw [hv, q4, val_take_succ hia, Nat.add_mul, Nat.mul_assoc]
          · rw [show i + 1 + (ws n).length = i + (ws n).length + 1 by omega, set_drop p5, ← List.drop_drop, q5, List.drop_replicate]
            congr 1
          · ((repeat' first | exact rfl | ((conv => whnf); first | done | exact True.intro | exact Or.inr (Or.inl rfl) | exact Or.inr (Or.inr (Or.inl ⟨rfl, _, _, rfl, by omega⟩)) | refine And.intro ?_ ?_)); (all_goals (conv => whnf)))
            · exact ceq (show IntKind.i64.wrap ((i : Int) + 1) = ((i + 1 : Nat) : Int) by rw [wrapI (by omega)]; rfl)
            · show List.set (wD p) (IntKind.i64.wrap ((i : Int) + (((wD (ws n)).length : Nat) : Int))).toNat [D.v (.int .u32 (IntKind.u32.wrap (c : Int)))] = wD (p.set (i + (ws n).length) c)
              rw [eil, lo32, Nat.mod_eq_of_lt p4, wset]
    · rename_i hx
      have hi : i = (ws m).length := by rw [wa] at hx; exact Nat.le_antisymm q2 (Nat.le_of_not_lt fun h => hx (Int.ofNat_lt.2 h))
      subst hi
      have ht := trim_d (gl := gl) q q3 (by unfold maxLen; omega)
      rw [q4, val_take_ge (Nat.le_refl _), val_ws] at ht
      ((repeat' ((conv => whnf); (first | refine Fork.yes (by assumption) ?_ | refine Fork.no (by assumption) ?_ | refine Fork.nono (by assumption) ?_ | (refine Fork.yes ?_ ?_; focus (simp [andPD]; done)) | (refine Fork.no ?_ ?_; focus (simp [andPD]; done)) | refine Fork.neg (fun _ => ?_) (fun _ => ?_) | refine Fork.mk (fun _ => ?_) (fun _ => ?_) | refine Or.inr (Exists.intro _ (And.intro (by first | exact ht) ?_)) | refine Both.mk ?_ ?_ | (refine And.intro ?_ ?_; focus (first | (kernel_rfl; done) | (first | omega | (simp; done); done)))))); (all_goals (conv => whnf)))
      exact LeD.rfl
end Go.Proofs.YtbkhfmgdnnaaoaaGreatDoor
