/- Proved: how a number that is not negative is written. No condition. -/
import Derived.Test.YtbkhfmgdnnaaoaaGreatDoorBe
namespace Go.Proofs.YtbkhfmgdnnaaoaaGreatDoor
open Go Go.EYtbkhfmgdnnaaoaaGreatDoor
set_option maxRecDepth 100000
variable {gl : List (Nat × List D)}
/-- A number's decimal digits, the last one first. -/
def dl10 (n : Nat) : List UInt8 := if h : n = 0 then [] else dig (n % 10) :: dl10 (n / 10)
termination_by n
decreasing_by exact Nat.div_lt_self (Nat.pos_of_ne_zero h) (by decide)
theorem dl10_zero : dl10 0 = [] := by rw [dl10]; rfl
theorem dl10_pos {n : Nat} (h : n ≠ 0) : dl10 n = dig (n % 10) :: dl10 (n / 10) := by rw [dl10]; simp [h]
def decB (n : Nat) : List UInt8 := if n = 0 then [48] else (dl10 n).reverse
theorem decB_digs {n : Nat} (h : n < 100) : decB n = digs n := by
  unfold decB digs
  by_cases h0 : n = 0
  · subst h0; rfl
  · rw [if_neg h0, dl10_pos h0]
    by_cases h1 : n < 10
    · rw [if_pos h1, Nat.mod_eq_of_lt h1, Nat.div_eq_of_lt h1, dl10_zero]; rfl
    · rw [if_neg h1, dl10_pos (n := n / 10) (by omega), Nat.mod_eq_of_lt (a := n / 10) (by omega), show n / 10 / 10 = 0 by omega, dl10_zero]; rfl
theorem dl10_len (n : Nat) : n ≠ 0 → 10 ^ ((dl10 n).length - 1) ≤ n := by
  induction n using Nat.strongRecOn with
  | ind n ih =>
    intro h
    rw [dl10_pos h]
    by_cases h1 : n / 10 = 0
    · rw [h1, dl10_zero]; simp; omega
    · have := ih _ (Nat.div_lt_self (Nat.pos_of_ne_zero h) (by decide)) h1
      rw [dl10_pos h1] at this ⊢
      simp only [List.length_cons, Nat.add_sub_cancel] at this ⊢
      rw [Nat.pow_succ]; omega
theorem dl10_max (n : Nat) : (dl10 n).length ≤ 10 * (ws n).length := by
  by_cases h : n = 0
  · subst h; rw [dl10_zero]; exact Nat.zero_le _
  · have h1 := dl10_len n h
    have h2 := lt_ws_len n
    have h3 : B32 ^ (ws n).length ≤ 10 ^ (10 * (ws n).length) := by rw [Nat.pow_mul]; exact Nat.pow_le_pow_left (by decide) _
    have h4 : 10 ^ ((dl10 n).length - 1) < 10 ^ (10 * (ws n).length) := by omega
    have := (Nat.pow_lt_pow_iff_right (by decide : 1 < 10)).1 h4
    omega
def bD (l : List UInt8) : List (List D) := l.map u8D
theorem bD_len (l : List UInt8) : (bD l).length = l.length := List.length_map ..
theorem bD_app (l : List UInt8) (x : UInt8) : bD (l ++ [x]) = bD l ++ [u8D x] := List.map_append ..
theorem bget {l : List UInt8} {k : Nat} (h : k < l.length) : (bD l)[((k : Nat) : Int).toNat]? = some (u8D l[k]) := by
  rw [Int.toNat_natCast]; unfold bD; rw [List.getElem?_map, List.getElem?_eq_getElem h]; rfl
theorem bset (l : List UInt8) (i : Nat) (x : UInt8) : (bD l).set ((i : Nat) : Int).toNat (u8D x) = bD (l.set i x) := by
  rw [Int.toNat_natCast]; exact (List.map_set ..).symm
theorem digTab : ∀ k : Fin 10, ((48 : Int) + (k.val : Int)) = ((dig k.val).toNat : Int) := by decide
theorem dig_nat {k : Nat} (h : k < 10) : ((48 : Int) + (k : Int)) = ((dig k).toNat : Int) := digTab ⟨k, h⟩
/-- Turned round as far as k from both ends. -/
def Turned (l p : List UInt8) (k : Nat) : Prop := p.length = l.length ∧ 2 * k ≤ l.length ∧ ∀ x, x < l.length → p[x]? = if x < k ∨ l.length ≤ x + k then l[l.length - 1 - x]? else l[x]?
theorem Turned.zero (l : List UInt8) : Turned l l 0 := ⟨rfl, Nat.zero_le _, fun x hx => by rw [if_neg (by omega)]⟩
theorem Turned.step {l p : List UInt8} {k : Nat} (h : Turned l p k) (hk : k < l.length - 1 - k) (h1 : k < p.length) (h2 : l.length - 1 - k < p.length) : Turned l ((p.set k p[l.length - 1 - k]).set (l.length - 1 - k) p[k]) (k + 1) := by
  obtain ⟨a, b, c⟩ := h
  refine ⟨by simpa using a, by omega, fun x hx => ?_⟩
  have ck := c k (by omega)
  have cj := c (l.length - 1 - k) (by omega)
  rw [if_neg (by omega), List.getElem?_eq_getElem h1] at ck
  rw [if_neg (by omega), List.getElem?_eq_getElem h2] at cj
  rw [List.getElem?_set, List.getElem?_set]
  by_cases e1 : l.length - 1 - k = x
  · rw [if_pos e1, if_pos (by simp; omega), if_pos (by omega), ck, show l.length - 1 - x = k by omega]
  · rw [if_neg e1]
    by_cases e2 : k = x
    · subst e2
      rw [if_pos rfl, if_pos h1, if_pos (by omega), cj]
    · rw [if_neg e2, c x hx]
      by_cases e3 : x < k ∨ l.length ≤ x + k
      · rw [if_pos e3, if_pos (by omega)]
      · rw [if_neg e3, if_neg (by omega)]
theorem Turned.done {l p : List UInt8} {k : Nat} (h : Turned l p k) (hk : ¬ k < l.length - 1 - k) : p = l.reverse := by
  obtain ⟨a, b, c⟩ := h
  refine List.ext_getElem? fun x => ?_
  rcases Nat.lt_or_ge x l.length with hx | hx
  · rw [c x hx, List.getElem?_reverse hx]
    split
    · rfl
    · rw [show l.length - 1 - x = x by omega]
  · rw [List.getElem?_eq_none (by omega), List.getElem?_eq_none (by simpa using hx)]
theorem Text_p (n : Nat) (hn : (ws n).length ≤ 8796093022208) : FnP Tryz.prog gl 113 [.imm [fD, W n], iD 10] (.str (decB n)) := by
  have wa := wD_len (ws n)
  have ht := twin_d (gl := gl) (ws n) (by omega)
  by_cases h0 : n = 0
  · subst h0
    have hl0 : (((wD (ws 0)).length : Nat) : Int) = 0 := by rw [wa, ws_zero]; rfl
    refine fnP_of_vc (nv := 9999) (cu := []) fits mixed Tryz.func113 rfl (by unfold HasBody; kernel_rfl) rfl ?_
    ((repeat' ((conv => whnf); (first | refine Fork.yes (by assumption) ?_ | refine Fork.no (by assumption) ?_ | refine Fork.nono (by assumption) ?_ | (refine Fork.yes ?_ ?_; focus (simp [andPD]; done)) | (refine Fork.no ?_ ?_; focus (simp [andPD]; done)) | refine Fork.neg (fun _ => ?_) (fun _ => ?_) | refine Fork.mk (fun _ => ?_) (fun _ => ?_) | refine Both.mk ?_ ?_ | (refine And.intro ?_ ?_; focus (first | (kernel_rfl; done) | (first | assumption | omega | (simp; done); done)))))); (all_goals (conv => whnf)))
    exact LeD.of rfl
  have hl0 : ¬ (((wD (ws n)).length : Nat) : Int) = 0 := by rw [wa]; intro h; exact h0 (ws_nil.1 (List.eq_nil_of_length_eq_zero (Int.ofNat.inj h)))
  refine fnP_of_vc (nv := 9999) (cu := []) fits mixed Tryz.func113 rfl (by unfold HasBody; kernel_rfl) rfl ?_
  ((repeat' ((conv => whnf); (first | refine Fork.yes (by assumption) ?_ | refine Fork.no (by assumption) ?_ | refine Fork.nono (by assumption) ?_ | (refine Fork.yes ?_ ?_; focus (simp [andPD]; done)) | (refine Fork.no ?_ ?_; focus (simp [andPD]; done)) | refine Fork.neg (fun _ => ?_) (fun _ => ?_) | refine Fork.mk (fun _ => ?_) (fun _ => ?_) | refine Or.inl (Or.inl (Exists.intro _ (And.intro (by first | exact ht) ?_))) | refine Or.inl (Exists.intro _ (And.intro (by first | exact ht) ?_)) | refine Exists.intro _ (And.intro (by first | exact ht) ?_) | refine Both.mk ?_ ?_ | (refine And.intro ?_ ?_; focus (first | (kernel_rfl; done) | (first | assumption | omega | (simp; done); done)))))); (all_goals (conv => whnf)))
  refine ⟨{ σ := (Nat × List UInt8), fr := fun s => [(5, .c (.all 1 0)), (6, .c (.d (W s.1)))], ks := [0], L := fun s => [(0, .rows 1 (bD s.2) 5)], ex := 1, I := fun s => dl10 n = s.2 ++ dl10 s.1 ∧ s.1 ≤ n, μ := fun s => s.1 }, ⟨(n, []), ⟨rfl, Nat.le_refl _⟩, ?_⟩, ?_⟩
  · ((repeat' first | exact rfl | ((conv => whnf); first | done | exact True.intro | exact Or.inr (Or.inl rfl) | exact Or.inr (Or.inr (Or.inl ⟨rfl, _, _, rfl, by omega⟩)) | refine And.intro ?_ ?_)); (all_goals (conv => whnf)))
    exact ⟨1, 5, rfl, by decide, Nat.le_refl _⟩
  · rintro ⟨m, b⟩ ⟨h1, h2⟩
    simp only at h1 h2
    have hm : (ws m).length ≤ 8796093022208 := Nat.le_trans (ws_len_le (Nat.lt_of_le_of_lt h2 (lt_ws_len n))) hn
    have hs := bigSmall_d (gl := gl) m 10 (by decide) (by decide) hm
    have h10 : ((m % 10 : Nat) : Int) < 10 := by omega
    have hbl : b.length ≤ 87960930222080 := by
      have := dl10_max n
      rw [h1, List.length_append] at this
      omega
    ((repeat' ((conv => whnf); (first | refine Fork.yes (by assumption) ?_ | refine Fork.no (by assumption) ?_ | refine Fork.nono (by assumption) ?_ | (refine Fork.yes ?_ ?_; focus (simp [andPD]; done)) | (refine Fork.no ?_ ?_; focus (simp [andPD]; done)) | refine Fork.neg (fun _ => ?_) (fun _ => ?_) | refine Fork.mk (fun _ => ?_) (fun _ => ?_) | refine Or.inl (Or.inl (Exists.intro _ (And.intro (by first | exact hs) ?_))) | refine Or.inl (Exists.intro _ (And.intro (by first | exact hs) ?_)) | refine Exists.intro _ (And.intro (by first | exact hs) ?_) | refine Both.mk ?_ ?_ | (refine And.intro ?_ ?_; focus (first | (kernel_rfl; done) | (first | assumption | omega | (simp; done); done)))))); (all_goals (conv => whnf)))
    · rename_i hx
      have hm0 : m ≠ 0 := fun e => by
        have hx' : 0 < (((wD (ws m)).length : Nat) : Int) := hx
        rw [e, wD_len, ws_zero] at hx'
        exact absurd hx' (by decide)
      refine ⟨⟨rfl, by show ((bD b).length + 1) * 1 ≤ 140737488355328; unfold bD; rw [List.length_map]; omega, by show (bD b).length + 1 ≤ maxLen; unfold bD maxLen; rw [List.length_map]; omega⟩, ?_⟩
      ((repeat' ((conv => whnf); (first | refine Fork.yes (by assumption) ?_ | refine Fork.no (by assumption) ?_ | refine Fork.nono (by assumption) ?_ | (refine Fork.yes ?_ ?_; focus (simp [andPD]; done)) | (refine Fork.no ?_ ?_; focus (simp [andPD]; done)) | refine Fork.neg (fun _ => ?_) (fun _ => ?_) | refine Fork.mk (fun _ => ?_) (fun _ => ?_) | refine Both.mk ?_ ?_ | (refine And.intro ?_ ?_; focus (first | (kernel_rfl; done) | (first | assumption | omega | (simp; done); done)))))); (all_goals (conv => whnf)))
      refine ⟨(m / 10, b ++ [dig (m % 10)]), ⟨⟨?_, Nat.le_trans (Nat.div_le_self _ _) h2⟩, Nat.div_lt_self (Nat.pos_of_ne_zero hm0) (by decide)⟩, ?_⟩
      · rw [h1, dl10_pos hm0, List.append_assoc]; rfl
      · ((repeat' first | exact rfl | ((conv => whnf); first | done | exact True.intro | exact Or.inr (Or.inl rfl) | exact Or.inr (Or.inr (Or.inl ⟨rfl, _, _, rfl, by omega⟩)) | refine And.intro ?_ ?_)); (all_goals (conv => whnf)))
        show bD b ++ [[D.v (.int .u8 (IntKind.u8.wrap (IntKind.u32.wrap (48 + ((m % 10 : Nat) : Int)))))]] = bD (b ++ [dig (m % 10)])
        rw [IntWalk.u32_in _ (by omega), IntWalk.u8_in _ (by omega), bD_app, dig_nat (Nat.mod_lt m (by decide))]
    · rename_i hx
      have hm0 : m = 0 := Classical.byContradiction fun e => hx (by
        show 0 < (((wD (ws m)).length : Nat) : Int)
        rw [wD_len]
        have : (ws m).length ≠ 0 := fun h => e (ws_nil.1 (List.eq_nil_of_length_eq_zero h))
        omega)
      have hb : b = dl10 n := by rw [h1, hm0, dl10_zero, List.append_nil]
      subst hm0
      have hb0 : b ≠ [] := by rw [hb, dl10_pos h0]; exact List.cons_ne_nil _ _
      have hbp : 0 < b.length := List.length_pos_iff.2 hb0
      refine ⟨{ σ := (Nat × List UInt8), fr := fun s => [(8, .c (.d (iD s.1))), (9, .c (.d (iD ((b.length - 1 - s.1 : Nat) : Int))))], ks := [0], L := fun s => [(0, .rows 1 (bD s.2) 5)], ex := 0, I := fun s => Turned b s.2 s.1, μ := fun s => b.length - s.1 }, ⟨(0, b), Turned.zero b, ?_⟩, ?_⟩
      · ((repeat' first | exact rfl | ((conv => whnf); first | done | exact True.intro | exact Or.inr (Or.inl rfl) | exact Or.inr (Or.inr (Or.inl ⟨rfl, _, _, rfl, by omega⟩)) | refine And.intro ?_ ?_)); (all_goals (conv => whnf)))
        exact ceq (show IntKind.i64.wrap ((((bD b).length : Nat) : Int) - 1) = ((b.length - 1 - 0 : Nat) : Int) by rw [bD_len, wrapI (by omega)]; omega)
      · rintro ⟨k, p⟩ ht
        have ht' : Turned b p k := ht
        obtain ⟨t1, t2, _⟩ := id ht'
        have hki : 0 ≤ (k : Int) ∧ (k : Int) < ((bD p).length : Nat) := by rw [bD_len]; omega
        have hji : 0 ≤ ((b.length - 1 - k : Nat) : Int) ∧ ((b.length - 1 - k : Nat) : Int) < ((bD p).length : Nat) := by rw [bD_len]; omega
        have hk : k < p.length := by omega
        have hj : b.length - 1 - k < p.length := by omega
        have hji2 : 0 ≤ ((b.length - 1 - k : Nat) : Int) ∧ ((b.length - 1 - k : Nat) : Int) < (((bD p).set ((k : Nat) : Int).toNat (u8D p[b.length - 1 - k])).length : Nat) := by rw [List.length_set]; exact hji
        ((repeat' ((conv => whnf); (first | refine Fork.yes (by assumption) ?_ | refine Fork.no (by assumption) ?_ | refine Fork.nono (by assumption) ?_ | (refine Fork.yes ?_ ?_; focus (simp [andPD]; done)) | (refine Fork.no ?_ ?_; focus (simp [andPD]; done)) | refine Fork.neg (fun _ => ?_) (fun _ => ?_) | refine Fork.mk (fun _ => ?_) (fun _ => ?_) | refine Both.mk ?_ ?_ | (refine And.intro ?_ ?_; focus (first | (kernel_rfl; done) | (first | exact hki | exact hji | exact hji2 | assumption | omega | (simp; done); done)))))); (all_goals (conv => whnf)))
        · rename_i hx
          have hx' : k < b.length - 1 - k := Int.ofNat_lt.1 hx
          have hj2 : b.length - 1 - k < (p.set k p[b.length - 1 - k]).length := by rw [List.length_set]; exact hj
          have hg3 : ((bD p).set ((k : Nat) : Int).toNat (u8D p[b.length - 1 - k]))[((b.length - 1 - k : Nat) : Int).toNat]? = some (u8D (p.set k p[b.length - 1 - k])[b.length - 1 - k]) := by rw [bset]; exact bget hj2
          refine ⟨_, bget hk, ?_⟩
          ((repeat' ((conv => whnf); (first | refine Fork.yes (by assumption) ?_ | refine Fork.no (by assumption) ?_ | refine Fork.nono (by assumption) ?_ | (refine Fork.yes ?_ ?_; focus (simp [andPD]; done)) | (refine Fork.no ?_ ?_; focus (simp [andPD]; done)) | refine Fork.neg (fun _ => ?_) (fun _ => ?_) | refine Fork.mk (fun _ => ?_) (fun _ => ?_) | refine Both.mk ?_ ?_ | (refine And.intro ?_ ?_; focus (first | (kernel_rfl; done) | (first | exact hki | exact hji | exact hji2 | assumption | omega | (simp; done); done)))))); (all_goals (conv => whnf)))
          refine ⟨_, bget hj, ?_⟩
          ((repeat' ((conv => whnf); (first | refine Fork.yes (by assumption) ?_ | refine Fork.no (by assumption) ?_ | refine Fork.nono (by assumption) ?_ | (refine Fork.yes ?_ ?_; focus (simp [andPD]; done)) | (refine Fork.no ?_ ?_; focus (simp [andPD]; done)) | refine Fork.neg (fun _ => ?_) (fun _ => ?_) | refine Fork.mk (fun _ => ?_) (fun _ => ?_) | refine Both.mk ?_ ?_ | (refine And.intro ?_ ?_; focus (first | (kernel_rfl; done) | (first | exact hki | exact hji | exact hji2 | assumption | omega | (simp; done); done)))))); (all_goals (conv => whnf)))
          refine ⟨_, bget hk, ?_⟩
          ((repeat' ((conv => whnf); (first | refine Fork.yes (by assumption) ?_ | refine Fork.no (by assumption) ?_ | refine Fork.nono (by assumption) ?_ | (refine Fork.yes ?_ ?_; focus (simp [andPD]; done)) | (refine Fork.no ?_ ?_; focus (simp [andPD]; done)) | refine Fork.neg (fun _ => ?_) (fun _ => ?_) | refine Fork.mk (fun _ => ?_) (fun _ => ?_) | refine Both.mk ?_ ?_ | (refine And.intro ?_ ?_; focus (first | (kernel_rfl; done) | (first | exact hki | exact hji | exact hji2 | assumption | omega | (simp; done); done)))))); (all_goals (conv => whnf)))
          refine ⟨_, hg3, ?_⟩
          ((repeat' ((conv => whnf); (first | refine Fork.yes (by assumption) ?_ | refine Fork.no (by assumption) ?_ | refine Fork.nono (by assumption) ?_ | (refine Fork.yes ?_ ?_; focus (simp [andPD]; done)) | (refine Fork.no ?_ ?_; focus (simp [andPD]; done)) | refine Fork.neg (fun _ => ?_) (fun _ => ?_) | refine Fork.mk (fun _ => ?_) (fun _ => ?_) | refine Both.mk ?_ ?_ | (refine And.intro ?_ ?_; focus (first | (kernel_rfl; done) | (first | exact hki | exact hji | exact hji2 | assumption | omega | (simp; done); done)))))); (all_goals (conv => whnf)))
          refine ⟨(k + 1, (p.set k p[b.length - 1 - k]).set (b.length - 1 - k) p[k]), ⟨ht'.step hx' hk hj, by show b.length - (k + 1) < b.length - k; omega⟩, ?_⟩
          ((repeat' first | exact rfl | ((conv => whnf); first | done | exact True.intro | exact Or.inr (Or.inl rfl) | exact Or.inr (Or.inr (Or.inl ⟨rfl, _, _, rfl, by omega⟩)) | refine And.intro ?_ ?_)); (all_goals (conv => whnf)))
          · exact ceq (show IntKind.i64.wrap ((k : Int) + 1) = ((k + 1 : Nat) : Int) by rw [wrapI (by omega)]; rfl)
          · exact ceq (show IntKind.i64.wrap (((b.length - 1 - k : Nat) : Int) - 1) = ((b.length - 1 - (k + 1) : Nat) : Int) by rw [wrapI (by omega)]; omega)
          · show List.set (List.set (bD p) ((k : Nat) : Int).toNat (u8D p[b.length - 1 - k])) ((b.length - 1 - k : Nat) : Int).toNat (u8D p[k]) = bD ((p.set k p[b.length - 1 - k]).set (b.length - 1 - k) p[k])
            rw [bset, bset]
        · rename_i hx
          have hx' : ¬ k < b.length - 1 - k := fun h => hx (Int.ofNat_lt.2 h)
          refine ⟨p, rfl, ?_⟩
          ((repeat' ((conv => whnf); (first | refine Fork.yes (by assumption) ?_ | refine Fork.no (by assumption) ?_ | refine Fork.nono (by assumption) ?_ | (refine Fork.yes ?_ ?_; focus (simp [andPD]; done)) | (refine Fork.no ?_ ?_; focus (simp [andPD]; done)) | refine Fork.neg (fun _ => ?_) (fun _ => ?_) | refine Fork.mk (fun _ => ?_) (fun _ => ?_) | refine Both.mk ?_ ?_ | (refine And.intro ?_ ?_; focus (first | (kernel_rfl; done) | (first | assumption | omega | (simp; done); done)))))); (all_goals (conv => whnf)))
          refine LeD.of (congrArg D.str ?_)
          rw [ht'.done hx', hb, decB, if_neg h0]
theorem String_p (n : Nat) (hn : (ws n).length ≤ 8796093022208) : FnP Tryz.prog gl 81 [.imm [fD, W n]] (.str (decB n)) := by
  have h := Text_p (gl := gl) n hn
  refine fnP_of_vc (nv := 9999) (cu := []) fits mixed Tryz.func81 rfl (by unfold HasBody; kernel_rfl) rfl ?_
  ((repeat' ((conv => whnf); (first | refine Fork.yes (by assumption) ?_ | refine Fork.no (by assumption) ?_ | refine Fork.nono (by assumption) ?_ | (refine Fork.yes ?_ ?_; focus (simp [andPD]; done)) | (refine Fork.no ?_ ?_; focus (simp [andPD]; done)) | refine Fork.neg (fun _ => ?_) (fun _ => ?_) | refine Fork.mk (fun _ => ?_) (fun _ => ?_) | refine Or.inl (Or.inl (Exists.intro _ (And.intro (by first | exact h) ?_))) | refine Or.inl (Exists.intro _ (And.intro (by first | exact h) ?_)) | refine Exists.intro _ (And.intro (by first | exact h) ?_) | refine Both.mk ?_ ?_ | (refine And.intro ?_ ?_; focus (first | (kernel_rfl; done) | (first | assumption | omega | (simp; done); done)))))); (all_goals (conv => whnf)))
  exact LeD.rfl
theorem Digits_p (n : Nat) (hn : n < 9223372036854775808) : FnP Tryz.prog gl 52 [iD n] (.str (decB n)) := by
  have h := String_p (gl := gl) n (Nat.le_trans (ws_len_le (k := 2) (Nat.lt_trans hn (by decide))) (by decide))
  have h2 := NewInt_p (gl := gl) n hn
  refine fnP_of_vc (nv := 9999) (cu := []) fits mixed Tryz.func52 rfl (by unfold HasBody; kernel_rfl) rfl ?_
  ((repeat' ((conv => whnf); (first | refine Fork.yes (by assumption) ?_ | refine Fork.no (by assumption) ?_ | refine Fork.nono (by assumption) ?_ | (refine Fork.yes ?_ ?_; focus (simp [andPD]; done)) | (refine Fork.no ?_ ?_; focus (simp [andPD]; done)) | refine Fork.neg (fun _ => ?_) (fun _ => ?_) | refine Fork.mk (fun _ => ?_) (fun _ => ?_) | refine Or.inl (Or.inl (Exists.intro _ (And.intro (by first | exact h | exact h2) ?_))) | refine Or.inl (Exists.intro _ (And.intro (by first | exact h | exact h2) ?_)) | refine Exists.intro _ (And.intro (by first | exact h | exact h2) ?_) | refine Both.mk ?_ ?_ | (refine And.intro ?_ ?_; focus (first | (kernel_rfl; done) | (first | assumption | omega | (simp; done); done)))))); (all_goals (conv => whnf)))
  exact LeD.rfl
end Go.Proofs.YtbkhfmgdnnaaoaaGreatDoor
