/- Proved: whole numbers as rows of digits of base 2^32. No condition. -/
import Derived.Handy
namespace Go.Proofs.YtbkhfmgdnnaaoaaGreatDoor
abbrev B32 : Nat := 4294967296
def val : List Nat → Nat
  | [] => 0
  | d :: r => d + B32 * val r
def ws (n : Nat) : List Nat := if h : n = 0 then [] else n % B32 :: ws (n / B32)
termination_by n
decreasing_by exact Nat.div_lt_self (Nat.pos_of_ne_zero h) (by decide)
theorem ws_zero : ws 0 = [] := by rw [ws]; rfl
theorem ws_pos {n : Nat} (h : n ≠ 0) : ws n = n % B32 :: ws (n / B32) := by rw [ws]; simp [h]
theorem val_ws (n : Nat) : val (ws n) = n := by
  induction n using Nat.strongRecOn with
  | ind n ih =>
    by_cases h : n = 0
    · subst h; rw [ws_zero]; rfl
    · rw [ws_pos h]
      show n % B32 + B32 * val (ws (n / B32)) = n
      rw [ih _ (Nat.div_lt_self (Nat.pos_of_ne_zero h) (by decide))]
      exact Nat.mod_add_div n B32
theorem ws_lt (n : Nat) : ∀ d ∈ ws n, d < B32 := by
  induction n using Nat.strongRecOn with
  | ind n ih =>
    by_cases h : n = 0
    · subst h; rw [ws_zero]; simp
    · rw [ws_pos h]
      intro d hd
      rcases List.mem_cons.1 hd with rfl | hd
      · exact Nat.mod_lt _ (by decide)
      · exact ih _ (Nat.div_lt_self (Nat.pos_of_ne_zero h) (by decide)) d hd
theorem ws_nil {n : Nat} : ws n = [] ↔ n = 0 := by
  constructor
  · intro h
    rw [← val_ws n, h]; rfl
  · rintro rfl; exact ws_zero
/-- The digits, the noughts at the end left out. -/
theorem ws_cons {d : Nat} {r : List Nat} (hd : d < B32) : ws (val (d :: r)) = if val (d :: r) = 0 then [] else d :: ws (val r) := by
  have e : val (d :: r) = d + B32 * val r := rfl
  by_cases h : val (d :: r) = 0
  · rw [h, ws_zero, if_pos rfl]
  · rw [ws_pos h, if_neg h, e, Nat.add_mul_mod_self_left, Nat.mod_eq_of_lt hd, Nat.add_mul_div_left _ _ (by decide), Nat.div_eq_of_lt hd, Nat.zero_add]
theorem val_app (l m : List Nat) : val (l ++ m) = val l + B32 ^ l.length * val m := by
  induction l with
  | nil => simp [val]
  | cons d r ih =>
    show d + B32 * val (r ++ m) = d + B32 * val r + B32 ^ (r.length + 1) * val m
    rw [ih, Nat.pow_succ, Nat.mul_add, Nat.mul_comm (B32 ^ r.length) B32, Nat.mul_assoc, Nat.add_assoc]
theorem val_lt {l : List Nat} (h : ∀ d ∈ l, d < B32) : val l < B32 ^ l.length := by
  induction l with
  | nil => simp [val]
  | cons d r ih =>
    have h1 := ih fun x hx => h x (List.mem_cons_of_mem _ hx)
    have h2 := h d (List.mem_cons_self ..)
    show d + B32 * val r < B32 ^ (r.length + 1)
    rw [Nat.pow_succ, Nat.mul_comm _ B32]
    have h3 : B32 * (val r + 1) ≤ B32 * B32 ^ r.length := Nat.mul_le_mul_left _ h1
    rw [Nat.mul_add, Nat.mul_one] at h3
    exact Nat.lt_of_lt_of_le (by omega) h3
theorem val_zeros (k : Nat) : val (List.replicate k 0) = 0 := by
  induction k with
  | zero => rfl
  | succ k ih => rw [List.replicate_succ]; show 0 + B32 * val _ = 0; rw [ih, Nat.mul_zero]
/-- A row without noughts at its end is the row of what it is worth. -/
theorem ws_val {l : List Nat} (h : ∀ d ∈ l, d < B32) (hl : ∀ d, l.getLast? = some d → d ≠ 0) : ws (val l) = l := by
  induction l with
  | nil => exact ws_zero
  | cons d r ih =>
    have hr : ws (val r) = r := ih (fun x hx => h x (List.mem_cons_of_mem _ hx)) (fun x hx => hl x (by
      cases r with
      | nil => cases hx
      | cons a b => rw [List.getLast?_cons_cons]; exact hx))
    rw [ws_cons (h d (List.mem_cons_self ..)), hr]
    rw [if_neg]
    intro h0
    have h0' : d + B32 * val r = 0 := h0
    have hr0 : val r = 0 := by
      rcases Nat.eq_zero_or_pos (val r) with e | e
      · exact e
      · exact absurd h0' (by have := Nat.mul_pos (show 0 < B32 by decide) e; omega)
    rw [hr0, ws_zero] at hr
    subst hr
    exact hl d rfl (by omega)
theorem ws_trim {l : List Nat} (k : Nat) (hk : k ≤ l.length) (h : ∀ d ∈ l, d < B32) (h0 : l.drop k = List.replicate (l.length - k) 0) (hl : ∀ d, (l.take k).getLast? = some d → d ≠ 0) : ws (val l) = l.take k := by
  have e : val l = val (l.take k) := by
    conv => lhs; rw [← List.take_append_drop k l]
    rw [val_app, h0, val_zeros, Nat.mul_zero, Nat.add_zero]
  rw [e]
  exact ws_val (fun d hd => h d (List.mem_of_mem_take hd)) hl
theorem pow_le {k n : Nat} (h : k ≤ n) : B32 ^ k ≤ B32 ^ n := Nat.pow_le_pow_right (by decide) h
theorem ws_last {n d : Nat} (h : (ws n).getLast? = some d) : d ≠ 0 := by
  induction n using Nat.strongRecOn with
  | ind n ih =>
    by_cases h0 : n = 0
    · subst h0; rw [ws_zero] at h; cases h
    · rw [ws_pos h0] at h
      by_cases h1 : n / B32 = 0
      · rw [h1, ws_zero] at h
        cases h
        have : n < B32 := by
          rcases Nat.lt_or_ge n B32 with e | e
          · exact e
          · exact absurd h1 (Nat.ne_of_gt (Nat.div_pos e (by decide)))
        rwa [Nat.mod_eq_of_lt this]
      · have h2 : ws (n / B32) ≠ [] := fun e => h1 (ws_nil.1 e)
        obtain ⟨a, b, e⟩ := List.exists_cons_of_ne_nil h2
        rw [e, List.getLast?_cons_cons, ← e] at h
        exact ih _ (Nat.div_lt_self (Nat.pos_of_ne_zero h0) (by decide)) h
/-- How long the row of a number is. -/
theorem ws_len_le {n k : Nat} (h : n < B32 ^ k) : (ws n).length ≤ k := by
  induction k generalizing n with
  | zero =>
    have : n = 0 := by simpa using h
    subst this; rw [ws_zero]; exact Nat.le_refl 0
  | succ k ih =>
    by_cases h0 : n = 0
    · subst h0; rw [ws_zero]; exact Nat.zero_le _
    · rw [ws_pos h0]
      have : n / B32 < B32 ^ k := Nat.div_lt_of_lt_mul (by rwa [Nat.mul_comm, ← Nat.pow_succ])
      simpa using ih this
theorem lt_ws_len (n : Nat) : n < B32 ^ (ws n).length := by
  have := val_lt (ws_lt n)
  rwa [val_ws] at this
theorem ws_len_ge {n k : Nat} (h : k < (ws n).length) : B32 ^ k ≤ n := by
  rcases Nat.lt_or_ge n (B32 ^ k) with e | e
  · exact absurd (ws_len_le e) (by omega)
  · exact e
end Go.Proofs.YtbkhfmgdnnaaoaaGreatDoor
