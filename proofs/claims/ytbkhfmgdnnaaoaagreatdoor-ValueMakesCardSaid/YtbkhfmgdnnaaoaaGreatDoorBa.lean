/- Proved: what the functions on rows of words return: trim, words, length, twin. No condition. -/
import Derived.Test.YtbkhfmgdnnaaoaaGreatDoorWa
import Derived.Test.YtbkhfmgdnnaaoaaGreatDoorPf
namespace Go.Proofs.YtbkhfmgdnnaaoaaGreatDoor
open Go Go.EYtbkhfmgdnnaaoaaGreatDoor
set_option maxRecDepth 100000
variable {gl : List (Nat × List D)}
abbrev u32D (d : Nat) : D := .v (.int .u32 d)
def wD (l : List Nat) : List (List D) := l.map fun d => [u32D d]
abbrev W (n : Nat) : D := .lst 1 (wD (ws n))
theorem wD_len (l : List Nat) : (wD l).length = l.length := List.length_map ..
theorem wget {l : List Nat} {k : Nat} (h : k < l.length) : (wD l)[((k : Nat) : Int).toNat]? = some [u32D l[k]] := by
  rw [Int.toNat_natCast]; unfold wD; rw [List.getElem?_map, List.getElem?_eq_getElem h]; rfl
theorem nilW_le (z : Nat) : LeD (.v (.slice none 0 0)) (.lst z []) := ⟨fun M w x hx => by rw [DenD.v_inv hx]; exact .lst0 z none 0 (Nat.zero_le _)⟩
theorem wD_take (l : List Nat) (n : Nat) : (wD l).take n = wD (l.take n) := (List.map_take ..).symm
theorem trim_d (l : List Nat) (hb : ∀ d ∈ l, d < B32) (hl : l.length ≤ maxLen) : FnP Tryz.prog gl 123 [.lst 1 (wD l)] (.lst 1 (wD (ws (val l)))) := by
  refine fnP_of_vc (nv := 9999) (cu := []) fits mixed Tryz.func123 rfl (by unfold HasBody; kernel_rfl) rfl ?_
  ((repeat' ((conv => whnf); (first | refine Fork.yes (by assumption) ?_ | refine Fork.no (by assumption) ?_ | refine Fork.nono (by assumption) ?_ | (refine Fork.yes ?_ ?_; focus (simp [andPD]; done)) | (refine Fork.no ?_ ?_; focus (simp [andPD]; done)) | refine Fork.neg (fun _ => ?_) (fun _ => ?_) | refine Fork.mk (fun _ => ?_) (fun _ => ?_) | refine Both.mk ?_ ?_ | (refine And.intro ?_ ?_; focus (first | (kernel_rfl; done) | (first | omega | (simp; done); done)))))); (all_goals (conv => whnf)))
  refine ⟨{ σ := Nat, fr := fun n => [(3, .c (.d (iD n)))], ks := [], L := fun _ => [], ex := 0, I := fun n => n ≤ l.length ∧ l.drop n = List.replicate (l.length - n) 0, μ := fun n => n }, ⟨l.length, ⟨Nat.le_refl _, by simp⟩, ?_⟩, fun (n : Nat) hn => ?_⟩
  · ((repeat' first | exact rfl | ((conv => whnf); first | done | exact True.intro | exact Or.inr (Or.inl rfl) | exact Or.inr (Or.inr (Or.inl ⟨rfl, _, _, rfl, by omega⟩)) | refine And.intro ?_ ?_)); (all_goals (conv => whnf)))
    exact ceq (by rw [wD_len])
  · obtain ⟨hn1, hn2⟩ := hn
    unfold maxLen at hl
    have fin : (∀ d, (l.take n).getLast? = some d → d ≠ 0) → ws (val l) = l.take n := ws_trim n hn1 hb hn2
    have hle : 0 ≤ (n : Int) ∧ (n : Int) ≤ ((wD l).length : Nat) := by rw [wD_len]; omega
    ((repeat' ((conv => whnf); (first | refine Fork.yes (by assumption) ?_ | refine Fork.no (by assumption) ?_ | refine Fork.nono (by assumption) ?_ | (refine Fork.yes ?_ ?_; focus (simp [andPD]; done)) | (refine Fork.no ?_ ?_; focus (simp [andPD]; done)) | refine Fork.neg (fun _ => ?_) (fun _ => ?_) | refine Fork.mk (fun _ => ?_) (fun _ => ?_) | refine Both.mk ?_ ?_ | (refine And.intro ?_ ?_; focus (first | (kernel_rfl; done) | (first | omega | (simp; done); done)))))); (all_goals (conv => whnf)))
    · have hlt : n - 1 < l.length := by omega
      rw [show IntKind.i64.wrap ((n : Int) - 1) = ((n - 1 : Nat) : Int) by rw [wrapI (by omega)]; omega]
      refine ⟨Int.natCast_nonneg _, _, wget hlt, ?_⟩
      ((repeat' ((conv => whnf); (first | refine Fork.yes (by assumption) ?_ | refine Fork.no (by assumption) ?_ | refine Fork.nono (by assumption) ?_ | (refine Fork.yes ?_ ?_; focus (simp [andPD]; done)) | (refine Fork.no ?_ ?_; focus (simp [andPD]; done)) | refine Fork.neg (fun _ => ?_) (fun _ => ?_) | refine Fork.mk (fun _ => ?_) (fun _ => ?_) | refine Both.mk ?_ ?_ | (refine And.intro ?_ ?_; focus (first | (kernel_rfl; done) | (first | omega | (simp; done); done)))))); (all_goals (conv => whnf)))
      · rename_i h0
        refine ⟨n - 1, ⟨⟨by omega, ?_⟩, by show n - 1 < n; omega⟩, ?_⟩
        · rw [List.drop_eq_getElem_cons hlt, show n - 1 + 1 = n by omega, hn2, show l[n - 1] = 0 by omega, ← List.replicate_succ, show l.length - n + 1 = l.length - (n - 1) by omega]
        · ((repeat' first | exact rfl | ((conv => whnf); first | done | exact True.intro | exact Or.inr (Or.inl rfl) | exact Or.inr (Or.inr (Or.inl ⟨rfl, _, _, rfl, by omega⟩)) | refine And.intro ?_ ?_)); (all_goals (conv => whnf)))
          exact ceq (by rw [wrapI (by omega)]; omega)
      · rename_i h0
        refine ⟨⟨Int.le_refl _, hle⟩, ?_⟩
        ((repeat' ((conv => whnf); (first | refine Fork.yes (by assumption) ?_ | refine Fork.no (by assumption) ?_ | refine Fork.nono (by assumption) ?_ | (refine Fork.yes ?_ ?_; focus (simp [andPD]; done)) | (refine Fork.no ?_ ?_; focus (simp [andPD]; done)) | refine Fork.neg (fun _ => ?_) (fun _ => ?_) | refine Fork.mk (fun _ => ?_) (fun _ => ?_) | refine Both.mk ?_ ?_ | (refine And.intro ?_ ?_; focus (first | (kernel_rfl; done) | (fail; done)))))); (all_goals (conv => whnf)))
        refine LeD.of (congrArg (D.lst 1) ?_)
        rw [fin fun d hd => ?_, ← wD_take]
        · simp
        · rw [show n = n - 1 + 1 by omega, List.take_succ_eq_append_getElem hlt, List.getLast?_append] at hd
          have hd' : l[n - 1] = d := Option.some.inj hd
          omega
    · have hn0 : n = 0 := by omega
      refine ⟨⟨Int.le_refl _, hle⟩, ?_⟩
      ((repeat' ((conv => whnf); (first | refine Fork.yes (by assumption) ?_ | refine Fork.no (by assumption) ?_ | refine Fork.nono (by assumption) ?_ | (refine Fork.yes ?_ ?_; focus (simp [andPD]; done)) | (refine Fork.no ?_ ?_; focus (simp [andPD]; done)) | refine Fork.neg (fun _ => ?_) (fun _ => ?_) | refine Fork.mk (fun _ => ?_) (fun _ => ?_) | refine Both.mk ?_ ?_ | (refine And.intro ?_ ?_; focus (first | (kernel_rfl; done) | (fail; done)))))); (all_goals (conv => whnf)))
      refine LeD.of (congrArg (D.lst 1) ?_)
      rw [fin fun d hd => ?_, ← wD_take]
      · simp
      · rw [hn0] at hd; cases hd
theorem words_d (x : Nat) (h : x < 18446744073709551616) : FnP Tryz.prog gl 93 [.v (.int .u64 x)] (W x) := by
  have e1 : IntKind.u32.wrap (x : Int) = ((x % B32 : Nat) : Int) := by rw [IntKind.wrap_u32]; simp
  have e2 : IntKind.u32.wrap ((x : Int).fdiv (2 ^ min (Int.toNat 32) IntKind.u64.bits)) = ((x / B32 : Nat) : Int) := by
    rw [show (2 : Int) ^ min (Int.toNat 32) IntKind.u64.bits = 4294967296 from by decide, Int.fdiv_eq_ediv_of_nonneg _ (by decide), IntKind.wrap_u32]
    simp only [B32]; omega
  have ht := trim_d (gl := gl) [x % B32, x / B32] (by
    intro d hd
    simp only [List.mem_cons, List.not_mem_nil, or_false] at hd
    rcases hd with rfl | rfl
    · exact Nat.mod_lt _ (by decide)
    · simp only [B32]; omega) (by unfold maxLen; simp)
  refine fnP_of_vc (nv := 9999) (cu := []) fits mixed Tryz.func93 rfl (by unfold HasBody; kernel_rfl) rfl ?_
  ((repeat' ((conv => whnf); (first | refine Fork.yes (by assumption) ?_ | refine Fork.no (by assumption) ?_ | refine Fork.nono (by assumption) ?_ | (refine Fork.yes ?_ ?_; focus (simp [andPD]; done)) | (refine Fork.no ?_ ?_; focus (simp [andPD]; done)) | refine Fork.neg (fun _ => ?_) (fun _ => ?_) | refine Fork.mk (fun _ => ?_) (fun _ => ?_) | refine Or.inr (Exists.intro _ (And.intro (by first | exact ht) ?_)) | (rw [e1, e2]) | refine Both.mk ?_ ?_ | (refine And.intro ?_ ?_; focus (first | (kernel_rfl; done) | (first | omega | (simp; done); done)))))); (all_goals (conv => whnf)))
  refine LeD.of ?_
  rw [show val [x % B32, x / B32] = x by show x % B32 + B32 * (x / B32 + B32 * 0) = x; rw [Nat.mul_zero, Nat.add_zero]; exact Nat.mod_add_div x B32]
  rfl
theorem allOne_wD (l : List Nat) : allOne (wD l) = true := by
  induction l with
  | nil => rfl
  | cons d l ih => exact ih
theorem twin_d (l : List Nat) (hl : l.length ≤ 35184372088832) : FnP Tryz.prog gl 126 [.lst 1 (wD l)] (.lst 1 (wD l)) := by
  refine fnP_of_vc (nv := 9999) (cu := []) fits mixed Tryz.func126 rfl (by unfold HasBody; kernel_rfl) rfl ?_
  ((repeat' ((conv => whnf); (first | refine Fork.yes (by assumption) ?_ | refine Fork.no (by assumption) ?_ | refine Fork.nono (by assumption) ?_ | (refine Fork.yes ?_ ?_; focus (simp [andPD]; done)) | (refine Fork.no ?_ ?_; focus (simp [andPD]; done)) | refine Fork.neg (fun _ => ?_) (fun _ => ?_) | refine Fork.mk (fun _ => ?_) (fun _ => ?_) | refine Both.mk ?_ ?_ | (refine And.intro ?_ ?_; focus (first | (kernel_rfl; done) | (exact ⟨allOne_wD l, by show (0 + (wD l).length) * 4 ≤ _; rw [wD_len]; omega, by show 0 + (wD l).length ≤ _; rw [wD_len]; unfold maxLen; omega⟩; done)))))); (all_goals (conv => whnf)))
  exact LeD.rfl
/-- How many bits a number has. -/
def blen (n : Nat) : Nat := if n = 0 then 0 else n.log2 + 1
theorem blen_of {n k : Nat} (h1 : 2 ^ k ≤ n) (h2 : n < 2 ^ (k + 1)) : blen n = k + 1 := by
  have hn : n ≠ 0 := by have := Nat.two_pow_pos k; omega
  unfold blen
  rw [if_neg hn]
  have a := (Nat.log2_lt hn).2 h2
  have b := (Nat.le_log2 hn).2 h1
  omega
theorem blen_le {n k : Nat} : blen n ≤ k ↔ n < 2 ^ k := by
  unfold blen
  split
  · subst n; simp [Nat.two_pow_pos]
  · rename_i h; rw [← Nat.log2_lt h]; omega
theorem top_le {n k : Nat} (h : (ws n).length = k + 1) : B32 ^ k * (ws n)[k] ≤ n ∧ n < B32 ^ k * ((ws n)[k] + 1) ∧ (ws n)[k] ≠ 0 ∧ (ws n)[k] < B32 := by
  have hk : k < (ws n).length := by omega
  have e : ws n = (ws n).take k ++ [(ws n)[k]] := by
    conv => lhs; rw [← List.take_length (l := ws n), h, List.take_succ_eq_append_getElem hk]
  have hv : val ((ws n).take k) + B32 ^ k * (ws n)[k] = n := by
    have := val_ws n
    rw [e, val_app, List.length_take, Nat.min_eq_left (by omega)] at this
    simpa [val] using this
  have hlt : val ((ws n).take k) < B32 ^ k := by
    have := val_lt (l := (ws n).take k) fun d hd => ws_lt n d (List.mem_of_mem_take hd)
    rwa [List.length_take, Nat.min_eq_left (by omega)] at this
  refine ⟨by omega, by rw [Nat.mul_add, Nat.mul_one]; omega, ?_, ws_lt n _ (List.getElem_mem hk)⟩
  refine ws_last (n := n) ?_
  rw [List.getLast?_eq_getElem?, show (ws n).length - 1 = k by omega]
  exact List.getElem?_eq_getElem hk
theorem shr1 (a : Nat) : (a : Int).fdiv (2 ^ min (Int.toNat 1) IntKind.u32.bits) = ((a / 2 : Nat) : Int) := by
  rw [show (2 : Int) ^ min (Int.toNat 1) IntKind.u32.bits = 2 from by decide, Int.fdiv_eq_ediv_of_nonneg _ (by decide)]; rfl
theorem ceqK {k : IntKind} {x y : Int} (h : x = y) {P : Prop} : C.d (.v (.int k y)) = C.junk ∨ C.d (.v (.int k x)) = C.d (.v (.int k y)) ∨ P := .inr (.inl (by rw [h]))
theorem length_d (n : Nat) (hn : (ws n).length ≤ 35184372088832) : FnP Tryz.prog gl 124 [W n] (iD (blen n)) := by
  have hwl := wD_len (ws n)
  rcases hk : (ws n).length with _ | k
  · have h0 : (((wD (ws n)).length : Nat) : Int) = 0 := by rw [hwl, hk]; rfl
    have hn0 : n = 0 := ws_nil.1 (List.eq_nil_of_length_eq_zero hk)
    refine fnP_of_vc (nv := 9999) (cu := []) fits mixed Tryz.func124 rfl (by unfold HasBody; kernel_rfl) rfl ?_
    ((repeat' ((conv => whnf); (first | refine Fork.yes (by assumption) ?_ | refine Fork.no (by assumption) ?_ | refine Fork.nono (by assumption) ?_ | (refine Fork.yes ?_ ?_; focus (simp [andPD]; done)) | (refine Fork.no ?_ ?_; focus (simp [andPD]; done)) | refine Fork.neg (fun _ => ?_) (fun _ => ?_) | refine Fork.mk (fun _ => ?_) (fun _ => ?_) | refine Both.mk ?_ ?_ | (refine And.intro ?_ ?_; focus (first | (kernel_rfl; done) | (first | omega | (simp; done); done)))))); (all_goals (conv => whnf)))
    subst hn0
    exact LeD.of rfl
  · have h0 : ¬ (((wD (ws n)).length : Nat) : Int) = 0 := by rw [hwl, hk]; omega
    have e1 : IntKind.i64.wrap ((((wD (ws n)).length : Nat) : Int) - 1) = (k : Int) := by rw [hwl, hk, wrapI (by omega)]; omega
    have hkl : k < (ws n).length := by omega
    obtain ⟨t1, t2, t3, t4⟩ := top_le hk
    refine fnP_of_vc (nv := 9999) (cu := []) fits mixed Tryz.func124 rfl (by unfold HasBody; kernel_rfl) rfl ?_
    ((repeat' ((conv => whnf); (first | refine Fork.yes (by assumption) ?_ | refine Fork.no (by assumption) ?_ | refine Fork.nono (by assumption) ?_ | (refine Fork.yes ?_ ?_; focus (simp [andPD]; done)) | (refine Fork.no ?_ ?_; focus (simp [andPD]; done)) | refine Fork.neg (fun _ => ?_) (fun _ => ?_) | refine Fork.mk (fun _ => ?_) (fun _ => ?_) | (rw [e1]) | refine Both.mk ?_ ?_ | (refine And.intro ?_ ?_; focus (first | (kernel_rfl; done) | (first | omega | (simp; done); done)))))); (all_goals (conv => whnf)))
    refine ⟨_, wget hkl, ?_⟩
    generalize (ws n)[k] = t at *
    ((repeat' ((conv => whnf); (first | refine Fork.yes (by assumption) ?_ | refine Fork.no (by assumption) ?_ | refine Fork.nono (by assumption) ?_ | (refine Fork.yes ?_ ?_; focus (simp [andPD]; done)) | (refine Fork.no ?_ ?_; focus (simp [andPD]; done)) | refine Fork.neg (fun _ => ?_) (fun _ => ?_) | refine Fork.mk (fun _ => ?_) (fun _ => ?_) | refine Both.mk ?_ ?_ | (refine And.intro ?_ ?_; focus (first | (kernel_rfl; done) | (first | omega | (simp; done); done)))))); (all_goals (conv => whnf)))
    refine ⟨{ σ := Nat, fr := fun j => [(3, .c (.d (iD j))), (4, .c (.d (u32D (t >>> j))))], ks := [], L := fun _ => [], ex := 0, I := fun j => j ≤ 32 ∧ (j = 0 ∨ t >>> (j - 1) ≠ 0), μ := fun j => 33 - j }, ⟨0, ⟨Nat.zero_le _, .inl rfl⟩, ?_⟩, fun (j : Nat) hj => ?_⟩
    · ((repeat' first | exact rfl | ((conv => whnf); first | done | exact True.intro | exact Or.inr (Or.inl rfl) | exact Or.inr (Or.inr (Or.inl ⟨rfl, _, _, rfl, by omega⟩)) | refine And.intro ?_ ?_)); (all_goals (conv => whnf)))
    · obtain ⟨hj1, hj2⟩ := hj
      ((repeat' ((conv => whnf); (first | refine Fork.yes (by assumption) ?_ | refine Fork.no (by assumption) ?_ | refine Fork.nono (by assumption) ?_ | (refine Fork.yes ?_ ?_; focus (simp [andPD]; done)) | (refine Fork.no ?_ ?_; focus (simp [andPD]; done)) | refine Fork.neg (fun _ => ?_) (fun _ => ?_) | refine Fork.mk (fun _ => ?_) (fun _ => ?_) | refine Both.mk ?_ ?_ | (refine And.intro ?_ ?_; focus (first | (kernel_rfl; done) | (first | omega | (simp; done); done)))))); (all_goals (conv => whnf)))
      · rename_i hx
        have hj : j < 32 := by
          rcases Nat.lt_or_ge j 32 with h | h
          · exact h
          · exfalso
            have : t >>> j = 0 := by
              rw [Nat.shiftRight_eq_div_pow]
              exact Nat.div_eq_of_lt (Nat.lt_of_lt_of_le t4 (Nat.pow_le_pow_right (n := 2) (by decide) h))
            omega
        refine ⟨j + 1, ⟨⟨hj, .inr ?_⟩, by show 33 - (j + 1) < 33 - j; omega⟩, ?_⟩
        · rw [Nat.add_sub_cancel]; omega
        · ((repeat' first | exact rfl | ((conv => whnf); first | done | exact True.intro | exact Or.inr (Or.inl rfl) | exact Or.inr (Or.inr (Or.inl ⟨rfl, _, _, rfl, by omega⟩)) | refine And.intro ?_ ?_)); (all_goals (conv => whnf)))
          · exact ceq (by rw [wrapI (by omega)]; rfl)
          · exact ceqK (by rw [shr1, Nat.shiftRight_succ])
      · rename_i hx
        have hz : t >>> j = 0 := by omega
        rcases j with _ | i
        · exact absurd hz t3
        · have h1 : 2 ^ i ≤ t := by
            rcases hj2 with h | h
            · omega
            · rw [Nat.add_sub_cancel, Nat.shiftRight_eq_div_pow] at h
              rcases Nat.lt_or_ge t (2 ^ i) with h' | h'
              · exact absurd (Nat.div_eq_of_lt h') h
              · exact h'
          have h2 : t < 2 ^ (i + 1) := by
            rw [Nat.shiftRight_eq_div_pow] at hz
            exact (Nat.div_eq_zero_iff_lt (Nat.two_pow_pos _)).1 hz
          have hB : B32 ^ k = 2 ^ (32 * k) := by rw [Nat.pow_mul]
          have hbl : blen n = 32 * k + i + 1 := by
            refine blen_of ?_ ?_
            · rw [Nat.pow_add, ← hB]; exact Nat.le_trans (Nat.mul_le_mul_left _ h1) t1
            · rw [Nat.add_assoc, Nat.pow_add, ← hB]; exact Nat.lt_of_lt_of_le t2 (Nat.mul_le_mul_left _ h2)
          refine LeD.of (congrArg iD ?_)
          rw [e1, wrapI (n := (k : Int) * 32) (by omega), wrapI (by omega), hbl]
          omega
end Go.Proofs.YtbkhfmgdnnaaoaaGreatDoor
