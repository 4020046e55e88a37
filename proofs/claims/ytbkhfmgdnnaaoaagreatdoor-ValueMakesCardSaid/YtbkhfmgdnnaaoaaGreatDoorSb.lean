/- Proved: bits of rows of words; what the methods of Int leave and return on numbers that are negative. No condition. -/
import Derived.Test.YtbkhfmgdnnaaoaaGreatDoorSa
namespace Go.Proofs.YtbkhfmgdnnaaoaaGreatDoor
open Go Go.EYtbkhfmgdnnaaoaaGreatDoor
set_option maxRecDepth 100000
variable {gl : List (Nat × List D)}
theorem ws_get {m k : Nat} (h : k < (ws m).length) : (ws m)[k] = m / B32 ^ k % B32 := by
  induction k generalizing m with
  | zero =>
    have h0 : m ≠ 0 := fun e => by subst e; rw [ws_zero] at h; cases h
    simp only [ws_pos h0, List.getElem_cons_zero, Nat.pow_zero, Nat.div_one]
  | succ k ih =>
    have h0 : m ≠ 0 := fun e => by subst e; rw [ws_zero] at h; cases h
    have h1 : k < (ws (m / B32)).length := by rw [ws_pos h0] at h; simpa using h
    simp only [ws_pos h0, List.getElem_cons_succ]
    rw [ih h1, Nat.div_div_eq_div_mul, Nat.pow_succ, Nat.mul_comm]
theorem bit_word (m k : Nat) : m / B32 ^ (k / 32) % B32 / 2 ^ (k % 32) % 2 = m / 2 ^ k % 2 := by
  have e1 : B32 ^ (k / 32) = 2 ^ (32 * (k / 32)) := by rw [Nat.pow_mul]
  have e2 : 2 ^ k = 2 ^ (32 * (k / 32)) * 2 ^ (k % 32) := by rw [← Nat.pow_add, Nat.div_add_mod]
  rw [e1, e2, ← Nat.div_div_eq_div_mul]
  generalize m / 2 ^ (32 * (k / 32)) = x
  have h1 := Nat.testBit_mod_two_pow x 32 (k % 32)
  have h2 : k % 32 < 32 := Nat.mod_lt _ (by decide)
  rw [show decide (k % 32 < 32) = true from decide_eq_true h2, Bool.true_and, Nat.testBit_eq_decide_div_mod_eq, Nat.testBit_eq_decide_div_mod_eq, decide_eq_decide] at h1
  have h3 := Nat.mod_two_eq_zero_or_one (x % B32 / 2 ^ (k % 32))
  have h4 := Nat.mod_two_eq_zero_or_one (x / 2 ^ (k % 32))
  have h1' : x % B32 / 2 ^ (k % 32) % 2 = 1 ↔ x / 2 ^ (k % 32) % 2 = 1 := h1
  omega
theorem and1 (a : Nat) (ha : a < 18446744073709551616) : IntKind.u64.wrap ((BitVec.ofInt IntKind.u64.bits (a : Int) &&& BitVec.ofInt IntKind.u64.bits 1).toNat) = ((a % 2 : Nat) : Int) := by
  have e : a &&& 1 = a % 2 := Nat.and_one_is_mod a
  have h1 : (BitVec.ofInt IntKind.u64.bits (a : Int) &&& BitVec.ofInt IntKind.u64.bits 1).toNat = a % 2 := by
    rw [BitVec.toNat_and, BitVec.toNat_ofInt, BitVec.toNat_ofInt, ← e]
    congr 1
    show ((a : Int) % 18446744073709551616).toNat = a
    omega
  rw [h1, u64w]; omega
theorem bit_d (m k : Nat) (hm : (ws m).length ≤ 35184372088832) (hk : k < 1000) : FnP Tryz.prog gl 156 [W m, iD k] (uD (m / 2 ^ k % 2)) := by
  have wa := wD_len (ws m)
  have h0 : ¬ (k : Int) < 0 := by omega
  have e1 : IntKind.i64.wrap ((k : Int).tdiv 32) = ((k / 32 : Nat) : Int) := by
    rw [Int.tdiv_eq_ediv_of_nonneg (by omega), wrapI (by omega)]; omega
  by_cases h : k / 32 < (ws m).length
  · have h1 : ¬ (((wD (ws m)).length : Nat) : Int) ≤ IntKind.i64.wrap ((k : Int).tdiv 32) := by rw [e1, wa]; omega
    refine fnP_of_vc (nv := 9999) (cu := []) fits mixed Tryz.func156 rfl (by unfold HasBody; kernel_rfl) rfl ?_
    ((repeat' ((conv => whnf); (first | refine Fork.yes (by assumption) ?_ | refine Fork.no (by assumption) ?_ | refine Fork.nono (by assumption) ?_ | (refine Fork.yes ?_ ?_; focus (simp [andPD]; done)) | (refine Fork.no ?_ ?_; focus (simp [andPD]; done)) | refine Fork.neg (fun _ => ?_) (fun _ => ?_) | refine Fork.mk (fun _ => ?_) (fun _ => ?_) | refine Both.mk ?_ ?_ | (refine And.intro ?_ ?_; focus (first | (kernel_rfl; done) | (first | omega | (simp; done); done)))))); (all_goals (conv => whnf)))
    refine ⟨[u32D (ws m)[k / 32]], by rw [e1]; exact wget h, ?_⟩
    have e2 : (IntKind.u64.wrap (k : Int)).tmod 32 = ((k % 32 : Nat) : Int) := by
      rw [w64 (by omega), Int.tmod_eq_emod_of_nonneg (by omega)]; omega
    ((repeat' ((conv => whnf); (first | refine Fork.yes (by assumption) ?_ | refine Fork.no (by assumption) ?_ | refine Fork.nono (by assumption) ?_ | (refine Fork.yes ?_ ?_; focus (simp [andPD]; done)) | (refine Fork.no ?_ ?_; focus (simp [andPD]; done)) | refine Fork.neg (fun _ => ?_) (fun _ => ?_) | refine Fork.mk (fun _ => ?_) (fun _ => ?_) | refine Both.mk ?_ ?_ | (refine And.intro ?_ ?_; focus (first | (kernel_rfl; done) | (first | omega | (simp; done) | (rw [e2]; omega); done)))))); (all_goals (conv => whnf)))
    refine LeD.of (congrArg (fun z => D.v (.int .u64 z)) ?_)
    have hd := ws_lt m _ (List.getElem_mem h)
    rw [e2, ws_get h]
    rw [ws_get h] at hd
    have hb := bit_word m k
    generalize m / B32 ^ (k / 32) % B32 = d at *
    have e3 : (d : Int).fdiv (2 ^ min (Int.toNat ((k % 32 : Nat) : Int)) IntKind.u32.bits) = ((d / 2 ^ (k % 32) : Nat) : Int) := by
      rw [Int.toNat_natCast, show min (k % 32) IntKind.u32.bits = k % 32 from Nat.min_eq_left (by show k % 32 ≤ 32; omega), Int.fdiv_eq_ediv_of_nonneg _ (Int.le_of_lt (Int.pow_pos (by decide)))]
      norm_cast
    have hle := Nat.div_le_self d (2 ^ (k % 32))
    simp only [B32] at hd
    show IntKind.u64.wrap ((BitVec.ofInt IntKind.u64.bits (IntKind.u64.wrap ((d : Int).fdiv (2 ^ min (Int.toNat ((k % 32 : Nat) : Int)) IntKind.u32.bits))) &&& BitVec.ofInt IntKind.u64.bits 1).toNat) = _
    rw [e3, w64 (x := d / 2 ^ (k % 32)) (by omega), and1 _ (by omega), hb]
  · have h1 : (((wD (ws m)).length : Nat) : Int) ≤ IntKind.i64.wrap ((k : Int).tdiv 32) := by rw [e1, wa]; omega
    refine fnP_of_vc (nv := 9999) (cu := []) fits mixed Tryz.func156 rfl (by unfold HasBody; kernel_rfl) rfl ?_
    ((repeat' ((conv => whnf); (first | refine Fork.yes (by assumption) ?_ | refine Fork.no (by assumption) ?_ | refine Fork.nono (by assumption) ?_ | (refine Fork.yes ?_ ?_; focus (simp [andPD]; done)) | (refine Fork.no ?_ ?_; focus (simp [andPD]; done)) | refine Fork.neg (fun _ => ?_) (fun _ => ?_) | refine Fork.mk (fun _ => ?_) (fun _ => ?_) | refine Both.mk ?_ ?_ | (refine And.intro ?_ ?_; focus (first | (kernel_rfl; done) | (first | omega | (simp; done); done)))))); (all_goals (conv => whnf)))
    refine LeD.of (congrArg (fun z => D.v (.int .u64 z)) ?_)
    have h2 := lt_ws_len m
    have h3 := pow_le (show (ws m).length ≤ k / 32 by omega)
    have h4 : m < 2 ^ k := by
      have e : 2 ^ k = B32 ^ (k / 32) * 2 ^ (k % 32) := by rw [show B32 = 2 ^ 32 from rfl, ← Nat.pow_mul, ← Nat.pow_add, Nat.div_add_mod]
      rw [e]
      have := Nat.le_mul_of_pos_right (B32 ^ (k / 32)) (Nat.two_pow_pos (k % 32))
      omega
    rw [Nat.div_eq_of_lt h4]; rfl
/-- A number is odd times a power of two. -/
theorem two_part {m : Nat} (h : m ≠ 0) : ∃ K, m % 2 ^ K = 0 ∧ m / 2 ^ K % 2 = 1 := by
  induction m using Nat.strongRecOn with
  | ind m ih =>
    by_cases h1 : m % 2 = 1
    · exact ⟨0, by simp [Nat.mod_one], by simpa using h1⟩
    · obtain ⟨K, h2, h3⟩ := ih (m / 2) (by omega) (by omega)
      refine ⟨K + 1, ?_, ?_⟩
      · have e : m = 2 * (m / 2) := by omega
        rw [e, Nat.pow_succ, Nat.mul_comm _ 2, Nat.mul_mod_mul_left, h2]
      · rw [Nat.pow_succ, Nat.mul_comm _ 2, ← Nat.div_div_eq_div_mul]; exact h3
theorem part_zero {m K k : Nat} (h : m % 2 ^ K = 0) (hk : k < K) : m / 2 ^ k % 2 = 0 := by
  obtain ⟨q, hq⟩ := Nat.dvd_of_mod_eq_zero h
  have e : 2 ^ K = 2 ^ k * (2 * 2 ^ (K - k - 1)) := by rw [← Nat.pow_succ', ← Nat.pow_add]; congr 1; omega
  rw [hq, e, Nat.mul_assoc, Nat.mul_div_cancel_left _ (Nat.two_pow_pos k), Nat.mul_assoc, Nat.mul_mod_right]
theorem TZB_d (x : D) (m : Nat) (h : m ≠ 0) (hm : m < 18446744073709551616) : ∃ K, K < 64 ∧ m % 2 ^ K = 0 ∧ m / 2 ^ K % 2 = 1 ∧ FnP Tryz.prog gl 125 [.imm [x, W m]] (uD K) := by
  obtain ⟨K, h1, h2⟩ := two_part h
  have hK : K < 64 := by
    rcases Nat.lt_or_ge K 64 with h3 | h3
    · exact h3
    · have h4 : 2 ^ 64 ≤ 2 ^ K := Nat.pow_le_pow_right (by decide) h3
      have h5 : m / 2 ^ K = 0 := Nat.div_eq_of_lt (Nat.lt_of_lt_of_le hm h4)
      rw [h5] at h2; cases h2
  refine ⟨K, hK, h1, h2, ?_⟩
  have wa := wD_len (ws m)
  have hl : (ws m).length ≤ 2 := ws_len_le hm
  have hn : ¬ (((wD (ws m)).length : Nat) : Int) = 0 := by
    rw [wa]; intro e
    exact h (ws_nil.1 (List.eq_nil_of_length_eq_zero (by omega)))
  refine fnP_of_vc (nv := 9999) (cu := []) fits mixed Tryz.func125 rfl (by unfold HasBody; kernel_rfl) rfl ?_
  ((repeat' ((conv => whnf); (first | refine Fork.yes (by assumption) ?_ | refine Fork.no (by assumption) ?_ | refine Fork.nono (by assumption) ?_ | (refine Fork.yes ?_ ?_; focus (simp [andPD]; done)) | (refine Fork.no ?_ ?_; focus (simp [andPD]; done)) | refine Fork.neg (fun _ => ?_) (fun _ => ?_) | refine Fork.mk (fun _ => ?_) (fun _ => ?_) | refine Both.mk ?_ ?_ | (refine And.intro ?_ ?_; focus (first | (kernel_rfl; done) | (first | omega | (simp; done); done)))))); (all_goals (conv => whnf)))
  refine ⟨{ σ := Nat, fr := fun k => [(3, .c (.d (uD k)))], ks := [], L := fun _ => [], ex := 0, I := fun k => k ≤ K, μ := fun k => K - k }, ⟨0, Nat.zero_le _, ?_⟩, fun (k : Nat) (hk : k ≤ K) => ?_⟩
  · ((repeat' first | exact rfl | ((conv => whnf); first | done | exact True.intro | exact Or.inr (Or.inl rfl) | exact Or.inr (Or.inr (Or.inl ⟨rfl, _, _, rfl, by omega⟩)) | refine And.intro ?_ ?_)); (all_goals (conv => whnf)))
  · have hb := bit_d (gl := gl) m k (by omega) (by omega)
    have ek : IntKind.i64.wrap (k : Int) = (k : Int) := wrapI (by omega)
    have hb2 : FnP Tryz.prog gl 156 [W m, .v (.int .i64 (IntKind.i64.wrap (k : Int)))] (uD (m / 2 ^ k % 2)) := by rw [ek]; exact hb
    rcases Nat.lt_or_ge k K with hlt | hge
    · have h3 := part_zero h1 hlt
      rw [h3] at hb2
      ((repeat' ((conv => whnf); (first | refine Fork.yes (by assumption) ?_ | refine Fork.no (by assumption) ?_ | refine Fork.nono (by assumption) ?_ | (refine Fork.yes ?_ ?_; focus (simp [andPD]; done)) | (refine Fork.no ?_ ?_; focus (simp [andPD]; done)) | refine Fork.neg (fun _ => ?_) (fun _ => ?_) | refine Fork.mk (fun _ => ?_) (fun _ => ?_) | refine Or.inl (Or.inl (Exists.intro _ (And.intro (by first | exact hb2) ?_))) | refine Or.inl (Exists.intro _ (And.intro (by first | exact hb2) ?_)) | refine Exists.intro _ (And.intro (by first | exact hb2) ?_) | refine Both.mk ?_ ?_ | (refine And.intro ?_ ?_; focus (first | (kernel_rfl; done) | (first | omega | (simp; done); done)))))); (all_goals (conv => whnf)))
      refine ⟨k + 1, ⟨hlt, by show K - (k + 1) < K - k; omega⟩, ?_⟩
      ((repeat' first | exact rfl | ((conv => whnf); first | done | exact True.intro | exact Or.inr (Or.inl rfl) | exact Or.inr (Or.inr (Or.inl ⟨rfl, _, _, rfl, by omega⟩)) | refine And.intro ?_ ?_)); (all_goals (conv => whnf)))
      exact ceqK (by rw [IntWalk.u64_in _ (by omega)]; rfl)
    · have he : k = K := by omega
      subst he
      rw [h2] at hb2
      ((repeat' ((conv => whnf); (first | refine Fork.yes (by assumption) ?_ | refine Fork.no (by assumption) ?_ | refine Fork.nono (by assumption) ?_ | (refine Fork.yes ?_ ?_; focus (simp [andPD]; done)) | (refine Fork.no ?_ ?_; focus (simp [andPD]; done)) | refine Fork.neg (fun _ => ?_) (fun _ => ?_) | refine Fork.mk (fun _ => ?_) (fun _ => ?_) | refine Or.inl (Or.inl (Exists.intro _ (And.intro (by first | exact hb2) ?_))) | refine Or.inl (Exists.intro _ (And.intro (by first | exact hb2) ?_)) | refine Exists.intro _ (And.intro (by first | exact hb2) ?_) | refine Both.mk ?_ ?_ | (refine And.intro ?_ ?_; focus (first | (kernel_rfl; done) | (first | omega | (simp; done); done)))))); (all_goals (conv => whnf)))
      exact LeD.rfl
theorem tz63 {m K : Nat} (h1 : 9223372036854775808 ≤ m) (h2 : m < 18446744073709551616) (h3 : m % 2 ^ K = 0) (h4 : m / 2 ^ K % 2 = 1) : K = 63 ↔ m = 9223372036854775808 := by
  constructor
  · rintro rfl
    have : (2 : Nat) ^ 63 = 9223372036854775808 := by decide
    rw [this] at h3
    omega
  · rintro rfl
    rcases Nat.lt_trichotomy K 63 with h | h | h
    · have := part_zero (m := 9223372036854775808) (K := 63) (k := K) (by decide) h
      omega
    · exact h
    · have h5 : (9223372036854775808 : Nat) < 2 ^ K := Nat.lt_of_lt_of_le (show 9223372036854775808 < 2 ^ 64 by decide) (Nat.pow_le_pow_right (by decide) h)
      rw [Nat.mod_eq_of_lt h5] at h3; cases h3
/-- A number with a minus, or nought. -/
abbrev nB (m : Nat) : D := .b (m ≠ 0) inferInstance
theorem IsInt64_n (m : Nat) (hm : (ws m).length ≤ 35184372088832) : FnP Tryz.prog gl 92 [.imm [nB m, W m]] (.b (m ≤ 9223372036854775808) inferInstance) := by
  have hl := length_d (gl := gl) m (by omega)
  have hb := blen_le (n := m) (k := 63)
  have hb2 := blen_le (n := m) (k := 64)
  have e63 : (2 : Nat) ^ 63 = 9223372036854775808 := by decide
  have e64 : (2 : Nat) ^ 64 = 18446744073709551616 := by decide
  rw [e63] at hb
  rw [e64] at hb2
  by_cases h64 : blen m = 64
  · have h0 : m ≠ 0 := fun e => by subst e; simp [blen] at h64
    have h1 : 9223372036854775808 ≤ m := by omega
    have h2 : m < 18446744073709551616 := by omega
    obtain ⟨K, k1, k2, k3, k4⟩ := TZB_d (gl := gl) (nB m) m h0 h2
    have k5 := tz63 h1 h2 k2 k3
    rw [h64] at hl
    refine fnP_of_vc (nv := 9999) (cu := []) fits mixed Tryz.func92 rfl (by unfold HasBody; kernel_rfl) rfl ?_
    ((repeat' ((conv => whnf); (first | refine Fork.yes (by assumption) ?_ | refine Fork.no (by assumption) ?_ | refine Fork.nono (by assumption) ?_ | (refine Fork.yes ?_ ?_; focus (simp [andPD]; done)) | (refine Fork.no ?_ ?_; focus (simp [andPD]; done)) | refine Fork.neg (fun _ => ?_) (fun _ => ?_) | refine Fork.mk (fun _ => ?_) (fun _ => ?_) | refine Or.inl (Or.inl (Exists.intro _ (And.intro (by first | exact hl | exact k4) ?_))) | refine Or.inl (Exists.intro _ (And.intro (by first | exact hl | exact k4) ?_)) | refine Exists.intro _ (And.intro (by first | exact hl | exact k4) ?_) | refine Both.mk ?_ ?_ | (refine And.intro ?_ ?_; focus (first | (kernel_rfl; done) | (first | omega | (simp; done); done)))))); (all_goals (conv => whnf)))
    all_goals first | exact LeD.bt (by omega) | exact LeD.bf (by omega) | exact LeD.b (by omega)
  · have h65 : ¬ (blen m : Int) = 64 := by omega
    refine fnP_of_vc (nv := 9999) (cu := []) fits mixed Tryz.func92 rfl (by unfold HasBody; kernel_rfl) rfl ?_
    ((repeat' ((conv => whnf); (first | refine Fork.yes (by assumption) ?_ | refine Fork.no (by assumption) ?_ | refine Fork.nono (by assumption) ?_ | (refine Fork.yes ?_ ?_; focus (simp [andPD]; done)) | (refine Fork.no ?_ ?_; focus (simp [andPD]; done)) | refine Fork.neg (fun _ => ?_) (fun _ => ?_) | refine Fork.mk (fun _ => ?_) (fun _ => ?_) | refine Or.inl (Or.inl (Exists.intro _ (And.intro (by first | exact hl) ?_))) | refine Or.inl (Exists.intro _ (And.intro (by first | exact hl) ?_)) | refine Exists.intro _ (And.intro (by first | exact hl) ?_) | refine Both.mk ?_ ?_ | (refine And.intro ?_ ?_; focus (first | (kernel_rfl; done) | (first | omega | (simp; done); done)))))); (all_goals (conv => whnf)))
    all_goals first | exact LeD.bt (by omega) | exact LeD.bf (by omega) | exact LeD.b (by omega)
theorem Fits_n (m : Nat) (hm : (ws m).length ≤ 35184372088832) : FnP Tryz.prog gl 70 [.imm [nB m, W m]] (.b (m ≤ 9223372036854775808) inferInstance) := by
  have hl := IsInt64_n (gl := gl) m hm
  refine fnP_of_vc (nv := 9999) (cu := []) fits mixed Tryz.func70 rfl (by unfold HasBody; kernel_rfl) rfl ?_
  ((repeat' ((conv => whnf); (first | refine Fork.yes (by assumption) ?_ | refine Fork.no (by assumption) ?_ | refine Fork.nono (by assumption) ?_ | (refine Fork.yes ?_ ?_; focus (simp [andPD]; done)) | (refine Fork.no ?_ ?_; focus (simp [andPD]; done)) | refine Fork.neg (fun _ => ?_) (fun _ => ?_) | refine Fork.mk (fun _ => ?_) (fun _ => ?_) | refine Or.inl (Or.inl (Exists.intro _ (And.intro (by first | exact hl) ?_))) | refine Or.inl (Exists.intro _ (And.intro (by first | exact hl) ?_)) | refine Exists.intro _ (And.intro (by first | exact hl) ?_) | refine Both.mk ?_ ?_ | (refine And.intro ?_ ?_; focus (first | (kernel_rfl; done) | (first | omega | (simp; done); done)))))); (all_goals (conv => whnf)))
  exact LeD.rfl
theorem Uint64_x (x : D) (n : Nat) (hn : n < 18446744073709551616) : FnP Tryz.prog gl 75 [.imm [x, W n]] (.v (.int .u64 n)) := by
  by_cases h0 : n = 0
  · subst h0
    simp only [W, ws_zero, wD, List.map]
    refine fnP_of_vc (nv := 9999) (cu := []) fits mixed Tryz.func75 rfl (by unfold HasBody; kernel_rfl) rfl ?_
    ((repeat' ((conv => whnf); (first | refine Fork.yes (by assumption) ?_ | refine Fork.no (by assumption) ?_ | refine Fork.nono (by assumption) ?_ | (refine Fork.yes ?_ ?_; focus (simp [andPD]; done)) | (refine Fork.no ?_ ?_; focus (simp [andPD]; done)) | refine Fork.neg (fun _ => ?_) (fun _ => ?_) | refine Fork.mk (fun _ => ?_) (fun _ => ?_) | refine Both.mk ?_ ?_ | (refine And.intro ?_ ?_; focus (first | (kernel_rfl; done) | (first | omega | (simp; done); done)))))); (all_goals (conv => whnf)))
    exact LeD.rfl
  by_cases h1 : n < B32
  · have e : ws n = [n] := by rw [ws_pos h0, Nat.div_eq_of_lt h1, Nat.mod_eq_of_lt h1, ws_zero]
    simp only [W, e, wD, List.map]
    refine fnP_of_vc (nv := 9999) (cu := []) fits mixed Tryz.func75 rfl (by unfold HasBody; kernel_rfl) rfl ?_
    ((repeat' ((conv => whnf); (first | refine Fork.yes (by assumption) ?_ | refine Fork.no (by assumption) ?_ | refine Fork.nono (by assumption) ?_ | (refine Fork.yes ?_ ?_; focus (simp [andPD]; done)) | (refine Fork.no ?_ ?_; focus (simp [andPD]; done)) | refine Fork.neg (fun _ => ?_) (fun _ => ?_) | refine Fork.mk (fun _ => ?_) (fun _ => ?_) | refine Both.mk ?_ ?_ | (refine And.intro ?_ ?_; focus (first | (kernel_rfl; done) | (first | omega | (simp; done); done)))))); (all_goals (conv => whnf)))
    refine ⟨_, rfl, ?_⟩
    ((repeat' ((conv => whnf); (first | refine Fork.yes (by assumption) ?_ | refine Fork.no (by assumption) ?_ | refine Fork.nono (by assumption) ?_ | (refine Fork.yes ?_ ?_; focus (simp [andPD]; done)) | (refine Fork.no ?_ ?_; focus (simp [andPD]; done)) | refine Fork.neg (fun _ => ?_) (fun _ => ?_) | refine Fork.mk (fun _ => ?_) (fun _ => ?_) | refine Both.mk ?_ ?_ | (refine And.intro ?_ ?_; focus (first | (kernel_rfl; done) | (first | omega | (simp; done); done)))))); (all_goals (conv => whnf)))
    exact LeD.of (by rw [w64 hn]; rfl)
  have h2 : n / B32 < B32 := by simp only [B32] at *; omega
  have h3 : n % B32 < B32 := Nat.mod_lt _ (by decide)
  have e : ws n = [n % B32, n / B32] := by rw [ws_pos h0, ws_pos (n := n / B32) (by simp only [B32] at *; omega), Nat.mod_eq_of_lt h2, Nat.div_eq_of_lt h2, ws_zero]
  have ec : n = n % B32 + B32 * (n / B32) := (Nat.mod_add_div n B32).symm
  generalize n % B32 = a at *
  generalize n / B32 = b at *
  simp only [W, e, wD, List.map]
  refine fnP_of_vc (nv := 9999) (cu := []) fits mixed Tryz.func75 rfl (by unfold HasBody; kernel_rfl) rfl ?_
  ((repeat' ((conv => whnf); (first | refine Fork.yes (by assumption) ?_ | refine Fork.no (by assumption) ?_ | refine Fork.nono (by assumption) ?_ | (refine Fork.yes ?_ ?_; focus (simp [andPD]; done)) | (refine Fork.no ?_ ?_; focus (simp [andPD]; done)) | refine Fork.neg (fun _ => ?_) (fun _ => ?_) | refine Fork.mk (fun _ => ?_) (fun _ => ?_) | refine Both.mk ?_ ?_ | (refine And.intro ?_ ?_; focus (first | (kernel_rfl; done) | (first | omega | (simp; done); done)))))); (all_goals (conv => whnf)))
  refine ⟨_, rfl, ?_⟩
  ((repeat' ((conv => whnf); (first | refine Fork.yes (by assumption) ?_ | refine Fork.no (by assumption) ?_ | refine Fork.nono (by assumption) ?_ | (refine Fork.yes ?_ ?_; focus (simp [andPD]; done)) | (refine Fork.no ?_ ?_; focus (simp [andPD]; done)) | refine Fork.neg (fun _ => ?_) (fun _ => ?_) | refine Fork.mk (fun _ => ?_) (fun _ => ?_) | refine Both.mk ?_ ?_ | (refine And.intro ?_ ?_; focus (first | (kernel_rfl; done) | (first | omega | (simp; done); done)))))); (all_goals (conv => whnf)))
  refine ⟨_, rfl, ?_⟩
  ((repeat' ((conv => whnf); (first | refine Fork.yes (by assumption) ?_ | refine Fork.no (by assumption) ?_ | refine Fork.nono (by assumption) ?_ | (refine Fork.yes ?_ ?_; focus (simp [andPD]; done)) | (refine Fork.no ?_ ?_; focus (simp [andPD]; done)) | refine Fork.neg (fun _ => ?_) (fun _ => ?_) | refine Fork.mk (fun _ => ?_) (fun _ => ?_) | refine Both.mk ?_ ?_ | (refine And.intro ?_ ?_; focus (first | (kernel_rfl; done) | (first | omega | (simp; done); done)))))); (all_goals (conv => whnf)))
  refine LeD.of ?_
  show D.v (.int .u64 (IntKind.u64.wrap ((BitVec.ofInt 64 (IntKind.u64.wrap (a : Int)) ||| BitVec.ofInt 64 (IntKind.u64.wrap (IntKind.u64.wrap (b : Int) * 4294967296))).toNat : Int))) = _
  have h2' := h2
  have h3' := h3
  simp only [B32] at h2' h3'
  rw [w64 (x := a) (by omega), w64 (x := b) (by omega), show (b : Int) * 4294967296 = ((b * 4294967296 : Nat) : Int) by omega, w64 (x := b * 4294967296) (by omega), or32 h3 h2, ← ec, w64 hn]
theorem Int64_n (m : Nat) (hm : m ≤ 9223372036854775808) : FnP Tryz.prog gl 46 [.imm [nB m, W m]] (iD (-(m : Int))) := by
  have hl := Uint64_x (gl := gl) (nB m) m (by omega)
  refine fnP_of_vc (nv := 9999) (cu := []) fits mixed Tryz.func46 rfl (by unfold HasBody; kernel_rfl) rfl ?_
  ((repeat' ((conv => whnf); (first | refine Fork.yes (by assumption) ?_ | refine Fork.no (by assumption) ?_ | refine Fork.nono (by assumption) ?_ | (refine Fork.yes ?_ ?_; focus (simp [andPD]; done)) | (refine Fork.no ?_ ?_; focus (simp [andPD]; done)) | refine Fork.neg (fun _ => ?_) (fun _ => ?_) | refine Fork.mk (fun _ => ?_) (fun _ => ?_) | refine Or.inl (Or.inl (Exists.intro _ (And.intro (by first | exact hl) ?_))) | refine Or.inl (Exists.intro _ (And.intro (by first | exact hl) ?_)) | refine Exists.intro _ (And.intro (by first | exact hl) ?_) | refine Both.mk ?_ ?_ | (refine And.intro ?_ ?_; focus (first | (kernel_rfl; done) | (first | omega | (simp; done); done)))))); (all_goals (conv => whnf)))
  all_goals exact LeD.of (congrArg iD (by (try rw [i64w]); (try rw [i64w]); omega))
theorem Neg_p (m : Nat) (hm : (ws m).length ≤ 35184372088832) : Go.EYtbkhfmgdnnaaoaaGreatDoor.Fn Tryz.prog gl 114 [.c (.ptr 0 0), .c (.ptr 0 0)] [(0, .var [.d fD, .d (W m)] 59)] 1 (.ret (.c (.ptr 0 0))) [(0, .var [.d (nB m), .d (W m)] 59)] 1 [] := by
  have ht := twin_d (gl := gl) (ws m) hm
  have wa := wD_len (ws m)
  have hz : 0 < (((wD (ws m)).length : Nat) : Int) ↔ m ≠ 0 := by
    have h2 := ws_nil (n := m)
    rw [wa]
    cases hw : ws m with
    | nil => rw [hw] at h2; have := h2.1 rfl; simp [this]
    | cons a l => rw [hw] at h2; exact ⟨fun _ e => (by cases h2.2 e), fun _ => (by simp)⟩
  have give : Go.EYtbkhfmgdnnaaoaaGreatDoor.Fn Tryz.prog gl 73 [.c (.ptr 0 0), .c (.d (.v (.bool true))), .c (.d (W m))] [(0, .var [.d fD, .d (W m)] 59)] 1 (.ret (.c (.ptr 0 0))) [(0, .var [.d (nB m), .d (W m)] 59)] 1 [] := by
    refine fn_of_vc (nv := 9999) (cu := []) fits mixed Tryz.func73 rfl (by unfold HasBody; kernel_rfl) rfl rfl rfl rfl ?_
    ((repeat' ((conv => whnf); (first | refine Fork.yes (by assumption) ?_ | refine Fork.no (by assumption) ?_ | refine Fork.nono (by assumption) ?_ | (refine Fork.yes ?_ ?_; focus (simp [andPD]; done)) | (refine Fork.no ?_ ?_; focus (simp [andPD]; done)) | refine Fork.neg (fun _ => ?_) (fun _ => ?_) | refine Fork.mk (fun _ => ?_) (fun _ => ?_) | refine Both.mk ?_ ?_ | (refine And.intro ?_ ?_; focus (first | (kernel_rfl; done) | (first | omega | (simp; done); done)))))); (all_goals (conv => whnf)))
    ((repeat' first | exact rfl | ((conv => whnf); first | done | exact True.intro | exact Or.inr (Or.inl rfl) | exact Or.inr (Or.inr (Or.inl ⟨rfl, _, _, rfl, by omega⟩)) | refine And.intro ?_ ?_)); (all_goals (conv => whnf)))
    exact .inr (.inr (.inr (show LeD _ _ from LeD.b hz)))
  refine fn_of_vc (nv := 9999) (cu := []) fits mixed Tryz.func114 rfl (by unfold HasBody; kernel_rfl) rfl rfl rfl rfl ?_
  ((repeat' ((conv => whnf); (first | refine Fork.yes (by assumption) ?_ | refine Fork.no (by assumption) ?_ | refine Fork.nono (by assumption) ?_ | (refine Fork.yes ?_ ?_; focus (simp [andPD]; done)) | (refine Fork.no ?_ ?_; focus (simp [andPD]; done)) | refine Fork.neg (fun _ => ?_) (fun _ => ?_) | refine Fork.mk (fun _ => ?_) (fun _ => ?_) | (refine Or.inr (Exists.intro _ (Exists.intro _ (Exists.intro _ (Exists.intro _ (Exists.intro _ (And.intro (give.ren [0] _ rfl (by decide) (by decide)) (And.intro ?_ ?_))))))); focus ((repeat' first | exact rfl | ((conv => whnf); first | done | exact True.intro | refine And.intro ?_ ?_)); done)) | (refine Or.inl (Or.inr (Exists.intro _ (Exists.intro _ (Exists.intro _ (Exists.intro _ (Exists.intro _ (And.intro (give.ren [0] _ rfl (by decide) (by decide)) (And.intro ?_ ?_)))))))); focus ((repeat' first | exact rfl | ((conv => whnf); first | done | exact True.intro | refine And.intro ?_ ?_)); done)) | refine Or.inl (Or.inl (Exists.intro _ (And.intro (by first | exact ht) ?_))) | refine Or.inl (Exists.intro _ (And.intro (by first | exact ht) ?_)) | refine Exists.intro _ (And.intro (by first | exact ht) ?_) | refine Both.mk ?_ ?_ | (refine And.intro ?_ ?_; focus (first | (kernel_rfl; done) | (first | omega | (simp; done); done)))))); (all_goals (conv => whnf)))
  ((repeat' first | exact rfl | ((conv => whnf); first | done | exact True.intro | exact Or.inr (Or.inl rfl) | exact Or.inr (Or.inr (Or.inl ⟨rfl, _, _, rfl, by omega⟩)) | refine And.intro ?_ ?_)); (all_goals (conv => whnf)))
end Go.Proofs.YtbkhfmgdnnaaoaaGreatDoor
