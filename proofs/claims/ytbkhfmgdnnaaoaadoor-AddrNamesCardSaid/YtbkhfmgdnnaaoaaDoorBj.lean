/- Proved: addr.Ref and the reference's Ref return the same of every text. Condition: no longer than 2 ^ 47 bytes. -/
import Derived.Test.YtbkhfmgdnnaaoaaDoorBi
namespace Go.Proofs.YtbkhfmgdnnaaoaaDoor
open Go Go.EYtbkhfmgdnnaaoaaDoor
set_option maxRecDepth 100000
variable {gl : List (Nat × List D)}
theorem dl_inv3 {t l : List UInt8} {b : Bool} (h : dl t = (b, l)) : (t = 36 :: l ∧ b = true) ∨ (t = l ∧ l.head? ≠ some 36 ∧ b = false) := by
  cases t with
  | nil => cases h; exact .inr ⟨rfl, by simp, rfl⟩
  | cons a s =>
    by_cases ha : a = 36
    · simp only [dl, if_pos ha, Prod.mk.injEq] at h; left; rw [ha, h.2]; exact ⟨rfl, h.1.symm⟩
    · simp only [dl, if_neg ha, Prod.mk.injEq] at h; right; obtain ⟨h1, h2⟩ := h; subst h2; exact ⟨rfl, fun e => ha (Option.some.inj e), h1.symm⟩
theorem rRef_s {s t l : List UInt8} {b b' : Bool} {ch : UInt8} {n : Int} (h : dl s = (b, ch :: t)) (hc : 65 ≤ ch.toNat ∧ ch.toNat ≤ 90) (h' : dl t = (b', l)) (hW : FnP Tryd.prog gl 47 [.str l, fD] (.tup [iD n, .v (.bool true)])) (hn : 1 ≤ n ∧ n ≤ 99) :
    FnP Tryd.prog gl 25 [.str s] (.tup [refD ((ch.toNat - 64 : Nat) : Int) n b b', tD true]) := by
  rcases dl_inv2 h with ⟨rfl, rfl⟩ | ⟨rfl, h36, rfl⟩ <;> rcases dl_inv3 h' with ⟨rfl, rfl⟩ | ⟨rfl, hl, rfl⟩
  · exact rRef_As hc hW hn
  · exact rRef_Bs hc hl hW hn
  · exact rRef_Cs hc h36 hW hn
  · exact rRef_Ds hc h36 hl hW hn
theorem rRef_n {s t l : List UInt8} {b b' : Bool} {ch : UInt8} {n : Int} (h : dl s = (b, ch :: t)) (hc : 65 ≤ ch.toNat ∧ ch.toNat ≤ 90) (h' : dl t = (b', l)) (hW : FnP Tryd.prog gl 47 [.str l, fD] (.tup [iD n, .v (.bool true)])) (hn : n < 1 ∨ 99 < n) :
    FnP Tryd.prog gl 25 [.str s] rrBad := by
  rcases dl_inv2 h with ⟨rfl, rfl⟩ | ⟨rfl, h36, rfl⟩ <;> rcases dl_inv3 h' with ⟨rfl, rfl⟩ | ⟨rfl, hl, rfl⟩
  · exact rRef_An hc hW hn
  · exact rRef_Bn hc hl hW hn
  · exact rRef_Cn hc h36 hW hn
  · exact rRef_Dn hc h36 hl hW hn
theorem rRef_f {s t l : List UInt8} {b b' : Bool} {ch : UInt8} (h : dl s = (b, ch :: t)) (hc : 65 ≤ ch.toNat ∧ ch.toNat ≤ 90) (h' : dl t = (b', l)) (hW : FnP Tryd.prog gl 47 [.str l, fD] (.tup [iD 0, fD])) :
    FnP Tryd.prog gl 25 [.str s] rrBad := by
  rcases dl_inv2 h with ⟨rfl, rfl⟩ | ⟨rfl, h36, rfl⟩ <;> rcases dl_inv3 h' with ⟨rfl, rfl⟩ | ⟨rfl, hl, rfl⟩
  · exact rRef_Af (n := 0) hc hW
  · exact rRef_Bf (n := 0) hc hl hW
  · exact rRef_Cf (n := 0) hc h36 hW
  · exact rRef_Df (n := 0) hc h36 hl hW
theorem Whole_e : FnP Tryd.prog gl 47 [.str [], fD] (.tup [iD 0, fD]) := by
  refine fnP_of_vc (nv := 9999) (cu := []) fits mixed Tryd.func47 rfl (by unfold HasBody; kernel_rfl) rfl ?_
  ((repeat' ((conv => whnf); (first | refine Fork.yes (by assumption) ?_ | refine Fork.no (by assumption) ?_ | refine Fork.nono (by assumption) ?_ | (refine Fork.yes ?_ ?_; focus (simp [andPD]; done)) | (refine Fork.no ?_ ?_; focus (simp [andPD]; done)) | refine Fork.neg (fun _ => ?_) (fun _ => ?_) | refine Fork.mk (fun _ => ?_) (fun _ => ?_) | (refine And.intro ?_ ?_; focus (first | (kernel_rfl; done) | (first | assumption | omega | (simp; done); done)))))); (all_goals (conv => whnf)))
  exact LeD.rfl
theorem Whole_z {l : List UInt8} (h : l ≠ []) : FnP Tryd.prog gl 47 [.str (48 :: l), fD] (.tup [iD 0, fD]) := by
  have h1 : (((48 :: l).getD (Int.toNat 0) 0).toNat : Int) = 48 := rfl
  have h2 : ¬ 48 :: l = (⟨#[48]⟩ : ByteArray).data.toList := fun e => h (List.cons.inj e).2
  refine fnP_of_vc (nv := 9999) (cu := []) fits mixed Tryd.func47 rfl (by unfold HasBody; kernel_rfl) rfl ?_
  ((repeat' ((conv => whnf); (first | refine Fork.yes (by assumption) ?_ | refine Fork.no (by assumption) ?_ | refine Fork.nono (by assumption) ?_ | (refine Fork.yes ?_ ?_; focus (simp [andPD]; done)) | (refine Fork.no ?_ ?_; focus (simp [andPD]; done)) | refine Fork.neg (fun _ => ?_) (fun _ => ?_) | refine Fork.mk (fun _ => ?_) (fun _ => ?_) | (refine And.intro ?_ ?_; focus (first | (kernel_rfl; done) | (first | assumption | omega | (simp; done); done)))))); (all_goals (conv => whnf)))
  exact LeD.rfl
theorem rv_ge {l : List UInt8} (h0 : l ≠ []) (h48 : l.head? ≠ some 48) (hd : ∀ d ∈ l, isDig d) : ∀ k, k < l.length → 10 ^ k ≤ rv l (k + 1)
  | 0, h => by
    obtain ⟨a, l, rfl⟩ := List.exists_cons_of_ne_nil h0
    rw [rv_succ h]
    have h1 : a ≠ 48 := fun e => h48 (congrArg some e)
    have h2 := hd a (List.mem_cons_self ..)
    have h3 : a.toNat ≠ 48 := fun e => h1 (UInt8.toNat_inj.1 e)
    show 1 ≤ 0 * 10 + (a.toNat - 48)
    obtain ⟨h4, h5⟩ := h2
    omega
  | k + 1, h => by
    have := rv_ge h0 h48 hd k (by omega)
    rw [rv_succ h, Nat.pow_succ]; omega
theorem ref_both (s : List UInt8) (hs : s.length ≤ 140737488355328) :
    (∃ (c r : Int) (fc fr : Bool), okP c r ∧ FnP Tryd.prog gl 25 [.str s] (.tup [refD c r fc fr, tD true]) ∧ FnP Tryd.prog gl 24 [.str s] (.tup [refD c r fc fr, errD 0])) ∨
    (FnP Tryd.prog gl 25 [.str s] rrBad ∧ FnP Tryd.prog gl 24 [.str s] refBad) := by
  obtain ⟨b, t0, h⟩ : ∃ b t0, dl s = (b, t0) := ⟨_, _, rfl⟩
  cases t0 with
  | nil => exact .inr ⟨rRef_1 h, Ref_1 h⟩
  | cons ch t =>
    by_cases hc : 65 ≤ ch.toNat ∧ ch.toNat ≤ 90
    · obtain ⟨b', l, h'⟩ : ∃ b' l, dl t = (b', l) := ⟨_, _, rfl⟩
      have hll : l.length ≤ s.length := by
        rcases dl_inv2 h with ⟨rfl, _⟩ | ⟨rfl, _, _⟩ <;> rcases dl_inv3 h' with ⟨rfl, _⟩ | ⟨rfl, _, _⟩ <;> simp <;> omega
      by_cases h0 : l = []
      · subst h0
        exact .inr ⟨rRef_f h hc h' Whole_e, Ref_3 h hc h' (.inl rfl)⟩
      by_cases hz : l.head? = some 48 ∧ l ≠ [48]
      · refine .inr ⟨rRef_f h hc h' ?_, Ref_3 h hc h' (.inr (.inr hz.1))⟩
        obtain ⟨a, l, rfl⟩ := List.exists_cons_of_ne_nil h0
        obtain rfl : a = 48 := Option.some.inj hz.1
        exact Whole_z fun e => hz.2 (by rw [e])
      have hW := Whole_p (gl := gl) l h0 hz (by omega)
      by_cases hg : l.length ≤ 2 ∧ l.head? ≠ some 48
      · have h4 := Ref_4 (gl := gl) h hc h' h0 hg.1 hg.2
        by_cases hd : ∀ d ∈ l, isDig d
        · have hlt := rv_lt (l := l) (Nat.le_refl _) (fun d hx => hd d (List.mem_of_mem_take hx))
          have hlen : 0 < l.length := List.length_pos_iff.2 h0
          have hge := rv_ge h0 hg.2 hd (l.length - 1) (by omega)
          rw [Nat.sub_add_cancel hlen] at hge
          have h99 : rv l l.length < 100 := Nat.lt_of_lt_of_le hlt (Nat.pow_le_pow_right (n := 10) (by decide) hg.1)
          have h01 : 1 ≤ rv l l.length := by have := Nat.pow_le_pow_right (n := 10) (by decide) (Nat.zero_le (l.length - 1)); omega
          rw [if_pos hd] at h4
          rw [if_pos ⟨hd, by omega⟩] at hW
          exact .inl ⟨_, _, b, b', by unfold okP; omega, rRef_s h hc h' hW (by omega), h4⟩
        · rw [if_neg hd] at h4
          rw [if_neg fun hh => hd hh.1] at hW
          exact .inr ⟨rRef_f h hc h' hW, h4⟩
      · have hb : 2 < l.length ∨ l.head? = some 48 := by
          by_cases e : l.head? = some 48
          · exact .inr e
          · exact .inl (Nat.lt_of_not_le fun h => hg ⟨h, e⟩)
        have h3 := Ref_3 (gl := gl) h hc h' (.inr hb)
        by_cases hw : wholeC l
        · rw [if_pos hw] at hW
          refine .inr ⟨rRef_n h hc h' hW ?_, h3⟩
          by_cases e : l.head? = some 48
          · have : l = [48] := Classical.byContradiction fun hn => hz ⟨e, hn⟩
            subst this
            left; show ((0 * 10 + (48 - 48) : Nat) : Int) < 1; decide
          · right
            have h2 : 2 < l.length := by rcases hb with hb | hb; exact hb; exact absurd hb e
            have hge := rv_ge h0 e hw.1 (l.length - 1) (by omega)
            rw [Nat.sub_add_cancel (by omega)] at hge
            have : 10 ^ 2 ≤ 10 ^ (l.length - 1) := Nat.pow_le_pow_right (by decide) (by omega)
            omega
        · rw [if_neg hw] at hW
          exact .inr ⟨rRef_f h hc h' hW, h3⟩
    · exact .inr ⟨rRef_2 h hc, Ref_2 h hc⟩
end Go.Proofs.YtbkhfmgdnnaaoaaDoor
