/- Proved: what package value's Show returns; a text read and shown, a value shown and read. Conditions: texts no longer than 2 ^ 47 bytes; the variables read as laid. -/
import Derived.Test.YtbkhfmgdnnaaoaaGreatDoorSf
import Derived.Lib.AppendIntMem
namespace Go.Proofs.YtbkhfmgdnnaaoaaGreatDoor
open Go Go.EYtbkhfmgdnnaaoaaGreatDoor
set_option maxRecDepth 100000
variable {gl : List (Nat × List D)}
/-! ### Digits -/
theorem rvF_snoc (l : List UInt8) (c : UInt8) (acc : Nat) : rvF acc (l ++ [c]) = rvF acc l * 10 + (c.toNat - 48) := by
  unfold rvF; rw [List.foldl_append]; rfl
theorem decDigits_small {u : Nat} (h : u < 10) : Lib.decDigits u = [UInt8.ofNat (48 + u)] := by rw [Lib.decDigits]; simp [h]
theorem decDigits_big {u : Nat} (h : ¬ u < 10) : Lib.decDigits u = Lib.decDigits (u / 10) ++ [UInt8.ofNat (48 + u % 10)] := by rw [Lib.decDigits]; simp [h]
theorem ofNat_dig {k : Nat} (h : k < 10) : (UInt8.ofNat (48 + k)).toNat = 48 + k := by rw [UInt8.toNat_ofNat']; omega
theorem dec_facts (u : Nat) : rvF 0 (Lib.decDigits u) = u ∧ (∀ d ∈ Lib.decDigits u, isDig d) ∧ Lib.decDigits u ≠ [] ∧ (u ≠ 0 → (Lib.decDigits u).head? ≠ some 48) := by
  induction u using Nat.strongRecOn with
  | ind u ih =>
    by_cases h : u < 10
    · have hd := ofNat_dig h
      rw [decDigits_small h]
      refine ⟨?_, ?_, by simp, fun h0 e => ?_⟩
      · show 0 * 10 + ((UInt8.ofNat (48 + u)).toNat - 48) = u
        omega
      · intro d hd'
        rw [List.mem_singleton.1 hd']
        unfold isDig; omega
      · have e' : UInt8.ofNat (48 + u) = 48 := by simpa using e
        rw [e'] at hd
        have : (48 : UInt8).toNat = 48 := rfl
        omega
    · obtain ⟨h1, h2, h3, h4⟩ := ih (u / 10) (by omega)
      have hd := ofNat_dig (k := u % 10) (by omega)
      rw [decDigits_big h]
      refine ⟨?_, ?_, by simp, fun h0 e => ?_⟩
      · rw [rvF_snoc, h1]; omega
      · intro d hd'
        rcases List.mem_append.1 hd' with hd' | hd'
        · exact h2 d hd'
        · rw [List.mem_singleton.1 hd']; unfold isDig; omega
      · rw [List.head?_append] at e
        cases hh : (Lib.decDigits (u / 10)).head? with
        | none => exact h3 (by cases hq : Lib.decDigits (u / 10) with | nil => rfl | cons a l => rw [hq] at hh; cases hh)
        | some a => rw [hh] at e; exact h4 (by omega) (by rw [hh]; exact e)
theorem rvF_pos {l : List UInt8} (h : ∀ d ∈ l, isDig d) (h0 : l ≠ []) (h1 : l.head? ≠ some 48) : 0 < rvF 0 l := by
  cases l with
  | nil => exact absurd rfl h0
  | cons a l =>
    have ha := h a (by simp)
    have h2 := rvF_ge l (0 * 10 + (a.toNat - 48))
    have e : rvF 0 (a :: l) = rvF (0 * 10 + (a.toNat - 48)) l := rfl
    have h3 : a.toNat ≠ 48 := fun e => h1 (by show some a = some 48; rw [UInt8.toNat_inj.1 (show a.toNat = (48 : UInt8).toNat from e)])
    unfold isDig at ha
    omega
theorem dec_rv : ∀ (n : Nat) (l : List UInt8), l.length = n → (∀ d ∈ l, isDig d) → l ≠ [] → l.head? ≠ some 48 → Lib.decDigits (rvF 0 l) = l
  | 0, l, hn, _, h0, _ => absurd (List.eq_nil_of_length_eq_zero hn) h0
  | n + 1, l, hn, h, h0, h1 => by
    obtain ⟨q, c, rfl⟩ : ∃ q c, l = q ++ [c] := ⟨l.dropLast, l.getLast h0, (List.dropLast_concat_getLast h0).symm⟩
    have hc := h c (by simp)
    have hc' : UInt8.ofNat (48 + (c.toNat - 48)) = c := by
      apply UInt8.toNat_inj.1
      rw [ofNat_dig (by unfold isDig at hc; omega)]
      unfold isDig at hc; omega
    rw [rvF_snoc]
    by_cases hq : q = []
    · subst hq
      have e : rvF 0 ([] : List UInt8) = 0 := rfl
      rw [e, decDigits_small (by unfold isDig at hc; omega), Nat.zero_mul, Nat.zero_add, hc']; rfl
    · have hqd : ∀ d ∈ q, isDig d := fun d hd => h d (by simp [hd])
      have hqh : q.head? ≠ some 48 := fun e => h1 (by rw [List.head?_append, e]; rfl)
      have hp := rvF_pos hqd hq hqh
      have ih := dec_rv n q (by simp at hn; omega) hqd hq hqh
      unfold isDig at hc
      rw [decDigits_big (by omega), show (rvF 0 q * 10 + (c.toNat - 48)) / 10 = rvF 0 q by omega, show (rvF 0 q * 10 + (c.toNat - 48)) % 10 = c.toNat - 48 by omega, ih, hc']
/-- What is written is read. -/
theorem whole_itoa {n : Int} (h : okI n) : wholeZ (Lib.itoa n) = some n := by
  unfold Lib.itoa
  by_cases hn : n < 0
  · rw [if_pos hn]
    obtain ⟨h1, h2, h3, h4⟩ := dec_facts n.natAbs
    have h5 := h4 (by omega)
    generalize Lib.decDigits n.natAbs = d at *
    have eu : unsg (45 :: d) = d := rfl
    have hv : wholeV (45 :: d) = n := by
      unfold wholeV
      rw [if_pos (show (45 :: d).head? = some 45 from rfl), eu, rv_all, h1]; omega
    unfold wholeZ
    rw [hv, if_pos]
    exact ⟨⟨by rw [eu]; exact h3, fun hh => by rw [eu] at hh; exact h5 hh.1, by rw [eu]; exact h2⟩, h⟩
  · rw [if_neg hn]
    obtain ⟨h1, h2, h3, h4⟩ := dec_facts n.toNat
    have h45 : ¬ (Lib.decDigits n.toNat).head? = some 45 := by
      intro e
      cases hd : Lib.decDigits n.toNat with
      | nil => rw [hd] at e; cases e
      | cons a l => rw [hd] at e h2; cases e; have := (h2 45 (by simp)).1; simp at this
    have h0 : n.toNat = 0 → Lib.decDigits n.toNat = [48] := fun e => by rw [e]; rw [decDigits_small (by omega)]; rfl
    generalize Lib.decDigits n.toNat = d at *
    have eu : unsg d = d := by unfold unsg; rw [if_neg h45]
    have hv : wholeV d = n := by
      unfold wholeV
      rw [if_neg h45, eu, rv_all, h1]; omega
    unfold wholeZ
    rw [hv, if_pos]
    refine ⟨⟨by rw [eu]; exact h3, fun hh => ?_, by rw [eu]; exact h2⟩, h⟩
    rw [eu] at hh
    by_cases hz : n.toNat = 0
    · exact hh.2 (h0 hz)
    · exact h4 hz hh.1
/-- What is read is written. -/
theorem itoa_whole {s : List UInt8} {v : Int} (h : wholeZ s = some v) : Lib.itoa v = s := by
  unfold wholeZ at h
  split at h
  · rename_i hh
    cases h
    obtain ⟨⟨h1, h2, h3⟩, h4⟩ := hh
    unfold wholeV at h4 ⊢
    rw [rv_all] at h4 ⊢
    by_cases h45 : s.head? = some 45
    · rw [if_pos h45]
      obtain ⟨l, rfl⟩ : ∃ l, s = 45 :: l := by
        cases s with
        | nil => cases h45
        | cons a l => cases h45; exact ⟨l, rfl⟩
      have eu : unsg (45 :: l) = l := rfl
      rw [eu] at h1 h2 h3 h4 ⊢
      have hh : l.head? ≠ some 48 := fun e => h2 ⟨e, by simp⟩
      have hp := rvF_pos h3 h1 hh
      unfold Lib.itoa
      rw [if_pos (by omega), show (-(rvF 0 l : Int)).natAbs = rvF 0 l by omega, dec_rv _ l rfl h3 h1 hh]
    · rw [if_neg h45]
      have eu : unsg s = s := by unfold unsg; rw [if_neg h45]
      rw [eu] at h1 h2 h3 h4 ⊢
      unfold Lib.itoa
      rw [if_neg (by omega), Int.toNat_natCast]
      by_cases hh : s.head? = some 48
      · have : s = [48] := Classical.byContradiction fun e => h2 ⟨hh, e⟩
        subst this
        show Lib.decDigits 0 = [48]
        rw [decDigits_small (by omega)]; rfl
      · exact dec_rv _ s rfl h3 h1 hh
  · cases h
/-! ### Show -/
theorem Itoa_w (te : TypeId) (pe : Value) {n : Int} (h : okI n) : FnP Tryz.prog (glV te pe) 49 [iD n] (.str (Lib.itoa n)) :=
  FnP.of_below (xs := [.int .i64 n]) (v := .string ⟨(Lib.itoa n).toArray⟩) (by unfold HasBody; kernel_rfl) (fun M w ys hd => by
    obtain ⟨y, rfl, h1⟩ := All2.one_iff.1 hd
    rw [DenD.v_inv h1]) (fun _ _ => .str _) (fun M w hg => by
    obtain ⟨_, xs, ⟨t, f, hx⟩, _, hd⟩ := hg 3 _ rfl
    have ex : xs = Lib.pow10Tab.map fun z => Value.int .u64 z := by
      have key : ∀ (l : List Int) (xs : List Value), DenL M w (l.map fun z => D.v (.int .u64 z)) xs → xs = l.map fun z => Value.int .u64 z := by
        intro l
        induction l with
        | nil => intro xs h; cases xs with | nil => rfl | cons _ _ => exact h.elim
        | cons a l ih => intro xs h; cases xs with | nil => exact h.elim | cons x xs => rw [DenD.v_inv h.1, ih xs h.2]; rfl
      exact key _ _ hd
    have ht : Lib.TabIs Tryz.prog w "internal/strconv.uint64pow10" .u64 Lib.pow10Tab := by
      have hn : Tryz.prog.globalNamed "internal/strconv.uint64pow10" = some 3 := by kernel_rfl
      show World.var? _ _ _ = _
      unfold World.var?
      rw [hn, ← ex]
      show (match w.heap[3]? with | some (.cells cs _ _) => some cs | _ => none) = _
      rw [hx]
    have h := Any.strconv_Itoa Tryz.laysM171 n h.1 h.2 w ht
    refine h.mono ?_
    rintro e w' ⟨rfl, k, os, rfl⟩
    exact ⟨rfl, Lib.below_grow w.heap.size w (Nat.le_refl _) k os⟩)
/-- How a value is shown. -/
def show3 (k n : Int) (s : List UInt8) : List UInt8 := if k = 1 then Lib.itoa n else if k = 2 then s else if k = 3 then (if n = 1 then tT else tF) else if k = 4 then (if 0 < n ∧ n < 7 then tx.getD n.toNat [] else []) else []
def showV (v : Vl) : List UInt8 := show3 v.k v.n v.s
theorem tx_cut {k : Nat} (h : k < 7) : cut (tx.map D.str) (k * 1) 1 = [.str (tx.getD k [])] := by
  have h' : k < (tx.map D.str).length := h
  have h2 : k < tx.length := h
  unfold cut
  rw [Nat.mul_one, List.drop_eq_getElem_cons h', List.take_succ_cons, List.take_zero, List.getElem_map]
  simp [List.getD, List.getElem?_eq_getElem h2]
theorem Show_3 (te : TypeId) (pe : Value) (k n : Int) (s : List UInt8) (hn : okI n) : FnP Tryz.prog (glV te pe) 16 [vlD k n s] (.str (show3 k n s)) := by
  unfold show3
  by_cases h1 : k = 1
  · subst h1
    refine fnP_of_vc (nv := 9999) (cu := []) fits mixed Tryz.func16 rfl (by unfold HasBody; kernel_rfl) rfl ?_
    ((repeat' ((conv => whnf); (first | refine Fork.yes (by assumption) ?_ | refine Fork.no (by assumption) ?_ | refine Fork.nono (by assumption) ?_ | (refine Fork.yes ?_ ?_; focus (simp [andPD]; done)) | (refine Fork.no ?_ ?_; focus (simp [andPD]; done)) | refine Fork.neg (fun _ => ?_) (fun _ => ?_) | refine Fork.mk (fun _ => ?_) (fun _ => ?_) | refine Or.inl (Or.inl (Exists.intro _ (And.intro (by first | exact Itoa_w te pe hn) ?_))) | refine Or.inl (Exists.intro _ (And.intro (by first | exact Itoa_w te pe hn) ?_)) | refine Exists.intro _ (And.intro (by first | exact Itoa_w te pe hn) ?_) | refine Both.mk ?_ ?_ | (refine And.intro ?_ ?_; focus (first | (kernel_rfl; done) | (first | assumption | omega | (simp; done); done)))))); (all_goals (conv => whnf)))
    exact LeD.rfl
  · by_cases h2 : k = 2
    · subst h2
      refine fnP_of_vc (nv := 9999) (cu := []) fits mixed Tryz.func16 rfl (by unfold HasBody; kernel_rfl) rfl ?_
      ((repeat' ((conv => whnf); (first | refine Fork.yes (by assumption) ?_ | refine Fork.no (by assumption) ?_ | refine Fork.nono (by assumption) ?_ | (refine Fork.yes ?_ ?_; focus (simp [andPD]; done)) | (refine Fork.no ?_ ?_; focus (simp [andPD]; done)) | refine Fork.neg (fun _ => ?_) (fun _ => ?_) | refine Fork.mk (fun _ => ?_) (fun _ => ?_) | refine Both.mk ?_ ?_ | (refine And.intro ?_ ?_; focus (first | (kernel_rfl; done) | (first | assumption | omega | (simp; done); done)))))); (all_goals (conv => whnf)))
      exact LeD.rfl
    · by_cases h3 : k = 3
      · subst h3
        by_cases h4 : n = 1
        · subst h4
          refine fnP_of_vc (nv := 9999) (cu := []) fits mixed Tryz.func16 rfl (by unfold HasBody; kernel_rfl) rfl ?_
          ((repeat' ((conv => whnf); (first | refine Fork.yes (by assumption) ?_ | refine Fork.no (by assumption) ?_ | refine Fork.nono (by assumption) ?_ | (refine Fork.yes ?_ ?_; focus (simp [andPD]; done)) | (refine Fork.no ?_ ?_; focus (simp [andPD]; done)) | refine Fork.neg (fun _ => ?_) (fun _ => ?_) | refine Fork.mk (fun _ => ?_) (fun _ => ?_) | refine Both.mk ?_ ?_ | (refine And.intro ?_ ?_; focus (first | (kernel_rfl; done) | (first | assumption | omega | (simp; done); done)))))); (all_goals (conv => whnf)))
          exact LeD.rfl
        · refine fnP_of_vc (nv := 9999) (cu := []) fits mixed Tryz.func16 rfl (by unfold HasBody; kernel_rfl) rfl ?_
          ((repeat' ((conv => whnf); (first | refine Fork.yes (by assumption) ?_ | refine Fork.no (by assumption) ?_ | refine Fork.nono (by assumption) ?_ | (refine Fork.yes ?_ ?_; focus (simp [andPD]; done)) | (refine Fork.no ?_ ?_; focus (simp [andPD]; done)) | refine Fork.neg (fun _ => ?_) (fun _ => ?_) | refine Fork.mk (fun _ => ?_) (fun _ => ?_) | refine Both.mk ?_ ?_ | (refine And.intro ?_ ?_; focus (first | (kernel_rfl; done) | (first | assumption | omega | (simp; done); done)))))); (all_goals (conv => whnf)))
          simp only [h4, if_false]
          exact LeD.rfl
      · by_cases h4 : k = 4
        · subst h4
          by_cases h5 : 0 < n ∧ n < 7
          · obtain ⟨h6, h7⟩ := h5
            refine fnP_of_vc (nv := 9999) (cu := []) fits mixed Tryz.func16 rfl (by unfold HasBody; kernel_rfl) rfl ?_
            ((repeat' ((conv => whnf); (first | refine Fork.yes (by assumption) ?_ | refine Fork.no (by assumption) ?_ | refine Fork.nono (by assumption) ?_ | (refine Fork.yes ?_ ?_; focus (simp [andPD]; done)) | (refine Fork.no ?_ ?_; focus (simp [andPD]; done)) | refine Fork.neg (fun _ => ?_) (fun _ => ?_) | refine Fork.mk (fun _ => ?_) (fun _ => ?_) | refine Both.mk ?_ ?_ | (refine And.intro ?_ ?_; focus (first | (kernel_rfl; done) | (first | assumption | omega | (simp; done); done)))))); (all_goals (conv => whnf)))
            refine ⟨_, tx_cut (k := n.toNat) (by omega), ?_⟩
            ((repeat' ((conv => whnf); (first | refine Fork.yes (by assumption) ?_ | refine Fork.no (by assumption) ?_ | refine Fork.nono (by assumption) ?_ | (refine Fork.yes ?_ ?_; focus (simp [andPD]; done)) | (refine Fork.no ?_ ?_; focus (simp [andPD]; done)) | refine Fork.neg (fun _ => ?_) (fun _ => ?_) | refine Fork.mk (fun _ => ?_) (fun _ => ?_) | refine Both.mk ?_ ?_ | (refine And.intro ?_ ?_; focus (first | (kernel_rfl; done) | (first | assumption | omega | (simp; done); done)))))); (all_goals (conv => whnf)))
            simp only [h6, h7, and_self, if_true]
            exact LeD.rfl
          · refine fnP_of_vc (nv := 9999) (cu := []) fits mixed Tryz.func16 rfl (by unfold HasBody; kernel_rfl) rfl ?_
            ((repeat' ((conv => whnf); (first | refine Fork.yes (by assumption) ?_ | refine Fork.no (by assumption) ?_ | refine Fork.nono (by assumption) ?_ | (refine Fork.yes ?_ ?_; focus (simp [andPD]; done)) | (refine Fork.no ?_ ?_; focus (simp [andPD]; done)) | refine Fork.neg (fun _ => ?_) (fun _ => ?_) | refine Fork.mk (fun _ => ?_) (fun _ => ?_) | refine Both.mk ?_ ?_ | (refine And.intro ?_ ?_; focus (first | (kernel_rfl; done) | (first | assumption | omega | (simp; done); done)))))); (all_goals (conv => whnf)))
            all_goals first
              | (exfalso; omega)
              | (simp only [h5, if_false]; exact LeD.rfl)
        · refine fnP_of_vc (nv := 9999) (cu := []) fits mixed Tryz.func16 rfl (by unfold HasBody; kernel_rfl) rfl ?_
          ((repeat' ((conv => whnf); (first | refine Fork.yes (by assumption) ?_ | refine Fork.no (by assumption) ?_ | refine Fork.nono (by assumption) ?_ | (refine Fork.yes ?_ ?_; focus (simp [andPD]; done)) | (refine Fork.no ?_ ?_; focus (simp [andPD]; done)) | refine Fork.neg (fun _ => ?_) (fun _ => ?_) | refine Fork.mk (fun _ => ?_) (fun _ => ?_) | refine Both.mk ?_ ?_ | (refine And.intro ?_ ?_; focus (first | (kernel_rfl; done) | (first | assumption | omega | (simp; done); done)))))); (all_goals (conv => whnf)))
          all_goals first
            | (exfalso; omega)
            | (simp only [h1, h2, h3, h4, if_false]; exact LeD.rfl)
theorem Show_d (te : TypeId) (pe : Value) (v : Vl) (hn : okI v.n) : FnP Tryz.prog (glV te pe) 16 [v.d] (.str (showV v)) := Show_3 te pe v.k v.n v.s hn
/-! ### There and back -/
theorem litZ_tx : ∀ n : Fin 7, 1 ≤ n.val → litZ (tx.getD n.val []) = some (4, (n.val : Int)) := by decide
theorem wholeZ_no {s : List UInt8} (h : ∃ a ∈ unsg s, ¬ isDig a) : wholeZ s = none := by
  unfold wholeZ
  rw [if_neg]
  rintro ⟨⟨_, _, h3⟩, _⟩
  obtain ⟨a, h1, h2⟩ := h
  exact h2 (h3 a h1)
theorem wholeZ_tx : ∀ n : Fin 7, 1 ≤ n.val → wholeZ (tx.getD n.val []) = none := fun n hn => wholeZ_no (by
  have key : ∀ n : Fin 7, 1 ≤ n.val → 35 ∈ unsg (tx.getD n.val []) := by decide
  exact ⟨35, key n hn, by decide⟩)
theorem tx_nil : ∀ n : Fin 7, 1 ≤ n.val → tx.getD n.val [] ≠ [] := by decide
/-- What is shown is read as it was. -/
theorem read_show {v : Vl} (hv : isV v.k v.n v.s) (h2 : v.k ≠ 2) (hn : okI v.n) : readV (showV v) = v := by
  obtain ⟨k, n, s⟩ := v
  rcases hv with ⟨h1, h3, h4⟩ | ⟨h1, h3⟩ | ⟨h1, h3, h4⟩ | ⟨h1, h3 | h3, h4⟩ | ⟨h1, h3, h4, h5⟩
  · simp only at h1 h3 h4; subst h1; subst h3; subst h4; rfl
  · simp only at h1 h3 hn; subst h1; subst h3
    have e : showV ⟨1, n, []⟩ = Lib.itoa n := rfl
    have hw := whole_itoa hn
    rw [e]
    unfold readV
    rw [if_neg, hw]
    intro e0; rw [e0] at hw; revert hw; unfold wholeZ; rw [if_neg (fun h => h.1.1 rfl)]; intro h; cases h
  · exact absurd h1 h2
  · simp only at h1 h3 h4; subst h1; subst h3; subst h4
    show readV tF = _
    have hw : wholeZ tF = none := wholeZ_no ⟨70, by decide, by decide⟩
    unfold readV
    rw [if_neg (by decide), hw]; rfl
  · simp only at h1 h3 h4; subst h1; subst h3; subst h4
    show readV tT = _
    have hw : wholeZ tT = none := wholeZ_no ⟨84, by decide, by decide⟩
    unfold readV
    rw [if_neg (by decide), hw]; rfl
  · simp only at h1 h3 h4 h5; subst h1; subst h5
    have hN : n.toNat < 7 := by omega
    have e : showV ⟨4, n, []⟩ = tx.getD n.toNat [] := by
      show (if 0 < n ∧ n < 7 then tx.getD n.toNat [] else []) = _
      rw [if_pos (by omega)]
    rw [e]
    have h6 := litZ_tx ⟨n.toNat, hN⟩ (by show 1 ≤ n.toNat; omega)
    have h7 := wholeZ_tx ⟨n.toNat, hN⟩ (by show 1 ≤ n.toNat; omega)
    have h8 := tx_nil ⟨n.toNat, hN⟩ (by show 1 ≤ n.toNat; omega)
    unfold readV
    rw [if_neg h8, h7]
    simp only [h6]
    have : ((n.toNat : Nat) : Int) = n := by omega
    rw [this]
theorem dec_len : ∀ (k u : Nat), u < 10 ^ (k + 1) → (Lib.decDigits u).length ≤ k + 1
  | 0, u, h => by rw [decDigits_small (by simpa using h)]; exact Nat.le_refl _
  | k + 1, u, h => by
    by_cases hu : u < 10
    · rw [decDigits_small hu]; simp
    · have := dec_len k (u / 10) (by rw [Nat.pow_succ] at h; omega)
      rw [decDigits_big hu]; simp; omega
theorem itoa_len {n : Int} (h : okI n) : (Lib.itoa n).length ≤ 20 := by
  unfold Lib.itoa
  have h1 : n.natAbs < 10 ^ (18 + 1) := Nat.lt_of_le_of_lt (show n.natAbs ≤ 9223372036854775808 by omega) (by decide)
  have h2 : n.toNat < 10 ^ (18 + 1) := Nat.lt_of_le_of_lt (show n.toNat ≤ 9223372036854775808 by omega) (by decide)
  split
  · have := dec_len 18 n.natAbs h1; simp; omega
  · have := dec_len 18 n.toNat h2; omega
theorem show_len {k n : Int} {s : List UInt8} (hv : isV k n s) (h2 : k ≠ 2) (hn : okI n) : (showV ⟨k, n, s⟩).length ≤ 140737488355328 := by
  have htx : ∀ m : Nat, (tx.getD m []).length ≤ 7 := fun m => by
    rcases Nat.lt_or_ge m 7 with h | h
    · have key : ∀ m : Fin 7, (tx.getD m.val []).length ≤ 7 := by decide
      exact key ⟨m, h⟩
    · have : tx.getD m [] = [] := by rw [List.getD, List.getElem?_eq_none (show tx.length ≤ m from h)]; rfl
      rw [this]; decide
  have h1 := itoa_len hn
  have h3 := htx n.toNat
  have h4 : tF.length ≤ 140737488355328 := by decide
  have h5 : tT.length ≤ 140737488355328 := by decide
  have h6 : ([] : List UInt8).length ≤ 140737488355328 := by decide
  show (show3 k n s).length ≤ _
  unfold show3
  repeat' split
  all_goals first | omega | assumption | (exfalso; exact h2 (by assumption))
theorem txI_some {s : List UInt8} : ∀ {n i : Nat}, n ≤ 6 → txI s n = some i → 1 ≤ 6 - n + 1 ∧ 6 - n + 1 ≤ i ∧ i ≤ 6 ∧ tx.getD i [] = s
  | 0, i, _, h => by cases h
  | n + 1, i, hn, h => by
    rw [txI] at h
    split at h
    · rename_i hh; cases h; exact ⟨by omega, by omega, by omega, hh⟩
    · obtain ⟨h1, h2, h3, h4⟩ := txI_some (by omega) h
      exact ⟨by omega, by omega, h3, h4⟩
theorem litZ_some {s : List UInt8} {p : Int × Int} (h : litZ s = some p) : isV p.1 p.2 [] ∧ showV ⟨p.1, p.2, []⟩ = s ∧ okI p.2 := by
  unfold litZ at h
  split at h
  · rename_i hs; cases h; subst hs; exact ⟨.inr (.inr (.inr (.inl ⟨rfl, .inr rfl, rfl⟩))), rfl, by decide⟩
  · split at h
    · rename_i hs; cases h; subst hs; exact ⟨.inr (.inr (.inr (.inl ⟨rfl, .inl rfl, rfl⟩))), rfl, by decide⟩
    · obtain ⟨i, hi, rfl⟩ := Option.map_eq_some_iff.1 h
      obtain ⟨h1, h2, h3, h4⟩ := txI_some (by omega) hi
      refine ⟨.inr (.inr (.inr (.inr ⟨rfl, by show (1 : Int) ≤ (i : Int); omega, by show (i : Int) ≤ 6; omega, rfl⟩))), ?_, by show -9223372036854775808 ≤ (i : Int) ∧ (i : Int) ≤ 9223372036854775807; omega⟩
      show (if 0 < (i : Int) ∧ (i : Int) < 7 then tx.getD (i : Int).toNat [] else []) = s
      rw [if_pos (by omega), Int.toNat_natCast, h4]
/-- What is read is a value, and is shown as it was. -/
theorem show_read (s : List UInt8) : isV (readV s).k (readV s).n (readV s).s ∧ okI (readV s).n ∧ (s.length ≤ 200 → showV (readV s) = s) := by
  unfold readV
  split
  · rename_i h; subst h; exact ⟨.inl ⟨rfl, rfl, rfl⟩, by decide, fun _ => rfl⟩
  · split
    · rename_i v hv
      have hz := itoa_whole hv
      refine ⟨.inr (.inl ⟨rfl, rfl⟩), ?_, fun _ => hz⟩
      unfold wholeZ at hv
      split at hv
      · rename_i hh; cases hv; exact hh.2
      · cases hv
    · split
      · rename_i p hp
        obtain ⟨h1, h2, h3⟩ := litZ_some hp
        exact ⟨h1, h3, fun _ => h2⟩
      · split
        · rename_i h200
          exact ⟨.inr (.inr (.inr (.inr ⟨rfl, by decide, by decide, rfl⟩))), by decide, fun h => absurd h200 (by omega)⟩
        · rename_i h200
          exact ⟨.inr (.inr (.inl ⟨rfl, rfl, by show s.length ≤ 200; omega⟩)), by show okI 0; decide, fun _ => rfl⟩
end Go.Proofs.YtbkhfmgdnnaaoaaGreatDoor
