/- Proved: the fifteenth part of the reckoner: the rule of regions that draw their order is sound. No condition. -/
import Derived.Test.YtbkhfmgdnnaaoaaDoorEn
namespace Go.EYtbkhfmgdnnaaoaaDoor
open Go Go.RowKit

def Lst (listed : Array Bool) (i : Nat) : Prop := listed.getD i false = true
theorem lst_set {listed : Array Bool} {j : Nat} (hj : j < listed.size) : (fun i => Lst listed i ∨ i = j) = Lst (listed.setIfInBounds j true) := by
  funext i
  apply propext
  unfold Lst
  simp only [Array.getD_eq_getD_getElem?, Array.getElem?_setIfInBounds]
  by_cases h : j = i
  · subst h; simp [hj]
  · have h2 : ¬ i = j := fun e => h e.symm
    simp [h, h2]
theorem ready_iff {ops : Array Oper} {listed : Array Bool} (hs : listed.size = ops.size) {j : Nat} : j ∈ Region.ready .any ops listed ↔ ¬ Lst listed j ∧ ∃ o, ops[j]? = some o ∧ ∀ e ∈ o.after, Region.binds .any e = true → Lst listed e.on := by
  rw [mem_ready]
  constructor
  · rintro ⟨h1, o, ho, h2⟩
    have hj : j < listed.size := by rw [hs]; exact (Array.getElem?_eq_some_iff.1 ho).1
    refine ⟨fun h => ?_, o, ho, h2⟩
    unfold Lst at h
    rw [Array.getD_eq_getD_getElem?, Array.getElem?_eq_getElem hj] at h h1
    simp only [Option.getD_some] at h h1
    rw [h] at h1; cases h1
  · rintro ⟨h1, o, ho, h2⟩
    have hj : j < listed.size := by rw [hs]; exact (Array.getElem?_eq_some_iff.1 ho).1
    refine ⟨?_, o, ho, h2⟩
    unfold Lst at h1
    rw [Array.getD_eq_getD_getElem?, Array.getElem?_eq_getElem hj] at h1 ⊢
    simp only [Option.getD_some] at h1 ⊢
    cases hq : listed[j] with
    | false => rfl
    | true => exact absurd hq h1
theorem filter_less {p p' : Nat → Bool} (h : ∀ i, p' i = true → p i = true) : ∀ {l : List Nat} {j : Nat}, j ∈ l → p j = true → p' j = false → (l.filter p').length < (l.filter p).length
  | [], j, hj, _, _ => by simp at hj
  | x :: l, j, hj, h1, h2 => by
    have le : ∀ l : List Nat, (l.filter p').length ≤ (l.filter p).length := fun l => by
      induction l with
      | nil => simp
      | cons y l ih =>
        simp only [List.filter_cons]
        cases hy : p' y with
        | true => rw [h y hy]; simp; exact ih
        | false => cases p y <;> simp <;> omega
    rcases List.mem_cons.1 hj with rfl | hj
    · simp only [List.filter_cons, h1, h2, if_true, Bool.false_eq_true, if_false, List.length_cons]
      have := le l; omega
    · have := filter_less h hj h1 h2
      simp only [List.filter_cons]
      cases hy : p' x with
      | true => rw [h x hy]; simp; exact this
      | false => cases p x <;> simp <;> omega
theorem leading : ∀ bs : List Bool, ∃ q, q ≤ bs.length ∧ bs = List.replicate q false ++ bs.drop q ∧ (bs.drop q = [] ∨ ∃ bs', bs.drop q = true :: bs')
  | [] => ⟨0, by simp, by simp, .inl rfl⟩
  | true :: bs => ⟨0, by simp, by simp, .inr ⟨bs, rfl⟩⟩
  | false :: bs => by
    obtain ⟨q, h1, h2, h3⟩ := leading bs
    exact ⟨q + 1, by simp; omega, by simp only [List.replicate_succ, List.cons_append, List.drop_succ_cons]; rw [← h2], by simpa using h3⟩
section
variable {P : Program} {gl : List (Nat × List D)} {tt : List (Nat × TI)} {M0 S0 : Nat → Prop} {w0 : Base} {N : Nat} {adr : Env} {L : List (Nat × Blk)} {n : Nat} {ops : Array Oper} {bs0 : List Bool} {ms : List Nat} {m m2 : Nat} {frs : Nat → List (Nat × V)} {res : Nat → V} {Q : Exit → Act → World → Prop}
def left (listed : Array Bool) (m m2 : Nat) : Nat := ((List.range' m (m2 - m)).filter fun i => !listed.getD i false).length
theorem seg_any (hR : RegOk ops bs0 ms) (hbs : ∀ j, m ≤ j → j < m2 → bs0.getD j false = false) (hbar : m2 = ops.size ∨ bs0.getD m2 false = true) (hm2 : m2 ≤ ops.size) (hS : ∀ j, m ≤ j → j < m2 → Step P gl N L ops j (frs j) (frs (j + 1)) (res j))
    (hle : m ≤ m2) (cont : ∀ (listed : Array Bool) (a : Act) (w : World) (fuel : Nat), listed.size = ops.size → (∀ i, Lst listed i ↔ i < m2) → Ok gl M0 S0 w0 N adr (frs m2) L n a w → ops.size - m2 ≤ fuel → wpAny P .any ops Q fuel listed a w) :
    ∀ (fuel : Nat) (listed : Array Bool) (a : Act) (w : World), InSeg gl M0 S0 w0 N adr L n ops m m2 frs (Lst listed) a w → listed.size = ops.size → left listed m m2 + (ops.size - m2) ≤ fuel → wpAny P .any ops Q fuel listed a w := by
  intro fuel
  induction fuel with
  | zero =>
    intro listed a w h hs hu
    have hall : ∀ i, i < m2 → Lst listed i := by
      intro i hi
      rcases Nat.lt_or_ge i m with h1 | h1
      · exact h.lo i h1
      · have h0 : left listed m m2 = 0 := by omega
        unfold left at h0
        have h2 := List.eq_nil_of_length_eq_zero h0
        rw [List.filter_eq_nil_iff] at h2
        have h3 := h2 i (by rw [List.mem_range'_1]; omega)
        unfold Lst
        simpa using h3
    exact cont listed a w 0 hs (fun i => ⟨h.hi i, hall i⟩) ⟨h.ok.size, h.ok.defers, fun t s hl => h.fr m2 hle (Nat.le_refl _) t s hl (fun i o _ h2 _ _ => ⟨fun _ => h2, fun _ => hall i h2⟩), h.ok.wok, h.ok.glob, h.ok.base, h.ok.new, h.ok.same⟩ (by omega)
  | succ fuel ih =>
    intro listed a w h hs hu
    by_cases hall : ∀ i, i < m2 → Lst listed i
    · exact cont listed a w (fuel + 1) hs (fun i => ⟨h.hi i, hall i⟩) ⟨h.ok.size, h.ok.defers, fun t s hl => h.fr m2 hle (Nat.le_refl _) t s hl (fun i o _ h2 _ _ => ⟨fun _ => h2, fun _ => hall i h2⟩), h.ok.wok, h.ok.glob, h.ok.base, h.ok.new, h.ok.same⟩ (by omega)
    · obtain ⟨j0, hj0⟩ : ∃ j, j < m2 ∧ ¬ Lst listed j := by
        refine Classical.byContradiction fun hc => hall fun i hi => Classical.byContradiction fun hni => hc ⟨i, hi, hni⟩
      obtain ⟨j, ⟨hj, hnj⟩, hmin⟩ := exists_least (p := fun j => j < m2 ∧ ¬ Lst listed j) ⟨j0, hj0⟩
      have hjs : j < ops.size := by omega
      have hoj : ops[j]? = some ops[j] := Array.getElem?_eq_getElem hjs
      have hrj : j ∈ Region.ready .any ops listed := (ready_iff hs).2 ⟨hnj, _, hoj, fun e he hb => by
        have hlt := hR.low j _ hoj e he hb
        rcases Classical.em (Lst listed e.on) with h1 | h1
        · exact h1
        · have := hmin e.on ⟨by omega, h1⟩; omega⟩
      refine ⟨fun hr => by rw [hr] at hrj; simp at hrj, fun i hi => ?_⟩
      obtain ⟨hni, o, ho, ha⟩ := (ready_iff hs).1 hi
      have his : i < ops.size := (Array.getElem?_eq_some_iff.1 ho).1
      have h1 : m ≤ i := by
        rcases Nat.lt_or_ge i m with h1 | h1
        · exact absurd (h.lo i h1) hni
        · exact h1
      have h2 : i < m2 := by
        rcases Nat.lt_trichotomy i m2 with h2 | h2 | h2
        · exact h2
        · subst h2
          rcases hbar with hb | hb
          · omega
          · have hbm := (hR.bar i his hb).1
            refine absurd (mask_ok hR h.shut i o ho ha j ?_) hnj
            rw [hbm, Nat.testBit_two_pow_sub_one]; simpa using hj
        · rcases hbar with hb | hb
          · omega
          · have hbm := (hR.bar m2 (by omega) hb).2 i h2 his
            have := h.hi m2 (mask_ok hR h.shut i o ho ha m2 hbm)
            omega
      refine h.step hR hbs hS h1 h2 ho hni ha fun a' w' hI => ?_
      rw [lst_set (by rw [hs]; exact his)] at hI
      refine ih _ a' w' hI (by simpa using hs) ?_
      have : left (listed.setIfInBounds i true) m m2 < left listed m m2 := by
        refine filter_less (fun x hx => ?_) (j := i) (by rw [List.mem_range'_1]; omega) (by simpa [Lst] using hni) ?_
        · have hx' : ¬ Lst (listed.setIfInBounds i true) x := by simpa [Lst] using hx
          rw [← lst_set (by rw [hs]; exact his)] at hx'
          simp only [not_or] at hx'
          simpa [Lst] using hx'.1
        · have : Lst (listed.setIfInBounds i true) i := by rw [← lst_set (by rw [hs]; exact his)]; exact .inr rfl
          unfold Lst at this
          rw [this]; rfl
      omega
theorem vcAny_ok (hT : Fits P tt) (hR : RegOk ops bs0 ms) {k : SK} {kp : C → SK} (hQ : ∀ fr L n adr a w, k fr L n → Ok gl M0 S0 w0 N adr fr L n a w → Q .normal a w) (hp : PanOk gl M0 S0 w0 N kp Q) :
    ∀ (len : Nat) (l : List Oper) (bs : List Bool) (m : Nat) (fr : List (Nat × V)) (L : List (Nat × Blk)) (n : Nat) (adr : Env) (listed : Array Bool) (a : Act) (w : World) (fuel : Nat), l.length ≤ len → l = ops.toList.drop m → bs = bs0.drop m → m ≤ ops.size → listed.size = ops.size → (∀ i, Lst listed i ↔ i < m) →
      vcAny P gl tt w0.fx N ops.toList l bs fr L n k kp → Ok gl M0 S0 w0 N adr fr L n a w → ops.size - m ≤ fuel → wpAny P .any ops Q fuel listed a w := by
  intro len
  induction len with
  | zero =>
    intro l bs m fr L n adr listed a w fuel hl hd _ hm hs hE h hx hf
    have hl0 : l = [] := List.eq_nil_of_length_eq_zero (by omega)
    subst hl0
    have hms : m = ops.size := by
      have := congrArg List.length hd
      simp at this; omega
    have hr : Region.ready .any ops listed = [] := List.eq_nil_iff_forall_not_mem.2 fun j hj => by
      obtain ⟨h1, o, ho, _⟩ := (ready_iff hs).1 hj
      have : j < ops.size := (Array.getElem?_eq_some_iff.1 ho).1
      exact h1 ((hE j).2 (by omega))
    cases fuel with
    | zero => exact ⟨hr, hQ _ _ _ _ _ _ h hx⟩
    | succ f => exact ⟨fun _ => hQ _ _ _ _ _ _ h hx, by rw [hr]; simp⟩
  | succ len ih =>
    intro l bs m fr L n adr listed a w fuel hl hd hb hm hs hE h hx hf
    cases l with
    | nil => exact ih [] bs m fr L n adr listed a w fuel (by simp) hd hb hm hs hE h hx hf
    | cons o r =>
      have hms : m < ops.size := by
        have := congrArg List.length hd
        simp at this; omega
      have ho : ops[m]? = some o := by
        have := congrArg (·[0]?) hd
        simp at this
        exact this.symm
      have hlen : bs.length = (o :: r).length := by rw [hb, hd, List.length_drop, List.length_drop, hR.len, Array.length_toList]
      have hrd : r = ops.toList.drop (m + 1) := by
        have := congrArg List.tail hd
        simpa using this
      have hshut : Shut ops (Lst listed) := fun i oi hoi hi e he hbi => (hE _).2 (by have := hR.low i oi hoi e he hbi; have := (hE i).1 hi; omega)
      cases bs with
      | nil => simp at hlen
      | cons b bs' =>
        have hbm : bs0.getD m false = b := by
          have := congrArg (·[0]?) hb
          simp at this
          simp [List.getD, ← this]
        have hbd : bs' = bs0.drop (m + 1) := by
          have := congrArg List.tail hb
          simpa using this
        cases b with
        | true =>
          obtain ⟨f, rfl⟩ : ∃ f, fuel = f + 1 := ⟨fuel - 1, by omega⟩
          have hset : ∀ i, Lst (listed.setIfInBounds m true) i ↔ i < m + 1 := fun i => by
            rw [← lst_set (by rw [hs]; exact hms)]
            show (Lst listed i ∨ i = m) ↔ i < m + 1
            rw [hE]; omega
          have hmr : m ∈ Region.ready .any ops listed := (ready_iff hs).2 ⟨fun h => by have := (hE m).1 h; omega, o, ho, fun e he hbi => (hE _).2 (hR.low m o ho e he hbi)⟩
          refine ⟨fun hr => by rw [hr] at hmr; simp at hmr, fun i hi => ?_⟩
          obtain ⟨hni, oi, hoi, ha⟩ := (ready_iff hs).1 hi
          have his : i < ops.size := (Array.getElem?_eq_some_iff.1 hoi).1
          obtain rfl : i = m := by
            rcases Nat.lt_trichotomy i m with h1 | h1 | h1
            · exact absurd ((hE i).2 h1) hni
            · exact h1
            · have := (hE m).1 (mask_ok hR hshut i oi hoi ha m ((hR.bar m hms hbm).2 i h1 his)); omega
          obtain ⟨hdst, h1⟩ := onB_ok (show onB (dstB N o.dst) _ from h)
          obtain ⟨run, fr1, h2, hg, hle⟩ := onGuard_ok h1
          have hw := hg.wanted (adr := adr) (M := Mut M0 adr L) (w := w) (a := a) (fun t s _ hl => hx.fr t s hl)
          have hx1 := hx.le hle
          unfold wpOp
          simp only [ho, hw]
          cases run with
          | true =>
            simp only [if_true]
            refine .inl (xOp_ok hT h2 hx1 ?_ ?_)
            · rintro v w' ⟨s, fr', L', n', adr', h3, h4, h5⟩
              rw [putK_eq] at h3
              exact ih r bs' (i + 1) _ _ _ adr' _ _ _ f (by simp at hl; omega) hrd hbd (by omega) (by simpa using hs) hset h3 (h4.put hdst h5) (by omega)
            · intro c fr' L' n' adr' x w' h3 h4 h5
              exact hp c fr' L' n' adr' x a w' h3 h4 h5
          | false =>
            simp only [Bool.false_eq_true, if_false]
            rw [putK_eq] at h2
            exact ih r bs' (i + 1) _ _ _ adr _ _ _ f (by simp at hl; omega) hrd hbd (by omega) (by simpa using hs) hset h2 (hx1.put hdst (DenD.v _)) (by omega)
        | false =>
          obtain ⟨q, hq1, hq2, hq3⟩ := leading (false :: bs')
          have hqpos : 0 < q := by
            rcases Nat.eq_zero_or_pos q with h0 | h0
            · subst h0
              rcases hq3 with h1 | ⟨x, h1⟩ <;> simp at h1
            · exact h0
          have hql : q ≤ (o :: r).length := by rw [← hlen]; exact hq1
          have hlt : ((o :: r).take q).length = q := by rw [List.length_take]; omega
          have hol : (o :: r).length = ops.size - m := by rw [hd]; simp
          have hqs : m + q ≤ ops.size := by omega
          have hbs : ∀ j, m ≤ j → j < m + q → bs0.getD j false = false := fun j h1 h2 => by
            have h3 : (false :: bs')[j - m]? = some false := by
              rw [hq2, List.getElem?_append_left (by simp; omega), List.getElem?_replicate_of_lt (by omega)]
            rw [hb, List.getElem?_drop] at h3
            rw [show m + (j - m) = j by omega] at h3
            simp [List.getD, h3]
          have hbar : m + q = ops.size ∨ bs0.getD (m + q) false = true := by
            rcases hq3 with h1 | ⟨bs'', h1⟩
            · left
              have := congrArg List.length h1
              simp only [List.length_drop, List.length_nil] at this
              omega
            · right
              have := congrArg (·[0]?) h1
              rw [hb, List.drop_drop] at this
              simp only [List.getElem?_drop, List.getElem?_cons_zero, Nat.add_zero] at this
              simp [List.getD, this]
          rw [hq2] at h
          have hspl : (o :: r) = (o :: r).take q ++ (o :: r).drop q := (List.take_append_drop q (o :: r)).symm
          rw [hspl] at h
          have hrep : List.replicate q false = List.replicate ((o :: r).take q).length false := by rw [hlt]
          rw [hrep] at h
          obtain ⟨frs, res, e1, e2, e3⟩ := seg_of_vc hT ((o :: r).take q) ((o :: r).drop q) _ m fr (fun i o' hi => by
            rw [List.getElem?_take] at hi
            split at hi
            · rw [hd, List.getElem?_drop, Array.getElem?_toList] at hi; exact hi
            · cases hi) h
          rw [hlt] at e2 e3
          refine seg_any hR hbs hbar hqs e2 (by omega) ?_ fuel listed a w ⟨fun i hi => (hE i).2 hi, fun i hi => by have := (hE i).1 hi; omega, hshut, ⟨hx.size, hx.defers, (fun t s hl => by cases hl), hx.wok, hx.glob, hx.base, hx.new, hx.same⟩, fun j h1 h2 t s hs' hc => ?_⟩ hs ?_
          · intro listed' a' w' fuel' hs' hE' hx' hf'
            refine ih ((o :: r).drop q) ((false :: bs').drop q) (m + q) _ L n adr listed' a' w' fuel' (by rw [List.length_drop]; simp at hl ⊢; omega) (by rw [hd, List.drop_drop]) (by rw [hb, List.drop_drop]) hqs hs' hE' e3 hx' hf'
          · -- at the start
            have hnone : ∀ i oi, m ≤ i → i < m + q → ops[i]? = some oi → oi.dst = some t → ¬ i < j := fun i oi g1 g2 g3 g4 hij => by
              have := (hE i).1 ((hc i oi g1 g2 g3 g4).2 hij); omega
            -- no writer ahead of j: the slot is as at the start
            have back : ∀ jj, m ≤ jj → jj ≤ j → ∀ s, look (frs jj) t = some s → ∃ s0, look fr t = some s0 ∧ ∀ (adr : Env) (M : Nat → Prop) (w : World) (x : Value), DenV adr M w s0 x → DenV adr M w s x := by
              intro jj
              induction jj with
              | zero =>
                intro g1 _ s hs
                obtain rfl : m = 0 := by omega
                rw [e1] at hs
                exact ⟨s, hs, fun _ _ _ _ h => h⟩
              | succ jj ihj =>
                intro g1 g2 s hs
                by_cases hmj : m = jj + 1
                · rw [← hmj, e1] at hs
                  exact ⟨s, hs, fun _ _ _ _ h => h⟩
                · obtain ⟨o', run, fr1, k1, k2, k3, k4, k5, _, _⟩ := e2 jj (by omega) (by omega)
                  rw [k5] at hs
                  have hs2 : look fr1 t = some s := by
                    cases hdd : o'.dst with
                    | none => rw [hdd] at hs; exact hs
                    | some d =>
                      rw [hdd] at hs
                      simp only [putF] at hs
                      rw [look_cons, if_neg (fun h => hnone jj o' (by omega) (by omega) k1 (by rw [hdd, h]) (by omega))] at hs
                      exact hs
                  obtain ⟨s1, k6, k7⟩ := k4 t s hs2
                  obtain ⟨s0, k8, k9⟩ := ihj (by omega) (by omega) s1 k6
                  exact ⟨s0, k8, fun adr M w x hx => k7 adr M w x (k9 adr M w x hx)⟩
            obtain ⟨s0, g1, g2⟩ := back j h1 (Nat.le_refl _) s hs'
            exact g2 _ _ _ _ (hx.fr t s0 g1)
          · have : left listed m (m + q) ≤ q := by
              unfold left
              have := List.length_filter_le (fun i => !listed.getD i false) (List.range' m (m + q - m))
              simp at this ⊢; omega
            omega
/-- A region that draws its order. -/
theorem region_any_ok (hT : Fits P tt) (hm : P.follows .mixedOrders = true) {id : Nat} {bs : List Bool} (hB : regB ops bs = true) {k : SK} {kp : C → SK} (hQ : ∀ fr L n adr a w, k fr L n → Ok gl M0 S0 w0 N adr fr L n a w → Q .normal a w) (hp : PanOk gl M0 S0 w0 N kp Q)
    {fr : List (Nat × V)} {a : Act} {w : World} (h : vcAny P gl tt w0.fx N ops.toList ops.toList bs fr L n k kp) (hx : Ok gl M0 S0 w0 N adr fr L n a w) : (Code.region id ops true).wp P Q a w := by
  refine wp_region_any hm (vcAny_ok hT (regB_ok hB) hQ hp _ ops.toList bs 0 fr L n adr _ a w.drew _ (Nat.le_refl _) (by simp) (by simp) (by omega) (by simp) (fun i => ?_) h hx.drew (by omega))
  unfold Lst
  simp only [Array.getD_eq_getD_getElem?, Array.getElem?_replicate]
  constructor
  · intro h; split at h <;> simp at h
  · intro h; omega
end
end Go.EYtbkhfmgdnnaaoaaDoor
