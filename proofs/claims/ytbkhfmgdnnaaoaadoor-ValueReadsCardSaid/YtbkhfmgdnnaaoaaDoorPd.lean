/- Proved: what sccsame.Cells, plain.Told and sccsame.Error return. Condition: errors.errorType reads as laid. -/
import Derived.Test.YtbkhfmgdnnaaoaaDoorPc
import Derived.Test.YtbkhfmgdnnaaoaaDoorErrAs
namespace Go.Proofs.YtbkhfmgdnnaaoaaDoor
open Go Go.EYtbkhfmgdnnaaoaaDoor Go.RowKit
set_option maxRecDepth 100000
variable {gl : List (Nat × List D)}

def rowD (p : Int × Int) : List D := [iD p.1, iD p.2]
theorem sameCells_d (l m : List (Int × Int)) (hl : l.length ≤ 9223372036854775806) : FnP Tryd.prog gl 19 [.lst 2 (l.map rowD), .lst 2 (m.map rowD)] (.b (l = m) inferInstance) := by
  refine fnP_of_vc (nv := 9999) (cu := []) fits mixed Tryd.func19 rfl (by unfold HasBody; kernel_rfl) rfl ?_
  ((repeat' ((conv => whnf); (first | refine Fork.yes (by assumption) ?_ | refine Fork.no (by assumption) ?_ | refine Fork.nono (by assumption) ?_ | (refine Fork.yes ?_ ?_; focus (simp [andPD]; done)) | (refine Fork.no ?_ ?_; focus (simp [andPD]; done)) | refine Fork.neg (fun _ => ?_) (fun _ => ?_) | refine Fork.mk (fun _ => ?_) (fun _ => ?_)))); (all_goals (conv => whnf)))
  · exact LeD.bf (fun h => by subst h; simp at *)
  · have hlen : l.length = m.length := by simp at *; omega
    refine ⟨{ σ := Nat, fr := fun k => [(5, .c (.d (iD k)))], ks := [], L := fun _ => [], ex := 0, I := fun k => k ≤ l.length ∧ l.take k = m.take k, μ := fun k => l.length - k }, ⟨0, ⟨Nat.zero_le _, rfl⟩, ?_⟩, fun (k : Nat) hk => ?_⟩
    · ((repeat' first | exact rfl | ((conv => whnf); first | done | exact True.intro | exact Or.inr (Or.inl rfl) | exact Or.inr (Or.inr (Or.inl ⟨rfl, _, _, rfl, by omega⟩)) | refine And.intro ?_ ?_)); (all_goals (conv => whnf)))
    · obtain ⟨hk1, hk2⟩ := hk
      ((repeat' ((conv => whnf); (first | refine Fork.yes (by assumption) ?_ | refine Fork.no (by assumption) ?_ | refine Fork.nono (by assumption) ?_ | (refine Fork.yes ?_ ?_; focus (simp [andPD]; done)) | (refine Fork.no ?_ ?_; focus (simp [andPD]; done)) | refine Fork.neg (fun _ => ?_) (fun _ => ?_) | refine Fork.mk (fun _ => ?_) (fun _ => ?_)))); (all_goals (conv => whnf)))
      · have hlt : k < l.length := by simp at *; omega
        have hltm : k < m.length := by omega
        refine ⟨by kernel_rfl, ?_⟩
        ((repeat' ((conv => whnf); (first | refine Fork.yes (by assumption) ?_ | refine Fork.no (by assumption) ?_ | refine Fork.nono (by assumption) ?_ | (refine Fork.yes ?_ ?_; focus (simp [andPD]; done)) | (refine Fork.no ?_ ?_; focus (simp [andPD]; done)) | refine Fork.neg (fun _ => ?_) (fun _ => ?_) | refine Fork.mk (fun _ => ?_) (fun _ => ?_)))); (all_goals (conv => whnf)))
        refine ⟨Int.natCast_nonneg _, _, get_map hlt, ?_⟩
        ((repeat' ((conv => whnf); (first | refine Fork.yes (by assumption) ?_ | refine Fork.no (by assumption) ?_ | refine Fork.nono (by assumption) ?_ | (refine Fork.yes ?_ ?_; focus (simp [andPD]; done)) | (refine Fork.no ?_ ?_; focus (simp [andPD]; done)) | refine Fork.neg (fun _ => ?_) (fun _ => ?_) | refine Fork.mk (fun _ => ?_) (fun _ => ?_)))); (all_goals (conv => whnf)))
        refine ⟨Int.natCast_nonneg _, _, get_map hltm, ?_⟩
        ((repeat' ((conv => whnf); (first | refine Fork.yes (by assumption) ?_ | refine Fork.no (by assumption) ?_ | refine Fork.nono (by assumption) ?_ | (refine Fork.yes ?_ ?_; focus (simp [andPD]; done)) | (refine Fork.no ?_ ?_; focus (simp [andPD]; done)) | refine Fork.neg (fun _ => ?_) (fun _ => ?_) | refine Fork.mk (fun _ => ?_) (fun _ => ?_)))); (all_goals (conv => whnf)))
        · rename_i h
          refine LeD.bf (fun he => h ?_)
          subst he
          exact ⟨rfl, rfl, trivial⟩
        · rename_i h
          refine ⟨k + 1, ⟨⟨hlt, ?_⟩, by show l.length - (k + 1) < l.length - k; omega⟩, ?_⟩
          · rw [List.take_succ_eq_append_getElem hlt, List.take_succ_eq_append_getElem hltm, hk2]
            rw [show l[k] = m[k] from Prod.ext h.1 h.2.1]
          · ((repeat' first | exact rfl | ((conv => whnf); first | done | exact True.intro | exact Or.inr (Or.inl rfl) | exact Or.inr (Or.inr (Or.inl ⟨rfl, _, _, rfl, by omega⟩)) | refine And.intro ?_ ?_)); (all_goals (conv => whnf)))
            exact ceq (show IntKind.i64.wrap ((k : Int) + 1) = ((k + 1 : Nat) : Int) by rw [wrapI (by omega)]; rfl)
      · have hkl : k = l.length := by simp at *; omega
        refine LeD.bt ?_
        rw [hkl, List.take_length, hlen, List.take_length] at hk2
        exact hk2

theorem FnP.of_below {P : Program} {g : Nat} {ds : List D} {xs : List Value} {r : D} {v : Value} (hB : HasBody P g) (hx : ∀ M w ys, DenL M w ds ys → ys = xs) (hv : ∀ M w, DenD M w r v)
    (h : ∀ M w, Glob gl M w → Calls P g xs.toArray w fun e w' => e = .returned v ∧ Below w.heap.size w w') : FnP P gl g ds r := fun w M ys _ hg hd => by
  obtain rfl := hx M w ys hd
  exact .inl ⟨hB, (h M w hg).mono fun e w' ⟨h1, h2⟩ => ⟨Evo.of_below h2 _, v, h1, hv _ _⟩⟩
/-- The variable errors.errorType, as laid. -/
abbrev errT : List D := [.v (.iface 141 (.agg #[.pointer (some ⟨10, 33, none⟩)]))]
theorem errT_of {M : Nat → Prop} {w : World} (hg : Glob gl M w) (h : Go.EYtbkhfmgdnnaaoaaDoor.look gl 1 = some errT) : ErrT w := by
  obtain ⟨_, xs, h2, _, h4⟩ := hg _ _ h
  obtain ⟨x, rfl, h5⟩ := All2.one_iff.1 h4
  obtain rfl := DenD.v_inv h5
  exact globCell h2 0 _ rfl
theorem Told_nil : FnP Tryd.prog gl 42 [.v .nilIface] (iD 0) :=
  FnP.of_below (xs := [.nilIface]) (v := .int .i64 0) (by unfold HasBody; kernel_rfl) (fun M w ys hd => by
    obtain ⟨y, rfl, h1⟩ := All2.one_iff.1 hd
    rw [DenD.v_inv h1]) (fun _ _ => .v _) (fun M w hg => told_nil w)
theorem Told_err (n : Int) (h : Go.EYtbkhfmgdnnaaoaaDoor.look gl 1 = some errT) : FnP Tryd.prog gl 42 [.v (.iface 72 (.int .i64 n))] (iD n) :=
  FnP.of_below (xs := [.iface 72 (.int .i64 n)]) (v := .int .i64 n) (by unfold HasBody; kernel_rfl) (fun M w ys hd => by
    obtain ⟨y, rfl, h1⟩ := All2.one_iff.1 hd
    rw [DenD.v_inv h1]) (fun _ _ => .v _) (fun M w hg => told_err n w (errT_of hg h))
theorem errD_cases {P : D → Prop} (n : Int) (h0 : n = 0 → P (.v .nilIface)) (h1 : n ≠ 0 → P (.v (.iface 72 (.int .i64 n)))) : P (errD n) := by
  unfold errD
  split
  · exact h0 ‹_›
  · exact h1 ‹_›
theorem Error_d (n k : Int) (h : Go.EYtbkhfmgdnnaaoaaDoor.look gl 1 = some errT) : FnP Tryd.prog gl 15 [errD n, iD k] (.b (n = k) inferInstance) := by
  refine errD_cases (P := fun d => FnP Tryd.prog gl 15 [d, iD k] (.b (n = k) inferInstance)) n (fun h0 => ?_) (fun h0 => ?_)
  · subst h0
    refine fnP_of_vc (nv := 9999) (cu := []) fits mixed Tryd.func15 rfl (by unfold HasBody; kernel_rfl) rfl ?_
    ((repeat' ((conv => whnf); first | (first | refine Fork.yes (by assumption) ?_ | refine Fork.no (by assumption) ?_ | refine Fork.nono (by assumption) ?_ | (refine Fork.yes ?_ ?_; focus (simp [andPD]; done)) | (refine Fork.no ?_ ?_; focus (simp [andPD]; done)) | refine Fork.neg (fun _ => ?_) (fun _ => ?_) | refine Fork.mk (fun _ => ?_) (fun _ => ?_)) | refine Or.inl (Or.inl (Exists.intro _ (And.intro (by first | exact Told_nil) ?_))) | refine Exists.intro _ (And.intro (by first | exact Told_nil) ?_))); (all_goals (conv => whnf)))
    exact LeD.b (by omega)
  · refine fnP_of_vc (nv := 9999) (cu := []) fits mixed Tryd.func15 rfl (by unfold HasBody; kernel_rfl) rfl ?_
    ((repeat' ((conv => whnf); first | (first | refine Fork.yes (by assumption) ?_ | refine Fork.no (by assumption) ?_ | refine Fork.nono (by assumption) ?_ | (refine Fork.yes ?_ ?_; focus (simp [andPD]; done)) | (refine Fork.no ?_ ?_; focus (simp [andPD]; done)) | refine Fork.neg (fun _ => ?_) (fun _ => ?_) | refine Fork.mk (fun _ => ?_) (fun _ => ?_)) | refine Or.inl (Or.inl (Exists.intro _ (And.intro (by first | exact Told_err n h) ?_))) | refine Exists.intro _ (And.intro (by first | exact Told_err n h) ?_))); (all_goals (conv => whnf)))
    exact LeD.b (by omega)
end Go.Proofs.YtbkhfmgdnnaaoaaDoor
