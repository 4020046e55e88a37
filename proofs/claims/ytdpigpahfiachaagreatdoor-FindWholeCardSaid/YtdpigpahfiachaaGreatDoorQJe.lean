/- Proved: a part of what the law is proved with (the reckoner, contracts of functions, plain laws). Conditions: as each says. -/
import Derived.Test.YtdpigpahfiachaaGreatDoorQIn
import Derived.Test.YtdpigpahfiachaaGreatDoorQJc
section
namespace Go.Proofs.YtdpigpahfiachaaGreatDoor
open Go Go.EYtdpigpahfiachaaGreatDoor
set_option maxRecDepth 100000
set_option maxHeartbeats 4000000
variable {gl : List (Nat × List D)}
theorem at_d (c r : Int) : FnP Tryz.prog gl 21 [iD c, iD r] (cellD c r) := by
  refine fnP_of_vc (nv := 9999) (cu := []) fits mixed Tryz.func21 rfl (by unfold HasBody; kernel_rfl) rfl ?_
  ((repeat' ((conv => whnf); first | exact .intro | refine .ya ?_ | refine .na ?_ | refine .ys ?_ | refine .ns ?_ | refine .neg (fun _ => ?_) (fun _ => ?_) | refine .mk (fun _ => ?_) (fun _ => ?_) | refine .mk ?_ ?_ | refine AK ?_ | refine AT ?_ | fail)); all_goals conv => whnf)
  exact LeD.rfl
theorem good_less {rf : List UInt8 → Option Rf} {l : List Fl} (h : goodZ rf l) : ∀ {i j : Nat} (hi : i < j) (hj : j < l.length), lessF (l[i]'(by omega)) l[j] := by
  intro i j
  induction j with
  | zero => intro hi; omega
  | succ j ih =>
    intro hi hj
    have h1 := h.2 (j + 1) hj
    rw [stepZ_at hj] at h1
    have h2 : lessF (l[j]'(by omega)) l[j + 1] := by
      split at h1
      · split at h1
        · rename_i h3; exact h3 (by omega)
        · omega
      · omega
    rcases Nat.lt_succ_iff_lt_or_eq.1 hi with h3 | rfl
    · have h4 := ih h3 (by omega)
      unfold lessF at *
      omega
    · exact h2
theorem good_text {rf : List UInt8 → Option Rf} {l : List Fl} (h : goodZ rf l) : ∀ f ∈ l, f.t.length ≤ 200 := by
  intro f hf
  obtain ⟨k, hk, rfl⟩ := List.getElem_of_mem hf
  have h1 := h.2 k hk
  rw [stepZ_at hk] at h1
  refine Classical.byContradiction fun hn => ?_
  have : textZ rf l[k].t = 4 := by unfold textZ; rw [if_pos (by omega)]
  rw [this] at h1
  split at h1
  · split at h1
    · split at h1 <;> omega
    · omega
  · omega
theorem fnd_mem {rf : List UInt8 → Option Rf} {l : List Fl} (h : goodZ rf l) (b : Bool) (p : List UInt8) {k : Nat} (hk : k < l.length) : (l[k].c, l[k].r) ∈ fnd b p l ↔ l[k].t = p ∨ b = false ∧ Lib.contains l[k].t p = true := by
  unfold fnd
  rw [List.mem_map]
  constructor
  · rintro ⟨f, hf, he⟩
    obtain ⟨hm, hp⟩ := List.mem_filter.1 hf
    obtain ⟨i, hi, rfl⟩ := List.getElem_of_mem hm
    obtain ⟨e1, e2⟩ := Prod.mk.inj he
    have : i = k := by
      rcases Nat.lt_trichotomy i k with hlt | he | hlt
      · have := good_less h hlt hk; unfold lessF at this; omega
      · exact he
      · have := good_less h hlt hi; unfold lessF at this; omega
    subst this
    cases b <;> simpa using hp
  · intro hp
    refine ⟨l[k], List.mem_filter.2 ⟨List.getElem_mem hk, ?_⟩, rfl⟩
    cases b <;> simpa using hp
theorem contains_same {s p : List UInt8} (hl : s.length = p.length) (hc : Lib.contains s p = true) : s = p := by
  refine Classical.byContradiction fun hn => ?_
  have := Lib.index_long (s := s) (sub := p) (by omega) (fun e => hn e.symm)
  unfold Lib.contains at hc
  rw [this] at hc
  exact absurd hc (by decide)
abbrev oneF : List Fl := [⟨1, 1, [97, 98]⟩]
theorem oneF_good (rf : List UInt8 → Option Rf) : goodZ rf oneF := by
  refine ⟨by decide, fun k hk => ?_⟩
  have : k = 0 := by simpa using hk
  subst this
  rfl
theorem FindWhole_d (te : TypeId) (pe : Value) (hV : Has gl (glV te pe)) (hl : Go.EYtdpigpahfiachaaGreatDoor.look gl 0 = some lvAll) {rf : List UInt8 → Option Rf} (hR : RefsOk rf) {mx : Int} (hm : Go.EYtdpigpahfiachaaGreatDoor.look gl 3 = some [iD mx]) (l : List Fl) (p : List UInt8) :
    FnP Tryz.prog gl 4 [.lst 3 (l.map flD), .str p] (.v (.bool true)) := by
  have c0 : FnP Tryz.prog gl 56 [.lst 3 (oneF.map flD)] (.v .nilIface) := by
    rcases gCheck_d te pe hV hl hR oneF with ⟨_, h⟩ | ⟨h, _⟩
    · exact h
    · exact absurd (oneF_good rf) h
  have cf : FnP Tryz.prog gl 20 [.lst 3 (oneF.map flD), .str [98], .v (.bool false)] (.tup [.lst 2 [[iD 1, iD 1]], .v .nilIface]) := by
    have h := Find_s hm oneF (by decide) (good_text (oneF_good rf)) [98] (by simp) false c0
    rwa [show fnd false [98] oneF = [(1, 1)] by decide] at h
  rcases gCheck_d te pe hV hl hR l with ⟨hg, c1⟩ | ⟨hg, e, he, c1⟩
  · by_cases hp : p = []
    · subst hp
      have c2 := Find_0 l true c1
      have c3 := Find_0 l false c1
      refine fnP_of_vc (nv := 9999) (cu := []) fits mixed Tryz.func4 rfl (by unfold HasBody; kernel_rfl) rfl ?_
      ((repeat' ((conv => whnf); first | exact .intro | refine .ya ?_ | refine .na ?_ | refine .ys ?_ | refine .ns ?_ | refine .neg (fun _ => ?_) (fun _ => ?_) | refine .mk (fun _ => ?_) (fun _ => ?_) | refine .inl (.inl (X1 (by first | exact c2 | exact c3 | exact at_d _ _) ?_)) | refine .inl (X1 (by first | exact c2 | exact c3 | exact at_d _ _) ?_) | refine X1 (by first | exact c2 | exact c3 | exact at_d _ _) ?_ | refine .inr (X1 (by first | exact cf) ?_) | refine .mk ?_ ?_ | refine AK ?_ | refine AT ?_ | fail)); all_goals conv => whnf)
      exact LeD.vt fun h => h
    · have ht := good_text hg
      have c2 := Find_s hm l hg.1 ht p hp true c1
      have c3 := Find_s hm l hg.1 ht p hp false c1
      have n2 := fnd_len true p l
      have n3 := fnd_len false p l
      have hg1 := hg.1
      refine fnP_of_vc (nv := 9999) (cu := []) fits mixed Tryz.func4 rfl (by unfold HasBody; kernel_rfl) rfl ?_
      ((repeat' ((conv => whnf); first | exact .intro | refine .ya ?_ | refine .na ?_ | refine .ys ?_ | refine .ns ?_ | refine .neg (fun _ => ?_) (fun _ => ?_) | refine .mk (fun _ => ?_) (fun _ => ?_) | refine .inl (.inl (X1 (by first | exact c2 | exact c3 | exact at_d _ _) ?_)) | refine .inl (X1 (by first | exact c2 | exact c3 | exact at_d _ _) ?_) | refine X1 (by first | exact c2 | exact c3 | exact at_d _ _) ?_ | refine .inr (X1 (by first | exact cf) ?_) | refine .mk ?_ ?_ | refine AK ?_ | refine AT ?_ | fail)); all_goals conv => whnf)
      refine ⟨{ σ := Nat, fr := fun k => [(11, .c (.d (iD (k : Int))))], ks := [], L := fun k => [], ex := 0, I := fun k => k ≤ l.length, μ := fun k => l.length - k }, ⟨0, Nat.zero_le _, ?_⟩, fun (k : Nat) hk => ?_⟩
      · ((repeat' first | exact rfl | ((conv => whnf); first | done | exact .intro | exact .inr (.inl rfl) | exact .inl rfl | exact .inr (.inr (.inl ⟨rfl, _, _, rfl, by omega⟩)) | refine And.intro ?_ ?_ | fail)); all_goals conv => whnf)
      · replace hk : k ≤ l.length := hk
        have e0 : IntKind.i64.wrap ((k : Int) + 1) = ((k + 1 : Nat) : Int) := by rw [wrapI (by omega)]; rfl
        by_cases hlt : k < l.length
        · have h2 : (k : Int) < ((l.map flD).length : Nat) := by rw [List.length_map]; omega
          have g1 := get_map (f := flD) hlt
          have c4 := Has_d (gl := gl) (fnd true p l) l[k].c l[k].r (by omega)
          have c5 := Has_d (gl := gl) (fnd false p l) l[k].c l[k].r (by omega)
          have m2 := fnd_mem hg true p hlt
          have m3 := fnd_mem hg false p hlt
          have k1 : (l[k].c, l[k].r) ∈ fnd false p l → ((l[k].c, l[k].r) ∈ fnd true p l ↔ ((l[k].t.length : Nat) : Int) = ((p.length : Nat) : Int)) := fun h3 => by
            rw [m2]
            constructor
            · rintro (h | h)
              · rw [h]
              · cases h.1
            · intro hl
              rcases m3.1 h3 with h | h
              · exact .inl h
              · exact .inl (contains_same (by omega) h.2)
          have k2 : ¬ (l[k].c, l[k].r) ∈ fnd false p l → ((l[k].c, l[k].r) ∈ fnd true p l ↔ False) := fun h3 => by
            rw [m2, iff_false]
            rintro (h | h)
            · exact h3 (m3.2 (.inl h))
            · cases h.1
          clear m2 m3
          ((repeat' ((conv => whnf); first | exact .intro | refine .ya ?_ | refine .na ?_ | refine .ys ?_ | refine .ns ?_ | refine .neg (fun _ => ?_) (fun _ => ?_) | refine .mk (fun _ => ?_) (fun _ => ?_) | refine .inl (.inl (X1 (by first | exact c4 | exact c5) ?_)) | refine .inl (X1 (by first | exact c4 | exact c5) ?_) | refine X1 (by first | exact c4 | exact c5) ?_ | (refine ⟨Int.natCast_nonneg _, _, g1, ?_⟩) | refine .mk ?_ ?_ | refine AK ?_ | refine AT ?_ | fail)); all_goals conv => whnf)
          · rename_i x1 x2
            exact absurd (k1 x1) x2
          · refine ⟨k + 1, ⟨hlt, by show l.length - (k + 1) < l.length - k; omega⟩, ?_⟩
            ((repeat' first | exact rfl | ((conv => whnf); first | done | exact .intro | exact .inr (.inl rfl) | exact .inl rfl | exact .inr (.inr (.inl ⟨rfl, _, _, rfl, by omega⟩)) | refine And.intro ?_ ?_ | fail)); all_goals conv => whnf)
            exact ceq e0
          · rename_i x1 x2
            exact absurd (k2 x1) x2
          · refine ⟨k + 1, ⟨hlt, by show l.length - (k + 1) < l.length - k; omega⟩, ?_⟩
            ((repeat' first | exact rfl | ((conv => whnf); first | done | exact .intro | exact .inr (.inl rfl) | exact .inl rfl | exact .inr (.inr (.inl ⟨rfl, _, _, rfl, by omega⟩)) | refine And.intro ?_ ?_ | fail)); all_goals conv => whnf)
            exact ceq e0
        · have h2 : ¬ (k : Int) < ((l.map flD).length : Nat) := by rw [List.length_map]; omega
          ((repeat' ((conv => whnf); first | exact .intro | refine .ya ?_ | refine .na ?_ | refine .ys ?_ | refine .ns ?_ | refine .neg (fun _ => ?_) (fun _ => ?_) | refine .mk (fun _ => ?_) (fun _ => ?_) | refine .mk ?_ ?_ | refine AK ?_ | refine AT ?_ | fail)); all_goals conv => whnf)
          exact LeD.rfl
  · have c2 := Find_e l p true c1
    have c3 := Find_e l p false c1
    refine fnP_of_vc (nv := 9999) (cu := []) fits mixed Tryz.func4 rfl (by unfold HasBody; kernel_rfl) rfl ?_
    ((repeat' ((conv => whnf); first | exact .intro | refine .ya ?_ | refine .na ?_ | refine .ys ?_ | refine .ns ?_ | refine .neg (fun _ => ?_) (fun _ => ?_) | refine .mk (fun _ => ?_) (fun _ => ?_) | refine .inl (.inl (X1 (by first | exact c2 | exact c3 | exact at_d _ _) ?_)) | refine .inl (X1 (by first | exact c2 | exact c3 | exact at_d _ _) ?_) | refine X1 (by first | exact c2 | exact c3 | exact at_d _ _) ?_ | refine .inr (X1 (by first | exact cf) ?_) | refine .mk ?_ ?_ | refine AK ?_ | refine AT ?_ | fail)); all_goals conv => whnf)
    exact LeD.vt fun h => h
end Go.Proofs.YtdpigpahfiachaaGreatDoor
end
section
namespace Go.Proofs.YtdpigpahfiachaaGreatDoor
open Go Go.EYtdpigpahfiachaaGreatDoor
set_option maxRecDepth 100000
/-- What the walk of FindWhole reads. -/
abbrev glM (te : TypeId) (pe : Value) (mx : Int) : List (Nat × List D) := (0, lvAll) :: (3, [iD mx]) :: glV te pe
theorem glM_has (te : TypeId) (pe : Value) (mx : Int) : Has (glM te pe mx) (glV te pe) := by
  intro g l hl
  rw [look_cons]
  split
  · rename_i e; subst e; exact absurd hl (by rw [show Go.EYtdpigpahfiachaaGreatDoor.look (glV te pe) 0 = none from rfl]; simp)
  · rw [look_cons]
    split
    · rename_i e; subst e; exact absurd hl (by rw [show Go.EYtdpigpahfiachaaGreatDoor.look (glV te pe) 3 = none from rfl]; simp)
    · exact hl
theorem FindWhole_g (te : TypeId) (pe : Value) (mx : Int) (l : List Fl) (p : List UInt8) : FnP Tryz.prog (glM te pe mx) 4 [.lst 3 (l.map flD), .str p] (.v (.bool true)) := by
  obtain ⟨rf, hR, _⟩ := refs_ok
  exact FindWhole_d te pe (glM_has te pe mx) rfl hR rfl l p
end Go.Proofs.YtdpigpahfiachaaGreatDoor
end
