/- Proved: a part of what the law is proved with (the reckoner, contracts of functions, plain laws). Conditions: as each says. -/
import Derived.Lib.IndexLaws
import Derived.Test.YtdpigpahfiachaaGreatDoorQBi
import Derived.Test.YtdpigpahfiachaaGreatDoorQIg
import Derived.Test.YtdpigpahfiachaaGreatDoorQPc
import Derived.Test.YtdpigpahfiachaaGreatDoorQSd
section
namespace Go.Proofs.YtdpigpahfiachaaGreatDoor
open Go Go.EYtdpigpahfiachaaGreatDoor
set_option maxRecDepth 100000
set_option maxHeartbeats 4000000
variable {gl : List (Nat × List D)}
theorem Contains_d {mx : Int} (hm : Go.EYtdpigpahfiachaaGreatDoor.look gl 3 = some [iD mx]) (s t : List UInt8) (hs : s.length ≤ 200) : FnP Tryz.prog gl 57 [.str s, .str t] (.v (.bool (Lib.contains s t))) := by
  intro w M xs hM hg hd
  obtain rfl := str2 hd
  obtain ⟨_, ys, h2, _, h4⟩ := hg _ _ hm
  obtain ⟨y, rfl, h5⟩ := All2.one_iff.1 h4
  obtain rfl := DenD.v_inv h5
  refine .inl ⟨by unfold HasBody; kernel_rfl, ?_⟩
  have h := Any.strings_Contains Tryz.lays144 ⟨s.toArray⟩ ⟨t.toArray⟩ mx w (by have : (⟨s.toArray⟩ : ByteArray).size = s.length := rfl; omega) (globCell h2 0 _ rfl)
  refine h.mono ?_
  rintro e w' ⟨rfl, rfl⟩
  exact ⟨Evo.refl _ _, _, rfl, .v _⟩
abbrev rowC (p : Int × Int) : List D := [iD p.1, iD p.2]
theorem Has_d (m : List (Int × Int)) (c r : Int) (hm : m.length ≤ 9223372036854775806) : FnP Tryz.prog gl 22 [.lst 2 (m.map rowC), cellD c r] (.b ((c, r) ∈ m) inferInstance) := by
  refine fnP_of_vc (nv := 9999) (cu := []) fits mixed Tryz.func22 rfl (by unfold HasBody; kernel_rfl) rfl ?_
  ((repeat' ((conv => whnf); first | exact .intro | refine .ya ?_ | refine .na ?_ | refine .ys ?_ | refine .ns ?_ | refine .neg (fun _ => ?_) (fun _ => ?_) | refine .mk (fun _ => ?_) (fun _ => ?_) | refine .mk ?_ ?_ | refine AK ?_ | refine AT ?_ | fail)); all_goals conv => whnf)
  refine ⟨{ σ := Nat, fr := fun k => [(5, .c (.d (iD k)))], ks := [], L := fun _ => [], ex := 0, I := fun k => k ≤ m.length ∧ (c, r) ∉ m.take k, μ := fun k => m.length - k }, ⟨0, ⟨Nat.zero_le _, by simp⟩, ?_⟩, fun (k : Nat) hk => ?_⟩
  · ((repeat' first | exact rfl | ((conv => whnf); first | done | exact .intro | exact .inr (.inl rfl) | exact .inl rfl | exact .inr (.inr (.inl ⟨rfl, _, _, rfl, by omega⟩)) | refine And.intro ?_ ?_ | fail)); all_goals conv => whnf)
  · obtain ⟨hk1, hk2⟩ := hk
    by_cases hlt : k < m.length
    · have h2 : (k : Int) < ((m.map rowC).length : Nat) := by rw [List.length_map]; omega
      ((repeat' ((conv => whnf); first | exact .intro | refine .ya ?_ | refine .na ?_ | refine .ys ?_ | refine .ns ?_ | refine .neg (fun _ => ?_) (fun _ => ?_) | refine .mk (fun _ => ?_) (fun _ => ?_) | (refine ⟨Int.natCast_nonneg _, _, get_map hlt, ?_⟩) | refine .mk ?_ ?_ | refine AK ?_ | refine AT ?_ | fail)); all_goals conv => whnf)
      · rename_i h
        exact LeD.bt (by rw [show (c, r) = m[k] from Prod.ext h.1.symm h.2.1.symm]; exact List.getElem_mem hlt)
      · rename_i h
        refine ⟨k + 1, ⟨⟨hlt, ?_⟩, by show m.length - (k + 1) < m.length - k; omega⟩, ?_⟩
        · rw [List.take_succ_eq_append_getElem hlt]
          intro hh
          rcases List.mem_append.1 hh with hh | hh
          · exact hk2 hh
          · have := List.mem_singleton.1 hh
            exact h ⟨by rw [← this], by rw [← this], trivial⟩
        · ((repeat' first | exact rfl | ((conv => whnf); first | done | exact .intro | exact .inr (.inl rfl) | exact .inl rfl | exact .inr (.inr (.inl ⟨rfl, _, _, rfl, by omega⟩)) | refine And.intro ?_ ?_ | fail)); all_goals conv => whnf)
          exact ceq (show IntKind.i64.wrap ((k : Int) + 1) = ((k + 1 : Nat) : Int) by rw [wrapI (by omega)]; rfl)
    · have h2 : ¬ (k : Int) < ((m.map rowC).length : Nat) := by rw [List.length_map]; omega
      ((repeat' ((conv => whnf); first | exact .intro | refine .ya ?_ | refine .na ?_ | refine .ys ?_ | refine .ns ?_ | refine .neg (fun _ => ?_) (fun _ => ?_) | refine .mk (fun _ => ?_) (fun _ => ?_) | refine .mk ?_ ?_ | refine AK ?_ | refine AT ?_ | fail)); all_goals conv => whnf)
      exact LeD.bf (by rwa [List.take_of_length_le (by omega)] at hk2)
end Go.Proofs.YtdpigpahfiachaaGreatDoor
end
section
namespace Go.Proofs.YtdpigpahfiachaaGreatDoor
open Go Go.EYtdpigpahfiachaaGreatDoor
set_option maxRecDepth 100000
set_option maxHeartbeats 4000000
variable {gl : List (Nat × List D)}
/-- What is wrong with a text. -/
def textZ (rf : List UInt8 → Option Rf) (s : List UInt8) : Int := if 200 < s.length then 4 else if s.head? = some 61 then (match parseZ rf s with | .ok _ _ => 0 | .no _ _ => 2) else 0
theorem gText_k (s : List UInt8) (h : 200 < s.length) : FnP Tryz.prog gl 100 [.str s] (erD 4) := by
  have h1 : ((s.length : Nat) : Int) > 200 := by omega
  refine fnP_of_vc (nv := 9999) (cu := []) fits mixed Tryz.func100 rfl (by unfold HasBody; kernel_rfl) rfl ?_
  ((repeat' ((conv => whnf); first | exact .intro | refine .ya ?_ | refine .na ?_ | refine .ys ?_ | refine .ns ?_ | refine .neg (fun _ => ?_) (fun _ => ?_) | refine .mk (fun _ => ?_) (fun _ => ?_) | refine .mk ?_ ?_ | refine AK ?_ | refine AT ?_ | fail)); all_goals conv => whnf)
  exact LeD.rfl
theorem gText_c (s : List UInt8) (h : ¬ 200 < s.length) (h6 : s.head? ≠ some 61) : FnP Tryz.prog gl 100 [.str s] (.v .nilIface) := by
  have h1 : ¬ ((s.length : Nat) : Int) > 200 := by omega
  have c0 := Constant_d (gl := gl) s (b := true) (by simp [h6])
  refine fnP_of_vc (nv := 9999) (cu := []) fits mixed Tryz.func100 rfl (by unfold HasBody; kernel_rfl) rfl ?_
  ((repeat' ((conv => whnf); first | exact .intro | refine .ya ?_ | refine .na ?_ | refine .ys ?_ | refine .ns ?_ | refine .neg (fun _ => ?_) (fun _ => ?_) | refine .mk (fun _ => ?_) (fun _ => ?_) | refine .inl (.inl (X1 (c0) ?_)) | refine .inl (X1 (c0) ?_) | refine X1 (c0) ?_ | refine .mk ?_ ?_ | refine AK ?_ | refine AT ?_ | fail)); all_goals conv => whnf)
  exact LeD.rfl
theorem gText_p (te : TypeId) (pe : Value) (hV : Has gl (glV te pe)) (hl : Go.EYtdpigpahfiachaaGreatDoor.look gl 0 = some lvAll) {rf : List UInt8 → Option Rf} (hR : RefsOk rf) (s : List UInt8) (h : ¬ 200 < s.length) (h6 : s.head? = some 61) {n : Nd} {k : Nat} (hp : parseZ rf s = .ok n k) : FnP Tryz.prog gl 100 [.str s] (.v .nilIface) := by
  have h1 : ¬ ((s.length : Nat) : Int) > 200 := by omega
  have c0 := Constant_d (gl := gl) s (b := false) (by simp [h6])
  have c1 := Parse_d te pe hV hl hR s
  rw [hp] at c1
  unfold parseD at c1
  obtain ⟨k0, m0, t0, a0, b0, ks0⟩ := n
  refine fnP_of_vc (nv := 9999) (cu := []) fits mixed Tryz.func100 rfl (by unfold HasBody; kernel_rfl) rfl ?_
  ((repeat' ((conv => whnf); first | exact .intro | refine .ya ?_ | refine .na ?_ | refine .ys ?_ | refine .ns ?_ | refine .neg (fun _ => ?_) (fun _ => ?_) | refine .mk (fun _ => ?_) (fun _ => ?_) | refine .inl (.inl (X1 (by first | exact c0 | exact c1) ?_)) | refine .inl (X1 (by first | exact c0 | exact c1) ?_) | refine X1 (by first | exact c0 | exact c1) ?_ | refine .mk ?_ ?_ | refine AK ?_ | refine AT ?_ | fail)); all_goals conv => whnf)
  exact LeD.rfl
theorem gText_q (te : TypeId) (pe : Value) (hV : Has gl (glV te pe)) (hl : Go.EYtdpigpahfiachaaGreatDoor.look gl 0 = some lvAll) {rf : List UInt8 → Option Rf} (hR : RefsOk rf) (s : List UInt8) (h : ¬ 200 < s.length) (h6 : s.head? = some 61) {a : Nat} {e : Int} (hp : parseZ rf s = .no a e) : FnP Tryz.prog gl 100 [.str s] (erD 2) := by
  have h1 : ¬ ((s.length : Nat) : Int) > 200 := by omega
  have c0 := Constant_d (gl := gl) s (b := false) (by simp [h6])
  have c1 := Parse_d te pe hV hl hR s
  rw [hp] at c1
  unfold parseD at c1
  refine fnP_of_vc (nv := 9999) (cu := []) fits mixed Tryz.func100 rfl (by unfold HasBody; kernel_rfl) rfl ?_
  ((repeat' ((conv => whnf); first | exact .intro | refine .ya ?_ | refine .na ?_ | refine .ys ?_ | refine .ns ?_ | refine .neg (fun _ => ?_) (fun _ => ?_) | refine .mk (fun _ => ?_) (fun _ => ?_) | refine .inl (.inl (X1 (by first | exact c0 | exact c1) ?_)) | refine .inl (X1 (by first | exact c0 | exact c1) ?_) | refine X1 (by first | exact c0 | exact c1) ?_ | refine .mk ?_ ?_ | refine AK ?_ | refine AT ?_ | fail)); all_goals conv => whnf)
  exact LeD.rfl
theorem gText_d (te : TypeId) (pe : Value) (hV : Has gl (glV te pe)) (hl : Go.EYtdpigpahfiachaaGreatDoor.look gl 0 = some lvAll) {rf : List UInt8 → Option Rf} (hR : RefsOk rf) (s : List UInt8) :
    (textZ rf s = 0 ∧ FnP Tryz.prog gl 100 [.str s] (.v .nilIface)) ∨ ∃ e, e ≠ 0 ∧ textZ rf s = e ∧ FnP Tryz.prog gl 100 [.str s] (erD e) := by
  unfold textZ
  by_cases h : 200 < s.length
  · rw [if_pos h]; exact .inr ⟨4, by decide, rfl, gText_k s h⟩
  · rw [if_neg h]
    by_cases h6 : s.head? = some 61
    · rw [if_pos h6]
      cases hp : parseZ rf s with
      | ok n k => exact .inl ⟨rfl, gText_p te pe hV hl hR s h h6 hp⟩
      | no a e => exact .inr ⟨2, by decide, rfl, gText_q te pe hV hl hR s h h6 hp⟩
    · rw [if_neg h6]; exact .inl ⟨rfl, gText_c s h h6⟩
end Go.Proofs.YtdpigpahfiachaaGreatDoor
end
