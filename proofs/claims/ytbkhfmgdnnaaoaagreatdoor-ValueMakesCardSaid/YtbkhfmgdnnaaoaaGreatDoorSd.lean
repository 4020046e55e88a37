/- Proved: strings.TrimPrefix, strings.Trim and strconv.Atoi as functions of data; what package value's Whole returns of any text. Conditions: no longer than 2 ^ 47 bytes; the variable strconv.ErrRange holds some error. -/
import Derived.Test.YtbkhfmgdnnaaoaaGreatDoorSc
import Derived.Test.YtbkhfmgdnnaaoaaGreatDoorLays
namespace Go.Proofs.YtbkhfmgdnnaaoaaGreatDoor
open Go Go.EYtbkhfmgdnnaaoaaGreatDoor
set_option maxRecDepth 100000
variable {gl : List (Nat × List D)}
theorem str1 {s : List UInt8} {M : Nat → Prop} {w : World} {ys : List Value} (h : DenL M w [.str s] ys) : ys = [.string ⟨s.toArray⟩] := by
  obtain ⟨y, rfl, h1⟩ := All2.one_iff.1 h
  rw [DenD.str_inv h1]
theorem str2 {s t : List UInt8} {M : Nat → Prop} {w : World} {ys : List Value} (h : DenL M w [.str s, .str t] ys) : ys = [.string ⟨s.toArray⟩, .string ⟨t.toArray⟩] := by
  obtain ⟨y, ys, rfl, h1, h2⟩ := All2.cons_iff.1 h
  obtain ⟨z, rfl, h3⟩ := All2.one_iff.1 h2
  rw [DenD.str_inv h1, DenD.str_inv h3]
/-- A text without a minus ahead. -/
def unsg (s : List UInt8) : List UInt8 := if s.head? = some 45 then s.tail else s
theorem unsg_eq (s : List UInt8) : Lib.trimPrefix s [45] = unsg s := by
  cases s with
  | nil => rfl
  | cons a l =>
    by_cases h : a = 45
    · subst h; simp [Lib.trimPrefix, Lib.hasPrefix, unsg]
    · have h' : ¬ (45 : UInt8) = a := fun e => h e.symm
      simp [Lib.trimPrefix, Lib.hasPrefix, unsg, h, h']
theorem TrimPrefix_d (s : List UInt8) : FnP Tryz.prog gl 78 [.str s, .str [45]] (.str (unsg s)) :=
  FnP.of_below (xs := [.string ⟨s.toArray⟩, .string ⟨[45].toArray⟩]) (v := .string ⟨(unsg s).toArray⟩) (by unfold HasBody; kernel_rfl) (fun M w ys hd => str2 hd) (fun _ _ => .str _) (fun M w hg => by
    have h := Any.strings_TrimPrefix Tryz.lays101 ⟨s.toArray⟩ ⟨[45].toArray⟩ w
    refine h.mono ?_
    rintro e w' ⟨rfl, rfl⟩
    refine ⟨?_, RowKit.Below.refl _ _⟩
    show Ending.returned (Value.string ⟨(Lib.trimPrefix s [45]).toArray⟩) = _
    rw [unsg_eq])
abbrev D10 : List UInt8 := [48, 49, 50, 51, 52, 53, 54, 55, 56, 57]
theorem Trim_d (s : List UInt8) (hs : s.length ≤ 9223372036854775807) : FnP Tryz.prog gl 79 [.str s, .str D10] (.str (Lib.trimS s D10)) :=
  FnP.of_below (xs := [.string ⟨s.toArray⟩, .string ⟨D10.toArray⟩]) (v := .string ⟨(Lib.trimS s D10).toArray⟩) (by unfold HasBody; kernel_rfl) (fun M w ys hd => str2 hd) (fun _ _ => .str _) (fun M w hg => by
    have h := Any.strings_Trim_laid Tryz.lays160 (by kernel_rfl) ⟨s.toArray⟩ ⟨D10.toArray⟩ w (by simpa [ByteArray.size] using hs) (by decide) (ascii_of_all (by decide))
    refine h.mono ?_
    rintro e w' ⟨rfl, hb⟩
    exact ⟨rfl, hb⟩)
theorem Atoi_s (s : List UInt8) (v : Int) (hs : s.length ≤ 140737488355328) (h : Lib.atoiAll s = .ok v) : FnP Tryz.prog gl 80 [.str s] (.tup [iD v, .v .nilIface]) :=
  FnP.of_below (xs := [.string ⟨s.toArray⟩]) (v := .tuple #[.int .i64 v, .nilIface]) (by unfold HasBody; kernel_rfl) (fun M w ys hd => str1 hd) (fun _ _ => DenD.tup_mk (xs := [.int .i64 v, .nilIface]) ⟨.v _, .v _, trivial⟩) (fun M w hg => by
    have h := Any.strconv_Atoi_ok Tryz.laysC172 ⟨s.toArray⟩ (by have : (⟨s.toArray⟩ : ByteArray).size = s.length := rfl; omega) v h w
    refine h.mono ?_
    rintro e w' ⟨rfl, hb⟩
    refine ⟨rfl, ?_⟩
    rcases hb with rfl | ⟨t, rfl⟩
    · exact RowKit.Below.refl _ _
    · exact Lib.bytesWorld_below _ _ _)
/-- The variable strconv.ErrRange holds an error. -/
def errR (gl : List (Nat × List D)) : Prop := ∃ t p, Go.EYtbkhfmgdnnaaoaaGreatDoor.look gl 5 = some [.v (.iface t p)]
theorem Atoi_r (s : List UInt8) (hs : s.length ≤ 140737488355328) (h : Lib.atoiAll s = .range) (hr : errR gl) : FnP Tryz.prog gl 80 [.str s] (.tup [iD (Lib.atoiSat s), .ifc 182 false [.imm []]]) := by
  obtain ⟨t, p, hl⟩ := hr
  intro w M xs hM hg hd
  obtain rfl := str1 hd
  obtain ⟨_, ys, h2, _, h4⟩ := hg _ _ hl
  obtain ⟨y, rfl, h5⟩ := All2.one_iff.1 h4
  obtain rfl := DenD.v_inv h5
  refine .inl ⟨by unfold HasBody; kernel_rfl, ?_⟩
  have h := Any.strconv_Atoi_range Tryz.laysC172 ⟨s.toArray⟩ (by have : (⟨s.toArray⟩ : ByteArray).size = s.length := rfl; omega) h (.iface t p) w (globCell h2 0 _ rfl) (.inr ⟨_, _, rfl⟩)
  refine h.mono ?_
  rintro e w' ⟨N, rfl, hN, hc, hb⟩
  refine ⟨Evo.of_below hb _, _, rfl, DenD.tup_mk (xs := [.int .i64 (Lib.atoiSat s), .iface 182 (.pointer (some ⟨N, 0, none⟩))]) ⟨.v _, .ifc1 _ _ _ ?_, trivial⟩⟩
  exact DenD.imm [] N 0 (fun _ => undef) (Array.getElem?_eq_some_iff.1 hc).1 (fun hm => absurd (hM N hm) (by omega)) (fun j d h => by simp at h) (fun j d h => by simp at h)
end Go.Proofs.YtbkhfmgdnnaaoaaGreatDoor
