/- Proved: what the laid variables give a walk. No condition. -/
import Derived.Test.YtbkhfmgdnnaaoaaDoorFg
import Derived.Test.YtbkhfmgdnnaaoaaDoorSg
import Derived.Lib.LaidU8
namespace Go.Proofs.YtbkhfmgdnnaaoaaDoor
open Go Go.ChangeShapes Go.WideShapes Go.ChangeAt Go.RowKit Go.EYtbkhfmgdnnaaoaaDoor
set_option linter.unusedVariables false
set_option maxRecDepth 100000
theorem var_cells {w : World} {n : String} {g : Nat} {cs : Array Value} (hg : Tryd.prog.globalNamed n = some g) (h : w.var? Tryd.prog n = some cs) : ∃ t f, w.heap[g]? = some (Obj.cells cs t f) := by
  unfold World.var? at h
  rw [hg] at h
  simp only [Option.bind_some] at h
  split at h
  · rename_i c t f hc; cases h; exact ⟨t, f, hc⟩
  · cases h
/-- An array of texts, as laid. -/
theorem cells_of_strs {H : Type} {enc : TypeId × Value → H} {P : Program} {w : World} {base : Nat} {sp : Nat → Bool} {held : Bool} {fuel : Nat} {t e : TypeId} {n : Nat} {cs : List Value} {zs : List (List UInt8)} {p : List MemPlace}
    (ht : P.underlying t = some (.array n e)) (he : P.underlying e = some .string) (hce : P.cellsOf e = 1) (hct : P.cellsOf t = n)
    (h : DataW.trod enc P w base sp held fuel t cs = some (.agg (zs.map fun z => .lit (.string z)), p)) : cs = zs.map fun z => Value.string ⟨z.toArray⟩ := by
  cases fuel with
  | zero => simp [DataW.trod] at h
  | succ fuel =>
    simp only [DataW.trod, ht, hce, hct, Nat.mul_one] at h
    split at h
    · rename_i hl
      obtain ⟨xs, hm, hx⟩ := Option.map_eq_some_iff.1 h
      have hxs : xs.map (·.1) = zs.map fun z => (DataW.lit (.string z) : DataW H) := by
        have := congrArg Prod.fst hx
        simpa using this
      have hxl : xs.length = n := by simpa using Lib.mapM_length hm
      have hzl : zs.length = n := by
        have := congrArg List.length hxs
        simp at this
        omega
      apply List.ext_getElem?
      intro i
      by_cases hi : i < n
      · obtain ⟨b, hb, hf⟩ := Lib.mapM_at hm i i (by simp [hi])
        obtain ⟨z, hc, rfl, _⟩ := DataW.trod_string he hf
        have h1 : cs[i]? = some (.string z) := by
          have := congrArg (·[0]?) hc
          simpa [List.getElem?_take, List.getElem?_drop] using this
        have h2 : (xs.map (·.1))[i]? = some (DataW.lit (.string z.data.toList) : DataW H) := by simp [hb]
        rw [hxs] at h2
        simp only [List.getElem?_map, Option.map_eq_some_iff, DataW.lit.injEq, Lit.string.injEq] at h2
        obtain ⟨z', hz', rfl⟩ := h2
        simp [h1, hz']
      · rw [List.getElem?_eq_none (by omega), List.getElem?_eq_none (by simp; omega)]
    · cases h
theorem all2_map {M : Nat → Prop} {w : World} {α : Type} {f : α → D} {g : α → Value} (h : ∀ a, DenD M w (f a) (g a)) : ∀ l : List α, DenL M w (l.map f) (l.map g)
  | [] => trivial
  | a :: l => ⟨h a, all2_map h l⟩
theorem lt_of_cells {w : World} {g : Nat} {cs : Array Value} (h : ∃ t f, w.heap[g]? = some (Obj.cells cs t f)) : g < w.heap.size := by
  obtain ⟨t, f, h⟩ := h
  exact (Array.getElem?_eq_some_iff.1 h).1
/-- The three variables that the walks read. -/
theorem glob_V {w : World} (h1 : Lib.VarReads Tryd.prog w "sccsettle/value.texts" (.agg (tx.map fun z => .lit (.string z)))) (h2 : ∃ d, Lib.VarReads Tryd.prog w "strconv.ErrRange" (.iface "*errors.errorString" d)) (h3 : Lib.VarReads Tryd.prog w "internal/strconv.uint64pow10" (Lib.tabData .u64 Lib.pow10Tab)) :
    ∃ te pe, Glob (glV te pe) (fun _ => False) w := by
  obtain ⟨g, t, cs, fuel, p, hg, ht, hv, hd⟩ := h1
  have e : (some g : Option Nat) = some 0 := hg.symm.trans (show Tryd.prog.globalNamed "sccsettle/value.texts" = some 0 by kernel_rfl)
  cases e
  have e : (some t : Option Nat) = some 83 := ht.symm.trans (by kernel_rfl)
  cases e
  have c1 := cells_of_strs (n := 7) (e := 9) Tryd.underlying83 Tryd.underlying9 (by kernel_rfl) (by kernel_rfl) hd
  have b1 := var_cells hg hv
  have c1' : cs = (tx.map fun z => Value.string ⟨z.toArray⟩).toArray := by rw [← c1]
  obtain ⟨d2, g, t, cs2, fuel, p, hg2, ht2, hv2, hd2⟩ := h2
  have e : (some g : Option Nat) = some 4 := hg2.symm.trans (show Tryd.prog.globalNamed "strconv.ErrRange" = some 4 by kernel_rfl)
  cases e
  have e : (some t : Option Nat) = some 33 := ht2.symm.trans (by kernel_rfl)
  cases e
  obtain ⟨_, te, pe, c2, _, _⟩ := iface_of_trod Tryd.underlying33 hd2
  have b2 := var_cells hg2 hv2
  have c2' : cs2 = [Value.iface te pe].toArray := by rw [← c2]
  obtain ⟨g, t, cs3, fuel, p, hg3, ht3, hv3, hd3⟩ := h3
  have e : (some g : Option Nat) = some 2 := hg3.symm.trans (show Tryd.prog.globalNamed "internal/strconv.uint64pow10" = some 2 by kernel_rfl)
  cases e
  have e : (some t : Option Nat) = some 179 := ht3.symm.trans (by kernel_rfl)
  cases e
  have c3 := Lib.cells_of_tab (n := 20) (e := 107) Tryd.underlying179 Tryd.underlying107 (by kernel_rfl) (by kernel_rfl) hd3
  have b3 := var_cells hg3 hv3
  have c3' : cs3 = (Lib.pow10Tab.map fun z => Value.int .u64 z).toArray := by rw [← c3]
  subst c1' c2' c3'
  refine ⟨te, pe, fun g l hl => ⟨fun h => h, ?_⟩⟩
  rw [look_cons] at hl
  split at hl
  · rename_i e; cases hl; rw [← e]
    exact ⟨_, b1, lt_of_cells b1, all2_map (fun a => .str a) tx⟩
  · rw [look_cons] at hl
    split at hl
    · rename_i e; cases hl; rw [← e]
      exact ⟨_, b2, lt_of_cells b2, .v _, trivial⟩
    · rw [look_cons] at hl
      split at hl
      · rename_i e; cases hl; rw [← e]
        exact ⟨_, b3, lt_of_cells b3, all2_map (fun a => .v _) Lib.pow10Tab⟩
      · cases hl
end Go.Proofs.YtbkhfmgdnnaaoaaDoor
