/- Proved: what the laid variables give a walk. No condition. -/
import Derived.Test.YtbkhfmgdnnaaoaaGreatDoorFg
import Derived.Test.YtbkhfmgdnnaaoaaGreatDoorSg
import Derived.Lib.LaidU8
namespace Go.Proofs.YtbkhfmgdnnaaoaaGreatDoor
open Go Go.ChangeShapes Go.WideShapes Go.ChangeAt Go.RowKit Go.EYtbkhfmgdnnaaoaaGreatDoor
set_option linter.unusedVariables false
set_option maxRecDepth 100000
theorem var_cells {w : World} {n : String} {g : Nat} {cs : Array Value} (hg : Tryz.prog.globalNamed n = some g) (h : w.var? Tryz.prog n = some cs) : ∃ t f, w.heap[g]? = some (Obj.cells cs t f) := by
  unfold World.var? at h
  rw [hg] at h
  simp only [Option.bind_some] at h
  split at h
  · rename_i c t f hc; cases h; exact ⟨t, f, hc⟩
  · cases h
/-- An array of texts, as laid. -/
theorem cells_of_strs {H : Type} {enc : TypeId × Value → H} {P : Program} {w : World} {base : Nat} {sp : Nat → Bool} {held : Bool} {fuel : Nat} {t e : TypeId} {n : Nat} {cs : List Value} {zs : List (List UInt8)} {p : List MemPlace}
    (ht : P.underlying t = some (.array n e)) (he : P.underlying e = some .string) (hce : P.cellsOf e = 1) (hct : P.cellsOf t = n)
    (h : DataW.trod enc P w base sp held fuel t cs = some (.agg (zs.map fun z => .lit (.string z)), p)) : cs = zs.map fun z => Value.string ⟨z.toArray⟩ := by
  cases fuel with
  | zero => simp [DataW.trod] at h
  | succ fuel =>
    simp only [DataW.trod, ht, hce, hct, Nat.mul_one] at h
    split at h
    · rename_i hl
      obtain ⟨xs, hm, hx⟩ := Option.map_eq_some_iff.1 h
      have hxs : xs.map (·.1) = zs.map fun z => (DataW.lit (.string z) : DataW H) := by
        have := congrArg Prod.fst hx
        simpa using this
      have hxl : xs.length = n := by simpa using Lib.mapM_length hm
      have hzl : zs.length = n := by
        have := congrArg List.length hxs
        simp at this
        omega
      apply List.ext_getElem?
      intro i
      by_cases hi : i < n
      · obtain ⟨b, hb, hf⟩ := Lib.mapM_at hm i i (by simp [hi])
        obtain ⟨z, hc, rfl, _⟩ := DataW.trod_string he hf
        have h1 : cs[i]? = some (.string z) := by
          have := congrArg (·[0]?) hc
          simpa [List.getElem?_take, List.getElem?_drop] using this
        have h2 : (xs.map (·.1))[i]? = some (DataW.lit (.string z.data.toList) : DataW H) := by simp [hb]
        rw [hxs] at h2
        simp only [List.getElem?_map, Option.map_eq_some_iff, DataW.lit.injEq, Lit.string.injEq] at h2
        obtain ⟨z', hz', rfl⟩ := h2
        simp [h1, hz']
      · rw [List.getElem?_eq_none (by omega), List.getElem?_eq_none (by simp; omega)]
    · cases h
theorem all2_map {M : Nat → Prop} {w : World} {α : Type} {f : α → D} {g : α → Value} (h : ∀ a, DenD M w (f a) (g a)) : ∀ l : List α, DenL M w (l.map f) (l.map g)
  | [] => trivial
  | a :: l => ⟨h a, all2_map h l⟩
theorem lt_of_cells {w : World} {g : Nat} {cs : Array Value} (h : ∃ t f, w.heap[g]? = some (Obj.cells cs t f)) : g < w.heap.size := by
  obtain ⟨t, f, h⟩ := h
  exact (Array.getElem?_eq_some_iff.1 h).1
/-- What a variable holds. -/
def Holds1 (w : World) (g : Nat) (l : List D) : Prop := ∃ xs : List Value, (∃ t f, w.heap[g]? = some (Obj.cells xs.toArray t f)) ∧ DenL (fun _ => False) w l xs
theorem Glob.cons {w : World} {g : Nat} {l : List D} {gl : List (Nat × List D)} (h : Holds1 w g l) (hg : Glob gl (fun _ => False) w) : Glob ((g, l) :: gl) (fun _ => False) w := by
  intro k m hl
  rw [look_cons] at hl
  split at hl
  · rename_i e; cases hl; rw [← e]
    obtain ⟨xs, h1, h2⟩ := h
    exact ⟨fun h => h, xs, h1, lt_of_cells h1, h2⟩
  · exact hg k m hl
theorem var_texts {w : World} (h1 : Lib.VarReads Tryz.prog w "sccsettle/value.texts" (.agg (tx.map fun z => .lit (.string z)))) : Holds1 w 0 (tx.map D.str) := by
  obtain ⟨g, t, cs, fuel, p, hg, ht, hv, hd⟩ := h1
  have e : (some g : Option Nat) = some 0 := hg.symm.trans (show Tryz.prog.globalNamed "sccsettle/value.texts" = some 0 by kernel_rfl)
  cases e
  have e : (some t : Option Nat) = some 67 := ht.symm.trans (by kernel_rfl)
  cases e
  have c1 := cells_of_strs (n := 7) (e := 9) Tryz.underlying67 Tryz.underlying9 (by kernel_rfl) (by kernel_rfl) hd
  have b1 := var_cells hg hv
  have c1' : cs = (tx.map fun z => Value.string ⟨z.toArray⟩).toArray := by rw [← c1]
  subst c1'
  exact ⟨_, b1, all2_map (fun a => .str a) tx⟩
theorem var_err {w : World} (h2 : ∃ d, Lib.VarReads Tryz.prog w "strconv.ErrRange" (.iface "*errors.errorString" d)) : ∃ te pe, Holds1 w 5 [.v (.iface te pe)] := by
  obtain ⟨d2, g, t, cs2, fuel, p, hg2, ht2, hv2, hd2⟩ := h2
  have e : (some g : Option Nat) = some 5 := hg2.symm.trans (show Tryz.prog.globalNamed "strconv.ErrRange" = some 5 by kernel_rfl)
  cases e
  have e : (some t : Option Nat) = some 31 := ht2.symm.trans (by kernel_rfl)
  cases e
  obtain ⟨_, te, pe, c2, _, _⟩ := iface_of_trod Tryz.underlying31 hd2
  have b2 := var_cells hg2 hv2
  have c2' : cs2 = [Value.iface te pe].toArray := by rw [← c2]
  subst c2'
  exact ⟨te, pe, _, b2, .v _, trivial⟩
theorem var_pow {w : World} (h3 : Lib.VarReads Tryz.prog w "internal/strconv.uint64pow10" (Lib.tabData .u64 Lib.pow10Tab)) : Holds1 w 3 (Lib.pow10Tab.map fun z => D.v (.int .u64 z)) := by
  obtain ⟨g, t, cs3, fuel, p, hg3, ht3, hv3, hd3⟩ := h3
  have e : (some g : Option Nat) = some 3 := hg3.symm.trans (show Tryz.prog.globalNamed "internal/strconv.uint64pow10" = some 3 by kernel_rfl)
  cases e
  have e : (some t : Option Nat) = some 190 := ht3.symm.trans (by kernel_rfl)
  cases e
  have c3 := Lib.cells_of_tab (n := 20) (e := 92) Tryz.underlying190 Tryz.underlying92 (by kernel_rfl) (by kernel_rfl) hd3
  have b3 := var_cells hg3 hv3
  have c3' : cs3 = (Lib.pow10Tab.map fun z => Value.int .u64 z).toArray := by rw [← c3]
  subst c3'
  exact ⟨_, b3, all2_map (fun a => .v _) Lib.pow10Tab⟩
theorem var_errT {w : World} (h : handlesMet Tryz.prog [("errors.errorType", Rows.laid_errors_errorType)] w) : Holds1 w 2 errT := by
  have et : Tryz.prog.globalNamed "errors.errorType" = some 2 := by kernel_rfl
  obtain ⟨name, u, ty, e1, e2, e3, e4, e5⟩ := h _ (List.mem_singleton.2 rfl)
  have en : name = [101, 114, 114, 111, 114] := (Option.some.inj e1).symm
  subst en
  obtain rfl := Option.some.inj ((show (Tryz.prog.cutTypes.find? (·.1 == "internal/reflectlite.rtype")).map (·.2) = some 158 by kernel_rfl).symm.trans e2)
  have hm : ty ∈ (List.range 242).filter fun t => Tryz.prog.rowNamed t [101, 114, 114, 111, 114] := List.mem_filter.2 ⟨List.mem_range.2 (by rw [← Door.size]; exact e3), e4⟩
  rw [show ((List.range 242).filter fun t => Tryz.prog.rowNamed t [101, 114, 114, 111, 114]) = [31] by kernel_rfl] at hm
  obtain rfl := List.mem_singleton.1 hm
  rw [show typeHandle Tryz.prog 31 = .pointer (some ⟨11, 31, none⟩) by kernel_rfl] at e5
  have b := var_cells et e5
  exact ⟨[_], b, .v _, trivial⟩
/-- The three variables that the walks of values read. -/
theorem glob_V {w : World} (h1 : Lib.VarReads Tryz.prog w "sccsettle/value.texts" (.agg (tx.map fun z => .lit (.string z)))) (h2 : ∃ d, Lib.VarReads Tryz.prog w "strconv.ErrRange" (.iface "*errors.errorString" d)) (h3 : Lib.VarReads Tryz.prog w "internal/strconv.uint64pow10" (Lib.tabData .u64 Lib.pow10Tab)) :
    ∃ te pe, Glob (glV te pe) (fun _ => False) w := by
  obtain ⟨te, pe, h⟩ := var_err h2
  exact ⟨te, pe, Glob.cons (var_texts h1) (Glob.cons h (Glob.cons (var_pow h3) glob_none))⟩
end Go.Proofs.YtbkhfmgdnnaaoaaGreatDoor
