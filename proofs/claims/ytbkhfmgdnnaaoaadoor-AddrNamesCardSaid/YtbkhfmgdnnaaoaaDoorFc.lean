/- Proved: the law AddrNames returns true for every text and ref, and leaves all memory that was there as it was. Condition: errors.errorType and three tables of Go's library read as laid (the card ties them to the program's text). -/
import Derived.Test.YtbkhfmgdnnaaoaaDoorFh
import Derived.Test.YtbkhfmgdnnaaoaaDoorBk
import Derived.ChangeMaps5
import Derived.SizedLaws
namespace Go.Proofs.YtbkhfmgdnnaaoaaDoor
open Go Go.ChangeShapes Go.WideShapes Go.ChangeAt Go.RowKit Go.EYtbkhfmgdnnaaoaaDoor
set_option linter.unusedVariables false
set_option maxRecDepth 100000
/-- What the condition gives a walk: the variable's one cell. -/
theorem Door.handle4 {W : World} (h : laidMetH Tryd.prog Rows.addrNamesRow.laid W) : W.cell? ⟨1, 0, none⟩ = some (.iface 141 (.agg #[.pointer (some ⟨10, 33, none⟩)])) := by
  have h' : laidMet Tryd.prog [("math/bits.deBruijn32tab", Rows.laid_math_bits_deBruijn32tab), ("math/bits.deBruijn64tab", Rows.laid_math_bits_deBruijn64tab), ("internal/strconv.uint64pow10", Rows.laid_internal_strconv_uint64pow10)] W ∧ handlesMet Tryd.prog [("errors.errorType", Rows.laid_errors_errorType)] W := h
  obtain ⟨name, u, ty, e1, e2, e3, e4, e5⟩ := h'.2 _ (List.mem_singleton.2 rfl)
  have en : name = [101, 114, 114, 111, 114] := (Option.some.inj e1).symm
  subst en
  obtain rfl := Option.some.inj (Door.rt.symm.trans e2)
  have hm : ty ∈ (List.range 231).filter fun t => Tryd.prog.rowNamed t [101, 114, 114, 111, 114] := List.mem_filter.2 ⟨List.mem_range.2 (by rw [← Door.size]; exact e3), e4⟩
  rw [Door.oneRow] at hm
  obtain rfl := List.mem_singleton.1 hm
  rw [Door.hh] at e5
  simpa using World.var?_cell Door.et e5 0
theorem glob_err2 {w : World} (h : w.cell? ⟨1, 0, none⟩ = some (.iface 141 (.agg #[.pointer (some ⟨10, 33, none⟩)]))) : Glob [(1, errT)] (fun _ => False) w := by
  intro g l hl
  rw [look_cons] at hl
  split at hl
  · rename_i e
    subst e
    cases hl
    refine ⟨fun h => h, [.iface 141 (.agg #[.pointer (some ⟨10, 33, none⟩)])], fun j v hv => ?_, World.block_lt_of_cell? w _ h, ⟨.v _, trivial⟩⟩
    cases j with
    | zero => cases hv; exact h
    | succ j => cases hv
  · cases hl
theorem openSR {H : Type} {enc : TypeId × Value → H} {W : World} {base b0 : Nat} {sp : Nat → Bool} {hd : Bool} {args : Array Value} {ds : List (DataW H)} {p : List MemPlace}
    (hA : DataW.TrodAll enc Tryd.prog W base sp hd [9, 25] args.toList ds p)
    (hval : ∀ (j : Nat) t v, (#[9, 25] : Array TypeId)[j]? = some t → args[j]? = some v → Value.okWide Tryd.prog W .any b0 t v) :
    ∃ (s : List UInt8) (c r : Int) (fc fr : Bool) (d2 : DataW H), args = #[.string ⟨s.toArray⟩, .agg #[.int .i64 c, .int .i64 r, .bool fc, .bool fr]] ∧ ds = [.lit (.string s), d2] := by
  obtain ⟨l⟩ := args
  obtain ⟨v0, vs0, d0, ds0, p0, q0, e, rfl, -, h0, hA⟩ := trodAll_cons hA
  obtain ⟨v1, vs1, d1, ds1, p1, q1, rfl, rfl, -, h1, hA⟩ := trodAll_cons hA
  obtain ⟨rfl, rfl, -⟩ := trodAll_nil hA
  cases e
  obtain ⟨s, rfl, rfl, -, -⟩ := Go.ChangeMaps.open_string Tryd.underlying9 (hval 0 9 v0 rfl rfl) h0
  obtain ⟨c, r, fc, fr, rfl⟩ := openRef (hval 1 25 v1 rfl rfl) h1
  exact ⟨s.data.toList, c, r, fc, fr, _, rfl, rfl⟩
theorem readSR : ∀ t ∈ ([9, 25] : List TypeId), Tryd.prog.readableRec t = true ∧ t < Tryd.prog.types.size := by
  rw [Door.size]
  have h : ([9, 25] : List TypeId).all (fun t => Tryd.prog.readableRec t && decide (t < 231)) = true := by kernel_rfl
  intro t ht
  simpa using List.all_eq_true.1 h t ht
theorem addrNames_lifted (os : Os) (started : os.Started) (H : Type) (enc : TypeId × Value → H) :
    ReturnsInHanded {} Tryd.checked os 5 .any (fun w args => (Rows.addrNamesSpec.pre enc Tryd.prog Tryd.f5 [] false w args ∧ laidMetH Tryd.prog Rows.addrNamesRow.laid w) ∧ sizedMet enc Tryd.prog Tryd.f5 (OpenSpec.ofChange Rows.addrNamesSpec) false w args)
      (Rows.addrNamesSpec.post enc Tryd.prog Tryd.f5 false true false false) := by
  refine returnsInHanded_of_change_and (C := Tryd.checked) (X := fun w _ => laidMetH Tryd.prog Rows.addrNamesRow.laid w) (fun _ _ _ hh h => h.of_heap hh) Door.own started (by kernel_rfl) Tryd.func5
    (ChangeSpec.witness_shaped (enc := enc) (C := Tryd.checked) (os := os) (X := fun w _ => laidMetH Tryd.prog Rows.addrNamesRow.laid w) false
      ({ (World.laidAll Tryd.prog os [("math/bits.deBruijn32tab", Rows.laid_math_bits_deBruijn32tab), ("math/bits.deBruijn64tab", Rows.laid_math_bits_deBruijn64tab), ("internal/strconv.uint64pow10", Rows.laid_internal_strconv_uint64pow10)]) with heap := (World.laidAll Tryd.prog os [("math/bits.deBruijn32tab", Rows.laid_math_bits_deBruijn32tab), ("math/bits.deBruijn64tab", Rows.laid_math_bits_deBruijn64tab), ("internal/strconv.uint64pow10", Rows.laid_internal_strconv_uint64pow10)]).heap.modify 1 fun | .cells _ t frozen => .cells #[.iface 141 (.agg #[.pointer (some ⟨10, 33, none⟩)])] t frozen | o => o } : World)
      #[.string ⟨#[]⟩, .agg #[.int .i64 0, .int .i64 0, .bool false, .bool false]] 8 (World.laidAll_os _ _ _)
      (World.shaped_of_ZipB (by kernel_rfl) (by kernel_rfl)) (by kernel_rfl) (by kernel_rfl) (by kernel_rfl)
      (laidMetH_of_parts (laidMet_of_run' 8 (by kernel_rfl) (by kernel_rfl)) (by kernel_rfl))) ?_
  intro W base args ds gs before hval0 hW _ hsz hL _
  have hval : ∀ (j : Nat) t v, Tryd.f5.params[j]? = some t → args[j]? = some v → Value.okWide Tryd.prog W .any base t v := hval0
  have hW' := hW
  obtain ⟨p, q, hA0, hV, rfl, hfz, hnd⟩ := hW
  have hA : DataW.TrodAll enc Tryd.prog W 0 (fun _ => true) true Tryd.f5.params.toList args.toList ds p := hA0
  rw [Tryd.params5] at hA hval
  obtain ⟨rfl, rfl⟩ := trodVars_none hV
  obtain ⟨s, c, r, fc, fr, d2, rfl, rfl⟩ := openSR hA hval
  have hlen : s.length ≤ 140737488355328 := Nat.le_trans (sized_string (j := 0) (t := 9) hsz rfl rfl) (by decide)
  simp only [List.append_nil] at hW'
  have hh := Door.handle4 hL
  refine (FnP.calls (AddrNames_d (gl := [(1, errT)]) s hlen c r fc fr rfl) (by unfold HasBody; kernel_rfl) (glob_err2 hh)
    (xs := [_, _]) ⟨.str _, den_ref _ _ _ _ _ _, trivial⟩).mono fun e W' ⟨he, hb⟩ => ?_
  subst he
  have hlt : ∀ x ∈ p, x.block < W.heap.size := fun x hx => by simpa using hW'.lt x (by simpa using hx)
  exact ⟨_, rfl, _, _, _, [], p, [], hW', trodAll_mk1 (shut_bool Tryd.underlying4 _), trodAll_below Door.out (ts := [9, 25]) hb readSR hA hlt (fun x hx => by simpa using hlt x hx), rfl, hb.frame _, fun h => by cases h⟩
theorem addrNames_over : Rows.AddrNamesSaid :=
  OpenClaim.holds_of_wide 5 Tryd.f5 rfl rfl rfl rfl rfl rfl rfl ⟨rfl, rfl, rfl, rfl, rfl⟩ rfl rfl rfl rfl rfl (by kernel_rfl) Tryd.func5 (by kernel_rfl)
    (of_decide_eq_true (by kernel_rfl)) (by unfold Func.isWrapper; rw [if_neg (of_decide_eq_false (by kernel_rfl))]; exact ⟨rfl, rfl⟩)
    (fun os started H enc _ => addrNames_lifted os started H enc)
theorem wantsSR : ∀ t ∈ ([9, 25] : List TypeId), Tryd.prog.wantsStandIn t = false := by
  have h : ([9, 25] : List TypeId).all (fun t => !Tryd.prog.wantsStandIn t) = true := by kernel_rfl
  intro t ht
  simpa using List.all_eq_true.1 h t ht
/-- THE STATEMENT. -/
theorem addrNames_proved : Rows.AddrNamesCardSaid :=
  Claim7.holds_tied_plain_at .later [] [.data, .data, .data, .handle] true (true, "7a88ab25f2fa7402bb82a49148fe9b8f01b3eb5b35edd0ccef8d4d4a276b19e1") true
    addrNames_over (fun _ h => by cases h) (by kernel_rfl) (fun _ h => by cases h) addrNames_row_tie rfl ⟨rfl, rfl⟩ (by kernel_rfl) rfl
    (fun f fn hf hfn => by
      obtain rfl : f = 5 := Option.some.inj ((show Tryd.prog.funcNamed "sccsettle/scclaw1.AddrNames" = some 5 by kernel_rfl).symm.trans hf) |>.symm
      obtain rfl : fn = Tryd.f5 := (Option.some.inj (Tryd.func5.symm.trans hfn)).symm
      exact ⟨by kernel_rfl, fun j t ht => by
        rw [Tryd.params5] at ht
        exact wantsSR t (List.mem_of_getElem? (l := [9, 25]) (by simpa using ht))⟩)
    (by kernel_rfl)
#print axioms addrNames_proved
end Go.Proofs.YtbkhfmgdnnaaoaaDoor
