/- Proved: the law ValueMakes returns true for whatever it is called with, and leaves all memory that was there as it was. Condition: the variables that its row lists read as laid (the card ties them to the program's text). -/
import Derived.Test.YtbkhfmgdnnaaoaaGreatDoorFv
import Derived.Test.YtbkhfmgdnnaaoaaGreatDoorTf
import Derived.SizedLaws
namespace Go.Proofs.YtbkhfmgdnnaaoaaGreatDoor
open Go Go.ChangeShapes Go.WideShapes Go.ChangeAt Go.RowKit Go.EYtbkhfmgdnnaaoaaGreatDoor
set_option linter.unusedVariables false
set_option maxRecDepth 100000
theorem readValueMakes : ∀ t ∈ ([23] : List TypeId), Tryz.prog.readableRec t = true ∧ t < Tryz.prog.types.size := by
  rw [Door.size]
  have h : ([23] : List TypeId).all (fun t => Tryz.prog.readableRec t && decide (t < 242)) = true := by kernel_rfl
  intro t ht
  simpa using List.all_eq_true.1 h t ht
theorem valueMakes_lifted (os : Os) (started : os.Started) (H : Type) (enc : TypeId × Value → H) :
    ReturnsInHanded {} Tryz.checked os 4 .any (fun w args => (Rows.valueMakesSpec.pre enc Tryz.prog Tryz.f4 [] false w args ∧ laidMetH Tryz.prog Rows.valueMakesRow.laid w) ∧ sizedMet enc Tryz.prog Tryz.f4 (OpenSpec.ofChange Rows.valueMakesSpec) false w args)
      (Rows.valueMakesSpec.post enc Tryz.prog Tryz.f4 false true false false) := by
  refine returnsInHanded_of_change_and (C := Tryz.checked) (X := fun w _ => laidMetH Tryz.prog Rows.valueMakesRow.laid w) (fun _ _ _ hh h => h.of_heap hh) Door.own started (by kernel_rfl) Tryz.func4
    (ChangeSpec.witness_shaped (enc := enc) (C := Tryz.checked) (os := os) (X := fun w _ => laidMetH Tryz.prog Rows.valueMakesRow.laid w) false ({ (World.laidAll Tryz.prog os [("math/bits.deBruijn32tab", Rows.laid_math_bits_deBruijn32tab), ("math/bits.deBruijn64tab", Rows.laid_math_bits_deBruijn64tab), ("internal/strconv.uint64pow10", Rows.laid_internal_strconv_uint64pow10), ("unicode/utf8.acceptRanges", Rows.laid_unicode_utf8_acceptRanges), ("strconv.ErrRange", Rows.laid_strconv_ErrRange), ("strconv.ErrSyntax", Rows.laid_strconv_ErrSyntax), ("sccsettle/value.texts", Rows.laid_sccsettle_value_texts), ("unicode/utf8.first", Rows.laid_unicode_utf8_first)]) with heap := (World.laidAll Tryz.prog os [("math/bits.deBruijn32tab", Rows.laid_math_bits_deBruijn32tab), ("math/bits.deBruijn64tab", Rows.laid_math_bits_deBruijn64tab), ("internal/strconv.uint64pow10", Rows.laid_internal_strconv_uint64pow10), ("unicode/utf8.acceptRanges", Rows.laid_unicode_utf8_acceptRanges), ("strconv.ErrRange", Rows.laid_strconv_ErrRange), ("strconv.ErrSyntax", Rows.laid_strconv_ErrSyntax), ("sccsettle/value.texts", Rows.laid_sccsettle_value_texts), ("unicode/utf8.first", Rows.laid_unicode_utf8_first)]).heap.modify 2 fun | .cells _ t frozen => .cells #[.iface 158 (.agg #[.pointer (some ⟨11, 31, none⟩)])] t frozen | o => o } : World)
      #[.agg #[.int .i64 0, .int .i64 0, .string ⟨#[]⟩]] 8 (World.laidAll_os _ _ _)
      (World.shaped_of_ZipB (by kernel_rfl) (by kernel_rfl)) (by kernel_rfl) (by kernel_rfl) (by kernel_rfl)
      (laidMetH_of_parts (laidMet_of_run' 8 (by kernel_rfl) (by kernel_rfl)) (by kernel_rfl))) ?_
  intro W base args ds gs before hval0 hW _ hsz hL _
  have hval : ∀ (j : Nat) t v, Tryz.f4.params[j]? = some t → args[j]? = some v → Value.okWide Tryz.prog W .any base t v := hval0
  have hW' := hW
  obtain ⟨p, q, hA0, hV, rfl, hfz, hnd⟩ := hW
  have hA1 : DataW.TrodAll enc Tryz.prog W 0 (fun _ => true) true Tryz.f4.params.toList args.toList ds p := hA0
  rw [Tryz.params4] at hA1 hval
  obtain ⟨rfl, rfl⟩ := trodVars_none hV
  have hA := hA1
  obtain ⟨argl⟩ := args
  obtain ⟨v0, vs0, d0, ds0, p0, q0, e, rfl, -, h0, hA⟩ := trodAll_cons hA
  obtain ⟨rfl, rfl, -⟩ := trodAll_nil hA
  cases e
  obtain ⟨k, n, s, rn, rfl, rfl⟩ := openValue (hval 0 23 v0 rfl rfl) h0
  have hs : s.length ≤ 140737488355328 := Nat.le_trans (sized_value (j := 0) hsz rfl rfl) (by decide)
  have hL' : laidMet Tryz.prog [("math/bits.deBruijn32tab", Rows.laid_math_bits_deBruijn32tab), ("math/bits.deBruijn64tab", Rows.laid_math_bits_deBruijn64tab), ("internal/strconv.uint64pow10", Rows.laid_internal_strconv_uint64pow10), ("unicode/utf8.acceptRanges", Rows.laid_unicode_utf8_acceptRanges), ("strconv.ErrRange", Rows.laid_strconv_ErrRange), ("strconv.ErrSyntax", Rows.laid_strconv_ErrSyntax), ("sccsettle/value.texts", Rows.laid_sccsettle_value_texts), ("unicode/utf8.first", Rows.laid_unicode_utf8_first)] W ∧ handlesMet Tryz.prog [("errors.errorType", Rows.laid_errors_errorType)] W := hL
  obtain ⟨te, pe, hg0⟩ := glob_V (Lib.laidMet.reads hL'.1 (List.mem_of_getElem? (i := 6) (by rfl))) ⟨_, Lib.laidMet.reads hL'.1 (List.mem_of_getElem? (i := 4) (by rfl))⟩ (Lib.laidMet.reads hL'.1 (List.mem_of_getElem? (i := 2) (by rfl)))
  have hg := Glob.cons (var_errT hL'.2) hg0
  simp only [List.append_nil] at hW'
  refine (FnP.calls (gl := glE te pe) (ValueMakes_d te pe k n s rn) (by unfold HasBody; kernel_rfl) (hg)
    (xs := [_]) ⟨den_vl _ _ _ _ _, trivial⟩).mono fun e W' ⟨he, hb⟩ => ?_
  subst he
  have hlt : ∀ x ∈ p, x.block < W.heap.size := fun x hx => by simpa using hW'.lt x (by simpa using hx)
  exact ⟨_, rfl, _, _, _, [], p, [], hW', trodAll_mk1 (shut_bool Tryz.underlying4 _), trodAll_below Door.out (ts := [23]) hb readValueMakes hA1 hlt (fun x hx => by simpa using hlt x hx), rfl, hb.frame _, fun h => by cases h⟩
theorem valueMakes_over : Rows.ValueMakesSaid :=
  OpenClaim.holds_of_wide 4 Tryz.f4 rfl rfl rfl rfl rfl rfl rfl ⟨rfl, rfl, rfl, rfl, rfl⟩ rfl rfl rfl rfl rfl (by kernel_rfl) Tryz.func4 (by kernel_rfl)
    (of_decide_eq_true (by kernel_rfl)) (by unfold Func.isWrapper; rw [if_neg (of_decide_eq_false (by kernel_rfl))]; exact ⟨rfl, rfl⟩)
    (fun os started H enc _ => valueMakes_lifted os started H enc)
theorem wantsValueMakes : ∀ t ∈ ([23] : List TypeId), Tryz.prog.wantsStandIn t = false := by
  have h : ([23] : List TypeId).all (fun t => !Tryz.prog.wantsStandIn t) = true := by kernel_rfl
  intro t ht
  simpa using List.all_eq_true.1 h t ht
/-- THE STATEMENT. -/
theorem valueMakes_proved : Rows.ValueMakesCardSaid :=
  Claim7.holds_tied_plain_at .later [] [.data, .data, .data, .data, .handle, .sentinel, .sentinel, .data, .pinned] true (true, "0ecb9e16a614a79a874c5c35e02a1a9489e2afb05f239fd1ed78a73c8f9690fb") true
    valueMakes_over (fun _ h => by cases h) (by kernel_rfl) (fun _ h => by cases h) valueMakes_row_tie rfl ⟨rfl, rfl⟩ (by kernel_rfl) rfl
    (fun f fn hf hfn => by
      obtain rfl : f = 4 := Option.some.inj ((show Tryz.prog.funcNamed "sccsettle/scclaw1.ValueMakes" = some 4 by kernel_rfl).symm.trans hf) |>.symm
      obtain rfl : fn = Tryz.f4 := (Option.some.inj (Tryz.func4.symm.trans hfn)).symm
      exact ⟨by kernel_rfl, fun j t ht => by
        rw [Tryz.params4] at ht
        exact wantsValueMakes t (List.mem_of_getElem? (l := [23]) (by simpa using ht))⟩)
    (by kernel_rfl)
#print axioms valueMakes_proved
end Go.Proofs.YtbkhfmgdnnaaoaaGreatDoor
