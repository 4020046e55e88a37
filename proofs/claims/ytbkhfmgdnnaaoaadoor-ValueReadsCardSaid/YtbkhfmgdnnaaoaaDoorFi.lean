/- Proved: the law ValueReads returns true for whatever it is called with, and leaves all memory that was there as it was. Condition: the variables that its row lists read as laid (the card ties them to the program's text). -/
import Derived.Test.YtbkhfmgdnnaaoaaDoorFv
namespace Go.Proofs.YtbkhfmgdnnaaoaaDoor
open Go Go.ChangeShapes Go.WideShapes Go.ChangeAt Go.RowKit Go.EYtbkhfmgdnnaaoaaDoor
set_option linter.unusedVariables false
set_option maxRecDepth 100000
theorem readValueReads : ∀ t ∈ ([9] : List TypeId), Tryd.prog.readableRec t = true ∧ t < Tryd.prog.types.size := by
  rw [Door.size]
  have h : ([9] : List TypeId).all (fun t => Tryd.prog.readableRec t && decide (t < 231)) = true := by kernel_rfl
  intro t ht
  simpa using List.all_eq_true.1 h t ht
theorem valueReads_lifted (os : Os) (started : os.Started) (H : Type) (enc : TypeId × Value → H) :
    ReturnsInHanded {} Tryd.checked os 6 .any (fun w args => (Rows.valueReadsSpec.pre enc Tryd.prog Tryd.f6 [] false w args ∧ laidMetH Tryd.prog Rows.valueReadsRow.laid w) ∧ sizedMet enc Tryd.prog Tryd.f6 (OpenSpec.ofChange Rows.valueReadsSpec) false w args)
      (Rows.valueReadsSpec.post enc Tryd.prog Tryd.f6 false true false false) := by
  refine returnsInHanded_of_change_and (C := Tryd.checked) (X := fun w _ => laidMetH Tryd.prog Rows.valueReadsRow.laid w) (fun _ _ _ hh h => h.of_heap hh) Door.own started (by kernel_rfl) Tryd.func6
    (ChangeSpec.witness_shaped (enc := enc) (C := Tryd.checked) (os := os) (X := fun w _ => laidMetH Tryd.prog Rows.valueReadsRow.laid w) false (World.laidAll Tryd.prog os Rows.valueReadsRow.laid)
      #[.string ⟨#[]⟩] 8 (World.laidAll_os _ _ _)
      (World.shaped_of_ZipB (by kernel_rfl) (by kernel_rfl)) (by kernel_rfl) (by kernel_rfl) (by kernel_rfl)
      (by rw [MakeChecks.laidMetH_plain _ _ _ (by kernel_rfl)]; exact laidMet_laidAll _ (by kernel_rfl) (by kernel_rfl))) ?_
  intro W base args ds gs before hval0 hW _ hsz hL _
  have hval : ∀ (j : Nat) t v, Tryd.f6.params[j]? = some t → args[j]? = some v → Value.okWide Tryd.prog W .any base t v := hval0
  have hW' := hW
  obtain ⟨p, q, hA0, hV, rfl, hfz, hnd⟩ := hW
  have hA1 : DataW.TrodAll enc Tryd.prog W 0 (fun _ => true) true Tryd.f6.params.toList args.toList ds p := hA0
  rw [Tryd.params6] at hA1 hval
  obtain ⟨rfl, rfl⟩ := trodVars_none hV
  have hA := hA1
  obtain ⟨argl⟩ := args
  obtain ⟨v0, vs0, d0, ds0, p0, q0, e, rfl, -, h0, hA⟩ := trodAll_cons hA
  obtain ⟨rfl, rfl, -⟩ := trodAll_nil hA
  cases e
  obtain ⟨s0, rfl, rfl, -, -⟩ := Go.ChangeMaps.open_string Tryd.underlying9 (hval 0 9 v0 rfl rfl) h0
  obtain ⟨s, rfl⟩ : ∃ l : List UInt8, s0 = ⟨l.toArray⟩ := ⟨s0.data.toList, by simp⟩
  have hs : s.length ≤ 140737488355328 := Nat.le_trans (sized_string (j := 0) (t := 9) hsz rfl rfl) (by decide)
  have hL' : laidMet Tryd.prog Rows.valueReadsRow.laid W := by have h := hL; rwa [MakeChecks.laidMetH_plain _ _ _ (by kernel_rfl)] at h
  obtain ⟨te, pe, hg⟩ := glob_V (Lib.laidMet.reads hL' (List.mem_of_getElem? (i := 6) (by rfl))) ⟨_, Lib.laidMet.reads hL' (List.mem_of_getElem? (i := 4) (by rfl))⟩ (Lib.laidMet.reads hL' (List.mem_of_getElem? (i := 2) (by rfl)))
  simp only [List.append_nil] at hW'
  refine (FnP.calls (gl := glV te pe) (ValueReads_d te pe s hs) (by unfold HasBody; kernel_rfl) (hg)
    (xs := [_]) ⟨.str _, trivial⟩).mono fun e W' ⟨he, hb⟩ => ?_
  subst he
  have hlt : ∀ x ∈ p, x.block < W.heap.size := fun x hx => by simpa using hW'.lt x (by simpa using hx)
  exact ⟨_, rfl, _, _, _, [], p, [], hW', trodAll_mk1 (shut_bool Tryd.underlying4 _), trodAll_below Door.out (ts := [9]) hb readValueReads hA1 hlt (fun x hx => by simpa using hlt x hx), rfl, hb.frame _, fun h => by cases h⟩
theorem valueReads_over : Rows.ValueReadsSaid :=
  OpenClaim.holds_of_wide 6 Tryd.f6 rfl rfl rfl rfl rfl rfl rfl ⟨rfl, rfl, rfl, rfl, rfl⟩ rfl rfl rfl rfl rfl (by kernel_rfl) Tryd.func6 (by kernel_rfl)
    (of_decide_eq_true (by kernel_rfl)) (by unfold Func.isWrapper; rw [if_neg (of_decide_eq_false (by kernel_rfl))]; exact ⟨rfl, rfl⟩)
    (fun os started H enc _ => valueReads_lifted os started H enc)
theorem wantsValueReads : ∀ t ∈ ([9] : List TypeId), Tryd.prog.wantsStandIn t = false := by
  have h : ([9] : List TypeId).all (fun t => !Tryd.prog.wantsStandIn t) = true := by kernel_rfl
  intro t ht
  simpa using List.all_eq_true.1 h t ht
/-- THE STATEMENT. -/
theorem valueReads_proved : Rows.ValueReadsCardSaid :=
  Claim7.holds_tied_plain_at .later [] [.data, .data, .data, .data, .sentinel, .sentinel, .data, .pinned] true (true, "7a88ab25f2fa7402bb82a49148fe9b8f01b3eb5b35edd0ccef8d4d4a276b19e1") true
    valueReads_over (fun _ h => by cases h) (by kernel_rfl) (fun _ h => by cases h) valueReads_row_tie rfl ⟨rfl, rfl⟩ (by kernel_rfl) rfl
    (fun f fn hf hfn => by
      obtain rfl : f = 6 := Option.some.inj ((show Tryd.prog.funcNamed "sccsettle/scclaw1.ValueReads" = some 6 by kernel_rfl).symm.trans hf) |>.symm
      obtain rfl : fn = Tryd.f6 := (Option.some.inj (Tryd.func6.symm.trans hfn)).symm
      exact ⟨by kernel_rfl, fun j t ht => by
        rw [Tryd.params6] at ht
        exact wantsValueReads t (List.mem_of_getElem? (l := [9]) (by simpa using ht))⟩)
    (by kernel_rfl)
#print axioms valueReads_proved
end Go.Proofs.YtbkhfmgdnnaaoaaDoor
