/- Proved: the law ValueTwo returns true for whatever it is called with, and leaves all memory that was there as it was. Condition: the variables that its row lists read as laid (the card ties them to the program's text). -/
import Derived.Test.YtbkhfmgdnnaaoaaGreatDoorFv
import Derived.Test.YtbkhfmgdnnaaoaaGreatDoorTe
namespace Go.Proofs.YtbkhfmgdnnaaoaaGreatDoor
open Go Go.ChangeShapes Go.WideShapes Go.ChangeAt Go.RowKit Go.EYtbkhfmgdnnaaoaaGreatDoor
set_option linter.unusedVariables false
set_option maxRecDepth 100000
theorem readValueTwo : ∀ t ∈ ([3, 23, 23] : List TypeId), Tryz.prog.readableRec t = true ∧ t < Tryz.prog.types.size := by
  rw [Door.size]
  have h : ([3, 23, 23] : List TypeId).all (fun t => Tryz.prog.readableRec t && decide (t < 242)) = true := by kernel_rfl
  intro t ht
  simpa using List.all_eq_true.1 h t ht
theorem valueTwo_lifted (os : Os) (started : os.Started) (H : Type) (enc : TypeId × Value → H) :
    ReturnsInHanded {} Tryz.checked os 3 .any (fun w args => (Rows.valueTwoSpec.pre enc Tryz.prog Tryz.f3 [] false w args ∧ laidMetH Tryz.prog Rows.valueTwoRow.laid w) ∧ sizedMet enc Tryz.prog Tryz.f3 (OpenSpec.ofChange Rows.valueTwoSpec) false w args)
      (Rows.valueTwoSpec.post enc Tryz.prog Tryz.f3 false true false false) := by
  refine returnsInHanded_of_change_and (C := Tryz.checked) (X := fun w _ => laidMetH Tryz.prog Rows.valueTwoRow.laid w) (fun _ _ _ hh h => h.of_heap hh) Door.own started (by kernel_rfl) Tryz.func3
    (ChangeSpec.witness_shaped (enc := enc) (C := Tryz.checked) (os := os) (X := fun w _ => laidMetH Tryz.prog Rows.valueTwoRow.laid w) false (World.laidAll Tryz.prog os Rows.valueTwoRow.laid)
      #[.int .i64 0, .agg #[.int .i64 0, .int .i64 0, .string ⟨#[]⟩], .agg #[.int .i64 0, .int .i64 0, .string ⟨#[]⟩]] 8 (World.laidAll_os _ _ _)
      (World.shaped_of_ZipB (by kernel_rfl) (by kernel_rfl)) (by kernel_rfl) (by kernel_rfl) (by kernel_rfl)
      (by rw [MakeChecks.laidMetH_plain _ _ _ (by kernel_rfl)]; exact laidMet_laidAll _ (by kernel_rfl) (by kernel_rfl))) ?_
  intro W base args ds gs before hval0 hW _ hsz hL _
  have hval : ∀ (j : Nat) t v, Tryz.f3.params[j]? = some t → args[j]? = some v → Value.okWide Tryz.prog W .any base t v := hval0
  have hW' := hW
  obtain ⟨p, q, hA0, hV, rfl, hfz, hnd⟩ := hW
  have hA1 : DataW.TrodAll enc Tryz.prog W 0 (fun _ => true) true Tryz.f3.params.toList args.toList ds p := hA0
  rw [Tryz.params3] at hA1 hval
  obtain ⟨rfl, rfl⟩ := trodVars_none hV
  have hA := hA1
  obtain ⟨argl⟩ := args
  obtain ⟨v0, vs0, d0, ds0, p0, q0, e, rfl, -, h0, hA⟩ := trodAll_cons hA
  obtain ⟨v1, vs1, d1, ds1, p1, q1, rfl, rfl, -, h1, hA⟩ := trodAll_cons hA
  obtain ⟨v2, vs2, d2, ds2, p2, q2, rfl, rfl, -, h2, hA⟩ := trodAll_cons hA
  obtain ⟨rfl, rfl, -⟩ := trodAll_nil hA
  cases e
  obtain ⟨op, rfl, -, -, rop⟩ := open_int Tryz.underlying3 (hval 0 3 v0 rfl rfl) h0
  have rop := okI_of_wf rop
  obtain ⟨k, n, s, rn, rfl, rfl⟩ := openValue (hval 1 23 v1 rfl rfl) h1
  obtain ⟨k2, n2, s2, rn2, rfl, rfl⟩ := openValue (hval 2 23 v2 rfl rfl) h2
  have hs : s.length ≤ 140737488355328 := Nat.le_trans (sized_value (j := 1) hsz rfl rfl) (by decide)
  have hs2 : s2.length ≤ 140737488355328 := Nat.le_trans (sized_value (j := 2) hsz rfl rfl) (by decide)
  have hL' : laidMet Tryz.prog Rows.valueTwoRow.laid W := by have h := hL; rwa [MakeChecks.laidMetH_plain _ _ _ (by kernel_rfl)] at h
  obtain ⟨te, pe, hg⟩ := glob_V (Lib.laidMet.reads hL' (List.mem_of_getElem? (i := 6) (by rfl))) ⟨_, Lib.laidMet.reads hL' (List.mem_of_getElem? (i := 4) (by rfl))⟩ (Lib.laidMet.reads hL' (List.mem_of_getElem? (i := 2) (by rfl)))
  simp only [List.append_nil] at hW'
  refine (FnP.calls (gl := glV te pe) (ValueTwo_d te pe op k n s k2 n2 s2 rn rn2) (by unfold HasBody; kernel_rfl) (hg)
    (xs := [_, _, _]) ⟨den_i _ _ _, den_vl _ _ _ _ _, den_vl _ _ _ _ _, trivial⟩).mono fun e W' ⟨he, hb⟩ => ?_
  subst he
  have hlt : ∀ x ∈ p, x.block < W.heap.size := fun x hx => by simpa using hW'.lt x (by simpa using hx)
  exact ⟨_, rfl, _, _, _, [], p, [], hW', trodAll_mk1 (shut_bool Tryz.underlying4 _), trodAll_below Door.out (ts := [3, 23, 23]) hb readValueTwo hA1 hlt (fun x hx => by simpa using hlt x hx), rfl, hb.frame _, fun h => by cases h⟩
theorem valueTwo_over : Rows.ValueTwoSaid :=
  OpenClaim.holds_of_wide 3 Tryz.f3 rfl rfl rfl rfl rfl rfl rfl ⟨rfl, rfl, rfl, rfl, rfl⟩ rfl rfl rfl rfl rfl (by kernel_rfl) Tryz.func3 (by kernel_rfl)
    (of_decide_eq_true (by kernel_rfl)) (by unfold Func.isWrapper; rw [if_neg (of_decide_eq_false (by kernel_rfl))]; exact ⟨rfl, rfl⟩)
    (fun os started H enc _ => valueTwo_lifted os started H enc)
theorem wantsValueTwo : ∀ t ∈ ([3, 23, 23] : List TypeId), Tryz.prog.wantsStandIn t = false := by
  have h : ([3, 23, 23] : List TypeId).all (fun t => !Tryz.prog.wantsStandIn t) = true := by kernel_rfl
  intro t ht
  simpa using List.all_eq_true.1 h t ht
/-- THE STATEMENT. -/
theorem valueTwo_proved : Rows.ValueTwoCardSaid :=
  Claim7.holds_tied_plain_at .later [] [.data, .data, .data, .data, .sentinel, .sentinel, .data, .pinned] true (true, "0ecb9e16a614a79a874c5c35e02a1a9489e2afb05f239fd1ed78a73c8f9690fb") true
    valueTwo_over (fun _ h => by cases h) (by kernel_rfl) (fun _ h => by cases h) valueTwo_row_tie rfl ⟨rfl, rfl⟩ (by kernel_rfl) rfl
    (fun f fn hf hfn => by
      obtain rfl : f = 3 := Option.some.inj ((show Tryz.prog.funcNamed "sccsettle/scclaw1.ValueTwo" = some 3 by kernel_rfl).symm.trans hf) |>.symm
      obtain rfl : fn = Tryz.f3 := (Option.some.inj (Tryz.func3.symm.trans hfn)).symm
      exact ⟨by kernel_rfl, fun j t ht => by
        rw [Tryz.params3] at ht
        exact wantsValueTwo t (List.mem_of_getElem? (l := [3, 23, 23]) (by simpa using ht))⟩)
    (by kernel_rfl)
#print axioms valueTwo_proved
end Go.Proofs.YtbkhfmgdnnaaoaaGreatDoor
