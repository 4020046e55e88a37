/- Proved: the law AddrBack returns true for every ref and way, and leaves all memory that was there as it was. Condition: three tables of Go's library read as laid (the card ties them to the program's text; the walk does not read them). -/
import Derived.Test.YtbkhfmgdnnaaoaaDoorFh
import Derived.Test.YtbkhfmgdnnaaoaaDoorPg
namespace Go.Proofs.YtbkhfmgdnnaaoaaDoor
open Go Go.ChangeShapes Go.WideShapes Go.ChangeAt Go.RowKit Go.EYtbkhfmgdnnaaoaaDoor
set_option linter.unusedVariables false
set_option maxRecDepth 100000
theorem open3 {H : Type} {enc : TypeId × Value → H} {W : World} {base b0 : Nat} {sp : Nat → Bool} {hd : Bool} {args : Array Value} {ds : List (DataW H)} {p : List MemPlace}
    (hA : DataW.TrodAll enc Tryd.prog W base sp hd [25, 3, 3] args.toList ds p)
    (hval : ∀ (j : Nat) t v, (#[25, 3, 3] : Array TypeId)[j]? = some t → args[j]? = some v → Value.okWide Tryd.prog W .any b0 t v) :
    ∃ (c r : Int) (fc fr : Bool) (dc dr : Int) (d1 d2 d3 : DataW H), args = #[.agg #[.int .i64 c, .int .i64 r, .bool fc, .bool fr], .int .i64 dc, .int .i64 dr] ∧ ds = [d1, d2, d3] := by
  obtain ⟨l⟩ := args
  obtain ⟨v0, vs0, d0, ds0, p0, q0, e, rfl, -, h0, hA⟩ := trodAll_cons hA
  obtain ⟨v1, vs1, d1, ds1, p1, q1, rfl, rfl, -, h1, hA⟩ := trodAll_cons hA
  obtain ⟨v2, vs2, d2, ds2, p2, q2, rfl, rfl, -, h2, hA⟩ := trodAll_cons hA
  obtain ⟨rfl, rfl, -⟩ := trodAll_nil hA
  cases e
  obtain ⟨c, r, fc, fr, rfl⟩ := openRef (hval 0 25 v0 rfl rfl) h0
  obtain ⟨dc, rfl, -, -, -⟩ := open_int Tryd.underlying3 (hval 1 3 v1 rfl rfl) h1
  obtain ⟨dr, rfl, -, -, -⟩ := open_int Tryd.underlying3 (hval 2 3 v2 rfl rfl) h2
  exact ⟨c, r, fc, fr, dc, dr, _, _, _, rfl, rfl⟩
theorem read3 : ∀ t ∈ ([25, 3, 3] : List TypeId), Tryd.prog.readableRec t = true ∧ t < Tryd.prog.types.size := by
  rw [Door.size]
  have h : ([25, 3, 3] : List TypeId).all (fun t => Tryd.prog.readableRec t && decide (t < 231)) = true := by kernel_rfl
  intro t ht
  simpa using List.all_eq_true.1 h t ht
theorem glob_none {M : Nat → Prop} {w : World} : Glob [] M w := fun g l hl => by cases hl
theorem addrBack_lifted (os : Os) (started : os.Started) (H : Type) (enc : TypeId × Value → H) :
    ReturnsInHanded {} Tryd.checked os 4 .any (fun w args => (Rows.addrBackSpec.pre enc Tryd.prog Tryd.f4 [] false w args ∧ laidMetH Tryd.prog Rows.addrBackRow.laid w) ∧ sizedMet enc Tryd.prog Tryd.f4 (OpenSpec.ofChange Rows.addrBackSpec) false w args)
      (Rows.addrBackSpec.post enc Tryd.prog Tryd.f4 false true false false) := by
  refine returnsInHanded_of_change_and (C := Tryd.checked) (X := fun w _ => laidMetH Tryd.prog Rows.addrBackRow.laid w) (fun _ _ _ hh h => h.of_heap hh) Door.own started (by kernel_rfl) Tryd.func4
    (ChangeSpec.witness_shaped (enc := enc) (C := Tryd.checked) (os := os) (X := fun w _ => laidMetH Tryd.prog Rows.addrBackRow.laid w) false (World.laidAll Tryd.prog os Rows.addrBackRow.laid)
      #[.agg #[.int .i64 0, .int .i64 0, .bool false, .bool false], .int .i64 0, .int .i64 0] 8 (World.laidAll_os _ _ _)
      (World.shaped_of_ZipB (by kernel_rfl) (by kernel_rfl)) (by kernel_rfl) (by kernel_rfl) (by kernel_rfl)
      (by rw [MakeChecks.laidMetH_plain _ _ _ (by kernel_rfl)]; exact laidMet_laidAll _ (by kernel_rfl) (by kernel_rfl))) ?_
  intro W base args ds gs before hval0 hW _ _ hL _
  have hval : ∀ (j : Nat) t v, Tryd.f4.params[j]? = some t → args[j]? = some v → Value.okWide Tryd.prog W .any base t v := hval0
  have hW' := hW
  obtain ⟨p, q, hA0, hV, rfl, hfz, hnd⟩ := hW
  have hA : DataW.TrodAll enc Tryd.prog W 0 (fun _ => true) true Tryd.f4.params.toList args.toList ds p := hA0
  rw [Tryd.params4] at hA hval
  obtain ⟨rfl, rfl⟩ := trodVars_none hV
  obtain ⟨c, r, fc, fr, dc, dr, d1, d2, d3, rfl, rfl⟩ := open3 hA hval
  simp only [List.append_nil] at hW'
  refine (FnP.calls (AddrBack_d (gl := []) c r dc dr fc fr) (by unfold HasBody; kernel_rfl) glob_none
    (xs := [_, _, _]) ⟨den_ref _ _ _ _ _ _, den_i _ _ _, den_i _ _ _, trivial⟩).mono fun e W' ⟨he, hb⟩ => ?_
  subst he
  have hlt : ∀ x ∈ p, x.block < W.heap.size := fun x hx => by simpa using hW'.lt x (by simpa using hx)
  exact ⟨_, rfl, _, _, _, [], p, [], hW', trodAll_mk1 (shut_bool Tryd.underlying4 _), trodAll_below Door.out (ts := [25, 3, 3]) hb read3 hA hlt (fun x hx => by simpa using hlt x hx), rfl, hb.frame _, fun h => by cases h⟩
theorem addrBack_over : Rows.AddrBackSaid :=
  OpenClaim.holds_of_wide 4 Tryd.f4 rfl rfl rfl rfl rfl rfl rfl ⟨rfl, rfl, rfl, rfl, rfl⟩ rfl rfl rfl rfl rfl (by kernel_rfl) Tryd.func4 (by kernel_rfl)
    (of_decide_eq_true (by kernel_rfl)) (by unfold Func.isWrapper; rw [if_neg (of_decide_eq_false (by kernel_rfl))]; exact ⟨rfl, rfl⟩)
    (fun os started H enc _ => addrBack_lifted os started H enc)
theorem wants3 : ∀ t ∈ ([25, 3, 3] : List TypeId), Tryd.prog.wantsStandIn t = false := by
  have h : ([25, 3, 3] : List TypeId).all (fun t => !Tryd.prog.wantsStandIn t) = true := by kernel_rfl
  intro t ht
  simpa using List.all_eq_true.1 h t ht
/-- THE STATEMENT. -/
theorem addrBack_proved : Rows.AddrBackCardSaid :=
  Claim7.holds_tied_plain_at .later [] [.data, .data, .data] true (true, "7a88ab25f2fa7402bb82a49148fe9b8f01b3eb5b35edd0ccef8d4d4a276b19e1") true
    addrBack_over (fun _ h => by cases h) (by kernel_rfl) (fun _ h => by cases h) addrBack_row_tie rfl ⟨rfl, rfl⟩ (by kernel_rfl) rfl
    (fun f fn hf hfn => by
      obtain rfl : f = 4 := Option.some.inj ((show Tryd.prog.funcNamed "sccsettle/scclaw1.AddrBack" = some 4 by kernel_rfl).symm.trans hf) |>.symm
      obtain rfl : fn = Tryd.f4 := (Option.some.inj (Tryd.func4.symm.trans hfn)).symm
      exact ⟨by kernel_rfl, fun j t ht => by
        rw [Tryd.params4] at ht
        exact wants3 t (List.mem_of_getElem? (l := [25, 3, 3]) (by simpa using ht))⟩)
    (by kernel_rfl)
#print axioms addrBack_proved
end Go.Proofs.YtbkhfmgdnnaaoaaDoor
