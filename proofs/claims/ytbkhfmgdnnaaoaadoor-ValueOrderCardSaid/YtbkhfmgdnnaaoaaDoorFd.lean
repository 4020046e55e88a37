/- Proved: the law ValueOrder returns true for every three values, and leaves all memory that was there as it was. Condition: eight variables of Go's library and of package value read as laid (the card ties them to the program's text; the walk does not read them). -/
import Derived.Test.YtbkhfmgdnnaaoaaDoorFh
import Derived.Test.YtbkhfmgdnnaaoaaDoorVc
import Derived.ChangeMaps5
namespace Go.Proofs.YtbkhfmgdnnaaoaaDoor
open Go Go.ChangeShapes Go.WideShapes Go.ChangeAt Go.RowKit Go.EYtbkhfmgdnnaaoaaDoor
set_option linter.unusedVariables false
set_option maxRecDepth 100000
theorem glob_none {M : Nat → Prop} {w : World} : Glob [] M w := fun g l hl => by cases hl
theorem cellsOf9 : Tryd.prog.cellsOf 9 = 1 := by kernel_rfl
theorem cellsOf58 : Tryd.prog.cellsOf 58 = 3 := by kernel_rfl
theorem openValue {H : Type} {enc : TypeId × Value → H} {W : World} {base b0 : Nat} {sp : Nat → Bool} {hd : Bool} {v : Value} {d : DataW H} {p : List MemPlace} (hv : Value.okWide Tryd.prog W .any b0 58 v) (h : DataW.Trod enc Tryd.prog W base sp hd 58 v d p) :
    ∃ (k n : Int) (s : List UInt8), v = .agg #[.int .i64 k, .int .i64 n, .string ⟨s.toArray⟩] := by
  obtain ⟨cs, rfl, hsz⟩ := okWide_struct Tryd.underlying58 hv
  obtain ⟨l⟩ := cs
  match l, hsz.trans cellsOf58 with
  | [a, b, c], _ =>
    obtain ⟨f, hf⟩ := h
    obtain ⟨xs, n, _, _, _, hlen, hg⟩ := DataW.trod_struct Tryd.underlying58 hf
    match xs, hlen with
    | [y0, y1, y2], _ =>
      have h0 := hg 0 _ rfl
      have h1 := hg 1 _ rfl
      have h2 := hg 2 _ rfl
      have h0 : DataW.trod enc Tryd.prog W base sp hd n 3 [a] = some y0 := by have h := h0; change DataW.trod enc Tryd.prog W base sp hd n 3 (List.take (Tryd.prog.cellsOf 3) [a, b, c]) = some y0 at h; rw [cellsOf3] at h; exact h
      have h1 : DataW.trod enc Tryd.prog W base sp hd n 3 [b] = some y1 := by have h := h1; change DataW.trod enc Tryd.prog W base sp hd n 3 (List.take (Tryd.prog.cellsOf 3) [b, c]) = some y1 at h; rw [cellsOf3] at h; exact h
      have h2 : DataW.trod enc Tryd.prog W base sp hd n 9 [c] = some y2 := by have h := h2; change DataW.trod enc Tryd.prog W base sp hd n 9 (List.take (Tryd.prog.cellsOf 9) [c]) = some y2 at h; rw [cellsOf9] at h; exact h
      obtain ⟨k, e0, _⟩ := DataW.trod_int Tryd.underlying3 h0
      obtain ⟨m, e1, _⟩ := DataW.trod_int Tryd.underlying3 h1
      obtain ⟨s, e2, _⟩ := DataW.trod_string Tryd.underlying9 h2
      cases e0; cases e1; cases e2
      exact ⟨k, m, s.data.toList, rfl⟩
theorem den_vl (M : Nat → Prop) (w : World) (k n : Int) (s : List UInt8) : DenD M w (vlD k n s) (.agg #[.int .i64 k, .int .i64 n, .string ⟨s.toArray⟩]) :=
  DenD.agg_mk (xs := [.int .i64 k, .int .i64 n, .string ⟨s.toArray⟩]) ⟨den_i _ _ _, den_i _ _ _, .str _, trivial⟩
theorem openV3 {H : Type} {enc : TypeId × Value → H} {W : World} {base b0 : Nat} {sp : Nat → Bool} {hd : Bool} {args : Array Value} {ds : List (DataW H)} {p : List MemPlace}
    (hA : DataW.TrodAll enc Tryd.prog W base sp hd [58, 58, 58] args.toList ds p)
    (hval : ∀ (j : Nat) t v, (#[58, 58, 58] : Array TypeId)[j]? = some t → args[j]? = some v → Value.okWide Tryd.prog W .any b0 t v) :
    ∃ (k1 n1 : Int) (s1 : List UInt8) (k2 n2 : Int) (s2 : List UInt8) (k3 n3 : Int) (s3 : List UInt8) (d1 d2 d3 : DataW H), args = #[.agg #[.int .i64 k1, .int .i64 n1, .string ⟨s1.toArray⟩], .agg #[.int .i64 k2, .int .i64 n2, .string ⟨s2.toArray⟩], .agg #[.int .i64 k3, .int .i64 n3, .string ⟨s3.toArray⟩]] ∧ ds = [d1, d2, d3] := by
  obtain ⟨l⟩ := args
  obtain ⟨v0, vs0, d0, ds0, p0, q0, e, rfl, -, h0, hA⟩ := trodAll_cons hA
  obtain ⟨v1, vs1, d1, ds1, p1, q1, rfl, rfl, -, h1, hA⟩ := trodAll_cons hA
  obtain ⟨v2, vs2, d2, ds2, p2, q2, rfl, rfl, -, h2, hA⟩ := trodAll_cons hA
  obtain ⟨rfl, rfl, -⟩ := trodAll_nil hA
  cases e
  obtain ⟨k1, n1, s1, rfl⟩ := openValue (hval 0 58 v0 rfl rfl) h0
  obtain ⟨k2, n2, s2, rfl⟩ := openValue (hval 1 58 v1 rfl rfl) h1
  obtain ⟨k3, n3, s3, rfl⟩ := openValue (hval 2 58 v2 rfl rfl) h2
  exact ⟨k1, n1, s1, k2, n2, s2, k3, n3, s3, _, _, _, rfl, rfl⟩
theorem readV3 : ∀ t ∈ ([58, 58, 58] : List TypeId), Tryd.prog.readableRec t = true ∧ t < Tryd.prog.types.size := by
  rw [Door.size]
  have h : ([58, 58, 58] : List TypeId).all (fun t => Tryd.prog.readableRec t && decide (t < 231)) = true := by kernel_rfl
  intro t ht
  simpa using List.all_eq_true.1 h t ht
theorem valueOrder_lifted (os : Os) (started : os.Started) (H : Type) (enc : TypeId × Value → H) :
    ReturnsInHanded {} Tryd.checked os 9 .any (fun w args => (Rows.valueOrderSpec.pre enc Tryd.prog Tryd.f9 [] false w args ∧ laidMetH Tryd.prog Rows.valueOrderRow.laid w) ∧ sizedMet enc Tryd.prog Tryd.f9 (OpenSpec.ofChange Rows.valueOrderSpec) false w args)
      (Rows.valueOrderSpec.post enc Tryd.prog Tryd.f9 false true false false) := by
  refine returnsInHanded_of_change_and (C := Tryd.checked) (X := fun w _ => laidMetH Tryd.prog Rows.valueOrderRow.laid w) (fun _ _ _ hh h => h.of_heap hh) Door.own started (by kernel_rfl) Tryd.func9
    (ChangeSpec.witness_shaped (enc := enc) (C := Tryd.checked) (os := os) (X := fun w _ => laidMetH Tryd.prog Rows.valueOrderRow.laid w) false (World.laidAll Tryd.prog os Rows.valueOrderRow.laid)
      #[.agg #[.int .i64 0, .int .i64 0, .string ⟨#[]⟩], .agg #[.int .i64 0, .int .i64 0, .string ⟨#[]⟩], .agg #[.int .i64 0, .int .i64 0, .string ⟨#[]⟩]] 8 (World.laidAll_os _ _ _)
      (World.shaped_of_ZipB (by kernel_rfl) (by kernel_rfl)) (by kernel_rfl) (by kernel_rfl) (by kernel_rfl)
      (by rw [MakeChecks.laidMetH_plain _ _ _ (by kernel_rfl)]; exact laidMet_laidAll _ (by kernel_rfl) (by kernel_rfl))) ?_
  intro W base args ds gs before hval0 hW _ _ hL _
  have hval : ∀ (j : Nat) t v, Tryd.f9.params[j]? = some t → args[j]? = some v → Value.okWide Tryd.prog W .any base t v := hval0
  have hW' := hW
  obtain ⟨p, q, hA0, hV, rfl, hfz, hnd⟩ := hW
  have hA : DataW.TrodAll enc Tryd.prog W 0 (fun _ => true) true Tryd.f9.params.toList args.toList ds p := hA0
  rw [Tryd.params9] at hA hval
  obtain ⟨rfl, rfl⟩ := trodVars_none hV
  obtain ⟨k1, n1, s1, k2, n2, s2, k3, n3, s3, d1, d2, d3, rfl, rfl⟩ := openV3 hA hval
  simp only [List.append_nil] at hW'
  refine (FnP.calls (ValueOrder_d (gl := []) k1 n1 s1 k2 n2 s2 k3 n3 s3) (by unfold HasBody; kernel_rfl) glob_none
    (xs := [_, _, _]) ⟨den_vl _ _ _ _ _, den_vl _ _ _ _ _, den_vl _ _ _ _ _, trivial⟩).mono fun e W' ⟨he, hb⟩ => ?_
  subst he
  have hlt : ∀ x ∈ p, x.block < W.heap.size := fun x hx => by simpa using hW'.lt x (by simpa using hx)
  exact ⟨_, rfl, _, _, _, [], p, [], hW', trodAll_mk1 (shut_bool Tryd.underlying4 _), trodAll_below Door.out (ts := [58, 58, 58]) hb readV3 hA hlt (fun x hx => by simpa using hlt x hx), rfl, hb.frame _, fun h => by cases h⟩
theorem valueOrder_over : Rows.ValueOrderSaid :=
  OpenClaim.holds_of_wide 9 Tryd.f9 rfl rfl rfl rfl rfl rfl rfl ⟨rfl, rfl, rfl, rfl, rfl⟩ rfl rfl rfl rfl rfl (by kernel_rfl) Tryd.func9 (by kernel_rfl)
    (of_decide_eq_true (by kernel_rfl)) (by unfold Func.isWrapper; rw [if_neg (of_decide_eq_false (by kernel_rfl))]; exact ⟨rfl, rfl⟩)
    (fun os started H enc _ => valueOrder_lifted os started H enc)
theorem wantsV3 : ∀ t ∈ ([58, 58, 58] : List TypeId), Tryd.prog.wantsStandIn t = false := by
  have h : ([58, 58, 58] : List TypeId).all (fun t => !Tryd.prog.wantsStandIn t) = true := by kernel_rfl
  intro t ht
  simpa using List.all_eq_true.1 h t ht
/-- THE STATEMENT. -/
theorem valueOrder_proved : Rows.ValueOrderCardSaid :=
  Claim7.holds_tied_plain_at .later [] [.data, .data, .data, .data, .sentinel, .sentinel, .data, .pinned] true (true, "7a88ab25f2fa7402bb82a49148fe9b8f01b3eb5b35edd0ccef8d4d4a276b19e1") true
    valueOrder_over (fun _ h => by cases h) (by kernel_rfl) (fun _ h => by cases h) valueOrder_row_tie rfl ⟨rfl, rfl⟩ (by kernel_rfl) rfl
    (fun f fn hf hfn => by
      obtain rfl : f = 9 := Option.some.inj ((show Tryd.prog.funcNamed "sccsettle/scclaw1.ValueOrder" = some 9 by kernel_rfl).symm.trans hf) |>.symm
      obtain rfl : fn = Tryd.f9 := (Option.some.inj (Tryd.func9.symm.trans hfn)).symm
      exact ⟨by kernel_rfl, fun j t ht => by
        rw [Tryd.params9] at ht
        exact wantsV3 t (List.mem_of_getElem? (l := [58, 58, 58]) (by simpa using ht))⟩)
    (by kernel_rfl)
#print axioms valueOrder_proved
end Go.Proofs.YtbkhfmgdnnaaoaaDoor
