/- Proved: the law AddrShifts returns true for every ref, way, cell and box, and leaves all memory that was there as it was. Condition: errors.errorType reads as laid (the card ties it to the program's text). -/
import Derived.Test.YtbkhfmgdnnaaoaaDoorRows
import Derived.Test.YtbkhfmgdnnaaoaaDoorTie
import Derived.Test.YtbkhfmgdnnaaoaaDoorCards
import Derived.Test.YtbkhfmgdnnaaoaaDoorPe
import Derived.ProofKit
import Derived.LaidLaws
import Derived.LaidHandle
import Derived.Lib.SmallJoins
import Derived.Deep.Fields
import Derived.Carry
namespace Go.Proofs.YtbkhfmgdnnaaoaaDoor
open Go Go.ChangeShapes Go.WideShapes Go.ChangeAt Go.RowKit Go.EYtbkhfmgdnnaaoaaDoor
set_option linter.unusedVariables false
set_option maxRecDepth 100000
theorem Door.own : ownKnob Tryd.prog.godebug = none := by kernel_rfl
theorem Door.out : laidOutB Tryd.prog = true := by kernel_rfl
theorem Door.et : Tryd.prog.globalNamed "errors.errorType" = some 1 := by kernel_rfl
theorem Door.rt : (Tryd.prog.cutTypes.find? (·.1 == "internal/reflectlite.rtype")).map (·.2) = some 141 := by kernel_rfl
theorem Door.size : Tryd.prog.types.size = 231 := by kernel_rfl
theorem Door.oneRow : ((List.range 231).filter fun t => Tryd.prog.rowNamed t [101, 114, 114, 111, 114]) = [33] := by kernel_rfl
theorem Door.hh : typeHandle Tryd.prog 33 = .pointer (some ⟨10, 33, none⟩) := by kernel_rfl

/-- What the condition gives a walk: the variable's one cell. -/
theorem Door.handle {W : World} (h : laidMetH Tryd.prog Rows.addrShiftsRow.laid W) : W.cell? ⟨1, 0, none⟩ = some (.iface 141 (.agg #[.pointer (some ⟨10, 33, none⟩)])) := by
  have h' : laidMet Tryd.prog [] W ∧ handlesMet Tryd.prog Rows.addrShiftsRow.laid W := h
  obtain ⟨name, u, ty, e1, e2, e3, e4, e5⟩ := h'.2 _ (List.mem_singleton.2 rfl)
  have en : name = [101, 114, 114, 111, 114] := (Option.some.inj e1).symm
  subst en
  obtain rfl := Option.some.inj (Door.rt.symm.trans e2)
  have hm : ty ∈ (List.range 231).filter fun t => Tryd.prog.rowNamed t [101, 114, 114, 111, 114] := List.mem_filter.2 ⟨List.mem_range.2 (by rw [← Door.size]; exact e3), e4⟩
  rw [Door.oneRow] at hm
  obtain rfl := List.mem_singleton.1 hm
  rw [Door.hh] at e5
  simpa using World.var?_cell Door.et e5 0

/-! ### The arguments opened -/
section
variable {H : Type} {enc : TypeId × Value → H} {W : World} {base : Nat} {sp : Nat → Bool} {hd : Bool}
theorem cellsOf3 : Tryd.prog.cellsOf 3 = 1 := by kernel_rfl
theorem cellsOf4 : Tryd.prog.cellsOf 4 = 1 := by kernel_rfl
theorem cellsOf23 : Tryd.prog.cellsOf 23 = 2 := by kernel_rfl
theorem cellsOf25 : Tryd.prog.cellsOf 25 = 4 := by kernel_rfl
theorem cellsOf27 : Tryd.prog.cellsOf 27 = 4 := by kernel_rfl
theorem trodCell {f : Nat} {a b : Value} {x : DataW H × List MemPlace} (h : DataW.trod enc Tryd.prog W base sp hd f 23 [a, b] = some x) : ∃ c r : Int, a = .int .i64 c ∧ b = .int .i64 r := by
  obtain ⟨xs, n, _, _, _, hlen, hf⟩ := DataW.trod_struct Tryd.underlying23 h
  match xs, hlen with
  | [y0, y1], _ =>
    obtain ⟨c, hc, _⟩ := DataW.trod_int Tryd.underlying3 (hf 0 _ rfl)
    obtain ⟨r, hr, _⟩ := DataW.trod_int Tryd.underlying3 (hf 1 _ rfl)
    simp [cellsOf3] at hc hr
    exact ⟨c, r, hc, hr⟩
theorem openCell {v : Value} {d : DataW H} {p : List MemPlace} {b0 : Nat} (hv : Value.okWide Tryd.prog W .any b0 23 v) (h : DataW.Trod enc Tryd.prog W base sp hd 23 v d p) :
    ∃ c r : Int, v = .agg #[.int .i64 c, .int .i64 r] := by
  obtain ⟨cs, rfl, hsz⟩ := okWide_struct Tryd.underlying23 hv
  obtain ⟨l⟩ := cs
  match l, hsz.trans cellsOf23 with
  | [a, b], _ =>
    obtain ⟨f, hf⟩ := h
    obtain ⟨c, r, rfl, rfl⟩ := trodCell hf
    exact ⟨c, r, rfl⟩
theorem openRef {v : Value} {d : DataW H} {p : List MemPlace} {b0 : Nat} (hv : Value.okWide Tryd.prog W .any b0 25 v) (h : DataW.Trod enc Tryd.prog W base sp hd 25 v d p) :
    ∃ (c r : Int) (fc fr : Bool), v = .agg #[.int .i64 c, .int .i64 r, .bool fc, .bool fr] := by
  obtain ⟨cs, rfl, hsz⟩ := okWide_struct Tryd.underlying25 hv
  obtain ⟨l⟩ := cs
  match l, hsz.trans cellsOf25 with
  | [a, b, x, y], _ =>
    obtain ⟨f, hf⟩ := h
    obtain ⟨xs, n, _, _, _, hlen, hg⟩ := DataW.trod_struct Tryd.underlying25 hf
    match xs, hlen with
    | [y0, y1, y2], _ =>
      have h0 := hg 0 _ rfl
      have h1 := hg 1 _ rfl
      have h2 := hg 2 _ rfl
      have h0 : DataW.trod enc Tryd.prog W base sp hd n 23 [a, b] = some y0 := by have h := h0; change DataW.trod enc Tryd.prog W base sp hd n 23 (List.take (Tryd.prog.cellsOf 23) [a, b, x, y]) = some y0 at h; rw [cellsOf23] at h; exact h
      have h1 : DataW.trod enc Tryd.prog W base sp hd n 4 [x] = some y1 := by have h := h1; change DataW.trod enc Tryd.prog W base sp hd n 4 (List.take (Tryd.prog.cellsOf 4) [x, y]) = some y1 at h; rw [cellsOf4] at h; exact h
      have h2 : DataW.trod enc Tryd.prog W base sp hd n 4 [y] = some y2 := by have h := h2; change DataW.trod enc Tryd.prog W base sp hd n 4 (List.take (Tryd.prog.cellsOf 4) [y]) = some y2 at h; rw [cellsOf4] at h; exact h
      obtain ⟨c, r, rfl, rfl⟩ := trodCell h0
      obtain ⟨fc, hc, _⟩ := DataW.trod_bool Tryd.underlying4 h1
      obtain ⟨fr, hr, _⟩ := DataW.trod_bool Tryd.underlying4 h2
      cases hc; cases hr
      exact ⟨c, r, fc, fr, rfl⟩
theorem openBox {v : Value} {d : DataW H} {p : List MemPlace} {b0 : Nat} (hv : Value.okWide Tryd.prog W .any b0 27 v) (h : DataW.Trod enc Tryd.prog W base sp hd 27 v d p) :
    ∃ x0 y0 x1 y1 : Int, v = .agg #[.int .i64 x0, .int .i64 y0, .int .i64 x1, .int .i64 y1] := by
  obtain ⟨cs, rfl, hsz⟩ := okWide_struct Tryd.underlying27 hv
  obtain ⟨l⟩ := cs
  match l, hsz.trans cellsOf27 with
  | [a, b, x, y], _ =>
    obtain ⟨f, hf⟩ := h
    obtain ⟨xs, n, _, _, _, hlen, hg⟩ := DataW.trod_struct Tryd.underlying27 hf
    match xs, hlen with
    | [y0, y1], _ =>
      have h0 := hg 0 _ rfl
      have h1 := hg 1 _ rfl
      have h0 : DataW.trod enc Tryd.prog W base sp hd n 23 [a, b] = some y0 := by have h := h0; change DataW.trod enc Tryd.prog W base sp hd n 23 (List.take (Tryd.prog.cellsOf 23) [a, b, x, y]) = some y0 at h; rw [cellsOf23] at h; exact h
      have h1 : DataW.trod enc Tryd.prog W base sp hd n 23 [x, y] = some y1 := by have h := h1; change DataW.trod enc Tryd.prog W base sp hd n 23 (List.take (Tryd.prog.cellsOf 23) [x, y]) = some y1 at h; rw [cellsOf23] at h; exact h
      obtain ⟨c, r, rfl, rfl⟩ := trodCell h0
      obtain ⟨c', r', rfl, rfl⟩ := trodCell h1
      exact ⟨c, r, c', r', rfl⟩
end
theorem den_i (M : Nat → Prop) (w : World) (c : Int) : DenD M w (iD c) (.int .i64 c) := .v _
theorem den_t (M : Nat → Prop) (w : World) (b : Bool) : DenD M w (tD b) (.bool b) := by
  have := DenD.b (M := M) (w := w) (b = true) inferInstance
  rwa [show decide (b = true) = b by cases b <;> rfl] at this
theorem den_cell (M : Nat → Prop) (w : World) (c r : Int) : DenD M w (cellD c r) (.agg #[.int .i64 c, .int .i64 r]) :=
  DenD.agg_mk (xs := [.int .i64 c, .int .i64 r]) ⟨den_i _ _ _, den_i _ _ _, trivial⟩
theorem den_ref (M : Nat → Prop) (w : World) (c r : Int) (fc fr : Bool) : DenD M w (refD c r fc fr) (.agg #[.int .i64 c, .int .i64 r, .bool fc, .bool fr]) :=
  DenD.agg_mk (xs := [.int .i64 c, .int .i64 r, .bool fc, .bool fr]) ⟨den_i _ _ _, den_i _ _ _, den_t _ _ _, den_t _ _ _, trivial⟩
theorem den_box (M : Nat → Prop) (w : World) (a b c d : Int) : DenD M w (boxD a b c d) (.agg #[.int .i64 a, .int .i64 b, .int .i64 c, .int .i64 d]) :=
  DenD.agg_mk (xs := [.int .i64 a, .int .i64 b, .int .i64 c, .int .i64 d]) ⟨den_i _ _ _, den_i _ _ _, den_i _ _ _, den_i _ _ _, trivial⟩
/-- What a function of data does, called by the frame. -/
theorem FnP.calls {P : Program} {gl : List (Nat × List D)} {g : Nat} {ds : List D} {r : Value} {xs : List Value} {w : World} (h : FnP P gl g ds (.v r)) (hb : HasBody P g) (hg : Glob gl (fun _ => False) w) (hd : DenL (fun _ => False) w ds xs) :
    Calls P g xs.toArray w fun e w' => e = .returned r ∧ Below w.heap.size w w' := by
  rcases h w (fun _ => False) xs (fun _ h => h.elim) hg hd with ⟨_, h1⟩ | ⟨v, w', h1, h2⟩
  · refine h1.mono fun e w' ⟨h2, x, h3, h4⟩ => ?_
    rw [DenD.v_inv h4] at h3
    exact ⟨h3, h2.below⟩
  · rw [hb.enters] at h1; cases h1

theorem trodAll_below {H : Type} {enc : TypeId × Value → H} {P : Program} (hl : laidOutB P = true) {W W' : World} {sp : Nat → Bool} (hb : Below W.heap.size W W') : ∀ {ts : List TypeId} {vs : List Value} {ds : List (DataW H)} {ps : List MemPlace},
    (∀ t ∈ ts, P.readableRec t = true ∧ t < P.types.size) → DataW.TrodAll enc P W 0 (fun _ => true) true ts vs ds ps → (∀ x ∈ ps, x.block < W.heap.size) → (∀ x ∈ ps, sp x.block = true) → DataW.TrodAll enc P W' 0 sp true ts vs ds ps
  | [], _, _, _, _, h, _, _ => by
    obtain ⟨rfl, rfl, rfl⟩ := trodAll_nil h
    exact trodAll_mk0
  | t :: ts, _, _, _, hr, h, hlt, hs => by
    obtain ⟨v, vs, d, ds, p, q, rfl, rfl, rfl, h1, h2⟩ := trodAll_cons h
    exact trodAll_cons_mk (WideElems.Trod_stays hl (hr t (List.mem_cons_self ..)).1 (hr t (List.mem_cons_self ..)).2 h1 (fun x hx => hb.same (hlt x (List.mem_append_left _ hx))) (fun x hx => hs x (List.mem_append_left _ hx)))
      (trodAll_below hl hb (fun t ht => hr t (List.mem_cons_of_mem _ ht)) h2 (fun x hx => hlt x (List.mem_append_right _ hx)) (fun x hx => hs x (List.mem_append_right _ hx)))
theorem glob_err {w : World} (h : w.cell? ⟨1, 0, none⟩ = some (.iface 141 (.agg #[.pointer (some ⟨10, 33, none⟩)]))) : Glob [(1, errT)] (fun _ => False) w := by
  intro g l hl
  rw [look_cons] at hl
  split at hl
  · rename_i e
    subst e
    cases hl
    refine ⟨fun h => h, [.iface 141 (.agg #[.pointer (some ⟨10, 33, none⟩)])], fun j v hv => ?_, World.block_lt_of_cell? w _ h, ⟨.v _, trivial⟩⟩
    cases j with
    | zero => cases hv; exact h
    | succ j => cases hv
  · cases hl
theorem open5 {H : Type} {enc : TypeId × Value → H} {W : World} {base b0 : Nat} {sp : Nat → Bool} {hd : Bool} {args : Array Value} {ds : List (DataW H)} {p : List MemPlace}
    (hA : DataW.TrodAll enc Tryd.prog W base sp hd [25, 3, 3, 23, 27] args.toList ds p)
    (hval : ∀ (j : Nat) t v, (#[25, 3, 3, 23, 27] : Array TypeId)[j]? = some t → args[j]? = some v → Value.okWide Tryd.prog W .any b0 t v) :
    ∃ (c r : Int) (fc fr : Bool) (dc dr c' r' x0 y0 x1 y1 : Int) (d1 d2 d3 d4 d5 : DataW H), args = #[.agg #[.int .i64 c, .int .i64 r, .bool fc, .bool fr], .int .i64 dc, .int .i64 dr, .agg #[.int .i64 c', .int .i64 r'], .agg #[.int .i64 x0, .int .i64 y0, .int .i64 x1, .int .i64 y1]] ∧ ds = [d1, d2, d3, d4, d5] := by
  obtain ⟨l⟩ := args
  obtain ⟨v0, vs0, d0, ds0, p0, q0, e, rfl, -, h0, hA⟩ := trodAll_cons hA
  obtain ⟨v1, vs1, d1, ds1, p1, q1, rfl, rfl, -, h1, hA⟩ := trodAll_cons hA
  obtain ⟨v2, vs2, d2, ds2, p2, q2, rfl, rfl, -, h2, hA⟩ := trodAll_cons hA
  obtain ⟨v3, vs3, d3, ds3, p3, q3, rfl, rfl, -, h3, hA⟩ := trodAll_cons hA
  obtain ⟨v4, vs4, d4, ds4, p4, q4, rfl, rfl, -, h4, hA⟩ := trodAll_cons hA
  obtain ⟨rfl, rfl, -⟩ := trodAll_nil hA
  cases e
  obtain ⟨c, r, fc, fr, rfl⟩ := openRef (hval 0 25 v0 rfl rfl) h0
  obtain ⟨dc, rfl, -, -, -⟩ := open_int Tryd.underlying3 (hval 1 3 v1 rfl rfl) h1
  obtain ⟨dr, rfl, -, -, -⟩ := open_int Tryd.underlying3 (hval 2 3 v2 rfl rfl) h2
  obtain ⟨c', r', rfl⟩ := openCell (hval 3 23 v3 rfl rfl) h3
  obtain ⟨x0, y0, x1, y1, rfl⟩ := openBox (hval 4 27 v4 rfl rfl) h4
  exact ⟨c, r, fc, fr, dc, dr, c', r', x0, y0, x1, y1, _, _, _, _, _, rfl, rfl⟩
theorem read5 : ∀ t ∈ ([25, 3, 3, 23, 27] : List TypeId), Tryd.prog.readableRec t = true ∧ t < Tryd.prog.types.size := by
  rw [Door.size]
  have h : ([25, 3, 3, 23, 27] : List TypeId).all (fun t => Tryd.prog.readableRec t && decide (t < 231)) = true := by kernel_rfl
  intro t ht
  simpa using List.all_eq_true.1 h t ht
theorem addrShifts_lifted (os : Os) (started : os.Started) (H : Type) (enc : TypeId × Value → H) :
    ReturnsInHanded {} Tryd.checked os 3 .any (fun w args => (Rows.addrShiftsSpec.pre enc Tryd.prog Tryd.f3 [] false w args ∧ laidMetH Tryd.prog Rows.addrShiftsRow.laid w) ∧ sizedMet enc Tryd.prog Tryd.f3 (OpenSpec.ofChange Rows.addrShiftsSpec) false w args)
      (Rows.addrShiftsSpec.post enc Tryd.prog Tryd.f3 false true false false) := by
  refine returnsInHanded_of_change_and (C := Tryd.checked) (X := fun w _ => laidMetH Tryd.prog Rows.addrShiftsRow.laid w) (fun _ _ _ hh h => h.of_heap hh) Door.own started (by kernel_rfl) Tryd.func3
    (ChangeSpec.witness_at (enc := enc) (C := Tryd.checked) (os := os) (X := fun w _ => laidMetH Tryd.prog Rows.addrShiftsRow.laid w) false
      ({ (World.holding Tryd.prog os ⟨#[], #[], []⟩) with heap := (World.holding Tryd.prog os ⟨#[], #[], []⟩).heap.modify 1 fun | .cells _ t frozen => .cells #[.iface 141 (.agg #[.pointer (some ⟨10, 33, none⟩)])] t frozen | o => o } : World)
      #[.agg #[.int .i64 0, .int .i64 0, .bool false, .bool false], .int .i64 0, .int .i64 0, .agg #[.int .i64 0, .int .i64 0], .agg #[.int .i64 0, .int .i64 0, .int .i64 0, .int .i64 0]] 8 rfl (by kernel_rfl) (by kernel_rfl) (by kernel_rfl) (by kernel_rfl) (by kernel_rfl) (laidMetH_of_parts (laidMet_nil _ _) (by kernel_rfl))) ?_
  intro W base args ds gs before hval0 hW _ _ hL _
  have hval : ∀ (j : Nat) t v, Tryd.f3.params[j]? = some t → args[j]? = some v → Value.okWide Tryd.prog W .any base t v := hval0
  have hW' := hW
  obtain ⟨p, q, hA0, hV, rfl, hfz, hnd⟩ := hW
  have hA : DataW.TrodAll enc Tryd.prog W 0 (fun _ => true) true Tryd.f3.params.toList args.toList ds p := hA0
  rw [Tryd.params3] at hA hval
  obtain ⟨rfl, rfl⟩ := trodVars_none hV
  obtain ⟨c, r, fc, fr, dc, dr, c', r', x0, y0, x1, y1, d1, d2, d3, d4, d5, rfl, rfl⟩ := open5 hA hval
  simp only [List.append_nil] at hW'
  have hh := Door.handle hL
  refine (FnP.calls (AddrShifts_d (gl := [(1, errT)]) c r dc dr c' r' x0 y0 x1 y1 fc fr rfl) (by unfold HasBody; kernel_rfl) (glob_err hh)
    (xs := [_, _, _, _, _]) ⟨den_ref _ _ _ _ _ _, den_i _ _ _, den_i _ _ _, den_cell _ _ _ _, den_box _ _ _ _ _ _, trivial⟩).mono fun e W' ⟨he, hb⟩ => ?_
  subst he
  have hlt : ∀ x ∈ p, x.block < W.heap.size := fun x hx => by simpa using hW'.lt x (by simpa using hx)
  exact ⟨_, rfl, _, _, _, [], p, [], hW', trodAll_mk1 (shut_bool Tryd.underlying4 _), trodAll_below Door.out (ts := [25, 3, 3, 23, 27]) hb read5 hA hlt (fun x hx => by simpa using hlt x hx), rfl, hb.frame _, fun h => by cases h⟩

theorem addrShifts_over : Rows.AddrShiftsSaid :=
  OpenClaim.holds_of_wide 3 Tryd.f3 rfl rfl rfl rfl rfl rfl rfl ⟨rfl, rfl, rfl, rfl, rfl⟩ rfl rfl rfl rfl rfl (by kernel_rfl) Tryd.func3 (by kernel_rfl)
    (of_decide_eq_true (by kernel_rfl)) (by unfold Func.isWrapper; rw [if_neg (of_decide_eq_false (by kernel_rfl))]; exact ⟨rfl, rfl⟩)
    (fun os started H enc _ => addrShifts_lifted os started H enc)
theorem wants5 : ∀ t ∈ ([25, 3, 3, 23, 27] : List TypeId), Tryd.prog.wantsStandIn t = false := by
  have h : ([25, 3, 3, 23, 27] : List TypeId).all (fun t => !Tryd.prog.wantsStandIn t) = true := by kernel_rfl
  intro t ht
  simpa using List.all_eq_true.1 h t ht
/-- THE STATEMENT. -/
theorem addrShifts_proved : Rows.AddrShiftsCardSaid :=
  Claim7.holds_tied_plain_at .later [] [.handle] true (true, "7a88ab25f2fa7402bb82a49148fe9b8f01b3eb5b35edd0ccef8d4d4a276b19e1") true
    addrShifts_over (fun _ h => by cases h) (by kernel_rfl) (fun _ h => by cases h) addrShifts_row_tie rfl ⟨rfl, rfl⟩ (by kernel_rfl) rfl
    (fun f fn hf hfn => by
      obtain rfl : f = 3 := Option.some.inj ((show Tryd.prog.funcNamed "sccsettle/scclaw1.AddrShifts" = some 3 by kernel_rfl).symm.trans hf) |>.symm
      obtain rfl : fn = Tryd.f3 := (Option.some.inj (Tryd.func3.symm.trans hfn)).symm
      exact ⟨by kernel_rfl, fun j t ht => by
        rw [Tryd.params3] at ht
        exact wants5 t (List.mem_of_getElem? (l := [25, 3, 3, 23, 27]) (by simpa using ht))⟩)
    (by kernel_rfl)
#print axioms addrShifts_proved
end Go.Proofs.YtbkhfmgdnnaaoaaDoor
