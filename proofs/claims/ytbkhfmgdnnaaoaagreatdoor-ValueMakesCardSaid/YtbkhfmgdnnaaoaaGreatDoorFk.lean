/- Proved: small lemmas for the frames of a seat. No condition. -/
import Derived.Test.YtbkhfmgdnnaaoaaGreatDoorRows
import Derived.Test.YtbkhfmgdnnaaoaaGreatDoorTie
import Derived.Test.YtbkhfmgdnnaaoaaGreatDoorCards
import Derived.Test.YtbkhfmgdnnaaoaaGreatDoorEq
import Derived.Test.YtbkhfmgdnnaaoaaGreatDoorPa
import Derived.ProofKit
import Derived.LaidLaws
import Derived.LaidHandle
import Derived.Lib.SmallJoins
import Derived.Deep.Fields
import Derived.Carry
import Derived.Lay
namespace Go.Proofs.YtbkhfmgdnnaaoaaGreatDoor
open Go Go.ChangeShapes Go.WideShapes Go.ChangeAt Go.RowKit Go.EYtbkhfmgdnnaaoaaGreatDoor
set_option linter.unusedVariables false
set_option maxRecDepth 100000
theorem Door.own : ownKnob Tryz.prog.godebug = none := by kernel_rfl
theorem Door.out : laidOutB Tryz.prog = true := by kernel_rfl
theorem Door.size : Tryz.prog.types.size = 242 := by kernel_rfl
theorem cellsOf3 : Tryz.prog.cellsOf 3 = 1 := by kernel_rfl
theorem den_i (M : Nat → Prop) (w : World) (c : Int) : DenD M w (iD c) (.int .i64 c) := .v _
/-- What a function of data does, called by the frame. -/
theorem FnP.calls {P : Program} {gl : List (Nat × List D)} {g : Nat} {ds : List D} {r : Value} {xs : List Value} {w : World} (h : FnP P gl g ds (.v r)) (hb : HasBody P g) (hg : Glob gl (fun _ => False) w) (hd : DenL (fun _ => False) w ds xs) :
    Calls P g xs.toArray w fun e w' => e = .returned r ∧ Below w.heap.size w w' := by
  rcases h w (fun _ => False) xs (fun _ h => h.elim) hg hd with ⟨_, h1⟩ | ⟨v, w', h1, h2⟩
  · refine h1.mono fun e w' ⟨h2, x, h3, h4⟩ => ?_
    rw [DenD.v_inv h4] at h3
    exact ⟨h3, h2.below⟩
  · rw [hb.enters] at h1; cases h1

theorem trodAll_below {H : Type} {enc : TypeId × Value → H} {P : Program} (hl : laidOutB P = true) {W W' : World} {sp : Nat → Bool} (hb : Below W.heap.size W W') : ∀ {ts : List TypeId} {vs : List Value} {ds : List (DataW H)} {ps : List MemPlace},
    (∀ t ∈ ts, P.readableRec t = true ∧ t < P.types.size) → DataW.TrodAll enc P W 0 (fun _ => true) true ts vs ds ps → (∀ x ∈ ps, x.block < W.heap.size) → (∀ x ∈ ps, sp x.block = true) → DataW.TrodAll enc P W' 0 sp true ts vs ds ps
  | [], _, _, _, _, h, _, _ => by
    obtain ⟨rfl, rfl, rfl⟩ := trodAll_nil h
    exact trodAll_mk0
  | t :: ts, _, _, _, hr, h, hlt, hs => by
    obtain ⟨v, vs, d, ds, p, q, rfl, rfl, rfl, h1, h2⟩ := trodAll_cons h
    exact trodAll_cons_mk (WideElems.Trod_stays hl (hr t (List.mem_cons_self ..)).1 (hr t (List.mem_cons_self ..)).2 h1 (fun x hx => hb.same (hlt x (List.mem_append_left _ hx))) (fun x hx => hs x (List.mem_append_left _ hx)))
      (trodAll_below hl hb (fun t ht => hr t (List.mem_cons_of_mem _ ht)) h2 (fun x hx => hlt x (List.mem_append_right _ hx)) (fun x hx => hs x (List.mem_append_right _ hx)))
end Go.Proofs.YtbkhfmgdnnaaoaaGreatDoor
