/- Proved: small lemmas for the walks of this family. No condition. -/
import Derived.Test.YtbkhfmgdnnaaoaaGreatDoorProg
import Derived.WalkKit
import Derived.Handy
import Derived.Outline
import Derived.Lib.Hide
import Derived.Deep.QuietTactic
import Derived.BigQuiet
import Derived.Deep.RegionHeld3
import Derived.Deep.AppendLies
import Derived.Deep.Onto
namespace Go.Proofs.YtbkhfmgdnnaaoaaGreatDoor
open Go.RowKit

/-! ### Small tools: worlds that only grow, endings. -/
theorem Ext.alloc {a w : World} (h : Below a.heap.size a w) (o : Obj) : Below a.heap.size a (w.alloc o) := h.alloc h.size o
theorem Ext.trans {a b c : World} (h : Below a.heap.size a b) (k : Below b.heap.size b c) : Below a.heap.size a c := h.trans (k.mono h.size)

theorem ret_bool {a b : Bool} (h : a = b) : Ending.returned (.bool a) = .returned (.bool b) := by rw [h]
theorem ret_int {k : IntKind} {a b : Int} (h : a = b) : Ending.returned (.int k a) = .returned (.int k b) := by rw [h]
theorem ret_4int {k : IntKind} {a b c d a' b' c' d' : Int} (h1 : a = a') (h2 : b = b') (h3 : c = c') (h4 : d = d') : Ending.returned (.agg #[.int k a, .int k b, .int k c, .int k d]) = .returned (.agg #[.int k a', .int k b', .int k c', .int k d']) := by rw [h1, h2, h3, h4]
theorem keep_cell {w1 w2 : World} {p : Addr} {v : Value} (h : w1.cell? p = some v) (hb : Below w1.heap.size w1 w2) : w2.cell? p = some v := (hb.cell (World.block_lt_of_cell? w1 _ h)).trans h

theorem ext_cell {w w' : World} (hb : Below w.heap.size w w') : ∀ b o, b < w.heap.size → w'.cell? ⟨b, o, none⟩ = w.cell? ⟨b, o, none⟩ := fun b o h => hb.cell (p := ⟨b, o, none⟩) h
theorem ext_frozen {w w' : World} (hb : Below w.heap.size w w') : ∀ b o, b < w.heap.size → w'.frozen? ⟨b, o, none⟩ = w.frozen? ⟨b, o, none⟩ := fun b o h => hb.frozen (p := ⟨b, o, none⟩) h
theorem Ext.setNew {a w : World} (h : Below a.heap.size a w) {p : Addr} (hp : a.heap.size ≤ p.block) (v : Value) : Below a.heap.size a (w.setCell p v) := h.setCell hp v
theorem ext1 (w : World) (o : Obj) : Below w.heap.size w (w.alloc o) := (Below.refl _ _).alloc (Nat.le_refl _) _
theorem ext_drewN {B : Nat} {a w : World} (h : Below B a w) (n : Nat) : Below B a (w.drewN n) := h.trans ⟨rfl, rfl, rfl, Nat.le_refl _, fun _ _ => rfl⟩
theorem Ext.trans2 {a b c : World} {n : Nat} (h : Below a.heap.size a b) (k : Below n b c) (hn : a.heap.size ≤ n) : Below a.heap.size a c := h.trans (k.mono hn)
@[go_sem] theorem cell?_setCell_isSome (w : World) (p : Addr) (v : Value) (h : (w.cell? p).isSome = true) : (w.setCell p v).cell? p = some v := by
  obtain ⟨u, hu⟩ := Option.isSome_iff_exists.1 h
  exact World.cell?_setCell_same w p v hu
theorem grown_of_ext {w w' : World} (hb : Below w.heap.size w w') : w.grownBy w' none := ⟨hb.os, hb.tape, hb.output, hb.size, fun k hk _ => hb.block k hk⟩
theorem own_keep {w w' : World} {base : Nat} {e : TypeId} {size : Nat} {v : Value} {n : Nat} {xs : List Value} (h : w.ownsRow base e size v n xs) (hb : Below w.heap.size w w') : w'.ownsRow base e size v n xs := by
  refine h.kept (grown_of_ext hb) ?_
  cases v.ownBlock <;> simp
end Go.Proofs.YtbkhfmgdnnaaoaaGreatDoor
