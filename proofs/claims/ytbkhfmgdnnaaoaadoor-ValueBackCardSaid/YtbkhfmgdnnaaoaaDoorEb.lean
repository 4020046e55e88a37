/- Proved: the second part of the reckoner: what is known of types; states. No condition. -/
import Derived.Test.YtbkhfmgdnnaaoaaDoorEa
namespace Go.EYtbkhfmgdnnaaoaaDoor
open Go Go.RowKit

/-! ### Types -/
/-- What is known of a type. -/
structure TI where
  agg : Bool
  size : Nat
  bytes : Nat
  zero : List D
  flds : List (Nat × Nat)
  iface : Bool
  ik : Option IntKind
  el : Option Nat
  kd : Nat
  fts : List Nat
  eqok : Bool
  sub : List Nat
def undD : D → Value
  | .v x => x
  | .str l => .string ⟨l.toArray⟩
  | _ => undef
def scaD : D → Bool
  | .v _ => true
  | .str _ => true
  | _ => false
theorem undD_den {M : Nat → Prop} {w : World} {d : D} (h : scaD d = true) : DenD M w d (undD d) := by
  cases d <;> first | exact .v _ | exact .str _ | cases h
def ifaceOf : TypeDesc → Bool
  | .interface _ => true
  | _ => false
def ikOf : TypeDesc → Option IntKind
  | .int k => some k
  | _ => none
def elOf : TypeDesc → Option Nat
  | .slice e => some e
  | .array _ e => some e
  | _ => none
/-- 1 a truth, 2 a text, 3 a slice, 4 an array, 5 a number, 6 a struct, 7 an interface, 8 a pointer, 9 a map. -/
def kdOf : TypeDesc → Nat
  | .bool => 1
  | .string => 2
  | .slice _ => 3
  | .array _ _ => 4
  | .int _ => 5
  | .struct _ => 6
  | .interface _ => 7
  | .pointer _ => 8
  | .map _ _ => 9
  | _ => 0
/-- An array's length; a map's types; what a pointer points at. -/
def subOf : TypeDesc → List Nat
  | .array n _ => [n]
  | .map k e => [k, e]
  | .pointer e => [e]
  | _ => []
def aggOf : TypeDesc → Bool
  | .struct _ | .array _ _ => true
  | _ => false
def fldsOf (P : Program) : TypeDesc → Option (List (Nat × Nat))
  | .struct fs => fs.toList.mapM fun f => (P.info? f.type).map fun i => (f.offset, i.size)
  | _ => some []
def ftsOf : TypeDesc → Option (List Nat)
  | .struct fs => if fs.toList.any (fun f => f.name == "_") then none else some (fs.toList.map (·.type))
  | _ => none
structure FitsOne (P : Program) (t : Nat) (ti : TI) : Prop where
  info : (P.info? t).map (fun i => (i.size, i.bytes, i.zero.map (fun z => z.cells.toList))) = some (ti.size, ti.bytes, some (ti.zero.map undD))
  sca : ti.zero.all scaD = true
  zlen : ti.zero.length = ti.size
  und : (P.underlying t).map (fun d => (aggOf d, fldsOf P d, ifaceOf d, ikOf d, elOf d, kdOf d)) = some (ti.agg, some ti.flds, ti.iface, ti.ik, ti.el, ti.kd)
  eqk : ti.eqok = true → (P.underlying t).bind ftsOf = some ti.fts ∧ ti.fts.length = ti.flds.length ∧ P.stoodInHeld t = false ∧ P.eqGuardType P.depth t = false ∧ ti.agg = true
  sub : (P.underlying t).map subOf = some ti.sub
def Fits (P : Program) (tt : List (Nat × TI)) : Prop := ∀ t ti, look tt t = some ti → FitsOne P t ti
theorem fits_nil {P : Program} : Fits P [] := fun u ui hu => by cases hu
theorem fits_cons {P : Program} {t : Nat} {ti : TI} {r : List (Nat × TI)} (h : FitsOne P t ti) (hr : Fits P r) : Fits P ((t, ti) :: r) := fun u ui hu => by
  rw [look_cons] at hu
  by_cases e : t = u
  · subst e; simp only [if_true, Option.some.injEq] at hu; subst hu; exact h
  · rw [if_neg e] at hu; exact hr u ui hu
section
variable {P : Program} {t : Nat} {ti : TI}
theorem FitsOne.infoE (h : FitsOne P t ti) : ∃ i z, P.info? t = some i ∧ i.size = ti.size ∧ i.bytes = ti.bytes ∧ i.zero = some z ∧ z.cells.toList = ti.zero.map undD := by
  have hi := h.info
  cases hq : P.info? t with
  | none => simp [hq] at hi
  | some i =>
    simp only [hq, Option.map_some, Option.some.injEq, Prod.mk.injEq] at hi
    cases hz : i.zero with
    | none => simp [hz] at hi
    | some z => simp only [hz, Option.map_some, Option.some.injEq] at hi; exact ⟨i, z, rfl, hi.1, hi.2.1, hz, hi.2.2⟩
theorem FitsOne.size (h : FitsOne P t ti) (w : World) : (sizeOf t).run P w = .ok ti.size w := by
  obtain ⟨i, z, hq, h1, _⟩ := h.infoE
  simp [sizeOf, typeInfo, hq, h1]
theorem FitsOne.zeroDen (h : FitsOne P t ti) (M : Nat → Prop) (w : World) : DenL M w ti.zero (ti.zero.map undD) := by
  have := h.sca
  generalize ti.zero = l at this
  induction l with
  | nil => trivial
  | cons d l ih =>
    simp only [List.all_cons, Bool.and_eq_true] at this
    exact ⟨undD_den this.1, ih this.2⟩
theorem FitsOne.agg (h : FitsOne P t ti) (w : World) : (isAgg t).run P w = .ok ti.agg w := by
  have hi := h.und
  cases hq : P.underlying t with
  | none => simp [hq] at hi
  | some d =>
    simp only [hq, Option.map_some, Option.some.injEq, Prod.mk.injEq] at hi
    have : (isAgg t).run P w = .ok (aggOf d) w := by
      unfold isAgg
      simp only [Sem.run_bind, run_underlying hq, Result.andThen_ok]
      cases d <;> rfl
    rw [this, hi.1]
theorem addr_add (b o j : Nat) : (⟨b, o, none⟩ : Addr).add j = ⟨b, o + j, none⟩ := by unfold Addr.add; split <;> simp_all
/-- What a load of a variable of the type gives. -/
theorem FitsOne.load (h : FitsOne P t ti) {w : World} {b o : Nat} {cs : List Value} (hl : cs.length = ti.size) (hc : ∀ j v, cs[j]? = some v → w.cell? ⟨b, o + j, none⟩ = some v) (h1 : ti.agg = false → ti.size = 1) :
    (loadVar t ⟨b, o, none⟩).run P w = .ok (if ti.agg then .agg cs.toArray else cs.headD undef) w := by
  unfold loadVar
  simp only [Sem.run_bind, h.agg, Result.andThen_ok]
  cases hg : ti.agg with
  | true =>
    simp only [if_true, Sem.run_bind, h.size, Result.andThen_ok]
    rw [← hl, run_loadCells_list w ⟨b, o, none⟩ cs (fun j v hv => by rw [addr_add]; exact hc j v hv)]
    rfl
  | false =>
    simp only [Bool.false_eq_true, if_false]
    have hs := h1 hg
    match cs, hl with
    | [c], _ =>
      have := hc 0 c rfl
      simp only [Nat.add_zero] at this
      rw [run_load]
      simp [this]
    | [], hl => simp at hl; omega
    | _ :: _ :: _, hl => simp at hl; omega
theorem FitsOne.desc (h : FitsOne P t ti) : ∃ d, P.underlying t = some d ∧ aggOf d = ti.agg ∧ fldsOf P d = some ti.flds ∧ ifaceOf d = ti.iface ∧ ikOf d = ti.ik ∧ elOf d = ti.el ∧ kdOf d = ti.kd := by
  have hi := h.und
  cases hq : P.underlying t with
  | none => simp [hq] at hi
  | some d => simp only [hq, Option.map_some, Option.some.injEq, Prod.mk.injEq] at hi; exact ⟨d, rfl, hi⟩
theorem mapM_get {α β : Type} {f : α → Option β} : ∀ {l : List α} {r : List β}, l.mapM f = some r → ∀ (j : Nat) (y : β), r[j]? = some y → ∃ x, l[j]? = some x ∧ f x = some y
  | [], r, h, j, y, hy => by simp at h; subst h; simp at hy
  | a :: l, r, h, j, y, hy => by
    simp only [List.mapM_cons, Option.bind_eq_bind, Option.bind_eq_some_iff, Option.pure_def, Option.some.injEq] at h
    obtain ⟨b, hb, r', hr, rfl⟩ := h
    cases j with
    | zero => simp at hy; subst hy; exact ⟨a, rfl, hb⟩
    | succ j => simpa using mapM_get hr j y (by simpa using hy)
theorem FitsOne.field (h : FitsOne P t ti) {f off sz : Nat} (hf : ti.flds[f]? = some (off, sz + 1)) (b o : Nat) (w : World) :
    (Instr.fieldAt t (.pointer (some ⟨b, o, none⟩)) f).run P w = .ok (.pointer (some ⟨b, o + off, none⟩)) w := by
  obtain ⟨d, hd, _, hfl, _⟩ := h.desc
  cases d with
  | struct fs =>
    simp only [fldsOf] at hfl
    obtain ⟨F, hF, hFi⟩ := mapM_get hfl f _ hf
    have hF' : fs[f]? = some F := by rw [← hF]; simp
    cases hq : P.info? F.type with
    | none => simp [hq] at hFi
    | some i =>
      simp only [hq, Option.map_some, Option.some.injEq, Prod.mk.injEq] at hFi
      have hsz : (sizeOf F.type).run P w = .ok (sz + 1) w := by simp [sizeOf, typeInfo, hq, hFi.2]
      have hadd : (⟨b, o, none⟩ : Addr).add off = ⟨b, o + off, none⟩ := addr_add b o off
      unfold Instr.fieldAt
      simp only [Sem.run_bind, run_underlying hd, Result.andThen_ok, hF', Instr.sureAddr, Sem.run_pure, fieldPlace, hsz, Nat.add_one_ne_zero, if_false, hFi.1, hadd]
  | _ =>
    simp only [fldsOf, Option.some.injEq] at hfl
    rw [← hfl] at hf
    simp at hf
theorem FitsOne.store (h : FitsOne P t ti) {w : World} {b o : Nat} {tb : TypeId} {cur : List Value} {v : Value} {vs : List Value} (hb : w.heap[b]? = some (.cells cur.toArray tb (0, 0))) (hv : v.cells.toList = vs) (hl : vs.length = ti.size)
    (hle : o + vs.length ≤ cur.length) (h1 : ∀ u ∈ vs, u.oneCell' = true) :
    (Instr.storeAt t (.pointer (some ⟨b, o, none⟩)) v).run P w = .ok () (w.setRow b (cur.take o ++ vs ++ cur.drop (o + vs.length)).toArray) := by
  have hsz : v.cells.size = ti.size := by rw [← hl, ← hv]; simp
  have := run_storeCells_at (P := P) b o tb vs 0 cur.toArray w hb (by simpa using hle) h1
  simp only [Nat.add_zero, List.toList_toArray] at this
  unfold Instr.storeAt storeVar
  simp only [Instr.sureAddr, Sem.run_bind, Sem.run_pure, Result.andThen_ok, h.size, hsz, ne_eq, not_true_eq_false, if_false, hv, this]
end

/-! ### States -/
/-- The blocks that may be written. -/
def Mut (M0 : Nat → Prop) (adr : Env) (L : List (Nat × Blk)) (b : Nat) : Prop := M0 b ∨ ∃ k B n, look L k = some B ∧ adr k = some (some b, n)
def LocB (adr : Env) (M : Nat → Prop) (w : World) : Option (Option Nat × Nat) → Blk → Prop
  | some (some b, _), .var l t => ∃ xs : List Value, w.heap[b]? = some (Obj.cells xs.toArray t (0, 0)) ∧ DenCs adr M w l xs
  | some (some b, n), .rows z l e => 0 < z ∧ l.length = n ∧ (∀ r ∈ l, r.length = z) ∧ ∃ (cur : Array Value) (c : Nat), w.heap[b]? = some (Obj.cells cur e (0, 0)) ∧ cur.size = c * z ∧ l.length ≤ c ∧ c ≤ maxLen ∧ DenL M w l.flatten (cur.toList.take (l.length * z))
  | some (none, n), .rows z l _ => 0 < z ∧ l = [] ∧ n = 0
  | _, _ => False
structure WOk (M0 : Nat → Prop) (adr : Env) (L : List (Nat × Blk)) (n : Nat) (w : World) : Prop where
  keys : ∀ k B, look L k = some B → k < n
  fresh : ∀ k, n ≤ k → adr k = none
  loc : ∀ k B, look L k = some B → LocB adr (Mut M0 adr L) w (adr k) B
  inj : ∀ k k' B B' b m m', look L k = some B → look L k' = some B' → adr k = some (some b, m) → adr k' = some (some b, m') → k = k'
  prot : ∀ k B b m, look L k = some B → adr k = some (some b, m) → ¬ M0 b
  bound : ∀ b, M0 b → b < w.heap.size
theorem LocB.lt {adr : Env} {M : Nat → Prop} {w : World} {b m : Nat} {B : Blk} (h : LocB adr M w (some (some b, m)) B) : b < w.heap.size := by
  cases B with
  | var l t => obtain ⟨xs, h1, _⟩ := h; exact (Array.getElem?_eq_some_iff.1 h1).1
  | rows z l e => obtain ⟨_, _, _, cur, c, h1, _⟩ := h; exact (Array.getElem?_eq_some_iff.1 h1).1
section
variable {M0 : Nat → Prop} {adr : Env} {L : List (Nat × Blk)} {n : Nat} {w : World}
theorem WOk.lt (h : WOk M0 adr L n w) {k b m : Nat} {B : Blk} (hk : look L k = some B) (ha : adr k = some (some b, m)) : b < w.heap.size := by
  have := h.loc k B hk
  rw [ha] at this
  exact this.lt
theorem WOk.mutLt (h : WOk M0 adr L n w) {b : Nat} (hb : Mut M0 adr L b) : b < w.heap.size := by
  rcases hb with hb | ⟨k, B, m, hk, ha⟩
  · exact h.bound b hb
  · exact h.lt hk ha
end
def FrOk (adr : Env) (M : Nat → Prop) (w : World) (fr : List (Nat × V)) (a : Act) : Prop := ∀ t s, look fr t = some s → DenV adr M w s (a.tmps.getD t undef)
/-- The globals that hold what is said. -/
def Glob (gl : List (Nat × List D)) (M : Nat → Prop) (w : World) : Prop :=
  ∀ g l, look gl g = some l → ¬ M g ∧ ∃ xs : List Value, (∃ t f, w.heap[g]? = some (Obj.cells xs.toArray t f)) ∧ g < w.heap.size ∧ DenL M w l xs
theorem globCell {w : World} {g : Nat} {xs : List Value} (h : ∃ t f, w.heap[g]? = some (Obj.cells xs.toArray t f)) (j : Nat) (v : Value) (hv : xs[j]? = some v) : w.cell? ⟨g, j, none⟩ = some v := by
  obtain ⟨t, f, h⟩ := h
  simp [World.cell?, h, hv]
theorem Glob.evo {gl : List (Nat × List D)} {M M' : Nat → Prop} {S : Nat → Prop} {w w' : World} (hg : Glob gl M w) (h : Evo S w w') (hS : ∀ b, b < w.heap.size → S b → M b) (hM : ∀ b, b < w.heap.size → M' b → M b) : Glob gl M' w' := by
  intro g l hl
  obtain ⟨h1, xs, ⟨t, f, h2⟩, h3, h4⟩ := hg g l hl
  exact ⟨fun hm => h1 (hM g h3 hm), xs, ⟨t, f, (h.block g h3 (fun hs => h1 (hS g h3 hs))).trans h2⟩, Nat.lt_of_lt_of_le h3 h.size, h4.evo h hS hM⟩
/-- Where a function began: the world, and the names that may not come to lie elsewhere. -/
structure Base where
  w : World
  adr : Env
  fx : List Nat
/-- All that holds while a function runs. -/
structure Ok (gl : List (Nat × List D)) (M0 S0 : Nat → Prop) (w0 : Base) (N : Nat) (adr : Env) (fr : List (Nat × V)) (L : List (Nat × Blk)) (n : Nat) (a : Act) (w : World) : Prop where
  size : a.tmps.size = N
  defers : a.defers = []
  fr : FrOk adr (Mut M0 adr L) w fr a
  wok : WOk M0 adr L n w
  glob : Glob gl (Mut M0 adr L) w
  base : Evo S0 w0.w w
  new : ∀ k B b m, look L k = some B → adr k = some (some b, m) → S0 b ∨ w0.w.heap.size ≤ b
  same : ∀ k ∈ w0.fx, k < n ∧ adr k = w0.adr k

/-! ### Endings of the world's steps -/
def putF (fr : List (Nat × V)) : Option Nat → V → List (Nat × V)
  | some d, s => (d, s) :: fr
  | none, _ => fr
def dstB (N : Nat) : Option Nat → Bool
  | some d => Nat.blt d N
  | none => true
theorem tmps_put {a : Act} {d N : Nat} (hN : a.tmps.size = N) (hd : Nat.blt d N = true) (v : Value) (t : Nat) : (a.put (some d) v).tmps.getD t undef = if d = t then v else a.tmps.getD t undef := by
  have hlt : d < a.tmps.size := by rw [hN]; have := hd; simp [Nat.blt, Nat.ble_eq] at this; omega
  simp only [Act.put, Array.getD_eq_getD_getElem?, Array.getElem?_setIfInBounds]
  by_cases h : d = t
  · subst h; simp [hlt]
  · simp [h]
theorem put_size (a : Act) (dst : Option Nat) (v : Value) : (a.put dst v).tmps.size = a.tmps.size := by cases dst <;> simp [Act.put]
theorem put_defers (a : Act) (dst : Option Nat) (v : Value) : (a.put dst v).defers = a.defers := by cases dst <;> rfl
theorem FrOk.put {adr : Env} {M : Nat → Prop} {w : World} {fr : List (Nat × V)} {a : Act} {N : Nat} (h : FrOk adr M w fr a) (hN : a.tmps.size = N) {dst : Option Nat} (hd : dstB N dst = true) {s : V} {v : Value} (hv : DenV adr M w s v) :
    FrOk adr M w (putF fr dst s) (a.put dst v) := by
  cases dst with
  | none => exact h
  | some d =>
    intro t s' hl
    simp only [putF, look_cons] at hl
    rw [tmps_put hN hd]
    by_cases hdt : d = t
    · simp only [hdt, if_true, Option.some.injEq] at hl ⊢
      subst hl; exact hv
    · simp only [hdt, if_false] at hl ⊢
      exact h t s' hl
theorem Ok.put {gl : List (Nat × List D)} {M0 S0 : Nat → Prop} {w0 : Base} {N : Nat} {adr : Env} {fr : List (Nat × V)} {L : List (Nat × Blk)} {n : Nat} {a : Act} {w : World} (h : Ok gl M0 S0 w0 N adr fr L n a w)
    {dst : Option Nat} (hd : dstB N dst = true) {s : V} {v : Value} (hv : DenV adr (Mut M0 adr L) w s v) : Ok gl M0 S0 w0 N adr (putF fr dst s) L n (a.put dst v) w :=
  ⟨by rw [put_size]; exact h.size, by rw [put_defers]; exact h.defers, h.fr.put h.size hd hv, h.wok, h.glob, h.base, h.new, h.same⟩
end Go.EYtbkhfmgdnnaaoaaDoor
