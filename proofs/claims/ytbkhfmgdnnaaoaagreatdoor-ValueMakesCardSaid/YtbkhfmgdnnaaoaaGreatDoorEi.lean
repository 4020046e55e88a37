/- Proved: the sixth part of the reckoner: what each operation gives that makes no memory and turns none. No condition. -/
/- Proved: the seventh part of the reckoner: the other operations that make no memory and turn none, and all of them together. No condition. -/
/- Proved: the eighth part of the reckoner: rows as data, append, slice literals, make. No condition. -/
/- Proved: the ninth part of the reckoner: append and slice literals on states; freezing; calls. No condition. -/
import Derived.Test.YtbkhfmgdnnaaoaaGreatDoorEe
import Derived.Laws.BytesString
import Derived.Great.BuildSlice
import Derived.Laws.MakeOwn
section
namespace Go.EYtbkhfmgdnnaaoaaGreatDoor
open Go Go.RowKit

def vD : D → V
  | .agg l => .agg (l.map C.d)
  | d => .c (.d d)
theorem vD_den {adr : Env} {M : Nat → Prop} {w : World} {d : D} {x : Value} (h : DenD M w d x) : DenV adr M w (vD d) x := by
  cases d <;> first | exact h | skip
  case agg l => obtain ⟨xs, rfl, h2⟩ := DenD.agg_inv h; exact ⟨xs, rfl, All2.map_left.2 h2⟩
abbrev u8D (b : UInt8) : List D := [.v (.int .u8 (b.toNat : Int))]
def onS (s : Option V) (K : V → Prop) : Prop := match s with | some s => K s | none => False
theorem onS_ok {s : Option V} {K : V → Prop} (h : onS s K) : ∃ v, s = some v ∧ K v := by
  cases s with
  | none => exact h.elim
  | some v => exact ⟨v, rfl, h⟩
def onC (s : Option V) (K : C → Prop) : Prop := match s with | some (.c c) => K c | _ => False
theorem onC_ok {s : Option V} {K : C → Prop} (h : onC s K) : ∃ c, s = some (.c c) ∧ K c := by
  unfold onC at h
  split at h
  · exact ⟨_, rfl, h⟩
  · exact h.elim
def onT (tt : List (Nat × TI)) (t : Nat) (K : TI → Prop) : Prop := match look tt t with | some ti => K ti | none => False
theorem onT_ok {tt : List (Nat × TI)} {t : Nat} {K : TI → Prop} (h : onT tt t K) : ∃ ti, look tt t = some ti ∧ K ti := by
  unfold onT at h
  split at h
  · exact ⟨_, by assumption, h⟩
  · exact h.elim

/-! ### The rules -/
def rField (ti : TI) (f : Nat) (c : C) (K : V → Prop) : Prop :=
  match nth ti.flds f with
  | some (off, _ + 1) => match c with
    | .ptr k o => K (.c (.ptr k (o + off)))
    | .elt z k i o => K (.c (.elt z k i (o + off)))
    | .d (.imm l) => K (.c (.d (.imm (l.drop off))))
    | _ => False
  | _ => False
def rLoad (L : List (Nat × Blk)) (ti : TI) (c : C) (K : V → Prop) : Prop :=
  match c with
  | .ptr k o => match look L k with
    | some (.var l _) => ofCut ti.agg (cut l o ti.size) ti.size K
    | _ => False
  | .elt z k i o => match look L k with
    | some (.rows z' l _) => Nat.beq z z' = true ∧ ∃ r, l[i]? = some r ∧ ofCut ti.agg ((cut r o ti.size).map C.d) ti.size K
    | _ => False
  | .d (.imm l) => ofCut ti.agg ((cut l 0 ti.size).map C.d) ti.size K
  | _ => False
def rExtract (s : V) (i : Nat) (K : V → Prop) : Prop :=
  match s with
  | .tup l => match nth l i with
    | some (true, l') => K (.agg l')
    | some (false, [c]) => K (.c c)
    | _ => False
  | .c (.d (.tup l)) => match nth l i with
    | some d => K (vD d)
    | none => False
  | _ => False
def rUn (op : UnOp) (c : C) (K : V → Prop) : Prop :=
  match op, c with
  | .not, .d (.v (.bool true)) => K (.c (.d (.v (.bool false))))
  | .not, .d (.v (.bool false)) => K (.c (.d (.v (.bool true))))
  | .not, .d (.b p i) => K (.c (.d (.b (¬ p) (@instDecidableNot p i))))
  | .neg, .d (.v (.int k n)) => K (.c (iC k (k.wrap (0 - n))))
  | .xor, .d (.v (.int k n)) => intBin .xor k (if k.signed then -1 else k.max) n fun c => K (.c c)
  | _, _ => False
def isShift : BinOp → Bool
  | .shl => true
  | .shr => true
  | _ => false
def rEq (tt : List (Nat × TI)) (op : BinOp) (t : Nat) (y z : Operand) (u v : V) (K : V → Prop) : Prop :=
  match eqVal tt t y z u v with
  | some d => match op with
    | .eql => K (.c (.d (.b d.p d.i)))
    | .neq => K (.c (.d (.b (¬ d.p) (@instDecidableNot d.p d.i))))
    | _ => False
  | none => False
def rBin (tt : List (Nat × TI)) (op : BinOp) (t : Nat) (y z : Operand) (u v : V) (K : V → Prop) : Prop :=
  match u, v with
  | .c (.d (.v (.int k a))), .c (.d (.v (.int k' b))) => match isShift op with
    | true => shiftBin op k a b fun c => K (.c c)
    | false => onB (ikeq k k') (intBin op k a b fun c => K (.c c))
  | .c (.d (.str a)), .c (.d (.str b)) => strBin op a b fun c => K (.c c)
  | u, v => rEq tt op t y z u v K
def rConv (L : List (Nat × Blk)) (ts td : TI) (te : Option TI) (c : C) (K : V → Prop) : Prop :=
  match c with
  | .d (.v (.int _ n)) => match td.ik with
    | some k => K (.c (iC k (k.wrap n)))
    | none => onB (Nat.beq td.kd 2) (K (.c (.d (.str (Utf8.encode n).data.toList))))
  | .d (.str l) => onB (Nat.beq td.kd 2) (K (.c (.d (.str l))))
  | .d (.lst z l) => onB (Nat.beq td.kd 2) (match te with
    | some e => onB (match e.ik with | some k => ikeq k .u8 | none => false) (onB (Nat.beq z 1) (∃ bs : List UInt8, l = bs.map u8D ∧ K (.c (.d (.str bs)))))
    | none => False)
  | .all z k => onB (Nat.beq td.kd 2) (match te, look L k with
    | some e, some (.rows _ l _) => onB (match e.ik with | some k => ikeq k .u8 | none => false) (onB (Nat.beq z 1) (∃ bs : List UInt8, l = bs.map u8D ∧ K (.c (.d (.str bs)))))
    | _, _ => False)
  | .d (.v (.slice none 0 0)) => onB (Nat.beq td.kd 2) (match te with
    | some e => onB (match e.ik with | some k => ikeq k .u8 | none => false) (K (.c (.d (.str []))))
    | none => False)
  | _ => False
def dOfC : C → Option D
  | .d x => some x
  | _ => none
def dsOf : List C → Option (List D)
  | [] => some []
  | c :: r => match dOfC c, dsOf r with
    | some d, some l => some (d :: l)
    | _, _ => none
def rIface (ti : TI) (t : Nat) (s : V) (K : V → Prop) : Prop :=
  onB (match ti.iface with | true => false | false => true) (match s with
  | .c (.d (.v x)) => K (.c (.d (.v (.iface t x))))
  | .c (.d (.str l)) => K (.c (.d (.ifc t false [.str l])))
  | .c (.d (.b p i)) => K (.c (.d (.ifc t false [.b p i])))
  | .c (.d (.lst z l)) => K (.c (.d (.ifc t false [.lst z l])))
  | .agg l => match dsOf l with
    | some ds => K (.c (.d (.ifc t true ds)))
    | none => False
  | _ => False)
def capsOf (ev : Operand → Option V) : List Operand → Option (List (Nat × Nat))
  | [] => some []
  | x :: r => match ev x, capsOf ev r with
    | some (.c (.ptr k o)), some l => some ((k, o) :: l)
    | _, _ => none
def rNil (c : C) (K : V → Prop) : Prop :=
  match c with
  | .ptr k o => K (.c (.ptr k o))
  | .elt z k i o => K (.c (.elt z k i o))
  | .d (.imm l) => K (.c (.d (.imm l)))
  | .fn f cs => K (.c (.fn f cs))
  | .d (.v (.iface t x)) => K (.c (.d (.v (.iface t x))))
  | .d (.ifc t g l) => K (.c (.d (.ifc t g l)))
  | _ => False
def rIndex (ti : TI) (c : C) (i : C) (K : V → Prop) : Prop :=
  match c, i with
  | .d (.str l), .d (.v (.int _ n)) => onB (Nat.beq ti.kd 2) ((0 ≤ n ∧ n < (l.length : Int)) ∧ K (.c (iC .u8 ((l.getD n.toNat 0).toNat : Int))))
  | _, _ => False
/-- An array's element, of one cell. -/
def rIndexA (ti te : TI) (l : List C) (i : C) (K : V → Prop) : Prop :=
  match i, ti.sub with
  | .d (.v (.int _ n)), [m] => onB (Nat.beq ti.kd 4) (onB (match te.agg with | true => false | false => true) (onB (Nat.beq te.size 1) ((0 ≤ n ∧ n < (m : Int)) ∧ ∃ c, l[n.toNat]? = some c ∧ K (.c c))))
  | _, _ => False
def rIndexAddr (L : List (Nat × Blk)) (ti te : TI) (c : C) (i : C) (K : V → Prop) : Prop :=
  match i with
  | .d (.v (.int _ n)) => match c with
    | .d (.lst z l) => onB (Nat.beq ti.kd 3) (onB (Nat.beq z te.size) ((0 ≤ n) ∧ ∃ r, l[n.toNat]? = some r ∧ K (.c (.d (.imm r)))))
    | .all z k => onB (Nat.beq ti.kd 3) (onB (Nat.beq z te.size) (match look L k with
      | some (.rows _ l _) => (0 ≤ n ∧ n < (l.length : Int)) ∧ K (.c (.elt z k n.toNat 0))
      | _ => False))
    | .own z k a m => onB (Nat.beq ti.kd 3) (onB (Nat.beq z te.size) ((0 ≤ n ∧ n < (m : Int)) ∧ K (.c (.elt z k (a + n.toNat) 0))))
    | .d (.imm l) => onB (Nat.beq ti.kd 4) (match ti.sub with
      | [m] => (0 ≤ n ∧ n < (m : Int)) ∧ ∃ r, cut l (n.toNat * te.size) te.size = r ∧ K (.c (.d (.imm r)))
      | _ => False)
    | .ptr k o => onB (Nat.beq ti.kd 4) (match ti.sub with
      | [m] => (0 ≤ n ∧ n < (m : Int)) ∧ K (.c (.ptr k (o + n.toNat * te.size)))
      | _ => False)
    | _ => False
  | _ => False
def optInt (ev : Operand → Option V) : Option Operand → Option (Option Int)
  | none => some none
  | some x => match ev x with
    | some (.c (.d (.v (.int _ n)))) => some (some n)
    | _ => none
def rSlice (L : List (Nat × Blk)) (ti : TI) (te : Option TI) (c : C) (lo hi mx : Option Int) (K : V → Prop) : Prop :=
  match mx with
  | some _ => False
  | none => match c with
    | .d (.str l) => onB (Nat.beq ti.kd 2) ((0 ≤ lo.getD 0 ∧ lo.getD 0 ≤ hi.getD l.length ∧ hi.getD l.length ≤ l.length) ∧ K (.c (.d (.str ((l.take (hi.getD l.length).toNat).drop (lo.getD 0).toNat)))))
    | .d (.lst z l) => onB (Nat.beq ti.kd 3) (match te with
      | some te => onB (Nat.beq z te.size) ((0 ≤ lo.getD 0 ∧ lo.getD 0 ≤ hi.getD l.length ∧ hi.getD l.length ≤ l.length) ∧ K (.c (.d (.lst z ((l.take (hi.getD l.length).toNat).drop (lo.getD 0).toNat)))))
      | none => False)
    | .all z k => onB (Nat.beq ti.kd 3) (match te, look L k with
      | some te, some (.rows _ l _) => onB (Nat.beq z te.size) ((0 ≤ lo.getD 0 ∧ lo.getD 0 ≤ hi.getD l.length ∧ hi.getD l.length ≤ l.length) ∧ K (.c (.own z k (lo.getD 0).toNat ((hi.getD l.length).toNat - (lo.getD 0).toNat))))
      | _, _ => False)
    | _ => False
def pvals (ev : Operand → Option V) : List (Nat × Operand) → Option (List (Nat × V))
  | [] => some []
  | (i, y) :: r => match ev y, pvals ev r with
    | some s, some l => some ((i, s) :: l)
    | _, _ => none
def cellsOf : V → Option (List C)
  | .agg l => some l
  | .c (.d (.v (.agg _))) => none
  | .c (.d (.v (.tuple _))) => none
  | .c (.d (.agg _)) => none
  | .c (.d (.tup _)) => none
  | .c .junk => none
  | .c c => some [c]
  | .tup _ => none
def fillC (flds : List (Nat × Nat)) (cells : List C) : List (Nat × V) → Option (List C)
  | [] => some cells
  | (i, s) :: r => match nth flds i, cellsOf s with
    | some (off, sz), some l => bif Nat.beq l.length sz then (bif Nat.ble (off + l.length) cells.length then fillC flds (over cells off l) r else none) else none
    | _, _ => none
def rBuild (ti : TI) (ps : Option (List (Nat × V))) (K : V → Prop) : Prop :=
  match ps with
  | some l => match ti.flds, ti.el with
    | _ :: _, none => match fillC ti.flds (ti.zero.map C.d) l with
      | some out => K (.agg out)
      | none => False
    | _, _ => False
  | none => False
def rLen (L : List (Nat × Blk)) (ti : TI) (c : C) (K : V → Prop) : Prop :=
  match c with
  | .d (.str l) => onB (Nat.beq ti.kd 2) (K (.c (iC .i64 (l.length : Int))))
  | .d (.lst _ l) => onB (Nat.beq ti.kd 3) (K (.c (iC .i64 (l.length : Int))))
  | .d (.v (.slice none 0 0)) => onB (Nat.beq ti.kd 3) (K (.c (iC .i64 0)))
  | .all _ k => onB (Nat.beq ti.kd 3) (match look L k with
    | some (.rows _ l _) => K (.c (iC .i64 (l.length : Int)))
    | _ => False)
  | .own _ _ _ n => onB (Nat.beq ti.kd 3) (K (.c (iC .i64 (n : Int))))
  | _ => False
def rMinMax (mn : Bool) (c d : C) (K : V → Prop) : Prop :=
  match c, d with
  | .d (.v (.int k a)), .d (.v (.int k' b)) => onB (ikeq k k') (match mn with | true => K (.c (iC k (if b < a then b else a))) | false => K (.c (iC k (if a < b then b else a))))
  | _, _ => False

/-! ### They hold -/
section
variable {P : Program} {adr : Env} {M0 : Nat → Prop} {L L' : List (Nat × Blk)} {n : Nat} {w : World}
theorem rField_ok {t : Nat} {ti : TI} (h : FitsOne P t ti) {f : Nat} {c : C} {K : V → Prop} (hr : rField ti f c K) :
    ∃ s, K s ∧ ∀ (adr : Env) (M : Nat → Prop) (w : World) (x : Value), DenC adr M w c x → ∃ v, (Instr.fieldAt t x f).run P w = .ok v w ∧ DenV adr M w s v := by
  unfold rField at hr
  split at hr
  · rename_i off sz hf
    rw [nth_eq] at hf
    split at hr
    · refine ⟨_, hr, fun adr M w x hx => ?_⟩
      obtain ⟨b, m, h1, rfl⟩ := hx
      exact ⟨_, h.field hf _ _ w, b, m, h1, rfl⟩
    · rename_i z k i o
      refine ⟨_, hr, fun adr M w x hx => ?_⟩
      obtain ⟨b, m, h1, rfl⟩ := hx
      exact ⟨_, h.field hf _ _ w, b, m, h1, by rw [Nat.add_assoc]⟩
    · rename_i l
      refine ⟨_, hr, fun adr M w x hx => ?_⟩
      cases hx with
      | imm _ b o cs hb hM hcell hden =>
        refine ⟨_, h.field hf _ _ w, ?_⟩
        refine DenD.imm (l.drop off) b (o + off) (fun j => cs (off + j)) hb hM (fun j d hj => ?_) (fun j d hj => ?_)
        · rw [List.getElem?_drop] at hj
          rw [Nat.add_assoc]; exact hcell (off + j) d hj
        · rw [List.getElem?_drop] at hj
          exact hden (off + j) d hj
    · exact hr.elim
  · exact hr.elim
theorem ofCut_ok {ag : Bool} {l : List C} {sz : Nat} {K : V → Prop} (h : ofCut ag l sz K) : l.length = sz ∧ (ag = false → sz = 1) ∧ ∃ s, K s ∧ ∀ (adr : Env) (M : Nat → Prop) (w : World) (xs : List Value), DenCs adr M w l xs → DenV adr M w s (if ag then .agg xs.toArray else xs.headD undef) := by
  unfold ofCut at h
  split at h
  · rename_i hb
    have hl := Nat.eq_of_beq_eq_true hb
    split at h
    · exact ⟨hl, (fun h => (by cases h)), _, h, fun adr M w xs hx => ⟨xs, rfl, hx⟩⟩
    · split at h
      · refine ⟨hl, fun _ => by rw [← hl]; rfl, _, h, fun adr M w xs hx => ?_⟩
        obtain ⟨x, rfl, h1⟩ := All2.one_iff.1 hx
        exact h1
      · exact h.elim
  · exact h.elim
theorem rLoad_ok {t : Nat} {ti : TI} (h : FitsOne P t ti) {c : C} {K : V → Prop} (hr : rLoad L ti c K) :
    ∃ s, K s ∧ ∀ (M0 : Nat → Prop) (adr : Env) (L' : List (Nat × Blk)) (n : Nat) (w : World) (x : Value), (∀ k B, look L k = some B → look L' k = some B) → WOk M0 adr L' n w → DenC adr (Mut M0 adr L') w c x →
      ∃ v, (Instr.loadAt t x).run P w = .ok v w ∧ DenV adr (Mut M0 adr L') w s v := by
  have fin : ∀ {b o : Nat} {w : World} {cs : List Value}, cs.length = ti.size → (∀ j v, cs[j]? = some v → w.cell? ⟨b, o + j, none⟩ = some v) → (ti.agg = false → ti.size = 1) → (Instr.loadAt t (.pointer (some ⟨b, o, none⟩))).run P w = .ok (if ti.agg then .agg cs.toArray else cs.headD undef) w := by
    intro b o w cs h1 h2 h3
    simp only [Instr.loadAt, Instr.sureAddr, Sem.run_bind, Sem.run_pure, Result.andThen_ok, h.load h1 h2 h3]
  unfold rLoad at hr
  split at hr
  · rename_i k o
    split at hr
    · rename_i l tb hk
      obtain ⟨h1, h2, s, hs, h3⟩ := ofCut_ok hr
      refine ⟨s, hs, fun M0 adr L' n w x hL hw hx => ?_⟩
      obtain ⟨b, m, ha, rfl⟩ := hx
      have hloc := hw.loc k _ (hL k _ hk)
      rw [ha] at hloc
      obtain ⟨xs, e1, e2⟩ := hloc
      have hcut : DenCs adr (Mut M0 adr L') w (cut l o ti.size) (cut xs o ti.size) := (e2.drop o).take _
      refine ⟨_, fin (cs := cut xs o ti.size) (by rw [← All2.length hcut]; exact h1) (fun j v hj => ?_) h2, h3 _ _ _ _ hcut⟩
      simp only [cut, List.getElem?_take, List.getElem?_drop] at hj
      split at hj
      · simp [World.cell?, e1, hj]
      · cases hj
    · exact hr.elim
  · rename_i z k i o
    split at hr
    · rename_i z' l e hk
      obtain ⟨hz, r, hi, hr⟩ := hr
      have hz := Nat.eq_of_beq_eq_true hz
      subst hz
      obtain ⟨h1, h2, s, hs, h3⟩ := ofCut_ok hr
      refine ⟨s, hs, fun M0 adr L' n w x hL hw hx => ?_⟩
      obtain ⟨b, m, ha, rfl⟩ := hx
      have hloc := hw.loc k _ (hL k _ hk)
      rw [ha] at hloc
      obtain ⟨g1, g2, g3, cur, cp, g4, g5, g6, g7, g8⟩ := hloc
      have hil : i < l.length := (List.getElem?_eq_some_iff.1 hi).1
      have hrz : r.length = z := g3 r (List.mem_of_getElem? hi)
      have hri : r = (l.flatten.drop (i * z)).take z := by
        have h1 : (l.drop i).flatten = l.flatten.drop (i * z) := flatten_drop g3
        rw [← h1, List.drop_eq_getElem_cons hil, List.flatten_cons]
        have h2 : l[i] = r := (List.getElem?_eq_some_iff.1 hi).2
        rw [h2, ← hrz, List.take_left]
      have hcutR : DenL (Mut M0 adr L') w r (((cur.toList.take (l.length * z)).drop (i * z)).take z) := by
        rw [hri]; exact (g8.drop _).take _
      have hcut : DenCs adr (Mut M0 adr L') w ((cut r o ti.size).map C.d) (cut (((cur.toList.take (l.length * z)).drop (i * z)).take z) o ti.size) := All2.map_left.2 ((hcutR.drop o).take _)
      refine ⟨_, fin (cs := cut (((cur.toList.take (l.length * z)).drop (i * z)).take z) o ti.size) (by rw [← All2.length hcut]; exact h1) (fun j v hj => ?_) h2, h3 _ _ _ _ hcut⟩
      simp only [cut, List.getElem?_take, List.getElem?_drop] at hj
      split at hj
      · split at hj
        · split at hj
          · simp only [World.cell?, g4]
            simp only [Option.isSome_none, Bool.false_eq_true, if_false]
            rw [show i * z + o + j = i * z + (o + j) by omega]
            simpa using hj
          · cases hj
        · cases hj
      · cases hj
    · exact hr.elim
  · rename_i l
    obtain ⟨h1, h2, s, hs, h3⟩ := ofCut_ok hr
    refine ⟨s, hs, fun M0 adr L' n w x hL hw hx => ?_⟩
    cases hx with
    | imm _ b o cs hb hM hcell hden =>
      have hlen : ti.size ≤ l.length := by simp [cut] at h1; omega
      have hcut : DenCs adr (Mut M0 adr L') w ((cut l 0 ti.size).map C.d) ((List.range ti.size).map cs) := by
        refine All2.map_left.2 (All2.of_get (by simp [cut]; omega) fun j d x h1 h2 => ?_)
        simp only [cut, List.drop_zero, List.getElem?_take] at h1
        split at h1
        · rename_i hj
          rw [List.getElem?_map, List.getElem?_range hj] at h2
          simp only [Option.map_some, Option.some.injEq] at h2; subst h2
          exact hden j d h1
        · cases h1
      refine ⟨_, fin (cs := (List.range ti.size).map cs) (by simp) (fun j v hj => ?_) h2, h3 _ _ _ _ hcut⟩
      rw [List.getElem?_map] at hj
      obtain ⟨j', hj1, rfl⟩ := Option.map_eq_some_iff.1 hj
      have hjlt : j < ti.size := by
        rcases Nat.lt_or_ge j ti.size with h | h
        · exact h
        · rw [List.getElem?_eq_none (by simpa using h)] at hj1; cases hj1
      rw [List.getElem?_range hjlt] at hj1
      cases hj1
      exact hcell j l[j] (List.getElem?_eq_getElem (by omega))
  · exact hr.elim
theorem rExtract_ok {s : V} {i : Nat} {K : V → Prop} (hr : rExtract s i K) : ∃ r, K r ∧ ∀ (adr : Env) (M : Nat → Prop) (w : World) (x : Value), DenV adr M w s x → ∃ v, (Instr.extract x i).run P w = .ok v w ∧ DenV adr M w r v := by
  unfold rExtract at hr
  split at hr
  · rename_i l
    split at hr
    · rename_i l' hi
      rw [nth_eq] at hi
      refine ⟨_, hr, fun adr M w x hx => ?_⟩
      obtain ⟨xs, rfl, h1⟩ := hx
      obtain ⟨y, hy, h2⟩ := All2.get h1 hi
      exact ⟨y, by simp [Instr.extract, hy], h2⟩
    · rename_i c hi
      rw [nth_eq] at hi
      refine ⟨_, hr, fun adr M w x hx => ?_⟩
      obtain ⟨xs, rfl, h1⟩ := hx
      obtain ⟨y, hy, h2⟩ := All2.get h1 hi
      obtain ⟨c', hc, h3⟩ := h2
      cases hc
      exact ⟨y, by simp [Instr.extract, hy], h3⟩
    · exact hr.elim
  · rename_i l
    split at hr
    · rename_i d hi
      rw [nth_eq] at hi
      refine ⟨_, hr, fun adr M w x hx => ?_⟩
      obtain ⟨xs, rfl, h1⟩ := DenD.tup_inv hx
      obtain ⟨y, hy, h2⟩ := All2.get h1 hi
      exact ⟨y, by simp [Instr.extract, hy], vD_den h2⟩
    · exact hr.elim
  · exact hr.elim
theorem rUn_ok {op : UnOp} {c : C} {K : V → Prop} (hr : rUn op c K) : ∃ r, K r ∧ ∀ (adr : Env) (M : Nat → Prop) (w : World) (x : Value), DenC adr M w c x → ∃ v, (Op.unary op x).run P w = .ok v w ∧ DenV adr M w r v := by
  unfold rUn at hr
  split at hr
  · exact ⟨_, hr, fun adr M w x hx => by obtain rfl := DenD.v_inv hx; exact ⟨_, rfl, .v _⟩⟩
  · exact ⟨_, hr, fun adr M w x hx => by obtain rfl := DenD.v_inv hx; exact ⟨_, rfl, .v _⟩⟩
  · exact ⟨_, hr, fun adr M w x hx => by
      obtain rfl := DenD.b_inv hx
      refine ⟨_, rfl, ?_⟩
      rename_i p i
      have : (!@decide p i) = @decide (¬ p) (@instDecidableNot p i) := by by_cases hp : p <;> simp [hp]
      rw [this]; exact .b _ _⟩
  · exact ⟨_, hr, fun adr M w x hx => by obtain rfl := DenD.v_inv hx; exact ⟨_, by simp [Op.unary, Op.intArith], .v _⟩⟩
  · obtain ⟨c, hc, h1⟩ := intBin_ok (P := P) hr
    refine ⟨_, hc, fun adr M w x hx => ?_⟩
    obtain rfl := DenD.v_inv hx
    obtain ⟨v, h2, h3⟩ := h1 adr M 0 w
    refine ⟨v, ?_, h3⟩
    simpa [binOp, Op.unary] using h2
  · exact hr.elim
theorem run_guard_plain {op : BinOp} {t : Nat} {y z : Operand} {a b : Value} (ha : ∀ l, a ≠ .agg l) (hn : a ≠ .nilIface) : (eqGuard op t y z a b).run P w = .ok () w := by
  cases a <;> first | exact absurd rfl hn | exact absurd rfl (ha _) | (cases op <;> rfl)
theorem rBin_ok {tt : List (Nat × TI)} (hT : Fits P tt) {op : BinOp} {t : Nat} {y z : Operand} {u v : V} {K : V → Prop} (hr : rBin tt op t y z u v K) :
    ∃ s, K s ∧ ∀ (adr : Env) (M : Nat → Prop) (w : World) (a b : Value), DenV adr M w u a → DenV adr M w v b → ∃ r, (eqGuard op t y z a b).run P w = .ok () w ∧ (binOp op t a b).run P w = .ok r w ∧ DenV adr M w s r := by
  unfold rBin at hr
  split at hr
  · rename_i k a k' b
    split at hr
    · obtain ⟨c, hc, h1⟩ := shiftBin_ok (P := P) (yk := k') hr
      refine ⟨_, hc, fun adr M w x y hx hy => ?_⟩
      obtain rfl := DenD.v_inv hx
      obtain rfl := DenD.v_inv hy
      obtain ⟨r, h2, h3⟩ := h1 adr M t w
      exact ⟨r, run_guard_plain (fun l h => by cases h) (fun h => by cases h), h2, h3⟩
    · obtain ⟨hk, hr2⟩ := onB_ok hr
      obtain rfl := ikeq_ok hk
      obtain ⟨c, hc, h1⟩ := intBin_ok (P := P) hr2
      refine ⟨_, hc, fun adr M w x y hx hy => ?_⟩
      obtain rfl := DenD.v_inv hx
      obtain rfl := DenD.v_inv hy
      obtain ⟨r, h2, h3⟩ := h1 adr M t w
      exact ⟨r, run_guard_plain (fun l h => by cases h) (fun h => by cases h), h2, h3⟩
  · obtain ⟨c, hc, h1⟩ := strBin_ok (P := P) hr
    refine ⟨_, hc, fun adr M w x y hx hy => ?_⟩
    obtain rfl := DenD.str_inv hx
    obtain rfl := DenD.str_inv hy
    obtain ⟨r, h2, h3⟩ := h1 adr M t w
    exact ⟨r, run_guard_plain (fun l h => by cases h) (fun h => by cases h), h2, h3⟩
  · unfold rEq at hr
    split at hr
    · rename_i d hd
      split at hr
      · refine ⟨_, hr, fun adr M w x y hx hy => ?_⟩
        obtain ⟨h1, _, h3⟩ := eqVal_ok hT hd w hx hy
        exact ⟨_, h1 _, h3 .eql (.inl rfl), .b _ _⟩
      · refine ⟨_, hr, fun adr M w x y hx hy => ?_⟩
        obtain ⟨h1, _, h3⟩ := eqVal_ok hT hd w hx hy
        refine ⟨_, h1 _, h3 .neq (.inr rfl), ?_⟩
        obtain ⟨p, i⟩ := d
        have : (!@decide p i) = @decide (¬ p) (@instDecidableNot p i) := by by_cases hp : p <;> simp [hp]
        simp only [this]; exact DenD.b _ _
      · exact hr.elim
    · exact hr.elim
theorem push_fold : ∀ (bs : List UInt8) (s : ByteArray), (bs.map fun b => ((b.toNat : Nat) : Int)).foldl (fun r n => r.push (UInt8.ofNat n.toNat)) s = ⟨(s.data.toList ++ bs).toArray⟩
  | [], s => by simp
  | b :: bs, s => by
    simp only [List.map_cons, List.foldl_cons]
    rw [push_fold bs]
    congr 1
    apply Array.ext'
    simp [ByteArray.push]
theorem run_bytes_str {a : Addr} {bs : List UInt8} {c : Nat} (h : ∀ (j : Nat) b, bs[j]? = some b → w.cell? (a.add j) = some (.int .u8 (b.toNat : Int))) :
    (Conv.bytesToString (.slice (some a) bs.length c)).run P w = .ok (.string ⟨bs.toArray⟩) w := by
  have hl : (loadCells a bs.length).run P w = .ok ((bs.map fun b => ((b.toNat : Nat) : Int)).map (Value.int .u8)).toArray w := by
    have := run_loadCells_list (P := P) w a ((bs.map fun b => ((b.toNat : Nat) : Int)).map (Value.int .u8)) (fun j v hj => by
      rw [List.getElem?_map, List.getElem?_map] at hj
      cases hb : bs[j]? with
      | none => rw [hb] at hj; cases hj
      | some b => rw [hb] at hj; cases hj; exact h j b hb)
    simpa using this
  rw [run_bytesToString w a bs.length c _ hl, push_fold]
  simp
theorem lst_bytes {M : Nat → Prop} {bs : List UInt8} {x : Value} (h : DenD M w (.lst 1 (bs.map u8D)) x) : ∃ a l c, x = .slice a l c ∧ (Conv.bytesToString x).run P w = .ok (.string ⟨bs.toArray⟩) w := by
  have key : ∀ (l : List (List D)), l = bs.map u8D → DenD M w (.lst 1 l) x → ∃ a l c, x = .slice a l c ∧ (Conv.bytesToString x).run P w = .ok (.string ⟨bs.toArray⟩) w := by
    intro l hl h
    cases h with
    | lst0 _ a c hc =>
      have hb : bs = [] := by cases bs with | nil => rfl | cons _ _ => cases hl
      subst hb
      refine ⟨a, 0, c, rfl, ?_⟩
      cases a with
      | none => rfl
      | some a => exact run_bytes_str (bs := []) (fun j b hj => by simp at hj)
    | lst _ _ b o c cs hb hM hle hc hz hcell hden =>
      subst hl
      refine ⟨_, _, _, rfl, ?_⟩
      have hlen : (bs.map u8D).length = bs.length := by simp
      rw [hlen]
      refine run_bytes_str fun j b' hj => ?_
      have hg : get2 (bs.map u8D) j 0 = some (.v (.int .u8 (b'.toNat : Int))) := by simp [get2, hj]
      have h1 := hcell j 0 _ hg
      have h2 := DenD.v_inv (hden j 0 _ hg)
      rw [addr_add]
      simpa [h2] using h1
  exact key _ rfl h
theorem flat_u8 : ∀ (bs : List UInt8), (bs.map u8D).flatten = bs.map fun b => D.v (.int .u8 (b.toNat : Int))
  | [] => rfl
  | b :: bs => by simp only [List.map_cons, List.flatten_cons, flat_u8 bs]; rfl
theorem rConv_ok {ts td : TI} {src dst : Nat} (hs : FitsOne P src ts) (hd : FitsOne P dst td) {te : Option TI} (he : ∀ te', te = some te' → ∃ e, ts.kd = 3 ∧ ts.el = some e ∧ FitsOne P e te') {c : C} {K : V → Prop} (hr : rConv L ts td te c K) :
    ∃ s, K s ∧ ∀ (M0 : Nat → Prop) (adr : Env) (L' : List (Nat × Blk)) (n : Nat) (w : World) (x : Value), (∀ k B, look L k = some B → look L' k = some B) → WOk M0 adr L' n w → DenC adr (Mut M0 adr L') w c x →
      ∃ v, (convert src dst x).run P w = .ok v w ∧ DenV adr (Mut M0 adr L') w s v := by
  obtain ⟨ds, es, _, _, _, iks, els, kds⟩ := hs.desc
  obtain ⟨dd, ed, _, _, _, ikd, _, kdd⟩ := hd.desc
  have bytes : ∀ (e : TI), te = some e → (match e.ik with | some k => ikeq k .u8 | none => false) = true → ∃ el, P.underlying src = some (.slice el) ∧ P.underlying el = some (.int .u8) := by
    intro e hte1 hik
    obtain ⟨el, h3, hel, hfe⟩ := he e hte1
    · obtain ⟨de, ee, _, _, _, ike, _⟩ := hfe.desc
      rw [h3] at kds
      rw [hel] at els
      cases ds <;> simp [kdOf] at kds
      simp only [elOf, Option.some.injEq] at els
      subst els
      cases hk : e.ik with
      | none => rw [hk] at hik; cases hik
      | some k =>
        rw [hk] at hik ike
        obtain rfl := ikeq_ok hik
        cases de <;> simp only [ikOf, reduceCtorEq, Option.some.injEq] at ike
        subst ike
        exact ⟨_, es, ee⟩
  have str2 : Nat.beq td.kd 2 = true → P.underlying dst = some .string := by
    intro h
    rw [Nat.eq_of_beq_eq_true h] at kdd
    cases dd <;> simp [kdOf] at kdd
    exact ed
  unfold rConv at hr
  split at hr
  · rename_i k0 m
    split at hr
    · rename_i k hk
      refine ⟨_, hr, fun M0 adr L' n w x _ _ hx => ?_⟩
      obtain rfl := DenD.v_inv hx
      refine ⟨_, ?_, .v _⟩
      rw [hk] at ikd
      cases dd <;> simp only [ikOf, reduceCtorEq, Option.some.injEq] at ikd
      subst ikd
      simp [convert, run_underlying es, run_underlying ed, Conv.intToInt]
    · replace hr := onB_ok hr
      obtain ⟨h2, hr⟩ := hr
      refine ⟨_, hr, fun M0 adr L' n w x _ _ hx => ?_⟩
      obtain rfl := DenD.v_inv hx
      refine ⟨.string (Utf8.encode m), ?_, ?_⟩
      · simp [convert, run_underlying es, run_underlying (str2 h2), Conv.intToString]
      · exact DenD.str _
  · replace hr := onB_ok hr
    obtain ⟨h2, hr⟩ := hr
    refine ⟨_, hr, fun M0 adr L' n w x _ _ hx => ?_⟩
    obtain rfl := DenD.str_inv hx
    refine ⟨_, ?_, .str _⟩
    simp [convert, run_underlying es, run_underlying (str2 h2)]
  · rename_i z l
    replace hr := onB_ok hr
    obtain ⟨h2, hr⟩ := hr
    split at hr
    · rename_i e
      replace hr := onB_ok hr
      obtain ⟨h3, hr⟩ := hr
      replace hr := onB_ok hr
      obtain ⟨h4, bs, rfl, hr⟩ := hr
      have hz := Nat.eq_of_beq_eq_true h4
      subst hz
      obtain ⟨el, e1, e2⟩ := bytes e rfl h3
      refine ⟨_, hr, fun M0 adr L' n w x _ _ hx => ?_⟩
      obtain ⟨a, l, c, rfl, h5⟩ := lst_bytes (P := P) hx
      exact ⟨_, by rw [run_convert_bytes_string w src dst el a l c e1 e2 (str2 h2)]; exact h5, DenD.str _⟩
    · exact hr.elim
  · rename_i z k
    replace hr := onB_ok hr
    obtain ⟨h2, hr⟩ := hr
    split at hr
    · rename_i e z' l e' hk
      replace hr := onB_ok hr
      obtain ⟨h3, hr⟩ := hr
      replace hr := onB_ok hr
      obtain ⟨h4, bs, rfl, hr⟩ := hr
      have hz := Nat.eq_of_beq_eq_true h4
      subst hz
      obtain ⟨el, e1, e2⟩ := bytes e rfl h3
      refine ⟨_, hr, fun M0 adr L' n w x hL hw hx => ?_⟩
      have hloc := hw.loc k _ (hL k _ hk)
      rcases hx with ⟨h5, rfl⟩ | ⟨b, m, cp, cur, ee, f, h5, h6, h7, h8, h9, rfl⟩
      · rw [h5] at hloc
        obtain ⟨_, h6, _⟩ := hloc
        have hb : bs = [] := by cases bs with | nil => rfl | cons _ _ => cases h6
        subst hb
        refine ⟨.string .empty, ?_, DenD.str []⟩
        rw [run_convert_bytes_string w src dst el _ _ _ e1 e2 (str2 h2)]; rfl
      · rw [h5] at hloc
        obtain ⟨g1, g2, g3, cur', cp', g4, g5, g6, g7, g8⟩ := hloc
        have hz' : z' = 1 ∨ bs = [] := by
          cases bs with
          | nil => exact .inr rfl
          | cons b bs => exact .inl (g3 (u8D b) (by simp)).symm
        have hm : m = bs.length := by rw [← g2]; simp
        subst hm
        refine ⟨_, ?_, DenD.str bs⟩
        rw [run_convert_bytes_string w src dst el _ _ _ e1 e2 (str2 h2)]
        refine run_bytes_str fun j b' hj => ?_
        rcases hz' with rfl | rfl
        · have hfl : (bs.map u8D).flatten[j]? = some (.v (.int .u8 (b'.toNat : Int))) := by
            rw [flat_u8, List.getElem?_map, hj]; rfl
          obtain ⟨x, hx1, hx2⟩ := All2.get g8 hfl
          obtain rfl := DenD.v_inv hx2
          rw [List.getElem?_take] at hx1
          split at hx1
          · rw [addr_add]
            simp only [World.cell?, g4]
            simpa using hx1
          · cases hx1
        · simp at hj
    · exact hr.elim
  · replace hr := onB_ok hr
    obtain ⟨h2, hr⟩ := hr
    split at hr
    · rename_i e
      replace hr := onB_ok hr
      obtain ⟨h3, hr⟩ := hr
      obtain ⟨el, e1, e2⟩ := bytes e rfl h3
      refine ⟨_, hr, fun M0 adr L' n w x _ _ hx => ?_⟩
      obtain rfl := DenD.v_inv hx
      refine ⟨.string .empty, ?_, DenD.str []⟩
      rw [run_convert_bytes_string w src dst el _ _ _ e1 e2 (str2 h2)]; rfl
    · exact hr.elim
  · exact hr.elim
end
end Go.EYtbkhfmgdnnaaoaaGreatDoor
end

section
namespace Go.EYtbkhfmgdnnaaoaaGreatDoor
open Go Go.RowKit

section
variable {P : Program} {L : List (Nat × Blk)}
theorem dsOf_ok : ∀ {l : List C} {ds : List D}, dsOf l = some ds → l = ds.map C.d
  | [], ds, h => by simp only [dsOf, Option.some.injEq] at h; subst h; rfl
  | c :: r, ds, h => by
    simp only [dsOf] at h
    split at h
    · rename_i d l hd hl
      cases h
      rw [List.map_cons, ← dsOf_ok hl]
      cases c <;> simp only [dOfC, Option.some.injEq, reduceCtorEq] at hd
      rw [hd]
    · cases h
theorem rIface_ok {t : Nat} {ti : TI} (h : FitsOne P t ti) {s : V} {K : V → Prop} (hr : rIface ti t s K) : ∃ r, K r ∧ ∀ (adr : Env) (M : Nat → Prop) (w : World) (x : Value), DenV adr M w s x → ∃ v, (Instr.makeInterface t x).run P w = .ok v w ∧ DenV adr M w r v := by
  unfold rIface at hr
  obtain ⟨hi, hr2⟩ := onB_ok hr
  have hi : ti.iface = false := by cases hq : ti.iface <;> simp [hq] at hi ⊢
  obtain ⟨d, hd, _, _, hd2, _⟩ := h.desc
  have hrun : ∀ (w : World) (x : Value), (Instr.makeInterface t x).run P w = .ok (.iface t x) w := by
    intro w x
    unfold Instr.makeInterface
    simp only [Sem.run_bind, run_underlying hd, Result.andThen_ok]
    rw [hi] at hd2
    cases d <;> first | rfl | (simp [ifaceOf] at hd2)
  split at hr2
  · exact ⟨_, hr2, fun adr M w x hx => ⟨_, hrun w x, by obtain rfl := DenD.v_inv hx; exact DenD.v _⟩⟩
  · exact ⟨_, hr2, fun adr M w x hx => ⟨_, hrun w x, DenD.ifc1 _ _ _ hx⟩⟩
  · exact ⟨_, hr2, fun adr M w x hx => ⟨_, hrun w x, DenD.ifc1 _ _ _ hx⟩⟩
  · exact ⟨_, hr2, fun adr M w x hx => ⟨_, hrun w x, DenD.ifc1 _ _ _ hx⟩⟩
  · split at hr2
    · rename_i l ds hds
      refine ⟨_, hr2, fun adr M w x hx => ⟨_, hrun w x, ?_⟩⟩
      obtain ⟨xs, rfl, h2⟩ := hx
      rw [dsOf_ok hds] at h2
      exact DenD.ifc2_mk ((All2.map_left (R := DenC adr M w) (f := C.d)).1 h2)
    · exact hr2.elim
  · exact hr2.elim
theorem capsOf_ok {adr : Env} {M : Nat → Prop} {w : World} {ev : Operand → Option V} {ρ : Operand → Value} : ∀ {xs : List Operand} {l : List (Nat × Nat)}, capsOf ev xs = some l → (∀ x ∈ xs, ∀ s, ev x = some s → DenV adr M w s (ρ x)) → All2 (DenP adr) l (xs.map ρ)
  | [], l, h, _ => by simp only [capsOf, Option.some.injEq] at h; subst h; trivial
  | x :: r, l, h, hx => by
    simp only [capsOf] at h
    split at h
    · rename_i k o l' h1 h2
      cases h
      refine ⟨?_, capsOf_ok h2 (fun y hy => hx y (by simp [hy]))⟩
      obtain ⟨b, m, e1, e2⟩ := hx x (by simp) _ h1
      exact ⟨b, m, e1, e2⟩
    · cases h
theorem rIndex_ok {t : Nat} {ti : TI} (h : FitsOne P t ti) {c i : C} {K : V → Prop} (hr : rIndex ti c i K) : ∃ r, K r ∧ ∀ (adr : Env) (M : Nat → Prop) (w : World) (x y : Value), DenC adr M w c x → DenC adr M w i y → ∃ v, (Instr.index t x y).run P w = .ok v w ∧ DenV adr M w r v := by
  unfold rIndex at hr
  split at hr
  · rename_i l k m
    obtain ⟨hk, hr2⟩ := onB_ok hr
    obtain ⟨⟨h0, h1⟩, hK⟩ := hr2
    obtain ⟨d, hd, _, _, _, _, _, hkd⟩ := h.desc
    rw [Nat.eq_of_beq_eq_true hk] at hkd
    have hstr : P.underlying t = some .string := by cases d <;> simp [kdOf] at hkd; exact hd
    refine ⟨_, hK, fun adr M w x y hx hy => ?_⟩
    obtain rfl := DenD.str_inv hx
    obtain rfl := DenD.v_inv hy
    have hlt : m.toNat < l.length := by omega
    refine ⟨_, ?_, .v _⟩
    have hg : (⟨l.toArray⟩ : ByteArray)[m.toNat]? = some l[m.toNat] := by
      rw [getElem?_pos (⟨l.toArray⟩ : ByteArray) m.toNat (by simpa [ByteArray.size] using hlt)]
      rfl
    simp only [Instr.index, asIntOf, Sem.run_bind, Sem.run_pure, Result.andThen_ok, run_underlying hstr, h0, if_true, hg]
    rw [List.getD_eq_getElem?_getD, List.getElem?_eq_getElem hlt, Option.getD_some]
  · exact hr.elim
theorem rIndexA_ok {t e : Nat} {ti te : TI} (h : FitsOne P t ti) (hel : ti.el = some e) (he : FitsOne P e te) {l : List C} {i : C} {K : V → Prop} (hr : rIndexA ti te l i K) : ∃ r, K r ∧ ∀ (adr : Env) (M : Nat → Prop) (w : World) (x y : Value), DenV adr M w (.agg l) x → DenC adr M w i y → ∃ v, (Instr.index t x y).run P w = .ok v w ∧ DenV adr M w r v := by
  unfold rIndexA at hr
  split at hr
  · rename_i k n m hsub
    obtain ⟨hk, hr1⟩ := onB_ok hr
    obtain ⟨ha, hr2⟩ := onB_ok hr1
    obtain ⟨hs, ⟨h0, h1⟩, c, hc, hK⟩ := onB_ok hr2
    clear hr hr1 hr2
    have hs := Nat.eq_of_beq_eq_true hs
    have ha : te.agg = false := by cases hq : te.agg <;> simp [hq] at ha ⊢
    obtain ⟨d, hd, _, _, _, _, hdel, hkd⟩ := h.desc
    have hsb := h.sub
    rw [hd, hsub] at hsb
    rw [hel] at hdel
    rw [Nat.eq_of_beq_eq_true hk] at hkd
    cases d <;> simp [kdOf] at hkd
    simp only [elOf, Option.some.injEq] at hdel; subst hdel
    simp only [Option.map_some, subOf, Option.some.injEq, List.cons.injEq, and_true] at hsb; subst hsb
    refine ⟨_, hK, fun adr M w x y hx hy => ?_⟩
    obtain ⟨xs, rfl, hx⟩ := hx
    obtain rfl := DenD.v_inv hy
    obtain ⟨v, hv, hden⟩ := All2.get hx hc
    refine ⟨v, ?_, hden⟩
    have hp := run_part he (us := xs) (off := n.toNat * te.size) w (u := v) (by
      rw [ha, hs]
      simp only [Bool.false_eq_true, if_false, cut, Nat.mul_one]
      have hlt : n.toNat < xs.length := (List.getElem?_eq_some_iff.1 hv).1
      rw [List.drop_eq_getElem_cons hlt]
      have : xs[n.toNat] = v := (List.getElem?_eq_some_iff.1 hv).2
      simp [this]) (fun _ => hs)
    simp only [Instr.index, asIntOf, Sem.run_bind, Sem.run_pure, Result.andThen_ok, run_underlying hd, h0, h1, and_self, if_true, he.size, hp]
  · exact hr.elim
theorem rIndexAddr_ok {t e : Nat} {ti te : TI} (h : FitsOne P t ti) (hel : ti.el = some e) (he : FitsOne P e te) {c i : C} {K : V → Prop} (hr : rIndexAddr L ti te c i K) :
    ∃ s, K s ∧ ∀ (M0 : Nat → Prop) (adr : Env) (L' : List (Nat × Blk)) (n : Nat) (w : World) (x y : Value), (∀ k B, look L k = some B → look L' k = some B) → WOk M0 adr L' n w → DenC adr (Mut M0 adr L') w c x → DenC adr (Mut M0 adr L') w i y →
      ∃ v, (Instr.indexAt t x y).run P w = .ok v w ∧ DenV adr (Mut M0 adr L') w s v := by
  obtain ⟨d, hd, _, _, _, _, hdel, hkd⟩ := h.desc
  rw [hel] at hdel
  have hsl : Nat.beq ti.kd 3 = true → P.underlying t = some (.slice e) := fun hk => by
    rw [Nat.eq_of_beq_eq_true hk] at hkd
    cases d <;> simp [kdOf] at hkd
    simp only [elOf, Option.some.injEq] at hdel; subst hdel; exact hd
  have har : ∀ m, Nat.beq ti.kd 4 = true → ti.sub = [m] → P.underlying t = some (.array m e) := fun m hk hm => by
    rw [Nat.eq_of_beq_eq_true hk] at hkd
    have hsb := h.sub
    rw [hd, hm] at hsb
    cases d <;> simp [kdOf] at hkd
    simp only [elOf, Option.some.injEq] at hdel; subst hdel
    simp only [Option.map_some, subOf, Option.some.injEq, List.cons.injEq, and_true] at hsb; subst hsb
    exact hd
  have runA : ∀ (len : Nat) (hu : P.underlying t = some (.array len e)) (w : World) (b o : Nat) (k : IntKind) (m : Int), 0 ≤ m → m < (len : Int) → (Instr.indexAt t (.pointer (some ⟨b, o, none⟩)) (.int k m)).run P w = .ok (.pointer (some ⟨b, o + m.toNat * te.size, none⟩)) w := by
    intro len hu w b o k m h0 h1
    simp only [Instr.indexAt, asIntOf, Sem.run_bind, Sem.run_pure, Result.andThen_ok, run_underlying hu, Instr.sureAddr, h0, h1, and_self, if_true, he.size, addr_add]
  have run : ∀ (hk : Nat.beq ti.kd 3 = true) (w : World) (b o len c : Nat) (k : IntKind) (m : Int), 0 ≤ m → m < (len : Int) → (Instr.indexAt t (.slice (some ⟨b, o, none⟩) len c) (.int k m)).run P w = .ok (.pointer (some ⟨b, o + m.toNat * te.size, none⟩)) w := by
    intro hk w b o len c k m h0 h1
    simp only [Instr.indexAt, asIntOf, Sem.run_bind, Sem.run_pure, Result.andThen_ok, run_underlying (hsl hk), h0, h1, and_self, if_true, he.size, addr_add]
  unfold rIndexAddr at hr
  split at hr
  · rename_i k m
    split at hr
    · rename_i z l
      obtain ⟨hk, hr2⟩ := onB_ok hr
      obtain ⟨hz, hr3⟩ := onB_ok hr2
      obtain ⟨h0, r, hr4, hK⟩ := hr3
      have hz := Nat.eq_of_beq_eq_true hz
      have hlt : m.toNat < l.length := (List.getElem?_eq_some_iff.1 hr4).1
      refine ⟨_, hK, fun M0 adr L' n w x y hL hw hx hy => ?_⟩
      obtain rfl := DenD.v_inv hy
      cases hx with
      | lst0 => simp at hr4
      | lst _ _ b o cp cs hb hM hl hc hlz hcell hden =>
        refine ⟨_, run hk w b o l.length cp k m h0 (by omega), ?_⟩
        refine DenD.imm r b (o + m.toNat * te.size) (fun j => cs m.toNat j) hb hM (fun j d hj => ?_) (fun j d hj => ?_)
        · have := hcell m.toNat j d (by simp [get2, hr4, hj])
          rw [hz] at this; exact this
        · exact hden m.toNat j d (by simp [get2, hr4, hj])
    · rename_i z kk
      obtain ⟨hk, hr2⟩ := onB_ok hr
      obtain ⟨hz, hr3⟩ := onB_ok hr2
      have hz := Nat.eq_of_beq_eq_true hz
      split at hr3
      · rename_i z' l e' hlk
        obtain ⟨⟨h0, h1⟩, hK⟩ := hr3
        refine ⟨_, hK, fun M0 adr L' n w x y hL hw hx hy => ?_⟩
        obtain rfl := DenD.v_inv hy
        have hloc := hw.loc kk _ (hL kk _ hlk)
        rcases hx with ⟨h5, rfl⟩ | ⟨b, q, cp, cur, ee, f, h5, h6, h7, h8, h9, rfl⟩
        · rw [h5] at hloc
          obtain ⟨_, h6, _⟩ := hloc
          subst h6; simp at h1; omega
        · rw [h5] at hloc
          have hq : l.length = q := hloc.2.1
          refine ⟨_, run hk w b 0 q cp k m h0 (by omega), b, q, h5, ?_⟩
          rw [hz]; simp
      · exact hr3.elim
    · rename_i z kk a mm
      obtain ⟨hk, hr2⟩ := onB_ok hr
      obtain ⟨hz, hr3⟩ := onB_ok hr2
      have hz := Nat.eq_of_beq_eq_true hz
      obtain ⟨⟨h0, h1⟩, hK⟩ := hr3
      refine ⟨_, hK, fun M0 adr L' n w x y hL hw hx hy => ?_⟩
      obtain rfl := DenD.v_inv hy
      rcases hx with ⟨_, _, h2⟩ | ⟨_, h2, _⟩ | ⟨b, q, cp, cur, ee, f, h5, h6, h7, h8, h9, rfl⟩
      · omega
      · omega
      · refine ⟨_, run hk w b (a * z) mm (cp - a) k m h0 h1, b, q, h5, ?_⟩
        rw [hz, Nat.add_mul, Nat.add_zero]
    · rename_i l
      obtain ⟨hk, hr2⟩ := onB_ok hr
      split at hr2
      · rename_i mm hsub
        obtain ⟨⟨h0, h1⟩, r, hrr, hK⟩ := hr2
        refine ⟨_, hK, fun M0 adr L' n w x y hL hw hx hy => ?_⟩
        obtain rfl := DenD.v_inv hy
        cases hx with
        | imm _ b o cs hb hM hcell hden =>
          refine ⟨_, runA mm (har mm hk hsub) w b o k m h0 h1, ?_⟩
          have hget : ∀ (j : Nat) d, r[j]? = some d → l[m.toNat * te.size + j]? = some d := fun j d hj => by
            rw [← hrr] at hj
            simp only [cut, List.getElem?_take, List.getElem?_drop] at hj
            split at hj
            · exact hj
            · cases hj
          refine DenD.imm r b (o + m.toNat * te.size) (fun j => cs (m.toNat * te.size + j)) hb hM (fun j d hj => ?_) (fun j d hj => hden _ d (hget j d hj))
          rw [Nat.add_assoc]; exact hcell _ d (hget j d hj)
      · exact hr2.elim
    · rename_i kk o
      obtain ⟨hk, hr2⟩ := onB_ok hr
      split at hr2
      · rename_i mm hsub
        obtain ⟨⟨h0, h1⟩, hK⟩ := hr2
        refine ⟨_, hK, fun M0 adr L' n w x y hL hw hx hy => ?_⟩
        obtain rfl := DenD.v_inv hy
        obtain ⟨b, q, h5, rfl⟩ := hx
        exact ⟨_, runA mm (har mm hk hsub) w b o k m h0 h1, b, q, h5, rfl⟩
      · exact hr2.elim
    · exact hr.elim
  · exact hr.elim

theorem optInt_ok {adr : Env} {M : Nat → Prop} {w : World} {ev : Operand → Option V} {ρ : Operand → Value} {o : Option Operand} {r : Option Int} (h : optInt ev o = some r) (hx : ∀ x, o = some x → ∀ s, ev x = some s → DenV adr M w s (ρ x)) :
    (r = none ∧ o.map ρ = none) ∨ ∃ k m, r = some m ∧ o.map ρ = some (.int k m) := by
  unfold optInt at h
  split at h
  · cases h; exact .inl ⟨rfl, rfl⟩
  · rename_i x
    split at h
    · rename_i k m hs
      cases h
      have := DenD.v_inv (hx x rfl _ hs)
      exact .inr ⟨k, m, rfl, by rw [Option.map_some, this]⟩
    · cases h
theorem run_bounds {w : World} {isSlice : Bool} {len cap : Nat} {lo hi : Option Int} {vlo vhi : Option Value} (h1 : (lo = none ∧ vlo = none) ∨ ∃ k m, lo = some m ∧ vlo = some (.int k m)) (h2 : (hi = none ∧ vhi = none) ∨ ∃ k m, hi = some m ∧ vhi = some (.int k m))
    (hlc : len ≤ cap) (g1 : 0 ≤ lo.getD 0) (g2 : lo.getD 0 ≤ hi.getD len) (g3 : hi.getD len ≤ len) : (Instr.sliceBounds isSlice len cap vlo vhi none).run P w = .ok ((lo.getD 0).toNat, (hi.getD len).toNat, cap) w := by
  rcases h1 with ⟨rfl, rfl⟩ | ⟨k, m, rfl, rfl⟩ <;> rcases h2 with ⟨rfl, rfl⟩ | ⟨k', m', rfl, rfl⟩ <;> simp only [Option.getD_none, Option.getD_some] at g1 g2 g3
  · simp [Instr.sliceBounds]
  · have e1 : (0 ≤ m' ∧ m' ≤ (cap : Int)) = True := by simp; omega
    simp [Instr.sliceBounds, Instr.sliceBound, asIntOf, e1]
  · have e1 : (0 ≤ m ∧ m ≤ (len : Int)) = True := by simp; omega
    simp [Instr.sliceBounds, Instr.sliceBound, asIntOf, e1]
  · have e1 : (0 ≤ m' ∧ m' ≤ (cap : Int)) = True := by simp; omega
    have e2 : (0 ≤ m ∧ m ≤ max m' 0) = True := by simp; omega
    simp [Instr.sliceBounds, Instr.sliceBound, asIntOf, e1, e2]
theorem rSlice_ok {t : Nat} {ti : TI} (h : FitsOne P t ti) {te : Option TI} (he : ∀ te', te = some te' → ∃ e, ti.kd = 3 ∧ ti.el = some e ∧ FitsOne P e te') {c : C} {lo hi : Option Int} {K : V → Prop} (hr : rSlice L ti te c lo hi none K) :
    ∃ s, K s ∧ ∀ (M0 : Nat → Prop) (adr : Env) (L' : List (Nat × Blk)) (n : Nat) (w : World) (x : Value) (vlo vhi : Option Value), (∀ k B, look L k = some B → look L' k = some B) → WOk M0 adr L' n w → DenC adr (Mut M0 adr L') w c x →
      ((lo = none ∧ vlo = none) ∨ ∃ k m, lo = some m ∧ vlo = some (.int k m)) → ((hi = none ∧ vhi = none) ∨ ∃ k m, hi = some m ∧ vhi = some (.int k m)) →
      ∃ v, (Instr.sliceAt t x vlo vhi none).run P w = .ok v w ∧ DenV adr (Mut M0 adr L') w s v := by
  obtain ⟨d, hd, _, _, _, _, hdel, hkd⟩ := h.desc
  have hsl : ∀ te', Nat.beq ti.kd 3 = true → te = some te' → ∃ e, P.underlying t = some (.slice e) ∧ FitsOne P e te' := fun te' hk hte' => by
    obtain ⟨e, h1, h2, h3⟩ := he te' hte'
    rw [h1] at hkd
    rw [h2] at hdel
    cases d <;> simp [kdOf] at hkd
    simp only [elOf, Option.some.injEq] at hdel; subst hdel
    exact ⟨_, hd, h3⟩
  have run : ∀ (w : World) (te' : TI) (hk : Nat.beq ti.kd 3 = true) (hte' : te = some te') (a : Option Addr) (len cap : Nat) (vlo vhi : Option Value), ((lo = none ∧ vlo = none) ∨ ∃ k m, lo = some m ∧ vlo = some (.int k m)) → ((hi = none ∧ vhi = none) ∨ ∃ k m, hi = some m ∧ vhi = some (.int k m)) →
      len ≤ cap → 0 ≤ lo.getD 0 → lo.getD 0 ≤ hi.getD len → hi.getD len ≤ len →
      (Instr.sliceAt t (.slice a len cap) vlo vhi none).run P w = .ok (.slice (if cap = (lo.getD 0).toNat then a else a.map (·.add ((lo.getD 0).toNat * te'.size))) ((hi.getD len).toNat - (lo.getD 0).toNat) (cap - (lo.getD 0).toNat)) w := by
    intro w te' hk hte' a len cap vlo vhi h1 h2 hlc g1 g2 g3
    obtain ⟨e, hu, hfe⟩ := hsl te' hk hte'
    simp only [Instr.sliceAt, Sem.run_bind, run_underlying hu, Result.andThen_ok, Instr.slice, run_bounds h1 h2 hlc g1 g2 g3, hfe.size, Sem.run_pure]
  unfold rSlice at hr
  simp only at hr
  split at hr
  · rename_i l
    obtain ⟨hk, hr2⟩ := onB_ok hr
    obtain ⟨⟨g1, g2, g3⟩, hK⟩ := hr2
    refine ⟨_, hK, fun M0 adr L' n w x vlo vhi hL hw hx h1 h2 => ?_⟩
    obtain rfl := DenD.str_inv hx
    rw [Nat.eq_of_beq_eq_true hk] at hkd
    have hstr : P.underlying t = some .string := by cases d <;> simp [kdOf] at hkd; exact hd
    have hsz : (⟨l.toArray⟩ : ByteArray).size = l.length := by simp [ByteArray.size]
    refine ⟨_, ?_, .str _⟩
    simp only [Instr.sliceAt, Sem.run_bind, run_underlying hstr, Result.andThen_ok, Instr.slice, Option.isSome_none, Bool.false_eq_true, if_false, hsz, run_bounds h1 h2 (Nat.le_refl _) g1 g2 g3, Sem.run_pure]
    congr 2
    apply ByteArray.ext
    apply Array.ext'
    simp [ByteArray.data_extract, List.extract_eq_take_drop, List.drop_take]
  · rename_i z l
    obtain ⟨hk, hr2⟩ := onB_ok hr
    split at hr2
    · rename_i te'
      obtain ⟨hz, ⟨g1, g2, g3⟩, hK⟩ := onB_ok hr2
      have hz := Nat.eq_of_beq_eq_true hz
      refine ⟨_, hK, fun M0 adr L' n w x vlo vhi hL hw hx h1 h2 => ?_⟩
      have hlen : ((l.take (hi.getD l.length).toNat).drop (lo.getD 0).toNat).length = (hi.getD l.length).toNat - (lo.getD 0).toNat := by simp; omega
      generalize hlo : (lo.getD 0).toNat = a1 at *
      cases hx with
      | lst0 _ a c hc =>
        have e0 : (hi.getD 0).toNat = 0 := by simp at g3; omega
        have e1 : a1 = 0 := by simp at g2 g3; omega
        have hr := run w te' hk rfl a 0 c vlo vhi h1 h2 (by omega) g1 g2 g3
        refine ⟨_, hr, ?_⟩
        simp only [List.take_nil, List.drop_nil]
        rw [e1]
        have : (hi.getD ↑(0 : Nat)).toNat - 0 = 0 := by simpa using e0
        rw [this]
        exact DenD.lst0 _ _ _ (by omega)
      | lst _ _ b o cp cs hb hM hl hc hlz hcell hden =>
        have hr := run w te' hk rfl (some ⟨b, o, none⟩) l.length cp vlo vhi h1 h2 hl g1 g2 g3
        refine ⟨_, hr, ?_⟩
        by_cases hcp : cp = a1
        · have h0 : (hi.getD l.length).toNat - a1 = 0 := by omega
          rw [if_pos hcp, h0]
          have hnil : (l.take (hi.getD l.length).toNat).drop a1 = [] := List.eq_nil_of_length_eq_zero (by rw [hlen]; exact h0)
          rw [hnil]
          exact DenD.lst0 _ _ _ (by omega)
        · rw [if_neg hcp]
          simp only [Option.map_some, addr_add]
          rw [← hlen]
          have hget : ∀ i j d, get2 ((l.take (hi.getD l.length).toNat).drop a1) i j = some d → get2 l (a1 + i) j = some d := by
            intro i j d hg
            simp only [get2, Option.bind_eq_some_iff, List.getElem?_drop, List.getElem?_take] at hg ⊢
            obtain ⟨r, hr1, hr2⟩ := hg
            split at hr1
            · exact ⟨r, hr1, hr2⟩
            · cases hr1
          refine DenD.lst z _ b (o + a1 * te'.size) (cp - a1) (fun i j => cs (a1 + i) j) hb hM (by rw [hlen]; omega) (by omega) (fun e he => hlz e (List.mem_of_mem_take (List.mem_of_mem_drop he))) (fun i j d hg => ?_) (fun i j d hg => hden _ _ _ (hget i j d hg))
          have := hcell (a1 + i) j d (hget i j d hg)
          rw [Nat.add_mul] at this
          rw [← hz]
          simpa [Nat.add_assoc] using this
    · exact hr2.elim
  · rename_i z k
    obtain ⟨hk, hr2⟩ := onB_ok hr
    split at hr2
    · rename_i te' z' l e' hlk
      obtain ⟨hz, ⟨g1, g2, g3⟩, hK⟩ := onB_ok hr2
      have hz := Nat.eq_of_beq_eq_true hz
      refine ⟨_, hK, fun M0 adr L' n w x vlo vhi hL hw hx h1 h2 => ?_⟩
      have hloc := hw.loc k _ (hL k _ hlk)
      generalize hlo : (lo.getD 0).toNat = a1 at *
      rcases hx with ⟨h5, rfl⟩ | ⟨b, q, cp, cur, ee, f, h5, h6, h7, h8, h9, rfl⟩
      · rw [h5] at hloc
        obtain ⟨_, h6, _⟩ := hloc
        subst h6
        have e0 : (hi.getD 0).toNat = 0 := by simp at g3; omega
        have e1 : a1 = 0 := by simp at g2 g3; omega
        have hr := run w te' hk rfl none 0 0 vlo vhi h1 h2 (by omega) g1 g2 g3
        refine ⟨_, hr, .inl ⟨?_, e1, by simpa [e1] using e0⟩⟩
        simp [e1, e0]
      · rw [h5] at hloc
        have hq : l.length = q := hloc.2.1
        subst hq
        have hr := run w te' hk rfl (some ⟨b, 0, none⟩) l.length cp vlo vhi h1 h2 h8 g1 g2 g3
        refine ⟨_, hr, ?_⟩
        by_cases hcp : cp = a1
        · have h0 : (hi.getD l.length).toNat - a1 = 0 := by omega
          rw [if_pos hcp]
          rcases Nat.eq_zero_or_pos a1 with e1 | e1
          · refine .inr (.inr ⟨b, _, cp, cur, ee, f, h5, h6, h7, by omega, h9, ?_⟩)
            simp [e1]
          · exact .inr (.inl ⟨by omega, h0, some ⟨b, 0, none⟩, cp - a1, by omega, by rw [h0]⟩)
        · rw [if_neg hcp]
          refine .inr (.inr ⟨b, _, cp, cur, ee, f, h5, h6, h7, by omega, h9, ?_⟩)
          simp [addr_add, hz]
    · exact hr2.elim
  · exact hr.elim

theorem cellsOf_ok {adr : Env} {M : Nat → Prop} {w : World} {s : V} {l : List C} {x : Value} (h : cellsOf s = some l) (hx : DenV adr M w s x) : DenCs adr M w l x.cells.toList := by
  have one : ∀ c : C, DenC adr M w c x → (∀ a, x ≠ .agg a) → DenCs adr M w [c] x.cells.toList := fun c hc hn => by
    have : x.cells = #[x] := by cases x <;> first | rfl | exact absurd rfl (hn _)
    rw [this]; exact ⟨hc, trivial⟩
  unfold cellsOf at h
  split at h
  · cases h; obtain ⟨xs, rfl, h1⟩ := hx; simpa [Value.cells] using h1
  · cases h
  · cases h
  · cases h
  · cases h
  · cases h
  · rename_i c hn1 hn2 hn3 hn4 hn5
    cases h
    refine one c hx (fun a ha => ?_)
    subst ha
    cases c with
    | d d => cases hx with
      | v => exact hn1 _ rfl
      | agg => exact hn3 _ rfl
    | ptr k o => obtain ⟨b, m, _, h2⟩ := hx; cases h2
    | elt z k i o => obtain ⟨b, m, _, h2⟩ := hx; cases h2
    | own z k i n => rcases hx with ⟨h1, _⟩ | ⟨_, _, _, _, _, h1⟩ | ⟨_, _, _, _, _, _, _, _, _, _, _, h1⟩ <;> cases h1
    | all z k => rcases hx with ⟨_, h1⟩ | ⟨_, _, _, _, _, _, _, _, _, _, _, h1⟩ <;> cases h1
    | fn f cs => obtain ⟨xs, h1, _⟩ := hx; cases h1
    | junk => exact hn5 rfl
  · cases h
theorem foldl_set (vs : List Value) : ∀ (off k : Nat) (cs : Array Value), off + k + vs.length ≤ cs.size →
    ((vs.zipIdx k).foldl (fun cs (p : Value × Nat) => cs.setIfInBounds (off + p.2) p.1) cs).toList = cs.toList.take (off + k) ++ vs ++ cs.toList.drop (off + k + vs.length) := by
  induction vs with
  | nil => intro off k cs _; simp
  | cons v r ih =>
    intro off k cs h
    simp only [List.length_cons] at h
    simp only [List.zipIdx_cons, List.foldl_cons]
    rw [ih off (k + 1) _ (by simp; omega)]
    simp only [Array.toList_setIfInBounds, List.length_cons]
    have e1 : (cs.toList.set (off + k) v).take (off + (k + 1)) = cs.toList.take (off + k) ++ [v] := by
      rw [show off + (k + 1) = off + k + 1 by omega, List.take_add_one, List.take_set_of_le (Nat.le_refl _)]
      simp [show off + k < cs.size by omega]
    have e2 : (cs.toList.set (off + k) v).drop (off + (k + 1) + r.length) = cs.toList.drop (off + k + (r.length + 1)) := by
      rw [List.drop_set_of_lt (by omega)]
      congr 1; omega
    rw [e1, e2]; simp
def All2P (adr : Env) (M : Nat → Prop) (w : World) (ps : List (Nat × V)) (qs : List (Nat × Value)) : Prop := All2 (fun p q => p.1 = q.1 ∧ DenV adr M w p.2 q.2) ps qs
theorem fillC_ok {adr : Env} {M : Nat → Prop} {w : World} {flds : List (Nat × Nat)} : ∀ {ps : List (Nat × V)} {qs : List (Nat × Value)} {cells out : List C} {xs : List Value}, fillC flds cells ps = some out → DenCs adr M w cells xs → All2P adr M w ps qs →
    ∃ ys : List Value, DenCs adr M w out ys ∧ Instr.fill (fun i => flds[i]?) xs.toArray qs = some ys.toArray
  | [], [], cells, out, xs, h, hc, _ => by simp only [fillC, Option.some.injEq] at h; subst h; exact ⟨xs, hc, rfl⟩
  | [], _ :: _, _, _, _, _, _, hp => hp.elim
  | _ :: _, [], _, _, _, _, _, hp => hp.elim
  | (i, s) :: r, (i', u) :: qs, cells, out, xs, h, hc, hp => by
    obtain ⟨⟨hi, hu⟩, hp2⟩ := hp
    simp only at hi hu
    subst hi
    simp only [fillC] at h
    split at h
    · rename_i off sz l hf hl
      rw [nth_eq] at hf
      have hd := cellsOf_ok hl hu
      cases hb : Nat.beq l.length sz with
      | false => rw [hb] at h; cases h
      | true =>
        rw [hb] at h
        cases hb2 : Nat.ble (off + l.length) cells.length with
        | false => rw [hb2] at h; cases h
        | true =>
          rw [hb2] at h
          simp only [cond_true] at h
          have e1 := Nat.eq_of_beq_eq_true hb
          have e2 := Nat.le_of_ble_eq_true hb2
          have hl1 := All2.length hd
          have hl2 := All2.length hc
          obtain ⟨ys, h3, h4⟩ := fillC_ok h (All2.over (o := off) hc hd) hp2
          refine ⟨ys, h3, ?_⟩
          have hsz : u.cells.size = l.length := by rw [← Array.length_toList, hl1]
          have hov : u.cells.zipIdx.foldl (fun cs (x : Value × Nat) => cs.setIfInBounds (off + x.2) x.1) xs.toArray = (over xs off u.cells.toList).toArray := by
            apply Array.ext'
            rw [← Array.foldl_toList, Array.toList_zipIdx]
            have := foldl_set u.cells.toList off 0 xs.toArray (by simp at hl1 hl2 ⊢; omega)
            rw [this]
            simp [over]
          simp only [Instr.fill, hf]
          rw [if_neg (by simp [hsz, e1]; omega)]
          rw [hov]
          exact h4
    · cases h
theorem pvals_ok {adr : Env} {M : Nat → Prop} {w : World} {ev : Operand → Option V} {ρ : Operand → Value} : ∀ {ps : List (Nat × Operand)} {l : List (Nat × V)}, pvals ev ps = some l → (∀ x ∈ ps.map (·.2), ∀ s, ev x = some s → DenV adr M w s (ρ x)) → All2P adr M w l (ps.map fun p => (p.1, ρ p.2))
  | [], l, hl, _ => by simp only [pvals, Option.some.injEq] at hl; subst hl; trivial
  | (i, y) :: r, l, hl, hx => by
    simp only [pvals] at hl
    split at hl
    · rename_i s l' hs hr
      cases hl
      exact ⟨⟨rfl, hx y (by simp) s hs⟩, pvals_ok hr (fun x hx' => hx x (by simp only [List.map_cons, List.mem_cons]; exact .inr hx'))⟩
    · cases hl
theorem FitsOne.built {t : Nat} {ti : TI} (h : FitsOne P t ti) (hel : ti.el = none) (hne : ti.flds ≠ []) (ps : List (Nat × Value)) : P.built t ps = Instr.fill (fun i => ti.flds[i]?) (ti.zero.map undD).toArray ps := by
  obtain ⟨d, hd, _, hfl, _, _, he, _⟩ := h.desc
  obtain ⟨i, z, hq, _, _, hz, hzc⟩ := h.infoE
  have hzc' : z.cells = (ti.zero.map undD).toArray := by rw [← hzc]
  cases d with
  | struct fs =>
    simp only [fldsOf] at hfl
    simp only [Program.built, hq, hd, hz, hfl, hzc']
    simp
  | _ => simp only [fldsOf, Option.some.injEq] at hfl; exact absurd hfl.symm hne
theorem rBuild_ok {t : Nat} {ti : TI} (h : FitsOne P t ti) {ev : Operand → Option V} {ps : List (Nat × Operand)} {K : V → Prop} (hr : rBuild ti (pvals ev ps) K) :
    ∃ s, K s ∧ ∀ (adr : Env) (M : Nat → Prop) (w : World) (ρ : Operand → Value), (∀ x ∈ ps.map (·.2), ∀ s, ev x = some s → DenV adr M w s (ρ x)) → ∃ v, (Instr.build t (ps.map fun p => (p.1, ρ p.2)).toArray).run P w = .ok v w ∧ DenV adr M w s v := by
  unfold rBuild at hr
  split at hr
  · rename_i l hp
    split at hr
    · rename_i f0 fr0 hfl hel
      split at hr
      · rename_i out hout
        refine ⟨_, hr, fun adr M w ρ hx => ?_⟩
        have hz : DenCs adr M w (ti.zero.map C.d) (ti.zero.map undD) := All2.map_left.2 (h.zeroDen M w)
        obtain ⟨ys, h1, h2⟩ := fillC_ok hout hz (pvals_ok hp hx)
        refine ⟨_, ?_, ys, rfl, h1⟩
        exact run_build w t _ _ (by rw [h.built hel (by rw [hfl]; simp)]; simpa using h2)
      · exact hr.elim
    · exact hr.elim
  · exact hr.elim
theorem rLen_ok {t : Nat} {ti : TI} (h : FitsOne P t ti) {c : C} {K : V → Prop} (hr : rLen L ti c K) :
    ∃ s, K s ∧ ∀ (M0 : Nat → Prop) (adr : Env) (L' : List (Nat × Blk)) (n : Nat) (w : World) (x : Value) (ty : TypeId), (∀ k B, look L k = some B → look L' k = some B) → WOk M0 adr L' n w → DenC adr (Mut M0 adr L') w c x →
      ∃ v, (Builtin.len_ #[t] ty #[x]).run P w = .ok v w ∧ DenV adr (Mut M0 adr L') w s v := by
  obtain ⟨d, hd, _, _, _, _, hdel, hkd⟩ := h.desc
  have hsl : Nat.beq ti.kd 3 = true → ∃ e, P.underlying t = some (.slice e) := fun hk => by
    rw [Nat.eq_of_beq_eq_true hk] at hkd
    cases d <;> simp [kdOf] at hkd
    exact ⟨_, hd⟩
  have run : ∀ (hk : Nat.beq ti.kd 3 = true) (w : World) (ty : TypeId) (a : Option Addr) (m c : Nat), (Builtin.len_ #[t] ty #[.slice a m c]).run P w = .ok (.int .i64 (m : Int)) w := by
    intro hk w ty a m c
    obtain ⟨e, he⟩ := hsl hk
    simp [Builtin.len_, run_underlying he, goInt]
  unfold rLen at hr
  split at hr
  · obtain ⟨hk, hr2⟩ := onB_ok hr
    refine ⟨_, hr2, fun M0 adr L' n w x ty hL hw hx => ?_⟩
    obtain rfl := DenD.str_inv hx
    rw [Nat.eq_of_beq_eq_true hk] at hkd
    have hstr : P.underlying t = some .string := by cases d <;> simp [kdOf] at hkd; exact hd
    rename_i l
    refine ⟨.int .i64 (l.length : Int), ?_, .v _⟩
    have hsz : (⟨l.toArray⟩ : ByteArray).size = l.length := rfl
    simp [Builtin.len_, run_underlying hstr, goInt, hsz]
  · rename_i z l
    obtain ⟨hk, hr2⟩ := onB_ok hr
    refine ⟨_, hr2, fun M0 adr L' n w x ty hL hw hx => ?_⟩
    cases hx with
    | lst0 => exact ⟨_, run hk _ _ _ _ _, .v _⟩
    | lst => exact ⟨_, run hk _ _ _ _ _, .v _⟩
  · obtain ⟨hk, hr2⟩ := onB_ok hr
    refine ⟨_, hr2, fun M0 adr L' n w x ty hL hw hx => ?_⟩
    obtain rfl := DenD.v_inv hx
    exact ⟨_, run hk _ _ _ _ _, .v _⟩
  · rename_i z k
    obtain ⟨hk, hr2⟩ := onB_ok hr
    split at hr2
    · rename_i z' l e hlk
      refine ⟨_, hr2, fun M0 adr L' n w x ty hL hw hx => ?_⟩
      have hloc := hw.loc k _ (hL k _ hlk)
      rcases hx with ⟨h5, rfl⟩ | ⟨b, q, cp, cur, ee, f, h5, h6, h7, h8, h9, rfl⟩
      · rw [h5] at hloc
        obtain ⟨_, h6, _⟩ := hloc
        subst h6
        exact ⟨_, run hk _ _ _ _ _, .v _⟩
      · rw [h5] at hloc
        have hq : l.length = q := hloc.2.1
        subst hq
        exact ⟨_, run hk _ _ _ _ _, .v _⟩
    · exact hr2.elim
  · rename_i z k i m
    obtain ⟨hk, hr2⟩ := onB_ok hr
    refine ⟨_, hr2, fun M0 adr L' n w x ty hL hw hx => ?_⟩
    rcases hx with ⟨rfl, h1, h2⟩ | ⟨_, h2, a, c, _, rfl⟩ | ⟨b, q, cp, cur, ee, f, h5, h6, h7, h8, h9, rfl⟩
    · subst h2; exact ⟨_, run hk _ _ _ _ _, .v _⟩
    · subst h2; exact ⟨_, run hk _ _ _ _ _, .v _⟩
    · exact ⟨_, run hk _ _ _ _ _, .v _⟩
  · exact hr.elim
theorem rMinMax_ok {mn : Bool} {c d : C} {K : V → Prop} (hr : rMinMax mn c d K) : ∃ s, K s ∧ ∀ (adr : Env) (M : Nat → Prop) (w : World) (x y : Value) (ts : Array TypeId) (ty : TypeId), DenC adr M w c x → DenC adr M w d y →
    ∃ v, (match mn with | true => (Builtin.min_ ts ty #[x, y]).run P w | false => (Builtin.max_ ts ty #[x, y]).run P w) = .ok v w ∧ DenV adr M w s v := by
  unfold rMinMax at hr
  split at hr
  · rename_i k a k' b
    obtain ⟨hk, hr2⟩ := onB_ok hr
    obtain rfl := ikeq_ok hk
    cases mn with
    | true =>
      refine ⟨_, hr2, fun adr M w x y ts ty hx hy => ?_⟩
      obtain rfl := DenD.v_inv hx
      obtain rfl := DenD.v_inv hy
      exact ⟨_, by simp [Builtin.min_, Builtin.min2], .v _⟩
    | false =>
      refine ⟨_, hr2, fun adr M w x y ts ty hx hy => ?_⟩
      obtain rfl := DenD.v_inv hx
      obtain rfl := DenD.v_inv hy
      exact ⟨_, by simp [Builtin.max_, Builtin.max2], .v _⟩
  · exact hr.elim
end

/-! ### All of them -/
def elTI (tt : List (Nat × TI)) (ti : TI) : Option TI :=
  match Nat.beq ti.kd 3, ti.el with
  | true, some e => look tt e
  | _, _ => none
theorem elTI_ok {P : Program} {tt : List (Nat × TI)} (hT : Fits P tt) {ti te : TI} (h : elTI tt ti = some te) : ∃ e, ti.kd = 3 ∧ ti.el = some e ∧ FitsOne P e te := by
  unfold elTI at h
  split at h
  · rename_i e h1 h2
    exact ⟨e, Nat.eq_of_beq_eq_true h1, h2, hT e te h⟩
  · cases h
def pOp (tt : List (Nat × TI)) (ev : Operand → Option V) (L : List (Nat × Blk)) (op : Op) (K : V → Prop) : Prop :=
  match op with
  | .move x => onS (ev x) K
  | .assign x => onS (ev x) K
  | .pick c a b => onC (ev c) fun cc => onBool cc fun t => onS (ev (match t with | true => a | false => b)) K
  | .fieldAddr t x f => onC (ev x) fun c => onT tt t fun ti => rField ti f c K
  | .load t x => onC (ev x) fun c => onT tt t fun ti => rLoad L ti c K
  | .extract x i => onS (ev x) fun s => rExtract s i K
  | .unOp o _ x => onC (ev x) fun c => rUn o c K
  | .binOp o t x y _ => onS (ev x) fun u => onS (ev y) fun v => rBin tt o t x y u v K
  | .convert s d x => onC (ev x) fun c => onT tt s fun ts => onT tt d fun td => rConv L ts td (elTI tt ts) c K
  | .makeInterface t x => onS (ev x) fun s => onT tt t fun ti => rIface ti t s K
  | .makeFunc fn first caps => match fn, first with
    | .func f, ⟨[]⟩ => (match capsOf ev caps.toList with
      | some l => K (.c (.fn f l))
      | none => False)
    | _, _ => False
  | .nilCheck x => onC (ev x) fun c => rNil c K
  | .index t x i => onS (ev x) fun s => onC (ev i) fun d => onT tt t fun ti => match s with
    | .agg l => (match ti.el with
      | some e => onT tt e fun te => rIndexA ti te l d K
      | none => False)
    | .c c => rIndex ti c d K
    | _ => False
  | .indexAddr t x i => onC (ev x) fun c => onC (ev i) fun d => onT tt t fun ti => match ti.el with
    | some e => onT tt e fun te => rIndexAddr L ti te c d K
    | none => False
  | .slice t x lo hi mx => onC (ev x) fun c => onT tt t fun ti => match optInt ev lo, optInt ev hi, mx with
    | some l, some h, none => rSlice L ti (elTI tt ti) c l h none K
    | _, _, _ => False
  | .build t ps => onT tt t fun ti => rBuild ti (pvals ev ps.toList) K
  | .call c => match c.callee, c.args, c.argTypes with
    | .builtin .len, ⟨[x]⟩, ⟨[t]⟩ => onC (ev x) fun cc => onT tt t fun ti => rLen L ti cc K
    | .builtin .min, ⟨[x, y]⟩, _ => onC (ev x) fun cx => onC (ev y) fun cy => rMinMax true cx cy K
    | .builtin .max, ⟨[x, y]⟩, _ => onC (ev x) fun cx => onC (ev y) fun cy => rMinMax false cx cy K
    | _, _, _ => False
  | _ => False
theorem pOp_ok {P : Program} {gl : List (Nat × List D)} {tt : List (Nat × TI)} (hT : Fits P tt) {ev : Operand → Option V} {L : List (Nat × Blk)} {o : Oper} {K : V → Prop} (h : pOp tt ev L o.op K) : ∃ s, K s ∧ Gives P gl ev L o s := by
  obtain ⟨dst, op, ty, pos, after, guard⟩ := o
  cases op with
  | move x =>
    obtain ⟨s, hs, hK⟩ := onS_ok h
    exact ⟨s, hK, fun M0 adr L' n w ρ hL hw hg hx => ⟨_, rfl, hx x (by simp [Op.operands]) s hs⟩⟩
  | assign x =>
    obtain ⟨s, hs, hK⟩ := onS_ok h
    exact ⟨s, hK, fun M0 adr L' n w ρ hL hw hg hx => ⟨_, rfl, hx x (by simp [Op.operands]) s hs⟩⟩
  | pick c y z =>
    obtain ⟨cc, hc, h1⟩ := onC_ok h
    obtain ⟨b, h2, h3⟩ := onBool_ok h1
    obtain ⟨s, hs, hK⟩ := onS_ok h2
    refine ⟨s, hK, fun M0 adr L' n w ρ hL hw hg hx => ?_⟩
    have hcv := h3 _ _ _ _ (hx c (by simp [Op.operands]) _ hc)
    refine ⟨if b then ρ y else ρ z, by simp [execOp, hcv, asBool], ?_⟩
    cases b
    · exact hx z (by simp [Op.operands]) s hs
    · exact hx y (by simp [Op.operands]) s hs
  | fieldAddr t x f =>
    obtain ⟨c, hc, h1⟩ := onC_ok h
    obtain ⟨ti, hl, h2⟩ := onT_ok h1
    obtain ⟨s, hK, hr⟩ := rField_ok (hT t ti hl) h2
    refine ⟨s, hK, fun M0 adr L' n w ρ hL hw hg hx => ?_⟩
    obtain ⟨v, h3, h4⟩ := hr adr _ w _ (hx x (by simp [Op.operands]) _ hc)
    exact ⟨v, by simp only [execOp, Sem.run_bind, h3, Result.andThen_ok, Sem.run_pure], h4⟩
  | load t x =>
    obtain ⟨c, hc, h1⟩ := onC_ok h
    obtain ⟨ti, hl, h2⟩ := onT_ok h1
    obtain ⟨s, hK, hr⟩ := rLoad_ok (hT t ti hl) h2
    refine ⟨s, hK, fun M0 adr L' n w ρ hL hw hg hx => ?_⟩
    obtain ⟨v, h3, h4⟩ := hr M0 adr L' n w _ hL hw (hx x (by simp [Op.operands]) _ hc)
    exact ⟨v, by simp only [execOp, Sem.run_bind, h3, Result.andThen_ok, Sem.run_pure], h4⟩
  | extract x i =>
    obtain ⟨c, hc, h1⟩ := onS_ok h
    obtain ⟨s, hK, hr⟩ := rExtract_ok (P := P) h1
    refine ⟨s, hK, fun M0 adr L' n w ρ hL hw hg hx => ?_⟩
    obtain ⟨v, h3, h4⟩ := hr adr _ w _ (hx x (by simp [Op.operands]) _ hc)
    exact ⟨v, by simp only [execOp, Sem.run_bind, h3, Result.andThen_ok, Sem.run_pure], h4⟩
  | unOp op t x =>
    obtain ⟨c, hc, h1⟩ := onC_ok h
    obtain ⟨s, hK, hr⟩ := rUn_ok (P := P) h1
    refine ⟨s, hK, fun M0 adr L' n w ρ hL hw hg hx => ?_⟩
    obtain ⟨v, h3, h4⟩ := hr adr _ w _ (hx x (by simp [Op.operands]) _ hc)
    exact ⟨v, by simp only [execOp, Sem.run_bind, h3, Result.andThen_ok, Sem.run_pure], h4⟩
  | binOp op t x y yt =>
    obtain ⟨u, hu, h1⟩ := onS_ok h
    obtain ⟨v, hv, h2⟩ := onS_ok h1
    obtain ⟨s, hK, hr⟩ := rBin_ok hT h2
    refine ⟨s, hK, fun M0 adr L' n w ρ hL hw hg hx => ?_⟩
    obtain ⟨r, h3, h4, h5⟩ := hr adr _ w _ _ (hx x (by simp [Op.operands]) _ hu) (hx y (by simp [Op.operands]) _ hv)
    exact ⟨r, by simp only [execOp, Sem.run_bind, h3, h4, Result.andThen_ok, Sem.run_pure], h5⟩
  | convert src dst x =>
    obtain ⟨c, hc, h1⟩ := onC_ok h
    obtain ⟨ts, hl, h2⟩ := onT_ok h1
    obtain ⟨td, hl2, h3⟩ := onT_ok h2
    obtain ⟨s, hK, hr⟩ := rConv_ok (hT src ts hl) (hT dst td hl2) (fun te hte => elTI_ok hT hte) h3
    refine ⟨s, hK, fun M0 adr L' n w ρ hL hw hg hx => ?_⟩
    obtain ⟨v, h4, h5⟩ := hr M0 adr L' n w _ hL hw (hx x (by simp [Op.operands]) _ hc)
    exact ⟨v, by simp only [execOp, Sem.run_bind, h4, Result.andThen_ok, Sem.run_pure], h5⟩
  | makeInterface t x =>
    obtain ⟨u, hu, h1⟩ := onS_ok h
    obtain ⟨ti, hl, h2⟩ := onT_ok h1
    obtain ⟨s, hK, hr⟩ := rIface_ok (hT t ti hl) h2
    refine ⟨s, hK, fun M0 adr L' n w ρ hL hw hg hx => ?_⟩
    obtain ⟨v, h3, h4⟩ := hr adr _ w _ (hx x (by simp [Op.operands]) _ hu)
    exact ⟨v, by simp only [execOp, Sem.run_bind, h3, Result.andThen_ok, Sem.run_pure], h4⟩
  | makeFunc fn first caps =>
    simp only [pOp] at h
    split at h
    · rename_i f
      split at h
      · rename_i l hl
        refine ⟨_, h, fun M0 adr L' n w ρ hL hw hg hx => ⟨.func (.func f) #[] (caps.map ρ), by simp [execOp, Instr.makeFunc], (caps.map ρ).toList, by rw [Array.toArray_toList], ?_⟩⟩
        have := capsOf_ok hl (fun y hy => hx y (by simp [Op.operands] at hy ⊢; exact hy))
        simpa using this
      · exact h.elim
    · exact h.elim
  | nilCheck x =>
    obtain ⟨c, hc, h1⟩ := onC_ok h
    unfold rNil at h1
    split at h1
    · refine ⟨_, h1, fun M0 adr L' n w ρ hL hw hg hx => ?_⟩
      have hd := hx x (by simp [Op.operands]) _ hc
      obtain ⟨b, m, e1, e2⟩ := hd
      exact ⟨_, by simp [execOp, e2], b, m, e1, rfl⟩
    · refine ⟨_, h1, fun M0 adr L' n w ρ hL hw hg hx => ?_⟩
      have hd := hx x (by simp [Op.operands]) _ hc
      obtain ⟨b, m, e1, e2⟩ := hd
      exact ⟨_, by simp [execOp, e2], b, m, e1, rfl⟩
    · refine ⟨_, h1, fun M0 adr L' n w ρ hL hw hg hx => ?_⟩
      have hd : DenD _ w _ _ := hx x (by simp [Op.operands]) _ hc
      refine ⟨ρ x, ?_, hd⟩
      cases hq : ρ x <;> rw [hq] at hd <;> cases hd
      simp [execOp, hq]
    · refine ⟨_, h1, fun M0 adr L' n w ρ hL hw hg hx => ?_⟩
      have hd := hx x (by simp [Op.operands]) _ hc
      obtain ⟨xs, e1, e2⟩ := hd
      exact ⟨_, by simp [execOp, e1], xs, rfl, e2⟩
    · refine ⟨_, h1, fun M0 adr L' n w ρ hL hw hg hx => ?_⟩
      have hd := hx x (by simp [Op.operands]) _ hc
      have e1 := DenD.v_inv hd
      exact ⟨_, by simp [execOp, e1], DenD.v _⟩
    · refine ⟨_, h1, fun M0 adr L' n w ρ hL hw hg hx => ?_⟩
      have hd : DenD _ w _ _ := hx x (by simp [Op.operands]) _ hc
      refine ⟨ρ x, ?_, hd⟩
      cases hq : ρ x <;> rw [hq] at hd <;> cases hd
      all_goals simp [execOp, hq]
    · exact h1.elim
  | index t x i =>
    obtain ⟨s, hs, h1⟩ := onS_ok h
    obtain ⟨d, hd, h2⟩ := onC_ok h1
    obtain ⟨ti, hl, h3⟩ := onT_ok h2
    clear h h1 h2
    split at h3
    · rename_i l
      split at h3
      · rename_i e he
        obtain ⟨te, hle, h4⟩ := onT_ok h3
        obtain ⟨s, hK, hr⟩ := rIndexA_ok (hT t ti hl) he (hT e te hle) h4
        refine ⟨s, hK, fun M0 adr L' n w ρ hL hw hg hx => ?_⟩
        obtain ⟨v, h4, h5⟩ := hr adr _ w _ _ (hx x (by simp [Op.operands]) _ hs) (hx i (by simp [Op.operands]) _ hd)
        exact ⟨v, by simp only [execOp, Sem.run_bind, h4, Result.andThen_ok, Sem.run_pure], h5⟩
      · exact h3.elim
    · obtain ⟨s, hK, hr⟩ := rIndex_ok (hT t ti hl) h3
      refine ⟨s, hK, fun M0 adr L' n w ρ hL hw hg hx => ?_⟩
      obtain ⟨v, h4, h5⟩ := hr adr _ w _ _ (hx x (by simp [Op.operands]) _ hs) (hx i (by simp [Op.operands]) _ hd)
      exact ⟨v, by simp only [execOp, Sem.run_bind, h4, Result.andThen_ok, Sem.run_pure], h5⟩
    · exact h3.elim
  | indexAddr t x i =>
    obtain ⟨c, hc, h1⟩ := onC_ok h
    obtain ⟨d, hd, h2⟩ := onC_ok h1
    obtain ⟨ti, hl, h3⟩ := onT_ok h2
    split at h3
    · rename_i e he
      obtain ⟨te, hle, h4⟩ := onT_ok h3
      obtain ⟨s, hK, hr⟩ := rIndexAddr_ok (hT t ti hl) he (hT e te hle) h4
      refine ⟨s, hK, fun M0 adr L' n w ρ hL hw hg hx => ?_⟩
      obtain ⟨v, h5, h6⟩ := hr M0 adr L' n w _ _ hL hw (hx x (by simp [Op.operands]) _ hc) (hx i (by simp [Op.operands]) _ hd)
      exact ⟨v, by simp only [execOp, Sem.run_bind, h5, Result.andThen_ok, Sem.run_pure], h6⟩
    · exact h3.elim
  | slice t x lo hi mx =>
    obtain ⟨c, hc, h1⟩ := onC_ok h
    obtain ⟨ti, hl, h2⟩ := onT_ok h1
    split at h2
    · rename_i l hh h3 h4
      obtain ⟨s, hK, hr⟩ := rSlice_ok (hT t ti hl) (fun te hte => elTI_ok hT hte) h2
      refine ⟨s, hK, fun M0 adr L' n w ρ hL hw hg hx => ?_⟩
      obtain ⟨v, h5, h6⟩ := hr M0 adr L' n w _ (lo.map ρ) (hi.map ρ) hL hw (hx x (by simp [Op.operands]) _ hc)
        (optInt_ok h3 (fun y hy s hs => hx y (by subst hy; simp [Op.operands]) s hs)) (optInt_ok h4 (fun y hy s hs => hx y (by subst hy; simp [Op.operands]) s hs))
      exact ⟨v, by simp only [execOp, Option.map_none, Sem.run_bind, h5, Result.andThen_ok, Sem.run_pure], h6⟩
    · exact h2.elim
  | build t ps =>
    obtain ⟨ti, hl, h1⟩ := onT_ok h
    obtain ⟨s, hK, hr⟩ := rBuild_ok (hT t ti hl) h1
    refine ⟨s, hK, fun M0 adr L' n w ρ hL hw hg hx => ?_⟩
    obtain ⟨v, h3, h4⟩ := hr adr (Mut M0 adr L') w ρ (fun x hx' s hs => hx x (by simpa [Op.operands] using hx') s hs)
    have e : (ps.map fun (i, x) => (i, ρ x)) = (ps.toList.map fun p => (p.1, ρ p.2)).toArray := by apply Array.ext'; simp
    exact ⟨v, by simp only [execOp, e, Sem.run_bind, h3, Result.andThen_ok, Sem.run_pure], h4⟩
  | call c =>
    obtain ⟨callee, args, ats⟩ := c
    simp only [pOp] at h
    split at h
    · rename_i x t
      obtain ⟨c, hc, h1⟩ := onC_ok h
      obtain ⟨ti, hl, h2⟩ := onT_ok h1
      obtain ⟨s, hK, hr⟩ := rLen_ok (hT t ti hl) h2
      refine ⟨s, hK, fun M0 adr L' n w ρ hL hw hg hx => ?_⟩
      obtain ⟨v, h3, h4⟩ := hr M0 adr L' n w _ ty hL hw (hx x (by simp [Op.operands, Call.operands]) _ hc)
      have h3' : (Builtin.len_ { toList := [t] } ty #[ρ x]).run P w = .ok v w := h3
      refine ⟨v, ?_, h4⟩
      simp [execOp, resolve, invoke, builtin, h3']
    · rename_i x y
      obtain ⟨cx, hcx, h1⟩ := onC_ok h
      obtain ⟨cy, hcy, h2⟩ := onC_ok h1
      obtain ⟨s, hK, hr⟩ := rMinMax_ok (P := P) h2
      refine ⟨s, hK, fun M0 adr L' n w ρ hL hw hg hx => ?_⟩
      obtain ⟨v, h3, h4⟩ := hr adr _ w _ _ ats ty (hx x (by simp [Op.operands, Call.operands]) _ hcx) (hx y (by simp [Op.operands, Call.operands]) _ hcy)
      refine ⟨v, ?_, h4⟩
      simp only at h3
      simp [execOp, resolve, invoke, builtin, h3]
    · rename_i x y
      obtain ⟨cx, hcx, h1⟩ := onC_ok h
      obtain ⟨cy, hcy, h2⟩ := onC_ok h1
      obtain ⟨s, hK, hr⟩ := rMinMax_ok (P := P) h2
      refine ⟨s, hK, fun M0 adr L' n w ρ hL hw hg hx => ?_⟩
      obtain ⟨v, h3, h4⟩ := hr adr _ w _ _ ats ty (hx x (by simp [Op.operands, Call.operands]) _ hcx) (hx y (by simp [Op.operands, Call.operands]) _ hcy)
      refine ⟨v, ?_, h4⟩
      simp only at h3
      simp [execOp, resolve, invoke, builtin, h3]
    · exact h.elim
  | _ => exact h.elim
end Go.EYtbkhfmgdnnaaoaaGreatDoor
end

section
namespace Go.EYtbkhfmgdnnaaoaaGreatDoor
open Go Go.RowKit

section
variable {gl : List (Nat × List D)} {M0 S0 : Nat → Prop} {w0 : Base} {N : Nat} {adr : Env} {fr : List (Nat × V)} {L : List (Nat × Blk)} {n : Nat} {a : Act} {w : World}
theorem Evo.drew (S : Nat → Prop) (w : World) : Evo S w w.drew := ⟨rfl, rfl, rfl, Nat.le_refl _, fun _ _ _ => rfl, fun _ cur _ _ h => ⟨cur, h, rfl⟩⟩
theorem WOk.evo {w' : World} (h : WOk M0 adr L n w) (hE : Evo (fun _ => False) w w') : WOk M0 adr L n w' :=
  ⟨h.keys, h.fresh, fun k B hl => (h.loc k B hl).evo hE (fun _ _ h => h.elim) (fun _ _ h => h) (fun b _ _ hb => hE.block b hb (fun h => h)) (fun _ _ _ _ _ _ _ _ he => he), h.inj, h.prot, fun b hb => Nat.lt_of_lt_of_le (h.bound b hb) hE.size⟩
/-- The world goes on beside what is tracked. -/
theorem Ok.evo {w' : World} (h : Ok gl M0 S0 w0 N adr fr L n a w) (hE : Evo (fun _ => False) w w') : Ok gl M0 S0 w0 N adr fr L n a w' :=
  h.move hE (fun _ _ hs => hs.elim) (fun _ _ hm => hm) (fun _ _ hl => ⟨hl, fun _ _ _ he => he⟩) (h.wok.evo hE) h.new (fun _ _ hk => ⟨hk, rfl⟩)
theorem Ok.drew (h : Ok gl M0 S0 w0 N adr fr L n a w) : Ok gl M0 S0 w0 N adr fr L n a w.drew := h.evo (Evo.drew _ w)
theorem killL_kill (h : WOk M0 adr L n w) (k : Nat) : WOk M0 adr (killL k L) n w := by
  have hm : Mut M0 adr (killL k L) = Mut M0 adr L := funext fun _ => propext mut_killL
  have lk : ∀ j B, look (killL k L) j = some B → ∃ B0, look L j = some B0 ∧ B = killB k B0 := fun j B hl => by
    rw [look_killL] at hl
    obtain ⟨B0, h1, h2⟩ := Option.map_eq_some_iff.1 hl
    exact ⟨B0, h1, h2.symm⟩
  refine ⟨fun j B hl => ?_, h.fresh, fun j B hl => ?_, fun j j' B1 B2 b m m' h1 h2 h3 h4 => ?_, fun j B b m hl ha => ?_, h.bound⟩
  · obtain ⟨B0, h1, _⟩ := lk j B hl; exact h.keys j B0 h1
  · obtain ⟨B0, h1, rfl⟩ := lk j B hl
    have hlo := h.loc j B0 h1
    rw [hm]
    cases B0 with
    | rows z l e => exact hlo
    | var l t =>
      cases hq : adr j with
      | none => rw [hq] at hlo; exact hlo.elim
      | some q =>
        obtain ⟨q1, q2⟩ := q
        cases q1 with
        | none => rw [hq] at hlo; exact hlo.elim
        | some b => rw [hq] at hlo; obtain ⟨xs, g2, g3⟩ := hlo; exact ⟨xs, g2, killC_den g3⟩
  · obtain ⟨C1, g1, _⟩ := lk _ _ h1
    obtain ⟨C2, g2, _⟩ := lk _ _ h2
    exact h.inj j j' C1 C2 b m m' g1 g2 h3 h4
  · obtain ⟨B0, h1, _⟩ := lk j B hl; exact h.prot j B0 b m h1 ha
theorem Ok.kill (h : Ok gl M0 S0 w0 N adr fr L n a w) (k : Nat) : Ok gl M0 S0 w0 N adr (killF k fr) (killL k L) n a w := by
  have hm : Mut M0 adr (killL k L) = Mut M0 adr L := funext fun _ => propext mut_killL
  have h' := h.fewer (fr' := killF k fr) (fun t s hl => by rcases look_killF hl with h1 | h1; exact .inl h1; exact .inr h1.1)
  refine ⟨h.size, h.defers, by rw [hm]; exact h'.fr, killL_kill h.wok k, by rw [hm]; exact h.glob, h.base, fun j B b m hl ha => ?_, h.same⟩
  rw [look_killL] at hl
  obtain ⟨B0, h1, _⟩ := Option.map_eq_some_iff.1 hl
  exact h.new j B0 b m h1 ha
theorem setL_same {k : Nat} {B : Blk} : ∀ {L : List (Nat × Blk)}, look L k = some B → setL L k B = L
  | [], h => by cases h
  | (j, B') :: r, h => by
    rw [look_cons] at h
    simp only [setL]
    cases hb : Nat.beq j k with
    | true =>
      have e := Nat.eq_of_beq_eq_true hb
      rw [if_pos e] at h; cases h; rfl
    | false =>
      have e := Nat.ne_of_beq_eq_false hb
      rw [if_neg e] at h
      simp only [cond_false]
      rw [setL_same h]
end

/-! ### Rows as data -/
def onRows (L : List (Nat × Blk)) (z : Nat) (c : C) (K : List (List D) → Prop) : Prop :=
  match c with
  | .all z' k => onB (Nat.beq z' z) (match look L k with
    | some (.rows z'' l _) => onB (Nat.beq z'' z) (K l)
    | _ => False)
  | .own z' k i q => onB (Nat.beq z' z) (match look L k with
    | some (.rows z'' l _) => onB (Nat.beq z'' z) (i + q ≤ l.length ∧ K ((l.drop i).take q))
    | _ => False)
  | .d (.lst z' l) => onB (Nat.beq z' z) (K l)
  | .d (.v (.slice none 0 0)) => K []
  | _ => False
/-- What a value of rows holds, wherever it lies. -/
def RowsAt (M : Nat → Prop) (w : World) (z : Nat) (rs : List (List D)) (x : Value) : Prop :=
  (∀ r ∈ rs, r.length = z) ∧ ∃ (a : Option Addr) (c : Nat) (xs : List Value), x = .slice a rs.length c ∧ DenL M w rs.flatten xs ∧ xs.length = rs.length * z ∧ (rs = [] ∨ ∃ ad, a = some ad ∧ ∀ (j : Nat) u, xs[j]? = some u → w.cell? (ad.add j) = some u)
theorem get2_flat {z i j : Nat} : ∀ {l : List (List D)}, (∀ r ∈ l, r.length = z) → j < z → l.flatten[i * z + j]? = get2 l i j
  | [], _, _ => by simp [get2]
  | r :: l, h, hj => by
    have hr := h r (by simp)
    have hrest : ∀ r' ∈ l, r'.length = z := fun r' hr' => h r' (by simp [hr'])
    simp only [List.flatten_cons]
    cases i with
    | zero =>
      rw [Nat.zero_mul, Nat.zero_add, List.getElem?_append_left (by omega)]
      simp [get2]
    | succ i =>
      have e : (i + 1) * z + j = r.length + (i * z + j) := by rw [hr, Nat.add_mul]; omega
      rw [e, List.getElem?_append_right (by omega), show r.length + (i * z + j) - r.length = i * z + j by omega, get2_flat hrest hj]
      simp [get2]
theorem get2_lt {z i j : Nat} {l : List (List D)} {d : D} (h : ∀ r ∈ l, r.length = z) (hg : get2 l i j = some d) : i < l.length ∧ j < z := by
  simp only [get2, Option.bind_eq_some_iff] at hg
  obtain ⟨r, h1, h2⟩ := hg
  have h3 := h r (List.mem_of_getElem? h1)
  exact ⟨(List.getElem?_eq_some_iff.1 h1).1, by rw [← h3]; exact (List.getElem?_eq_some_iff.1 h2).1⟩
theorem lst_rows {M : Nat → Prop} {w : World} {z : Nat} {l : List (List D)} {x : Value} (h : DenD M w (.lst z l) x) : RowsAt M w z l x := by
  cases h with
  | lst0 _ a c hc => exact ⟨by simp, a, c, [], rfl, trivial, by simp, .inl rfl⟩
  | lst _ _ b o c cs hb hM hl hc hz hcell hden =>
    have hfl := flatten_length hz
    have hzz : ∀ j, j < l.length * z → 0 < z := fun j hj => by
      rcases Nat.eq_zero_or_pos z with h0 | h0
      · rw [h0] at hj; simp at hj
      · exact h0
    refine ⟨hz, _, c, (List.range (l.length * z)).map fun j => cs (j / z) (j % z), rfl, ?_, by simp, .inr ⟨_, rfl, fun j u hj => ?_⟩⟩
    · refine All2.of_get (by simpa using hfl) fun j d x h1 h2 => ?_
      have hjlt : j < l.length * z := by rw [← hfl]; exact (List.getElem?_eq_some_iff.1 h1).1
      rw [List.getElem?_map, List.getElem?_range hjlt] at h2
      simp only [Option.map_some, Option.some.injEq] at h2; subst h2
      have hz0 := hzz j hjlt
      have hm := Nat.mod_lt j hz0
      have e : j / z * z + j % z = j := by rw [Nat.mul_comm]; exact Nat.div_add_mod j z
      have := get2_flat (i := j / z) hz hm
      rw [e, h1] at this
      exact hden _ _ _ this.symm
    · rw [List.getElem?_map] at hj
      obtain ⟨j', h1, rfl⟩ := Option.map_eq_some_iff.1 hj
      have hjlt : j < l.length * z := by
        have := (List.getElem?_eq_some_iff.1 h1).1; simpa using this
      rw [List.getElem?_range hjlt] at h1
      cases h1
      have hz0 := hzz j hjlt
      have hm := Nat.mod_lt j hz0
      have e : j / z * z + j % z = j := by rw [Nat.mul_comm]; exact Nat.div_add_mod j z
      have h2 := get2_flat (i := j / z) hz hm
      rw [e] at h2
      obtain ⟨d, hd⟩ : ∃ d, l.flatten[j]? = some d := ⟨_, List.getElem?_eq_getElem (by rw [hfl]; exact hjlt)⟩
      rw [hd] at h2
      have := hcell _ _ _ h2.symm
      rw [addr_add, show o + j = o + j / z * z + j % z by omega]
      exact this
theorem onRows_ok {L : List (Nat × Blk)} {z : Nat} {c : C} {K : List (List D) → Prop} (h : onRows L z c K) : ∃ rs, K rs ∧ ∀ (M0 : Nat → Prop) (adr : Env) (L' : List (Nat × Blk)) (n : Nat) (w : World) (x : Value), (∀ k B, look L k = some B → look L' k = some B) → WOk M0 adr L' n w → DenC adr (Mut M0 adr L') w c x →
    RowsAt (Mut M0 adr L') w z rs x := by
  unfold onRows at h
  split at h
  · rename_i z' k
    obtain ⟨hz, h2⟩ := onB_ok h
    have hz := Nat.eq_of_beq_eq_true hz
    subst hz
    split at h2
    · rename_i z'' l e hk
      obtain ⟨hz, hK⟩ := onB_ok h2
      have hz := Nat.eq_of_beq_eq_true hz
      subst hz
      refine ⟨l, hK, fun M0 adr L' n w x hL hw hx => ?_⟩
      have hloc := hw.loc k _ (hL k _ hk)
      rcases hx with ⟨h5, rfl⟩ | ⟨b, q, cp, cur, ee, f, h5, h6, h7, h8, h9, rfl⟩
      · rw [h5] at hloc
        obtain ⟨_, h6, _⟩ := hloc
        subst h6
        exact ⟨by simp, none, 0, [], rfl, trivial, by simp, .inl rfl⟩
      · rw [h5] at hloc
        obtain ⟨g1, g2, g3, cur', cp', g4, g5, g6, g7, g8⟩ := hloc
        subst g2
        rw [h6] at g4; cases g4
        refine ⟨g3, _, cp, _, rfl, g8, ?_, .inr ⟨_, rfl, fun j u hj => ?_⟩⟩
        · have := All2.length g8; rw [flatten_length g3] at this; omega
        · rw [List.getElem?_take] at hj
          split at hj
          · rw [addr_add]
            simp only [World.cell?, h6]
            simpa using hj
          · cases hj
    · exact h2.elim
  · rename_i z' k i q
    obtain ⟨hz, h2⟩ := onB_ok h
    have hz := Nat.eq_of_beq_eq_true hz
    subst hz
    split at h2
    · rename_i z'' l e hk
      obtain ⟨hz, hle, hK⟩ := onB_ok h2
      have hz := Nat.eq_of_beq_eq_true hz
      subst hz
      refine ⟨_, hK, fun M0 adr L' n w x hL hw hx => ?_⟩
      have hloc := hw.loc k _ (hL k _ hk)
      have hlen : ((l.drop i).take q).length = q := by simp; omega
      rcases hx with ⟨rfl, h1, h2⟩ | ⟨_, h2, a, cp, hc, rfl⟩ | ⟨b, m, cp, cur, ee, f, h5, h6, h7, h8, h9, rfl⟩
      · subst h2
        simp only [List.take_zero]
        exact ⟨by simp, none, 0, [], rfl, trivial, by simp, .inl rfl⟩
      · subst h2
        simp only [List.take_zero]
        exact ⟨by simp, a, cp, [], rfl, trivial, by simp, .inl rfl⟩
      · rw [h5] at hloc
        obtain ⟨g1, g2, g3, cur', cp', g4, g5, g6, g7, g8⟩ := hloc
        rw [h6] at g4; cases g4
        have hr3 : ∀ r ∈ l.drop i, r.length = z'' := fun r hr => g3 r (List.mem_of_mem_drop hr)
        have hfl : ((l.drop i).take q).flatten = (l.flatten.drop (i * z'')).take (q * z'') := by
          rw [flatten_take_drop hr3, flatten_drop g3]
        have hx : DenL (Mut M0 adr L') w ((l.drop i).take q).flatten (((cur.toList.take (l.length * z'')).drop (i * z'')).take (q * z'')) := by
          rw [hfl]; exact (g8.drop _).take _
        refine ⟨fun r hr => hr3 r (List.mem_of_mem_take hr), _, _, _, by rw [hlen], hx, ?_, .inr ⟨_, rfl, fun j u hj => ?_⟩⟩
        · have h1 := All2.length hx
          rw [flatten_length (fun r hr => hr3 r (List.mem_of_mem_take hr))] at h1
          exact h1.symm
        · rw [List.getElem?_take] at hj
          split at hj
          · rw [List.getElem?_drop, List.getElem?_take] at hj
            split at hj
            · rw [addr_add]
              simp only [World.cell?, h6]
              simpa using hj
            · cases hj
          · cases hj
    · exact h2.elim
  · rename_i z' l
    obtain ⟨hz, h2⟩ := onB_ok h
    have hz := Nat.eq_of_beq_eq_true hz
    subst hz
    exact ⟨l, h2, fun M0 adr L' n w x hL hw hx => lst_rows hx⟩
  · refine ⟨[], h, fun M0 adr L' n w x hL hw hx => ?_⟩
    obtain rfl := DenD.v_inv hx
    exact ⟨by simp, none, 0, [], rfl, trivial, by simp, .inl rfl⟩
  · exact h.elim

/-! ### append -/
def allOne : List (List D) → Bool
  | [] => true
  | r :: l => match r.all oneD with | true => allOne l | false => false
theorem allOne_ok {M : Nat → Prop} {w : World} : ∀ {rs : List (List D)} {xs : List Value}, allOne rs = true → DenL M w rs.flatten xs → ∀ u ∈ xs, u.oneCell' = true := by
  have key : ∀ {l : List D} {xs : List Value}, l.all oneD = true → DenL M w l xs → ∀ u ∈ xs, u.oneCell' = true := by
    intro l
    induction l with
    | nil =>
      intro xs _ h u hu
      cases xs with
      | nil => simp at hu
      | cons _ _ => exact h.elim
    | cons d l ih =>
      intro xs ho h u hu
      cases xs with
      | nil => exact h.elim
      | cons x xs =>
        simp only [List.all_cons, Bool.and_eq_true] at ho
        rcases List.mem_cons.1 hu with rfl | hu
        · exact h.1.one ho.1
        · exact ih ho.2 h.2 u hu
  intro rs xs ho h
  refine key ?_ h
  clear h
  induction rs with
  | nil => rfl
  | cons r rs ih =>
    simp only [allOne] at ho
    cases hr : r.all oneD with
    | false => rw [hr] at ho; cases ho
    | true =>
      rw [hr] at ho
      rw [List.flatten_cons, List.all_append, hr, ih ho]; rfl
section
variable {P : Program} {gl : List (Nat × List D)} {M0 S0 : Nat → Prop} {w0 : Base} {N : Nat} {adr : Env} {fr : List (Nat × V)} {L : List (Nat × Blk)} {n : Nat} {a : Act} {w : World}
/-- What append does: in place, or in a new block. -/
theorem run_append (w : World) {t ty e : Nat} {te : TI} (ht : P.underlying t = some (.slice e)) (he : FitsOne P e te) (hz : 0 < te.size) {v x : Value} {m q : Nat} {xs news : List Value}
    (hv : (v = .slice none 0 0 ∧ m = 0 ∧ xs = []) ∨ ∃ g cap cur, v = .slice (some ⟨g, 0, none⟩) m cap ∧ w.heap[g]? = some (Obj.cells cur e (0, 0)) ∧ m ≤ cap ∧ cap ≤ maxLen ∧ cur.size = cap * te.size ∧ cur.toList.take (m * te.size) = xs)
    (hx : (∃ a c, x = .slice a 0 c ∧ q = 0 ∧ news = []) ∨ ∃ ad c, x = .slice (some ad) q c ∧ news.length = q * te.size ∧ ∀ (j : Nat) u, news[j]? = some u → w.cell? (ad.add j) = some u)
    (h1 : ∀ u ∈ news, u.oneCell' = true) (hb : (m + q) * te.bytes ≤ 140737488355328) (hm : m + q ≤ maxLen) :
    ∃ v' w', (Builtin.append_ #[t, t] ty #[v, x]).run P w = .ok v' w' ∧
      ((v = .slice none 0 0 ∧ v' = v ∧ w' = w ∧ q = 0) ∨
       (∃ g cap cur cur', v = .slice (some ⟨g, 0, none⟩) m cap ∧ w.heap[g]? = some (Obj.cells cur e (0, 0)) ∧ cap ≤ maxLen ∧ cur.size = cap * te.size ∧ v' = .slice (some ⟨g, 0, none⟩) (m + q) cap ∧ m + q ≤ cap ∧ w' = w.setRow g cur' ∧ cur'.size = cur.size ∧ cur'.toList.take ((m + q) * te.size) = xs ++ news) ∨
       (∃ cap cur', v' = .slice (some ⟨w.heap.size, 0, none⟩) (m + q) cap ∧ w' = w.drew.alloc (Obj.cells cur' e (0, 0)) ∧ m + q ≤ cap ∧ cap ≤ maxLen ∧ cur'.size = cap * te.size ∧ cur'.toList.take ((m + q) * te.size) = xs ++ news)) := by
  obtain ⟨i, z, hi, hsz, hby, hzz, hzc⟩ := he.infoE
  have hzs : z.cells.size = te.size := by rw [← Array.length_toList, hzc, List.length_map, he.zlen]
  have hsmall : m + q ≤ 9223372036854775807 := by simp only [maxLen] at hm; omega
  have grown : ∀ (old : Nat) (ys : List Value), ys.length = m * te.size → news.length = q * te.size → ∀ cur', cur' = (ys.toArray ++ news.toArray ++ Builtin.zeroCells z.cells (grownCap w (m + q) old e - (m + q))) →
      m + q ≤ grownCap w (m + q) old e ∧ grownCap w (m + q) old e ≤ maxLen ∧ cur'.size = grownCap w (m + q) old e * te.size ∧ cur'.toList.take ((m + q) * te.size) = ys ++ news := by
    intro old ys hys hn cur' hc
    have hge := grownCap_ge w (m + q) old e
    refine ⟨hge, grownCap_le_maxLen w (m + q) old e hm, ?_, ?_⟩
    · subst hc
      simp only [Array.size_append, List.size_toArray, size_zeroCells, hzs, hys, hn, ← Nat.add_mul]
      congr 1
      omega
    · subst hc
      simp only [Array.toList_append, List.append_assoc]
      rw [← List.append_assoc]
      have : (ys ++ news).length = (m + q) * te.size := by rw [List.length_append, hys, hn, Nat.add_mul]
      rw [← this]
      exact List.take_left
  have hsize : i.size = te.size := hsz
  rcases hx with ⟨ax, cx, rfl, rfl, rfl⟩ | ⟨ad, cx, rfl, hnl, hcell⟩
  · rcases hv with ⟨rfl, rfl, rfl⟩ | ⟨g, cap, cur, rfl, hg, hmc, hcm, hcs, htake⟩
    · refine ⟨_, _, ?_, .inl ⟨rfl, rfl, rfl, rfl⟩⟩
      cases ax <;> simp [Builtin.append_, run_underlying ht, sizeOf, typeInfo, hi, Builtin.lenOf, Builtin.firstCells, loadCells, loadCellsFrom]
    · refine ⟨_, _, ?_, .inr (.inl ⟨g, cap, cur, cur, rfl, hg, hcm, hcs, rfl, hmc, (setRow_self w g cur e (0, 0) hg).symm, rfl, by simpa using htake⟩)⟩
      cases ax <;> simp [Builtin.append_, run_underlying ht, sizeOf, typeInfo, hi, Builtin.lenOf, Builtin.firstCells, loadCells, loadCellsFrom, hmc, storeCells]
  · rcases hv with ⟨rfl, rfl, rfl⟩ | ⟨g, cap, cur, rfl, hg, hmc, hcm, hcs, htake⟩
    · by_cases hq : q = 0
      · subst hq
        have hn : news = [] := List.eq_nil_of_length_eq_zero (by simpa using hnl)
        subst hn
        refine ⟨_, _, ?_, .inl ⟨rfl, rfl, rfl, rfl⟩⟩
        simp [Builtin.append_, run_underlying ht, sizeOf, typeInfo, hi, Builtin.lenOf, Builtin.firstCells, loadCells, loadCellsFrom]
      · have hr := run_append_nil (P := P) w t ty e i z ht hi hzz ad q cx news (by rw [hsize]; exact hnl) hcell (by omega) (by omega) (by rw [hby]; have := hb; simp only [Nat.zero_add] at this; omega)
        obtain ⟨k1, k2, k3, k4⟩ := grown 0 [] (by simp) hnl _ rfl
        simp only [Nat.zero_add, List.nil_append, Array.empty_append] at k1 k2 k3 k4 ⊢
        exact ⟨_, _, hr, .inr (.inr ⟨_, _, rfl, rfl, k1, k2, k3, k4⟩)⟩
    · have hxl : xs.length = m * te.size := by
        rw [← htake]
        have : m * te.size ≤ cap * te.size := Nat.mul_le_mul_right _ hmc
        simp; omega
      by_cases hroom : m + q ≤ cap
      · have hfit : m * i.size + news.length ≤ cur.size := by rw [hsize, hnl, hcs, ← Nat.add_mul]; exact Nat.mul_le_mul_right _ hroom
        have hr := run_append_room (P := P) w t ty e i ht hi g m cap cur hg ad q cx news (by rw [hsize]; exact hnl) hcell h1 hroom hfit
        refine ⟨_, _, hr, .inr (.inl ⟨g, cap, cur, _, rfl, hg, hcm, hcs, rfl, hroom, rfl, ?_, ?_⟩)⟩
        · simp only [List.size_toArray, List.length_append, List.length_take, List.length_drop, Array.length_toList]
          rw [hsize] at hfit ⊢
          omega
        · rw [hsize, htake]
          have : (xs ++ news).length = (m + q) * te.size := by rw [List.length_append, hxl, hnl, Nat.add_mul]
          rw [← this]
          exact List.take_left
      · have holds : ∀ (j : Nat) u, xs[j]? = some u → w.cell? ((⟨g, 0, none⟩ : Addr).add j) = some u := fun j u hu => by
          rw [← htake, List.getElem?_take] at hu
          split at hu
          · rw [addr_add]
            simp only [World.cell?, hg]
            simpa using hu
          · cases hu
        have hr := run_append_grow (P := P) w t ty e i z ht hi hzz ⟨g, 0, none⟩ m cap xs (by rw [hsize]; exact hxl) holds ad q cx news (by rw [hsize]; exact hnl) hcell (by omega) (by omega) (growslice_fits (by omega) (by rw [hby]; exact hb))
        obtain ⟨k1, k2, k3, k4⟩ := grown cap xs hxl hnl _ rfl
        exact ⟨_, _, hr, .inr (.inr ⟨_, _, rfl, rfl, k1, k2, k3, k4⟩)⟩
end
end Go.EYtbkhfmgdnnaaoaaGreatDoor
end

section
namespace Go.EYtbkhfmgdnnaaoaaGreatDoor
open Go Go.RowKit

section
variable {P : Program} {gl : List (Nat × List D)} {M0 S0 : Nat → Prop} {w0 : Base} {N : Nat} {adr : Env} {fr : List (Nat × V)} {L : List (Nat × Blk)} {n : Nat} {a : Act} {w : World}
theorem Ok.append (h : Ok gl M0 S0 w0 N adr fr L n a w) {t ty e : Nat} {te : TI} (ht : P.underlying t = some (.slice e)) (he : FitsOne P e te) (hz : 0 < te.size) {k m q : Nat} {l rs : List (List D)} {v x : Value}
    (hk : look L k = some (.rows te.size l e)) (hml : m ≤ l.length) (hv : (v = .slice none 0 0 ∧ m = 0) ∨ ∃ b cap, adr k = some (some b, l.length) ∧ v = .slice (some ⟨b, 0, none⟩) m cap ∧ m ≤ cap ∧ ∃ cur f, w.heap[b]? = some (Obj.cells cur e f) ∧ cur.size = cap * te.size ∧ cap ≤ maxLen)
    (hx : RowsAt (Mut M0 adr L) w te.size rs x) (ho : allOne rs = true) (hb : (m + rs.length) * te.bytes ≤ 140737488355328) (hm : m + rs.length ≤ maxLen) (hfx : k ∉ w0.fx) :
    ∃ v' w' adr', (Builtin.append_ #[t, t] ty #[v, x]).run P w = .ok v' w' ∧ Ok gl M0 S0 w0 N adr' (killF k fr) (killL k (setL L k (.rows te.size (l.take m ++ rs) e))) n a w' ∧ AllAt adr' w' te.size k v' := by
  obtain ⟨hrz, ax, cx, news, rfl, hden, hnl, hcell⟩ := hx
  have hloc := h.wok.loc k _ hk
  have hlen : (l.take m ++ rs).length = m + rs.length := by simp; omega
  -- what the old rows are
  have old : ∃ (ob : Option Nat) (m0 : Nat) (xs : List Value), adr k = some (ob, m0) ∧ DenL (Mut M0 adr L) w (l.take m).flatten xs ∧
      ((v = .slice none 0 0 ∧ m = 0 ∧ xs = []) ∨ ∃ g cap cur, ob = some g ∧ v = .slice (some ⟨g, 0, none⟩) m cap ∧ w.heap[g]? = some (Obj.cells cur e (0, 0)) ∧ m ≤ cap ∧ cap ≤ maxLen ∧ cur.size = cap * te.size ∧ cur.toList.take (m * te.size) = xs) ∧ (∀ r ∈ l, r.length = te.size) := by
    cases hq : adr k with
    | none => rw [hq] at hloc; exact hloc.elim
    | some q0 =>
      obtain ⟨ob, m0⟩ := q0
      rw [hq] at hloc
      cases ob with
      | none =>
        obtain ⟨_, h6, _⟩ := hloc
        subst h6
        rcases hv with ⟨rfl, rfl⟩ | ⟨b, cap, h5, _⟩
        · exact ⟨none, m0, [], rfl, by simp [DenL, All2], .inl ⟨rfl, rfl, rfl⟩, by simp⟩
        · rw [hq] at h5; cases h5
      | some b =>
        obtain ⟨g1, g2, g3, cur, cp, g4, g5, g6, g7, g8⟩ := hloc
        rcases hv with ⟨rfl, rfl⟩ | ⟨b', cap, h5, rfl, hmc, cur', f, h6, h7, h8⟩
        · exact ⟨some b, m0, [], rfl, by simp [DenL, All2], .inl ⟨rfl, rfl, rfl⟩, g3⟩
        · rw [hq] at h5; cases h5
          rw [g4] at h6; cases h6
          refine ⟨some b, _, cur.toList.take (m * te.size), rfl, ?_, .inr ⟨b, cap, cur, rfl, rfl, g4, hmc, h8, h7, rfl⟩, g3⟩
          rw [flatten_take_drop g3]
          have h1 : m * te.size ≤ l.length * te.size := Nat.mul_le_mul_right _ hml
          have := All2.take (m * te.size) g8
          rwa [List.take_take, Nat.min_eq_left h1] at this
  obtain ⟨ob, m0, xs, ha, hxs, hv', hlz⟩ := old
  have hz' : ∀ r ∈ l.take m ++ rs, r.length = te.size := fun r hr => by
    rcases List.mem_append.1 hr with h1 | h1
    · exact hlz r (List.mem_of_mem_take h1)
    · exact hrz r h1
  have hvr : (v = .slice none 0 0 ∧ m = 0 ∧ xs = []) ∨ ∃ g cap cur, v = .slice (some ⟨g, 0, none⟩) m cap ∧ w.heap[g]? = some (Obj.cells cur e (0, 0)) ∧ m ≤ cap ∧ cap ≤ maxLen ∧ cur.size = cap * te.size ∧ cur.toList.take (m * te.size) = xs := by
    rcases hv' with h1 | ⟨g, cap, cur, _, h1⟩
    · exact .inl h1
    · exact .inr ⟨g, cap, cur, h1⟩
  have hxr : (∃ a c, Value.slice ax rs.length cx = .slice a 0 c ∧ rs.length = 0 ∧ news = []) ∨ ∃ ad c, Value.slice ax rs.length cx = .slice (some ad) rs.length c ∧ news.length = rs.length * te.size ∧ ∀ (j : Nat) u, news[j]? = some u → w.cell? (ad.add j) = some u := by
    rcases hcell with rfl | ⟨ad, rfl, h1⟩
    · exact .inl ⟨ax, cx, rfl, rfl, List.eq_nil_of_length_eq_zero (by simpa using hnl)⟩
    · exact .inr ⟨ad, cx, rfl, hnl, h1⟩
  have hself : ∀ e', adrSet adr k e' k = some e' := fun e' => by unfold adrSet; rw [if_pos rfl]
  obtain ⟨v', w', hrun, hcase⟩ := run_append (ty := ty) w ht he hz hvr hxr (allOne_ok ho hden) hb hm
  rcases hcase with ⟨rfl, rfl, rfl, hq⟩ | ⟨g, cap, cur, cur', rfl, hg, hcm, hcs, rfl, hle, rfl, hcs', htake⟩ | ⟨cap, cur', rfl, rfl, hle, hcm, hcs', htake⟩
  · -- nothing was there, nothing comes
    have hrs : rs = [] := List.eq_nil_of_length_eq_zero hq
    have hm0 : m = 0 := by
      rcases hvr with ⟨_, h1, _⟩ | ⟨g, cap, cur, h1, _⟩
      · exact h1
      · cases h1
    subst hrs; subst hm0
    refine ⟨_, _, adrSet adr k (none, 0), hrun, ?_, .inl ⟨hself _, rfl⟩⟩
    exact h.regrow (ob' := none) (m' := 0) hk ha (Evo.refl _ _) (fun b' hb' => by cases hb') (fun M' _ => ⟨hz, by simp, rfl⟩) hfx
  · -- in place
    have hob : ob = some g := by
      rcases hv' with ⟨h1, _⟩ | ⟨g', cap', cur'', h1, h2, _⟩
      · cases h1
      · cases h2; exact h1
    have hE : Evo (fun x => ob = some x) w (w.setRow g cur') := Evo.setRow hg hcs' hob
    refine ⟨_, _, adrSet adr k (some g, m + rs.length), hrun, h.regrow (ob' := some g) hk ha hE (fun b' hb' => by cases hb'; exact .inl hob) (fun M' hM' => ⟨hz, hlen, hz', cur', cap, setRow_heap w g _ _ _ _ hg, by rw [hcs', hcs], by rw [hlen]; exact hle, hcm, ?_⟩) hfx, .inr ⟨g, _, cap, cur', e, (0, 0), hself _, setRow_heap w g _ _ _ _ hg, by rw [hcs', hcs], hle, hcm, rfl⟩⟩
    rw [List.flatten_append, hlen, htake]
    exact DenL.evo hE (fun b hb hs => .inr ⟨k, _, m0, hk, by rw [ha, hs]⟩) hM' (hxs.app hden)
  · -- in a new block
    have hE : Evo (fun x => ob = some x) w (w.drew.alloc (Obj.cells cur' e (0, 0))) := ((Evo.drew _ w).trans (Evo.alloc _ _ _))
    have hnew : (w.drew.alloc (Obj.cells cur' e (0, 0))).heap[w.heap.size]? = some (Obj.cells cur' e (0, 0)) := heap_alloc_new w.drew _
    refine ⟨_, _, adrSet adr k (some w.heap.size, m + rs.length), hrun, h.regrow (ob' := some w.heap.size) hk ha hE (fun b' hb' => by cases hb'; exact .inr (Nat.le_refl _)) (fun M' hM' => ⟨hz, hlen, hz', cur', cap, hnew, hcs', by rw [hlen]; exact hle, hcm, ?_⟩) hfx, .inr ⟨_, _, cap, cur', e, (0, 0), hself _, hnew, hcs', hle, hcm, rfl⟩⟩
    rw [List.flatten_append, hlen, htake]
    exact DenL.evo hE (fun b hb hs => .inr ⟨k, _, m0, hk, by rw [ha, hs]⟩) hM' (hxs.app hden)

/-! ### Slice literals, make, bytes -/
theorem all2_cells {M : Nat → Prop} : ∀ {rs : List (List D)} {vs : List Value}, All2 (fun r v => DenL M w r v.cells.toList) rs vs → DenL M w rs.flatten (vs.map fun v => v.cells.toList).flatten
  | [], [], _ => trivial
  | _ :: _, _ :: _, h => All2.app h.1 (all2_cells h.2)
  | [], _ :: _, h => h.elim
  | _ :: _, [], h => h.elim
theorem flat_get {z : Nat} (hz : 0 < z) : ∀ {ls : List (List Value)}, (∀ r ∈ ls, r.length = z) → ∀ k, ls.flatten[k]? = (ls[k / z]?).bind (·[k % z]?)
  | [], _, k => by simp
  | r :: ls, h, k => by
    have hr := h r (by simp)
    have hrest : ∀ r' ∈ ls, r'.length = z := fun r' hr' => h r' (by simp [hr'])
    simp only [List.flatten_cons]
    rcases Nat.lt_or_ge k z with hk | hk
    · rw [List.getElem?_append_left (by omega), Nat.div_eq_of_lt hk, Nat.mod_eq_of_lt hk]; simp
    · rw [List.getElem?_append_right (by omega), hr, flat_get hz hrest]
      have e1 : k / z = (k - z) / z + 1 := by rw [← Nat.add_div_right _ hz, Nat.sub_add_cancel hk]
      have e2 : k % z = (k - z) % z := Nat.mod_eq_sub_mod hk
      rw [e1, e2]; simp
theorem run_buildSlice_rows (w : World) {t e : Nat} {te : TI} (ht : P.underlying t = some (.slice e)) (he : FitsOne P e te) (hz : 0 < te.size) {M : Nat → Prop} {vs : List Value} {rs : List (List D)}
    (hd : All2 (fun r v => DenL M w r v.cells.toList) rs vs) (hr : ∀ r ∈ rs, r.length = te.size) (hs : vs.length * te.size ≤ 16777216) (hp : 0 < vs.length) :
    ∃ cur : List Value, (Instr.buildSlice t vs.length ((vs.zipIdx 0).map fun x => (x.2, x.1)).toArray).run P w = .ok (.slice (some ⟨w.heap.size, 0, none⟩) vs.length vs.length) (w.alloc (Obj.cells cur.toArray e (0, 0))) ∧ DenL M w rs.flatten cur := by
  obtain ⟨i, z, hi, hsz, hby, hzz, hzc⟩ := he.infoE
  have hvz : ∀ v ∈ vs, v.cells.size = te.size := by
    intro v hv
    obtain ⟨j, hj⟩ := List.mem_iff_getElem?.1 hv
    have hjl : j < rs.length := by rw [All2.length hd]; exact (List.getElem?_eq_some_iff.1 hj).1
    have h1 := All2.get2 hd j rs[j] v (List.getElem?_eq_getElem hjl) hj
    rw [← Array.length_toList, ← All2.length h1]
    exact hr _ (List.getElem_mem hjl)
  have hpos : 0 < vs.length * te.size := Nat.mul_pos hp hz
  obtain ⟨r, h1, h2, h3⟩ := Great.fill_dense (s := te.size) hz vs 0 ((Array.range (vs.length * te.size)).map (z.cells[· % z.cells.size]!)) hvz (by simp)
  have hflat : r.toList = (vs.map fun v => v.cells.toList).flatten := by
    apply List.ext_getElem?
    intro k
    rw [flat_get hz (fun r hr => by obtain ⟨v, hv, rfl⟩ := List.mem_map.1 hr; rw [Array.length_toList]; exact hvz v hv)]
    rw [Array.getElem?_toList, h3 k]
    simp only [Nat.zero_mul, Nat.zero_add, Nat.sub_zero, Nat.zero_le, true_and]
    split
    · rw [List.getElem?_map]
      cases vs[k / te.size]? with
      | none => rfl
      | some v => simp
    · rename_i hk
      have : vs[k / te.size]? = none := List.getElem?_eq_none (by
        have : vs.length * te.size ≤ k := by omega
        exact (Nat.le_div_iff_mul_le hz).2 this)
      rw [List.getElem?_map, this]
      simp only [Option.map_none, Option.bind_none]
      rw [Array.getElem?_eq_none (by simp; omega)]
  refine ⟨r.toList, ?_, by rw [hflat]; exact all2_cells hd⟩
  have := run_buildSlice (P := P) w t e vs.length ((vs.zipIdx 0).map fun x => (x.2, x.1)).toArray r i z ht hi hzz (by rw [hsz]; omega) (by rw [hsz]; omega) (by rw [hsz]; simpa using h1)
  rw [this]
theorem Ok.allNew (h : Ok gl M0 S0 w0 N adr fr L n a w) {z : Nat} {l : List (List D)} {xs : List Value} {cap : Nat} (e : Nat) (hz : 0 < z) (hr : ∀ r ∈ l, r.length = z) (hm : cap ≤ maxLen) (hlc : l.length ≤ cap) (hs : xs.length = cap * z) (hd : DenL (Mut M0 adr L) w l.flatten (xs.take (l.length * z))) :
    Ok gl M0 S0 w0 N (adrPush adr n (some w.heap.size, l.length)) fr ((n, .rows z l e) :: L) (n + 1) a (w.alloc (Obj.cells xs.toArray e (0, 0))) ∧
      AllAt (adrPush adr n (some w.heap.size, l.length)) (w.alloc (Obj.cells xs.toArray e (0, 0))) z n (.slice (some ⟨w.heap.size, 0, none⟩) l.length cap) := by
  have hnew : (w.alloc (Obj.cells xs.toArray e (0, 0))).heap[w.heap.size]? = some (Obj.cells xs.toArray e (0, 0)) := heap_alloc_new w _
  refine ⟨h.push ⟨hz, rfl, hr, xs.toArray, cap, hnew, by simpa using hs, hlc, hm, ?_⟩, .inr ⟨_, _, cap, xs.toArray, e, (0, 0), by unfold adrPush; rw [if_pos rfl], hnew, by simpa using hs, hlc, hm, rfl⟩⟩
  exact DenL.evo (Evo.alloc (fun _ => False) w _) (fun _ _ h => h.elim) (fun b hb hm => by
    rcases (mut_push h.wok.fresh h.wok.keys).1 hm with h1 | h1
    · exact h1
    · cases h1; omega) hd
theorem made_take {z : Array Value} {n c : Nat} (hn : n ≤ c) : (madeCells z (c * z.size)).toList.take (n * z.size) = (List.replicate n z.toList).flatten := by
  rcases Nat.eq_zero_or_pos z.size with h0 | h0
  · have : z.toList = [] := List.eq_nil_of_length_eq_zero (by simpa using h0)
    rw [this, h0]
    induction n with
    | zero => simp
    | succ n ih => simp [List.replicate_succ]; 
  · apply List.ext_getElem?
    intro k
    rw [flat_get h0 (fun r hr => by rw [List.eq_of_mem_replicate hr]; simp)]
    have hle : n * z.size ≤ c * z.size := Nat.mul_le_mul_right _ hn
    rcases Nat.lt_or_ge k (n * z.size) with hk | hk
    · rw [List.getElem?_take_of_lt hk]
      have h1 : k / z.size < n := (Nat.div_lt_iff_lt_mul h0).2 hk
      have h2 := Nat.mod_lt k h0
      rw [List.getElem?_replicate_of_lt h1]
      simp only [madeCells, Option.bind_some]
      rw [Array.getElem?_toList, Array.getElem?_map, Array.getElem?_range, if_pos (by omega)]
      simp [h2]
    · rw [List.getElem?_eq_none (by simp; omega), List.getElem?_eq_none (by simp; exact (Nat.le_div_iff_mul_le h0).2 hk)]
      rfl
theorem run_str_bytes (w : World) {src dst e : Nat} (hs : P.underlying src = some .string) (hd : P.underlying dst = some (.slice e)) (he : P.underlying e = some (.int .u8)) {M : Nat → Prop} (hM : ∀ b, M b → b < w.heap.size) (l : List UInt8) (hl : l.length ≤ maxLen) :
    ∃ x w', (convert src dst (.string ⟨l.toArray⟩)).run P w = .ok x w' ∧ Evo (fun _ => False) w w' ∧ DenD M w' (.lst 1 (l.map u8D)) x := by
  have hsz : (⟨l.toArray⟩ : ByteArray).size = l.length := rfl
  generalize hcap : grownCap w l.length 0 e = cap
  have hge : l.length ≤ cap := by rw [← hcap]; exact grownCap_ge w _ _ _
  have hcm : cap ≤ maxLen := by rw [← hcap]; exact grownCap_le_maxLen w _ _ _ hl
  let arr : Array Value := (l.toArray.map fun b => Value.int .u8 b.toNat) ++ Array.replicate (cap - l.length) (.int .u8 0)
  let w1 : World := w.drew.alloc (Obj.cells arr e)
  have hnew : w1.heap[w.heap.size]? = some (Obj.cells arr e) := heap_alloc_new w.drew _
  have hold : ∀ b, b < w.heap.size → w1.heap[b]? = w.heap[b]? := fun b hb => Below.heap_alloc w.drew _ b hb
  have hwsz : w1.heap.size = w.heap.size + 1 := by simp [w1]
  have hfr : ∀ b, b ≠ w.heap.size → (w1.freeze { block := w.heap.size, off := arr.size } 1).heap[b]? = w1.heap[b]? := fun b hb => by
    unfold World.freeze
    rw [if_neg (by omega)]
    simp [Array.getElem?_modify, Ne.symm hb]
  have hfn : (w1.freeze { block := w.heap.size, off := arr.size } 1).heap[w.heap.size]? = some (Obj.cells arr e (arr.size, arr.size + 1)) := by
    unfold World.freeze
    rw [if_neg (by omega)]
    have hlt : w.heap.size < w1.heap.size := by omega
    have hv : w1.heap[w.heap.size] = Obj.cells arr e := by
      rw [Array.getElem?_eq_getElem hlt] at hnew; exact Option.some.inj hnew
    rw [Array.getElem?_eq_getElem (by simpa using hlt), Array.getElem_modify]
    simp only [if_true, hv]
    rfl
  have hrun : (convert src dst (.string ⟨l.toArray⟩)).run P w = .ok (.slice (some ⟨w.heap.size, 0, none⟩) l.length cap) (w1.freeze { block := w.heap.size, off := arr.size } 1) := by
    have hsh : w1.shape? w.heap.size = some (e, arr.size) := by simp [World.shape?, hnew]
    have hq : (Question.appendCap l.length 0 e).cut (w.tape w.drawn (.appendCap l.length 0 e)) = cap := hcap
    simp only [convert, Sem.run_bind, run_underlying hs, run_underlying hd, run_underlying he, Result.andThen_ok, Conv.stringToBytes, hsz, choose, Sem.run, Question.forced, Bool.false_eq_true, if_false, newRow, newObj, markStringish, shape, freeze, pure]
    simp only [hq]
    erw [hsh]
    rfl
  refine ⟨_, _, hrun, ⟨?_, ?_, ?_, ?_, fun b hb _ => ?_, fun b cur e' f' hc => ?_⟩, ?_⟩
  · unfold World.freeze; rw [if_neg (by omega)]; rfl
  · unfold World.freeze; rw [if_neg (by omega)]; rfl
  · unfold World.freeze; rw [if_neg (by omega)]; rfl
  · unfold World.freeze; rw [if_neg (by omega)]; simp; omega
  · rw [hfr b (by omega)]; exact hold b hb
  · have hb : b < w.heap.size := (Array.getElem?_eq_some_iff.1 hc).1
    exact ⟨cur, by rw [hfr b (by omega), hold b hb]; exact hc, rfl⟩
  · have hcell : ∀ (i : Nat) b, l[i]? = some b → (w1.freeze { block := w.heap.size, off := arr.size } 1).cell? ⟨w.heap.size, i, none⟩ = some (.int .u8 (b.toNat : Int)) := fun i b hi => by
      simp only [World.cell?, hfn]
      have hil : i < l.length := (List.getElem?_eq_some_iff.1 hi).1
      simp only [Option.isSome_none, Bool.false_eq_true, if_false, arr]
      rw [Array.getElem?_append_left (by simpa using hil)]
      simp [hi]
    have hlen : (l.map u8D).length = l.length := by simp
    have hsize : (w1.freeze { block := w.heap.size, off := arr.size } 1).heap.size = w.heap.size + 1 := by unfold World.freeze; rw [if_neg (by omega)]; simpa using hwsz
    rw [← hlen]
    refine DenD.lst 1 _ w.heap.size 0 cap (fun i _ => .int .u8 ((l.getD i 0).toNat : Int)) (by omega) (fun hm => Nat.lt_irrefl _ (hM _ hm)) (by rw [hlen]; exact hge) hcm (fun r hr => by obtain ⟨b, _, rfl⟩ := List.mem_map.1 hr; rfl) (fun i j d hg => ?_) (fun i j d hg => ?_)
    · simp only [get2, List.getElem?_map, Option.bind_eq_some_iff, Option.map_eq_some_iff] at hg
      obtain ⟨r, ⟨b, hb, rfl⟩, hj⟩ := hg
      have hj0 : j = 0 := by
        rcases j with _ | j
        · rfl
        · simp at hj
      subst hj0
      rw [show 0 + i * 1 + 0 = i by omega, hcell i b hb]
      simp [hb]
    · simp only [get2, List.getElem?_map, Option.bind_eq_some_iff, Option.map_eq_some_iff] at hg
      obtain ⟨r, ⟨b, hb, rfl⟩, hj⟩ := hg
      have hj0 : j = 0 := by
        rcases j with _ | j
        · rfl
        · simp at hj
      subst hj0
      simp only [List.getElem?_cons_zero, Option.some.injEq] at hj
      subst hj
      have : l.getD i 0 = b := by simp [hb]
      rw [this]
      exact .v _
end
end Go.EYtbkhfmgdnnaaoaaGreatDoor
end
