/- Proved: errors.As at the target '*api.Errno', plain.Told and sccsame.Error: what they return for nil and for an error that is an api.Errno. Conditions: the variable errors.errorType reads as laid. After the kit's worked text ToyasAs. -/
import Derived.Test.YtbkhfmgdnnaaoaaDoorBase
import Derived.LaidEql
import Derived.Stop.Asserts
import Derived.RowKitTokens
namespace Go.Proofs.YtbkhfmgdnnaaoaaDoor
open Go.RowKit Go.Extern.Stop Go.Stop Go.Extern

/-- The variable errors.errorType holds the type 'error'. -/
def ErrT (w : World) : Prop := w.cell? ⟨1, 0, none⟩ = some (.iface 141 (.agg #[.pointer (some ⟨10, 33, none⟩)]))

namespace EA
theorem valueOfP (t : Addr) (w : World) : (ReflectliteValue.unpack (.iface 91 (.pointer (some t)))).run Tryd.prog w
    = .ok (.agg #[.pointer (some ⟨10, 91, none⟩), .pointer (some ⟨w.heap.size, 0, none⟩), .int .u64 150]) (w.alloc (.cells #[.pointer (some t)] 91)) := by kernel_rfl
theorem typeP (a : Addr) (w : World) : (ReflectliteValue.methodAny (ReflectliteValue.valueError "reflectlite.Value.Type" 0) (fun t _ _ _ => ReflectliteType.toType t) #[.agg #[.pointer (some ⟨10, 91, none⟩), .pointer (some a), .int .u64 150]]).run Tryd.prog w
    = .ok (.iface 141 (.agg #[.pointer (some ⟨10, 91, none⟩)])) w := by kernel_rfl
theorem kindP (w : World) : ((ReflectliteType.abiMethod fun t => (fun a : Nat => Value.int IntKind.u8 (a : Int)) <$> Rtype.kind t) #[.pointer (some ⟨10, 91, none⟩)]).run Tryd.prog w = .ok (.int .u8 22) w := by kernel_rfl
theorem kindE (w : World) : ((ReflectliteType.abiMethod fun t => (fun a : Nat => Value.int IntKind.u8 (a : Int)) <$> Rtype.kind t) #[.pointer (some ⟨10, 72, none⟩)]).run Tryd.prog w = .ok (.int .u8 2) w := by kernel_rfl
theorem rlm (z : Sem Value) (f : TypeId → Addr → Nat → Nat → Sem Value) (v : Value) :
    ReflectliteValue.method z f #[v] = (do match ← ReflectliteValue.parts v with | none => z | some (t, a, fl) => f t a fl (fl % 32)) := rfl
theorem partsP (a : Addr) (w : World) : (ReflectliteValue.parts (.agg #[.pointer (some ⟨10, 91, none⟩), .pointer (some a), .int .u64 150])).run Tryd.prog w = .ok (some (91, a, 150)) w := by kernel_rfl
theorem isNilP (a p : Addr) (W : World) (ha : W.cell? a = some (.pointer (some p))) :
    (ReflectliteValue.method (ReflectliteValue.valueError "reflectlite.Value.IsNil" 0) ReflectliteValue.isNil #[.agg #[.pointer (some ⟨10, 91, none⟩), .pointer (some a), .int .u64 150]]).run Tryd.prog W = .ok (.bool false) W := by
  rw [rlm]
  simp only [Sem.run_bind, partsP, Result.andThen]
  simp [ReflectliteValue.isNil, loadVar, isAgg, underlying, Tryd.underlying91, ha, Result.andThen]
theorem elemP (w : World) : (ReflectliteType.method ReflectliteType.elem #[.agg #[.pointer (some ⟨10, 91, none⟩)]]).run Tryd.prog w = .ok (.iface 141 (.agg #[.pointer (some ⟨10, 72, none⟩)])) w := by kernel_rfl
theorem implementsE (w : World) : (ReflectliteType.relation "Implements" ReflectliteType.implements_ #[.agg #[.pointer (some ⟨10, 72, none⟩)], .iface 141 (.agg #[.pointer (some ⟨10, 33, none⟩)])]).run Tryd.prog w = .ok (.bool true) w := by kernel_rfl
theorem typeOfE (v : Value) (w : World) : (ReflectliteType.typeOf #[.iface 72 v]).run Tryd.prog w = .ok (.iface 141 (.agg #[.pointer (some ⟨10, 72, none⟩)])) w := by kernel_rfl
theorem assignableE (w : World) : (ReflectliteType.relation "AssignableTo" ReflectliteType.assignableTo #[.agg #[.pointer (some ⟨10, 72, none⟩)], .iface 141 (.agg #[.pointer (some ⟨10, 72, none⟩)])]).run Tryd.prog w = .ok (.bool true) w := by kernel_rfl
theorem valueOfE (n : Int) (w : World) : (ReflectliteValue.unpack (.iface 72 (.int .i64 n))).run Tryd.prog w
    = .ok (.agg #[.pointer (some ⟨10, 72, none⟩), .pointer (some ⟨w.heap.size, 0, none⟩), .int .u64 130]) (w.alloc (.cells #[.int .i64 n] 72)) := by kernel_rfl
theorem elemOfP (w : World) : (Rtype.elem? 91).run Tryd.prog w = .ok (some 72) w := by kernel_rfl
theorem mkE (p : Addr) (w : World) : (ReflectliteValue.mk 72 p ReflectliteValue.flagAddr).run Tryd.prog w = .ok (.agg #[.pointer (some ⟨10, 72, none⟩), .pointer (some p), .int .u64 386]) w := by kernel_rfl
theorem elemVP (a p : Addr) (W : World) (ha : W.cell? a = some (.pointer (some p))) :
    (ReflectliteValue.method (ReflectliteValue.valueError "reflectlite.Value.Elem" 0) ReflectliteValue.elem #[.agg #[.pointer (some ⟨10, 91, none⟩), .pointer (some a), .int .u64 150]]).run Tryd.prog W
      = .ok (.agg #[.pointer (some ⟨10, 72, none⟩), .pointer (some p), .int .u64 386]) W := by
  rw [rlm]
  simp only [Sem.run_bind, partsP, Result.andThen]
  simp [ReflectliteValue.elem, loadVar, isAgg, underlying, Tryd.underlying91, ha, Result.andThen, elemOfP, mkE]
theorem rls (v x : Value) : ReflectliteValue.set #[v, x] = (do
    let (some (dst, a, fl), some (src, b, _)) := (← ReflectliteValue.parts v, ← ReflectliteValue.parts x)
      | unsupported (.noEntry "extern/(internal/reflectlite.Value).Set.zeroValue")
    if fl / ReflectliteValue.flagAddr % 2 == 0 then unsupported (.noEntry "extern/(internal/reflectlite.Value).Set.unaddressable")
    let val ← loadVar src b
    if ← Rtype.directlyAssignable dst src then storeVar dst a val
    else if ← Rtype.implements dst src then
      if (← Rtype.kind src) == 20 then
        match val with
        | .nilIface => unsupported (.noEntry "extern/reflectlite: a nil value of one interface type handed on as a value of another")
        | _ => storeVar dst a val
      else storeVar dst a (.iface src val)
    else panicString ("reflectlite.Set: value of type " ++ (← Rtype.spelt src) ++ " is not assignable to type " ++ (← Rtype.spelt dst))
    pure (.tuple #[])) := rfl
theorem partsEa (a : Addr) (w : World) : (ReflectliteValue.parts (.agg #[.pointer (some ⟨10, 72, none⟩), .pointer (some a), .int .u64 386])).run Tryd.prog w = .ok (some (72, a, 386)) w := by kernel_rfl
theorem partsE (a : Addr) (w : World) : (ReflectliteValue.parts (.agg #[.pointer (some ⟨10, 72, none⟩), .pointer (some a), .int .u64 130])).run Tryd.prog w = .ok (some (72, a, 130)) w := by kernel_rfl
theorem directE (w : World) : (Rtype.directlyAssignable 72 72).run Tryd.prog w = .ok true w := by kernel_rfl
theorem sizeE (w : World) : (sizeOf 72).run Tryd.prog w = .ok 1 w := by kernel_rfl
theorem setE (ta b : Addr) (n : Int) (old : Value) (W : World) (hb : W.cell? b = some (.int .i64 n)) (ht : W.cell? ta = some old) (hf : W.frozen? ta = false) :
    (ReflectliteValue.set #[.agg #[.pointer (some ⟨10, 72, none⟩), .pointer (some ta), .int .u64 386], .agg #[.pointer (some ⟨10, 72, none⟩), .pointer (some b), .int .u64 130]]).run Tryd.prog W
      = .ok (.tuple #[]) (W.setCell ta (.int .i64 n)) := by
  rw [rls]
  simp only [Sem.run_bind, partsEa, partsE, Result.andThen]
  simp [ReflectliteValue.flagAddr, loadVar, isAgg, underlying, Tryd.underlying72, hb, Result.andThen, directE, storeVar, Value.cells, storeCells, Addr.add]
  rw [run_store Tryd.prog W ta _ _ (by rfl)]
  simp [ht, hf]
end EA
open EA

set_option maxHeartbeats 4000000 in
theorem as_hit (n : Int) (t : Addr) (old : Value) (w : World) (hg : ErrT w) (ht0 : w.cell? t = some old) (hf0 : w.frozen? t = false) :
    Calls Tryd.prog 63 #[.iface 72 (.int .i64 n), .iface 91 (.pointer (some t))] w fun ev w' => ev = .returned (.bool true) ∧ w' = ((((w.alloc (.cells #[.pointer (some t)] 91)).alloc (.cells #[.pointer (some ⟨10, 91, none⟩), .pointer (some ⟨w.heap.size, 0, none⟩), .int .u64 150] 115)).alloc (.cells #[.pointer (some ⟨10, 91, none⟩), .pointer (some ⟨w.heap.size, 0, none⟩), .int .u64 150] 115)).alloc (.cells #[.int .i64 n] 72)).setCell t (.int .i64 n) := by
  unfold ErrT at hg
  have h6 := @run_callFunc_extern Tryd.prog 80 _ (fun args => ReflectliteValue.unpack (args.getD 0 (.tuple #[]))) Tryd.func80 (by kernel_rfl) (by kernel_rfl) (by kernel_rfl) (by kernel_rfl)
  have h7 := @run_callFunc_extern Tryd.prog 81 _ (ReflectliteValue.methodAny (ReflectliteValue.valueError "reflectlite.Value.Type" 0) (fun t _ _ _ => ReflectliteType.toType t)) Tryd.func81 (by kernel_rfl) (by kernel_rfl) (by kernel_rfl) (by kernel_rfl)
  have h8 := @run_callFunc_extern Tryd.prog 82 _ (ReflectliteValue.method (ReflectliteValue.valueError "reflectlite.Value.IsNil" 0) ReflectliteValue.isNil) Tryd.func82 (by kernel_rfl) (by kernel_rfl) (by kernel_rfl) (by kernel_rfl)
  have h27 := @run_callFunc_extern Tryd.prog 164 _ (ReflectliteType.abiMethod fun t => do pure (.int .u8 (← Rtype.kind t))) Tryd.func164 (by kernel_rfl) (by kernel_rfl) (by kernel_rfl) (by kernel_rfl)
  have h37 := @run_callFunc_extern Tryd.prog 175 _ (ReflectliteType.method ReflectliteType.elem) Tryd.func175 (by kernel_rfl) (by kernel_rfl) (by kernel_rfl) (by kernel_rfl)
  have h38 := @run_callFunc_extern Tryd.prog 176 _ (ReflectliteType.relation "Implements" ReflectliteType.implements_) Tryd.func176 (by kernel_rfl) (by kernel_rfl) (by kernel_rfl) (by kernel_rfl)
  have h10 := @run_callFunc_extern Tryd.prog 103 _ ReflectliteType.typeOf Tryd.func103 (by kernel_rfl) (by kernel_rfl) (by kernel_rfl) (by kernel_rfl)
  have h35 := @run_callFunc_extern Tryd.prog 173 _ (ReflectliteType.relation "AssignableTo" ReflectliteType.assignableTo) Tryd.func173 (by kernel_rfl) (by kernel_rfl) (by kernel_rfl) (by kernel_rfl)
  have h11 := @run_callFunc_extern Tryd.prog 104 _ (ReflectliteValue.method (ReflectliteValue.valueError "reflectlite.Value.Elem" 0) ReflectliteValue.elem) Tryd.func104 (by kernel_rfl) (by kernel_rfl) (by kernel_rfl) (by kernel_rfl)
  have h12 := @run_callFunc_extern Tryd.prog 105 _ ReflectliteValue.set Tryd.func105 (by kernel_rfl) (by kernel_rfl) (by kernel_rfl) (by kernel_rfl)
  have tO := typeOfE
  have a25 := assignableE
  have v25 := valueOfE
  have f6 := valueOfP
  have f7 := typeP
  have k27 := kindP
  have k25 := kindE
  have e27 := elemP
  have i25 := implementsE
  have n8 := isNilP ⟨w.heap.size, 0, none⟩ t ((w.alloc (.cells #[.pointer (some t)] 91)).alloc (.cells #[.pointer (some ⟨10, 91, none⟩), .pointer (some ⟨w.heap.size, 0, none⟩), .int .u64 150] 115)) (by simp)
  have hlt : 1 < w.heap.size := World.block_lt_of_cell? w _ hg
  have hg2 : ((w.alloc (.cells #[.pointer (some t)] 91)).alloc (.cells #[.pointer (some ⟨10, 91, none⟩), .pointer (some ⟨w.heap.size, 0, none⟩), .int .u64 150] 115)).cell? ⟨1, 0, none⟩ = some (.iface 141 (.agg #[.pointer (some ⟨10, 33, none⟩)])) := by
    rw [World.cell?_alloc_lt _ _ ⟨1, 0, none⟩ (by simp; omega), World.cell?_alloc_lt _ _ ⟨1, 0, none⟩ hlt]; exact hg
  have htl : t.block < w.heap.size := World.block_lt_of_cell? w _ ht0
  have el := elemVP ⟨w.heap.size, 0, none⟩ t (((w.alloc (.cells #[.pointer (some t)] 91)).alloc (.cells #[.pointer (some ⟨10, 91, none⟩), .pointer (some ⟨w.heap.size, 0, none⟩), .int .u64 150] 115)).alloc (.cells #[.pointer (some ⟨10, 91, none⟩), .pointer (some ⟨w.heap.size, 0, none⟩), .int .u64 150] 115)) (by rw [World.cell?_alloc_lt _ _ ⟨w.heap.size, 0, none⟩ (by simp; omega)]; simp)
  have st := setE t ⟨w.heap.size + 1 + 1 + 1, 0, none⟩ n old ((((w.alloc (.cells #[.pointer (some t)] 91)).alloc (.cells #[.pointer (some ⟨10, 91, none⟩), .pointer (some ⟨w.heap.size, 0, none⟩), .int .u64 150] 115)).alloc (.cells #[.pointer (some ⟨10, 91, none⟩), .pointer (some ⟨w.heap.size, 0, none⟩), .int .u64 150] 115)).alloc (.cells #[.int .i64 n] 72))
    (by rw [World.cell?_alloc_at _ _ _ _ (by simp)]; rfl)
    (by rw [World.cell?_alloc_lt _ _ t (by simp; omega), World.cell?_alloc_lt _ _ t (by simp; omega), World.cell?_alloc_lt _ _ t (by simp; omega), World.cell?_alloc_lt _ _ t htl]; exact ht0)
    (by rw [World.frozen?_alloc_old _ _ t (by simp; omega), World.frozen?_alloc_old _ _ t (by simp; omega), World.frozen?_alloc_old _ _ t (by simp; omega), World.frozen?_alloc_old _ _ t (Nat.ne_of_lt htl)]; exact hf0)
  go_enter Tryd.func63, Tryd.ntmps63
  go_wp2
  refine wp_loop_rounds 1 ?_
  rw [rounds_succ]
  go_wp2
  go_ret
  exact ⟨rfl, rfl⟩

theorem told_nil (w : World) : Calls Tryd.prog 42 #[.nilIface] w fun e w' => e = .returned (.int .i64 0) ∧ Below w.heap.size w w' := by
  go_enter Tryd.func42, Tryd.ntmps42
  go_wp2
  go_returns
  exact ⟨rfl, by repeat (first | exact Below.refl _ _ | refine Below.drew ?_ | refine Ext.alloc ?_ _)⟩
theorem told_err (n : Int) (w : World) (hg : ErrT w) : Calls Tryd.prog 42 #[.iface 72 (.int .i64 n)] w fun e w' => e = .returned (.int .i64 n) ∧ Below w.heap.size w w' := by
  have hgA : ErrT (w.alloc (.cells #[.int .i64 0] 72)) := by
    unfold ErrT at *
    rw [World.cell?_alloc_lt _ _ ⟨1, 0, none⟩ (World.block_lt_of_cell? w _ hg)]; exact hg
  have H := Lib.hid hg
  clear hg
  have HA := Lib.hid hgA
  clear hgA
  go_enter Tryd.func42, Tryd.ntmps42
  go_wp2_with (go_at_call 63; refine (as_hit _ _ (.int .i64 0) _ HA.out (by simp) (by simp)).mono ?_; rintro e w' ⟨rfl, rfl⟩)
  go_returns
  exact ⟨rfl, by repeat (first | exact Below.refl _ _ | refine Below.drew ?_ | refine Ext.alloc ?_ _)⟩

/-- An error as the program makes it: nil, or the number of an api.Errno. -/
def errV (n : Int) : Value := if n = 0 then .nilIface else .iface 72 (.int .i64 n)

theorem told_any (n : Int) (w : World) (hg : ErrT w) : Calls Tryd.prog 42 #[errV n] w fun e w' => e = .returned (.int .i64 n) ∧ Below w.heap.size w w' := by
  by_cases h : n = 0
  · subst h; simpa [errV] using told_nil w
  · simpa [errV, h] using told_err n w hg

theorem Error_any (n k : Int) (w : World) (hg : ErrT w) : Calls Tryd.prog 15 #[errV n, .int .i64 k] w fun e w' => e = .returned (.bool (n == k)) ∧ Below w.heap.size w w' := by
  have H := Lib.hid hg
  clear hg
  generalize hv : errV n = v
  have HV := Lib.hid hv
  clear hv
  have HT : Hid (Calls Tryd.prog 42 #[v] w fun e w' => e = .returned (.int .i64 n) ∧ Below w.heap.size w w') := by
    have := told_any n w H.out; rw [HV.out] at this; exact this
  go_enter Tryd.func15, Tryd.ntmps15
  go_wp2_with (go_at_call 42; refine HT.out.mono ?_; rintro e w' ⟨rfl, hb⟩)
  go_returns
  exact ⟨rfl, by repeat (first | exact Below.refl _ _ | refine Below.drew ?_ | refine Ext.alloc ?_ _ | refine Ext.trans ?_ (by assumption))⟩
theorem ErrT.keep {w w' : World} (h : ErrT w) (hb : Below w.heap.size w w') : ErrT w' := keep_cell h hb
end Go.Proofs.YtbkhfmgdnnaaoaaDoor
