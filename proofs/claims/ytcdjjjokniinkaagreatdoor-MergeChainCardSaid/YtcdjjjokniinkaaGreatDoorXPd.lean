/- Proved: a part of what the law is proved with (the reckoner, contracts of functions, plain laws). Conditions: as each says. -/
import Derived.LaidEql
import Derived.Stop.Asserts
import Derived.RowKitTokens
import Derived.Test.YtcdjjjokniinkaaGreatDoorXBase
section
namespace Go.Proofs.YtcdjjjokniinkaaGreatDoor
open Go.RowKit Go.Extern.Stop Go.Stop Go.Extern
namespace EA
theorem rls (v x:Value):ReflectliteValue.set #[v,x]=(do
 let (some (dst,a,fl),some (src,b,_)):=(← ReflectliteValue.parts v,← ReflectliteValue.parts x)
  | unsupported (.noEntry "extern/(internal/reflectlite.Value).Set.zeroValue")
 if fl / ReflectliteValue.flagAddr % 2==0 then unsupported (.noEntry "extern/(internal/reflectlite.Value).Set.unaddressable")
 let val ← loadVar src b
 if ← Rtype.directlyAssignable dst src then storeVar dst a val
 else if ← Rtype.implements dst src then
  if (← Rtype.kind src)==20 then
   match val with
   | .nilIface=>unsupported (.noEntry "extern/reflectlite: a nil value of one interface type handed on as a value of another")
   | _=>storeVar dst a val
  else storeVar dst a (.iface src val)
 else panicString ("reflectlite.Set: value of type "++(← Rtype.spelt src)++" is not assignable to type "++(← Rtype.spelt dst))
 pure (.tuple #[])):=rfl
theorem partsEa (a:Addr) (w:World):(ReflectliteValue.parts (.agg #[.pointer (some ⟨11,50,none⟩),.pointer (some a),.int .u64 386])).run Tryz.prog w=.ok (some (50,a,386)) w:=by kernel_rfl
theorem partsE (a:Addr) (w:World):(ReflectliteValue.parts (.agg #[.pointer (some ⟨11,50,none⟩),.pointer (some a),.int .u64 130])).run Tryz.prog w=.ok (some (50,a,130)) w:=by kernel_rfl
theorem directE (w:World):(Rtype.directlyAssignable 50 50).run Tryz.prog w=.ok true w:=by kernel_rfl
theorem setE (ta b:Addr) (n:Int) (old:Value) (W:World) (hb:W.cell? b=some (.int .i64 n)) (ht:W.cell? ta=some old) (hf:W.frozen? ta=false) :
 (ReflectliteValue.set #[.agg #[.pointer (some ⟨11,50,none⟩),.pointer (some ta),.int .u64 386],.agg #[.pointer (some ⟨11,50,none⟩),.pointer (some b),.int .u64 130]]).run Tryz.prog W
  = .ok (.tuple #[]) (W.setCell ta (.int .i64 n)):=by
 rw[rls]
 simp only[Sem.run_bind,partsEa,partsE,Result.andThen]
 simp[ReflectliteValue.flagAddr,loadVar,isAgg,underlying,Tryz.underlying50,hb,Result.andThen,directE,storeVar,Value.cells,storeCells,Addr.add]
 rw[run_store Tryz.prog W ta _ _ (by rfl)]
 simp[ht,hf]
end EA
open EA
end Go.Proofs.YtcdjjjokniinkaaGreatDoor
end
section
namespace Go.Proofs.YtcdjjjokniinkaaGreatDoor
open Go Go.EYtcdjjjokniinkaaGreatDoor Go.RowKit
set_option maxRecDepth 100000
variable {gl:List (Nat×List D)}
theorem FnP.of_below {P:Program} {g:Nat} {ds:List D} {xs:List Value} {r:D} {v:Value} (hB:HasBody P g) (hx:∀ M w ys,DenL M w ds ys→ys=xs) (hv:∀ M w,DenD M w r v)
 (h:∀ M w,Glob gl M w→Calls P g xs.toArray w fun e w'=>e=.returned v∧Below w.heap.size w w'):FnP P gl g ds r:=fun w M ys _ hg hd=>by
 obtain rfl:=hx M w ys hd
 exact .inl ⟨hB,(h M w hg).mono fun e w' ⟨h1,h2⟩=>⟨Evo.of_below h2 _,v,h1,hv _ _⟩⟩
end Go.Proofs.YtcdjjjokniinkaaGreatDoor
end
