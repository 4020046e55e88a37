/- Proved: a part of what the law is proved with (the reckoner, contracts of functions, plain laws). Conditions: as each says. -/
import Derived.LaidEql
import Derived.Stop.Asserts
import Derived.RowKitTokens
import Derived.Test.YtcdjjjokniinkaaGreatDoorYBase
section
namespace Go.Proofs.YtcdjjjokniinkaaGreatDoor
open Go.RowKit Go.Extern.Stop Go.Stop Go.Extern
def ErrT (w:World):Prop:=w.cell? ⟨0,0,none⟩=some (.iface 186 (.agg #[.pointer (some ⟨11,24,none⟩)]))
namespace EA
theorem valueOfP (t:Addr) (w:World):(ReflectliteValue.unpack (.iface 112 (.pointer (some t)))).run Tryz.prog w
 = .ok (.agg #[.pointer (some ⟨11,112,none⟩),.pointer (some ⟨w.heap.size,0,none⟩),.int .u64 150]) (w.alloc (.cells #[.pointer (some t)] 112)):=by kernel_rfl
theorem typeP (a:Addr) (w:World):(ReflectliteValue.methodAny (ReflectliteValue.valueError "reflectlite.Value.Type" 0) (fun t _ _ _=>ReflectliteType.toType t) #[.agg #[.pointer (some ⟨11,112,none⟩),.pointer (some a),.int .u64 150]]).run Tryz.prog w
 = .ok (.iface 186 (.agg #[.pointer (some ⟨11,112,none⟩)])) w:=by kernel_rfl
theorem kindP (w:World):((ReflectliteType.abiMethod fun t=>(fun a:Nat=>Value.int IntKind.u8 (a:Int)) <$> Rtype.kind t) #[.pointer (some ⟨11,112,none⟩)]).run Tryz.prog w=.ok (.int .u8 22) w:=by kernel_rfl
theorem kindE (w:World):((ReflectliteType.abiMethod fun t=>(fun a:Nat=>Value.int IntKind.u8 (a:Int)) <$> Rtype.kind t) #[.pointer (some ⟨11,50,none⟩)]).run Tryz.prog w=.ok (.int .u8 2) w:=by kernel_rfl
theorem rlm (z:Sem Value) (f:TypeId→Addr→Nat→Nat→Sem Value) (v:Value) :
 ReflectliteValue.method z f #[v]=(do match ← ReflectliteValue.parts v with|none=>z|some (t,a,fl)=>f t a fl (fl % 32)):=rfl
theorem partsP (a:Addr) (w:World):(ReflectliteValue.parts (.agg #[.pointer (some ⟨11,112,none⟩),.pointer (some a),.int .u64 150])).run Tryz.prog w=.ok (some (112,a,150)) w:=by kernel_rfl
theorem isNilP (a p:Addr) (W:World) (ha:W.cell? a=some (.pointer (some p))) :
 (ReflectliteValue.method (ReflectliteValue.valueError "reflectlite.Value.IsNil" 0) ReflectliteValue.isNil #[.agg #[.pointer (some ⟨11,112,none⟩),.pointer (some a),.int .u64 150]]).run Tryz.prog W=.ok (.bool false) W:=by
 rw[rlm]
 simp only[Sem.run_bind,partsP,Result.andThen]
 simp[ReflectliteValue.isNil,loadVar,isAgg,underlying,Tryz.underlying112,ha,Result.andThen]
theorem elemP (w:World):(ReflectliteType.method ReflectliteType.elem #[.agg #[.pointer (some ⟨11,112,none⟩)]]).run Tryz.prog w=.ok (.iface 186 (.agg #[.pointer (some ⟨11,50,none⟩)])) w:=by kernel_rfl
theorem implementsE (w:World):(ReflectliteType.relation "Implements" ReflectliteType.implements_ #[.agg #[.pointer (some ⟨11,50,none⟩)],.iface 186 (.agg #[.pointer (some ⟨11,24,none⟩)])]).run Tryz.prog w=.ok (.bool true) w:=by kernel_rfl
theorem typeOfE (v:Value) (w:World):(ReflectliteType.typeOf #[.iface 50 v]).run Tryz.prog w=.ok (.iface 186 (.agg #[.pointer (some ⟨11,50,none⟩)])) w:=by kernel_rfl
theorem assignableE (w:World):(ReflectliteType.relation "AssignableTo" ReflectliteType.assignableTo #[.agg #[.pointer (some ⟨11,50,none⟩)],.iface 186 (.agg #[.pointer (some ⟨11,50,none⟩)])]).run Tryz.prog w=.ok (.bool true) w:=by kernel_rfl
theorem valueOfE (n:Int) (w:World):(ReflectliteValue.unpack (.iface 50 (.int .i64 n))).run Tryz.prog w
 = .ok (.agg #[.pointer (some ⟨11,50,none⟩),.pointer (some ⟨w.heap.size,0,none⟩),.int .u64 130]) (w.alloc (.cells #[.int .i64 n] 50)):=by kernel_rfl
theorem elemOfP (w:World):(Rtype.elem? 112).run Tryz.prog w=.ok (some 50) w:=by kernel_rfl
theorem mkE (p:Addr) (w:World):(ReflectliteValue.mk 50 p ReflectliteValue.flagAddr).run Tryz.prog w=.ok (.agg #[.pointer (some ⟨11,50,none⟩),.pointer (some p),.int .u64 386]) w:=by kernel_rfl
theorem elemVP (a p:Addr) (W:World) (ha:W.cell? a=some (.pointer (some p))) :
 (ReflectliteValue.method (ReflectliteValue.valueError "reflectlite.Value.Elem" 0) ReflectliteValue.elem #[.agg #[.pointer (some ⟨11,112,none⟩),.pointer (some a),.int .u64 150]]).run Tryz.prog W
  = .ok (.agg #[.pointer (some ⟨11,50,none⟩),.pointer (some p),.int .u64 386]) W:=by
 rw[rlm]
 simp only[Sem.run_bind,partsP,Result.andThen]
 simp[ReflectliteValue.elem,loadVar,isAgg,underlying,Tryz.underlying112,ha,Result.andThen,elemOfP,mkE]
theorem rls (v x:Value):ReflectliteValue.set #[v,x]=(do
 let (some (dst,a,fl),some (src,b,_)):=(← ReflectliteValue.parts v,← ReflectliteValue.parts x)
  | unsupported (.noEntry "extern/(internal/reflectlite.Value).Set.zeroValue")
 if fl / ReflectliteValue.flagAddr % 2==0 then unsupported (.noEntry "extern/(internal/reflectlite.Value).Set.unaddressable")
 let val ← loadVar src b
 if ← Rtype.directlyAssignable dst src then storeVar dst a val
 else if ← Rtype.implements dst src then
  if (← Rtype.kind src)==20 then
   match val with
   | .nilIface=>unsupported (.noEntry "extern/reflectlite: a nil value of one interface type handed on as a value of another")
   | _=>storeVar dst a val
  else storeVar dst a (.iface src val)
 else panicString ("reflectlite.Set: value of type "++(← Rtype.spelt src)++" is not assignable to type "++(← Rtype.spelt dst))
 pure (.tuple #[])):=rfl
theorem partsEa (a:Addr) (w:World):(ReflectliteValue.parts (.agg #[.pointer (some ⟨11,50,none⟩),.pointer (some a),.int .u64 386])).run Tryz.prog w=.ok (some (50,a,386)) w:=by kernel_rfl
theorem partsE (a:Addr) (w:World):(ReflectliteValue.parts (.agg #[.pointer (some ⟨11,50,none⟩),.pointer (some a),.int .u64 130])).run Tryz.prog w=.ok (some (50,a,130)) w:=by kernel_rfl
theorem directE (w:World):(Rtype.directlyAssignable 50 50).run Tryz.prog w=.ok true w:=by kernel_rfl
theorem setE (ta b:Addr) (n:Int) (old:Value) (W:World) (hb:W.cell? b=some (.int .i64 n)) (ht:W.cell? ta=some old) (hf:W.frozen? ta=false) :
 (ReflectliteValue.set #[.agg #[.pointer (some ⟨11,50,none⟩),.pointer (some ta),.int .u64 386],.agg #[.pointer (some ⟨11,50,none⟩),.pointer (some b),.int .u64 130]]).run Tryz.prog W
  = .ok (.tuple #[]) (W.setCell ta (.int .i64 n)):=by
 rw[rls]
 simp only[Sem.run_bind,partsEa,partsE,Result.andThen]
 simp[ReflectliteValue.flagAddr,loadVar,isAgg,underlying,Tryz.underlying50,hb,Result.andThen,directE,storeVar,Value.cells,storeCells,Addr.add]
 rw[run_store Tryz.prog W ta _ _ (by rfl)]
 simp[ht,hf]
end EA
open EA
set_option maxHeartbeats 4000000 in
theorem as_hit (n:Int) (t:Addr) (old:Value) (w:World) (hg:ErrT w) (ht0:w.cell? t=some old) (hf0:w.frozen? t=false) :
 Calls Tryz.prog 61 #[.iface 50 (.int .i64 n),.iface 112 (.pointer (some t))] w fun ev w'=>ev=.returned (.bool true)∧w'=((((w.alloc (.cells #[.pointer (some t)] 112)).alloc (.cells #[.pointer (some ⟨11,112,none⟩),.pointer (some ⟨w.heap.size,0,none⟩),.int .u64 150] 146)).alloc (.cells #[.pointer (some ⟨11,112,none⟩),.pointer (some ⟨w.heap.size,0,none⟩),.int .u64 150] 146)).alloc (.cells #[.int .i64 n] 50)).setCell t (.int .i64 n):=by
 unfold ErrT at hg
 have h6:=@run_callFunc_extern Tryz.prog 85 _ (fun args=>ReflectliteValue.unpack (args.getD 0 (.tuple #[]))) Tryz.func85 (by kernel_rfl) (by kernel_rfl) (by kernel_rfl) (by kernel_rfl)
 have h7:=@run_callFunc_extern Tryz.prog 86 _ (ReflectliteValue.methodAny (ReflectliteValue.valueError "reflectlite.Value.Type" 0) (fun t _ _ _=>ReflectliteType.toType t)) Tryz.func86 (by kernel_rfl) (by kernel_rfl) (by kernel_rfl) (by kernel_rfl)
 have h8:=@run_callFunc_extern Tryz.prog 87 _ (ReflectliteValue.method (ReflectliteValue.valueError "reflectlite.Value.IsNil" 0) ReflectliteValue.isNil) Tryz.func87 (by kernel_rfl) (by kernel_rfl) (by kernel_rfl) (by kernel_rfl)
 have h27:=@run_callFunc_extern Tryz.prog 246 _ (ReflectliteType.abiMethod fun t=>do pure (.int .u8 (← Rtype.kind t))) Tryz.func246 (by kernel_rfl) (by kernel_rfl) (by kernel_rfl) (by kernel_rfl)
 have h37:=@run_callFunc_extern Tryz.prog 258 _ (ReflectliteType.method ReflectliteType.elem) Tryz.func258 (by kernel_rfl) (by kernel_rfl) (by kernel_rfl) (by kernel_rfl)
 have h38:=@run_callFunc_extern Tryz.prog 259 _ (ReflectliteType.relation "Implements" ReflectliteType.implements_) Tryz.func259 (by kernel_rfl) (by kernel_rfl) (by kernel_rfl) (by kernel_rfl)
 have h10:=@run_callFunc_extern Tryz.prog 125 _ ReflectliteType.typeOf Tryz.func125 (by kernel_rfl) (by kernel_rfl) (by kernel_rfl) (by kernel_rfl)
 have h35:=@run_callFunc_extern Tryz.prog 256 _ (ReflectliteType.relation "AssignableTo" ReflectliteType.assignableTo) Tryz.func256 (by kernel_rfl) (by kernel_rfl) (by kernel_rfl) (by kernel_rfl)
 have h11:=@run_callFunc_extern Tryz.prog 126 _ (ReflectliteValue.method (ReflectliteValue.valueError "reflectlite.Value.Elem" 0) ReflectliteValue.elem) Tryz.func126 (by kernel_rfl) (by kernel_rfl) (by kernel_rfl) (by kernel_rfl)
 have h12:=@run_callFunc_extern Tryz.prog 127 _ ReflectliteValue.set Tryz.func127 (by kernel_rfl) (by kernel_rfl) (by kernel_rfl) (by kernel_rfl)
 have tO:=typeOfE
 have a25:=assignableE
 have v25:=valueOfE
 have f6:=valueOfP
 have f7:=typeP
 have k27:=kindP
 have k25:=kindE
 have e27:=elemP
 have i25:=implementsE
 have n8:=isNilP ⟨w.heap.size,0,none⟩ t ((w.alloc (.cells #[.pointer (some t)] 112)).alloc (.cells #[.pointer (some ⟨11,112,none⟩),.pointer (some ⟨w.heap.size,0,none⟩),.int .u64 150] 146)) (by simp)
 have hlt:0<w.heap.size:=World.block_lt_of_cell? w _ hg
 have hg2:((w.alloc (.cells #[.pointer (some t)] 112)).alloc (.cells #[.pointer (some ⟨11,112,none⟩),.pointer (some ⟨w.heap.size,0,none⟩),.int .u64 150] 146)).cell? ⟨0,0,none⟩=some (.iface 186 (.agg #[.pointer (some ⟨11,24,none⟩)])):=by
  rw[World.cell?_alloc_lt _ _ ⟨0,0,none⟩ (by simp <;> omega),World.cell?_alloc_lt _ _ ⟨0,0,none⟩ hlt];exact hg
 have htl:t.block<w.heap.size:=World.block_lt_of_cell? w _ ht0
 have el:=elemVP ⟨w.heap.size,0,none⟩ t (((w.alloc (.cells #[.pointer (some t)] 112)).alloc (.cells #[.pointer (some ⟨11,112,none⟩),.pointer (some ⟨w.heap.size,0,none⟩),.int .u64 150] 146)).alloc (.cells #[.pointer (some ⟨11,112,none⟩),.pointer (some ⟨w.heap.size,0,none⟩),.int .u64 150] 146)) (by rw[World.cell?_alloc_lt _ _ ⟨w.heap.size,0,none⟩ (by simp <;> omega)];simp)
 have st:=setE t ⟨w.heap.size+1+1+1,0,none⟩ n old ((((w.alloc (.cells #[.pointer (some t)] 112)).alloc (.cells #[.pointer (some ⟨11,112,none⟩),.pointer (some ⟨w.heap.size,0,none⟩),.int .u64 150] 146)).alloc (.cells #[.pointer (some ⟨11,112,none⟩),.pointer (some ⟨w.heap.size,0,none⟩),.int .u64 150] 146)).alloc (.cells #[.int .i64 n] 50))
  (by rw[World.cell?_alloc_at _ _ _ _ (by simp)];rfl)
  (by rw[World.cell?_alloc_lt _ _ t (by simp <;> omega),World.cell?_alloc_lt _ _ t (by simp <;> omega),World.cell?_alloc_lt _ _ t (by simp <;> omega),World.cell?_alloc_lt _ _ t htl];exact ht0)
  (by rw[World.frozen?_alloc_old _ _ t (by simp <;> omega),World.frozen?_alloc_old _ _ t (by simp <;> omega),World.frozen?_alloc_old _ _ t (by simp <;> omega),World.frozen?_alloc_old _ _ t (Nat.ne_of_lt htl)];exact hf0)
 go_enter Tryz.func61,Tryz.ntmps61
 go_wp2
 refine wp_loop_rounds 1 ?_
 rw[rounds_succ]
 go_wp2
 go_ret
 exact ⟨rfl,rfl⟩
theorem told_nil (w:World):Calls Tryz.prog 29 #[.nilIface] w fun e w'=>e=.returned (.int .i64 0)∧Below w.heap.size w w':=by
 go_enter Tryz.func29,Tryz.ntmps29
 go_wp2
 go_returns
 exact ⟨rfl,by repeat (first|exact Below.refl _ _|refine Below.drew ?_|refine Ext.alloc ?_ _)⟩
theorem told_err (n:Int) (w:World) (hg:ErrT w):Calls Tryz.prog 29 #[.iface 50 (.int .i64 n)] w fun e w'=>e=.returned (.int .i64 n)∧Below w.heap.size w w':=by
 have hgA:ErrT (w.alloc (.cells #[.int .i64 0] 50)):=by
  unfold ErrT at *
  rw[World.cell?_alloc_lt _ _ ⟨0,0,none⟩ (World.block_lt_of_cell? w _ hg)];exact hg
 have H:=Lib.hid hg
 clear hg
 have HA:=Lib.hid hgA
 clear hgA
 go_enter Tryz.func29,Tryz.ntmps29
 go_wp2_with (go_at_call 61;refine (as_hit _ _ (.int .i64 0) _ HA.out (by simp) (by simp)).mono ?_;rintro e w' ⟨rfl,rfl⟩)
 go_returns
 exact ⟨rfl,by repeat (first|exact Below.refl _ _|refine Below.drew ?_|refine Ext.alloc ?_ _)⟩
end Go.Proofs.YtcdjjjokniinkaaGreatDoor
end
section
namespace Go.Proofs.YtcdjjjokniinkaaGreatDoor
open Go Go.EYtcdjjjokniinkaaGreatDoor Go.RowKit
set_option maxRecDepth 100000
variable {gl:List (Nat×List D)}
def rowD (p:Int×Int):List D:=[iD p.1,iD p.2]
theorem sameCells_d (l m:List (Int×Int)) (hl:l.length≤9223372036854775806):FnP Tryz.prog gl 13 [.lst 2 (l.map rowD),.lst 2 (m.map rowD)] (.b (l=m) inferInstance):=by
 refine fnP_of_vc (nv:=9999) (cu:=[]) fits mixed Tryz.func13 rfl hoB rfl ?_
 ((repeat' ((conv=>whnf);(first|refine Fork.yes (by assumption) ?_|refine Fork.no (by assumption) ?_|refine Fork.nono (by assumption) ?_|(refine Fork.yes ?_ ?_;focus (simp;done))|(refine Fork.no ?_ ?_;focus (simp;done))|refine Fork.neg (fun _=>?_) (fun _=>?_)|refine Fork.mk (fun _=>?_) (fun _=>?_))));(all_goals (conv=>whnf)))
 ·exact LeD.bf (fun h=>by subst h;simp at *)
 ·have hlen:l.length=m.length:=by simp at *;omega
  refine ⟨{ σ:=Nat,fr:=fun k=>[(5,.c (.d (iD k)))],ks:=[],L:=fun _=>[],ex:=0,I:=fun k=>k≤l.length∧l.take k=m.take k,μ:=fun k=>l.length - k },⟨0,⟨Nat.zero_le _,rfl⟩,?_⟩,fun (k:Nat) hk=>?_⟩
  ·((repeat' first|exact rfl|((conv=>whnf);first|done|exact suL|refine And.intro ?_ ?_|fail));all_goals conv=>whnf)
  ·obtain ⟨hk1,hk2⟩:=hk
   ((repeat' ((conv=>whnf);(first|refine Fork.yes (by assumption) ?_|refine Fork.no (by assumption) ?_|refine Fork.nono (by assumption) ?_|(refine Fork.yes ?_ ?_;focus (simp;done))|(refine Fork.no ?_ ?_;focus (simp;done))|refine Fork.neg (fun _=>?_) (fun _=>?_)|refine Fork.mk (fun _=>?_) (fun _=>?_))));(all_goals (conv=>whnf)))
   ·have hlt:k<l.length:=by simp at *;omega
    have hltm:k<m.length:=by omega
    refine ⟨by kernel_rfl,?_⟩
    ((repeat' ((conv=>whnf);(first|refine Fork.yes (by assumption) ?_|refine Fork.no (by assumption) ?_|refine Fork.nono (by assumption) ?_|(refine Fork.yes ?_ ?_;focus (simp[andPD];done))|(refine Fork.no ?_ ?_;focus (simp[andPD];done))|refine Fork.neg (fun _=>?_) (fun _=>?_)|refine Fork.mk (fun _=>?_) (fun _=>?_))));(all_goals (conv=>whnf)))
    refine ⟨Int.natCast_nonneg _,_,get_map hlt,?_⟩
    ((repeat' ((conv=>whnf);(first|refine Fork.yes (by assumption) ?_|refine Fork.no (by assumption) ?_|refine Fork.nono (by assumption) ?_|(refine Fork.yes ?_ ?_;focus (simp[andPD];done))|(refine Fork.no ?_ ?_;focus (simp[andPD];done))|refine Fork.neg (fun _=>?_) (fun _=>?_)|refine Fork.mk (fun _=>?_) (fun _=>?_))));(all_goals (conv=>whnf)))
    refine ⟨Int.natCast_nonneg _,_,get_map hltm,?_⟩
    ((repeat' ((conv=>whnf);(first|refine Fork.yes (by assumption) ?_|refine Fork.no (by assumption) ?_|refine Fork.nono (by assumption) ?_|(refine Fork.yes ?_ ?_;focus (simp[andPD];done))|(refine Fork.no ?_ ?_;focus (simp[andPD];done))|refine Fork.neg (fun _=>?_) (fun _=>?_)|refine Fork.mk (fun _=>?_) (fun _=>?_))));(all_goals (conv=>whnf)))
    ·rename_i h
     refine LeD.bf (fun he=>h ?_)
     subst he
     exact ⟨rfl,rfl,trivial⟩
    ·rename_i h
     refine ⟨k+1,⟨⟨hlt,?_⟩,by show l.length - (k+1)<l.length - k;omega⟩,?_⟩
     ·rw[List.take_succ_eq_append_getElem hlt,List.take_succ_eq_append_getElem hltm,hk2]
      rw[show l[k]=m[k] from Prod.ext h.1 h.2.1]
     ·((repeat' first|exact rfl|((conv=>whnf);first|done|exact suL|refine And.intro ?_ ?_|fail));all_goals conv=>whnf)
      exact ceq (show IntKind.i64.wrap ((k:Int)+1)=((k+1:Nat):Int) by rw[wrapI (by omega)];rfl)
   ·have hkl:k=l.length:=by simp at *;omega
    refine LeD.bt ?_
    rw[hkl,List.take_length,hlen,List.take_length] at hk2
    exact hk2
theorem FnP.of_below {P:Program} {g:Nat} {ds:List D} {xs:List Value} {r:D} {v:Value} (hB:HasBody P g) (hx:∀ M w ys,DenL M w ds ys→ys=xs) (hv:∀ M w,DenD M w r v)
 (h:∀ M w,Glob gl M w→Calls P g xs.toArray w fun e w'=>e=.returned v∧Below w.heap.size w w'):FnP P gl g ds r:=fun w M ys _ hg hd=>by
 obtain rfl:=hx M w ys hd
 exact .inl ⟨hB,(h M w hg).mono fun e w' ⟨h1,h2⟩=>⟨Evo.of_below h2 _,v,h1,hv _ _⟩⟩
abbrev errT:List D:=[.v (.iface 186 (.agg #[.pointer (some ⟨11,24,none⟩)]))]
theorem errT_of {M:Nat→Prop} {w:World} (hg:Glob gl M w) (h:Go.EYtcdjjjokniinkaaGreatDoor.look gl 0=some errT):ErrT w:=by
 obtain ⟨_,xs,h2,_,h4⟩:=hg _ _ h
 obtain ⟨x,rfl,h5⟩:=All2.one_iff.1 h4
 obtain rfl:=DenD.v_inv h5
 exact globCell h2 0 _ rfl
theorem Told_nil:FnP Tryz.prog gl 29 [.v .nilIface] (iD 0) :=
 FnP.of_below (xs:=[.nilIface]) (v:=.int .i64 0) hoB (fun M w ys hd=>by
  obtain ⟨y,rfl,h1⟩:=All2.one_iff.1 hd
  rw[DenD.v_inv h1]) (fun _ _=>.v _) (fun M w hg=>told_nil w)
theorem Told_err (n:Int) (h:Go.EYtcdjjjokniinkaaGreatDoor.look gl 0=some errT):FnP Tryz.prog gl 29 [.v (.iface 50 (.int .i64 n))] (iD n) :=
 FnP.of_below (xs:=[.iface 50 (.int .i64 n)]) (v:=.int .i64 n) hoB (fun M w ys hd=>by
  obtain ⟨y,rfl,h1⟩:=All2.one_iff.1 hd
  rw[DenD.v_inv h1]) (fun _ _=>.v _) (fun M w hg=>told_err n w (errT_of hg h))
theorem errD_cases {P:D→Prop} (n:Int) (h0:n=0→P (.v .nilIface)) (h1:n≠0→P (.v (.iface 50 (.int .i64 n)))):P (errD n):=by
 unfold errD
 split
 ·exact h0 ‹_›
 ·exact h1 ‹_›
theorem Error_d (n k:Int) (h:Go.EYtcdjjjokniinkaaGreatDoor.look gl 0=some errT):FnP Tryz.prog gl 12 [errD n,iD k] (.b (n=k) inferInstance):=by
 refine errD_cases (P:=fun d=>FnP Tryz.prog gl 12 [d,iD k] (.b (n=k) inferInstance)) n (fun h0=>?_) (fun h0=>?_)
 ·subst h0
  refine fnP_of_vc (nv:=9999) (cu:=[]) fits mixed Tryz.func12 rfl hoB rfl ?_
  ((repeat' ((conv=>whnf);first|(first|refine Fork.yes (by assumption) ?_|refine Fork.no (by assumption) ?_|refine Fork.nono (by assumption) ?_|(refine Fork.yes ?_ ?_;focus (simp[andPD];done))|(refine Fork.no ?_ ?_;focus (simp[andPD];done))|refine Fork.neg (fun _=>?_) (fun _=>?_)|refine Fork.mk (fun _=>?_) (fun _=>?_))|refine Or.inl (Or.inl (Exists.intro _ (And.intro (by first|exact Told_nil) ?_)))|refine Exists.intro _ (And.intro (by first|exact Told_nil) ?_)));(all_goals (conv=>whnf)))
  exact LeD.b (by omega)
 ·refine fnP_of_vc (nv:=9999) (cu:=[]) fits mixed Tryz.func12 rfl hoB rfl ?_
  ((repeat' ((conv=>whnf);first|(first|refine Fork.yes (by assumption) ?_|refine Fork.no (by assumption) ?_|refine Fork.nono (by assumption) ?_|(refine Fork.yes ?_ ?_;focus (simp[andPD];done))|(refine Fork.no ?_ ?_;focus (simp[andPD];done))|refine Fork.neg (fun _=>?_) (fun _=>?_)|refine Fork.mk (fun _=>?_) (fun _=>?_))|refine Or.inl (Or.inl (Exists.intro _ (And.intro (by first|exact Told_err n h) ?_)))|refine Exists.intro _ (And.intro (by first|exact Told_err n h) ?_)));(all_goals (conv=>whnf)))
  exact LeD.b (by omega)
end Go.Proofs.YtcdjjjokniinkaaGreatDoor
end
section
namespace Go.Proofs.YtcdjjjokniinkaaGreatDoor
open Go Go.EYtcdjjjokniinkaaGreatDoor Go.RowKit
set_option maxRecDepth 100000
variable {gl:List (Nat×List D)}
def pairsL (c0 r0:Int) (n k:Nat):List (Int×Int):=(List.range k).flatMap fun (i:Nat)=>(List.range n).map fun (j:Nat)=>(c0+j,r0+i)
theorem rowsL_pairs (c0 r0:Int) (n k:Nat):rowsL c0 r0 n k=(pairsL c0 r0 n k).map rowD:=by
 unfold rowsL pairsL partL
 rw[List.map_flatMap]
 simp[rowD,cellRow,Function.comp_def]
theorem pairsL_len (c0 r0:Int) (n k:Nat):(pairsL c0 r0 n k).length=k * n:=by
 have:=rowsL_len c0 r0 n k
 rwa [rowsL_pairs,List.length_map] at this
theorem Box_s {c r c' r':Int} (h:okP c r) (h':okP c' r'):FnP Tryz.prog gl 59 [cellD c r,cellD c' r'] (.tup [boxD (min c c') (min r r') (max c c') (max r r'),errD 0]):=by
 have:=Box_d (gl:=gl) c r c' r';unfold boxR at this;rwa [if_pos ⟨h,h'⟩] at this
theorem Cells_s {a b c d:Int} (h:boxP a b c d):FnP Tryz.prog gl 60 [boxD a b c d] (.tup [.lst 2 ((pairsL a b (c - a+1).toNat (d - b+1).toNat).map rowD),errD 0]):=by
 have:=Cells_d (gl:=gl) a b c d;rw[if_pos h] at this;unfold cellsD at this;rwa [rowsL_pairs] at this
theorem refCells_s {a b c d:Int} (h:boxP a b c d):FnP Tryz.prog gl 55 [boxD a b c d] (.lst 2 ((pairsL a b (c - a+1).toNat (d - b+1).toNat).map rowD)):=by
 have:=refCells_d (gl:=gl) a b c d h;unfold cellsD at this;rwa [rowsL_pairs] at this
theorem sameNil:FnP Tryz.prog gl 13 [.lst 2 [],.v (.slice none 0 0)] (.b True inferInstance):=by
 refine fnP_of_vc (nv:=9999) (cu:=[]) fits mixed Tryz.func13 rfl hoB rfl ?_
 ((repeat' ((conv=>whnf);(first|refine Fork.yes (by assumption) ?_|refine Fork.no (by assumption) ?_|refine Fork.nono (by assumption) ?_|(refine Fork.yes ?_ ?_;focus (simp;done))|(refine Fork.no ?_ ?_;focus (simp;done))|refine Fork.neg (fun _=>?_) (fun _=>?_)|refine Fork.mk (fun _=>?_) (fun _=>?_))));(all_goals (conv=>whnf)))
 refine ⟨{ σ:=Unit,fr:=fun _=>[(5,.c (.d (iD 0)))],ks:=[],L:=fun _=>[],ex:=0,I:=fun _=>True,μ:=fun _=>0 },⟨(),trivial,?_⟩,fun _ _=>?_⟩
 ·((repeat' first|exact rfl|((conv=>whnf);first|done|exact suL|refine And.intro ?_ ?_|fail));all_goals conv=>whnf)
 ·((repeat' ((conv=>whnf);(first|refine Fork.yes (by assumption) ?_|refine Fork.no (by assumption) ?_|refine Fork.nono (by assumption) ?_|(refine Fork.yes ?_ ?_;focus (simp;done))|(refine Fork.no ?_ ?_;focus (simp;done))|refine Fork.neg (fun _=>?_) (fun _=>?_)|refine Fork.mk (fun _=>?_) (fun _=>?_))));(all_goals (conv=>whnf)))
  exact LeD.bt trivial
end Go.Proofs.YtcdjjjokniinkaaGreatDoor
end
