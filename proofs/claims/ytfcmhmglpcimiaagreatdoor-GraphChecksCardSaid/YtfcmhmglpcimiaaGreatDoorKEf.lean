/- Proved: a part of what the law is proved with (the reckoner, contracts of functions, plain laws). Conditions: as each says. -/
import Derived.Laws.BytesString
import Derived.Test.YtfcmhmglpcimiaaGreatDoorKEv
namespace Go.EYtfcmhmglpcimiaaGreatDoor
open Go Go.RowKit
def vD:D→V
 | .agg l=>.agg (l.map C.d)
 | d=>.c (.d d)
theorem vD_den {adr:Env} {M:Nat→Prop} {w:World} {d:D} {x:Value} (h:DenD M w d x):DenV adr M w (vD d) x:=by
 cases d <;> first|exact h|skip
 case agg l=>obtain ⟨xs,rfl,h2⟩:=DenD.agg_inv h;exact ⟨xs,rfl,All2.map_left.2 h2⟩
abbrev u8D (b:UInt8):List D:=[.v (.int .u8 (b.toNat:Int))]
def onS (s:Option V) (K:V→Prop):Prop:=match s with|some s=>K s|none=>False
theorem onS_ok {s:Option V} {K:V→Prop} (h:onS s K):∃ v,s=some v∧K v:=by
 cases s with
 | none=>exact h.elim
 | some v=>exact ⟨v,rfl,h⟩
def onC (s:Option V) (K:C→Prop):Prop:=match s with|some (.c c)=>K c|_=>False
theorem onC_ok {s:Option V} {K:C→Prop} (h:onC s K):∃ c,s=some (.c c)∧K c:=by
 unfold onC at h
 split at h
 ·exact ⟨_,rfl,h⟩
 ·exact h.elim
def onT (tt:List (Nat×TI)) (t:Nat) (K:TI→Prop):Prop:=match look tt t with|some ti=>K ti|none=>False
theorem onT_ok {tt:List (Nat×TI)} {t:Nat} {K:TI→Prop} (h:onT tt t K):∃ ti,look tt t=some ti∧K ti:=by
 unfold onT at h
 split at h
 ·exact ⟨_,by assumption,h⟩
 ·exact h.elim
def rField (ti:TI) (f:Nat) (c:C) (K:V→Prop):Prop :=
 match nth ti.flds f with
 | some (off,_+1)=>match c with
  | .ptr k o=>K (.c (.ptr k (o+off)))
  | .elt z k i o=>K (.c (.elt z k i (o+off)))
  | .d (.imm l)=>K (.c (.d (.imm (l.drop off))))
  | _=>False
 | _=>False
def rFieldV (tt:List (Nat×TI)) (ti:TI) (f:Nat) (s:V) (K:V→Prop):Prop :=
 match s,nth ti.flds f,nth ti.fts f with
 | .agg l,some (off,_),some ft=>onB ti.eqok (onT tt ft fun tf=>match tf.agg with
  | true=>False
  | false=>match l[off]? with
   | some c=>K (.c c)
   | none=>False)
 | _,_,_=>False
def rLoad (L:List (Nat×Blk)) (ti:TI) (c:C) (K:V→Prop):Prop :=
 match c with
 | .ptr k o=>match look L k with
  | some (.var l _)=>ofCut ti.agg (cut l o ti.size) ti.size K
  | _=>False
 | .elt z k i o=>match look L k with
  | some (.rows z' l _)=>Nat.beq z z'=true∧∃ r,l[i]?=some r∧ofCut ti.agg ((cut r o ti.size).map C.d) ti.size K
  | _=>False
 | .d (.imm l)=>ofCut ti.agg ((cut l 0 ti.size).map C.d) ti.size K
 | _=>False
def rExtract (s:V) (i:Nat) (K:V→Prop):Prop :=
 match s with
 | .tup l=>match nth l i with
  | some (true,l')=>K (.agg l')
  | some (false,[c])=>K (.c c)
  | _=>False
 | .c (.d (.tup l))=>match nth l i with
  | some d=>K (vD d)
  | none=>False
 | _=>False
def rUn (op:UnOp) (c:C) (K:V→Prop):Prop :=
 match op,c with
 | .not,.d (.v (.bool true))=>K (.c (.d (.v (.bool false))))
 | .not,.d (.v (.bool false))=>K (.c (.d (.v (.bool true))))
 | .not,.d (.b p i)=>K (.c (.d (.b (¬ p) (@instDecidableNot p i))))
 | .neg,.d (.v (.int k n))=>K (.c (iC k (k.wrap (0 - n))))
 | .xor,.d (.v (.int k n))=>intBin .xor k (if k.signed then -1 else k.max) n fun c=>K (.c c)
 | _,_=>False
def isShift:BinOp→Bool
 | .shl=>true
 | .shr=>true
 | _=>false
def EqF (P:Program) (t:Nat) (l r:List C) (d:PD):Prop :=
 ∀ (adr:Env) (M:Nat→Prop) (w:World) (us vs:List Value),DenCs adr M w l us→DenCs adr M w r vs→P.eqGuardType P.depth t=false∧(Op.equal t (.agg us.toArray) (.agg vs.toArray)).run P w=.ok (@decide d.p d.i) w
def rEq (P:Program) (tt:List (Nat×TI)) (op:BinOp) (t:Nat) (y z:Operand) (u v:V) (K:V→Prop):Prop :=
 match eqVal tt t y z u v with
 | some d=>match op with
  | .eql=>K (.c (.d (.b d.p d.i)))
  | .neq=>K (.c (.d (.b (¬ d.p) (@instDecidableNot d.p d.i))))
  | _=>False
 | none=>match u,v with
  | .agg l,.agg r=>∃ d:PD,EqF P t l r d∧(match op with
   | .eql=>K (.c (.d (.b d.p d.i)))
   | .neq=>K (.c (.d (.b (¬ d.p) (@instDecidableNot d.p d.i))))
   | _=>False)
  | _,_=>False
def rBin (P:Program) (tt:List (Nat×TI)) (op:BinOp) (t:Nat) (y z:Operand) (u v:V) (K:V→Prop):Prop :=
 match u,v with
 | .c (.d (.v (.int k a))),.c (.d (.v (.int k' b)))=>match isShift op with
  | true=>shiftBin op k a b fun c=>K (.c c)
  | false=>onB (ikeq k k') (intBin op k a b fun c=>K (.c c))
 | .c (.d (.str a)),.c (.d (.str b))=>strBin op a b fun c=>K (.c c)
 | u,v=>rEq P tt op t y z u v K
def rConv (L:List (Nat×Blk)) (_ts td:TI) (te:Option TI) (c:C) (K:V→Prop):Prop :=
 match c with
 | .d (.v (.int _ n))=>match td.ik with
  | some k=>K (.c (iC k (k.wrap n)))
  | none=>onB (Nat.beq td.kd 2) (K (.c (.d (.str (Utf8.encode n).data.toList))))
 | .d (.str l)=>onB (Nat.beq td.kd 2) (K (.c (.d (.str l))))
 | .d (.lst z l)=>onB (Nat.beq td.kd 2) (match te with
  | some e=>onB (match e.ik with|some k=>ikeq k .u8|none=>false) (onB (Nat.beq z 1) (∃ bs:List UInt8,l=bs.map u8D∧K (.c (.d (.str bs)))))
  | none=>False)
 | .all z k=>onB (Nat.beq td.kd 2) (match te,look L k with
  | some e,some (.rows _ l _)=>onB (match e.ik with|some k=>ikeq k .u8|none=>false) (onB (Nat.beq z 1) (∃ bs:List UInt8,l=bs.map u8D∧K (.c (.d (.str bs)))))
  | _,_=>False)
 | .d (.v (.slice none 0 0))=>onB (Nat.beq td.kd 2) (match te with
  | some e=>onB (match e.ik with|some k=>ikeq k .u8|none=>false) (K (.c (.d (.str []))))
  | none=>False)
 | _=>False
def dOfC:C→Option D
 | .d x=>some x
 | _=>none
def dsOf:List C→Option (List D)
 | []=>some []
 | c::r=>match dOfC c,dsOf r with
  | some d,some l=>some (d::l)
  | _,_=>none
def rIface (ti:TI) (t:Nat) (s:V) (K:V→Prop):Prop :=
 onB (match ti.iface with|true=>false|false=>true) (match s with
 | .c (.d (.v x))=>K (.c (.d (.v (.iface t x))))
 | .c (.d (.str l))=>K (.c (.d (.ifc t false [.str l])))
 | .c (.d (.b p i))=>K (.c (.d (.ifc t false [.b p i])))
 | .c (.d (.lst z l))=>K (.c (.d (.ifc t false [.lst z l])))
 | .agg l=>match dsOf l with
  | some ds=>K (.c (.d (.ifc t true ds)))
  | none=>False
 | _=>False)
def capsOf (ev:Operand→Option V):List Operand→Option (List (Nat×Nat))
 | []=>some []
 | x::r=>match ev x,capsOf ev r with
  | some (.c (.ptr k o)),some l=>some ((k,o)::l)
  | _,_=>none
def rNil (c:C) (K:V→Prop):Prop :=
 match c with
 | .ptr k o=>K (.c (.ptr k o))
 | .elt z k i o=>K (.c (.elt z k i o))
 | .d (.imm l)=>K (.c (.d (.imm l)))
 | .fn f cs=>K (.c (.fn f cs))
 | .d (.v (.iface t x))=>K (.c (.d (.v (.iface t x))))
 | .d (.ifc t g l)=>K (.c (.d (.ifc t g l)))
 | _=>False
def rIndex (ti:TI) (c:C) (i:C) (K:V→Prop):Prop :=
 match c,i with
 | .d (.str l),.d (.v (.int _ n))=>onB (Nat.beq ti.kd 2) ((0≤n∧n<(l.length:Int))∧K (.c (iC .u8 ((l.getD n.toNat 0).toNat:Int))))
 | _,_=>False
def rIndexA (ti te:TI) (l:List C) (i:C) (K:V→Prop):Prop :=
 match i,ti.sub with
 | .d (.v (.int _ n)),[m]=>onB (Nat.beq ti.kd 4) (onB (match te.agg with|true=>false|false=>true) (onB (Nat.beq te.size 1) ((0≤n∧n<(m:Int))∧∃ c,l[n.toNat]?=some c∧K (.c c))))
 | _,_=>False
def rIndexAddr (L:List (Nat×Blk)) (ti te:TI) (c:C) (i:C) (K:V→Prop):Prop :=
 match i with
 | .d (.v (.int _ n))=>match c with
  | .d (.lst z l)=>onB (Nat.beq ti.kd 3) (onB (Nat.beq z te.size) ((0≤n)∧∃ r,l[n.toNat]?=some r∧K (.c (.d (.imm r)))))
  | .all z k=>onB (Nat.beq ti.kd 3) (onB (Nat.beq z te.size) (match look L k with
   | some (.rows _ l _)=>(0≤n∧n<(l.length:Int))∧K (.c (.elt z k n.toNat 0))
   | _=>False))
  | .own z k a m=>onB (Nat.beq ti.kd 3) (onB (Nat.beq z te.size) ((0≤n∧n<(m:Int))∧K (.c (.elt z k (a+n.toNat) 0))))
  | .d (.imm l)=>onB (Nat.beq ti.kd 4) (match ti.sub with
   | [m]=>(0≤n∧n<(m:Int))∧∃ r,cut l (n.toNat * te.size) te.size=r∧K (.c (.d (.imm r)))
   | _=>False)
  | .ptr k o=>match look L k with
   | some (.rows z _ _)=>onB (Nat.beq ti.kd 4) (onB (Nat.beq z te.size) (onB (Nat.beq o 0) (match ti.sub with
    | [m]=>(0≤n∧n<(m:Int))∧K (.c (.elt z k n.toNat 0))
    | _=>False)))
   | _=>onB (Nat.beq ti.kd 4) (match ti.sub with
    | [m]=>(0≤n∧n<(m:Int))∧K (.c (.ptr k (o+n.toNat * te.size)))
    | _=>False)
  | _=>False
 | _=>False
def optInt (ev:Operand→Option V):Option Operand→Option (Option Int)
 | none=>some none
 | some x=>match ev x with
  | some (.c (.d (.v (.int _ n))))=>some (some n)
  | _=>none
def rSlice (L:List (Nat×Blk)) (ti:TI) (te:Option TI) (c:C) (lo hi mx:Option Int) (K:V→Prop):Prop :=
 match mx with
 | some _=>False
 | none=>match c with
  | .d (.str l)=>onB (Nat.beq ti.kd 2) ((0≤lo.getD 0∧lo.getD 0≤hi.getD l.length∧hi.getD l.length≤l.length)∧K (.c (.d (.str ((l.take (hi.getD l.length).toNat).drop (lo.getD 0).toNat)))))
  | .d (.lst z l)=>onB (Nat.beq ti.kd 3) (match te with
   | some te=>onB (Nat.beq z te.size) ((0≤lo.getD 0∧lo.getD 0≤hi.getD l.length∧hi.getD l.length≤l.length)∧K (.c (.d (.lst z ((l.take (hi.getD l.length).toNat).drop (lo.getD 0).toNat)))))
   | none=>False)
  | .all z k=>onB (Nat.beq ti.kd 3) (match te,look L k with
   | some te,some (.rows _ l _)=>onB (Nat.beq z te.size) ((0≤lo.getD 0∧lo.getD 0≤hi.getD l.length∧hi.getD l.length≤l.length)∧K (.c (.own z k (lo.getD 0).toNat ((hi.getD l.length).toNat - (lo.getD 0).toNat))))
   | _,_=>False)
  | .own z k i m=>onB (Nat.beq ti.kd 3) (match te with
   | some te=>onB (Nat.beq z te.size) ((0≤lo.getD 0∧lo.getD 0≤hi.getD m∧hi.getD m≤m)∧K (.c (.own z k (i+(lo.getD 0).toNat) ((hi.getD m).toNat - (lo.getD 0).toNat))))
   | none=>False)
  | _=>False
def pvals (ev:Operand→Option V):List (Nat×Operand)→Option (List (Nat×V))
 | []=>some []
 | (i,y)::r=>match ev y,pvals ev r with
  | some s,some l=>some ((i,s)::l)
  | _,_=>none
def cellsOf:V→Option (List C)
 | .agg l=>some l
 | .c (.d (.v (.agg _)))=>none
 | .c (.d (.v (.tuple _)))=>none
 | .c (.d (.agg _))=>none
 | .c (.d (.tup _))=>none
 | .c .junk=>none
 | .c c=>some [c]
 | .tup _=>none
def fillC (flds:List (Nat×Nat)) (cells:List C):List (Nat×V)→Option (List C)
 | []=>some cells
 | (i,s)::r=>match nth flds i,cellsOf s with
  | some (off,sz),some l=>bif Nat.beq l.length sz then (bif Nat.ble (off+l.length) cells.length then fillC flds (over cells off l) r else none) else none
  | _,_=>none
def arrFl (m s:Nat):List (Nat×Nat):=(List.range m).map fun i=>(i * s,s)
def rBuild (tt:List (Nat×TI)) (ti:TI) (ps:Option (List (Nat×V))) (K:V→Prop):Prop :=
 match ps with
 | some l=>match ti.flds,ti.el with
  | [],some e=>match ti.sub with
   | [m]=>onB (Nat.beq ti.kd 4) (onT tt e fun te=>match fillC (arrFl m te.size) (ti.zero.map C.d) l with
    | some out=>K (.agg out)
    | none=>False)
   | _=>False
  | _::_,none=>match Nat.ble 65 ti.size,l with
   | true,[]=>K (.c (.d (.v (.agg (ti.zero.map undD).toArray))))
   | true,_::_=>False
   | false,_=>match fillC ti.flds (ti.zero.map C.d) l with
    | some out=>K (.agg out)
    | none=>False
  | _,_=>False
 | none=>False
def rLen (L:List (Nat×Blk)) (ti:TI) (c:C) (K:V→Prop):Prop :=
 match c with
 | .d (.str l)=>onB (Nat.beq ti.kd 2) (K (.c (iC .i64 (l.length:Int))))
 | .d (.lst _ l)=>onB (Nat.beq ti.kd 3) (K (.c (iC .i64 (l.length:Int))))
 | .d (.v (.slice none 0 0))=>onB (Nat.beq ti.kd 3) (K (.c (iC .i64 0)))
 | .all _ k=>onB (Nat.beq ti.kd 3) (match look L k with
  | some (.rows _ l _)=>K (.c (iC .i64 (l.length:Int)))
  | _=>False)
 | .own _ _ _ n=>onB (Nat.beq ti.kd 3) (K (.c (iC .i64 (n:Int))))
 | .mref k=>onB (Nat.beq ti.kd 9) (match look L k with
  | some (.mp ks _)=>K (.c (iC .i64 (ks.length:Int)))
  | _=>False)
 | .d (.mp ks _)=>onB (Nat.beq ti.kd 9) (K (.c (iC .i64 (ks.length:Int))))
 | .d (.v (.map none))=>onB (Nat.beq ti.kd 9) (K (.c (iC .i64 0)))
 | _=>False
def mapOf (L:List (Nat×Blk)) (c:C) (K:List D→List D→Prop):Prop :=
 match c with
 | .mref k=>(match look L k with
  | some (.mp ks vs)=>K ks vs
  | _=>False)
 | .d (.mp ks vs)=>K ks vs
 | .d (.v (.map none))=>K [] []
 | _=>False
def keyOfV:V→Option D
 | .c (.d d)=>some d
 | .agg l=>match dsOf l with
  | some ds=>some (.agg ds)
  | none=>none
 | _=>none
def zeroV (te:TI):V:=match te.agg with
 | true=>.agg (te.zero.map C.d)
 | false=>match te.zero with
  | [d]=>.c (.d d)
  | _=>.c .junk
def zeroW (te:TI):Value:=match te.agg with
 | true=>.agg (te.zero.map undD).toArray
 | false=>(te.zero.map undD).headD undef
def lookR (ok:Bool) (v:V) (b:Bool):V:=match ok with
 | false=>v
 | true=>match v with
  | .agg l=>.tup [(true,l),(false,[.d (.v (.bool b))])]
  | .c c=>.tup [(false,[c]),(false,[.d (.v (.bool b))])]
  | .tup _=>.c .junk
def rLookup (P:Program) (tt:List (Nat×TI)) (L:List (Nat×Blk)) (ti:TI) (c:C) (kv:V) (ok:Bool) (K:V→Prop):Prop :=
 onB (Nat.beq ti.kd 9) (match ti.sub,keyOfV kv with
  | [kt,et],some kd=>onT tt et fun te=>mapOf L c fun ks vs=>∃ s,(KeyT P kt s∧keyS s kd=true∧∀ d ∈ ks,keyS s d=true)∧(P.info? et).bind (·.zero)=some (zeroW te)∧((∃ (i:Nat) (v:D),(ks[i]?=some kd∧vs[i]?=some v)∧K (lookR ok (vD v) true))∨(kd ∉ ks∧K (lookR ok (zeroV te) false)))
  | _,_=>False)
def rMinMax (mn:Bool) (c d:C) (K:V→Prop):Prop :=
 match c,d with
 | .d (.v (.int k a)),.d (.v (.int k' b))=>onB (ikeq k k') (match mn with|true=>K (.c (iC k (if b<a then b else a)))|false=>K (.c (iC k (if a<b then b else a))))
 | _,_=>False
section
variable {P:Program} {adr:Env} {M0:Nat→Prop} {L L':List (Nat×Blk)} {n:Nat} {w:World}
theorem rField_ok {t:Nat} {ti:TI} (h:FitsOne P t ti) {f:Nat} {c:C} {K:V→Prop} (hr:rField ti f c K) :
 ∃ s,K s∧∀ (adr:Env) (M:Nat→Prop) (w:World) (x:Value),DenC adr M w c x→∃ v,(Instr.fieldAt t x f).run P w=.ok v w∧DenV adr M w s v:=by
 unfold rField at hr
 split at hr
 ·rename_i off sz hf
  rw[nth_eq] at hf
  split at hr
  ·refine ⟨_,hr,fun adr M w x hx=>?_⟩
   obtain ⟨b,m,h1,rfl⟩:=hx
   exact ⟨_,h.field hf _ _ w,b,m,h1,rfl⟩
  ·rename_i z k i o
   refine ⟨_,hr,fun adr M w x hx=>?_⟩
   obtain ⟨b,m,h1,rfl⟩:=hx
   exact ⟨_,h.field hf _ _ w,b,m,h1,by rw[Nat.add_assoc]⟩
  ·rename_i l
   refine ⟨_,hr,fun adr M w x hx=>?_⟩
   cases hx with
   | imm _ b o cs hb hM hcell hden =>
    refine ⟨_,h.field hf _ _ w,?_⟩
    refine DenD.imm (l.drop off) b (o+off) (fun j=>cs (off+j)) hb hM (fun j d hj=>?_) (fun j d hj=>?_)
    ·rw[List.getElem?_drop] at hj
     rw[Nat.add_assoc];exact hcell (off+j) d hj
    ·rw[List.getElem?_drop] at hj
     exact hden (off+j) d hj
  ·exact hr.elim
 ·exact hr.elim
theorem rFieldV_ok {tt:List (Nat×TI)} (hT:Fits P tt) {t:Nat} {ti:TI} (h:FitsOne P t ti) {f:Nat} {s:V} {K:V→Prop} (hr:rFieldV tt ti f s K) :
 ∃ s',K s'∧∀ (adr:Env) (M:Nat→Prop) (w:World) (x:Value),DenV adr M w s x→∃ v,(Instr.field t x f).run P w=.ok v w∧DenV adr M w s' v:=by
 unfold rFieldV at hr
 split at hr
 ·rename_i l off sz ft hf hft
  rw[nth_eq] at hf hft
  obtain ⟨hq,h1⟩:=onB_ok hr
  obtain ⟨tf,htf,h2⟩:=onT_ok h1
  clear hr h1
  split at h2
  ·exact h2.elim
  ·rename_i hag
   split at h2
   ·rename_i c hc
    refine ⟨_,h2,fun adr M w x hx=>?_⟩
    obtain ⟨xs,rfl,hxs⟩:=hx
    obtain ⟨v,hv,hcv⟩:=All2.get hxs hc
    refine ⟨v,?_,hcv⟩
    obtain ⟨d,hd,_,hfl,_⟩:=h.desc
    obtain ⟨hft',_⟩:=h.eqk hq
    rw[hd] at hft'
    cases d with
    | struct fs =>
     simp only[fldsOf] at hfl
     obtain ⟨F,hF,hFi⟩:=mapM_get hfl f _ hf
     have hF':fs[f]?=some F:=by rw[← hF];simp
     simp only[Option.bind_some,ftsOf] at hft'
     split at hft'
     ·cases hft'
     ·have hm:=Option.some.inj hft'
      rw[← hm,List.getElem?_map,hF] at hft
      simp only[Option.map_some,Option.some.injEq] at hft
      cases hi:P.info? F.type with
      | none=>simp[hi] at hFi
      | some i =>
       simp only[hi,Option.map_some,Option.some.injEq,Prod.mk.injEq] at hFi
       have hA:=(hT ft tf htf).agg w
       rw[hag] at hA
       have hv':xs.toArray[F.offset]?=some v:=by rw[hFi.1];simpa using hv
       subst hft
       unfold Instr.field
       simp only[Sem.run_bind,run_underlying hd,Result.andThen_ok,hF',asAgg,Sem.run_pure,part,hA,Bool.false_eq_true,if_false,hv']
    | _ =>
     simp only[fldsOf,Option.some.injEq] at hfl
     rw[← hfl] at hf
     simp at hf
   ·exact h2.elim
 ·exact hr.elim
theorem ofCut_ok {ag:Bool} {l:List C} {sz:Nat} {K:V→Prop} (h:ofCut ag l sz K):l.length=sz∧(ag=false→sz=1)∧∃ s,K s∧∀ (adr:Env) (M:Nat→Prop) (w:World) (xs:List Value),DenCs adr M w l xs→DenV adr M w s (if ag then .agg xs.toArray else xs.headD undef):=by
 unfold ofCut at h
 split at h
 ·rename_i hb
  have hl:=Nat.eq_of_beq_eq_true hb
  split at h
  ·exact ⟨hl,(fun h=>(by cases h)),_,h,fun adr M w xs hx=>⟨xs,rfl,hx⟩⟩
  ·split at h
   ·refine ⟨hl,fun _=>by rw[← hl];rfl,_,h,fun adr M w xs hx=>?_⟩
    obtain ⟨x,rfl,h1⟩:=All2.one_iff.1 hx
    exact h1
   ·exact h.elim
 ·exact h.elim
theorem rLoad_ok {t:Nat} {ti:TI} (h:FitsOne P t ti) {c:C} {K:V→Prop} (hr:rLoad L ti c K) :
 ∃ s,K s∧∀ (M0:Nat→Prop) (adr:Env) (L':List (Nat×Blk)) (n:Nat) (w:World) (x:Value),(∀ k B,look L k=some B→look L' k=some B)→WOk M0 adr L' n w→DenC adr (Mut M0 adr L') w c x→
  ∃ v,(Instr.loadAt t x).run P w=.ok v w∧DenV adr (Mut M0 adr L') w s v:=by
 have fin:∀ {b o:Nat} {w:World} {cs:List Value},cs.length=ti.size→(∀ j v,cs[j]?=some v→w.cell? ⟨b,o+j,none⟩=some v)→(ti.agg=false→ti.size=1)→(Instr.loadAt t (.pointer (some ⟨b,o,none⟩))).run P w=.ok (if ti.agg then .agg cs.toArray else cs.headD undef) w:=by
  intro b o w cs h1 h2 h3
  simp only[Instr.loadAt,Instr.sureAddr,Sem.run_bind,Sem.run_pure,Result.andThen_ok,h.load h1 h2 h3]
 unfold rLoad at hr
 split at hr
 ·rename_i k o
  split at hr
  ·rename_i l tb hk
   obtain ⟨h1,h2,s,hs,h3⟩:=ofCut_ok hr
   refine ⟨s,hs,fun M0 adr L' n w x hL hw hx=>?_⟩
   obtain ⟨b,m,ha,rfl⟩:=hx
   have hloc:=hw.loc k _ (hL k _ hk)
   rw[ha] at hloc
   obtain ⟨xs,e1,e2⟩:=hloc
   have hcut:DenCs adr (Mut M0 adr L') w (cut l o ti.size) (cut xs o ti.size):=(e2.drop o).take _
   refine ⟨_,fin (cs:=cut xs o ti.size) (by rw[← All2.length hcut];exact h1) (fun j v hj=>?_) h2,h3 _ _ _ _ hcut⟩
   simp only[cut,List.getElem?_take,List.getElem?_drop] at hj
   split at hj
   ·simp[World.cell?,e1,hj]
   ·cases hj
  ·exact hr.elim
 ·rename_i z k i o
  split at hr
  ·rename_i z' l e hk
   obtain ⟨hz,r,hi,hr⟩:=hr
   have hz:=Nat.eq_of_beq_eq_true hz
   subst hz
   obtain ⟨h1,h2,s,hs,h3⟩:=ofCut_ok hr
   refine ⟨s,hs,fun M0 adr L' n w x hL hw hx=>?_⟩
   obtain ⟨b,m,ha,rfl⟩:=hx
   have hloc:=hw.loc k _ (hL k _ hk)
   rw[ha] at hloc
   obtain ⟨g1,g2,g3,cur,cp,g4,g5,g6,g7,g8⟩:=hloc
   have hil:i<l.length:=(List.getElem?_eq_some_iff.1 hi).1
   have hrz:r.length=z:=g3 r (List.mem_of_getElem? hi)
   have hri:r=(l.flatten.drop (i * z)).take z:=by
    have h1:(l.drop i).flatten=l.flatten.drop (i * z):=flatten_drop g3
    rw[← h1,List.drop_eq_getElem_cons hil,List.flatten_cons]
    have h2:l[i]=r:=(List.getElem?_eq_some_iff.1 hi).2
    rw[h2,← hrz,List.take_left]
   have hcutR:DenL (Mut M0 adr L') w r (((cur.toList.take (l.length * z)).drop (i * z)).take z):=by
    rw[hri];exact (g8.drop _).take _
   have hcut:DenCs adr (Mut M0 adr L') w ((cut r o ti.size).map C.d) (cut (((cur.toList.take (l.length * z)).drop (i * z)).take z) o ti.size):=All2.map_left.2 ((hcutR.drop o).take _)
   refine ⟨_,fin (cs:=cut (((cur.toList.take (l.length * z)).drop (i * z)).take z) o ti.size) (by rw[← All2.length hcut];exact h1) (fun j v hj=>?_) h2,h3 _ _ _ _ hcut⟩
   simp only[cut,List.getElem?_take,List.getElem?_drop] at hj
   split at hj
   ·split at hj
    ·split at hj
     ·simp only[World.cell?,g4]
      simp only[Option.isSome_none,Bool.false_eq_true,if_false]
      rw[show i * z+o+j=i * z+(o+j) by omega]
      simpa using hj
     ·cases hj
    ·cases hj
   ·cases hj
  ·exact hr.elim
 ·rename_i l
  obtain ⟨h1,h2,s,hs,h3⟩:=ofCut_ok hr
  refine ⟨s,hs,fun M0 adr L' n w x hL hw hx=>?_⟩
  cases hx with
  | imm _ b o cs hb hM hcell hden =>
   have hlen:ti.size≤l.length:=by simp[cut] at h1;omega
   have hcut:DenCs adr (Mut M0 adr L') w ((cut l 0 ti.size).map C.d) ((List.range ti.size).map cs):=by
    refine All2.map_left.2 (All2.of_get (by simp[cut];omega) fun j d x h1 h2=>?_)
    simp only[cut,List.drop_zero,List.getElem?_take] at h1
    split at h1
    ·rename_i hj
     rw[List.getElem?_map,List.getElem?_range hj] at h2
     simp only[Option.map_some,Option.some.injEq] at h2;subst h2
     exact hden j d h1
    ·cases h1
   refine ⟨_,fin (cs:=(List.range ti.size).map cs) (by simp) (fun j v hj=>?_) h2,h3 _ _ _ _ hcut⟩
   rw[List.getElem?_map] at hj
   obtain ⟨j',hj1,rfl⟩:=Option.map_eq_some_iff.1 hj
   have hjlt:j<ti.size:=by
    rcases Nat.lt_or_ge j ti.size with h|h
    ·exact h
    ·rw[List.getElem?_eq_none (by simpa using h)] at hj1;cases hj1
   rw[List.getElem?_range hjlt] at hj1
   cases hj1
   exact hcell j l[j] (List.getElem?_eq_getElem (by omega))
 ·exact hr.elim
theorem rExtract_ok {s:V} {i:Nat} {K:V→Prop} (hr:rExtract s i K):∃ r,K r∧∀ (adr:Env) (M:Nat→Prop) (w:World) (x:Value),DenV adr M w s x→∃ v,(∀ w',(Instr.extract x i).run P w'=.ok v w')∧DenV adr M w r v:=by
 unfold rExtract at hr
 split at hr
 ·rename_i l
  split at hr
  ·rename_i l' hi
   rw[nth_eq] at hi
   refine ⟨_,hr,fun adr M w x hx=>?_⟩
   obtain ⟨xs,rfl,h1⟩:=hx
   obtain ⟨y,hy,h2⟩:=All2.get h1 hi
   exact ⟨y,fun w'=>by simp[Instr.extract,hy],h2⟩
  ·rename_i c hi
   rw[nth_eq] at hi
   refine ⟨_,hr,fun adr M w x hx=>?_⟩
   obtain ⟨xs,rfl,h1⟩:=hx
   obtain ⟨y,hy,h2⟩:=All2.get h1 hi
   obtain ⟨c',hc,h3⟩:=h2
   cases hc
   exact ⟨y,fun w'=>by simp[Instr.extract,hy],h3⟩
  ·exact hr.elim
 ·rename_i l
  split at hr
  ·rename_i d hi
   rw[nth_eq] at hi
   refine ⟨_,hr,fun adr M w x hx=>?_⟩
   obtain ⟨xs,rfl,h1⟩:=DenD.tup_inv hx
   obtain ⟨y,hy,h2⟩:=All2.get h1 hi
   exact ⟨y,fun w'=>by simp[Instr.extract,hy],vD_den h2⟩
  ·exact hr.elim
 ·exact hr.elim
theorem rUn_ok {op:UnOp} {c:C} {K:V→Prop} (hr:rUn op c K):∃ r,K r∧∀ (adr:Env) (M:Nat→Prop) (w:World) (x:Value),DenC adr M w c x→∃ v,(Op.unary op x).run P w=.ok v w∧DenV adr M w r v:=by
 unfold rUn at hr
 split at hr
 ·exact ⟨_,hr,fun adr M w x hx=>by obtain rfl:=DenD.v_inv hx;exact ⟨_,rfl,.v _⟩⟩
 ·exact ⟨_,hr,fun adr M w x hx=>by obtain rfl:=DenD.v_inv hx;exact ⟨_,rfl,.v _⟩⟩
 ·exact ⟨_,hr,fun adr M w x hx=>by
   obtain rfl:=DenD.b_inv hx
   refine ⟨_,rfl,?_⟩
   rename_i p i
   have:(!@decide p i)=@decide (¬ p) (@instDecidableNot p i):=by by_cases hp:p <;> simp[hp]
   rw[this];exact .b _ _⟩
 ·exact ⟨_,hr,fun adr M w x hx=>by obtain rfl:=DenD.v_inv hx;exact ⟨_,by simp[Op.unary,Op.intArith],.v _⟩⟩
 ·obtain ⟨c,hc,h1⟩:=intBin_ok (P:=P) hr
  refine ⟨_,hc,fun adr M w x hx=>?_⟩
  obtain rfl:=DenD.v_inv hx
  obtain ⟨v,h2,h3⟩:=h1 adr M 0 w
  refine ⟨v,?_,h3⟩
  simpa[binOp,Op.unary] using h2
 ·exact hr.elim
theorem run_guard_plain {op:BinOp} {t:Nat} {y z:Operand} {a b:Value} (ha:∀ l,a≠.agg l) (hn:a≠.nilIface):(eqGuard op t y z a b).run P w=.ok () w:=by
 cases a <;> first|exact absurd rfl hn|exact absurd rfl (ha _)|(cases op <;> rfl)
theorem rBin_ok {tt:List (Nat×TI)} (hT:Fits P tt) {op:BinOp} {t:Nat} {y z:Operand} {u v:V} {K:V→Prop} (hr:rBin P tt op t y z u v K) :
 ∃ s,K s∧∀ (adr:Env) (M:Nat→Prop) (w:World) (a b:Value),DenV adr M w u a→DenV adr M w v b→∃ r,(eqGuard op t y z a b).run P w=.ok () w∧(binOp op t a b).run P w=.ok r w∧DenV adr M w s r:=by
 unfold rBin at hr
 split at hr
 ·rename_i k a k' b
  split at hr
  ·obtain ⟨c,hc,h1⟩:=shiftBin_ok (P:=P) (yk:=k') hr
   refine ⟨_,hc,fun adr M w x y hx hy=>?_⟩
   obtain rfl:=DenD.v_inv hx
   obtain rfl:=DenD.v_inv hy
   obtain ⟨r,h2,h3⟩:=h1 adr M t w
   exact ⟨r,run_guard_plain (fun l h=>by cases h) (fun h=>by cases h),h2,h3⟩
  ·obtain ⟨hk,hr2⟩:=onB_ok hr
   obtain rfl:=ikeq_ok hk
   obtain ⟨c,hc,h1⟩:=intBin_ok (P:=P) hr2
   refine ⟨_,hc,fun adr M w x y hx hy=>?_⟩
   obtain rfl:=DenD.v_inv hx
   obtain rfl:=DenD.v_inv hy
   obtain ⟨r,h2,h3⟩:=h1 adr M t w
   exact ⟨r,run_guard_plain (fun l h=>by cases h) (fun h=>by cases h),h2,h3⟩
 ·obtain ⟨c,hc,h1⟩:=strBin_ok (P:=P) hr
  refine ⟨_,hc,fun adr M w x y hx hy=>?_⟩
  obtain rfl:=DenD.str_inv hx
  obtain rfl:=DenD.str_inv hy
  obtain ⟨r,h2,h3⟩:=h1 adr M t w
  exact ⟨r,run_guard_plain (fun l h=>by cases h) (fun h=>by cases h),h2,h3⟩
 ·unfold rEq at hr
  split at hr
  ·rename_i d hd
   split at hr
   ·refine ⟨_,hr,fun adr M w x y hx hy=>?_⟩
    obtain ⟨h1,_,h3⟩:=eqVal_ok hT hd w hx hy
    exact ⟨_,h1 _,h3 .eql (.inl rfl),.b _ _⟩
   ·refine ⟨_,hr,fun adr M w x y hx hy=>?_⟩
    obtain ⟨h1,_,h3⟩:=eqVal_ok hT hd w hx hy
    refine ⟨_,h1 _,h3 .neq (.inr rfl),?_⟩
    obtain ⟨p,i⟩:=d
    have:(!@decide p i)=@decide (¬ p) (@instDecidableNot p i):=by by_cases hp:p <;> simp[hp]
    simp only[this];exact DenD.b _ _
   ·exact hr.elim
  ·split at hr
   ·rename_i l r _ _ _
    obtain ⟨d,hd,hr⟩:=hr
    split at hr
    ·refine ⟨_,hr,fun adr M w x y hx hy=>?_⟩
     obtain ⟨xs,rfl,hxs⟩:=hx
     obtain ⟨ys,rfl,hys⟩:=hy
     obtain ⟨h1,h2⟩:=hd adr M w xs ys hxs hys
     refine ⟨.bool (@decide d.p d.i),run_eqGuard_agg w _ t _ _ _ _ h1,?_,.b _ _⟩
     show (do pure (Value.bool (← Op.equal t (.agg xs.toArray) (.agg ys.toArray))):Sem Value).run P w=_
     simp only[Sem.run_bind,h2,Result.andThen_ok,Sem.run_pure]
    ·refine ⟨_,hr,fun adr M w x y hx hy=>?_⟩
     obtain ⟨xs,rfl,hxs⟩:=hx
     obtain ⟨ys,rfl,hys⟩:=hy
     obtain ⟨h1,h2⟩:=hd adr M w xs ys hxs hys
     refine ⟨.bool (!@decide d.p d.i),run_eqGuard_agg w _ t _ _ _ _ h1,?_,?_⟩
     ·show (do pure (Value.bool (! (← Op.equal t (.agg xs.toArray) (.agg ys.toArray)))):Sem Value).run P w=_
      simp only[Sem.run_bind,h2,Result.andThen_ok,Sem.run_pure]
     ·obtain ⟨p,i⟩:=d
      have:(!@decide p i)=@decide (¬ p) (@instDecidableNot p i):=by by_cases hp:p <;> simp[hp]
      simp only[this];exact DenD.b _ _
    ·exact hr.elim
   ·exact hr.elim
theorem push_fold:∀ (bs:List UInt8) (s:ByteArray),(bs.map fun b=>((b.toNat:Nat):Int)).foldl (fun r n=>r.push (UInt8.ofNat n.toNat)) s=⟨(s.data.toList++bs).toArray⟩
 | [],s=>by simp
 | b::bs,s=>by
  simp only[List.map_cons,List.foldl_cons]
  rw[push_fold bs]
  congr 1
  apply Array.ext'
  simp[ByteArray.push]
theorem run_bytes_str {a:Addr} {bs:List UInt8} {c:Nat} (h:∀ (j:Nat) b,bs[j]?=some b→w.cell? (a.add j)=some (.int .u8 (b.toNat:Int))) :
 (Conv.bytesToString (.slice (some a) bs.length c)).run P w=.ok (.string ⟨bs.toArray⟩) w:=by
 have hl:(loadCells a bs.length).run P w=.ok ((bs.map fun b=>((b.toNat:Nat):Int)).map (Value.int .u8)).toArray w:=by
  have:=run_loadCells_list (P:=P) w a ((bs.map fun b=>((b.toNat:Nat):Int)).map (Value.int .u8)) (fun j v hj=>by
   rw[List.getElem?_map,List.getElem?_map] at hj
   cases hb:bs[j]? with
   | none=>rw[hb] at hj;cases hj
   | some b=>rw[hb] at hj;cases hj;exact h j b hb)
  simpa using this
 rw[run_bytesToString w a bs.length c _ hl,push_fold]
 simp
theorem lst_bytes {M:Nat→Prop} {bs:List UInt8} {x:Value} (h:DenD M w (.lst 1 (bs.map u8D)) x):∃ a l c,x=.slice a l c∧(Conv.bytesToString x).run P w=.ok (.string ⟨bs.toArray⟩) w:=by
 have key:∀ (l:List (List D)),l=bs.map u8D→DenD M w (.lst 1 l) x→∃ a l c,x=.slice a l c∧(Conv.bytesToString x).run P w=.ok (.string ⟨bs.toArray⟩) w:=by
  intro l hl h
  cases h with
  | lst0 _ a c hc =>
   have hb:bs=[]:=by cases bs with|nil=>rfl|cons _ _=>cases hl
   subst hb
   refine ⟨a,0,c,rfl,?_⟩
   cases a with
   | none=>rfl
   | some a=>exact run_bytes_str (bs:=[]) (fun j b hj=>by simp at hj)
  | lst _ _ b o c cs hb hM hle hc hz hcell hden =>
   subst hl
   refine ⟨_,_,_,rfl,?_⟩
   have hlen:(bs.map u8D).length=bs.length:=by simp
   rw[hlen]
   refine run_bytes_str fun j b' hj=>?_
   have hg:get2 (bs.map u8D) j 0=some (.v (.int .u8 (b'.toNat:Int))):=by simp[get2,hj]
   have h1:=hcell j 0 _ hg
   have h2:=DenD.v_inv (hden j 0 _ hg)
   rw[addr_add]
   simpa[h2] using h1
 exact key _ rfl h
theorem flat_u8:∀ (bs:List UInt8),(bs.map u8D).flatten=bs.map fun b=>D.v (.int .u8 (b.toNat:Int))
 | []=>rfl
 | b::bs=>by simp only[List.map_cons,List.flatten_cons,flat_u8 bs];rfl
theorem rConv_ok {ts td:TI} {src dst:Nat} (hs:FitsOne P src ts) (hd:FitsOne P dst td) {te:Option TI} (he:∀ te',te=some te'→∃ e,ts.kd=3∧ts.el=some e∧FitsOne P e te') {c:C} {K:V→Prop} (hr:rConv L ts td te c K) :
 ∃ s,K s∧∀ (M0:Nat→Prop) (adr:Env) (L':List (Nat×Blk)) (n:Nat) (w:World) (x:Value),(∀ k B,look L k=some B→look L' k=some B)→WOk M0 adr L' n w→DenC adr (Mut M0 adr L') w c x→
  ∃ v,(convert src dst x).run P w=.ok v w∧DenV adr (Mut M0 adr L') w s v:=by
 obtain ⟨ds,es,_,_,_,iks,els,kds⟩:=hs.desc
 obtain ⟨dd,ed,_,_,_,ikd,_,kdd⟩:=hd.desc
 have bytes:∀ (e:TI),te=some e→(match e.ik with|some k=>ikeq k .u8|none=>false)=true→∃ el,P.underlying src=some (.slice el)∧P.underlying el=some (.int .u8):=by
  intro e hte1 hik
  obtain ⟨el,h3,hel,hfe⟩:=he e hte1
  ·obtain ⟨de,ee,_,_,_,ike,_⟩:=hfe.desc
   rw[h3] at kds
   rw[hel] at els
   cases ds <;> simp[kdOf] at kds
   simp only[elOf,Option.some.injEq] at els
   subst els
   cases hk:e.ik with
   | none=>rw[hk] at hik;cases hik
   | some k =>
    rw[hk] at hik ike
    obtain rfl:=ikeq_ok hik
    cases de <;> simp only[ikOf,reduceCtorEq,Option.some.injEq] at ike
    subst ike
    exact ⟨_,es,ee⟩
 have str2:Nat.beq td.kd 2=true→P.underlying dst=some .string:=by
  intro h
  rw[Nat.eq_of_beq_eq_true h] at kdd
  cases dd <;> simp[kdOf] at kdd
  exact ed
 unfold rConv at hr
 split at hr
 ·rename_i k0 m
  split at hr
  ·rename_i k hk
   refine ⟨_,hr,fun M0 adr L' n w x _ _ hx=>?_⟩
   obtain rfl:=DenD.v_inv hx
   refine ⟨_,?_,.v _⟩
   rw[hk] at ikd
   cases dd <;> simp only[ikOf,reduceCtorEq,Option.some.injEq] at ikd
   subst ikd
   simp[convert,run_underlying es,run_underlying ed,Conv.intToInt]
  ·replace hr:=onB_ok hr
   obtain ⟨h2,hr⟩:=hr
   refine ⟨_,hr,fun M0 adr L' n w x _ _ hx=>?_⟩
   obtain rfl:=DenD.v_inv hx
   refine ⟨.string (Utf8.encode m),?_,?_⟩
   ·simp[convert,run_underlying es,run_underlying (str2 h2),Conv.intToString]
   ·exact DenD.str _
 ·replace hr:=onB_ok hr
  obtain ⟨h2,hr⟩:=hr
  refine ⟨_,hr,fun M0 adr L' n w x _ _ hx=>?_⟩
  obtain rfl:=DenD.str_inv hx
  refine ⟨_,?_,.str _⟩
  simp[convert,run_underlying es,run_underlying (str2 h2)]
 ·rename_i z l
  replace hr:=onB_ok hr
  obtain ⟨h2,hr⟩:=hr
  split at hr
  ·rename_i e
   replace hr:=onB_ok hr
   obtain ⟨h3,hr⟩:=hr
   replace hr:=onB_ok hr
   obtain ⟨h4,bs,rfl,hr⟩:=hr
   have hz:=Nat.eq_of_beq_eq_true h4
   subst hz
   obtain ⟨el,e1,e2⟩:=bytes e rfl h3
   refine ⟨_,hr,fun M0 adr L' n w x _ _ hx=>?_⟩
   obtain ⟨a,l,c,rfl,h5⟩:=lst_bytes (P:=P) hx
   exact ⟨_,by rw[run_convert_bytes_string w src dst el a l c e1 e2 (str2 h2)];exact h5,DenD.str _⟩
  ·exact hr.elim
 ·rename_i z k
  replace hr:=onB_ok hr
  obtain ⟨h2,hr⟩:=hr
  split at hr
  ·rename_i e z' l e' hk
   replace hr:=onB_ok hr
   obtain ⟨h3,hr⟩:=hr
   replace hr:=onB_ok hr
   obtain ⟨h4,bs,rfl,hr⟩:=hr
   have hz:=Nat.eq_of_beq_eq_true h4
   subst hz
   obtain ⟨el,e1,e2⟩:=bytes e rfl h3
   refine ⟨_,hr,fun M0 adr L' n w x hL hw hx=>?_⟩
   have hloc:=hw.loc k _ (hL k _ hk)
   rcases hx with ⟨h5,rfl⟩|⟨b,m,cp,cur,ee,f,h5,h6,h7,h8,h9,rfl⟩
   ·rw[h5] at hloc
    obtain ⟨_,h6,_⟩:=hloc
    have hb:bs=[]:=by cases bs with|nil=>rfl|cons _ _=>cases h6
    subst hb
    refine ⟨.string .empty,?_,DenD.str []⟩
    rw[run_convert_bytes_string w src dst el _ _ _ e1 e2 (str2 h2)];rfl
   ·rw[h5] at hloc
    obtain ⟨g1,g2,g3,cur',cp',g4,g5,g6,g7,g8⟩:=hloc
    have hz':z'=1∨bs=[]:=by
     cases bs with
     | nil=>exact .inr rfl
     | cons b bs=>exact .inl (g3 (u8D b) (by simp)).symm
    have hm:m=bs.length:=by rw[← g2];simp
    subst hm
    refine ⟨_,?_,DenD.str bs⟩
    rw[run_convert_bytes_string w src dst el _ _ _ e1 e2 (str2 h2)]
    refine run_bytes_str fun j b' hj=>?_
    rcases hz' with rfl|rfl
    ·have hfl:(bs.map u8D).flatten[j]?=some (.v (.int .u8 (b'.toNat:Int))):=by
      rw[flat_u8,List.getElem?_map,hj];rfl
     obtain ⟨x,hx1,hx2⟩:=All2.get g8 hfl
     obtain rfl:=DenD.v_inv hx2
     rw[List.getElem?_take] at hx1
     split at hx1
     ·rw[addr_add]
      simp only[World.cell?,g4]
      simpa using hx1
     ·cases hx1
    ·simp at hj
  ·exact hr.elim
 ·replace hr:=onB_ok hr
  obtain ⟨h2,hr⟩:=hr
  split at hr
  ·rename_i e
   replace hr:=onB_ok hr
   obtain ⟨h3,hr⟩:=hr
   obtain ⟨el,e1,e2⟩:=bytes e rfl h3
   refine ⟨_,hr,fun M0 adr L' n w x _ _ hx=>?_⟩
   obtain rfl:=DenD.v_inv hx
   refine ⟨.string .empty,?_,DenD.str []⟩
   rw[run_convert_bytes_string w src dst el _ _ _ e1 e2 (str2 h2)];rfl
  ·exact hr.elim
 ·exact hr.elim
end
end Go.EYtfcmhmglpcimiaaGreatDoor
