/- Proved: a part of what the law is proved with (the reckoner, contracts of functions, plain laws). Conditions: as each says. -/
import Derived.Test.YtaheflnnigocgaaGreatDoorHEd
section
namespace Go.EYtaheflnnigocgaaGreatDoor
open Go Go.RowKit
def dOf:Value→D
 | .string s=>.str s.data.toList
 | v=>.v v
theorem dOf_den {M:Nat→Prop} {w:World} (x:Value):DenD M w (dOf x) x:=by
 cases x <;> first|exact .v _|exact .str _
def vOf:Value→V
 | .agg a=>.agg (a.toList.map fun x=>.d (dOf x))
 | v=>.c (.d (dOf v))
def sval (gl:List (Nat×List D)) (fr:List (Nat×V)):Operand→Option V
 | .tmp t=>look fr t
 | .const v=>some (vOf v)
 | .global g=>match look gl g with
  | some l=>some (.c (.d (.imm l)))
  | none=>none
 | .func f=>some (.c (.fn f []))
section
variable {adr:Env} {M:Nat→Prop} {w:World}
theorem map_den {l:List Value}:DenCs adr M w (l.map fun x=>C.d (dOf x)) l:=by
 induction l with
 | nil=>trivial
 | cons x l ih=>exact ⟨dOf_den x,ih⟩
theorem vOf_den (x:Value):DenV adr M w (vOf x) x:=by
 cases x <;> first|exact dOf_den _|skip
 case agg a=>exact ⟨a.toList,by simp,map_den⟩
theorem sval_ok {gl:List (Nat×List D)} {fr:List (Nat×V)} {a:Act} (hf:FrOk adr M w fr a) (hg:Glob gl M w) {x:Operand} {s:V} (hs:sval gl fr x=some s):DenV adr M w s (a.eval x):=by
 cases x with
 | tmp t=>exact hf t s hs
 | const v=>simp only[sval,Option.some.injEq] at hs;subst hs;exact vOf_den v
 | global g =>
  simp only[sval] at hs
  split at hs
  ·rename_i l hl
   cases hs
   obtain ⟨h1,xs,h2,h3,h4⟩:=hg g l hl
   refine DenD.imm l g 0 (fun j=>xs.getD j undef) h3 h1 (fun j d hj=>?_) (fun j d hj=>?_)
   ·obtain ⟨x,hx,_⟩:=All2.get h4 hj
    rw[Nat.zero_add]
    rw[globCell h2 j x hx];simp[List.getD,hx]
   ·obtain ⟨x,hx,hd⟩:=All2.get h4 hj
    simpa[List.getD,hx] using hd
  ·cases hs
 | func f=>simp only[sval,Option.some.injEq] at hs;subst hs;exact ⟨[],rfl,trivial⟩
end
def Gives (P:Program) (gl:List (Nat×List D)) (ev:Operand→Option V) (L:List (Nat×Blk)) (o:Oper) (s:V):Prop :=
 ∀ (M0:Nat→Prop) (adr:Env) (L':List (Nat×Blk)) (n:Nat) (w:World) (ρ:Operand→Value),(∀ k B,look L k=some B→look L' k=some B)→WOk M0 adr L' n w→Glob gl (Mut M0 adr L') w→
  (∀ x ∈ o.op.operands.toList,∀ s,ev x=some s→DenV adr (Mut M0 adr L') w s (ρ x))→∃ v,(execOp ρ o).run P w=.ok (.value v) w∧DenV adr (Mut M0 adr L') w s v
def nth {α:Type}:List α→Nat→Option α
 | [],_=>none
 | a::_,0=>some a
 | _::l,n+1=>nth l n
theorem nth_eq {α:Type}:∀ {l:List α} {n:Nat},nth l n=l[n]?
 | [],n=>by simp[nth]
 | a::l,0=>by simp[nth]
 | a::l,n+1=>by simp[nth,nth_eq]
def cut {α:Type} (l:List α) (o n:Nat):List α:=(l.drop o).take n
def ofCut (agg:Bool) (l:List C) (n:Nat) (K:V→Prop):Prop :=
 match Nat.beq l.length n with
 | true=>match agg with
  | true=>K (.agg l)
  | false=>match l with
   | [c]=>K (.c c)
   | _=>False
 | false=>False
structure Fork (p A B:Prop):Prop where
 t:p→A
 f:¬ p→B
theorem Fork.yes {p A B:Prop} (h:p) (a:A):Fork p A B:=⟨fun _=>a,fun hn=>absurd h hn⟩
theorem Fork.no {p A B:Prop} (h:¬ p) (b:B):Fork p A B:=⟨fun hp=>absurd hp h,fun _=>b⟩
theorem Fork.nono {p A B:Prop} (h:p) (b:B):Fork (¬ p) A B:=⟨fun hp=>absurd h hp,fun _=>b⟩
theorem Fork.neg {p A B:Prop} (a:¬ p→A) (b:p→B):Fork (¬ p) A B:=⟨a,fun h=>b (Classical.byContradiction h)⟩
def onBool (c:C) (K:Bool→Prop):Prop :=
 match c with
 | .d (.v (.bool true))=>K true
 | .d (.v (.bool false))=>K false
 | .d (.b p _)=>Fork p (K true) (K false)
 | _=>False
theorem onBool_ok {c:C} {K:Bool→Prop} (h:onBool c K):∃ b,K b∧∀ adr M w x,DenC adr M w c x→x=.bool b:=by
 unfold onBool at h
 split at h
 ·exact ⟨true,h,fun _ _ _ _ hd=>DenD.v_inv hd⟩
 ·exact ⟨false,h,fun _ _ _ _ hd=>DenD.v_inv hd⟩
 ·rename_i p i
  by_cases hp:p
  ·exact ⟨true,h.1 hp,fun _ _ _ _ hd=>by rw[DenD.b_inv hd,decide_eq_true hp]⟩
  ·exact ⟨false,h.2 hp,fun _ _ _ _ hd=>by rw[DenD.b_inv hd,decide_eq_false hp]⟩
 ·exact h.elim
structure PD where
 p:Prop
 i:Decidable p
def pdOf:C→Option PD
 | .d (.v (.bool true))=>some ⟨True,inferInstance⟩
 | .d (.v (.bool false))=>some ⟨False,inferInstance⟩
 | .d (.b p i)=>some ⟨p,i⟩
 | _=>none
theorem pdOf_ok {c:C} {d:PD} (h:pdOf c=some d) {adr:Env} {M:Nat→Prop} {w:World} {x:Value} (hx:DenC adr M w c x):x=.bool (@decide d.p d.i):=by
 unfold pdOf at h
 split at h <;> simp only[Option.some.injEq,reduceCtorEq] at h <;> subst h
 ·rw[DenD.v_inv hx];rfl
 ·rw[DenD.v_inv hx];rfl
 ·exact DenD.b_inv hx
abbrev iC (k:IntKind) (n:Int):C:=.d (.v (.int k n))
abbrev bC (p:Prop) [i:Decidable p]:C:=.d (.b p i)
def ikeq (a b:IntKind):Bool:=match a,b with
 | .i8,.i8|.i16,.i16|.i32,.i32|.i64,.i64|.u8,.u8|.u16,.u16|.u32,.u32|.u64,.u64=>true
 | _,_=>false
theorem ikeq_ok {a b:IntKind} (h:ikeq a b=true):a=b:=by cases a <;> cases b <;> first|rfl|cases h
def onB (b:Bool) (p:Prop):Prop:=match b with|true=>p|false=>False
theorem onB_ok {b:Bool} {p:Prop} (h:onB b p):b=true∧p:=by cases b <;> first|exact h.elim|exact ⟨rfl,h⟩
def intBin (op:BinOp) (k:IntKind) (a b:Int) (K:C→Prop):Prop :=
 match op with
 | .add=>K (iC k (k.wrap (a+b)))
 | .sub=>K (iC k (k.wrap (a - b)))
 | .mul=>K (iC k (k.wrap (a * b)))
 | .quo=>¬ b=0∧K (iC k (k.wrap (a.tdiv b)))
 | .rem=>¬ b=0∧K (iC k (a.tmod b))
 | .and=>K (iC k (k.wrap (BitVec.ofInt k.bits a &&& BitVec.ofInt k.bits b).toNat))
 | .or=>K (iC k (k.wrap (BitVec.ofInt k.bits a ||| BitVec.ofInt k.bits b).toNat))
 | .xor=>K (iC k (k.wrap (BitVec.ofInt k.bits a ^^^ BitVec.ofInt k.bits b).toNat))
 | .andNot=>K (iC k (k.wrap (BitVec.ofInt k.bits a &&& ~~~ BitVec.ofInt k.bits b).toNat))
 | .eql=>K (bC (a=b))
 | .neq=>K (bC (¬ a=b))
 | .lss=>K (bC (a<b))
 | .leq=>K (bC (a≤b))
 | .gtr=>K (bC (b<a))
 | .geq=>K (bC (b≤a))
 | _=>False
theorem intBin_ok {P:Program} {op:BinOp} {k:IntKind} {a b:Int} {K:C→Prop} (h:intBin op k a b K):∃ c,K c∧∀ (adr:Env) (M:Nat→Prop) (t:TypeId) (w:World),∃ v,(binOp op t (.int k a) (.int k b)).run P w=.ok v w∧DenC adr M w c v:=by
 cases op <;> simp only[intBin] at h <;> first
  | exact h.elim
  | (refine ⟨_,h,fun adr M t w=>⟨_,?_,.v _⟩⟩;simp[binOp,Op.intArith,Op.intBits];done)
  | (refine ⟨_,h.2,fun adr M t w=>⟨_,?_,.v _⟩⟩;simp[binOp,Op.intDiv,h.1];done)
  | (refine ⟨_,h,fun adr M t w=>⟨_,?_,.b _ _⟩⟩;simp[binOp,Op.intCmp];try (rw[Bool.eq_iff_iff];simp))
def shiftBin (op:BinOp) (k:IntKind) (a b:Int) (K:C→Prop):Prop :=
 match op with
 | .shl=>0≤b∧K (iC k (k.wrap (a * 2 ^ min b.toNat k.bits)))
 | .shr=>0≤b∧K (iC k (a.fdiv (2 ^ min b.toNat k.bits)))
 | _=>False
theorem shiftBin_ok {P:Program} {op:BinOp} {k yk:IntKind} {a b:Int} {K:C→Prop} (h:shiftBin op k a b K):∃ c,K c∧∀ (adr:Env) (M:Nat→Prop) (t:TypeId) (w:World),∃ v,(binOp op t (.int k a) (.int yk b)).run P w=.ok v w∧DenC adr M w c v:=by
 cases op <;> simp only[shiftBin] at h <;> first
  | exact h.elim
  | (refine ⟨_,h.2,fun adr M t w=>⟨_,?_,.v _⟩⟩;simp[binOp,Op.shift,show ¬ b<0 by omega];done)
def strBin (op:BinOp) (a b:List UInt8) (K:C→Prop):Prop :=
 match op with
 | .add=>a.length+b.length≤9223372036854775807∧K (.d (.str (a++b)))
 | .eql=>K (bC (a=b))
 | .neq=>K (bC (¬ a=b))
 | .lss=>K (bC (Op.bytesLess a b=true))
 | .leq=>K (bC (Op.bytesLess a b=true∨a=b))
 | .gtr=>K (bC (¬ (Op.bytesLess a b=true∨a=b)))
 | .geq=>K (bC (¬ Op.bytesLess a b=true))
 | _=>False
theorem strBin_ok {P:Program} {op:BinOp} {a b:List UInt8} {K:C→Prop} (h:strBin op a b K):∃ c,K c∧∀ (adr:Env) (M:Nat→Prop) (t:TypeId) (w:World),∃ v,(binOp op t (.string ⟨a.toArray⟩) (.string ⟨b.toArray⟩)).run P w=.ok v w∧DenC adr M w c v:=by
 cases op <;> simp only[strBin] at h <;> first
  | exact h.elim
  | (refine ⟨_,h,fun adr M t w=>⟨_,?_,.b _ _⟩⟩;simp[binOp,Op.stringOp,ByteArray.toList_eq];try (rw[Bool.eq_iff_iff];simp))
  | skip
 refine ⟨_,h.2,fun adr M t w=>⟨.string ⟨(a++b).toArray⟩,?_,.str _⟩⟩
 have h1:¬ (9223372036854775807:Int)<(a.length:Int)+(b.length:Int):=by have:=h.1;omega
 have h2:(⟨a.toArray⟩++⟨b.toArray⟩:ByteArray)=⟨(a++b).toArray⟩:=by
  apply ByteArray.ext
  rw[ByteArray.data_append]
  simp
 have h3:((⟨a.toArray⟩:ByteArray).size:Int)=a.length:=by simp[ByteArray.size]
 have h4:((⟨b.toArray⟩:ByteArray).size:Int)=b.length:=by simp[ByteArray.size]
 have h5:IntKind.i64.max=9223372036854775807:=by decide
 simp only[binOp,Op.stringOp,Int.natCast_add,h3,h4,h5,gt_iff_lt,h1,if_false,Sem.run_pure,h2]
def andPD (a b:PD):PD:=⟨a.p∧b.p,@instDecidableAnd a.p b.p a.i b.i⟩
def leafEq (ti:TI):List C→List C→Option PD
 | [.d (.v (.int k a))],[.d (.v (.int k' b))]=>match ti.ik with
  | some _=>bif ikeq k k' then some ⟨a=b,inferInstance⟩ else none
  | none=>none
 | [.d (.str a)],[.d (.str b)]=>bif Nat.beq ti.kd 2 then some ⟨a=b,inferInstance⟩ else none
 | [c],[d]=>bif Nat.beq ti.kd 1 then (match pdOf c,pdOf d with
  | some p,some q=>some ⟨p.p↔q.p,@instDecidableIff p.p q.p p.i q.i⟩
  | _,_=>none) else none
 | _,_=>none
def eqFs (f:Nat→List C→List C→Option PD) (xs ys:List C):List (Nat×Nat)→List Nat→Option PD
 | (off,sz)::fl,t::ts=>match f t (cut xs off sz) (cut ys off sz),eqFs f xs ys fl ts with
  | some p,some q=>some (andPD p q)
  | _,_=>none
 | [],[]=>some ⟨True,inferInstance⟩
 | _,_=>none
def eqC (tt:List (Nat×TI)):Nat→Nat→List C→List C→Option PD
 | 0,_,_,_=>none
 | n+1,t,xs,ys=>match look tt t with
  | some ti=>match ti.eqok with
   | true=>bif Nat.beq xs.length ti.size && Nat.beq ys.length ti.size then eqFs (eqC tt n) xs ys ti.flds ti.fts else none
   | false=>bif ti.agg then none else bif Nat.beq ti.size 1 then leafEq ti xs ys else none
  | none=>none
theorem bytes_eq (a b:List UInt8):((⟨a.toArray⟩:ByteArray)==⟨b.toArray⟩)=decide (a=b):=by
 rw[Bool.eq_iff_iff,beq_toListBytes,ByteArray.toList_eq,ByteArray.toList_eq,beq_iff_eq]
 simp
section
variable {P:Program} {adr:Env} {M:Nat→Prop}
theorem leafEq_ok {t:Nat} {ti:TI} (h:FitsOne P t ti) {xs ys:List C} {d:PD} (he:leafEq ti xs ys=some d) (n:Nat) (w:World) {us vs:List Value} (hu:DenCs adr M w xs us) (hv:DenCs adr M w ys vs) :
 ∃ x y,us=[x]∧vs=[y]∧(Op.equalIn (n+1) t x y).run P w=.ok (@decide d.p d.i) w:=by
 obtain ⟨dsc,hds,_,_,_,hik,_,hkd⟩:=h.desc
 unfold leafEq at he
 split at he
 ·rename_i k a k' b
  obtain ⟨x,rfl,hx⟩:=All2.one_iff.1 hu
  obtain ⟨y,rfl,hy⟩:=All2.one_iff.1 hv
  obtain rfl:=DenD.v_inv hx
  obtain rfl:=DenD.v_inv hy
  split at he
  ·rename_i k0 hk0
   rw[hk0] at hik
   cases dsc <;> simp only[ikOf,reduceCtorEq,Option.some.injEq] at hik
   cases hk:ikeq k k' with
   | false=>rw[hk] at he;cases he
   | true =>
    obtain rfl:=ikeq_ok hk
    rw[hk] at he
    simp only[cond_true,Option.some.injEq] at he;subst he
    refine ⟨_,_,rfl,rfl,?_⟩
    rw[run_equalIn_int w n t _ _ _ _ hds]
    congr 1
  ·cases he
 ·rename_i a b
  obtain ⟨x,rfl,hx⟩:=All2.one_iff.1 hu
  obtain ⟨y,rfl,hy⟩:=All2.one_iff.1 hv
  obtain rfl:=DenD.str_inv hx
  obtain rfl:=DenD.str_inv hy
  cases hk:Nat.beq ti.kd 2 with
  | false=>rw[hk] at he;cases he
  | true =>
   rw[hk] at he
   simp only[cond_true,Option.some.injEq] at he;subst he
   rw[Nat.eq_of_beq_eq_true hk] at hkd
   cases dsc <;> simp[kdOf] at hkd
   refine ⟨_,_,rfl,rfl,?_⟩
   simp only[Op.equalIn,Sem.run_bind,run_underlying hds,Result.andThen_ok,Sem.run_pure]
   congr 1
   exact bytes_eq a b
 ·rename_i c d' _ _
  obtain ⟨x,rfl,hx⟩:=All2.one_iff.1 hu
  obtain ⟨y,rfl,hy⟩:=All2.one_iff.1 hv
  cases hk:Nat.beq ti.kd 1 with
  | false=>rw[hk] at he;cases he
  | true =>
   rw[hk] at he
   simp only[cond_true] at he
   rw[Nat.eq_of_beq_eq_true hk] at hkd
   cases dsc <;> simp[kdOf] at hkd
   split at he
   ·rename_i p q hp hq
    simp only[Option.some.injEq] at he;subst he
    refine ⟨_,_,rfl,rfl,?_⟩
    rw[pdOf_ok hp hx,pdOf_ok hq hy,run_equalIn_bool w n t _ _ hds]
    congr 1
    obtain ⟨p,i⟩:=p
    obtain ⟨q,j⟩:=q
    by_cases hp:p <;> by_cases hq:q <;> simp[hp,hq]
   ·cases he
 ·cases he
theorem run_part {t:Nat} {ti:TI} (h:FitsOne P t ti) {us:List Value} {off:Nat} (w:World) {u:Value}
 (hu:if ti.agg=true then u=.agg (cut us off ti.size).toArray else cut us off ti.size=[u]) (h1:ti.agg=false→ti.size=1) :
 (part t us.toArray off).run P w=.ok u w:=by
 unfold part
 simp only[Sem.run_bind,h.agg,Result.andThen_ok]
 cases ha:ti.agg with
 | true =>
  rw[ha] at hu
  simp only[if_true] at hu ⊢
  simp only[Sem.run_bind,h.size,Result.andThen_ok,Sem.run_pure]
  rw[hu]
  congr 2
  apply Array.ext'
  simp[cut,List.extract_eq_take_drop]
 | false =>
  rw[ha] at hu
  simp only[Bool.false_eq_true,if_false] at hu ⊢
  rw[h1 ha] at hu
  have:us.toArray[off]?=some u:=by
   simp only[cut] at hu
   have h0:((us.drop off).take 1)[0]?=some u:=by rw[hu];rfl
   rw[List.getElem?_take_of_lt (by omega),List.getElem?_drop] at h0
   simpa using h0
  rw[this]
  rfl
theorem eqFs_ok {tt:List (Nat×TI)} (hT:Fits P tt) (E:Nat) (w:World) (xs ys:List C) {us vs:List Value} (hu:DenCs adr M w xs us) (hv:DenCs adr M w ys vs) (f:Nat→List C→List C→Option PD)
 (hf:∀ t xs ys us vs d,f t xs ys=some d→DenCs adr M w xs us→DenCs adr M w ys vs→∃ ti,look tt t=some ti∧(ti.agg=false→ti.size=1)∧∃ x y,(if ti.agg=true then x=.agg us.toArray else us=[x])∧(if ti.agg=true then y=.agg vs.toArray else vs=[y])∧(Op.equalIn E t x y).run P w=.ok (@decide d.p d.i) w) :
 ∀ (fs:List Field) (fl:List (Nat×Nat)) (ts:List Nat) (d:PD),fs.mapM (fun F=>(P.info? F.type).map fun i=>(F.offset,i.size))=some fl→fs.map (·.type)=ts→(∀ F ∈ fs,F.name≠"_")→eqFs f xs ys fl ts=some d→
  (Op.eqFields E us.toArray vs.toArray fs).run P w=.ok (@decide d.p d.i) w
 | [],fl,ts,d,h1,h2,_,h4=>by
  simp at h1 h2;subst h1;subst h2
  simp only[eqFs,Option.some.injEq] at h4;subst h4
  simp[Op.eqFields]
 | F::fs,fl,ts,d,h1,h2,h3,h4=>by
  simp only[List.mapM_cons,Option.bind_eq_bind,Option.bind_eq_some_iff,Option.pure_def,Option.some.injEq] at h1
  obtain ⟨⟨off,sz⟩,hb,fl',hr,rfl⟩:=h1
  simp only[List.map_cons] at h2
  subst h2
  cases hq:P.info? F.type with
  | none=>simp[hq] at hb
  | some i =>
   simp only[hq,Option.map_some,Option.some.injEq,Prod.mk.injEq] at hb
   obtain ⟨rfl,rfl⟩:=hb
   simp only[eqFs] at h4
   split at h4
   ·rename_i p q hp hq2
    simp only[Option.some.injEq] at h4;subst h4
    obtain ⟨ti,hl,h11,x,y,hx,hy,he⟩:=hf _ _ _ _ _ _ hp ((hu.drop _).take _) ((hv.drop _).take _)
    have hti:=hT _ _ hl
    have hsz:ti.size=i.size:=by
     obtain ⟨i',z,e1,e2,_⟩:=hti.infoE
     rw[hq] at e1;cases e1;exact e2.symm
    rw[← hsz] at hx hy
    have ih:=eqFs_ok hT E w xs ys hu hv f hf fs fl' _ q hr rfl (fun G hG=>h3 G (by simp[hG])) hq2
    have hne:=h3 F (by simp)
    simp only[Op.eqFields,hne,ne_eq,not_false_eq_true,if_true,Sem.run_bind,run_part hti w hx h11,run_part hti w hy h11,Result.andThen_ok,he]
    obtain ⟨p,ip⟩:=p
    obtain ⟨q,iq⟩:=q
    by_cases h:p
    ·simp only[h,decide_true,Bool.not_true,Bool.false_eq_true,if_false,ih,andPD,true_and]
    ·simp only[h,decide_false,Bool.not_false,if_true,Sem.run_pure,andPD,false_and]
   ·cases h4
theorem eqC_ok {tt:List (Nat×TI)} (hT:Fits P tt) (w:World):∀ (n:Nat) (t:Nat) (xs ys:List C) (us vs:List Value) (d:PD),eqC tt n t xs ys=some d→∀ (E:Nat),n≤E→DenCs adr M w xs us→DenCs adr M w ys vs→
 ∃ ti,look tt t=some ti∧(ti.agg=false→ti.size=1)∧∃ x y,(if ti.agg=true then x=.agg us.toArray else us=[x])∧(if ti.agg=true then y=.agg vs.toArray else vs=[y])∧(Op.equalIn E t x y).run P w=.ok (@decide d.p d.i) w:=by
 intro n
 induction n with
 | zero=>intro t xs ys us vs d h;cases h
 | succ n ih =>
  intro t xs ys us vs d h E hE hu hv
  simp only[eqC] at h
  split at h
  ·rename_i ti hl
   have hti:=hT t ti hl
   obtain ⟨E,rfl⟩:∃ E',E=E'+1:=⟨E - 1,by omega⟩
   refine ⟨ti,hl,?_⟩
   cases hq:ti.eqok with
   | false =>
    rw[hq] at h
    cases ha:ti.agg with
    | true=>rw[ha] at h;cases h
    | false =>
     rw[ha] at h
     simp only[cond_false] at h
     cases hs:Nat.beq ti.size 1 with
     | false=>rw[hs] at h;cases h
     | true =>
      rw[hs] at h
      refine ⟨fun _=>Nat.eq_of_beq_eq_true hs,?_⟩
      obtain ⟨x,y,e1,e2,e3⟩:=leafEq_ok hti h E w hu hv
      exact ⟨x,y,by simpa using e1,by simpa using e2,e3⟩
   | true =>
    rw[hq] at h
    obtain ⟨hft,hlen,hst,_,hag⟩:=hti.eqk hq
    obtain ⟨dsc,hds,hagg,hfl,_⟩:=hti.desc
    rw[hag]
    refine ⟨fun hh=>(by cases hh),_,_,rfl,rfl,?_⟩
    rw[hds] at hft
    simp only[Option.bind_some] at hft
    cases dsc with
    | struct fs =>
     simp only[ftsOf] at hft
     simp only[fldsOf] at hfl
     split at hft
     ·cases hft
     ·rename_i hno
      simp only[Option.some.injEq] at hft
      cases hb:(Nat.beq xs.length ti.size && Nat.beq ys.length ti.size) with
      | false=>simp only[hb,cond_false] at h;cases h
      | true =>
       simp only[hb,cond_true] at h
       have hfs:P.fieldsOf t=fs:=by simp[Program.fieldsOf,hds]
       rw[run_equalIn_struct w E t _ _ (by rw[hfs];exact hds) hst,hfs]
       refine eqFs_ok hT E w xs ys hu hv (eqC tt n) (fun t xs ys us vs d he h1 h2=>ih t xs ys us vs d he E (by omega) h1 h2) fs.toList _ _ d hfl hft ?_ h
       intro F hF hname
       exact hno (List.any_eq_true.2 ⟨F,hF,by simp[hname]⟩)
    | _=>cases hft
  ·cases h
end
def isConst:Operand→Bool
 | .const _=>true
 | _=>false
def isNilIf:C→Bool
 | .d (.v .nilIface)=>true
 | _=>false
def isIf:C→Bool
 | .d (.v (.iface _ _))=>true
 | .d (.ifc _ _ _)=>true
 | _=>false
def isPtr:C→Bool
 | .ptr _ _=>true
 | .elt _ _ _ _=>true
 | .d (.imm _)=>true
 | _=>false
def isNilPtr:C→Bool
 | .d (.v (.pointer none))=>true
 | _=>false
def eqVal (tt:List (Nat×TI)) (t:Nat) (y z:Operand) (u v:V):Option PD :=
 match u,v with
 | .agg l,.agg r=>match look tt t with
  | some ti=>match ti.eqok with
   | true=>eqC tt 8 t l r
   | false=>none
  | none=>none
 | .c c,.c d=>match look tt t with
  | some ti =>
   bif Nat.beq ti.kd 1 then (match pdOf c,pdOf d with
    | some p,some q=>some ⟨p.p↔q.p,@instDecidableIff p.p q.p p.i q.i⟩
    | _,_=>none)
   else bif Nat.beq ti.kd 7 then
    (bif isNilIf c then (bif isNilIf d then (bif isConst y || isConst z then some ⟨True,inferInstance⟩ else none) else bif isIf d then some ⟨False,inferInstance⟩ else none)
     else bif isNilIf d then (bif isIf c then some ⟨False,inferInstance⟩ else none) else none)
   else bif Nat.beq ti.kd 8 then
    (bif isNilPtr d then (bif isPtr c then some ⟨False,inferInstance⟩ else bif isNilPtr c then some ⟨True,inferInstance⟩ else none) else none)
   else none
  | none=>none
 | _,_=>none
section
variable {P:Program} {adr:Env} {M:Nat→Prop}
theorem isNilIf_ok {c:C} (h:isNilIf c=true) {w:World} {x:Value} (hx:DenC adr M w c x):x=.nilIface:=by
 unfold isNilIf at h
 split at h
 ·exact DenD.v_inv hx
 ·cases h
theorem isIf_ok {c:C} (h:isIf c=true) {w:World} {x:Value} (hx:DenC adr M w c x):∃ t u,x=.iface t u:=by
 unfold isIf at h
 split at h
 ·exact ⟨_,_,DenD.v_inv hx⟩
 ·cases hx with
  | ifc1=>exact ⟨_,_,rfl⟩
  | ifc2=>exact ⟨_,_,rfl⟩
 ·cases h
theorem eq_nil_nil {t:Nat} {ms} (h:P.underlying t=some (.interface ms)) (w:World):(Op.equal t .nilIface .nilIface).run P w=.ok true w:=by
 have:∀ n,(Op.equalIn (n+1) t .nilIface .nilIface).run P w=.ok true w:=fun n=>by
  simp only[Op.equalIn,Sem.run_bind,run_underlying h,Result.andThen_ok,Sem.run_pure]
 exact this 9999
theorem eq_nil_if {t:Nat} {ms} (h:P.underlying t=some (.interface ms)) (w:World) (u:Nat) (x:Value):(Op.equal t .nilIface (.iface u x)).run P w=.ok false w:=by
 have:∀ n,(Op.equalIn (n+1) t .nilIface (.iface u x)).run P w=.ok false w:=fun n=>by
  simp only[Op.equalIn,Sem.run_bind,run_underlying h,Result.andThen_ok,Sem.run_pure]
 exact this 9999
theorem eq_if_nil {t:Nat} {ms} (h:P.underlying t=some (.interface ms)) (w:World) (u:Nat) (x:Value):(Op.equal t (.iface u x) .nilIface).run P w=.ok false w:=by
 have:∀ n,(Op.equalIn (n+1) t (.iface u x) .nilIface).run P w=.ok false w:=fun n=>by
  simp only[Op.equalIn,Sem.run_bind,run_underlying h,Result.andThen_ok,Sem.run_pure]
 exact this 9999
theorem isNilPtr_ok {c:C} (h:isNilPtr c=true) {w:World} {x:Value} (hx:DenC adr M w c x):x=.pointer none:=by
 unfold isNilPtr at h
 split at h
 ·exact DenD.v_inv hx
 ·cases h
theorem isPtr_ok {c:C} (h:isPtr c=true) {w:World} {x:Value} (hx:DenC adr M w c x):∃ q,x=.pointer (some q):=by
 unfold isPtr at h
 split at h
 ·obtain ⟨_,_,_,rfl⟩:=hx;exact ⟨_,rfl⟩
 ·obtain ⟨_,_,_,rfl⟩:=hx;exact ⟨_,rfl⟩
 ·cases hx with
  | imm=>exact ⟨_,rfl⟩
 ·cases h
theorem eq_ptr_nil {t e:Nat} (h:P.underlying t=some (.pointer e)) (w:World) (q:Option Addr):(Op.equal t (.pointer q) (.pointer none)).run P w=.ok q.isNone w:=by
 have:∀ n,(Op.equalIn (n+1) t (.pointer q) (.pointer none)).run P w=.ok q.isNone w:=fun n=>by
  cases q <;> simp[Op.equalIn,run_underlying h]
 exact this 9999
theorem eqVal_ok {tt:List (Nat×TI)} (hT:Fits P tt) {t:Nat} {y z:Operand} {u v:V} {d:PD} (h:eqVal tt t y z u v=some d) (w:World) {a b:Value} (ha:DenV adr M w u a) (hb:DenV adr M w v b) :
 (∀ op,(eqGuard op t y z a b).run P w=.ok () w)∧(Op.equal t a b).run P w=.ok (@decide d.p d.i) w∧(∀ op,op=.eql∨op=.neq→(binOp op t a b).run P w=.ok (.bool (match op with|.eql=>@decide d.p d.i|_=>! @decide d.p d.i)) w):=by
 have fin:((∀ op,(eqGuard op t y z a b).run P w=.ok () w)∧(Op.equal t a b).run P w=.ok (@decide d.p d.i) w∧(∀ op,op=.eql∨op=.neq→(binOp op t a b).run P w=(match op with|.eql=>(do pure (Value.bool (← Op.equal t a b)):Sem Value)|_=>(do pure (Value.bool (!(← Op.equal t a b))):Sem Value)).run P w))→
  (∀ op,(eqGuard op t y z a b).run P w=.ok () w)∧(Op.equal t a b).run P w=.ok (@decide d.p d.i) w∧(∀ op,op=.eql∨op=.neq→(binOp op t a b).run P w=.ok (.bool (match op with|.eql=>@decide d.p d.i|_=>! @decide d.p d.i)) w):=by
  rintro ⟨h1,h2,h3⟩
  refine ⟨h1,h2,fun op hop=>?_⟩
  rw[h3 op hop]
  rcases hop with rfl|rfl <;> simp only[Sem.run_bind,h2,Result.andThen_ok,Sem.run_pure]
 refine fin ?_
 unfold eqVal at h
 split at h
 ·rename_i l r
  obtain ⟨xs,rfl,hxs⟩:=ha
  obtain ⟨ys,rfl,hys⟩:=hb
  split at h
  ·rename_i ti hl
   split at h
   ·rename_i hq
    obtain ⟨_,_,_,hg,hag⟩:=(hT t ti hl).eqk hq
    obtain ⟨ti',hl',_,x',y',hx,hy,he⟩:=eqC_ok hT w 8 t l r xs ys d h 10000 (by omega) hxs hys
    rw[hl] at hl'
    obtain rfl:=Option.some.inj hl'
    rw[hag] at hx hy
    simp only[if_true] at hx hy
    subst hx;subst hy
    refine ⟨fun op=>run_eqGuard_agg w _ t y z _ _ hg,he,fun op hop=>?_⟩
    rcases hop with rfl|rfl <;> rfl
   ·cases h
  ·cases h
 ·rename_i c d'
  split at h
  ·rename_i ti hl
   obtain ⟨dsc,hds,_,_,_,_,_,hkd⟩:=(hT t ti hl).desc
   cases h1:Nat.beq ti.kd 1 with
   | true =>
    rw[h1] at h
    simp only[cond_true] at h
    rw[Nat.eq_of_beq_eq_true h1] at hkd
    have hbool:P.underlying t=some .bool:=by cases dsc <;> simp[kdOf] at hkd;exact hds
    split at h
    ·rename_i p q hp hq
     cases h
     have e1:=pdOf_ok hp ha
     have e2:=pdOf_ok hq hb
     subst e1;subst e2
     refine ⟨fun op=>by unfold eqGuard;split <;> rfl,?_,fun op hop=>by rcases hop with rfl|rfl <;> rfl⟩
     rw[run_equal_bool w t _ _ hbool]
     congr 1
     obtain ⟨p,i⟩:=p
     obtain ⟨q,j⟩:=q
     by_cases hp:p <;> by_cases hq:q <;> simp[hp,hq]
    ·cases h
   | false =>
    rw[h1] at h
    simp only[cond_false] at h
    cases h7:Nat.beq ti.kd 7 with
    | false =>
     rw[h7] at h
     simp only[cond_false] at h
     cases h8:Nat.beq ti.kd 8 with
     | false=>rw[h8] at h;cases h
     | true =>
      rw[h8] at h
      simp only[cond_true] at h
      rw[Nat.eq_of_beq_eq_true h8] at hkd
      obtain ⟨e,he⟩:∃ e,P.underlying t=some (.pointer e):=by cases dsc <;> simp[kdOf] at hkd;exact ⟨_,hds⟩
      cases hd:isNilPtr d' with
      | false=>rw[hd] at h;cases h
      | true =>
       rw[hd] at h
       simp only[cond_true] at h
       obtain rfl:=isNilPtr_ok hd hb
       cases hi:isPtr c with
       | true =>
        rw[hi] at h
        simp only[cond_true,Option.some.injEq] at h
        subst h
        obtain ⟨q,rfl⟩:=isPtr_ok hi ha
        refine ⟨fun op=>by unfold eqGuard;split <;> rfl,by rw[eq_ptr_nil he];rfl,fun op hop=>by rcases hop with rfl|rfl <;> rfl⟩
       | false =>
        rw[hi] at h
        simp only[cond_false] at h
        cases hn:isNilPtr c with
        | false=>rw[hn] at h;cases h
        | true =>
         rw[hn] at h
         simp only[cond_true,Option.some.injEq] at h
         subst h
         obtain rfl:=isNilPtr_ok hn ha
         refine ⟨fun op=>by unfold eqGuard;split <;> rfl,by rw[eq_ptr_nil he];rfl,fun op hop=>by rcases hop with rfl|rfl <;> rfl⟩
    | true =>
     rw[h7] at h
     simp only[cond_true] at h
     rw[Nat.eq_of_beq_eq_true h7] at hkd
     obtain ⟨ms,hms⟩:∃ ms,P.underlying t=some (.interface ms):=by cases dsc <;> simp[kdOf] at hkd;exact ⟨_,hds⟩
     cases hc:isNilIf c with
     | true =>
      rw[hc] at h
      simp only[cond_true] at h
      obtain rfl:=isNilIf_ok hc ha
      cases hd:isNilIf d' with
      | true =>
       rw[hd] at h
       simp only[cond_true] at h
       obtain rfl:=isNilIf_ok hd hb
       cases hk:(isConst y || isConst z) with
       | false=>rw[hk] at h;cases h
       | true =>
        rw[hk] at h
        simp only[cond_true,Option.some.injEq] at h
        subst h
        refine ⟨fun op=>?_,?_,fun op hop=>by rcases hop with rfl|rfl <;> rfl⟩
        ·cases y <;> cases z <;> first|(cases hk;done)|(cases op <;> rfl)
        ·rw[eq_nil_nil hms];rfl
      | false =>
       rw[hd] at h
       simp only[cond_false] at h
       cases hi:isIf d' with
       | false=>rw[hi] at h;cases h
       | true =>
        rw[hi] at h
        simp only[cond_true,Option.some.injEq] at h
        subst h
        obtain ⟨t',u',rfl⟩:=isIf_ok hi hb
        refine ⟨fun op=>by unfold eqGuard;split <;> rfl,by rw[eq_nil_if hms];rfl,fun op hop=>by rcases hop with rfl|rfl <;> rfl⟩
     | false =>
      rw[hc] at h
      simp only[cond_false] at h
      cases hd:isNilIf d' with
      | false=>rw[hd] at h;cases h
      | true =>
       rw[hd] at h
       simp only[cond_true] at h
       obtain rfl:=isNilIf_ok hd hb
       cases hi:isIf c with
       | false=>rw[hi] at h;cases h
       | true =>
        rw[hi] at h
        simp only[cond_true,Option.some.injEq] at h
        subst h
        obtain ⟨t',u',rfl⟩:=isIf_ok hi ha
        refine ⟨fun op=>by unfold eqGuard;split <;> rfl,by rw[eq_if_nil hms];rfl,fun op hop=>by rcases hop with rfl|rfl <;> rfl⟩
  ·cases h
 ·cases h
end
end Go.EYtaheflnnigocgaaGreatDoor
end
