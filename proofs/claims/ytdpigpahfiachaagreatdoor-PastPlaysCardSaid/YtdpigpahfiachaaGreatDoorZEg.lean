/- Proved: a part of what the law is proved with (the reckoner, contracts of functions, plain laws). Conditions: as each says. -/
import Derived.Laws.BytesString
import Derived.Test.YtdpigpahfiachaaGreatDoorZEd
section
namespace Go.EYtdpigpahfiachaaGreatDoor
open Go Go.RowKit
def dOf:Value→D
 | .string s=>.str s.data.toList
 | v=>.v v
theorem dOf_den {M:Nat→Prop} {w:World} (x:Value):DenD M w (dOf x) x:=by
 cases x <;> first|exact .v _|exact .str _
def vOf:Value→V
 | .agg a=>.agg (a.toList.map fun x=>.d (dOf x))
 | v=>.c (.d (dOf v))
def sval (gl:List (Nat×List D)) (fr:List (Nat×V)):Operand→Option V
 | .tmp t=>look fr t
 | .const v=>some (vOf v)
 | .global g=>match look gl g with
  | some l=>some (.c (.d (.imm l)))
  | none=>none
 | .func f=>some (.c (.fn f []))
section
variable {adr:Env} {M:Nat→Prop} {w:World}
theorem map_den {l:List Value}:DenCs adr M w (l.map fun x=>C.d (dOf x)) l:=by
 induction l with
 | nil=>trivial
 | cons x l ih=>exact ⟨dOf_den x,ih⟩
theorem vOf_den (x:Value):DenV adr M w (vOf x) x:=by
 cases x <;> first|exact dOf_den _|skip
 case agg a=>exact ⟨a.toList,by simp,map_den⟩
theorem sval_ok {gl:List (Nat×List D)} {fr:List (Nat×V)} {a:Act} (hf:FrOk adr M w fr a) (hg:Glob gl M w) {x:Operand} {s:V} (hs:sval gl fr x=some s):DenV adr M w s (a.eval x):=by
 cases x with
 | tmp t=>exact hf t s hs
 | const v=>simp only[sval,Option.some.injEq] at hs;subst hs;exact vOf_den v
 | global g =>
  simp only[sval] at hs
  split at hs
  ·rename_i l hl
   cases hs
   obtain ⟨h1,xs,h2,h3,h4⟩:=hg g l hl
   refine DenD.imm l g 0 (fun j=>xs.getD j undef) h3 h1 (fun j d hj=>?_) (fun j d hj=>?_)
   ·obtain ⟨x,hx,_⟩:=All2.get h4 hj
    rw[Nat.zero_add]
    rw[globCell h2 j x hx];simp[List.getD,hx]
   ·obtain ⟨x,hx,hd⟩:=All2.get h4 hj
    simpa[List.getD,hx] using hd
  ·cases hs
 | func f=>simp only[sval,Option.some.injEq] at hs;subst hs;exact ⟨[],rfl,trivial⟩
end
def Gives (P:Program) (gl:List (Nat×List D)) (ev:Operand→Option V) (L:List (Nat×Blk)) (o:Oper) (s:V):Prop :=
 ∀ (M0:Nat→Prop) (adr:Env) (L':List (Nat×Blk)) (n:Nat) (w:World) (ρ:Operand→Value),(∀ k B,look L k=some B→look L' k=some B)→WOk M0 adr L' n w→Glob gl (Mut M0 adr L') w→
  (∀ x ∈ o.op.operands.toList,∀ s,ev x=some s→DenV adr (Mut M0 adr L') w s (ρ x))→∃ v,(execOp ρ o).run P w=.ok (.value v) w∧DenV adr (Mut M0 adr L') w s v
def nth {α:Type}:List α→Nat→Option α
 | [],_=>none
 | a::_,0=>some a
 | _::l,n+1=>nth l n
theorem nth_eq {α:Type}:∀ {l:List α} {n:Nat},nth l n=l[n]?
 | [],n=>by simp[nth]
 | a::l,0=>by simp[nth]
 | a::l,n+1=>by simp[nth,nth_eq]
def cut {α:Type} (l:List α) (o n:Nat):List α:=(l.drop o).take n
def ofCut (agg:Bool) (l:List C) (n:Nat) (K:V→Prop):Prop :=
 match Nat.beq l.length n with
 | true=>match agg with
  | true=>K (.agg l)
  | false=>match l with
   | [c]=>K (.c c)
   | _=>False
 | false=>False
structure Fork (p A B:Prop):Prop where
 t:p→A
 f:¬ p→B
theorem Fork.yes {p A B:Prop} (h:p) (a:A):Fork p A B:=⟨fun _=>a,fun hn=>absurd h hn⟩
theorem Fork.no {p A B:Prop} (h:¬ p) (b:B):Fork p A B:=⟨fun hp=>absurd hp h,fun _=>b⟩
theorem Fork.nono {p A B:Prop} (h:p) (b:B):Fork (¬ p) A B:=⟨fun hp=>absurd h hp,fun _=>b⟩
theorem Fork.neg {p A B:Prop} (a:¬ p→A) (b:p→B):Fork (¬ p) A B:=⟨a,fun h=>b (Classical.byContradiction h)⟩
def onBool (c:C) (K:Bool→Prop):Prop :=
 match c with
 | .d (.v (.bool true))=>K true
 | .d (.v (.bool false))=>K false
 | .d (.b p _)=>Fork p (K true) (K false)
 | _=>False
theorem onBool_ok {c:C} {K:Bool→Prop} (h:onBool c K):∃ b,K b∧∀ adr M w x,DenC adr M w c x→x=.bool b:=by
 unfold onBool at h
 split at h
 ·exact ⟨true,h,fun _ _ _ _ hd=>DenD.v_inv hd⟩
 ·exact ⟨false,h,fun _ _ _ _ hd=>DenD.v_inv hd⟩
 ·rename_i p i
  by_cases hp:p
  ·exact ⟨true,h.1 hp,fun _ _ _ _ hd=>by rw[DenD.b_inv hd,decide_eq_true hp]⟩
  ·exact ⟨false,h.2 hp,fun _ _ _ _ hd=>by rw[DenD.b_inv hd,decide_eq_false hp]⟩
 ·exact h.elim
structure PD where
 p:Prop
 i:Decidable p
def pdOf:C→Option PD
 | .d (.v (.bool true))=>some ⟨True,inferInstance⟩
 | .d (.v (.bool false))=>some ⟨False,inferInstance⟩
 | .d (.b p i)=>some ⟨p,i⟩
 | _=>none
theorem pdOf_ok {c:C} {d:PD} (h:pdOf c=some d) {adr:Env} {M:Nat→Prop} {w:World} {x:Value} (hx:DenC adr M w c x):x=.bool (@decide d.p d.i):=by
 unfold pdOf at h
 split at h <;> simp only[Option.some.injEq,reduceCtorEq] at h <;> subst h
 ·rw[DenD.v_inv hx];rfl
 ·rw[DenD.v_inv hx];rfl
 ·exact DenD.b_inv hx
abbrev iC (k:IntKind) (n:Int):C:=.d (.v (.int k n))
abbrev bC (p:Prop) [i:Decidable p]:C:=.d (.b p i)
def ikeq (a b:IntKind):Bool:=match a,b with
 | .i8,.i8|.i16,.i16|.i32,.i32|.i64,.i64|.u8,.u8|.u16,.u16|.u32,.u32|.u64,.u64=>true
 | _,_=>false
theorem ikeq_ok {a b:IntKind} (h:ikeq a b=true):a=b:=by cases a <;> cases b <;> first|rfl|cases h
def onB (b:Bool) (p:Prop):Prop:=match b with|true=>p|false=>False
theorem onB_ok {b:Bool} {p:Prop} (h:onB b p):b=true∧p:=by cases b <;> first|exact h.elim|exact ⟨rfl,h⟩
def intBin (op:BinOp) (k:IntKind) (a b:Int) (K:C→Prop):Prop :=
 match op with
 | .add=>K (iC k (k.wrap (a+b)))
 | .sub=>K (iC k (k.wrap (a - b)))
 | .mul=>K (iC k (k.wrap (a * b)))
 | .quo=>¬ b=0∧K (iC k (k.wrap (a.tdiv b)))
 | .rem=>¬ b=0∧K (iC k (a.tmod b))
 | .and=>K (iC k (k.wrap (BitVec.ofInt k.bits a &&& BitVec.ofInt k.bits b).toNat))
 | .or=>K (iC k (k.wrap (BitVec.ofInt k.bits a ||| BitVec.ofInt k.bits b).toNat))
 | .xor=>K (iC k (k.wrap (BitVec.ofInt k.bits a ^^^ BitVec.ofInt k.bits b).toNat))
 | .andNot=>K (iC k (k.wrap (BitVec.ofInt k.bits a &&& ~~~ BitVec.ofInt k.bits b).toNat))
 | .eql=>K (bC (a=b))
 | .neq=>K (bC (¬ a=b))
 | .lss=>K (bC (a<b))
 | .leq=>K (bC (a≤b))
 | .gtr=>K (bC (b<a))
 | .geq=>K (bC (b≤a))
 | _=>False
theorem intBin_ok {P:Program} {op:BinOp} {k:IntKind} {a b:Int} {K:C→Prop} (h:intBin op k a b K):∃ c,K c∧∀ (adr:Env) (M:Nat→Prop) (t:TypeId) (w:World),∃ v,(binOp op t (.int k a) (.int k b)).run P w=.ok v w∧DenC adr M w c v:=by
 cases op <;> simp only[intBin] at h <;> first
  | exact h.elim
  | (refine ⟨_,h,fun adr M t w=>⟨_,?_,.v _⟩⟩;simp[binOp,Op.intArith,Op.intBits];done)
  | (refine ⟨_,h.2,fun adr M t w=>⟨_,?_,.v _⟩⟩;simp[binOp,Op.intDiv,h.1];done)
  | (refine ⟨_,h,fun adr M t w=>⟨_,?_,.b _ _⟩⟩;simp[binOp,Op.intCmp];try (rw[Bool.eq_iff_iff];simp))
def shiftBin (op:BinOp) (k:IntKind) (a b:Int) (K:C→Prop):Prop :=
 match op with
 | .shl=>0≤b∧K (iC k (k.wrap (a * 2 ^ min b.toNat k.bits)))
 | .shr=>0≤b∧K (iC k (a.fdiv (2 ^ min b.toNat k.bits)))
 | _=>False
theorem shiftBin_ok {P:Program} {op:BinOp} {k yk:IntKind} {a b:Int} {K:C→Prop} (h:shiftBin op k a b K):∃ c,K c∧∀ (adr:Env) (M:Nat→Prop) (t:TypeId) (w:World),∃ v,(binOp op t (.int k a) (.int yk b)).run P w=.ok v w∧DenC adr M w c v:=by
 cases op <;> simp only[shiftBin] at h <;> first
  | exact h.elim
  | (refine ⟨_,h.2,fun adr M t w=>⟨_,?_,.v _⟩⟩;simp[binOp,Op.shift,show ¬ b<0 by omega];done)
def strBin (op:BinOp) (a b:List UInt8) (K:C→Prop):Prop :=
 match op with
 | .add=>a.length+b.length≤9223372036854775807∧K (.d (.str (a++b)))
 | .eql=>K (bC (a=b))
 | .neq=>K (bC (¬ a=b))
 | .lss=>K (bC (Op.bytesLess a b=true))
 | .leq=>K (bC (Op.bytesLess a b=true∨a=b))
 | .gtr=>K (bC (¬ (Op.bytesLess a b=true∨a=b)))
 | .geq=>K (bC (¬ Op.bytesLess a b=true))
 | _=>False
theorem strBin_ok {P:Program} {op:BinOp} {a b:List UInt8} {K:C→Prop} (h:strBin op a b K):∃ c,K c∧∀ (adr:Env) (M:Nat→Prop) (t:TypeId) (w:World),∃ v,(binOp op t (.string ⟨a.toArray⟩) (.string ⟨b.toArray⟩)).run P w=.ok v w∧DenC adr M w c v:=by
 cases op <;> simp only[strBin] at h <;> first
  | exact h.elim
  | (refine ⟨_,h,fun adr M t w=>⟨_,?_,.b _ _⟩⟩;simp[binOp,Op.stringOp,ByteArray.toList_eq];try (rw[Bool.eq_iff_iff];simp))
  | skip
 refine ⟨_,h.2,fun adr M t w=>⟨.string ⟨(a++b).toArray⟩,?_,.str _⟩⟩
 have h1:¬ (9223372036854775807:Int)<(a.length:Int)+(b.length:Int):=by have:=h.1;omega
 have h2:(⟨a.toArray⟩++⟨b.toArray⟩:ByteArray)=⟨(a++b).toArray⟩:=by
  apply ByteArray.ext
  rw[ByteArray.data_append]
  simp
 have h3:((⟨a.toArray⟩:ByteArray).size:Int)=a.length:=by simp[ByteArray.size]
 have h4:((⟨b.toArray⟩:ByteArray).size:Int)=b.length:=by simp[ByteArray.size]
 have h5:IntKind.i64.max=9223372036854775807:=by decide
 simp only[binOp,Op.stringOp,Int.natCast_add,h3,h4,h5,gt_iff_lt,h1,if_false,Sem.run_pure,h2]
def andPD (a b:PD):PD:=⟨a.p∧b.p,@instDecidableAnd a.p b.p a.i b.i⟩
def leafEq (ti:TI):List C→List C→Option PD
 | [.d (.v (.int k a))],[.d (.v (.int k' b))]=>match ti.ik with
  | some _=>bif ikeq k k' then some ⟨a=b,inferInstance⟩ else none
  | none=>none
 | [.d (.str a)],[.d (.str b)]=>bif Nat.beq ti.kd 2 then some ⟨a=b,inferInstance⟩ else none
 | [c],[d]=>bif Nat.beq ti.kd 1 then (match pdOf c,pdOf d with
  | some p,some q=>some ⟨p.p↔q.p,@instDecidableIff p.p q.p p.i q.i⟩
  | _,_=>none) else none
 | _,_=>none
def eqFs (f:Nat→List C→List C→Option PD) (xs ys:List C):List (Nat×Nat)→List Nat→Option PD
 | (off,sz)::fl,t::ts=>match f t (cut xs off sz) (cut ys off sz),eqFs f xs ys fl ts with
  | some p,some q=>some (andPD p q)
  | _,_=>none
 | [],[]=>some ⟨True,inferInstance⟩
 | _,_=>none
def eqC (tt:List (Nat×TI)):Nat→Nat→List C→List C→Option PD
 | 0,_,_,_=>none
 | n+1,t,xs,ys=>match look tt t with
  | some ti=>match ti.eqok with
   | true=>bif Nat.beq xs.length ti.size && Nat.beq ys.length ti.size then eqFs (eqC tt n) xs ys ti.flds ti.fts else none
   | false=>bif ti.agg then none else bif Nat.beq ti.size 1 then leafEq ti xs ys else none
  | none=>none
theorem bytes_eq (a b:List UInt8):((⟨a.toArray⟩:ByteArray)==⟨b.toArray⟩)=decide (a=b):=by
 rw[Bool.eq_iff_iff,beq_toListBytes,ByteArray.toList_eq,ByteArray.toList_eq,beq_iff_eq]
 simp
section
variable {P:Program} {adr:Env} {M:Nat→Prop}
theorem leafEq_ok {t:Nat} {ti:TI} (h:FitsOne P t ti) {xs ys:List C} {d:PD} (he:leafEq ti xs ys=some d) (n:Nat) (w:World) {us vs:List Value} (hu:DenCs adr M w xs us) (hv:DenCs adr M w ys vs) :
 ∃ x y,us=[x]∧vs=[y]∧(Op.equalIn (n+1) t x y).run P w=.ok (@decide d.p d.i) w:=by
 obtain ⟨dsc,hds,_,_,_,hik,_,hkd⟩:=h.desc
 unfold leafEq at he
 split at he
 ·rename_i k a k' b
  obtain ⟨x,rfl,hx⟩:=All2.one_iff.1 hu
  obtain ⟨y,rfl,hy⟩:=All2.one_iff.1 hv
  obtain rfl:=DenD.v_inv hx
  obtain rfl:=DenD.v_inv hy
  split at he
  ·rename_i k0 hk0
   rw[hk0] at hik
   cases dsc <;> simp only[ikOf,reduceCtorEq,Option.some.injEq] at hik
   cases hk:ikeq k k' with
   | false=>rw[hk] at he;cases he
   | true =>
    obtain rfl:=ikeq_ok hk
    rw[hk] at he
    simp only[cond_true,Option.some.injEq] at he;subst he
    refine ⟨_,_,rfl,rfl,?_⟩
    rw[run_equalIn_int w n t _ _ _ _ hds]
    congr 1
  ·cases he
 ·rename_i a b
  obtain ⟨x,rfl,hx⟩:=All2.one_iff.1 hu
  obtain ⟨y,rfl,hy⟩:=All2.one_iff.1 hv
  obtain rfl:=DenD.str_inv hx
  obtain rfl:=DenD.str_inv hy
  cases hk:Nat.beq ti.kd 2 with
  | false=>rw[hk] at he;cases he
  | true =>
   rw[hk] at he
   simp only[cond_true,Option.some.injEq] at he;subst he
   rw[Nat.eq_of_beq_eq_true hk] at hkd
   cases dsc <;> simp[kdOf] at hkd
   refine ⟨_,_,rfl,rfl,?_⟩
   simp only[Op.equalIn,Sem.run_bind,run_underlying hds,Result.andThen_ok,Sem.run_pure]
   congr 1
   exact bytes_eq a b
 ·rename_i c d' _ _
  obtain ⟨x,rfl,hx⟩:=All2.one_iff.1 hu
  obtain ⟨y,rfl,hy⟩:=All2.one_iff.1 hv
  cases hk:Nat.beq ti.kd 1 with
  | false=>rw[hk] at he;cases he
  | true =>
   rw[hk] at he
   simp only[cond_true] at he
   rw[Nat.eq_of_beq_eq_true hk] at hkd
   cases dsc <;> simp[kdOf] at hkd
   split at he
   ·rename_i p q hp hq
    simp only[Option.some.injEq] at he;subst he
    refine ⟨_,_,rfl,rfl,?_⟩
    rw[pdOf_ok hp hx,pdOf_ok hq hy,run_equalIn_bool w n t _ _ hds]
    congr 1
    obtain ⟨p,i⟩:=p
    obtain ⟨q,j⟩:=q
    by_cases hp:p <;> by_cases hq:q <;> simp[hp,hq]
   ·cases he
 ·cases he
theorem run_part {t:Nat} {ti:TI} (h:FitsOne P t ti) {us:List Value} {off:Nat} (w:World) {u:Value}
 (hu:if ti.agg=true then u=.agg (cut us off ti.size).toArray else cut us off ti.size=[u]) (h1:ti.agg=false→ti.size=1) :
 (part t us.toArray off).run P w=.ok u w:=by
 unfold part
 simp only[Sem.run_bind,h.agg,Result.andThen_ok]
 cases ha:ti.agg with
 | true =>
  rw[ha] at hu
  simp only[if_true] at hu ⊢
  simp only[Sem.run_bind,h.size,Result.andThen_ok,Sem.run_pure]
  rw[hu]
  congr 2
  apply Array.ext'
  simp[cut,List.extract_eq_take_drop]
 | false =>
  rw[ha] at hu
  simp only[Bool.false_eq_true,if_false] at hu ⊢
  rw[h1 ha] at hu
  have:us.toArray[off]?=some u:=by
   simp only[cut] at hu
   have h0:((us.drop off).take 1)[0]?=some u:=by rw[hu];rfl
   rw[List.getElem?_take_of_lt (by omega),List.getElem?_drop] at h0
   simpa using h0
  rw[this]
  rfl
theorem eqFs_ok {tt:List (Nat×TI)} (hT:Fits P tt) (E:Nat) (w:World) (xs ys:List C) {us vs:List Value} (hu:DenCs adr M w xs us) (hv:DenCs adr M w ys vs) (f:Nat→List C→List C→Option PD)
 (hf:∀ t xs ys us vs d,f t xs ys=some d→DenCs adr M w xs us→DenCs adr M w ys vs→∃ ti,look tt t=some ti∧(ti.agg=false→ti.size=1)∧∃ x y,(if ti.agg=true then x=.agg us.toArray else us=[x])∧(if ti.agg=true then y=.agg vs.toArray else vs=[y])∧(Op.equalIn E t x y).run P w=.ok (@decide d.p d.i) w) :
 ∀ (fs:List Field) (fl:List (Nat×Nat)) (ts:List Nat) (d:PD),fs.mapM (fun F=>(P.info? F.type).map fun i=>(F.offset,i.size))=some fl→fs.map (·.type)=ts→(∀ F ∈ fs,F.name≠"_")→eqFs f xs ys fl ts=some d→
  (Op.eqFields E us.toArray vs.toArray fs).run P w=.ok (@decide d.p d.i) w
 | [],fl,ts,d,h1,h2,_,h4=>by
  simp at h1 h2;subst h1;subst h2
  simp only[eqFs,Option.some.injEq] at h4;subst h4
  simp[Op.eqFields]
 | F::fs,fl,ts,d,h1,h2,h3,h4=>by
  simp only[List.mapM_cons,Option.bind_eq_bind,Option.bind_eq_some_iff,Option.pure_def,Option.some.injEq] at h1
  obtain ⟨⟨off,sz⟩,hb,fl',hr,rfl⟩:=h1
  simp only[List.map_cons] at h2
  subst h2
  cases hq:P.info? F.type with
  | none=>simp[hq] at hb
  | some i =>
   simp only[hq,Option.map_some,Option.some.injEq,Prod.mk.injEq] at hb
   obtain ⟨rfl,rfl⟩:=hb
   simp only[eqFs] at h4
   split at h4
   ·rename_i p q hp hq2
    simp only[Option.some.injEq] at h4;subst h4
    obtain ⟨ti,hl,h11,x,y,hx,hy,he⟩:=hf _ _ _ _ _ _ hp ((hu.drop _).take _) ((hv.drop _).take _)
    have hti:=hT _ _ hl
    have hsz:ti.size=i.size:=by
     obtain ⟨i',z,e1,e2,_⟩:=hti.infoE
     rw[hq] at e1;cases e1;exact e2.symm
    rw[← hsz] at hx hy
    have ih:=eqFs_ok hT E w xs ys hu hv f hf fs fl' _ q hr rfl (fun G hG=>h3 G (by simp[hG])) hq2
    have hne:=h3 F (by simp)
    simp only[Op.eqFields,hne,ne_eq,not_false_eq_true,if_true,Sem.run_bind,run_part hti w hx h11,run_part hti w hy h11,Result.andThen_ok,he]
    obtain ⟨p,ip⟩:=p
    obtain ⟨q,iq⟩:=q
    by_cases h:p
    ·simp only[h,decide_true,Bool.not_true,Bool.false_eq_true,if_false,ih,andPD,true_and]
    ·simp only[h,decide_false,Bool.not_false,if_true,Sem.run_pure,andPD,false_and]
   ·cases h4
theorem eqC_ok {tt:List (Nat×TI)} (hT:Fits P tt) (w:World):∀ (n:Nat) (t:Nat) (xs ys:List C) (us vs:List Value) (d:PD),eqC tt n t xs ys=some d→∀ (E:Nat),n≤E→DenCs adr M w xs us→DenCs adr M w ys vs→
 ∃ ti,look tt t=some ti∧(ti.agg=false→ti.size=1)∧∃ x y,(if ti.agg=true then x=.agg us.toArray else us=[x])∧(if ti.agg=true then y=.agg vs.toArray else vs=[y])∧(Op.equalIn E t x y).run P w=.ok (@decide d.p d.i) w:=by
 intro n
 induction n with
 | zero=>intro t xs ys us vs d h;cases h
 | succ n ih =>
  intro t xs ys us vs d h E hE hu hv
  simp only[eqC] at h
  split at h
  ·rename_i ti hl
   have hti:=hT t ti hl
   obtain ⟨E,rfl⟩:∃ E',E=E'+1:=⟨E - 1,by omega⟩
   refine ⟨ti,hl,?_⟩
   cases hq:ti.eqok with
   | false =>
    rw[hq] at h
    cases ha:ti.agg with
    | true=>rw[ha] at h;cases h
    | false =>
     rw[ha] at h
     simp only[cond_false] at h
     cases hs:Nat.beq ti.size 1 with
     | false=>rw[hs] at h;cases h
     | true =>
      rw[hs] at h
      refine ⟨fun _=>Nat.eq_of_beq_eq_true hs,?_⟩
      obtain ⟨x,y,e1,e2,e3⟩:=leafEq_ok hti h E w hu hv
      exact ⟨x,y,by simpa using e1,by simpa using e2,e3⟩
   | true =>
    rw[hq] at h
    obtain ⟨hft,hlen,hst,_,hag⟩:=hti.eqk hq
    obtain ⟨dsc,hds,hagg,hfl,_⟩:=hti.desc
    rw[hag]
    refine ⟨fun hh=>(by cases hh),_,_,rfl,rfl,?_⟩
    rw[hds] at hft
    simp only[Option.bind_some] at hft
    cases dsc with
    | struct fs =>
     simp only[ftsOf] at hft
     simp only[fldsOf] at hfl
     split at hft
     ·cases hft
     ·rename_i hno
      simp only[Option.some.injEq] at hft
      cases hb:(Nat.beq xs.length ti.size && Nat.beq ys.length ti.size) with
      | false=>simp only[hb,cond_false] at h;cases h
      | true =>
       simp only[hb,cond_true] at h
       have hfs:P.fieldsOf t=fs:=by simp[Program.fieldsOf,hds]
       rw[run_equalIn_struct w E t _ _ (by rw[hfs];exact hds) hst,hfs]
       refine eqFs_ok hT E w xs ys hu hv (eqC tt n) (fun t xs ys us vs d he h1 h2=>ih t xs ys us vs d he E (by omega) h1 h2) fs.toList _ _ d hfl hft ?_ h
       intro F hF hname
       exact hno (List.any_eq_true.2 ⟨F,hF,by simp[hname]⟩)
    | _=>cases hft
  ·cases h
end
def isConst:Operand→Bool
 | .const _=>true
 | _=>false
def isNilIf:C→Bool
 | .d (.v .nilIface)=>true
 | _=>false
def isIf:C→Bool
 | .d (.v (.iface _ _))=>true
 | .d (.ifc _ _ _)=>true
 | _=>false
def isPtr:C→Bool
 | .ptr _ _=>true
 | .elt _ _ _ _=>true
 | .d (.imm _)=>true
 | _=>false
def isNilPtr:C→Bool
 | .d (.v (.pointer none))=>true
 | _=>false
def eqVal (tt:List (Nat×TI)) (t:Nat) (y z:Operand) (u v:V):Option PD :=
 match u,v with
 | .agg l,.agg r=>match look tt t with
  | some ti=>match ti.eqok with
   | true=>eqC tt 8 t l r
   | false=>none
  | none=>none
 | .c c,.c d=>match look tt t with
  | some ti =>
   bif Nat.beq ti.kd 1 then (match pdOf c,pdOf d with
    | some p,some q=>some ⟨p.p↔q.p,@instDecidableIff p.p q.p p.i q.i⟩
    | _,_=>none)
   else bif Nat.beq ti.kd 7 then
    (bif isNilIf c then (bif isNilIf d then (bif isConst y || isConst z then some ⟨True,inferInstance⟩ else none) else bif isIf d then some ⟨False,inferInstance⟩ else none)
     else bif isNilIf d then (bif isIf c then some ⟨False,inferInstance⟩ else none) else none)
   else bif Nat.beq ti.kd 8 then
    (bif isNilPtr d then (bif isPtr c then some ⟨False,inferInstance⟩ else bif isNilPtr c then some ⟨True,inferInstance⟩ else none) else none)
   else none
  | none=>none
 | _,_=>none
section
variable {P:Program} {adr:Env} {M:Nat→Prop}
theorem isNilIf_ok {c:C} (h:isNilIf c=true) {w:World} {x:Value} (hx:DenC adr M w c x):x=.nilIface:=by
 unfold isNilIf at h
 split at h
 ·exact DenD.v_inv hx
 ·cases h
theorem isIf_ok {c:C} (h:isIf c=true) {w:World} {x:Value} (hx:DenC adr M w c x):∃ t u,x=.iface t u:=by
 unfold isIf at h
 split at h
 ·exact ⟨_,_,DenD.v_inv hx⟩
 ·cases hx with
  | ifc1=>exact ⟨_,_,rfl⟩
  | ifc2=>exact ⟨_,_,rfl⟩
 ·cases h
theorem eq_nil_nil {t:Nat} {ms} (h:P.underlying t=some (.interface ms)) (w:World):(Op.equal t .nilIface .nilIface).run P w=.ok true w:=by
 have:∀ n,(Op.equalIn (n+1) t .nilIface .nilIface).run P w=.ok true w:=fun n=>by
  simp only[Op.equalIn,Sem.run_bind,run_underlying h,Result.andThen_ok,Sem.run_pure]
 exact this 9999
theorem eq_nil_if {t:Nat} {ms} (h:P.underlying t=some (.interface ms)) (w:World) (u:Nat) (x:Value):(Op.equal t .nilIface (.iface u x)).run P w=.ok false w:=by
 have:∀ n,(Op.equalIn (n+1) t .nilIface (.iface u x)).run P w=.ok false w:=fun n=>by
  simp only[Op.equalIn,Sem.run_bind,run_underlying h,Result.andThen_ok,Sem.run_pure]
 exact this 9999
theorem eq_if_nil {t:Nat} {ms} (h:P.underlying t=some (.interface ms)) (w:World) (u:Nat) (x:Value):(Op.equal t (.iface u x) .nilIface).run P w=.ok false w:=by
 have:∀ n,(Op.equalIn (n+1) t (.iface u x) .nilIface).run P w=.ok false w:=fun n=>by
  simp only[Op.equalIn,Sem.run_bind,run_underlying h,Result.andThen_ok,Sem.run_pure]
 exact this 9999
theorem isNilPtr_ok {c:C} (h:isNilPtr c=true) {w:World} {x:Value} (hx:DenC adr M w c x):x=.pointer none:=by
 unfold isNilPtr at h
 split at h
 ·exact DenD.v_inv hx
 ·cases h
theorem isPtr_ok {c:C} (h:isPtr c=true) {w:World} {x:Value} (hx:DenC adr M w c x):∃ q,x=.pointer (some q):=by
 unfold isPtr at h
 split at h
 ·obtain ⟨_,_,_,rfl⟩:=hx;exact ⟨_,rfl⟩
 ·obtain ⟨_,_,_,rfl⟩:=hx;exact ⟨_,rfl⟩
 ·cases hx with
  | imm=>exact ⟨_,rfl⟩
 ·cases h
theorem eq_ptr_nil {t e:Nat} (h:P.underlying t=some (.pointer e)) (w:World) (q:Option Addr):(Op.equal t (.pointer q) (.pointer none)).run P w=.ok q.isNone w:=by
 have:∀ n,(Op.equalIn (n+1) t (.pointer q) (.pointer none)).run P w=.ok q.isNone w:=fun n=>by
  cases q <;> simp[Op.equalIn,run_underlying h]
 exact this 9999
theorem eqVal_ok {tt:List (Nat×TI)} (hT:Fits P tt) {t:Nat} {y z:Operand} {u v:V} {d:PD} (h:eqVal tt t y z u v=some d) (w:World) {a b:Value} (ha:DenV adr M w u a) (hb:DenV adr M w v b) :
 (∀ op,(eqGuard op t y z a b).run P w=.ok () w)∧(Op.equal t a b).run P w=.ok (@decide d.p d.i) w∧(∀ op,op=.eql∨op=.neq→(binOp op t a b).run P w=.ok (.bool (match op with|.eql=>@decide d.p d.i|_=>! @decide d.p d.i)) w):=by
 have fin:((∀ op,(eqGuard op t y z a b).run P w=.ok () w)∧(Op.equal t a b).run P w=.ok (@decide d.p d.i) w∧(∀ op,op=.eql∨op=.neq→(binOp op t a b).run P w=(match op with|.eql=>(do pure (Value.bool (← Op.equal t a b)):Sem Value)|_=>(do pure (Value.bool (!(← Op.equal t a b))):Sem Value)).run P w))→
  (∀ op,(eqGuard op t y z a b).run P w=.ok () w)∧(Op.equal t a b).run P w=.ok (@decide d.p d.i) w∧(∀ op,op=.eql∨op=.neq→(binOp op t a b).run P w=.ok (.bool (match op with|.eql=>@decide d.p d.i|_=>! @decide d.p d.i)) w):=by
  rintro ⟨h1,h2,h3⟩
  refine ⟨h1,h2,fun op hop=>?_⟩
  rw[h3 op hop]
  rcases hop with rfl|rfl <;> simp only[Sem.run_bind,h2,Result.andThen_ok,Sem.run_pure]
 refine fin ?_
 unfold eqVal at h
 split at h
 ·rename_i l r
  obtain ⟨xs,rfl,hxs⟩:=ha
  obtain ⟨ys,rfl,hys⟩:=hb
  split at h
  ·rename_i ti hl
   split at h
   ·rename_i hq
    obtain ⟨_,_,_,hg,hag⟩:=(hT t ti hl).eqk hq
    obtain ⟨ti',hl',_,x',y',hx,hy,he⟩:=eqC_ok hT w 8 t l r xs ys d h 10000 (by omega) hxs hys
    rw[hl] at hl'
    obtain rfl:=Option.some.inj hl'
    rw[hag] at hx hy
    simp only[if_true] at hx hy
    subst hx;subst hy
    refine ⟨fun op=>run_eqGuard_agg w _ t y z _ _ hg,he,fun op hop=>?_⟩
    rcases hop with rfl|rfl <;> rfl
   ·cases h
  ·cases h
 ·rename_i c d'
  split at h
  ·rename_i ti hl
   obtain ⟨dsc,hds,_,_,_,_,_,hkd⟩:=(hT t ti hl).desc
   cases h1:Nat.beq ti.kd 1 with
   | true =>
    rw[h1] at h
    simp only[cond_true] at h
    rw[Nat.eq_of_beq_eq_true h1] at hkd
    have hbool:P.underlying t=some .bool:=by cases dsc <;> simp[kdOf] at hkd;exact hds
    split at h
    ·rename_i p q hp hq
     cases h
     have e1:=pdOf_ok hp ha
     have e2:=pdOf_ok hq hb
     subst e1;subst e2
     refine ⟨fun op=>by unfold eqGuard;split <;> rfl,?_,fun op hop=>by rcases hop with rfl|rfl <;> rfl⟩
     rw[run_equal_bool w t _ _ hbool]
     congr 1
     obtain ⟨p,i⟩:=p
     obtain ⟨q,j⟩:=q
     by_cases hp:p <;> by_cases hq:q <;> simp[hp,hq]
    ·cases h
   | false =>
    rw[h1] at h
    simp only[cond_false] at h
    cases h7:Nat.beq ti.kd 7 with
    | false =>
     rw[h7] at h
     simp only[cond_false] at h
     cases h8:Nat.beq ti.kd 8 with
     | false=>rw[h8] at h;cases h
     | true =>
      rw[h8] at h
      simp only[cond_true] at h
      rw[Nat.eq_of_beq_eq_true h8] at hkd
      obtain ⟨e,he⟩:∃ e,P.underlying t=some (.pointer e):=by cases dsc <;> simp[kdOf] at hkd;exact ⟨_,hds⟩
      cases hd:isNilPtr d' with
      | false=>rw[hd] at h;cases h
      | true =>
       rw[hd] at h
       simp only[cond_true] at h
       obtain rfl:=isNilPtr_ok hd hb
       cases hi:isPtr c with
       | true =>
        rw[hi] at h
        simp only[cond_true,Option.some.injEq] at h
        subst h
        obtain ⟨q,rfl⟩:=isPtr_ok hi ha
        refine ⟨fun op=>by unfold eqGuard;split <;> rfl,by rw[eq_ptr_nil he];rfl,fun op hop=>by rcases hop with rfl|rfl <;> rfl⟩
       | false =>
        rw[hi] at h
        simp only[cond_false] at h
        cases hn:isNilPtr c with
        | false=>rw[hn] at h;cases h
        | true =>
         rw[hn] at h
         simp only[cond_true,Option.some.injEq] at h
         subst h
         obtain rfl:=isNilPtr_ok hn ha
         refine ⟨fun op=>by unfold eqGuard;split <;> rfl,by rw[eq_ptr_nil he];rfl,fun op hop=>by rcases hop with rfl|rfl <;> rfl⟩
    | true =>
     rw[h7] at h
     simp only[cond_true] at h
     rw[Nat.eq_of_beq_eq_true h7] at hkd
     obtain ⟨ms,hms⟩:∃ ms,P.underlying t=some (.interface ms):=by cases dsc <;> simp[kdOf] at hkd;exact ⟨_,hds⟩
     cases hc:isNilIf c with
     | true =>
      rw[hc] at h
      simp only[cond_true] at h
      obtain rfl:=isNilIf_ok hc ha
      cases hd:isNilIf d' with
      | true =>
       rw[hd] at h
       simp only[cond_true] at h
       obtain rfl:=isNilIf_ok hd hb
       cases hk:(isConst y || isConst z) with
       | false=>rw[hk] at h;cases h
       | true =>
        rw[hk] at h
        simp only[cond_true,Option.some.injEq] at h
        subst h
        refine ⟨fun op=>?_,?_,fun op hop=>by rcases hop with rfl|rfl <;> rfl⟩
        ·cases y <;> cases z <;> first|(cases hk;done)|(cases op <;> rfl)
        ·rw[eq_nil_nil hms];rfl
      | false =>
       rw[hd] at h
       simp only[cond_false] at h
       cases hi:isIf d' with
       | false=>rw[hi] at h;cases h
       | true =>
        rw[hi] at h
        simp only[cond_true,Option.some.injEq] at h
        subst h
        obtain ⟨t',u',rfl⟩:=isIf_ok hi hb
        refine ⟨fun op=>by unfold eqGuard;split <;> rfl,by rw[eq_nil_if hms];rfl,fun op hop=>by rcases hop with rfl|rfl <;> rfl⟩
     | false =>
      rw[hc] at h
      simp only[cond_false] at h
      cases hd:isNilIf d' with
      | false=>rw[hd] at h;cases h
      | true =>
       rw[hd] at h
       simp only[cond_true] at h
       obtain rfl:=isNilIf_ok hd hb
       cases hi:isIf c with
       | false=>rw[hi] at h;cases h
       | true =>
        rw[hi] at h
        simp only[cond_true,Option.some.injEq] at h
        subst h
        obtain ⟨t',u',rfl⟩:=isIf_ok hi ha
        refine ⟨fun op=>by unfold eqGuard;split <;> rfl,by rw[eq_if_nil hms];rfl,fun op hop=>by rcases hop with rfl|rfl <;> rfl⟩
  ·cases h
 ·cases h
end
end Go.EYtdpigpahfiachaaGreatDoor
end
section
namespace Go.EYtdpigpahfiachaaGreatDoor
open Go Go.RowKit
def vD:D→V
 | .agg l=>.agg (l.map C.d)
 | d=>.c (.d d)
theorem vD_den {adr:Env} {M:Nat→Prop} {w:World} {d:D} {x:Value} (h:DenD M w d x):DenV adr M w (vD d) x:=by
 cases d <;> first|exact h|skip
 case agg l=>obtain ⟨xs,rfl,h2⟩:=DenD.agg_inv h;exact ⟨xs,rfl,All2.map_left.2 h2⟩
abbrev u8D (b:UInt8):List D:=[.v (.int .u8 (b.toNat:Int))]
def onS (s:Option V) (K:V→Prop):Prop:=match s with|some s=>K s|none=>False
theorem onS_ok {s:Option V} {K:V→Prop} (h:onS s K):∃ v,s=some v∧K v:=by
 cases s with
 | none=>exact h.elim
 | some v=>exact ⟨v,rfl,h⟩
def onC (s:Option V) (K:C→Prop):Prop:=match s with|some (.c c)=>K c|_=>False
theorem onC_ok {s:Option V} {K:C→Prop} (h:onC s K):∃ c,s=some (.c c)∧K c:=by
 unfold onC at h
 split at h
 ·exact ⟨_,rfl,h⟩
 ·exact h.elim
def onT (tt:List (Nat×TI)) (t:Nat) (K:TI→Prop):Prop:=match look tt t with|some ti=>K ti|none=>False
theorem onT_ok {tt:List (Nat×TI)} {t:Nat} {K:TI→Prop} (h:onT tt t K):∃ ti,look tt t=some ti∧K ti:=by
 unfold onT at h
 split at h
 ·exact ⟨_,by assumption,h⟩
 ·exact h.elim
def rField (ti:TI) (f:Nat) (c:C) (K:V→Prop):Prop :=
 match nth ti.flds f with
 | some (off,_+1)=>match c with
  | .ptr k o=>K (.c (.ptr k (o+off)))
  | .elt z k i o=>K (.c (.elt z k i (o+off)))
  | .d (.imm l)=>K (.c (.d (.imm (l.drop off))))
  | _=>False
 | _=>False
def rLoad (L:List (Nat×Blk)) (ti:TI) (c:C) (K:V→Prop):Prop :=
 match c with
 | .ptr k o=>match look L k with
  | some (.var l _)=>ofCut ti.agg (cut l o ti.size) ti.size K
  | _=>False
 | .elt z k i o=>match look L k with
  | some (.rows z' l _)=>Nat.beq z z'=true∧∃ r,l[i]?=some r∧ofCut ti.agg ((cut r o ti.size).map C.d) ti.size K
  | _=>False
 | .d (.imm l)=>ofCut ti.agg ((cut l 0 ti.size).map C.d) ti.size K
 | _=>False
def rExtract (s:V) (i:Nat) (K:V→Prop):Prop :=
 match s with
 | .tup l=>match nth l i with
  | some (true,l')=>K (.agg l')
  | some (false,[c])=>K (.c c)
  | _=>False
 | .c (.d (.tup l))=>match nth l i with
  | some d=>K (vD d)
  | none=>False
 | _=>False
def rUn (op:UnOp) (c:C) (K:V→Prop):Prop :=
 match op,c with
 | .not,.d (.v (.bool true))=>K (.c (.d (.v (.bool false))))
 | .not,.d (.v (.bool false))=>K (.c (.d (.v (.bool true))))
 | .not,.d (.b p i)=>K (.c (.d (.b (¬ p) (@instDecidableNot p i))))
 | .neg,.d (.v (.int k n))=>K (.c (iC k (k.wrap (0 - n))))
 | .xor,.d (.v (.int k n))=>intBin .xor k (if k.signed then -1 else k.max) n fun c=>K (.c c)
 | _,_=>False
def isShift:BinOp→Bool
 | .shl=>true
 | .shr=>true
 | _=>false
def rEq (tt:List (Nat×TI)) (op:BinOp) (t:Nat) (y z:Operand) (u v:V) (K:V→Prop):Prop :=
 match eqVal tt t y z u v with
 | some d=>match op with
  | .eql=>K (.c (.d (.b d.p d.i)))
  | .neq=>K (.c (.d (.b (¬ d.p) (@instDecidableNot d.p d.i))))
  | _=>False
 | none=>False
def rBin (tt:List (Nat×TI)) (op:BinOp) (t:Nat) (y z:Operand) (u v:V) (K:V→Prop):Prop :=
 match u,v with
 | .c (.d (.v (.int k a))),.c (.d (.v (.int k' b)))=>match isShift op with
  | true=>shiftBin op k a b fun c=>K (.c c)
  | false=>onB (ikeq k k') (intBin op k a b fun c=>K (.c c))
 | .c (.d (.str a)),.c (.d (.str b))=>strBin op a b fun c=>K (.c c)
 | u,v=>rEq tt op t y z u v K
def rConv (L:List (Nat×Blk)) (_ts td:TI) (te:Option TI) (c:C) (K:V→Prop):Prop :=
 match c with
 | .d (.v (.int _ n))=>match td.ik with
  | some k=>K (.c (iC k (k.wrap n)))
  | none=>onB (Nat.beq td.kd 2) (K (.c (.d (.str (Utf8.encode n).data.toList))))
 | .d (.str l)=>onB (Nat.beq td.kd 2) (K (.c (.d (.str l))))
 | .d (.lst z l)=>onB (Nat.beq td.kd 2) (match te with
  | some e=>onB (match e.ik with|some k=>ikeq k .u8|none=>false) (onB (Nat.beq z 1) (∃ bs:List UInt8,l=bs.map u8D∧K (.c (.d (.str bs)))))
  | none=>False)
 | .all z k=>onB (Nat.beq td.kd 2) (match te,look L k with
  | some e,some (.rows _ l _)=>onB (match e.ik with|some k=>ikeq k .u8|none=>false) (onB (Nat.beq z 1) (∃ bs:List UInt8,l=bs.map u8D∧K (.c (.d (.str bs)))))
  | _,_=>False)
 | .d (.v (.slice none 0 0))=>onB (Nat.beq td.kd 2) (match te with
  | some e=>onB (match e.ik with|some k=>ikeq k .u8|none=>false) (K (.c (.d (.str []))))
  | none=>False)
 | _=>False
def dOfC:C→Option D
 | .d x=>some x
 | _=>none
def dsOf:List C→Option (List D)
 | []=>some []
 | c::r=>match dOfC c,dsOf r with
  | some d,some l=>some (d::l)
  | _,_=>none
def rIface (ti:TI) (t:Nat) (s:V) (K:V→Prop):Prop :=
 onB (match ti.iface with|true=>false|false=>true) (match s with
 | .c (.d (.v x))=>K (.c (.d (.v (.iface t x))))
 | .c (.d (.str l))=>K (.c (.d (.ifc t false [.str l])))
 | .c (.d (.b p i))=>K (.c (.d (.ifc t false [.b p i])))
 | .c (.d (.lst z l))=>K (.c (.d (.ifc t false [.lst z l])))
 | .agg l=>match dsOf l with
  | some ds=>K (.c (.d (.ifc t true ds)))
  | none=>False
 | _=>False)
def capsOf (ev:Operand→Option V):List Operand→Option (List (Nat×Nat))
 | []=>some []
 | x::r=>match ev x,capsOf ev r with
  | some (.c (.ptr k o)),some l=>some ((k,o)::l)
  | _,_=>none
def rNil (c:C) (K:V→Prop):Prop :=
 match c with
 | .ptr k o=>K (.c (.ptr k o))
 | .elt z k i o=>K (.c (.elt z k i o))
 | .d (.imm l)=>K (.c (.d (.imm l)))
 | .fn f cs=>K (.c (.fn f cs))
 | .d (.v (.iface t x))=>K (.c (.d (.v (.iface t x))))
 | .d (.ifc t g l)=>K (.c (.d (.ifc t g l)))
 | _=>False
def rIndex (ti:TI) (c:C) (i:C) (K:V→Prop):Prop :=
 match c,i with
 | .d (.str l),.d (.v (.int _ n))=>onB (Nat.beq ti.kd 2) ((0≤n∧n<(l.length:Int))∧K (.c (iC .u8 ((l.getD n.toNat 0).toNat:Int))))
 | _,_=>False
def rIndexA (ti te:TI) (l:List C) (i:C) (K:V→Prop):Prop :=
 match i,ti.sub with
 | .d (.v (.int _ n)),[m]=>onB (Nat.beq ti.kd 4) (onB (match te.agg with|true=>false|false=>true) (onB (Nat.beq te.size 1) ((0≤n∧n<(m:Int))∧∃ c,l[n.toNat]?=some c∧K (.c c))))
 | _,_=>False
def rIndexAddr (L:List (Nat×Blk)) (ti te:TI) (c:C) (i:C) (K:V→Prop):Prop :=
 match i with
 | .d (.v (.int _ n))=>match c with
  | .d (.lst z l)=>onB (Nat.beq ti.kd 3) (onB (Nat.beq z te.size) ((0≤n)∧∃ r,l[n.toNat]?=some r∧K (.c (.d (.imm r)))))
  | .all z k=>onB (Nat.beq ti.kd 3) (onB (Nat.beq z te.size) (match look L k with
   | some (.rows _ l _)=>(0≤n∧n<(l.length:Int))∧K (.c (.elt z k n.toNat 0))
   | _=>False))
  | .own z k a m=>onB (Nat.beq ti.kd 3) (onB (Nat.beq z te.size) ((0≤n∧n<(m:Int))∧K (.c (.elt z k (a+n.toNat) 0))))
  | .d (.imm l)=>onB (Nat.beq ti.kd 4) (match ti.sub with
   | [m]=>(0≤n∧n<(m:Int))∧∃ r,cut l (n.toNat * te.size) te.size=r∧K (.c (.d (.imm r)))
   | _=>False)
  | .ptr k o=>onB (Nat.beq ti.kd 4) (match ti.sub with
   | [m]=>(0≤n∧n<(m:Int))∧K (.c (.ptr k (o+n.toNat * te.size)))
   | _=>False)
  | _=>False
 | _=>False
def optInt (ev:Operand→Option V):Option Operand→Option (Option Int)
 | none=>some none
 | some x=>match ev x with
  | some (.c (.d (.v (.int _ n))))=>some (some n)
  | _=>none
def rSlice (L:List (Nat×Blk)) (ti:TI) (te:Option TI) (c:C) (lo hi mx:Option Int) (K:V→Prop):Prop :=
 match mx with
 | some _=>False
 | none=>match c with
  | .d (.str l)=>onB (Nat.beq ti.kd 2) ((0≤lo.getD 0∧lo.getD 0≤hi.getD l.length∧hi.getD l.length≤l.length)∧K (.c (.d (.str ((l.take (hi.getD l.length).toNat).drop (lo.getD 0).toNat)))))
  | .d (.lst z l)=>onB (Nat.beq ti.kd 3) (match te with
   | some te=>onB (Nat.beq z te.size) ((0≤lo.getD 0∧lo.getD 0≤hi.getD l.length∧hi.getD l.length≤l.length)∧K (.c (.d (.lst z ((l.take (hi.getD l.length).toNat).drop (lo.getD 0).toNat)))))
   | none=>False)
  | .all z k=>onB (Nat.beq ti.kd 3) (match te,look L k with
   | some te,some (.rows _ l _)=>onB (Nat.beq z te.size) ((0≤lo.getD 0∧lo.getD 0≤hi.getD l.length∧hi.getD l.length≤l.length)∧K (.c (.own z k (lo.getD 0).toNat ((hi.getD l.length).toNat - (lo.getD 0).toNat))))
   | _,_=>False)
  | _=>False
def pvals (ev:Operand→Option V):List (Nat×Operand)→Option (List (Nat×V))
 | []=>some []
 | (i,y)::r=>match ev y,pvals ev r with
  | some s,some l=>some ((i,s)::l)
  | _,_=>none
def cellsOf:V→Option (List C)
 | .agg l=>some l
 | .c (.d (.v (.agg _)))=>none
 | .c (.d (.v (.tuple _)))=>none
 | .c (.d (.agg _))=>none
 | .c (.d (.tup _))=>none
 | .c .junk=>none
 | .c c=>some [c]
 | .tup _=>none
def fillC (flds:List (Nat×Nat)) (cells:List C):List (Nat×V)→Option (List C)
 | []=>some cells
 | (i,s)::r=>match nth flds i,cellsOf s with
  | some (off,sz),some l=>bif Nat.beq l.length sz then (bif Nat.ble (off+l.length) cells.length then fillC flds (over cells off l) r else none) else none
  | _,_=>none
def rBuild (ti:TI) (ps:Option (List (Nat×V))) (K:V→Prop):Prop :=
 match ps with
 | some l=>match ti.flds,ti.el with
  | _::_,none=>match fillC ti.flds (ti.zero.map C.d) l with
   | some out=>K (.agg out)
   | none=>False
  | _,_=>False
 | none=>False
def rLen (L:List (Nat×Blk)) (ti:TI) (c:C) (K:V→Prop):Prop :=
 match c with
 | .d (.str l)=>onB (Nat.beq ti.kd 2) (K (.c (iC .i64 (l.length:Int))))
 | .d (.lst _ l)=>onB (Nat.beq ti.kd 3) (K (.c (iC .i64 (l.length:Int))))
 | .d (.v (.slice none 0 0))=>onB (Nat.beq ti.kd 3) (K (.c (iC .i64 0)))
 | .all _ k=>onB (Nat.beq ti.kd 3) (match look L k with
  | some (.rows _ l _)=>K (.c (iC .i64 (l.length:Int)))
  | _=>False)
 | .own _ _ _ n=>onB (Nat.beq ti.kd 3) (K (.c (iC .i64 (n:Int))))
 | _=>False
def rMinMax (mn:Bool) (c d:C) (K:V→Prop):Prop :=
 match c,d with
 | .d (.v (.int k a)),.d (.v (.int k' b))=>onB (ikeq k k') (match mn with|true=>K (.c (iC k (if b<a then b else a)))|false=>K (.c (iC k (if a<b then b else a))))
 | _,_=>False
section
variable {P:Program} {adr:Env} {M0:Nat→Prop} {L L':List (Nat×Blk)} {n:Nat} {w:World}
theorem rField_ok {t:Nat} {ti:TI} (h:FitsOne P t ti) {f:Nat} {c:C} {K:V→Prop} (hr:rField ti f c K) :
 ∃ s,K s∧∀ (adr:Env) (M:Nat→Prop) (w:World) (x:Value),DenC adr M w c x→∃ v,(Instr.fieldAt t x f).run P w=.ok v w∧DenV adr M w s v:=by
 unfold rField at hr
 split at hr
 ·rename_i off sz hf
  rw[nth_eq] at hf
  split at hr
  ·refine ⟨_,hr,fun adr M w x hx=>?_⟩
   obtain ⟨b,m,h1,rfl⟩:=hx
   exact ⟨_,h.field hf _ _ w,b,m,h1,rfl⟩
  ·rename_i z k i o
   refine ⟨_,hr,fun adr M w x hx=>?_⟩
   obtain ⟨b,m,h1,rfl⟩:=hx
   exact ⟨_,h.field hf _ _ w,b,m,h1,by rw[Nat.add_assoc]⟩
  ·rename_i l
   refine ⟨_,hr,fun adr M w x hx=>?_⟩
   cases hx with
   | imm _ b o cs hb hM hcell hden =>
    refine ⟨_,h.field hf _ _ w,?_⟩
    refine DenD.imm (l.drop off) b (o+off) (fun j=>cs (off+j)) hb hM (fun j d hj=>?_) (fun j d hj=>?_)
    ·rw[List.getElem?_drop] at hj
     rw[Nat.add_assoc];exact hcell (off+j) d hj
    ·rw[List.getElem?_drop] at hj
     exact hden (off+j) d hj
  ·exact hr.elim
 ·exact hr.elim
theorem ofCut_ok {ag:Bool} {l:List C} {sz:Nat} {K:V→Prop} (h:ofCut ag l sz K):l.length=sz∧(ag=false→sz=1)∧∃ s,K s∧∀ (adr:Env) (M:Nat→Prop) (w:World) (xs:List Value),DenCs adr M w l xs→DenV adr M w s (if ag then .agg xs.toArray else xs.headD undef):=by
 unfold ofCut at h
 split at h
 ·rename_i hb
  have hl:=Nat.eq_of_beq_eq_true hb
  split at h
  ·exact ⟨hl,(fun h=>(by cases h)),_,h,fun adr M w xs hx=>⟨xs,rfl,hx⟩⟩
  ·split at h
   ·refine ⟨hl,fun _=>by rw[← hl];rfl,_,h,fun adr M w xs hx=>?_⟩
    obtain ⟨x,rfl,h1⟩:=All2.one_iff.1 hx
    exact h1
   ·exact h.elim
 ·exact h.elim
theorem rLoad_ok {t:Nat} {ti:TI} (h:FitsOne P t ti) {c:C} {K:V→Prop} (hr:rLoad L ti c K) :
 ∃ s,K s∧∀ (M0:Nat→Prop) (adr:Env) (L':List (Nat×Blk)) (n:Nat) (w:World) (x:Value),(∀ k B,look L k=some B→look L' k=some B)→WOk M0 adr L' n w→DenC adr (Mut M0 adr L') w c x→
  ∃ v,(Instr.loadAt t x).run P w=.ok v w∧DenV adr (Mut M0 adr L') w s v:=by
 have fin:∀ {b o:Nat} {w:World} {cs:List Value},cs.length=ti.size→(∀ j v,cs[j]?=some v→w.cell? ⟨b,o+j,none⟩=some v)→(ti.agg=false→ti.size=1)→(Instr.loadAt t (.pointer (some ⟨b,o,none⟩))).run P w=.ok (if ti.agg then .agg cs.toArray else cs.headD undef) w:=by
  intro b o w cs h1 h2 h3
  simp only[Instr.loadAt,Instr.sureAddr,Sem.run_bind,Sem.run_pure,Result.andThen_ok,h.load h1 h2 h3]
 unfold rLoad at hr
 split at hr
 ·rename_i k o
  split at hr
  ·rename_i l tb hk
   obtain ⟨h1,h2,s,hs,h3⟩:=ofCut_ok hr
   refine ⟨s,hs,fun M0 adr L' n w x hL hw hx=>?_⟩
   obtain ⟨b,m,ha,rfl⟩:=hx
   have hloc:=hw.loc k _ (hL k _ hk)
   rw[ha] at hloc
   obtain ⟨xs,e1,e2⟩:=hloc
   have hcut:DenCs adr (Mut M0 adr L') w (cut l o ti.size) (cut xs o ti.size):=(e2.drop o).take _
   refine ⟨_,fin (cs:=cut xs o ti.size) (by rw[← All2.length hcut];exact h1) (fun j v hj=>?_) h2,h3 _ _ _ _ hcut⟩
   simp only[cut,List.getElem?_take,List.getElem?_drop] at hj
   split at hj
   ·simp[World.cell?,e1,hj]
   ·cases hj
  ·exact hr.elim
 ·rename_i z k i o
  split at hr
  ·rename_i z' l e hk
   obtain ⟨hz,r,hi,hr⟩:=hr
   have hz:=Nat.eq_of_beq_eq_true hz
   subst hz
   obtain ⟨h1,h2,s,hs,h3⟩:=ofCut_ok hr
   refine ⟨s,hs,fun M0 adr L' n w x hL hw hx=>?_⟩
   obtain ⟨b,m,ha,rfl⟩:=hx
   have hloc:=hw.loc k _ (hL k _ hk)
   rw[ha] at hloc
   obtain ⟨g1,g2,g3,cur,cp,g4,g5,g6,g7,g8⟩:=hloc
   have hil:i<l.length:=(List.getElem?_eq_some_iff.1 hi).1
   have hrz:r.length=z:=g3 r (List.mem_of_getElem? hi)
   have hri:r=(l.flatten.drop (i * z)).take z:=by
    have h1:(l.drop i).flatten=l.flatten.drop (i * z):=flatten_drop g3
    rw[← h1,List.drop_eq_getElem_cons hil,List.flatten_cons]
    have h2:l[i]=r:=(List.getElem?_eq_some_iff.1 hi).2
    rw[h2,← hrz,List.take_left]
   have hcutR:DenL (Mut M0 adr L') w r (((cur.toList.take (l.length * z)).drop (i * z)).take z):=by
    rw[hri];exact (g8.drop _).take _
   have hcut:DenCs adr (Mut M0 adr L') w ((cut r o ti.size).map C.d) (cut (((cur.toList.take (l.length * z)).drop (i * z)).take z) o ti.size):=All2.map_left.2 ((hcutR.drop o).take _)
   refine ⟨_,fin (cs:=cut (((cur.toList.take (l.length * z)).drop (i * z)).take z) o ti.size) (by rw[← All2.length hcut];exact h1) (fun j v hj=>?_) h2,h3 _ _ _ _ hcut⟩
   simp only[cut,List.getElem?_take,List.getElem?_drop] at hj
   split at hj
   ·split at hj
    ·split at hj
     ·simp only[World.cell?,g4]
      simp only[Option.isSome_none,Bool.false_eq_true,if_false]
      rw[show i * z+o+j=i * z+(o+j) by omega]
      simpa using hj
     ·cases hj
    ·cases hj
   ·cases hj
  ·exact hr.elim
 ·rename_i l
  obtain ⟨h1,h2,s,hs,h3⟩:=ofCut_ok hr
  refine ⟨s,hs,fun M0 adr L' n w x hL hw hx=>?_⟩
  cases hx with
  | imm _ b o cs hb hM hcell hden =>
   have hlen:ti.size≤l.length:=by simp[cut] at h1;omega
   have hcut:DenCs adr (Mut M0 adr L') w ((cut l 0 ti.size).map C.d) ((List.range ti.size).map cs):=by
    refine All2.map_left.2 (All2.of_get (by simp[cut];omega) fun j d x h1 h2=>?_)
    simp only[cut,List.drop_zero,List.getElem?_take] at h1
    split at h1
    ·rename_i hj
     rw[List.getElem?_map,List.getElem?_range hj] at h2
     simp only[Option.map_some,Option.some.injEq] at h2;subst h2
     exact hden j d h1
    ·cases h1
   refine ⟨_,fin (cs:=(List.range ti.size).map cs) (by simp) (fun j v hj=>?_) h2,h3 _ _ _ _ hcut⟩
   rw[List.getElem?_map] at hj
   obtain ⟨j',hj1,rfl⟩:=Option.map_eq_some_iff.1 hj
   have hjlt:j<ti.size:=by
    rcases Nat.lt_or_ge j ti.size with h|h
    ·exact h
    ·rw[List.getElem?_eq_none (by simpa using h)] at hj1;cases hj1
   rw[List.getElem?_range hjlt] at hj1
   cases hj1
   exact hcell j l[j] (List.getElem?_eq_getElem (by omega))
 ·exact hr.elim
theorem rExtract_ok {s:V} {i:Nat} {K:V→Prop} (hr:rExtract s i K):∃ r,K r∧∀ (adr:Env) (M:Nat→Prop) (w:World) (x:Value),DenV adr M w s x→∃ v,(Instr.extract x i).run P w=.ok v w∧DenV adr M w r v:=by
 unfold rExtract at hr
 split at hr
 ·rename_i l
  split at hr
  ·rename_i l' hi
   rw[nth_eq] at hi
   refine ⟨_,hr,fun adr M w x hx=>?_⟩
   obtain ⟨xs,rfl,h1⟩:=hx
   obtain ⟨y,hy,h2⟩:=All2.get h1 hi
   exact ⟨y,by simp[Instr.extract,hy],h2⟩
  ·rename_i c hi
   rw[nth_eq] at hi
   refine ⟨_,hr,fun adr M w x hx=>?_⟩
   obtain ⟨xs,rfl,h1⟩:=hx
   obtain ⟨y,hy,h2⟩:=All2.get h1 hi
   obtain ⟨c',hc,h3⟩:=h2
   cases hc
   exact ⟨y,by simp[Instr.extract,hy],h3⟩
  ·exact hr.elim
 ·rename_i l
  split at hr
  ·rename_i d hi
   rw[nth_eq] at hi
   refine ⟨_,hr,fun adr M w x hx=>?_⟩
   obtain ⟨xs,rfl,h1⟩:=DenD.tup_inv hx
   obtain ⟨y,hy,h2⟩:=All2.get h1 hi
   exact ⟨y,by simp[Instr.extract,hy],vD_den h2⟩
  ·exact hr.elim
 ·exact hr.elim
theorem rUn_ok {op:UnOp} {c:C} {K:V→Prop} (hr:rUn op c K):∃ r,K r∧∀ (adr:Env) (M:Nat→Prop) (w:World) (x:Value),DenC adr M w c x→∃ v,(Op.unary op x).run P w=.ok v w∧DenV adr M w r v:=by
 unfold rUn at hr
 split at hr
 ·exact ⟨_,hr,fun adr M w x hx=>by obtain rfl:=DenD.v_inv hx;exact ⟨_,rfl,.v _⟩⟩
 ·exact ⟨_,hr,fun adr M w x hx=>by obtain rfl:=DenD.v_inv hx;exact ⟨_,rfl,.v _⟩⟩
 ·exact ⟨_,hr,fun adr M w x hx=>by
   obtain rfl:=DenD.b_inv hx
   refine ⟨_,rfl,?_⟩
   rename_i p i
   have:(!@decide p i)=@decide (¬ p) (@instDecidableNot p i):=by by_cases hp:p <;> simp[hp]
   rw[this];exact .b _ _⟩
 ·exact ⟨_,hr,fun adr M w x hx=>by obtain rfl:=DenD.v_inv hx;exact ⟨_,by simp[Op.unary,Op.intArith],.v _⟩⟩
 ·obtain ⟨c,hc,h1⟩:=intBin_ok (P:=P) hr
  refine ⟨_,hc,fun adr M w x hx=>?_⟩
  obtain rfl:=DenD.v_inv hx
  obtain ⟨v,h2,h3⟩:=h1 adr M 0 w
  refine ⟨v,?_,h3⟩
  simpa[binOp,Op.unary] using h2
 ·exact hr.elim
theorem run_guard_plain {op:BinOp} {t:Nat} {y z:Operand} {a b:Value} (ha:∀ l,a≠.agg l) (hn:a≠.nilIface):(eqGuard op t y z a b).run P w=.ok () w:=by
 cases a <;> first|exact absurd rfl hn|exact absurd rfl (ha _)|(cases op <;> rfl)
theorem rBin_ok {tt:List (Nat×TI)} (hT:Fits P tt) {op:BinOp} {t:Nat} {y z:Operand} {u v:V} {K:V→Prop} (hr:rBin tt op t y z u v K) :
 ∃ s,K s∧∀ (adr:Env) (M:Nat→Prop) (w:World) (a b:Value),DenV adr M w u a→DenV adr M w v b→∃ r,(eqGuard op t y z a b).run P w=.ok () w∧(binOp op t a b).run P w=.ok r w∧DenV adr M w s r:=by
 unfold rBin at hr
 split at hr
 ·rename_i k a k' b
  split at hr
  ·obtain ⟨c,hc,h1⟩:=shiftBin_ok (P:=P) (yk:=k') hr
   refine ⟨_,hc,fun adr M w x y hx hy=>?_⟩
   obtain rfl:=DenD.v_inv hx
   obtain rfl:=DenD.v_inv hy
   obtain ⟨r,h2,h3⟩:=h1 adr M t w
   exact ⟨r,run_guard_plain (fun l h=>by cases h) (fun h=>by cases h),h2,h3⟩
  ·obtain ⟨hk,hr2⟩:=onB_ok hr
   obtain rfl:=ikeq_ok hk
   obtain ⟨c,hc,h1⟩:=intBin_ok (P:=P) hr2
   refine ⟨_,hc,fun adr M w x y hx hy=>?_⟩
   obtain rfl:=DenD.v_inv hx
   obtain rfl:=DenD.v_inv hy
   obtain ⟨r,h2,h3⟩:=h1 adr M t w
   exact ⟨r,run_guard_plain (fun l h=>by cases h) (fun h=>by cases h),h2,h3⟩
 ·obtain ⟨c,hc,h1⟩:=strBin_ok (P:=P) hr
  refine ⟨_,hc,fun adr M w x y hx hy=>?_⟩
  obtain rfl:=DenD.str_inv hx
  obtain rfl:=DenD.str_inv hy
  obtain ⟨r,h2,h3⟩:=h1 adr M t w
  exact ⟨r,run_guard_plain (fun l h=>by cases h) (fun h=>by cases h),h2,h3⟩
 ·unfold rEq at hr
  split at hr
  ·rename_i d hd
   split at hr
   ·refine ⟨_,hr,fun adr M w x y hx hy=>?_⟩
    obtain ⟨h1,_,h3⟩:=eqVal_ok hT hd w hx hy
    exact ⟨_,h1 _,h3 .eql (.inl rfl),.b _ _⟩
   ·refine ⟨_,hr,fun adr M w x y hx hy=>?_⟩
    obtain ⟨h1,_,h3⟩:=eqVal_ok hT hd w hx hy
    refine ⟨_,h1 _,h3 .neq (.inr rfl),?_⟩
    obtain ⟨p,i⟩:=d
    have:(!@decide p i)=@decide (¬ p) (@instDecidableNot p i):=by by_cases hp:p <;> simp[hp]
    simp only[this];exact DenD.b _ _
   ·exact hr.elim
  ·exact hr.elim
theorem push_fold:∀ (bs:List UInt8) (s:ByteArray),(bs.map fun b=>((b.toNat:Nat):Int)).foldl (fun r n=>r.push (UInt8.ofNat n.toNat)) s=⟨(s.data.toList++bs).toArray⟩
 | [],s=>by simp
 | b::bs,s=>by
  simp only[List.map_cons,List.foldl_cons]
  rw[push_fold bs]
  congr 1
  apply Array.ext'
  simp[ByteArray.push]
theorem run_bytes_str {a:Addr} {bs:List UInt8} {c:Nat} (h:∀ (j:Nat) b,bs[j]?=some b→w.cell? (a.add j)=some (.int .u8 (b.toNat:Int))) :
 (Conv.bytesToString (.slice (some a) bs.length c)).run P w=.ok (.string ⟨bs.toArray⟩) w:=by
 have hl:(loadCells a bs.length).run P w=.ok ((bs.map fun b=>((b.toNat:Nat):Int)).map (Value.int .u8)).toArray w:=by
  have:=run_loadCells_list (P:=P) w a ((bs.map fun b=>((b.toNat:Nat):Int)).map (Value.int .u8)) (fun j v hj=>by
   rw[List.getElem?_map,List.getElem?_map] at hj
   cases hb:bs[j]? with
   | none=>rw[hb] at hj;cases hj
   | some b=>rw[hb] at hj;cases hj;exact h j b hb)
  simpa using this
 rw[run_bytesToString w a bs.length c _ hl,push_fold]
 simp
theorem lst_bytes {M:Nat→Prop} {bs:List UInt8} {x:Value} (h:DenD M w (.lst 1 (bs.map u8D)) x):∃ a l c,x=.slice a l c∧(Conv.bytesToString x).run P w=.ok (.string ⟨bs.toArray⟩) w:=by
 have key:∀ (l:List (List D)),l=bs.map u8D→DenD M w (.lst 1 l) x→∃ a l c,x=.slice a l c∧(Conv.bytesToString x).run P w=.ok (.string ⟨bs.toArray⟩) w:=by
  intro l hl h
  cases h with
  | lst0 _ a c hc =>
   have hb:bs=[]:=by cases bs with|nil=>rfl|cons _ _=>cases hl
   subst hb
   refine ⟨a,0,c,rfl,?_⟩
   cases a with
   | none=>rfl
   | some a=>exact run_bytes_str (bs:=[]) (fun j b hj=>by simp at hj)
  | lst _ _ b o c cs hb hM hle hc hz hcell hden =>
   subst hl
   refine ⟨_,_,_,rfl,?_⟩
   have hlen:(bs.map u8D).length=bs.length:=by simp
   rw[hlen]
   refine run_bytes_str fun j b' hj=>?_
   have hg:get2 (bs.map u8D) j 0=some (.v (.int .u8 (b'.toNat:Int))):=by simp[get2,hj]
   have h1:=hcell j 0 _ hg
   have h2:=DenD.v_inv (hden j 0 _ hg)
   rw[addr_add]
   simpa[h2] using h1
 exact key _ rfl h
theorem flat_u8:∀ (bs:List UInt8),(bs.map u8D).flatten=bs.map fun b=>D.v (.int .u8 (b.toNat:Int))
 | []=>rfl
 | b::bs=>by simp only[List.map_cons,List.flatten_cons,flat_u8 bs];rfl
theorem rConv_ok {ts td:TI} {src dst:Nat} (hs:FitsOne P src ts) (hd:FitsOne P dst td) {te:Option TI} (he:∀ te',te=some te'→∃ e,ts.kd=3∧ts.el=some e∧FitsOne P e te') {c:C} {K:V→Prop} (hr:rConv L ts td te c K) :
 ∃ s,K s∧∀ (M0:Nat→Prop) (adr:Env) (L':List (Nat×Blk)) (n:Nat) (w:World) (x:Value),(∀ k B,look L k=some B→look L' k=some B)→WOk M0 adr L' n w→DenC adr (Mut M0 adr L') w c x→
  ∃ v,(convert src dst x).run P w=.ok v w∧DenV adr (Mut M0 adr L') w s v:=by
 obtain ⟨ds,es,_,_,_,iks,els,kds⟩:=hs.desc
 obtain ⟨dd,ed,_,_,_,ikd,_,kdd⟩:=hd.desc
 have bytes:∀ (e:TI),te=some e→(match e.ik with|some k=>ikeq k .u8|none=>false)=true→∃ el,P.underlying src=some (.slice el)∧P.underlying el=some (.int .u8):=by
  intro e hte1 hik
  obtain ⟨el,h3,hel,hfe⟩:=he e hte1
  ·obtain ⟨de,ee,_,_,_,ike,_⟩:=hfe.desc
   rw[h3] at kds
   rw[hel] at els
   cases ds <;> simp[kdOf] at kds
   simp only[elOf,Option.some.injEq] at els
   subst els
   cases hk:e.ik with
   | none=>rw[hk] at hik;cases hik
   | some k =>
    rw[hk] at hik ike
    obtain rfl:=ikeq_ok hik
    cases de <;> simp only[ikOf,reduceCtorEq,Option.some.injEq] at ike
    subst ike
    exact ⟨_,es,ee⟩
 have str2:Nat.beq td.kd 2=true→P.underlying dst=some .string:=by
  intro h
  rw[Nat.eq_of_beq_eq_true h] at kdd
  cases dd <;> simp[kdOf] at kdd
  exact ed
 unfold rConv at hr
 split at hr
 ·rename_i k0 m
  split at hr
  ·rename_i k hk
   refine ⟨_,hr,fun M0 adr L' n w x _ _ hx=>?_⟩
   obtain rfl:=DenD.v_inv hx
   refine ⟨_,?_,.v _⟩
   rw[hk] at ikd
   cases dd <;> simp only[ikOf,reduceCtorEq,Option.some.injEq] at ikd
   subst ikd
   simp[convert,run_underlying es,run_underlying ed,Conv.intToInt]
  ·replace hr:=onB_ok hr
   obtain ⟨h2,hr⟩:=hr
   refine ⟨_,hr,fun M0 adr L' n w x _ _ hx=>?_⟩
   obtain rfl:=DenD.v_inv hx
   refine ⟨.string (Utf8.encode m),?_,?_⟩
   ·simp[convert,run_underlying es,run_underlying (str2 h2),Conv.intToString]
   ·exact DenD.str _
 ·replace hr:=onB_ok hr
  obtain ⟨h2,hr⟩:=hr
  refine ⟨_,hr,fun M0 adr L' n w x _ _ hx=>?_⟩
  obtain rfl:=DenD.str_inv hx
  refine ⟨_,?_,.str _⟩
  simp[convert,run_underlying es,run_underlying (str2 h2)]
 ·rename_i z l
  replace hr:=onB_ok hr
  obtain ⟨h2,hr⟩:=hr
  split at hr
  ·rename_i e
   replace hr:=onB_ok hr
   obtain ⟨h3,hr⟩:=hr
   replace hr:=onB_ok hr
   obtain ⟨h4,bs,rfl,hr⟩:=hr
   have hz:=Nat.eq_of_beq_eq_true h4
   subst hz
   obtain ⟨el,e1,e2⟩:=bytes e rfl h3
   refine ⟨_,hr,fun M0 adr L' n w x _ _ hx=>?_⟩
   obtain ⟨a,l,c,rfl,h5⟩:=lst_bytes (P:=P) hx
   exact ⟨_,by rw[run_convert_bytes_string w src dst el a l c e1 e2 (str2 h2)];exact h5,DenD.str _⟩
  ·exact hr.elim
 ·rename_i z k
  replace hr:=onB_ok hr
  obtain ⟨h2,hr⟩:=hr
  split at hr
  ·rename_i e z' l e' hk
   replace hr:=onB_ok hr
   obtain ⟨h3,hr⟩:=hr
   replace hr:=onB_ok hr
   obtain ⟨h4,bs,rfl,hr⟩:=hr
   have hz:=Nat.eq_of_beq_eq_true h4
   subst hz
   obtain ⟨el,e1,e2⟩:=bytes e rfl h3
   refine ⟨_,hr,fun M0 adr L' n w x hL hw hx=>?_⟩
   have hloc:=hw.loc k _ (hL k _ hk)
   rcases hx with ⟨h5,rfl⟩|⟨b,m,cp,cur,ee,f,h5,h6,h7,h8,h9,rfl⟩
   ·rw[h5] at hloc
    obtain ⟨_,h6,_⟩:=hloc
    have hb:bs=[]:=by cases bs with|nil=>rfl|cons _ _=>cases h6
    subst hb
    refine ⟨.string .empty,?_,DenD.str []⟩
    rw[run_convert_bytes_string w src dst el _ _ _ e1 e2 (str2 h2)];rfl
   ·rw[h5] at hloc
    obtain ⟨g1,g2,g3,cur',cp',g4,g5,g6,g7,g8⟩:=hloc
    have hz':z'=1∨bs=[]:=by
     cases bs with
     | nil=>exact .inr rfl
     | cons b bs=>exact .inl (g3 (u8D b) (by simp)).symm
    have hm:m=bs.length:=by rw[← g2];simp
    subst hm
    refine ⟨_,?_,DenD.str bs⟩
    rw[run_convert_bytes_string w src dst el _ _ _ e1 e2 (str2 h2)]
    refine run_bytes_str fun j b' hj=>?_
    rcases hz' with rfl|rfl
    ·have hfl:(bs.map u8D).flatten[j]?=some (.v (.int .u8 (b'.toNat:Int))):=by
      rw[flat_u8,List.getElem?_map,hj];rfl
     obtain ⟨x,hx1,hx2⟩:=All2.get g8 hfl
     obtain rfl:=DenD.v_inv hx2
     rw[List.getElem?_take] at hx1
     split at hx1
     ·rw[addr_add]
      simp only[World.cell?,g4]
      simpa using hx1
     ·cases hx1
    ·simp at hj
  ·exact hr.elim
 ·replace hr:=onB_ok hr
  obtain ⟨h2,hr⟩:=hr
  split at hr
  ·rename_i e
   replace hr:=onB_ok hr
   obtain ⟨h3,hr⟩:=hr
   obtain ⟨el,e1,e2⟩:=bytes e rfl h3
   refine ⟨_,hr,fun M0 adr L' n w x _ _ hx=>?_⟩
   obtain rfl:=DenD.v_inv hx
   refine ⟨.string .empty,?_,DenD.str []⟩
   rw[run_convert_bytes_string w src dst el _ _ _ e1 e2 (str2 h2)];rfl
  ·exact hr.elim
 ·exact hr.elim
end
end Go.EYtdpigpahfiachaaGreatDoor
end
section
namespace Go.EYtdpigpahfiachaaGreatDoor
open Go Go.RowKit
section
variable {P:Program} {L:List (Nat×Blk)}
theorem dsOf_ok:∀ {l:List C} {ds:List D},dsOf l=some ds→l=ds.map C.d
 | [],ds,h=>by simp only[dsOf,Option.some.injEq] at h;subst h;rfl
 | c::r,ds,h=>by
  simp only[dsOf] at h
  split at h
  ·rename_i d l hd hl
   cases h
   rw[List.map_cons,← dsOf_ok hl]
   cases c <;> simp only[dOfC,Option.some.injEq,reduceCtorEq] at hd
   rw[hd]
  ·cases h
theorem rIface_ok {t:Nat} {ti:TI} (h:FitsOne P t ti) {s:V} {K:V→Prop} (hr:rIface ti t s K):∃ r,K r∧∀ (adr:Env) (M:Nat→Prop) (w:World) (x:Value),DenV adr M w s x→∃ v,(Instr.makeInterface t x).run P w=.ok v w∧DenV adr M w r v:=by
 unfold rIface at hr
 obtain ⟨hi,hr2⟩:=onB_ok hr
 have hi:ti.iface=false:=by cases hq:ti.iface <;> simp[hq] at hi ⊢
 obtain ⟨d,hd,_,_,hd2,_⟩:=h.desc
 have hrun:∀ (w:World) (x:Value),(Instr.makeInterface t x).run P w=.ok (.iface t x) w:=by
  intro w x
  unfold Instr.makeInterface
  simp only[Sem.run_bind,run_underlying hd,Result.andThen_ok]
  rw[hi] at hd2
  cases d <;> first|rfl|(simp[ifaceOf] at hd2)
 split at hr2
 ·exact ⟨_,hr2,fun adr M w x hx=>⟨_,hrun w x,by obtain rfl:=DenD.v_inv hx;exact DenD.v _⟩⟩
 ·exact ⟨_,hr2,fun adr M w x hx=>⟨_,hrun w x,DenD.ifc1 _ _ _ hx⟩⟩
 ·exact ⟨_,hr2,fun adr M w x hx=>⟨_,hrun w x,DenD.ifc1 _ _ _ hx⟩⟩
 ·exact ⟨_,hr2,fun adr M w x hx=>⟨_,hrun w x,DenD.ifc1 _ _ _ hx⟩⟩
 ·split at hr2
  ·rename_i l ds hds
   refine ⟨_,hr2,fun adr M w x hx=>⟨_,hrun w x,?_⟩⟩
   obtain ⟨xs,rfl,h2⟩:=hx
   rw[dsOf_ok hds] at h2
   exact DenD.ifc2_mk ((All2.map_left (R:=DenC adr M w) (f:=C.d)).1 h2)
  ·exact hr2.elim
 ·exact hr2.elim
def fD (l:List D):(List C→Prop)→Prop :=
 List.rec (motive:=fun _=>(List C→Prop)→Prop) (fun K=>K []) (fun d _ ih K=>ih fun r=>K (.d d::r)) l
theorem fD_eq:∀ (l:List D) (K:List C→Prop),fD l K=K (l.map C.d)
 | [],K=>rfl
 | d::r,K=>by show fD r (fun r'=>K (.d d::r'))=_;rw[fD_eq r];rfl
def rAssert (ti:TI) (t:Nat) (ok:Bool) (c:C) (K:V→Prop):Prop:=match c with
 | .d (.ifc t' true l)=>onB (match ti.iface with|true=>false|false=>true) (onB (Nat.beq t' t) (fD l fun cs=>match ok with
  | true=>K (.tup [(true,cs),(false,[.d (.v (.bool true))])])
  | false=>K (.agg cs)))
 | _=>False
theorem rAssert_ok {t:Nat} {ti:TI} (h:FitsOne P t ti) {ok:Bool} {c:C} {K:V→Prop} (hr:rAssert ti t ok c K):∃ r,K r∧∀ (adr:Env) (M:Nat→Prop) (w:World) (x:Value) (xt:Nat),DenC adr M w c x→∃ v,(Instr.typeAssert x xt t ok).run P w=.ok v w∧DenV adr M w r v:=by
 unfold rAssert at hr
 split at hr
 ·rename_i t' l
  obtain ⟨hi,hr1⟩:=onB_ok hr
  have hi:ti.iface=false:=by cases hq:ti.iface <;> simp[hq] at hi ⊢
  obtain ⟨ht,hr2⟩:=onB_ok hr1
  obtain rfl:=Nat.eq_of_beq_eq_true ht
  obtain ⟨d,hd,_,_,hd2,_⟩:=h.desc
  rw[fD_eq] at hr2
  have hden:∀ (adr:Env) (M:Nat→Prop) (w:World) (x:Value),DenC adr M w (.d (.ifc t' true l)) x→∃ xs:List Value,x=.iface t' (.agg xs.toArray)∧DenCs adr M w (l.map C.d) xs:=fun adr M w x hx=>by
   have hx:DenD M w (.ifc t' true l) x:=hx
   cases hx with
   | ifc2 _ _ xs hl hy=>exact ⟨xs,rfl,(All2.map_left (R:=DenC adr M w) (f:=C.d)).2 (All2.of_get hl hy)⟩
  have hrun:∀ (w:World) (y:Value) (xt:Nat),(Instr.typeAssert (.iface t' y) xt t' ok).run P w=.ok (if ok=true then .tuple #[y,.bool true] else y) w:=by
   intro w y xt
   unfold Instr.typeAssert
   simp only[Sem.run_bind,run_underlying hd,Result.andThen_ok]
   rw[hi] at hd2
   cases d <;> first|(simp;done)|(simp[ifaceOf] at hd2;done)|(cases ok <;> simp)
  cases ok with
  | true =>
   refine ⟨_,hr2,fun adr M w x xt hx=>?_⟩
   obtain ⟨xs,rfl,hxs⟩:=hden adr M w x hx
   exact ⟨_,hrun w _ xt,[.agg xs.toArray,.bool true],rfl,⟨xs,rfl,hxs⟩,⟨_,rfl,DenD.v _⟩,trivial⟩
  | false =>
   refine ⟨_,hr2,fun adr M w x xt hx=>?_⟩
   obtain ⟨xs,rfl,hxs⟩:=hden adr M w x hx
   exact ⟨_,hrun w _ xt,xs,rfl,hxs⟩
 ·exact hr.elim
theorem capsOf_ok {adr:Env} {M:Nat→Prop} {w:World} {ev:Operand→Option V} {ρ:Operand→Value}:∀ {xs:List Operand} {l:List (Nat×Nat)},capsOf ev xs=some l→(∀ x ∈ xs,∀ s,ev x=some s→DenV adr M w s (ρ x))→All2 (DenP adr) l (xs.map ρ)
 | [],l,h,_=>by simp only[capsOf,Option.some.injEq] at h;subst h;trivial
 | x::r,l,h,hx=>by
  simp only[capsOf] at h
  split at h
  ·rename_i k o l' h1 h2
   cases h
   refine ⟨?_,capsOf_ok h2 (fun y hy=>hx y (by simp[hy]))⟩
   obtain ⟨b,m,e1,e2⟩:=hx x (by simp) _ h1
   exact ⟨b,m,e1,e2⟩
  ·cases h
theorem rIndex_ok {t:Nat} {ti:TI} (h:FitsOne P t ti) {c i:C} {K:V→Prop} (hr:rIndex ti c i K):∃ r,K r∧∀ (adr:Env) (M:Nat→Prop) (w:World) (x y:Value),DenC adr M w c x→DenC adr M w i y→∃ v,(Instr.index t x y).run P w=.ok v w∧DenV adr M w r v:=by
 unfold rIndex at hr
 split at hr
 ·rename_i l k m
  obtain ⟨hk,hr2⟩:=onB_ok hr
  obtain ⟨⟨h0,h1⟩,hK⟩:=hr2
  obtain ⟨d,hd,_,_,_,_,_,hkd⟩:=h.desc
  rw[Nat.eq_of_beq_eq_true hk] at hkd
  have hstr:P.underlying t=some .string:=by cases d <;> simp[kdOf] at hkd;exact hd
  refine ⟨_,hK,fun adr M w x y hx hy=>?_⟩
  obtain rfl:=DenD.str_inv hx
  obtain rfl:=DenD.v_inv hy
  have hlt:m.toNat<l.length:=by omega
  refine ⟨_,?_,.v _⟩
  have hg:(⟨l.toArray⟩:ByteArray)[m.toNat]?=some l[m.toNat]:=by
   rw[getElem?_pos (⟨l.toArray⟩:ByteArray) m.toNat (by simpa[ByteArray.size] using hlt)]
   rfl
  simp only[Instr.index,asIntOf,Sem.run_bind,Sem.run_pure,Result.andThen_ok,run_underlying hstr,h0,if_true,hg]
  rw[List.getD_eq_getElem?_getD,List.getElem?_eq_getElem hlt,Option.getD_some]
 ·exact hr.elim
theorem rIndexA_ok {t e:Nat} {ti te:TI} (h:FitsOne P t ti) (hel:ti.el=some e) (he:FitsOne P e te) {l:List C} {i:C} {K:V→Prop} (hr:rIndexA ti te l i K):∃ r,K r∧∀ (adr:Env) (M:Nat→Prop) (w:World) (x y:Value),DenV adr M w (.agg l) x→DenC adr M w i y→∃ v,(Instr.index t x y).run P w=.ok v w∧DenV adr M w r v:=by
 unfold rIndexA at hr
 split at hr
 ·rename_i k n m hsub
  obtain ⟨hk,hr1⟩:=onB_ok hr
  obtain ⟨ha,hr2⟩:=onB_ok hr1
  obtain ⟨hs,⟨h0,h1⟩,c,hc,hK⟩:=onB_ok hr2
  clear hr hr1 hr2
  have hs:=Nat.eq_of_beq_eq_true hs
  have ha:te.agg=false:=by cases hq:te.agg <;> simp[hq] at ha ⊢
  obtain ⟨d,hd,_,_,_,_,hdel,hkd⟩:=h.desc
  have hsb:=h.sub
  rw[hd,hsub] at hsb
  rw[hel] at hdel
  rw[Nat.eq_of_beq_eq_true hk] at hkd
  cases d <;> simp[kdOf] at hkd
  simp only[elOf,Option.some.injEq] at hdel;subst hdel
  simp only[Option.map_some,subOf,Option.some.injEq,List.cons.injEq,and_true] at hsb;subst hsb
  refine ⟨_,hK,fun adr M w x y hx hy=>?_⟩
  obtain ⟨xs,rfl,hx⟩:=hx
  obtain rfl:=DenD.v_inv hy
  obtain ⟨v,hv,hden⟩:=All2.get hx hc
  refine ⟨v,?_,hden⟩
  have hp:=run_part he (us:=xs) (off:=n.toNat * te.size) w (u:=v) (by
   rw[ha,hs]
   simp only[Bool.false_eq_true,if_false,cut,Nat.mul_one]
   have hlt:n.toNat<xs.length:=(List.getElem?_eq_some_iff.1 hv).1
   rw[List.drop_eq_getElem_cons hlt]
   have:xs[n.toNat]=v:=(List.getElem?_eq_some_iff.1 hv).2
   simp[this]) (fun _=>hs)
  simp only[Instr.index,asIntOf,Sem.run_bind,Sem.run_pure,Result.andThen_ok,run_underlying hd,h0,h1,and_self,if_true,he.size,hp]
 ·exact hr.elim
theorem rIndexAddr_ok {t e:Nat} {ti te:TI} (h:FitsOne P t ti) (hel:ti.el=some e) (he:FitsOne P e te) {c i:C} {K:V→Prop} (hr:rIndexAddr L ti te c i K) :
 ∃ s,K s∧∀ (M0:Nat→Prop) (adr:Env) (L':List (Nat×Blk)) (n:Nat) (w:World) (x y:Value),(∀ k B,look L k=some B→look L' k=some B)→WOk M0 adr L' n w→DenC adr (Mut M0 adr L') w c x→DenC adr (Mut M0 adr L') w i y→
  ∃ v,(Instr.indexAt t x y).run P w=.ok v w∧DenV adr (Mut M0 adr L') w s v:=by
 obtain ⟨d,hd,_,_,_,_,hdel,hkd⟩:=h.desc
 rw[hel] at hdel
 have hsl:Nat.beq ti.kd 3=true→P.underlying t=some (.slice e):=fun hk=>by
  rw[Nat.eq_of_beq_eq_true hk] at hkd
  cases d <;> simp[kdOf] at hkd
  simp only[elOf,Option.some.injEq] at hdel;subst hdel;exact hd
 have har:∀ m,Nat.beq ti.kd 4=true→ti.sub=[m]→P.underlying t=some (.array m e):=fun m hk hm=>by
  rw[Nat.eq_of_beq_eq_true hk] at hkd
  have hsb:=h.sub
  rw[hd,hm] at hsb
  cases d <;> simp[kdOf] at hkd
  simp only[elOf,Option.some.injEq] at hdel;subst hdel
  simp only[Option.map_some,subOf,Option.some.injEq,List.cons.injEq,and_true] at hsb;subst hsb
  exact hd
 have runA:∀ (len:Nat) (hu:P.underlying t=some (.array len e)) (w:World) (b o:Nat) (k:IntKind) (m:Int),0≤m→m<(len:Int)→(Instr.indexAt t (.pointer (some ⟨b,o,none⟩)) (.int k m)).run P w=.ok (.pointer (some ⟨b,o+m.toNat * te.size,none⟩)) w:=by
  intro len hu w b o k m h0 h1
  simp only[Instr.indexAt,asIntOf,Sem.run_bind,Sem.run_pure,Result.andThen_ok,run_underlying hu,Instr.sureAddr,h0,h1,and_self,if_true,he.size,addr_add]
 have run:∀ (hk:Nat.beq ti.kd 3=true) (w:World) (b o len c:Nat) (k:IntKind) (m:Int),0≤m→m<(len:Int)→(Instr.indexAt t (.slice (some ⟨b,o,none⟩) len c) (.int k m)).run P w=.ok (.pointer (some ⟨b,o+m.toNat * te.size,none⟩)) w:=by
  intro hk w b o len c k m h0 h1
  simp only[Instr.indexAt,asIntOf,Sem.run_bind,Sem.run_pure,Result.andThen_ok,run_underlying (hsl hk),h0,h1,and_self,if_true,he.size,addr_add]
 unfold rIndexAddr at hr
 split at hr
 ·rename_i k m
  split at hr
  ·rename_i z l
   obtain ⟨hk,hr2⟩:=onB_ok hr
   obtain ⟨hz,hr3⟩:=onB_ok hr2
   obtain ⟨h0,r,hr4,hK⟩:=hr3
   have hz:=Nat.eq_of_beq_eq_true hz
   have hlt:m.toNat<l.length:=(List.getElem?_eq_some_iff.1 hr4).1
   refine ⟨_,hK,fun M0 adr L' n w x y hL hw hx hy=>?_⟩
   obtain rfl:=DenD.v_inv hy
   cases hx with
   | lst0=>simp at hr4
   | lst _ _ b o cp cs hb hM hl hc hlz hcell hden =>
    refine ⟨_,run hk w b o l.length cp k m h0 (by omega),?_⟩
    refine DenD.imm r b (o+m.toNat * te.size) (fun j=>cs m.toNat j) hb hM (fun j d hj=>?_) (fun j d hj=>?_)
    ·have:=hcell m.toNat j d (by simp[get2,hr4,hj])
     rw[hz] at this;exact this
    ·exact hden m.toNat j d (by simp[get2,hr4,hj])
  ·rename_i z kk
   obtain ⟨hk,hr2⟩:=onB_ok hr
   obtain ⟨hz,hr3⟩:=onB_ok hr2
   have hz:=Nat.eq_of_beq_eq_true hz
   split at hr3
   ·rename_i z' l e' hlk
    obtain ⟨⟨h0,h1⟩,hK⟩:=hr3
    refine ⟨_,hK,fun M0 adr L' n w x y hL hw hx hy=>?_⟩
    obtain rfl:=DenD.v_inv hy
    have hloc:=hw.loc kk _ (hL kk _ hlk)
    rcases hx with ⟨h5,rfl⟩|⟨b,q,cp,cur,ee,f,h5,h6,h7,h8,h9,rfl⟩
    ·rw[h5] at hloc
     obtain ⟨_,h6,_⟩:=hloc
     subst h6;simp at h1;omega
    ·rw[h5] at hloc
     have hq:l.length=q:=hloc.2.1
     refine ⟨_,run hk w b 0 q cp k m h0 (by omega),b,q,h5,?_⟩
     rw[hz];simp
   ·exact hr3.elim
  ·rename_i z kk a mm
   obtain ⟨hk,hr2⟩:=onB_ok hr
   obtain ⟨hz,hr3⟩:=onB_ok hr2
   have hz:=Nat.eq_of_beq_eq_true hz
   obtain ⟨⟨h0,h1⟩,hK⟩:=hr3
   refine ⟨_,hK,fun M0 adr L' n w x y hL hw hx hy=>?_⟩
   obtain rfl:=DenD.v_inv hy
   rcases hx with ⟨_,_,h2⟩|⟨_,h2,_⟩|⟨b,q,cp,cur,ee,f,h5,h6,h7,h8,h9,rfl⟩
   ·omega
   ·omega
   ·refine ⟨_,run hk w b (a * z) mm (cp - a) k m h0 h1,b,q,h5,?_⟩
    rw[hz,Nat.add_mul,Nat.add_zero]
  ·rename_i l
   obtain ⟨hk,hr2⟩:=onB_ok hr
   split at hr2
   ·rename_i mm hsub
    obtain ⟨⟨h0,h1⟩,r,hrr,hK⟩:=hr2
    refine ⟨_,hK,fun M0 adr L' n w x y hL hw hx hy=>?_⟩
    obtain rfl:=DenD.v_inv hy
    cases hx with
    | imm _ b o cs hb hM hcell hden =>
     refine ⟨_,runA mm (har mm hk hsub) w b o k m h0 h1,?_⟩
     have hget:∀ (j:Nat) d,r[j]?=some d→l[m.toNat * te.size+j]?=some d:=fun j d hj=>by
      rw[← hrr] at hj
      simp only[cut,List.getElem?_take,List.getElem?_drop] at hj
      split at hj
      ·exact hj
      ·cases hj
     refine DenD.imm r b (o+m.toNat * te.size) (fun j=>cs (m.toNat * te.size+j)) hb hM (fun j d hj=>?_) (fun j d hj=>hden _ d (hget j d hj))
     rw[Nat.add_assoc];exact hcell _ d (hget j d hj)
   ·exact hr2.elim
  ·rename_i kk o
   obtain ⟨hk,hr2⟩:=onB_ok hr
   split at hr2
   ·rename_i mm hsub
    obtain ⟨⟨h0,h1⟩,hK⟩:=hr2
    refine ⟨_,hK,fun M0 adr L' n w x y hL hw hx hy=>?_⟩
    obtain rfl:=DenD.v_inv hy
    obtain ⟨b,q,h5,rfl⟩:=hx
    exact ⟨_,runA mm (har mm hk hsub) w b o k m h0 h1,b,q,h5,rfl⟩
   ·exact hr2.elim
  ·exact hr.elim
 ·exact hr.elim
theorem optInt_ok {adr:Env} {M:Nat→Prop} {w:World} {ev:Operand→Option V} {ρ:Operand→Value} {o:Option Operand} {r:Option Int} (h:optInt ev o=some r) (hx:∀ x,o=some x→∀ s,ev x=some s→DenV adr M w s (ρ x)) :
 (r=none∧o.map ρ=none)∨∃ k m,r=some m∧o.map ρ=some (.int k m):=by
 unfold optInt at h
 split at h
 ·cases h;exact .inl ⟨rfl,rfl⟩
 ·rename_i x
  split at h
  ·rename_i k m hs
   cases h
   have:=DenD.v_inv (hx x rfl _ hs)
   exact .inr ⟨k,m,rfl,by rw[Option.map_some,this]⟩
  ·cases h
theorem run_bounds {w:World} {isSlice:Bool} {len cap:Nat} {lo hi:Option Int} {vlo vhi:Option Value} (h1:(lo=none∧vlo=none)∨∃ k m,lo=some m∧vlo=some (.int k m)) (h2:(hi=none∧vhi=none)∨∃ k m,hi=some m∧vhi=some (.int k m))
 (hlc:len≤cap) (g1:0≤lo.getD 0) (g2:lo.getD 0≤hi.getD len) (g3:hi.getD len≤len):(Instr.sliceBounds isSlice len cap vlo vhi none).run P w=.ok ((lo.getD 0).toNat,(hi.getD len).toNat,cap) w:=by
 rcases h1 with ⟨rfl,rfl⟩|⟨k,m,rfl,rfl⟩ <;> rcases h2 with ⟨rfl,rfl⟩|⟨k',m',rfl,rfl⟩ <;> simp only[Option.getD_none,Option.getD_some] at g1 g2 g3
 ·simp[Instr.sliceBounds]
 ·have e1:(0≤m'∧m'≤(cap:Int))=True:=by simp;omega
  simp[Instr.sliceBounds,Instr.sliceBound,asIntOf,e1]
 ·have e1:(0≤m∧m≤(len:Int))=True:=by simp;omega
  simp[Instr.sliceBounds,Instr.sliceBound,asIntOf,e1]
 ·have e1:(0≤m'∧m'≤(cap:Int))=True:=by simp;omega
  have e2:(0≤m∧m≤max m' 0)=True:=by simp;omega
  simp[Instr.sliceBounds,Instr.sliceBound,asIntOf,e1,e2]
theorem rSlice_ok {t:Nat} {ti:TI} (h:FitsOne P t ti) {te:Option TI} (he:∀ te',te=some te'→∃ e,ti.kd=3∧ti.el=some e∧FitsOne P e te') {c:C} {lo hi:Option Int} {K:V→Prop} (hr:rSlice L ti te c lo hi none K) :
 ∃ s,K s∧∀ (M0:Nat→Prop) (adr:Env) (L':List (Nat×Blk)) (n:Nat) (w:World) (x:Value) (vlo vhi:Option Value),(∀ k B,look L k=some B→look L' k=some B)→WOk M0 adr L' n w→DenC adr (Mut M0 adr L') w c x→
  ((lo=none∧vlo=none)∨∃ k m,lo=some m∧vlo=some (.int k m))→((hi=none∧vhi=none)∨∃ k m,hi=some m∧vhi=some (.int k m))→
  ∃ v,(Instr.sliceAt t x vlo vhi none).run P w=.ok v w∧DenV adr (Mut M0 adr L') w s v:=by
 obtain ⟨d,hd,_,_,_,_,hdel,hkd⟩:=h.desc
 have hsl:∀ te',Nat.beq ti.kd 3=true→te=some te'→∃ e,P.underlying t=some (.slice e)∧FitsOne P e te':=fun te' hk hte'=>by
  obtain ⟨e,h1,h2,h3⟩:=he te' hte'
  rw[h1] at hkd
  rw[h2] at hdel
  cases d <;> simp[kdOf] at hkd
  simp only[elOf,Option.some.injEq] at hdel;subst hdel
  exact ⟨_,hd,h3⟩
 have run:∀ (w:World) (te':TI) (hk:Nat.beq ti.kd 3=true) (hte':te=some te') (a:Option Addr) (len cap:Nat) (vlo vhi:Option Value),((lo=none∧vlo=none)∨∃ k m,lo=some m∧vlo=some (.int k m))→((hi=none∧vhi=none)∨∃ k m,hi=some m∧vhi=some (.int k m))→
  len≤cap→0≤lo.getD 0→lo.getD 0≤hi.getD len→hi.getD len≤len→
  (Instr.sliceAt t (.slice a len cap) vlo vhi none).run P w=.ok (.slice (if cap=(lo.getD 0).toNat then a else a.map (·.add ((lo.getD 0).toNat * te'.size))) ((hi.getD len).toNat - (lo.getD 0).toNat) (cap - (lo.getD 0).toNat)) w:=by
  intro w te' hk hte' a len cap vlo vhi h1 h2 hlc g1 g2 g3
  obtain ⟨e,hu,hfe⟩:=hsl te' hk hte'
  simp only[Instr.sliceAt,Sem.run_bind,run_underlying hu,Result.andThen_ok,Instr.slice,run_bounds h1 h2 hlc g1 g2 g3,hfe.size,Sem.run_pure]
 unfold rSlice at hr
 simp only at hr
 split at hr
 ·rename_i l
  obtain ⟨hk,hr2⟩:=onB_ok hr
  obtain ⟨⟨g1,g2,g3⟩,hK⟩:=hr2
  refine ⟨_,hK,fun M0 adr L' n w x vlo vhi hL hw hx h1 h2=>?_⟩
  obtain rfl:=DenD.str_inv hx
  rw[Nat.eq_of_beq_eq_true hk] at hkd
  have hstr:P.underlying t=some .string:=by cases d <;> simp[kdOf] at hkd;exact hd
  have hsz:(⟨l.toArray⟩:ByteArray).size=l.length:=by simp[ByteArray.size]
  refine ⟨_,?_,.str _⟩
  simp only[Instr.sliceAt,Sem.run_bind,run_underlying hstr,Result.andThen_ok,Instr.slice,Option.isSome_none,Bool.false_eq_true,if_false,hsz,run_bounds h1 h2 (Nat.le_refl _) g1 g2 g3,Sem.run_pure]
  congr 2
  apply ByteArray.ext
  apply Array.ext'
  simp[ByteArray.data_extract,List.extract_eq_take_drop,List.drop_take]
 ·rename_i z l
  obtain ⟨hk,hr2⟩:=onB_ok hr
  split at hr2
  ·rename_i te'
   obtain ⟨hz,⟨g1,g2,g3⟩,hK⟩:=onB_ok hr2
   have hz:=Nat.eq_of_beq_eq_true hz
   refine ⟨_,hK,fun M0 adr L' n w x vlo vhi hL hw hx h1 h2=>?_⟩
   have hlen:((l.take (hi.getD l.length).toNat).drop (lo.getD 0).toNat).length=(hi.getD l.length).toNat - (lo.getD 0).toNat:=by simp;omega
   generalize hlo:(lo.getD 0).toNat=a1 at *
   cases hx with
   | lst0 _ a c hc =>
    have e0:(hi.getD 0).toNat=0:=by simp at g3;omega
    have e1:a1=0:=by simp at g2 g3;omega
    have hr:=run w te' hk rfl a 0 c vlo vhi h1 h2 (by omega) g1 g2 g3
    refine ⟨_,hr,?_⟩
    simp only[List.take_nil,List.drop_nil]
    rw[e1]
    have:(hi.getD ↑(0:Nat)).toNat - 0=0:=by simpa using e0
    rw[this]
    exact DenD.lst0 _ _ _ (by omega)
   | lst _ _ b o cp cs hb hM hl hc hlz hcell hden =>
    have hr:=run w te' hk rfl (some ⟨b,o,none⟩) l.length cp vlo vhi h1 h2 hl g1 g2 g3
    refine ⟨_,hr,?_⟩
    by_cases hcp:cp=a1
    ·have h0:(hi.getD l.length).toNat - a1=0:=by omega
     rw[if_pos hcp,h0]
     have hnil:(l.take (hi.getD l.length).toNat).drop a1=[]:=List.eq_nil_of_length_eq_zero (by rw[hlen];exact h0)
     rw[hnil]
     exact DenD.lst0 _ _ _ (by omega)
    ·rw[if_neg hcp]
     simp only[Option.map_some,addr_add]
     rw[← hlen]
     have hget:∀ i j d,get2 ((l.take (hi.getD l.length).toNat).drop a1) i j=some d→get2 l (a1+i) j=some d:=by
      intro i j d hg
      simp only[get2,Option.bind_eq_some_iff,List.getElem?_drop,List.getElem?_take] at hg ⊢
      obtain ⟨r,hr1,hr2⟩:=hg
      split at hr1
      ·exact ⟨r,hr1,hr2⟩
      ·cases hr1
     refine DenD.lst z _ b (o+a1 * te'.size) (cp - a1) (fun i j=>cs (a1+i) j) hb hM (by rw[hlen];omega) (by omega) (fun e he=>hlz e (List.mem_of_mem_take (List.mem_of_mem_drop he))) (fun i j d hg=>?_) (fun i j d hg=>hden _ _ _ (hget i j d hg))
     have:=hcell (a1+i) j d (hget i j d hg)
     rw[Nat.add_mul] at this
     rw[← hz]
     simpa[Nat.add_assoc] using this
  ·exact hr2.elim
 ·rename_i z k
  obtain ⟨hk,hr2⟩:=onB_ok hr
  split at hr2
  ·rename_i te' z' l e' hlk
   obtain ⟨hz,⟨g1,g2,g3⟩,hK⟩:=onB_ok hr2
   have hz:=Nat.eq_of_beq_eq_true hz
   refine ⟨_,hK,fun M0 adr L' n w x vlo vhi hL hw hx h1 h2=>?_⟩
   have hloc:=hw.loc k _ (hL k _ hlk)
   generalize hlo:(lo.getD 0).toNat=a1 at *
   rcases hx with ⟨h5,rfl⟩|⟨b,q,cp,cur,ee,f,h5,h6,h7,h8,h9,rfl⟩
   ·rw[h5] at hloc
    obtain ⟨_,h6,_⟩:=hloc
    subst h6
    have e0:(hi.getD 0).toNat=0:=by simp at g3;omega
    have e1:a1=0:=by simp at g2 g3;omega
    have hr:=run w te' hk rfl none 0 0 vlo vhi h1 h2 (by omega) g1 g2 g3
    refine ⟨_,hr,.inl ⟨?_,e1,by simpa[e1] using e0⟩⟩
    simp[e1,e0]
   ·rw[h5] at hloc
    have hq:l.length=q:=hloc.2.1
    subst hq
    have hr:=run w te' hk rfl (some ⟨b,0,none⟩) l.length cp vlo vhi h1 h2 h8 g1 g2 g3
    refine ⟨_,hr,?_⟩
    by_cases hcp:cp=a1
    ·have h0:(hi.getD l.length).toNat - a1=0:=by omega
     rw[if_pos hcp]
     rcases Nat.eq_zero_or_pos a1 with e1|e1
     ·refine .inr (.inr ⟨b,_,cp,cur,ee,f,h5,h6,h7,by omega,h9,?_⟩)
      simp[e1]
     ·exact .inr (.inl ⟨by omega,h0,some ⟨b,0,none⟩,cp - a1,by omega,by rw[h0]⟩)
    ·rw[if_neg hcp]
     refine .inr (.inr ⟨b,_,cp,cur,ee,f,h5,h6,h7,by omega,h9,?_⟩)
     simp[addr_add,hz]
  ·exact hr2.elim
 ·exact hr.elim
theorem cellsOf_ok {adr:Env} {M:Nat→Prop} {w:World} {s:V} {l:List C} {x:Value} (h:cellsOf s=some l) (hx:DenV adr M w s x):DenCs adr M w l x.cells.toList:=by
 have one:∀ c:C,DenC adr M w c x→(∀ a,x≠.agg a)→DenCs adr M w [c] x.cells.toList:=fun c hc hn=>by
  have:x.cells=#[x]:=by cases x <;> first|rfl|exact absurd rfl (hn _)
  rw[this];exact ⟨hc,trivial⟩
 unfold cellsOf at h
 split at h
 ·cases h;obtain ⟨xs,rfl,h1⟩:=hx;simpa[Value.cells] using h1
 ·cases h
 ·cases h
 ·cases h
 ·cases h
 ·cases h
 ·rename_i c hn1 hn2 hn3 hn4 hn5
  cases h
  refine one c hx (fun a ha=>?_)
  subst ha
  cases c with
  | d d=>cases hx with
   | v=>exact hn1 _ rfl
   | agg=>exact hn3 _ rfl
  | ptr k o=>obtain ⟨b,m,_,h2⟩:=hx;cases h2
  | elt z k i o=>obtain ⟨b,m,_,h2⟩:=hx;cases h2
  | own z k i n=>rcases hx with ⟨h1,_⟩|⟨_,_,_,_,_,h1⟩|⟨_,_,_,_,_,_,_,_,_,_,_,h1⟩ <;> cases h1
  | all z k=>rcases hx with ⟨_,h1⟩|⟨_,_,_,_,_,_,_,_,_,_,_,h1⟩ <;> cases h1
  | fn f cs=>obtain ⟨xs,h1,_⟩:=hx;cases h1
  | junk=>exact hn5 rfl
 ·cases h
theorem foldl_set (vs:List Value):∀ (off k:Nat) (cs:Array Value),off+k+vs.length≤cs.size→
 ((vs.zipIdx k).foldl (fun cs (p:Value×Nat)=>cs.setIfInBounds (off+p.2) p.1) cs).toList=cs.toList.take (off+k)++vs++cs.toList.drop (off+k+vs.length):=by
 induction vs with
 | nil=>intro off k cs _;simp
 | cons v r ih =>
  intro off k cs h
  simp only[List.length_cons] at h
  simp only[List.zipIdx_cons,List.foldl_cons]
  rw[ih off (k+1) _ (by simp;omega)]
  simp only[Array.toList_setIfInBounds,List.length_cons]
  have e1:(cs.toList.set (off+k) v).take (off+(k+1))=cs.toList.take (off+k)++[v]:=by
   rw[show off+(k+1)=off+k+1 by omega,List.take_add_one,List.take_set_of_le (Nat.le_refl _)]
   simp[show off+k<cs.size by omega]
  have e2:(cs.toList.set (off+k) v).drop (off+(k+1)+r.length)=cs.toList.drop (off+k+(r.length+1)):=by
   rw[List.drop_set_of_lt (by omega)]
   congr 1;omega
  rw[e1,e2];simp
def All2P (adr:Env) (M:Nat→Prop) (w:World) (ps:List (Nat×V)) (qs:List (Nat×Value)):Prop:=All2 (fun p q=>p.1=q.1∧DenV adr M w p.2 q.2) ps qs
theorem fillC_ok {adr:Env} {M:Nat→Prop} {w:World} {flds:List (Nat×Nat)}:∀ {ps:List (Nat×V)} {qs:List (Nat×Value)} {cells out:List C} {xs:List Value},fillC flds cells ps=some out→DenCs adr M w cells xs→All2P adr M w ps qs→
 ∃ ys:List Value,DenCs adr M w out ys∧Instr.fill (fun i=>flds[i]?) xs.toArray qs=some ys.toArray
 | [],[],cells,out,xs,h,hc,_=>by simp only[fillC,Option.some.injEq] at h;subst h;exact ⟨xs,hc,rfl⟩
 | [],_::_,_,_,_,_,_,hp=>hp.elim
 | _::_,[],_,_,_,_,_,hp=>hp.elim
 | (i,s)::r,(i',u)::qs,cells,out,xs,h,hc,hp=>by
  obtain ⟨⟨hi,hu⟩,hp2⟩:=hp
  simp only at hi hu
  subst hi
  simp only[fillC] at h
  split at h
  ·rename_i off sz l hf hl
   rw[nth_eq] at hf
   have hd:=cellsOf_ok hl hu
   cases hb:Nat.beq l.length sz with
   | false=>rw[hb] at h;cases h
   | true =>
    rw[hb] at h
    cases hb2:Nat.ble (off+l.length) cells.length with
    | false=>rw[hb2] at h;cases h
    | true =>
     rw[hb2] at h
     simp only[cond_true] at h
     have e1:=Nat.eq_of_beq_eq_true hb
     have e2:=Nat.le_of_ble_eq_true hb2
     have hl1:=All2.length hd
     have hl2:=All2.length hc
     obtain ⟨ys,h3,h4⟩:=fillC_ok h (All2.over (o:=off) hc hd) hp2
     refine ⟨ys,h3,?_⟩
     have hsz:u.cells.size=l.length:=by rw[← Array.length_toList,hl1]
     have hov:u.cells.zipIdx.foldl (fun cs (x:Value×Nat)=>cs.setIfInBounds (off+x.2) x.1) xs.toArray=(over xs off u.cells.toList).toArray:=by
      apply Array.ext'
      rw[← Array.foldl_toList,Array.toList_zipIdx]
      have:=foldl_set u.cells.toList off 0 xs.toArray (by simp at hl1 hl2 ⊢;omega)
      rw[this]
      simp[over]
     simp only[Instr.fill,hf]
     rw[if_neg (by simp[hsz,e1];omega)]
     rw[hov]
     exact h4
  ·cases h
theorem pvals_ok {adr:Env} {M:Nat→Prop} {w:World} {ev:Operand→Option V} {ρ:Operand→Value}:∀ {ps:List (Nat×Operand)} {l:List (Nat×V)},pvals ev ps=some l→(∀ x ∈ ps.map (·.2),∀ s,ev x=some s→DenV adr M w s (ρ x))→All2P adr M w l (ps.map fun p=>(p.1,ρ p.2))
 | [],l,hl,_=>by simp only[pvals,Option.some.injEq] at hl;subst hl;trivial
 | (i,y)::r,l,hl,hx=>by
  simp only[pvals] at hl
  split at hl
  ·rename_i s l' hs hr
   cases hl
   exact ⟨⟨rfl,hx y (by simp) s hs⟩,pvals_ok hr (fun x hx'=>hx x (by simp only[List.map_cons,List.mem_cons];exact .inr hx'))⟩
  ·cases hl
theorem FitsOne.built {t:Nat} {ti:TI} (h:FitsOne P t ti) (_hel:ti.el=none) (hne:ti.flds≠[]) (ps:List (Nat×Value)):P.built t ps=Instr.fill (fun i=>ti.flds[i]?) (ti.zero.map undD).toArray ps:=by
 obtain ⟨d,hd,_,hfl,_,_,he,_⟩:=h.desc
 obtain ⟨i,z,hq,_,_,hz,hzc⟩:=h.infoE
 have hzc':z.cells=(ti.zero.map undD).toArray:=by rw[← hzc]
 cases d with
 | struct fs =>
  simp only[fldsOf] at hfl
  simp only[Program.built,hq,hd,hz,hfl,hzc']
  simp
 | _=>simp only[fldsOf,Option.some.injEq] at hfl;exact absurd hfl.symm hne
theorem rBuild_ok {t:Nat} {ti:TI} (h:FitsOne P t ti) {ev:Operand→Option V} {ps:List (Nat×Operand)} {K:V→Prop} (hr:rBuild ti (pvals ev ps) K) :
 ∃ s,K s∧∀ (adr:Env) (M:Nat→Prop) (w:World) (ρ:Operand→Value),(∀ x ∈ ps.map (·.2),∀ s,ev x=some s→DenV adr M w s (ρ x))→∃ v,(Instr.build t (ps.map fun p=>(p.1,ρ p.2)).toArray).run P w=.ok v w∧DenV adr M w s v:=by
 unfold rBuild at hr
 split at hr
 ·rename_i l hp
  split at hr
  ·rename_i f0 fr0 hfl hel
   split at hr
   ·rename_i out hout
    refine ⟨_,hr,fun adr M w ρ hx=>?_⟩
    have hz:DenCs adr M w (ti.zero.map C.d) (ti.zero.map undD):=All2.map_left.2 (h.zeroDen M w)
    obtain ⟨ys,h1,h2⟩:=fillC_ok hout hz (pvals_ok hp hx)
    refine ⟨_,?_,ys,rfl,h1⟩
    exact run_build w t _ _ (by rw[h.built hel (by rw[hfl];simp)];simpa using h2)
   ·exact hr.elim
  ·exact hr.elim
 ·exact hr.elim
theorem rLen_ok {t:Nat} {ti:TI} (h:FitsOne P t ti) {c:C} {K:V→Prop} (hr:rLen L ti c K) :
 ∃ s,K s∧∀ (M0:Nat→Prop) (adr:Env) (L':List (Nat×Blk)) (n:Nat) (w:World) (x:Value) (ty:TypeId),(∀ k B,look L k=some B→look L' k=some B)→WOk M0 adr L' n w→DenC adr (Mut M0 adr L') w c x→
  ∃ v,(Builtin.len_ #[t] ty #[x]).run P w=.ok v w∧DenV adr (Mut M0 adr L') w s v:=by
 obtain ⟨d,hd,_,_,_,_,hdel,hkd⟩:=h.desc
 have hsl:Nat.beq ti.kd 3=true→∃ e,P.underlying t=some (.slice e):=fun hk=>by
  rw[Nat.eq_of_beq_eq_true hk] at hkd
  cases d <;> simp[kdOf] at hkd
  exact ⟨_,hd⟩
 have run:∀ (hk:Nat.beq ti.kd 3=true) (w:World) (ty:TypeId) (a:Option Addr) (m c:Nat),(Builtin.len_ #[t] ty #[.slice a m c]).run P w=.ok (.int .i64 (m:Int)) w:=by
  intro hk w ty a m c
  obtain ⟨e,he⟩:=hsl hk
  simp[Builtin.len_,run_underlying he,goInt]
 unfold rLen at hr
 split at hr
 ·obtain ⟨hk,hr2⟩:=onB_ok hr
  refine ⟨_,hr2,fun M0 adr L' n w x ty hL hw hx=>?_⟩
  obtain rfl:=DenD.str_inv hx
  rw[Nat.eq_of_beq_eq_true hk] at hkd
  have hstr:P.underlying t=some .string:=by cases d <;> simp[kdOf] at hkd;exact hd
  rename_i l
  refine ⟨.int .i64 (l.length:Int),?_,.v _⟩
  have hsz:(⟨l.toArray⟩:ByteArray).size=l.length:=rfl
  simp[Builtin.len_,run_underlying hstr,goInt,hsz]
 ·rename_i z l
  obtain ⟨hk,hr2⟩:=onB_ok hr
  refine ⟨_,hr2,fun M0 adr L' n w x ty hL hw hx=>?_⟩
  cases hx with
  | lst0=>exact ⟨_,run hk _ _ _ _ _,.v _⟩
  | lst=>exact ⟨_,run hk _ _ _ _ _,.v _⟩
 ·obtain ⟨hk,hr2⟩:=onB_ok hr
  refine ⟨_,hr2,fun M0 adr L' n w x ty hL hw hx=>?_⟩
  obtain rfl:=DenD.v_inv hx
  exact ⟨_,run hk _ _ _ _ _,.v _⟩
 ·rename_i z k
  obtain ⟨hk,hr2⟩:=onB_ok hr
  split at hr2
  ·rename_i z' l e hlk
   refine ⟨_,hr2,fun M0 adr L' n w x ty hL hw hx=>?_⟩
   have hloc:=hw.loc k _ (hL k _ hlk)
   rcases hx with ⟨h5,rfl⟩|⟨b,q,cp,cur,ee,f,h5,h6,h7,h8,h9,rfl⟩
   ·rw[h5] at hloc
    obtain ⟨_,h6,_⟩:=hloc
    subst h6
    exact ⟨_,run hk _ _ _ _ _,.v _⟩
   ·rw[h5] at hloc
    have hq:l.length=q:=hloc.2.1
    subst hq
    exact ⟨_,run hk _ _ _ _ _,.v _⟩
  ·exact hr2.elim
 ·rename_i z k i m
  obtain ⟨hk,hr2⟩:=onB_ok hr
  refine ⟨_,hr2,fun M0 adr L' n w x ty hL hw hx=>?_⟩
  rcases hx with ⟨rfl,h1,h2⟩|⟨_,h2,a,c,_,rfl⟩|⟨b,q,cp,cur,ee,f,h5,h6,h7,h8,h9,rfl⟩
  ·subst h2;exact ⟨_,run hk _ _ _ _ _,.v _⟩
  ·subst h2;exact ⟨_,run hk _ _ _ _ _,.v _⟩
  ·exact ⟨_,run hk _ _ _ _ _,.v _⟩
 ·exact hr.elim
theorem rMinMax_ok {mn:Bool} {c d:C} {K:V→Prop} (hr:rMinMax mn c d K):∃ s,K s∧∀ (adr:Env) (M:Nat→Prop) (w:World) (x y:Value) (ts:Array TypeId) (ty:TypeId),DenC adr M w c x→DenC adr M w d y→
 ∃ v,(match mn with|true=>(Builtin.min_ ts ty #[x,y]).run P w|false=>(Builtin.max_ ts ty #[x,y]).run P w)=.ok v w∧DenV adr M w s v:=by
 unfold rMinMax at hr
 split at hr
 ·rename_i k a k' b
  obtain ⟨hk,hr2⟩:=onB_ok hr
  obtain rfl:=ikeq_ok hk
  cases mn with
  | true =>
   refine ⟨_,hr2,fun adr M w x y ts ty hx hy=>?_⟩
   obtain rfl:=DenD.v_inv hx
   obtain rfl:=DenD.v_inv hy
   exact ⟨_,by simp[Builtin.min_,Builtin.min2],.v _⟩
  | false =>
   refine ⟨_,hr2,fun adr M w x y ts ty hx hy=>?_⟩
   obtain rfl:=DenD.v_inv hx
   obtain rfl:=DenD.v_inv hy
   exact ⟨_,by simp[Builtin.max_,Builtin.max2],.v _⟩
 ·exact hr.elim
end
def elTI (tt:List (Nat×TI)) (ti:TI):Option TI :=
 match Nat.beq ti.kd 3,ti.el with
 | true,some e=>look tt e
 | _,_=>none
theorem elTI_ok {P:Program} {tt:List (Nat×TI)} (hT:Fits P tt) {ti te:TI} (h:elTI tt ti=some te):∃ e,ti.kd=3∧ti.el=some e∧FitsOne P e te:=by
 unfold elTI at h
 split at h
 ·rename_i e h1 h2
  exact ⟨e,Nat.eq_of_beq_eq_true h1,h2,hT e te h⟩
 ·cases h
def pOp (tt:List (Nat×TI)) (ev:Operand→Option V) (L:List (Nat×Blk)) (op:Op) (K:V→Prop):Prop :=
 match op with
 | .move x=>onS (ev x) K
 | .assign x=>onS (ev x) K
 | .pick c a b=>onC (ev c) fun cc=>onBool cc fun t=>onS (ev (match t with|true=>a|false=>b)) K
 | .fieldAddr t x f=>onC (ev x) fun c=>onT tt t fun ti=>rField ti f c K
 | .load t x=>onC (ev x) fun c=>onT tt t fun ti=>rLoad L ti c K
 | .extract x i=>onS (ev x) fun s=>rExtract s i K
 | .unOp o _ x=>onC (ev x) fun c=>rUn o c K
 | .binOp o t x y _=>onS (ev x) fun u=>onS (ev y) fun v=>rBin tt o t x y u v K
 | .convert s d x=>onC (ev x) fun c=>onT tt s fun ts=>onT tt d fun td=>rConv L ts td (elTI tt ts) c K
 | .makeInterface t x=>onS (ev x) fun s=>onT tt t fun ti=>rIface ti t s K
 | .typeAssert x _ t ok=>onC (ev x) fun c=>onT tt t fun ti=>rAssert ti t ok c K
 | .makeFunc fn first caps=>match fn,first with
  | .func f,⟨[]⟩=>(match capsOf ev caps.toList with
   | some l=>K (.c (.fn f l))
   | none=>False)
  | _,_=>False
 | .nilCheck x=>onC (ev x) fun c=>rNil c K
 | .index t x i=>onS (ev x) fun s=>onC (ev i) fun d=>onT tt t fun ti=>match s with
  | .agg l=>(match ti.el with
   | some e=>onT tt e fun te=>rIndexA ti te l d K
   | none=>False)
  | .c c=>rIndex ti c d K
  | _=>False
 | .indexAddr t x i=>onC (ev x) fun c=>onC (ev i) fun d=>onT tt t fun ti=>match ti.el with
  | some e=>onT tt e fun te=>rIndexAddr L ti te c d K
  | none=>False
 | .slice t x lo hi mx=>onC (ev x) fun c=>onT tt t fun ti=>match optInt ev lo,optInt ev hi,mx with
  | some l,some h,none=>rSlice L ti (elTI tt ti) c l h none K
  | _,_,_=>False
 | .build t ps=>onT tt t fun ti=>rBuild ti (pvals ev ps.toList) K
 | .call c=>match c.callee,c.args,c.argTypes with
  | .builtin .len,⟨[x]⟩,⟨[t]⟩=>onC (ev x) fun cc=>onT tt t fun ti=>rLen L ti cc K
  | .builtin .min,⟨[x,y]⟩,_=>onC (ev x) fun cx=>onC (ev y) fun cy=>rMinMax true cx cy K
  | .builtin .max,⟨[x,y]⟩,_=>onC (ev x) fun cx=>onC (ev y) fun cy=>rMinMax false cx cy K
  | _,_,_=>False
 | _=>False
theorem pOp_ok {P:Program} {gl:List (Nat×List D)} {tt:List (Nat×TI)} (hT:Fits P tt) {ev:Operand→Option V} {L:List (Nat×Blk)} {o:Oper} {K:V→Prop} (h:pOp tt ev L o.op K):∃ s,K s∧Gives P gl ev L o s:=by
 obtain ⟨dst,op,ty,pos,after,guard⟩:=o
 cases op with
 | move x =>
  obtain ⟨s,hs,hK⟩:=onS_ok h
  exact ⟨s,hK,fun M0 adr L' n w ρ hL hw hg hx=>⟨_,rfl,hx x (by simp[Op.operands]) s hs⟩⟩
 | assign x =>
  obtain ⟨s,hs,hK⟩:=onS_ok h
  exact ⟨s,hK,fun M0 adr L' n w ρ hL hw hg hx=>⟨_,rfl,hx x (by simp[Op.operands]) s hs⟩⟩
 | pick c y z =>
  obtain ⟨cc,hc,h1⟩:=onC_ok h
  obtain ⟨b,h2,h3⟩:=onBool_ok h1
  obtain ⟨s,hs,hK⟩:=onS_ok h2
  refine ⟨s,hK,fun M0 adr L' n w ρ hL hw hg hx=>?_⟩
  have hcv:=h3 _ _ _ _ (hx c (by simp[Op.operands]) _ hc)
  refine ⟨if b then ρ y else ρ z,by simp[execOp,hcv,asBool],?_⟩
  cases b
  ·exact hx z (by simp[Op.operands]) s hs
  ·exact hx y (by simp[Op.operands]) s hs
 | fieldAddr t x f =>
  obtain ⟨c,hc,h1⟩:=onC_ok h
  obtain ⟨ti,hl,h2⟩:=onT_ok h1
  obtain ⟨s,hK,hr⟩:=rField_ok (hT t ti hl) h2
  refine ⟨s,hK,fun M0 adr L' n w ρ hL hw hg hx=>?_⟩
  obtain ⟨v,h3,h4⟩:=hr adr _ w _ (hx x (by simp[Op.operands]) _ hc)
  exact ⟨v,by simp only[execOp,Sem.run_bind,h3,Result.andThen_ok,Sem.run_pure],h4⟩
 | load t x =>
  obtain ⟨c,hc,h1⟩:=onC_ok h
  obtain ⟨ti,hl,h2⟩:=onT_ok h1
  obtain ⟨s,hK,hr⟩:=rLoad_ok (hT t ti hl) h2
  refine ⟨s,hK,fun M0 adr L' n w ρ hL hw hg hx=>?_⟩
  obtain ⟨v,h3,h4⟩:=hr M0 adr L' n w _ hL hw (hx x (by simp[Op.operands]) _ hc)
  exact ⟨v,by simp only[execOp,Sem.run_bind,h3,Result.andThen_ok,Sem.run_pure],h4⟩
 | extract x i =>
  obtain ⟨c,hc,h1⟩:=onS_ok h
  obtain ⟨s,hK,hr⟩:=rExtract_ok (P:=P) h1
  refine ⟨s,hK,fun M0 adr L' n w ρ hL hw hg hx=>?_⟩
  obtain ⟨v,h3,h4⟩:=hr adr _ w _ (hx x (by simp[Op.operands]) _ hc)
  exact ⟨v,by simp only[execOp,Sem.run_bind,h3,Result.andThen_ok,Sem.run_pure],h4⟩
 | unOp op t x =>
  obtain ⟨c,hc,h1⟩:=onC_ok h
  obtain ⟨s,hK,hr⟩:=rUn_ok (P:=P) h1
  refine ⟨s,hK,fun M0 adr L' n w ρ hL hw hg hx=>?_⟩
  obtain ⟨v,h3,h4⟩:=hr adr _ w _ (hx x (by simp[Op.operands]) _ hc)
  exact ⟨v,by simp only[execOp,Sem.run_bind,h3,Result.andThen_ok,Sem.run_pure],h4⟩
 | binOp op t x y yt =>
  obtain ⟨u,hu,h1⟩:=onS_ok h
  obtain ⟨v,hv,h2⟩:=onS_ok h1
  obtain ⟨s,hK,hr⟩:=rBin_ok hT h2
  refine ⟨s,hK,fun M0 adr L' n w ρ hL hw hg hx=>?_⟩
  obtain ⟨r,h3,h4,h5⟩:=hr adr _ w _ _ (hx x (by simp[Op.operands]) _ hu) (hx y (by simp[Op.operands]) _ hv)
  exact ⟨r,by simp only[execOp,Sem.run_bind,h3,h4,Result.andThen_ok,Sem.run_pure],h5⟩
 | convert src dst x =>
  obtain ⟨c,hc,h1⟩:=onC_ok h
  obtain ⟨ts,hl,h2⟩:=onT_ok h1
  obtain ⟨td,hl2,h3⟩:=onT_ok h2
  obtain ⟨s,hK,hr⟩:=rConv_ok (hT src ts hl) (hT dst td hl2) (fun te hte=>elTI_ok hT hte) h3
  refine ⟨s,hK,fun M0 adr L' n w ρ hL hw hg hx=>?_⟩
  obtain ⟨v,h4,h5⟩:=hr M0 adr L' n w _ hL hw (hx x (by simp[Op.operands]) _ hc)
  exact ⟨v,by simp only[execOp,Sem.run_bind,h4,Result.andThen_ok,Sem.run_pure],h5⟩
 | makeInterface t x =>
  obtain ⟨u,hu,h1⟩:=onS_ok h
  obtain ⟨ti,hl,h2⟩:=onT_ok h1
  obtain ⟨s,hK,hr⟩:=rIface_ok (hT t ti hl) h2
  refine ⟨s,hK,fun M0 adr L' n w ρ hL hw hg hx=>?_⟩
  obtain ⟨v,h3,h4⟩:=hr adr _ w _ (hx x (by simp[Op.operands]) _ hu)
  exact ⟨v,by simp only[execOp,Sem.run_bind,h3,Result.andThen_ok,Sem.run_pure],h4⟩
 | typeAssert x xt t ok =>
  obtain ⟨c,hc,h1⟩:=onC_ok h
  obtain ⟨ti,hl,h2⟩:=onT_ok h1
  obtain ⟨s,hK,hr⟩:=rAssert_ok (hT t ti hl) h2
  refine ⟨s,hK,fun M0 adr L' n w ρ hL hw hg hx=>?_⟩
  obtain ⟨v,h3,h4⟩:=hr adr _ w _ xt (hx x (by simp[Op.operands]) _ hc)
  exact ⟨v,by simp only[execOp,Sem.run_bind,h3,Result.andThen_ok,Sem.run_pure],h4⟩
 | makeFunc fn first caps =>
  simp only[pOp] at h
  split at h
  ·rename_i f
   split at h
   ·rename_i l hl
    refine ⟨_,h,fun M0 adr L' n w ρ hL hw hg hx=>⟨.func (.func f) #[] (caps.map ρ),by simp[execOp,Instr.makeFunc],(caps.map ρ).toList,by rw[Array.toArray_toList],?_⟩⟩
    have:=capsOf_ok hl (fun y hy=>hx y (by simp[Op.operands] at hy ⊢;exact hy))
    simpa using this
   ·exact h.elim
  ·exact h.elim
 | nilCheck x =>
  obtain ⟨c,hc,h1⟩:=onC_ok h
  unfold rNil at h1
  split at h1
  ·refine ⟨_,h1,fun M0 adr L' n w ρ hL hw hg hx=>?_⟩
   have hd:=hx x (by simp[Op.operands]) _ hc
   obtain ⟨b,m,e1,e2⟩:=hd
   exact ⟨_,by simp[execOp,e2],b,m,e1,rfl⟩
  ·refine ⟨_,h1,fun M0 adr L' n w ρ hL hw hg hx=>?_⟩
   have hd:=hx x (by simp[Op.operands]) _ hc
   obtain ⟨b,m,e1,e2⟩:=hd
   exact ⟨_,by simp[execOp,e2],b,m,e1,rfl⟩
  ·refine ⟨_,h1,fun M0 adr L' n w ρ hL hw hg hx=>?_⟩
   have hd:DenD _ w _ _:=hx x (by simp[Op.operands]) _ hc
   refine ⟨ρ x,?_,hd⟩
   cases hq:ρ x <;> rw[hq] at hd <;> cases hd
   simp[execOp,hq]
  ·refine ⟨_,h1,fun M0 adr L' n w ρ hL hw hg hx=>?_⟩
   have hd:=hx x (by simp[Op.operands]) _ hc
   obtain ⟨xs,e1,e2⟩:=hd
   exact ⟨_,by simp[execOp,e1],xs,rfl,e2⟩
  ·refine ⟨_,h1,fun M0 adr L' n w ρ hL hw hg hx=>?_⟩
   have hd:=hx x (by simp[Op.operands]) _ hc
   have e1:=DenD.v_inv hd
   exact ⟨_,by simp[execOp,e1],DenD.v _⟩
  ·refine ⟨_,h1,fun M0 adr L' n w ρ hL hw hg hx=>?_⟩
   have hd:DenD _ w _ _:=hx x (by simp[Op.operands]) _ hc
   refine ⟨ρ x,?_,hd⟩
   cases hq:ρ x <;> rw[hq] at hd <;> cases hd
   all_goals simp[execOp,hq]
  ·exact h1.elim
 | index t x i =>
  obtain ⟨s,hs,h1⟩:=onS_ok h
  obtain ⟨d,hd,h2⟩:=onC_ok h1
  obtain ⟨ti,hl,h3⟩:=onT_ok h2
  clear h h1 h2
  split at h3
  ·rename_i l
   split at h3
   ·rename_i e he
    obtain ⟨te,hle,h4⟩:=onT_ok h3
    obtain ⟨s,hK,hr⟩:=rIndexA_ok (hT t ti hl) he (hT e te hle) h4
    refine ⟨s,hK,fun M0 adr L' n w ρ hL hw hg hx=>?_⟩
    obtain ⟨v,h4,h5⟩:=hr adr _ w _ _ (hx x (by simp[Op.operands]) _ hs) (hx i (by simp[Op.operands]) _ hd)
    exact ⟨v,by simp only[execOp,Sem.run_bind,h4,Result.andThen_ok,Sem.run_pure],h5⟩
   ·exact h3.elim
  ·obtain ⟨s,hK,hr⟩:=rIndex_ok (hT t ti hl) h3
   refine ⟨s,hK,fun M0 adr L' n w ρ hL hw hg hx=>?_⟩
   obtain ⟨v,h4,h5⟩:=hr adr _ w _ _ (hx x (by simp[Op.operands]) _ hs) (hx i (by simp[Op.operands]) _ hd)
   exact ⟨v,by simp only[execOp,Sem.run_bind,h4,Result.andThen_ok,Sem.run_pure],h5⟩
  ·exact h3.elim
 | indexAddr t x i =>
  obtain ⟨c,hc,h1⟩:=onC_ok h
  obtain ⟨d,hd,h2⟩:=onC_ok h1
  obtain ⟨ti,hl,h3⟩:=onT_ok h2
  split at h3
  ·rename_i e he
   obtain ⟨te,hle,h4⟩:=onT_ok h3
   obtain ⟨s,hK,hr⟩:=rIndexAddr_ok (hT t ti hl) he (hT e te hle) h4
   refine ⟨s,hK,fun M0 adr L' n w ρ hL hw hg hx=>?_⟩
   obtain ⟨v,h5,h6⟩:=hr M0 adr L' n w _ _ hL hw (hx x (by simp[Op.operands]) _ hc) (hx i (by simp[Op.operands]) _ hd)
   exact ⟨v,by simp only[execOp,Sem.run_bind,h5,Result.andThen_ok,Sem.run_pure],h6⟩
  ·exact h3.elim
 | slice t x lo hi mx =>
  obtain ⟨c,hc,h1⟩:=onC_ok h
  obtain ⟨ti,hl,h2⟩:=onT_ok h1
  split at h2
  ·rename_i l hh h3 h4
   obtain ⟨s,hK,hr⟩:=rSlice_ok (hT t ti hl) (fun te hte=>elTI_ok hT hte) h2
   refine ⟨s,hK,fun M0 adr L' n w ρ hL hw hg hx=>?_⟩
   obtain ⟨v,h5,h6⟩:=hr M0 adr L' n w _ (lo.map ρ) (hi.map ρ) hL hw (hx x (by simp[Op.operands]) _ hc)
    (optInt_ok h3 (fun y hy s hs=>hx y (by subst hy;simp[Op.operands]) s hs)) (optInt_ok h4 (fun y hy s hs=>hx y (by subst hy;simp[Op.operands]) s hs))
   exact ⟨v,by simp only[execOp,Option.map_none,Sem.run_bind,h5,Result.andThen_ok,Sem.run_pure],h6⟩
  ·exact h2.elim
 | build t ps =>
  obtain ⟨ti,hl,h1⟩:=onT_ok h
  obtain ⟨s,hK,hr⟩:=rBuild_ok (hT t ti hl) h1
  refine ⟨s,hK,fun M0 adr L' n w ρ hL hw hg hx=>?_⟩
  obtain ⟨v,h3,h4⟩:=hr adr (Mut M0 adr L') w ρ (fun x hx' s hs=>hx x (by simpa[Op.operands] using hx') s hs)
  have e:(ps.map fun (i,x)=>(i,ρ x))=(ps.toList.map fun p=>(p.1,ρ p.2)).toArray:=by apply Array.ext';simp
  exact ⟨v,by simp only[execOp,e,Sem.run_bind,h3,Result.andThen_ok,Sem.run_pure],h4⟩
 | call c =>
  obtain ⟨callee,args,ats⟩:=c
  simp only[pOp] at h
  split at h
  ·rename_i x t
   obtain ⟨c,hc,h1⟩:=onC_ok h
   obtain ⟨ti,hl,h2⟩:=onT_ok h1
   obtain ⟨s,hK,hr⟩:=rLen_ok (hT t ti hl) h2
   refine ⟨s,hK,fun M0 adr L' n w ρ hL hw hg hx=>?_⟩
   obtain ⟨v,h3,h4⟩:=hr M0 adr L' n w _ ty hL hw (hx x (by simp[Op.operands,Call.operands]) _ hc)
   have h3':(Builtin.len_ { toList:=[t] } ty #[ρ x]).run P w=.ok v w:=h3
   refine ⟨v,?_,h4⟩
   simp[execOp,resolve,invoke,builtin,h3']
  ·rename_i x y
   obtain ⟨cx,hcx,h1⟩:=onC_ok h
   obtain ⟨cy,hcy,h2⟩:=onC_ok h1
   obtain ⟨s,hK,hr⟩:=rMinMax_ok (P:=P) h2
   refine ⟨s,hK,fun M0 adr L' n w ρ hL hw hg hx=>?_⟩
   obtain ⟨v,h3,h4⟩:=hr adr _ w _ _ ats ty (hx x (by simp[Op.operands,Call.operands]) _ hcx) (hx y (by simp[Op.operands,Call.operands]) _ hcy)
   refine ⟨v,?_,h4⟩
   simp only at h3
   simp[execOp,resolve,invoke,builtin,h3]
  ·rename_i x y
   obtain ⟨cx,hcx,h1⟩:=onC_ok h
   obtain ⟨cy,hcy,h2⟩:=onC_ok h1
   obtain ⟨s,hK,hr⟩:=rMinMax_ok (P:=P) h2
   refine ⟨s,hK,fun M0 adr L' n w ρ hL hw hg hx=>?_⟩
   obtain ⟨v,h3,h4⟩:=hr adr _ w _ _ ats ty (hx x (by simp[Op.operands,Call.operands]) _ hcx) (hx y (by simp[Op.operands,Call.operands]) _ hcy)
   refine ⟨v,?_,h4⟩
   simp only at h3
   simp[execOp,resolve,invoke,builtin,h3]
  ·exact h.elim
 | _=>exact h.elim
end Go.EYtdpigpahfiachaaGreatDoor
end
