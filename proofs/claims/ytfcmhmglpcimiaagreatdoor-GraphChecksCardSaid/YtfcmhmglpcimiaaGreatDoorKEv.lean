/- Proved: a part of what the law is proved with (the reckoner, contracts of functions, plain laws). Conditions: as each says. -/
import Derived.Test.YtfcmhmglpcimiaaGreatDoorKEd
namespace Go.EYtfcmhmglpcimiaaGreatDoor
open Go Go.RowKit
section
def dOf:Value→D
 | .string s=>.str s.data.toList
 | v=>.v v
theorem dOf_den {M:Nat→Prop} {w:World} (x:Value):DenD M w (dOf x) x:=by
 cases x <;> first|exact .v _|exact .str _
def vOf:Value→V
 | .agg a=>.agg (a.toList.map fun x=>.d (dOf x))
 | v=>.c (.d (dOf v))
def sval (gl:List (Nat×List D)) (fr:List (Nat×V)):Operand→Option V
 | .tmp t=>look fr t
 | .const v=>some (vOf v)
 | .global g=>match look gl g with
  | some l=>some (.c (.d (.imm l)))
  | none=>none
 | .func f=>some (.c (.fn f []))
section
variable {adr:Env} {M:Nat→Prop} {w:World}
theorem map_den {l:List Value}:DenCs adr M w (l.map fun x=>C.d (dOf x)) l:=by
 induction l with
 | nil=>trivial
 | cons x l ih=>exact ⟨dOf_den x,ih⟩
theorem vOf_den (x:Value):DenV adr M w (vOf x) x:=by
 cases x <;> first|exact dOf_den _|skip
 case agg a=>exact ⟨a.toList,by simp,map_den⟩
theorem sval_ok {gl:List (Nat×List D)} {fr:List (Nat×V)} {a:Act} (hf:FrOk adr M w fr a) (hg:Glob gl M w) {x:Operand} {s:V} (hs:sval gl fr x=some s):DenV adr M w s (a.eval x):=by
 cases x with
 | tmp t=>exact hf t s hs
 | const v=>simp only[sval,Option.some.injEq] at hs;subst hs;exact vOf_den v
 | global g =>
  simp only[sval] at hs
  split at hs
  ·rename_i l hl
   cases hs
   obtain ⟨h1,xs,h2,h3,h4⟩:=hg g l hl
   refine DenD.imm l g 0 (fun j=>xs.getD j undef) h3 h1 (fun j d hj=>?_) (fun j d hj=>?_)
   ·obtain ⟨x,hx,_⟩:=All2.get h4 hj
    rw[Nat.zero_add]
    rw[globCell h2 j x hx];simp[List.getD,hx]
   ·obtain ⟨x,hx,hd⟩:=All2.get h4 hj
    simpa[List.getD,hx] using hd
  ·cases hs
 | func f=>simp only[sval,Option.some.injEq] at hs;subst hs;exact ⟨[],rfl,trivial⟩
end
def Gives (P:Program) (gl:List (Nat×List D)) (ev:Operand→Option V) (L:List (Nat×Blk)) (o:Oper) (s:V):Prop :=
 ∀ (M0:Nat→Prop) (adr:Env) (L':List (Nat×Blk)) (n:Nat) (w:World) (ρ:Operand→Value),(∀ k B,look L k=some B→look L' k=some B)→WOk M0 adr L' n w→Glob gl (Mut M0 adr L') w→
  (∀ x ∈ o.op.operands.toList,∀ s,ev x=some s→DenV adr (Mut M0 adr L') w s (ρ x))→∃ v,(execOp ρ o).run P w=.ok (.value v) w∧DenV adr (Mut M0 adr L') w s v
def nth {α:Type}:List α→Nat→Option α
 | [],_=>none
 | a::_,0=>some a
 | _::l,n+1=>nth l n
theorem nth_eq {α:Type}:∀ {l:List α} {n:Nat},nth l n=l[n]?
 | [],n=>by simp[nth]
 | a::l,0=>by simp[nth]
 | a::l,n+1=>by simp[nth,nth_eq]
def cut {α:Type} (l:List α) (o n:Nat):List α:=(l.drop o).take n
def ofCut (agg:Bool) (l:List C) (n:Nat) (K:V→Prop):Prop :=
 match Nat.beq l.length n with
 | true=>match agg with
  | true=>K (.agg l)
  | false=>match l with
   | [c]=>K (.c c)
   | _=>False
 | false=>False
structure Fork (p A B:Prop):Prop where
 t:p→A
 f:¬ p→B
theorem Fork.yes {p A B:Prop} (h:p) (a:A):Fork p A B:=⟨fun _=>a,fun hn=>absurd h hn⟩
theorem Fork.no {p A B:Prop} (h:¬ p) (b:B):Fork p A B:=⟨fun hp=>absurd hp h,fun _=>b⟩
theorem Fork.nono {p A B:Prop} (h:p) (b:B):Fork (¬ p) A B:=⟨fun hp=>absurd h hp,fun _=>b⟩
theorem Fork.neg {p A B:Prop} (a:¬ p→A) (b:p→B):Fork (¬ p) A B:=⟨a,fun h=>b (Classical.byContradiction h)⟩
def onBool (c:C) (K:Bool→Prop):Prop :=
 match c with
 | .d (.v (.bool true))=>K true
 | .d (.v (.bool false))=>K false
 | .d (.b p _)=>Fork p (K true) (K false)
 | _=>False
theorem onBool_ok {c:C} {K:Bool→Prop} (h:onBool c K):∃ b,K b∧∀ adr M w x,DenC adr M w c x→x=.bool b:=by
 unfold onBool at h
 split at h
 ·exact ⟨true,h,fun _ _ _ _ hd=>DenD.v_inv hd⟩
 ·exact ⟨false,h,fun _ _ _ _ hd=>DenD.v_inv hd⟩
 ·rename_i p i
  by_cases hp:p
  ·exact ⟨true,h.1 hp,fun _ _ _ _ hd=>by rw[DenD.b_inv hd,decide_eq_true hp]⟩
  ·exact ⟨false,h.2 hp,fun _ _ _ _ hd=>by rw[DenD.b_inv hd,decide_eq_false hp]⟩
 ·exact h.elim
structure PD where
 p:Prop
 i:Decidable p
def pdOf:C→Option PD
 | .d (.v (.bool true))=>some ⟨True,inferInstance⟩
 | .d (.v (.bool false))=>some ⟨False,inferInstance⟩
 | .d (.b p i)=>some ⟨p,i⟩
 | _=>none
theorem pdOf_ok {c:C} {d:PD} (h:pdOf c=some d) {adr:Env} {M:Nat→Prop} {w:World} {x:Value} (hx:DenC adr M w c x):x=.bool (@decide d.p d.i):=by
 unfold pdOf at h
 split at h <;> simp only[Option.some.injEq,reduceCtorEq] at h <;> subst h
 ·rw[DenD.v_inv hx];rfl
 ·rw[DenD.v_inv hx];rfl
 ·exact DenD.b_inv hx
abbrev iC (k:IntKind) (n:Int):C:=.d (.v (.int k n))
abbrev bC (p:Prop) [i:Decidable p]:C:=.d (.b p i)
def ikeq (a b:IntKind):Bool:=match a,b with
 | .i8,.i8|.i16,.i16|.i32,.i32|.i64,.i64|.u8,.u8|.u16,.u16|.u32,.u32|.u64,.u64=>true
 | _,_=>false
theorem ikeq_ok {a b:IntKind} (h:ikeq a b=true):a=b:=by cases a <;> cases b <;> first|rfl|cases h
def onB (b:Bool) (p:Prop):Prop:=match b with|true=>p|false=>False
theorem onB_ok {b:Bool} {p:Prop} (h:onB b p):b=true∧p:=by cases b <;> first|exact h.elim|exact ⟨rfl,h⟩
def intBin (op:BinOp) (k:IntKind) (a b:Int) (K:C→Prop):Prop :=
 match op with
 | .add=>K (iC k (k.wrap (a+b)))
 | .sub=>K (iC k (k.wrap (a - b)))
 | .mul=>K (iC k (k.wrap (a * b)))
 | .quo=>¬ b=0∧K (iC k (k.wrap (a.tdiv b)))
 | .rem=>¬ b=0∧K (iC k (a.tmod b))
 | .and=>K (iC k (k.wrap (BitVec.ofInt k.bits a &&& BitVec.ofInt k.bits b).toNat))
 | .or=>K (iC k (k.wrap (BitVec.ofInt k.bits a ||| BitVec.ofInt k.bits b).toNat))
 | .xor=>K (iC k (k.wrap (BitVec.ofInt k.bits a ^^^ BitVec.ofInt k.bits b).toNat))
 | .andNot=>K (iC k (k.wrap (BitVec.ofInt k.bits a &&& ~~~ BitVec.ofInt k.bits b).toNat))
 | .eql=>K (bC (a=b))
 | .neq=>K (bC (¬ a=b))
 | .lss=>K (bC (a<b))
 | .leq=>K (bC (a≤b))
 | .gtr=>K (bC (b<a))
 | .geq=>K (bC (b≤a))
 | _=>False
theorem intBin_ok {P:Program} {op:BinOp} {k:IntKind} {a b:Int} {K:C→Prop} (h:intBin op k a b K):∃ c,K c∧∀ (adr:Env) (M:Nat→Prop) (t:TypeId) (w:World),∃ v,(binOp op t (.int k a) (.int k b)).run P w=.ok v w∧DenC adr M w c v:=by
 cases op <;> simp only[intBin] at h <;> first
  | exact h.elim
  | (refine ⟨_,h,fun adr M t w=>⟨_,?_,.v _⟩⟩;simp[binOp,Op.intArith,Op.intBits];done)
  | (refine ⟨_,h.2,fun adr M t w=>⟨_,?_,.v _⟩⟩;simp[binOp,Op.intDiv,h.1];done)
  | (refine ⟨_,h,fun adr M t w=>⟨_,?_,.b _ _⟩⟩;simp[binOp,Op.intCmp];try (rw[Bool.eq_iff_iff];simp))
def shiftBin (op:BinOp) (k:IntKind) (a b:Int) (K:C→Prop):Prop :=
 match op with
 | .shl=>0≤b∧K (iC k (k.wrap (a * 2 ^ min b.toNat k.bits)))
 | .shr=>0≤b∧K (iC k (a.fdiv (2 ^ min b.toNat k.bits)))
 | _=>False
theorem shiftBin_ok {P:Program} {op:BinOp} {k yk:IntKind} {a b:Int} {K:C→Prop} (h:shiftBin op k a b K):∃ c,K c∧∀ (adr:Env) (M:Nat→Prop) (t:TypeId) (w:World),∃ v,(binOp op t (.int k a) (.int yk b)).run P w=.ok v w∧DenC adr M w c v:=by
 cases op <;> simp only[shiftBin] at h <;> first
  | exact h.elim
  | (refine ⟨_,h.2,fun adr M t w=>⟨_,?_,.v _⟩⟩;simp[binOp,Op.shift,show ¬ b<0 by omega];done)
def strBin (op:BinOp) (a b:List UInt8) (K:C→Prop):Prop :=
 match op with
 | .add=>a.length+b.length≤9223372036854775807∧K (.d (.str (a++b)))
 | .eql=>K (bC (a=b))
 | .neq=>K (bC (¬ a=b))
 | .lss=>K (bC (Op.bytesLess a b=true))
 | .leq=>K (bC (Op.bytesLess a b=true∨a=b))
 | .gtr=>K (bC (¬ (Op.bytesLess a b=true∨a=b)))
 | .geq=>K (bC (¬ Op.bytesLess a b=true))
 | _=>False
theorem strBin_ok {P:Program} {op:BinOp} {a b:List UInt8} {K:C→Prop} (h:strBin op a b K):∃ c,K c∧∀ (adr:Env) (M:Nat→Prop) (t:TypeId) (w:World),∃ v,(binOp op t (.string ⟨a.toArray⟩) (.string ⟨b.toArray⟩)).run P w=.ok v w∧DenC adr M w c v:=by
 cases op <;> simp only[strBin] at h <;> first
  | exact h.elim
  | (refine ⟨_,h,fun adr M t w=>⟨_,?_,.b _ _⟩⟩;simp[binOp,Op.stringOp,ByteArray.toList_eq];try (rw[Bool.eq_iff_iff];simp))
  | skip
 refine ⟨_,h.2,fun adr M t w=>⟨.string ⟨(a++b).toArray⟩,?_,.str _⟩⟩
 have h1:¬ (9223372036854775807:Int)<(a.length:Int)+(b.length:Int):=by have:=h.1;omega
 have h2:(⟨a.toArray⟩++⟨b.toArray⟩:ByteArray)=⟨(a++b).toArray⟩:=by
  apply ByteArray.ext
  rw[ByteArray.data_append]
  simp
 have h3:((⟨a.toArray⟩:ByteArray).size:Int)=a.length:=by simp[ByteArray.size]
 have h4:((⟨b.toArray⟩:ByteArray).size:Int)=b.length:=by simp[ByteArray.size]
 have h5:IntKind.i64.max=9223372036854775807:=by decide
 simp only[binOp,Op.stringOp,Int.natCast_add,h3,h4,h5,gt_iff_lt,h1,if_false,Sem.run_pure,h2]
def andPD (a b:PD):PD:=⟨a.p∧b.p,@instDecidableAnd a.p b.p a.i b.i⟩
def leafEq (ti:TI):List C→List C→Option PD
 | [.d (.v (.int k a))],[.d (.v (.int k' b))]=>match ti.ik with
  | some _=>bif ikeq k k' then some ⟨a=b,inferInstance⟩ else none
  | none=>none
 | [.d (.str a)],[.d (.str b)]=>bif Nat.beq ti.kd 2 then some ⟨a=b,inferInstance⟩ else none
 | [c],[d]=>bif Nat.beq ti.kd 1 then (match pdOf c,pdOf d with
  | some p,some q=>some ⟨p.p↔q.p,@instDecidableIff p.p q.p p.i q.i⟩
  | _,_=>none) else none
 | _,_=>none
def eqFs (f:Nat→List C→List C→Option PD) (xs ys:List C):List (Nat×Nat)→List Nat→Option PD
 | (off,sz)::fl,t::ts=>match f t (cut xs off sz) (cut ys off sz),eqFs f xs ys fl ts with
  | some p,some q=>some (andPD p q)
  | _,_=>none
 | [],[]=>some ⟨True,inferInstance⟩
 | _,_=>none
def eqC (tt:List (Nat×TI)):Nat→Nat→List C→List C→Option PD
 | 0,_,_,_=>none
 | n+1,t,xs,ys=>match look tt t with
  | some ti=>match ti.eqok with
   | true=>bif Nat.beq xs.length ti.size && Nat.beq ys.length ti.size then eqFs (eqC tt n) xs ys ti.flds ti.fts else none
   | false=>bif ti.agg then none else bif Nat.beq ti.size 1 then leafEq ti xs ys else none
  | none=>none
theorem bytes_eq (a b:List UInt8):((⟨a.toArray⟩:ByteArray)==⟨b.toArray⟩)=decide (a=b):=by
 rw[Bool.eq_iff_iff,beq_toListBytes,ByteArray.toList_eq,ByteArray.toList_eq,beq_iff_eq]
 simp
section
variable {P:Program} {adr:Env} {M:Nat→Prop}
theorem leafEq_ok {t:Nat} {ti:TI} (h:FitsOne P t ti) {xs ys:List C} {d:PD} (he:leafEq ti xs ys=some d) (n:Nat) (w:World) {us vs:List Value} (hu:DenCs adr M w xs us) (hv:DenCs adr M w ys vs) :
 ∃ x y,us=[x]∧vs=[y]∧(Op.equalIn (n+1) t x y).run P w=.ok (@decide d.p d.i) w:=by
 obtain ⟨dsc,hds,_,_,_,hik,_,hkd⟩:=h.desc
 unfold leafEq at he
 split at he
 ·rename_i k a k' b
  obtain ⟨x,rfl,hx⟩:=All2.one_iff.1 hu
  obtain ⟨y,rfl,hy⟩:=All2.one_iff.1 hv
  obtain rfl:=DenD.v_inv hx
  obtain rfl:=DenD.v_inv hy
  split at he
  ·rename_i k0 hk0
   rw[hk0] at hik
   cases dsc <;> simp only[ikOf,reduceCtorEq,Option.some.injEq] at hik
   cases hk:ikeq k k' with
   | false=>rw[hk] at he;cases he
   | true =>
    obtain rfl:=ikeq_ok hk
    rw[hk] at he
    simp only[cond_true,Option.some.injEq] at he;subst he
    refine ⟨_,_,rfl,rfl,?_⟩
    rw[run_equalIn_int w n t _ _ _ _ hds]
    congr 1
  ·cases he
 ·rename_i a b
  obtain ⟨x,rfl,hx⟩:=All2.one_iff.1 hu
  obtain ⟨y,rfl,hy⟩:=All2.one_iff.1 hv
  obtain rfl:=DenD.str_inv hx
  obtain rfl:=DenD.str_inv hy
  cases hk:Nat.beq ti.kd 2 with
  | false=>rw[hk] at he;cases he
  | true =>
   rw[hk] at he
   simp only[cond_true,Option.some.injEq] at he;subst he
   rw[Nat.eq_of_beq_eq_true hk] at hkd
   cases dsc <;> simp[kdOf] at hkd
   refine ⟨_,_,rfl,rfl,?_⟩
   simp only[Op.equalIn,Sem.run_bind,run_underlying hds,Result.andThen_ok,Sem.run_pure]
   congr 1
   exact bytes_eq a b
 ·rename_i c d' _ _
  obtain ⟨x,rfl,hx⟩:=All2.one_iff.1 hu
  obtain ⟨y,rfl,hy⟩:=All2.one_iff.1 hv
  cases hk:Nat.beq ti.kd 1 with
  | false=>rw[hk] at he;cases he
  | true =>
   rw[hk] at he
   simp only[cond_true] at he
   rw[Nat.eq_of_beq_eq_true hk] at hkd
   cases dsc <;> simp[kdOf] at hkd
   split at he
   ·rename_i p q hp hq
    simp only[Option.some.injEq] at he;subst he
    refine ⟨_,_,rfl,rfl,?_⟩
    rw[pdOf_ok hp hx,pdOf_ok hq hy,run_equalIn_bool w n t _ _ hds]
    congr 1
    obtain ⟨p,i⟩:=p
    obtain ⟨q,j⟩:=q
    by_cases hp:p <;> by_cases hq:q <;> simp[hp,hq]
   ·cases he
 ·cases he
theorem run_part {t:Nat} {ti:TI} (h:FitsOne P t ti) {us:List Value} {off:Nat} (w:World) {u:Value}
 (hu:if ti.agg=true then u=.agg (cut us off ti.size).toArray else cut us off ti.size=[u]) (h1:ti.agg=false→ti.size=1) :
 (part t us.toArray off).run P w=.ok u w:=by
 unfold part
 simp only[Sem.run_bind,h.agg,Result.andThen_ok]
 cases ha:ti.agg with
 | true =>
  rw[ha] at hu
  simp only[if_true] at hu ⊢
  simp only[Sem.run_bind,h.size,Result.andThen_ok,Sem.run_pure]
  rw[hu]
  congr 2
  apply Array.ext'
  simp[cut,List.extract_eq_take_drop]
 | false =>
  rw[ha] at hu
  simp only[Bool.false_eq_true,if_false] at hu ⊢
  rw[h1 ha] at hu
  have:us.toArray[off]?=some u:=by
   simp only[cut] at hu
   have h0:((us.drop off).take 1)[0]?=some u:=by rw[hu];rfl
   rw[List.getElem?_take_of_lt (by omega),List.getElem?_drop] at h0
   simpa using h0
  rw[this]
  rfl
theorem eqFs_ok {tt:List (Nat×TI)} (hT:Fits P tt) (E:Nat) (w:World) (xs ys:List C) {us vs:List Value} (hu:DenCs adr M w xs us) (hv:DenCs adr M w ys vs) (f:Nat→List C→List C→Option PD)
 (hf:∀ t xs ys us vs d,f t xs ys=some d→DenCs adr M w xs us→DenCs adr M w ys vs→∃ ti,look tt t=some ti∧(ti.agg=false→ti.size=1)∧∃ x y,(if ti.agg=true then x=.agg us.toArray else us=[x])∧(if ti.agg=true then y=.agg vs.toArray else vs=[y])∧(Op.equalIn E t x y).run P w=.ok (@decide d.p d.i) w) :
 ∀ (fs:List Field) (fl:List (Nat×Nat)) (ts:List Nat) (d:PD),fs.mapM (fun F=>(P.info? F.type).map fun i=>(F.offset,i.size))=some fl→fs.map (·.type)=ts→(∀ F ∈ fs,F.name≠"_")→eqFs f xs ys fl ts=some d→
  (Op.eqFields E us.toArray vs.toArray fs).run P w=.ok (@decide d.p d.i) w
 | [],fl,ts,d,h1,h2,_,h4=>by
  simp at h1 h2;subst h1;subst h2
  simp only[eqFs,Option.some.injEq] at h4;subst h4
  simp[Op.eqFields]
 | F::fs,fl,ts,d,h1,h2,h3,h4=>by
  simp only[List.mapM_cons,Option.bind_eq_bind,Option.bind_eq_some_iff,Option.pure_def,Option.some.injEq] at h1
  obtain ⟨⟨off,sz⟩,hb,fl',hr,rfl⟩:=h1
  simp only[List.map_cons] at h2
  subst h2
  cases hq:P.info? F.type with
  | none=>simp[hq] at hb
  | some i =>
   simp only[hq,Option.map_some,Option.some.injEq,Prod.mk.injEq] at hb
   obtain ⟨rfl,rfl⟩:=hb
   simp only[eqFs] at h4
   split at h4
   ·rename_i p q hp hq2
    simp only[Option.some.injEq] at h4;subst h4
    obtain ⟨ti,hl,h11,x,y,hx,hy,he⟩:=hf _ _ _ _ _ _ hp ((hu.drop _).take _) ((hv.drop _).take _)
    have hti:=hT _ _ hl
    have hsz:ti.size=i.size:=by
     obtain ⟨i',z,e1,e2,_⟩:=hti.infoE
     rw[hq] at e1;cases e1;exact e2.symm
    rw[← hsz] at hx hy
    have ih:=eqFs_ok hT E w xs ys hu hv f hf fs fl' _ q hr rfl (fun G hG=>h3 G (by simp[hG])) hq2
    have hne:=h3 F (by simp)
    simp only[Op.eqFields,hne,ne_eq,not_false_eq_true,if_true,Sem.run_bind,run_part hti w hx h11,run_part hti w hy h11,Result.andThen_ok,he]
    obtain ⟨p,ip⟩:=p
    obtain ⟨q,iq⟩:=q
    by_cases h:p
    ·simp only[h,decide_true,Bool.not_true,Bool.false_eq_true,if_false,ih,andPD,true_and]
    ·simp only[h,decide_false,Bool.not_false,if_true,Sem.run_pure,andPD,false_and]
   ·cases h4
theorem eqC_ok {tt:List (Nat×TI)} (hT:Fits P tt) (w:World):∀ (n:Nat) (t:Nat) (xs ys:List C) (us vs:List Value) (d:PD),eqC tt n t xs ys=some d→∀ (E:Nat),n≤E→DenCs adr M w xs us→DenCs adr M w ys vs→
 ∃ ti,look tt t=some ti∧(ti.agg=false→ti.size=1)∧∃ x y,(if ti.agg=true then x=.agg us.toArray else us=[x])∧(if ti.agg=true then y=.agg vs.toArray else vs=[y])∧(Op.equalIn E t x y).run P w=.ok (@decide d.p d.i) w:=by
 intro n
 induction n with
 | zero=>intro t xs ys us vs d h;cases h
 | succ n ih =>
  intro t xs ys us vs d h E hE hu hv
  simp only[eqC] at h
  split at h
  ·rename_i ti hl
   have hti:=hT t ti hl
   obtain ⟨E,rfl⟩:∃ E',E=E'+1:=⟨E - 1,by omega⟩
   refine ⟨ti,hl,?_⟩
   cases hq:ti.eqok with
   | false =>
    rw[hq] at h
    cases ha:ti.agg with
    | true=>rw[ha] at h;cases h
    | false =>
     rw[ha] at h
     simp only[cond_false] at h
     cases hs:Nat.beq ti.size 1 with
     | false=>rw[hs] at h;cases h
     | true =>
      rw[hs] at h
      refine ⟨fun _=>Nat.eq_of_beq_eq_true hs,?_⟩
      obtain ⟨x,y,e1,e2,e3⟩:=leafEq_ok hti h E w hu hv
      exact ⟨x,y,by simpa using e1,by simpa using e2,e3⟩
   | true =>
    rw[hq] at h
    obtain ⟨hft,hlen,hst,_,hag⟩:=hti.eqk hq
    obtain ⟨dsc,hds,hagg,hfl,_⟩:=hti.desc
    rw[hag]
    refine ⟨fun hh=>(by cases hh),_,_,rfl,rfl,?_⟩
    rw[hds] at hft
    simp only[Option.bind_some] at hft
    cases dsc with
    | struct fs =>
     simp only[ftsOf] at hft
     simp only[fldsOf] at hfl
     split at hft
     ·cases hft
     ·rename_i hno
      simp only[Option.some.injEq] at hft
      cases hb:(Nat.beq xs.length ti.size && Nat.beq ys.length ti.size) with
      | false=>simp only[hb,cond_false] at h;cases h
      | true =>
       simp only[hb,cond_true] at h
       have hfs:P.fieldsOf t=fs:=by simp[Program.fieldsOf,hds]
       rw[run_equalIn_struct w E t _ _ (by rw[hfs];exact hds) hst,hfs]
       refine eqFs_ok hT E w xs ys hu hv (eqC tt n) (fun t xs ys us vs d he h1 h2=>ih t xs ys us vs d he E (by omega) h1 h2) fs.toList _ _ d hfl hft ?_ h
       intro F hF hname
       exact hno (List.any_eq_true.2 ⟨F,hF,by simp[hname]⟩)
    | _=>cases hft
  ·cases h
end
def isConst:Operand→Bool
 | .const _=>true
 | _=>false
def isNilIf:C→Bool
 | .d (.v .nilIface)=>true
 | _=>false
def isIf:C→Bool
 | .d (.v (.iface _ _))=>true
 | .d (.ifc _ _ _)=>true
 | _=>false
def isPtr:C→Bool
 | .ptr _ _=>true
 | .elt _ _ _ _=>true
 | .d (.imm _)=>true
 | _=>false
def isNilPtr:C→Bool
 | .d (.v (.pointer none))=>true
 | _=>false
def eqVal (tt:List (Nat×TI)) (t:Nat) (y z:Operand) (u v:V):Option PD :=
 match u,v with
 | .agg l,.agg r=>match look tt t with
  | some ti=>match ti.eqok with
   | true=>eqC tt 8 t l r
   | false=>none
  | none=>none
 | .c c,.c d=>match look tt t with
  | some ti =>
   bif Nat.beq ti.kd 1 then (match pdOf c,pdOf d with
    | some p,some q=>some ⟨p.p↔q.p,@instDecidableIff p.p q.p p.i q.i⟩
    | _,_=>none)
   else bif Nat.beq ti.kd 7 then
    (bif isNilIf c then (bif isNilIf d then (bif isConst y || isConst z then some ⟨True,inferInstance⟩ else none) else bif isIf d then some ⟨False,inferInstance⟩ else none)
     else bif isNilIf d then (bif isIf c then some ⟨False,inferInstance⟩ else none) else none)
   else bif Nat.beq ti.kd 8 then
    (bif isNilPtr d then (bif isPtr c then some ⟨False,inferInstance⟩ else bif isNilPtr c then some ⟨True,inferInstance⟩ else none) else none)
   else none
  | none=>none
 | _,_=>none
section
variable {P:Program} {adr:Env} {M:Nat→Prop}
theorem isNilIf_ok {c:C} (h:isNilIf c=true) {w:World} {x:Value} (hx:DenC adr M w c x):x=.nilIface:=by
 unfold isNilIf at h
 split at h
 ·exact DenD.v_inv hx
 ·cases h
theorem isIf_ok {c:C} (h:isIf c=true) {w:World} {x:Value} (hx:DenC adr M w c x):∃ t u,x=.iface t u:=by
 unfold isIf at h
 split at h
 ·exact ⟨_,_,DenD.v_inv hx⟩
 ·cases hx with
  | ifc1=>exact ⟨_,_,rfl⟩
  | ifc2=>exact ⟨_,_,rfl⟩
 ·cases h
theorem eq_nil_nil {t:Nat} {ms} (h:P.underlying t=some (.interface ms)) (w:World):(Op.equal t .nilIface .nilIface).run P w=.ok true w:=by
 have:∀ n,(Op.equalIn (n+1) t .nilIface .nilIface).run P w=.ok true w:=fun n=>by
  simp only[Op.equalIn,Sem.run_bind,run_underlying h,Result.andThen_ok,Sem.run_pure]
 exact this 9999
theorem eq_nil_if {t:Nat} {ms} (h:P.underlying t=some (.interface ms)) (w:World) (u:Nat) (x:Value):(Op.equal t .nilIface (.iface u x)).run P w=.ok false w:=by
 have:∀ n,(Op.equalIn (n+1) t .nilIface (.iface u x)).run P w=.ok false w:=fun n=>by
  simp only[Op.equalIn,Sem.run_bind,run_underlying h,Result.andThen_ok,Sem.run_pure]
 exact this 9999
theorem eq_if_nil {t:Nat} {ms} (h:P.underlying t=some (.interface ms)) (w:World) (u:Nat) (x:Value):(Op.equal t (.iface u x) .nilIface).run P w=.ok false w:=by
 have:∀ n,(Op.equalIn (n+1) t (.iface u x) .nilIface).run P w=.ok false w:=fun n=>by
  simp only[Op.equalIn,Sem.run_bind,run_underlying h,Result.andThen_ok,Sem.run_pure]
 exact this 9999
theorem isNilPtr_ok {c:C} (h:isNilPtr c=true) {w:World} {x:Value} (hx:DenC adr M w c x):x=.pointer none:=by
 unfold isNilPtr at h
 split at h
 ·exact DenD.v_inv hx
 ·cases h
theorem isPtr_ok {c:C} (h:isPtr c=true) {w:World} {x:Value} (hx:DenC adr M w c x):∃ q,x=.pointer (some q):=by
 unfold isPtr at h
 split at h
 ·obtain ⟨_,_,_,rfl⟩:=hx;exact ⟨_,rfl⟩
 ·obtain ⟨_,_,_,rfl⟩:=hx;exact ⟨_,rfl⟩
 ·cases hx with
  | imm=>exact ⟨_,rfl⟩
 ·cases h
theorem eq_ptr_nil {t e:Nat} (h:P.underlying t=some (.pointer e)) (w:World) (q:Option Addr):(Op.equal t (.pointer q) (.pointer none)).run P w=.ok q.isNone w:=by
 have:∀ n,(Op.equalIn (n+1) t (.pointer q) (.pointer none)).run P w=.ok q.isNone w:=fun n=>by
  cases q <;> simp[Op.equalIn,run_underlying h]
 exact this 9999
theorem eqVal_ok {tt:List (Nat×TI)} (hT:Fits P tt) {t:Nat} {y z:Operand} {u v:V} {d:PD} (h:eqVal tt t y z u v=some d) (w:World) {a b:Value} (ha:DenV adr M w u a) (hb:DenV adr M w v b) :
 (∀ op,(eqGuard op t y z a b).run P w=.ok () w)∧(Op.equal t a b).run P w=.ok (@decide d.p d.i) w∧(∀ op,op=.eql∨op=.neq→(binOp op t a b).run P w=.ok (.bool (match op with|.eql=>@decide d.p d.i|_=>! @decide d.p d.i)) w):=by
 have fin:((∀ op,(eqGuard op t y z a b).run P w=.ok () w)∧(Op.equal t a b).run P w=.ok (@decide d.p d.i) w∧(∀ op,op=.eql∨op=.neq→(binOp op t a b).run P w=(match op with|.eql=>(do pure (Value.bool (← Op.equal t a b)):Sem Value)|_=>(do pure (Value.bool (!(← Op.equal t a b))):Sem Value)).run P w))→
  (∀ op,(eqGuard op t y z a b).run P w=.ok () w)∧(Op.equal t a b).run P w=.ok (@decide d.p d.i) w∧(∀ op,op=.eql∨op=.neq→(binOp op t a b).run P w=.ok (.bool (match op with|.eql=>@decide d.p d.i|_=>! @decide d.p d.i)) w):=by
  rintro ⟨h1,h2,h3⟩
  refine ⟨h1,h2,fun op hop=>?_⟩
  rw[h3 op hop]
  rcases hop with rfl|rfl <;> simp only[Sem.run_bind,h2,Result.andThen_ok,Sem.run_pure]
 refine fin ?_
 unfold eqVal at h
 split at h
 ·rename_i l r
  obtain ⟨xs,rfl,hxs⟩:=ha
  obtain ⟨ys,rfl,hys⟩:=hb
  split at h
  ·rename_i ti hl
   split at h
   ·rename_i hq
    obtain ⟨_,_,_,hg,hag⟩:=(hT t ti hl).eqk hq
    obtain ⟨ti',hl',_,x',y',hx,hy,he⟩:=eqC_ok hT w 8 t l r xs ys d h 10000 (by omega) hxs hys
    rw[hl] at hl'
    obtain rfl:=Option.some.inj hl'
    rw[hag] at hx hy
    simp only[if_true] at hx hy
    subst hx;subst hy
    refine ⟨fun op=>run_eqGuard_agg w _ t y z _ _ hg,he,fun op hop=>?_⟩
    rcases hop with rfl|rfl <;> rfl
   ·cases h
  ·cases h
 ·rename_i c d'
  split at h
  ·rename_i ti hl
   obtain ⟨dsc,hds,_,_,_,_,_,hkd⟩:=(hT t ti hl).desc
   cases h1:Nat.beq ti.kd 1 with
   | true =>
    rw[h1] at h
    simp only[cond_true] at h
    rw[Nat.eq_of_beq_eq_true h1] at hkd
    have hbool:P.underlying t=some .bool:=by cases dsc <;> simp[kdOf] at hkd;exact hds
    split at h
    ·rename_i p q hp hq
     cases h
     have e1:=pdOf_ok hp ha
     have e2:=pdOf_ok hq hb
     subst e1;subst e2
     refine ⟨fun op=>by unfold eqGuard;split <;> rfl,?_,fun op hop=>by rcases hop with rfl|rfl <;> rfl⟩
     rw[run_equal_bool w t _ _ hbool]
     congr 1
     obtain ⟨p,i⟩:=p
     obtain ⟨q,j⟩:=q
     by_cases hp:p <;> by_cases hq:q <;> simp[hp,hq]
    ·cases h
   | false =>
    rw[h1] at h
    simp only[cond_false] at h
    cases h7:Nat.beq ti.kd 7 with
    | false =>
     rw[h7] at h
     simp only[cond_false] at h
     cases h8:Nat.beq ti.kd 8 with
     | false=>rw[h8] at h;cases h
     | true =>
      rw[h8] at h
      simp only[cond_true] at h
      rw[Nat.eq_of_beq_eq_true h8] at hkd
      obtain ⟨e,he⟩:∃ e,P.underlying t=some (.pointer e):=by cases dsc <;> simp[kdOf] at hkd;exact ⟨_,hds⟩
      cases hd:isNilPtr d' with
      | false=>rw[hd] at h;cases h
      | true =>
       rw[hd] at h
       simp only[cond_true] at h
       obtain rfl:=isNilPtr_ok hd hb
       cases hi:isPtr c with
       | true =>
        rw[hi] at h
        simp only[cond_true,Option.some.injEq] at h
        subst h
        obtain ⟨q,rfl⟩:=isPtr_ok hi ha
        refine ⟨fun op=>by unfold eqGuard;split <;> rfl,by rw[eq_ptr_nil he];rfl,fun op hop=>by rcases hop with rfl|rfl <;> rfl⟩
       | false =>
        rw[hi] at h
        simp only[cond_false] at h
        cases hn:isNilPtr c with
        | false=>rw[hn] at h;cases h
        | true =>
         rw[hn] at h
         simp only[cond_true,Option.some.injEq] at h
         subst h
         obtain rfl:=isNilPtr_ok hn ha
         refine ⟨fun op=>by unfold eqGuard;split <;> rfl,by rw[eq_ptr_nil he];rfl,fun op hop=>by rcases hop with rfl|rfl <;> rfl⟩
    | true =>
     rw[h7] at h
     simp only[cond_true] at h
     rw[Nat.eq_of_beq_eq_true h7] at hkd
     obtain ⟨ms,hms⟩:∃ ms,P.underlying t=some (.interface ms):=by cases dsc <;> simp[kdOf] at hkd;exact ⟨_,hds⟩
     cases hc:isNilIf c with
     | true =>
      rw[hc] at h
      simp only[cond_true] at h
      obtain rfl:=isNilIf_ok hc ha
      cases hd:isNilIf d' with
      | true =>
       rw[hd] at h
       simp only[cond_true] at h
       obtain rfl:=isNilIf_ok hd hb
       cases hk:(isConst y || isConst z) with
       | false=>rw[hk] at h;cases h
       | true =>
        rw[hk] at h
        simp only[cond_true,Option.some.injEq] at h
        subst h
        refine ⟨fun op=>?_,?_,fun op hop=>by rcases hop with rfl|rfl <;> rfl⟩
        ·cases y <;> cases z <;> first|(cases hk;done)|(cases op <;> rfl)
        ·rw[eq_nil_nil hms];rfl
      | false =>
       rw[hd] at h
       simp only[cond_false] at h
       cases hi:isIf d' with
       | false=>rw[hi] at h;cases h
       | true =>
        rw[hi] at h
        simp only[cond_true,Option.some.injEq] at h
        subst h
        obtain ⟨t',u',rfl⟩:=isIf_ok hi hb
        refine ⟨fun op=>by unfold eqGuard;split <;> rfl,by rw[eq_nil_if hms];rfl,fun op hop=>by rcases hop with rfl|rfl <;> rfl⟩
     | false =>
      rw[hc] at h
      simp only[cond_false] at h
      cases hd:isNilIf d' with
      | false=>rw[hd] at h;cases h
      | true =>
       rw[hd] at h
       simp only[cond_true] at h
       obtain rfl:=isNilIf_ok hd hb
       cases hi:isIf c with
       | false=>rw[hi] at h;cases h
       | true =>
        rw[hi] at h
        simp only[cond_true,Option.some.injEq] at h
        subst h
        obtain ⟨t',u',rfl⟩:=isIf_ok hi ha
        refine ⟨fun op=>by unfold eqGuard;split <;> rfl,by rw[eq_if_nil hms];rfl,fun op hop=>by rcases hop with rfl|rfl <;> rfl⟩
  ·cases h
 ·cases h
end
end
section
def keyS:Nat→D→Bool
 | 1,.v (.int .i64 _)=>true
 | 2,.str _=>true
 | 3,.agg [.v (.int .i64 _),.v (.int .i64 _)]=>true
 | _,_=>false
theorem keyS_cases {s:Nat} {d:D} (h:keyS s d=true):(s=1∧∃ n,d=.v (.int .i64 n))∨(s=2∧∃ l,d=.str l)∨(s=3∧∃ a b,d=.agg [.v (.int .i64 a),.v (.int .i64 b)]):=by
 unfold keyS at h
 split at h
 ·exact .inl ⟨rfl,_,rfl⟩
 ·exact .inr (.inl ⟨rfl,_,rfl⟩)
 ·exact .inr (.inr ⟨rfl,_,_,rfl⟩)
 ·cases h
theorem keyS_some {s:Nat} {d:D} (h:keyS s d=true):∃ x,keyV d=some x:=by
 rcases keyS_cases h with ⟨_,n,rfl⟩|⟨_,l,rfl⟩|⟨_,a,b,rfl⟩ <;> exact ⟨_,rfl⟩
theorem keyS_inj {s:Nat} {d e:D} (h:keyS s d=true) (h':keyS s e=true) (hh:keyV d=keyV e):d=e:=by
 rcases keyS_cases h with ⟨rfl,n,rfl⟩|⟨rfl,l,rfl⟩|⟨rfl,a,b,rfl⟩ <;> rcases keyS_cases h' with ⟨e1,m,rfl⟩|⟨e1,m,rfl⟩|⟨e1,c,d,rfl⟩ <;> first|cases e1|skip
 ·simp only[keyV,Option.some.injEq,Value.int.injEq] at hh
  rw[hh.2]
 ·simp only[keyV,Option.some.injEq,Value.string.injEq,ByteArray.mk.injEq] at hh
  rw[Array.mk.inj hh]
 ·simp[keyV] at hh
  rw[hh.1,hh.2]
theorem keyV_den {M:Nat→Prop} {w:World} {d:D} {x y:Value} {s:Nat} (h:keyS s d=true) (hk:keyV d=some x) (hd:DenD M w d y):y=x:=by
 rcases keyS_cases h with ⟨_,n,rfl⟩|⟨_,l,rfl⟩|⟨_,a,b,rfl⟩
 ·cases hk;exact DenD.v_inv hd
 ·cases hk;exact DenD.str_inv hd
 ·cases hk
  obtain ⟨xs,rfl,h1⟩:=hd.agg_inv
  match xs,h1 with
  | [u,v],⟨h1,h2,_⟩ =>
   rw[DenD.v_inv h1,DenD.v_inv h2]
structure KeyT (P:Program) (t:TypeId) (s:Nat):Prop where
 check:∀ (w:World) (em:Bool) (d:D) (x:Value),keyS s d=true→keyV d=some x→(Instr.checkKey em 10000 t x).run P w=.ok () w
 find:∀ (w:World) (d:D) (x:Value) (es:List MapEntry),keyS s d=true→keyV d=some x→(∀ e ∈ es,∃ d',keyS s d'=true∧keyV d'=some e.key)→
  ((Instr.findKey t x es).run P w=.ok none w∧∀ e ∈ es,e.key≠x)∨∃ (j:Nat) (e:MapEntry),(Instr.findKey t x es).run P w=.ok (some (j,e.val)) w∧es[j]?=some e∧e.key=x
theorem find_ask {P:Program} {t:TypeId} {s:Nat} (heq:∀ (w:World) (d e:D) (x y:Value),keyS s d=true→keyS s e=true→keyV d=some x→keyV e=some y→∃ b:Bool,(Op.equal t x y).run P w=.ok b w∧(b=true↔y=x)) (w:World) (d:D) (x:Value) (hs:keyS s d=true) (hx:keyV d=some x) :
 ∀ (es:List MapEntry) (i:Nat),(∀ e ∈ es,∃ d',keyS s d'=true∧keyV d'=some e.key)→((Instr.findAsking t x es i).run P w=.ok none w∧∀ e ∈ es,e.key≠x)∨∃ (j:Nat) (e:MapEntry),(Instr.findAsking t x es i).run P w=.ok (some (i+j,e.val)) w∧es[j]?=some e∧e.key=x
 | [],i,_=>.inl ⟨by simp[Instr.findAsking],by simp⟩
 | e::es,i,he=>by
  obtain ⟨d',h1,h2⟩:=he e (by simp)
  obtain ⟨b,hb,hbi⟩:=heq w d d' x e.key hs h1 hx h2
  cases b with
  | true=>exact .inr ⟨0,e,by simp[Instr.findAsking,hb],rfl,hbi.1 rfl⟩
  | false =>
   have hne:e.key≠x:=fun h=>by have:=hbi.2 h;cases this
   rcases find_ask heq w d x hs hx es (i+1) (fun e' h'=>he e' (by simp[h'])) with ⟨g1,g2⟩|⟨j,e',g1,g2,g3⟩
   ·refine .inl ⟨by simp[Instr.findAsking,hb,g1],fun e' h'=>?_⟩
    rcases List.mem_cons.1 h' with rfl|h'
    ·exact hne
    ·exact g2 e' h'
   ·refine .inr ⟨j+1,e',?_,by simpa using g2,g3⟩
    have:i+(j+1)=i+1+j:=by omega
    simp[Instr.findAsking,hb,g1,this]
theorem keyT_of {P:Program} {t:TypeId} {s:Nat} (hchk:∀ (w:World) (em:Bool) (d:D) (x:Value),keyS s d=true→keyV d=some x→(Instr.checkKey em 10000 t x).run P w=.ok () w)
 (heq:∀ (w:World) (d e:D) (x y:Value),keyS s d=true→keyS s e=true→keyV d=some x→keyV e=some y→∃ b:Bool,(Op.equal t x y).run P w=.ok b w∧(b=true↔y=x))
 {k:TypeDesc} (hu:P.underlying t=some k) (hnow:∀ (x:Value) (y:Value),Instr.sameNow k x y=none):KeyT P t s:=by
 refine ⟨hchk,fun w d x es hs hx he=>?_⟩
 have hf:es≠[]→(Instr.findKey t x es).run P w=(Instr.findAsking t x es).run P w:=fun hne=>by
  cases es with
  | nil=>exact absurd rfl hne
  | cons e es=>simp[Instr.findKey,run_underlying hu,Instr.findNow,hnow]
 cases es with
 | nil=>exact .inl ⟨by simp[Instr.findKey,run_underlying hu,Instr.findNow],by simp⟩
 | cons e es =>
  rw[hf (by simp)]
  rcases find_ask heq w d x hs hx (e::es) 0 he with h|⟨j,e',g1,g2,g3⟩
  ·exact .inl h
  ·exact .inr ⟨j,e',by rw[g1,Nat.zero_add],g2,g3⟩
theorem key_stays {P:Program} (w:World) {s:Nat} {d:D} {x:Value} (h:keyS s d=true) (hx:keyV d=some x):(Instr.keyThatStays x x).run P w=.ok x w:=by
 have hb:Instr.sameBits 10000 x x=true:=by
  rcases keyS_cases h with ⟨_,n,rfl⟩|⟨_,l,rfl⟩|⟨_,a,b,rfl⟩
  ·cases hx;simp[Instr.sameBits]
  ·cases hx
   exact (bytes_eq l l).trans (decide_eq_true rfl)
  ·cases hx;simp[Instr.sameBits]
 simp[Instr.keyThatStays,hb]
section
variable {P:Program} {M:Nat→Prop} {w:World} {ks vs:List D} {es:Array MapEntry}
theorem MapOk.keysS (h:MapOk M w ks vs es) {s:Nat} (hs:∀ d ∈ ks,keyS s d=true):∀ e ∈ es.toList,∃ d',keyS s d'=true∧keyV d'=some e.key:=fun e he=>by
 obtain ⟨j,hj,rfl⟩:=List.getElem_of_mem he
 have hj':j<ks.length:=by rw[h.1];simpa using hj
 refine ⟨ks[j],hs _ (List.getElem_mem hj'),h.2.2.2.1 j _ _ (List.getElem?_eq_getElem hj') ?_⟩
 rw[← Array.getElem?_toList,List.getElem?_eq_getElem hj]
theorem MapOk.find (h:MapOk M w ks vs es) {t:TypeId} {s:Nat} (K:KeyT P t s) (hs:∀ d ∈ ks,keyS s d=true) {kd:D} {x:Value} (hk:keyS s kd=true) (hx:keyV kd=some x) (w':World) :
 (kd ∉ ks∧(Instr.findKey t x es.toList).run P w'=.ok none w')∨∃ (j:Nat) (e:MapEntry),ks[j]?=some kd∧es[j]?=some e∧e.key=x∧(Instr.findKey t x es.toList).run P w'=.ok (some (j,e.val)) w':=by
 rcases K.find w' kd x es.toList hk hx (h.keysS hs) with ⟨h1,h2⟩|⟨j,e,h1,h2,h3⟩
 ·refine .inl ⟨fun hm=>?_,h1⟩
  obtain ⟨j,hj,hjk⟩:=List.getElem_of_mem hm
  have hj':j<es.size:=by rw[← h.1];exact hj
  have:=h.2.2.2.1 j kd es[j] (by rw[List.getElem?_eq_getElem hj,hjk]) (Array.getElem?_eq_getElem hj')
  rw[hx] at this
  exact h2 _ (by simp) (Option.some.inj this).symm
 ·rw[Array.getElem?_toList] at h2
  have hj':j<es.size:=(Array.getElem?_eq_some_iff.1 h2).1
  have hj:j<ks.length:=by rw[h.1];exact hj'
  have h4:=h.2.2.2.1 j _ _ (List.getElem?_eq_getElem hj) h2
  have h5:ks[j]=kd:=keyS_inj (hs _ (List.getElem_mem hj)) hk (by rw[h4,hx,h3])
  exact .inr ⟨j,e,by rw[List.getElem?_eq_getElem hj,h5],h2,h3,h1⟩
theorem MapOk.push (h:MapOk M w ks vs es) {kd v:D} {x y:Value} (hn:kd ∉ ks) (hx:keyV kd=some x) (hv:DenD M w v y) (born:Nat):MapOk M w (ks++[kd]) (vs++[v]) (es.push { key:=x,val:=y,born:=born }):=by
 obtain ⟨h1,h2,h3,h4,h5⟩:=h
 have at_:∀ {l:List D} {d0:D} {j:Nat} {d:D} {e:MapEntry},l.length=es.size→(l++[d0])[j]?=some d→(es.push { key:=x,val:=y,born:=born })[j]?=some e→(l[j]?=some d∧es[j]?=some e)∨(d=d0∧e={ key:=x,val:=y,born:=born }):=fun {l d0 j d e} hl hd he=>by
  rw[Array.getElem?_push] at he
  by_cases hj:j=es.size
  ·rw[if_pos hj] at he
   rw[List.getElem?_append_right (by omega)] at hd
   have:j - l.length=0:=by omega
   rw[this] at hd
   simp at hd he
   exact .inr ⟨hd.symm,he.symm⟩
  ·rw[if_neg hj] at he
   have hj2:j<es.size:=(Array.getElem?_eq_some_iff.1 he).1
   rw[List.getElem?_append_left (by omega)] at hd
   exact .inl ⟨hd,he⟩
 refine ⟨by simp[h1],by simp[h2],?_,fun j d e hd he=>?_,fun j d e hd he=>?_⟩
 ·rw[List.nodup_append]
  exact ⟨h3,by simp,fun a ha b hb=>by rw[List.mem_singleton.1 hb];rintro rfl;exact hn ha⟩
 ·rcases at_ h1 hd he with ⟨g1,g2⟩|⟨rfl,rfl⟩
  ·exact h4 j d e g1 g2
  ·exact hx
 ·rcases at_ h2 hd he with ⟨g1,g2⟩|⟨rfl,rfl⟩
  ·exact h5 j d e g1 g2
  ·exact hv
theorem MapOk.put (h:MapOk M w ks vs es) {kd v:D} {x y:Value} {i:Nat} (hi:ks[i]?=some kd) (hx:keyV kd=some x) (hv:DenD M w v y):MapOk M w ks (vs.set i v) (es.modify i fun e=>{ e with key:=x,val:=y }):=by
 obtain ⟨h1,h2,h3,h4,h5⟩:=h
 refine ⟨by simp[h1],by simp[h2],h3,fun j d e hd he=>?_,fun j d e hd he=>?_⟩
 ·rw[Array.getElem?_modify] at he
  by_cases hij:i=j
  ·subst hij
   rw[if_pos rfl] at he
   obtain ⟨e0,_,rfl⟩:=Option.map_eq_some_iff.1 he
   rw[hi] at hd
   cases hd
   exact hx
  ·rw[if_neg hij] at he
   exact h4 j d e hd he
 ·rw[Array.getElem?_modify] at he
  rw[List.getElem?_set] at hd
  by_cases hij:i=j
  ·subst hij
   rw[if_pos rfl] at he hd
   obtain ⟨e0,_,rfl⟩:=Option.map_eq_some_iff.1 he
   split at hd
   ·cases hd;exact hv
   ·cases hd
  ·rw[if_neg hij] at he hd
   exact h5 j d e hd he
end
def mapSet (w:World) (b:Nat) (o:Obj):World:={ w with heap:=w.heap.setIfInBounds b o }
theorem mapSet_at {w:World} {b:Nat} {es:Array MapEntry} {cl:Nat} (h:w.heap[b]?=some (.map es cl)) (o:Obj):(mapSet w b o).heap[b]?=some o:=by
 have hb:b<w.heap.size:=(Array.getElem?_eq_some_iff.1 h).1
 show (w.heap.setIfInBounds b o)[b]?=_
 rw[Array.getElem?_setIfInBounds,if_pos rfl,if_pos hb]
theorem mapSet_evo {w:World} {b:Nat} {es es':Array MapEntry} {cl cl':Nat} (h:w.heap[b]?=some (.map es cl)):Evo (fun x=>x=b) w (mapSet w b (.map es' cl')):=by
 refine ⟨rfl,rfl,rfl,?_,fun x hx hn=>?_,fun x c e f hc=>?_⟩
 ·show w.heap.size≤(w.heap.setIfInBounds b _).size
  rw[Array.size_setIfInBounds]
  exact Nat.le_refl _
 ·show (w.heap.setIfInBounds b _)[x]?=_
  rw[Array.getElem?_setIfInBounds,if_neg (fun e=>hn e.symm)]
 ·refine ⟨c,?_,rfl⟩
  by_cases hxb:x=b
  ·subst hxb
   rw[h] at hc
   cases hc
  ·show (w.heap.setIfInBounds b _)[x]?=_
   rw[Array.getElem?_setIfInBounds,if_neg (fun e=>hxb e.symm)]
   exact hc
section
variable {P:Program} {gl:List (Nat×List D)} {M0 S0:Nat→Prop} {w0:Base} {N:Nat} {adr:Env} {fr:List (Nat×V)} {L:List (Nat×Blk)} {n:Nat} {a:Act} {w:World}
theorem run_mapUpdate {t kt et:TypeId} {s:Nat} (ht:P.underlying t=some (.map kt et)) (K:KeyT P kt s) {M:Nat→Prop} {ks vs:List D} {es:Array MapEntry} {cl b:Nat} (hb:w.heap[b]?=some (.map es cl)) (hm:MapOk M w ks vs es) (hs:∀ d ∈ ks,keyS s d=true) {kd vd:D} {x y:Value} (hk:keyS s kd=true) (hx:keyV kd=some x) (hv:DenD M w vd y) :
 (kd ∉ ks→∃ es' cl',(Instr.mapUpdate t (.map (some b)) x y).run P w=.ok () (mapSet w b (.map es' cl'))∧MapOk M w (ks++[kd]) (vs++[vd]) es')∧
 ∀ i,ks[i]?=some kd→∃ es' cl',(Instr.mapUpdate t (.map (some b)) x y).run P w=.ok () (mapSet w b (.map es' cl'))∧MapOk M w ks (vs.set i vd) es':=by
 refine ⟨fun hn=>?_,fun i hi=>?_⟩
 ·rcases hm.find K hs hk hx w with ⟨_,hf⟩|⟨j,e,hj,_⟩
  ·refine ⟨es.push { key:=x,val:=y,born:=cl },cl+1,?_,hm.push hn hx hv cl⟩
   simp[Instr.mapUpdate,run_underlying ht,MapKept.run_getObj_map hb,K.check w false kd x hk hx,hf,MapKept.run_setObj_map _ hb,Result.andThen,mapSet]
  ·exact absurd (List.mem_of_getElem? hj) hn
 ·rcases hm.find K hs hk hx w with ⟨hn,_⟩|⟨j,e,hj,he,hek,hf⟩
  ·exact absurd (List.mem_of_getElem? hi) hn
  ·have hji:j=i:=(List.getElem?_inj (List.getElem?_eq_some_iff.1 hj).1 hm.2.2.1).1 (hj.trans hi.symm)
   subst hji
   refine ⟨es.modify j fun e=>{ e with key:=x,val:=y },cl,?_,hm.put hi hx hv⟩
   have hst:(Instr.keyThatStays e.key x).run P w=.ok x w:=by rw[hek];exact key_stays w hk hx
   simp[Instr.mapUpdate,run_underlying ht,MapKept.run_getObj_map hb,K.check w false kd x hk hx,hf,he,hst,MapKept.run_setObj_map _ hb,Result.andThen,mapSet]
theorem Ok.setE (h:Ok gl M0 S0 w0 N adr fr L n a w) {k b m:Nat} {B B':Blk} {w':World} (hk:look L k=some B) (ha:adr k=some (some b,m)) (hE:Evo (fun x=>x=b) w w')
 (hB:LocB adr (Mut M0 adr L) w' (some (some b,m)) B'):Ok gl M0 S0 w0 N adr fr (setL L k B') n a w':=by
 have hS:∀ x,x<w.heap.size→x=b→Mut M0 adr L x:=fun x _ e=>e ▸ .inr ⟨k,B,m,hk,ha⟩
 have hM:∀ x,x<w.heap.size→Mut M0 adr (setL L k B') x→Mut M0 adr L x:=fun x _ hx=>mut_setL.1 hx
 refine h.move hE (fun x hx e=>⟨hS x hx e,e ▸ h.new k B b m hk ha⟩) hM (fun t s hl=>⟨hl,fun _ _ _ he=>he⟩) ?_ ?_ (fun k _ hk=>⟨hk,rfl⟩)
 ·refine ⟨fun j C hl=>?_,h.wok.fresh,fun j C hl=>?_,fun j j' B1 B2 b' m1 m2 h1 h2 h3 h4=>?_,fun j C b' m' hl ha'=>?_,fun x hx=>Nat.lt_of_lt_of_le (h.wok.bound x hx) hE.size⟩
  ·rw[look_setL] at hl
   by_cases e:j=k
   ·rw[e];exact h.wok.keys k B hk
   ·rw[if_neg e] at hl;exact h.wok.keys j C hl
  ·rw[look_setL] at hl
   rw[mut_setL_eq]
   by_cases e:j=k
   ·rw[if_pos e,e,hk] at hl
    cases hl
    rw[e,ha];exact hB
   ·rw[if_neg e] at hl
    refine (h.wok.loc j C hl).evo hE hS (fun _ _ h=>h) (fun b' m' he hb'=>?_) (fun _ _ _ _ _ _ _ _ he=>he)
    refine hE.block b' hb' (fun hbb=>?_)
    subst hbb
    exact e (h.wok.inj j k C B b' m' m hl hk he ha)
  ·have:∀ j B,look (setL L k B') j=some B→∃ B,look L j=some B:=fun j B hl=>by
    rw[look_setL] at hl
    split at hl
    ·obtain ⟨B2,hB2,_⟩:=Option.map_eq_some_iff.1 hl;exact ⟨B2,hB2⟩
    ·exact ⟨B,hl⟩
   obtain ⟨C1,g1⟩:=this _ _ h1
   obtain ⟨C2,g2⟩:=this _ _ h2
   exact h.wok.inj j j' C1 C2 b' m1 m2 g1 g2 h3 h4
  ·rw[look_setL] at hl
   split at hl
   ·obtain ⟨B2,hB2,_⟩:=Option.map_eq_some_iff.1 hl;exact h.wok.prot j B2 b' m' hB2 ha'
   ·exact h.wok.prot j C b' m' hl ha'
 ·intro j C b' m' hl ha'
  rw[look_setL] at hl
  split at hl
  ·obtain ⟨B2,hB2,_⟩:=Option.map_eq_some_iff.1 hl;exact h.new j B2 b' m' hB2 ha'
  ·exact h.new j C b' m' hl ha'
theorem Ok.setMap (h:Ok gl M0 S0 w0 N adr fr L n a w) {k b m:Nat} {ks vs ks' vs':List D} {es es':Array MapEntry} {cl cl':Nat} (hk:look L k=some (.mp ks vs)) (ha:adr k=some (some b,m)) (hb:w.heap[b]?=some (.map es cl)) (hm:MapOk (Mut M0 adr L) w ks' vs' es') :
 Ok gl M0 S0 w0 N adr fr (setL L k (.mp ks' vs')) n a (mapSet w b (.map es' cl')) :=
 h.setE hk ha (mapSet_evo hb) ⟨es',cl',mapSet_at hb _,hm.evo (mapSet_evo hb:Evo (fun x=>x=b) w _) (fun _x _ e=>e ▸ .inr ⟨k,_,m,hk,ha⟩) (fun _ _ h=>h)⟩
theorem Ok.pushMap (h:Ok gl M0 S0 w0 N adr fr L n a w):Ok gl M0 S0 w0 N (adrPush adr n (some w.heap.size,0)) fr ((n,.mp [] [])::L) (n+1) a (w.alloc (.map #[] 0)) :=
 h.push ⟨#[],0,by show (w.heap.push _)[w.heap.size]?=_;simp,rfl,rfl,by simp,fun j d e h1=>by simp at h1,fun j d e h1=>by simp at h1⟩
end
end
end Go.EYtfcmhmglpcimiaaGreatDoor
