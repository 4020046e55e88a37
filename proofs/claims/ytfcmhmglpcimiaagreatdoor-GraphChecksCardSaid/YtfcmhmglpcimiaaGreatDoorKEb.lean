/- Proved: a part of what the law is proved with (the reckoner, contracts of functions, plain laws). Conditions: as each says. -/
import Derived.WalkKit
import Derived.Orders
import Derived.OrdersHeld
import Derived.Deep.LoopGhost
import Derived.Laws.AppendOwn
namespace Go.EYtfcmhmglpcimiaaGreatDoor
open Go Go.RowKit
section
inductive D where
 | v (x:Value)
 | b (p:Prop) (i:Decidable p)
 | str (l:List UInt8)
 | lst (z:Nat) (l:List (List D))
 | imm (l:List D)
 | ifc (t:Nat) (g:Bool) (l:List D)
 | agg (l:List D)
 | tup (l:List D)
 | mp (ks vs:List D)
inductive C where
 | d (x:D)
 | ptr (k o:Nat)
 | elt (z k i o:Nat)
 | own (z k i n:Nat)
 | all (z k:Nat)
 | fn (f:Nat) (cs:List (Nat×Nat))
 | mref (k:Nat)
 | junk
inductive V where
 | c (x:C)
 | agg (l:List C)
 | tup (l:List (Bool×List C))
inductive Blk where
 | var (l:List C) (t:Nat)
 | rows (z:Nat) (l:List (List D)) (e:Nat)
 | mp (ks vs:List D)
def look {α:Type}:List (Nat×α)→Nat→Option α
 | [],_=>none
 | (t,s)::r,n=>bif Nat.beq t n then some s else look r n
theorem look_cons {α:Type} (t:Nat) (s:α) (r:List (Nat×α)) (n:Nat):look ((t,s)::r) n=if t=n then some s else look r n:=by
 show (bif Nat.beq t n then some s else look r n)=_
 cases hb:Nat.beq t n with
 | true=>rw[if_pos (Nat.eq_of_beq_eq_true hb)];rfl
 | false=>rw[if_neg (Nat.ne_of_beq_eq_false hb)];rfl
def get2 {α:Type} (l:List (List α)) (i j:Nat):Option α:=(l[i]?).bind (·[j]?)
def All2 {α β:Type} (R:α→β→Prop):List α→List β→Prop
 | [],[]=>True
 | a::l,b::m=>R a b∧All2 R l m
 | _,_=>False
section
variable {α β:Type} {R S:α→β→Prop}
theorem All2.length:∀ {l:List α} {m:List β},All2 R l m→l.length=m.length
 | [],[],_=>rfl
 | _::_,_::_,h=>by simp[All2.length h.2]
 | [],_::_,h=>h.elim
 | _::_,[],h=>h.elim
theorem All2.imp (hi:∀ a b,R a b→S a b):∀ {l:List α} {m:List β},All2 R l m→All2 S l m
 | [],[],_=>trivial
 | _::_,_::_,h=>⟨hi _ _ h.1,All2.imp hi h.2⟩
 | [],_::_,h=>h.elim
 | _::_,[],h=>h.elim
theorem All2.imp':∀ {l:List α} {m:List β},(∀ a ∈ l,∀ b,R a b→S a b)→All2 R l m→All2 S l m
 | [],[],_,_=>trivial
 | a::l,_::_,hi,h=>⟨hi a (by simp) _ h.1,All2.imp' (fun a ha=>hi a (by simp[ha])) h.2⟩
 | [],_::_,_,h=>h.elim
 | _::_,[],_,h=>h.elim
theorem All2.get:∀ {l:List α} {m:List β},All2 R l m→∀ {j:Nat} {a:α},l[j]?=some a→∃ b,m[j]?=some b∧R a b
 | [],[],_,j,a,h=>by simp at h
 | x::l,y::m,h,0,a,hj=>by simp at hj;subst hj;exact ⟨y,rfl,h.1⟩
 | x::l,y::m,h,j+1,a,hj=>by simpa using All2.get h.2 (by simpa using hj)
 | [],_::_,h,_,_,_=>h.elim
 | _::_,[],h,_,_,_=>h.elim
theorem All2.of_get:∀ {l:List α} {m:List β},l.length=m.length→(∀ (j:Nat) a b,l[j]?=some a→m[j]?=some b→R a b)→All2 R l m
 | [],[],_,_=>trivial
 | x::l,y::m,h,hg=>⟨hg 0 x y rfl rfl,All2.of_get (by simpa using h) fun j a b h1 h2=>hg (j+1) a b (by simpa using h1) (by simpa using h2)⟩
 | [],_::_,h,_=>by simp at h
 | _::_,[],h,_=>by simp at h
theorem All2.app:∀ {l:List α} {m:List β} {l':List α} {m':List β},All2 R l m→All2 R l' m'→All2 R (l++l') (m++m')
 | [],[],_,_,_,h=>h
 | _::_,_::_,_,_,h,h'=>⟨h.1,All2.app h.2 h'⟩
 | [],_::_,_,_,h,_=>h.elim
 | _::_,[],_,_,h,_=>h.elim
theorem All2.take:∀ {l:List α} {m:List β} (n:Nat),All2 R l m→All2 R (l.take n) (m.take n)
 | [],[],n,_=>by simp[All2]
 | _::_,_::_,0,_=>by simp[All2]
 | _::_,_::_,n+1,h=>⟨h.1,All2.take n h.2⟩
 | [],_::_,_,h=>h.elim
 | _::_,[],_,h=>h.elim
theorem All2.drop:∀ {l:List α} {m:List β} (n:Nat),All2 R l m→All2 R (l.drop n) (m.drop n)
 | [],[],n,_=>by simp[All2]
 | _::_,_::_,0,h=>h
 | _::_,_::_,n+1,h=>by simpa using All2.drop n h.2
 | [],_::_,_,h=>h.elim
 | _::_,[],_,h=>h.elim
theorem All2.map_left {γ:Type} {f:γ→α}:∀ {l:List γ} {m:List β},All2 R (l.map f) m↔All2 (fun a b=>R (f a) b) l m
 | [],[]=>Iff.rfl
 | x::l,y::m=>by simp only[List.map_cons,All2,All2.map_left]
 | [],_::_=>Iff.rfl
 | _::_,[]=>Iff.rfl
theorem All2.nil_iff {m:List β}:All2 R [] m↔m=[]:=by cases m <;> simp[All2]
theorem All2.cons_iff {a:α} {l:List α} {m:List β}:All2 R (a::l) m↔∃ b m',m=b::m'∧R a b∧All2 R l m':=by
 cases m with
 | nil=>simp[All2]
 | cons b m' =>
  constructor
  ·intro h;exact ⟨b,m',rfl,h.1,h.2⟩
  ·rintro ⟨b',m'',h,h1,h2⟩;cases h;exact ⟨h1,h2⟩
theorem All2.one_iff {a:α} {m:List β}:All2 R [a] m↔∃ b,m=[b]∧R a b:=by
 rw[All2.cons_iff]
 constructor
 ·rintro ⟨b,m',rfl,h1,h2⟩;rw[All2.nil_iff] at h2;subst h2;exact ⟨b,rfl,h1⟩
 ·rintro ⟨b,rfl,h⟩;exact ⟨b,[],rfl,h,trivial⟩
end
def keyV:D→Option Value
 | .v (.int k n)=>some (.int k n)
 | .str l=>some (.string ⟨l.toArray⟩)
 | .agg [.v (.int k a),.v (.int j b)]=>some (.agg #[.int k a,.int j b])
 | _=>none
inductive DenD (M:Nat→Prop) (w:World):D→Value→Prop
 | v (x:Value):DenD M w (.v x) x
 | b (p:Prop) (i:Decidable p):DenD M w (.b p i) (.bool (@decide p i))
 | str (l:List UInt8):DenD M w (.str l) (.string ⟨l.toArray⟩)
 | lst0 (z:Nat) (a:Option Addr) (c:Nat) (hc:c≤maxLen):DenD M w (.lst z []) (.slice a 0 c)
 | lst (z:Nat) (l:List (List D)) (b o c:Nat) (cs:Nat→Nat→Value) (hb:b<w.heap.size) (hM:¬ M b) (hl:l.length≤c) (hc:c≤maxLen) (hz:∀ e ∈ l,e.length=z)
  (hcell:∀ i j d,get2 l i j=some d→w.cell? ⟨b,o+i * z+j,none⟩=some (cs i j)) (hden:∀ i j d,get2 l i j=some d→DenD M w d (cs i j)) :
  DenD M w (.lst z l) (.slice (some ⟨b,o,none⟩) l.length c)
 | imm (l:List D) (b o:Nat) (cs:Nat→Value) (hb:b<w.heap.size) (hM:¬ M b)
  (hcell:∀ j d,l[j]?=some d→w.cell? ⟨b,o+j,none⟩=some (cs j)) (hden:∀ j d,l[j]?=some d→DenD M w d (cs j)) :
  DenD M w (.imm l) (.pointer (some ⟨b,o,none⟩))
 | ifc1 (t:Nat) (d:D) (x:Value) (h:DenD M w d x):DenD M w (.ifc t false [d]) (.iface t x)
 | ifc2 (t:Nat) (l:List D) (xs:List Value) (hl:l.length=xs.length) (h:∀ (j:Nat) d x,l[j]?=some d→xs[j]?=some x→DenD M w d x):DenD M w (.ifc t true l) (.iface t (.agg xs.toArray))
 | agg (l:List D) (xs:List Value) (hl:l.length=xs.length) (h:∀ (j:Nat) d x,l[j]?=some d→xs[j]?=some x→DenD M w d x):DenD M w (.agg l) (.agg xs.toArray)
 | tup (l:List D) (xs:List Value) (hl:l.length=xs.length) (h:∀ (j:Nat) d x,l[j]?=some d→xs[j]?=some x→DenD M w d x):DenD M w (.tup l) (.tuple xs.toArray)
 | mp0:DenD M w (.mp [] []) (.map none)
 | mp (ks vs:List D) (b:Nat) (es:Array MapEntry) (cl:Nat) (hb:b<w.heap.size) (hM:¬ M b) (hh:w.heap[b]?=some (.map es cl)) (hk:ks.length=es.size) (hv:vs.length=es.size) (hn:ks.Nodup)
  (hkey:∀ (j:Nat) d e,ks[j]?=some d→es[j]?=some e→keyV d=some (MapEntry.key e)) (hden:∀ (j:Nat) d e,vs[j]?=some d→es[j]?=some e→DenD M w d (MapEntry.val e)):DenD M w (.mp ks vs) (.map (some b))
def DenL (M:Nat→Prop) (w:World) (l:List D) (xs:List Value):Prop:=All2 (DenD M w) l xs
section
variable {M M':Nat→Prop} {w w':World}
theorem DenD.v_inv {x y:Value} (h:DenD M w (.v x) y):y=x:=by cases h;rfl
theorem DenD.b_inv {p:Prop} {i:Decidable p} {y:Value} (h:DenD M w (.b p i) y):y=.bool (@decide p i):=by cases h;rfl
theorem DenD.str_inv {l:List UInt8} {y:Value} (h:DenD M w (.str l) y):y=.string ⟨l.toArray⟩:=by cases h;rfl
theorem DenD.agg_inv {l:List D} {y:Value} (h:DenD M w (.agg l) y):∃ xs:List Value,y=.agg xs.toArray∧DenL M w l xs:=by
 cases h with
 | agg _ xs hl h=>exact ⟨xs,rfl,All2.of_get hl h⟩
theorem DenD.tup_inv {l:List D} {y:Value} (h:DenD M w (.tup l) y):∃ xs:List Value,y=.tuple xs.toArray∧DenL M w l xs:=by
 cases h with
 | tup _ xs hl h=>exact ⟨xs,rfl,All2.of_get hl h⟩
theorem All2.get2 {α β:Type} {R:α→β→Prop} {l:List α} {m:List β} (h:All2 R l m) (j:Nat) (a:α) (b:β) (h1:l[j]?=some a) (h2:m[j]?=some b):R a b:=by
 obtain ⟨b',hb,hr⟩:=h.get h1
 rw[h2] at hb;cases hb;exact hr
theorem DenD.agg_mk {l:List D} {xs:List Value} (h:DenL M w l xs):DenD M w (.agg l) (.agg xs.toArray):=.agg l xs (All2.length h) (All2.get2 h)
theorem DenD.tup_mk {l:List D} {xs:List Value} (h:DenL M w l xs):DenD M w (.tup l) (.tuple xs.toArray):=.tup l xs (All2.length h) (All2.get2 h)
theorem DenD.ifc2_mk {t:Nat} {l:List D} {xs:List Value} (h:DenL M w l xs):DenD M w (.ifc t true l) (.iface t (.agg xs.toArray)):=.ifc2 t l xs (All2.length h) (All2.get2 h)
structure Evo (S:Nat→Prop) (w w':World):Prop where
 os:w'.os=w.os
 tape:w'.tape=w.tape
 output:w'.output=w.output
 size:w.heap.size≤w'.heap.size
 block:∀ b,b<w.heap.size→¬ S b→w'.heap[b]?=w.heap[b]?
 kind:∀ (b:Nat) (cur:Array Value) (e:TypeId) (f:Nat×Nat),w.heap[b]?=some (Obj.cells cur e f)→∃ cur':Array Value,w'.heap[b]?=some (Obj.cells cur' e f)∧cur'.size=cur.size
theorem Evo.refl (S:Nat→Prop) (w:World):Evo S w w:=⟨rfl,rfl,rfl,Nat.le_refl _,fun _ _ _=>rfl,fun _ cur _ _ h=>⟨cur,h,rfl⟩⟩
theorem Evo.trans {S:Nat→Prop} {a b c:World} (h:Evo S a b) (k:Evo S b c):Evo S a c :=
 ⟨k.os.trans h.os,k.tape.trans h.tape,k.output.trans h.output,Nat.le_trans h.size k.size,fun i hi hS=>(k.block i (Nat.lt_of_lt_of_le hi h.size) hS).trans (h.block i hi hS),
  fun i cur e f hc=>by
   obtain ⟨c1,h1,s1⟩:=h.kind i cur e f hc
   obtain ⟨c2,h2,s2⟩:=k.kind i c1 e f h1
   exact ⟨c2,h2,s2.trans s1⟩⟩
theorem Evo.mono {S S':Nat→Prop} {a b:World} (h:Evo S a b) (hs:∀ k,k<a.heap.size→S k→S' k):Evo S' a b :=
 ⟨h.os,h.tape,h.output,h.size,fun k hk hn=>h.block k hk (fun hm=>hn (hs k hk hm)),h.kind⟩
theorem Evo.of_below {w w':World} (h:Below w.heap.size w w') (S:Nat→Prop):Evo S w w' :=
 ⟨h.os,h.tape,h.output,h.size,fun k hk _=>h.block k hk,fun b cur _e _f hc=>⟨cur,(h.block b (Array.getElem?_eq_some_iff.1 hc).1).trans hc,rfl⟩⟩
theorem Evo.below {w w':World} (h:Evo (fun _=>False) w w'):Below w.heap.size w w':=⟨h.os,h.tape,h.output,h.size,fun k hk=>h.block k hk (fun h=>h)⟩
theorem Evo.cell {S:Nat→Prop} {w w':World} (h:Evo S w w') {p:Addr} {v:Value} (hc:w.cell? p=some v) (hn:¬ S p.block):w'.cell? p=some v:=by
 rw[World.cell?_of_block (w:=w) (h.block p.block (World.block_lt_of_cell? w p hc) hn)];exact hc
theorem Evo.alloc (S:Nat→Prop) (w:World) (o:Obj):Evo S w (w.alloc o) :=
 Evo.of_below ((Below.refl w.heap.size w).alloc (Nat.le_refl _) o) S
theorem Evo.setRow {S:Nat→Prop} {w:World} {g:Nat} {cur cs:Array Value} {t:TypeId} {f:Nat×Nat} (hg:w.heap[g]?=some (.cells cur t f)) (hs:cs.size=cur.size) (hS:S g):Evo S w (w.setRow g cs):=by
 refine ⟨rfl,rfl,rfl,by simp,fun b hb hn=>setRow_other w g b cs (fun e=>hn (e ▸ hS)),fun b c e f' hc=>?_⟩
 by_cases hbg:b=g
 ·subst hbg
  rw[hg] at hc;cases hc
  exact ⟨cs,setRow_heap w _ _ _ _ _ hg,hs⟩
 ·exact ⟨c,by rw[setRow_other w g b cs hbg];exact hc,rfl⟩
theorem DenD.evo {S:Nat→Prop} (h:Evo S w w') (hS:∀ b,b<w.heap.size→S b→M b) (hM:∀ b,b<w.heap.size→M' b→M b) {d:D} {x:Value} (hd:DenD M w d x):DenD M' w' d x:=by
 induction hd with
 | v x=>exact .v x
 | b p i=>exact .b p i
 | str l=>exact .str l
 | lst0 z a c hc=>exact .lst0 z a c hc
 | lst z l b o c cs hb hMb hl hc hz hcell hden ih =>
  exact .lst z l b o c cs (Nat.lt_of_lt_of_le hb h.size) (fun hm=>hMb (hM b hb hm)) hl hc hz (fun i j d hg=>h.cell (hcell i j d hg) (fun hs=>hMb (hS b hb hs))) ih
 | imm l b o cs hb hMb hcell hden ih =>
  exact .imm l b o cs (Nat.lt_of_lt_of_le hb h.size) (fun hm=>hMb (hM b hb hm)) (fun j d hg=>h.cell (hcell j d hg) (fun hs=>hMb (hS b hb hs))) ih
 | ifc1 t d x _ ih=>exact .ifc1 t d x ih
 | ifc2 t l xs hl _ ih=>exact .ifc2 t l xs hl ih
 | agg l xs hl _ ih=>exact .agg l xs hl ih
 | tup l xs hl _ ih=>exact .tup l xs hl ih
 | mp0=>exact .mp0
 | mp ks vs b es cl hb hMb hh hk hv hn hkey hden ih=>exact .mp ks vs b es cl (Nat.lt_of_lt_of_le hb h.size) (fun hm=>hMb (hM b hb hm)) ((h.block b hb (fun hs=>hMb (hS b hb hs))).trans hh) hk hv hn hkey ih
theorem DenL.evo {S:Nat→Prop} (h:Evo S w w') (hS:∀ b,b<w.heap.size→S b→M b) (hM:∀ b,b<w.heap.size→M' b→M b) {l:List D} {xs:List Value} (hd:DenL M w l xs):DenL M' w' l xs :=
 All2.imp (fun _ _=>DenD.evo h hS hM) hd
theorem DenD.less (hM:∀ b,b<w.heap.size→M' b→M b) {d:D} {x:Value} (hd:DenD M w d x):DenD M' w d x:=hd.evo (Evo.refl (fun _=>False) w) (fun _ _ h=>h.elim) hM
def oneD:D→Bool
 | .v x=>x.oneCell'
 | .agg _=>false
 | .tup _=>false
 | _=>true
theorem DenD.one {d:D} {x:Value} (h:DenD M w d x) (ho:oneD d=true):x.oneCell'=true:=by
 cases h <;> first|rfl|exact ho|(simp[oneD] at ho)
end
abbrev Env:=Nat→Option (Option Nat×Nat)
def DenP (adr:Env) (p:Nat×Nat) (x:Value):Prop:=∃ b n,adr p.1=some (some b,n)∧x=.pointer (some ⟨b,p.2,none⟩)
def OwnAt (adr:Env) (w:World) (z k i n:Nat) (x:Value):Prop :=
 (x=.slice none 0 0∧i=0∧n=0)∨(i≠0∧n=0∧∃ a c,c≤maxLen∧x=.slice a 0 c)∨
 ∃ b m c cur e f,adr k=some (some b,m)∧w.heap[b]?=some (.cells cur e f)∧cur.size=c * z∧i+n≤c∧c≤maxLen∧x=.slice (some ⟨b,i * z,none⟩) n (c - i)
def AllAt (adr:Env) (w:World) (z k:Nat) (x:Value):Prop :=
 (adr k=some (none,0)∧x=.slice none 0 0)∨
 ∃ b n c cur e f,adr k=some (some b,n)∧w.heap[b]?=some (.cells cur e f)∧cur.size=c * z∧n≤c∧c≤maxLen∧x=.slice (some ⟨b,0,none⟩) n c
def DenC (adr:Env) (M:Nat→Prop) (w:World):C→Value→Prop
 | .d x,v=>DenD M w x v
 | .ptr k o,v=>∃ b n,adr k=some (some b,n)∧v=.pointer (some ⟨b,o,none⟩)
 | .elt z k i o,v=>∃ b n,adr k=some (some b,n)∧v=.pointer (some ⟨b,i * z+o,none⟩)
 | .own z k i n,v=>OwnAt adr w z k i n v
 | .all z k,v=>AllAt adr w z k v
 | .fn f cs,v=>∃ xs:List Value,v=.func (.func f) #[] xs.toArray∧All2 (DenP adr) cs xs
 | .mref k,v=>∃ b n,adr k=some (some b,n)∧v=.map (some b)
 | .junk,_=>True
def DenCs (adr:Env) (M:Nat→Prop) (w:World) (l:List C) (xs:List Value):Prop:=All2 (DenC adr M w) l xs
def DenT (adr:Env) (M:Nat→Prop) (w:World) (p:Bool×List C) (x:Value):Prop :=
 match p.1 with
 | true=>∃ xs:List Value,x=.agg xs.toArray∧DenCs adr M w p.2 xs
 | false=>∃ c,p.2=[c]∧DenC adr M w c x
def DenV (adr:Env) (M:Nat→Prop) (w:World):V→Value→Prop
 | .c x,v=>DenC adr M w x v
 | .agg l,v=>∃ xs:List Value,v=.agg xs.toArray∧DenCs adr M w l xs
 | .tup l,v=>∃ xs:List Value,v=.tuple xs.toArray∧All2 (DenT adr M w) l xs
def menC (k:Nat):C→Bool
 | .ptr j _=>Nat.beq j k
 | .elt _ j _ _=>Nat.beq j k
 | .own _ j _ _=>Nat.beq j k
 | .all _ j=>Nat.beq j k
 | .fn _ cs=>cs.any (fun p=>Nat.beq p.1 k)
 | .mref j=>Nat.beq j k
 | _=>false
section
variable {adr adr':Env} {M M':Nat→Prop} {w w':World} {S:Nat→Prop}
theorem DenC.evo (h:Evo S w w') (hS:∀ b,b<w.heap.size→S b→M b) (hM:∀ b,b<w.heap.size→M' b→M b) {c:C} {x:Value} (ha:∀ k b,menC k c=true→adr k=some b→adr' k=some b)
 (hd:DenC adr M w c x):DenC adr' M' w' c x:=by
 cases c with
 | d x=>exact DenD.evo h hS hM hd
 | ptr k o=>obtain ⟨b,n,h1,h2⟩:=hd;exact ⟨b,n,ha k _ (by simp[menC]) h1,h2⟩
 | elt z k i o=>obtain ⟨b,n,h1,h2⟩:=hd;exact ⟨b,n,ha k _ (by simp[menC]) h1,h2⟩
 | own z k i n =>
  rcases hd with h1|h1|⟨b,m,c,cur,e,f,h1,h2,h3,h4,h5,h6⟩
  ·exact .inl h1
  ·exact .inr (.inl h1)
  ·obtain ⟨cur',h7,h8⟩:=h.kind b cur e f h2
   exact .inr (.inr ⟨b,m,c,cur',e,f,ha k _ (by simp[menC]) h1,h7,by rw[h8];exact h3,h4,h5,h6⟩)
 | all z k =>
  rcases hd with ⟨h1,h2⟩|⟨b,m,c,cur,e,f,h1,h2,h3,h4,h5,h6⟩
  ·exact .inl ⟨ha k _ (by simp[menC]) h1,h2⟩
  ·obtain ⟨cur',h7,h8⟩:=h.kind b cur e f h2
   exact .inr ⟨b,m,c,cur',e,f,ha k _ (by simp[menC]) h1,h7,by rw[h8];exact h3,h4,h5,h6⟩
 | fn f cs =>
  obtain ⟨xs,h1,h2⟩:=hd
  refine ⟨xs,h1,All2.imp' (fun p hp x hx=>?_) h2⟩
  obtain ⟨b,n,g1,g2⟩:=hx
  exact ⟨b,n,ha p.1 _ (by simp only[menC,List.any_eq_true];exact ⟨p,hp,by simp⟩) g1,g2⟩
 | mref k=>obtain ⟨b,n,h1,h2⟩:=hd;exact ⟨b,n,ha k _ (by simp[menC]) h1,h2⟩
 | junk=>trivial
theorem DenCs.evo (h:Evo S w w') (hS:∀ b,b<w.heap.size→S b→M b) (hM:∀ b,b<w.heap.size→M' b→M b) {l:List C} {xs:List Value} (ha:∀ c ∈ l,∀ k b,menC k c=true→adr k=some b→adr' k=some b)
 (hd:DenCs adr M w l xs):DenCs adr' M' w' l xs :=
 All2.imp' (fun c hc _ hx=>hx.evo h hS hM (ha c hc)) hd
theorem DenT.evo (h:Evo S w w') (hS:∀ b,b<w.heap.size→S b→M b) (hM:∀ b,b<w.heap.size→M' b→M b) {p:Bool×List C} {x:Value} (ha:∀ c ∈ p.2,∀ k b,menC k c=true→adr k=some b→adr' k=some b)
 (hd:DenT adr M w p x):DenT adr' M' w' p x:=by
 obtain ⟨g,l⟩:=p
 cases g with
 | true=>obtain ⟨xs,h1,h2⟩:=hd;exact ⟨xs,h1,h2.evo h hS hM ha⟩
 | false =>
  obtain ⟨c,h1,h2⟩:=hd
  exact ⟨c,h1,h2.evo h hS hM (ha c (by simp only at h1;rw[h1];simp))⟩
def menV (k:Nat):V→Bool
 | .c x=>menC k x
 | .agg l=>l.any (menC k)
 | .tup l=>l.any fun p=>p.2.any (menC k)
theorem DenV.evo (h:Evo S w w') (hS:∀ b,b<w.heap.size→S b→M b) (hM:∀ b,b<w.heap.size→M' b→M b) {s:V} {x:Value} (ha:∀ k b,menV k s=true→adr k=some b→adr' k=some b)
 (hd:DenV adr M w s x):DenV adr' M' w' s x:=by
 cases s with
 | c c=>exact DenC.evo h hS hM ha hd
 | agg l =>
  obtain ⟨xs,h1,h2⟩:=hd
  exact ⟨xs,h1,h2.evo h hS hM (fun c hc k b hm=>ha k b (by simp only[menV,List.any_eq_true];exact ⟨c,hc,hm⟩))⟩
 | tup l =>
  obtain ⟨xs,h1,h2⟩:=hd
  refine ⟨xs,h1,All2.imp' (fun p hp x hx=>?_) h2⟩
  exact DenT.evo h hS hM (fun c hc k b hm=>ha k b (by simp only[menV,List.any_eq_true];exact ⟨p,hp,c,hc,hm⟩)) hx
def oneC:C→Bool
 | .d x=>oneD x
 | .junk=>false
 | _=>true
theorem DenC.one {c:C} {x:Value} (h:DenC adr M w c x) (ho:oneC c=true):x.oneCell'=true:=by
 cases c with
 | d x=>exact DenD.one h ho
 | ptr k o=>obtain ⟨b,n,_,rfl⟩:=h;rfl
 | elt z k i o=>obtain ⟨b,n,_,rfl⟩:=h;rfl
 | own z k i n=>rcases h with ⟨rfl,_⟩|⟨_,_,a,c,_,rfl⟩|⟨b,m,c,cur,e,f,_,_,_,_,_,rfl⟩ <;> rfl
 | all z k=>rcases h with ⟨_,rfl⟩|⟨b,m,c,cur,e,f,_,_,_,_,_,rfl⟩ <;> rfl
 | fn f cs=>obtain ⟨xs,rfl,_⟩:=h;rfl
 | mref k=>obtain ⟨b,n,_,rfl⟩:=h;rfl
 | junk=>cases ho
def oneL:List C→Bool
 | []=>true
 | c::r=>match oneC c with|true=>oneL r|false=>false
theorem DenCs.one:∀ {l:List C} {xs:List Value},DenCs adr M w l xs→oneL l=true→∀ v ∈ xs,v.oneCell'=true
 | [],[],_,_,v,hv=>by simp at hv
 | c::l,x::xs,h,ho,v,hv=>by
  simp only[oneL] at ho
  cases hc:oneC c with
  | false=>rw[hc] at ho;cases ho
  | true =>
   rw[hc] at ho
   rcases List.mem_cons.1 hv with rfl|hv
   ·exact h.1.one hc
   ·exact DenCs.one h.2 ho v hv
 | [],_::_,h,_,_,_=>h.elim
 | _::_,[],h,_,_,_=>h.elim
end
end
section
structure TI where
 agg:Bool
 size:Nat
 bytes:Nat
 zero:List D
 flds:List (Nat×Nat)
 iface:Bool
 ik:Option IntKind
 el:Option Nat
 kd:Nat
 fts:List Nat
 eqok:Bool
 sub:List Nat
def undD:D→Value
 | .v x=>x
 | .str l=>.string ⟨l.toArray⟩
 | _=>undef
def scaD:D→Bool
 | .v _=>true
 | .str _=>true
 | _=>false
theorem undD_den {M:Nat→Prop} {w:World} {d:D} (h:scaD d=true):DenD M w d (undD d):=by
 cases d <;> first|exact .v _|exact .str _|cases h
def ifaceOf:TypeDesc→Bool
 | .interface _=>true
 | _=>false
def ikOf:TypeDesc→Option IntKind
 | .int k=>some k
 | _=>none
def elOf:TypeDesc→Option Nat
 | .slice e=>some e
 | .array _ e=>some e
 | _=>none
def kdOf:TypeDesc→Nat
 | .bool=>1
 | .string=>2
 | .slice _=>3
 | .array _ _=>4
 | .int _=>5
 | .struct _=>6
 | .interface _=>7
 | .pointer _=>8
 | .map _ _=>9
 | _=>0
def subOf:TypeDesc→List Nat
 | .array n _=>[n]
 | .map k e=>[k,e]
 | .pointer e=>[e]
 | _=>[]
def aggOf:TypeDesc→Bool
 | .struct _|.array _ _=>true
 | _=>false
def fldsOf (P:Program):TypeDesc→Option (List (Nat×Nat))
 | .struct fs=>fs.toList.mapM fun f=>(P.info? f.type).map fun i=>(f.offset,i.size)
 | _=>some []
def ftsOf:TypeDesc→Option (List Nat)
 | .struct fs=>if fs.toList.any (fun f=>f.name == "_") then none else some (fs.toList.map (·.type))
 | _=>none
structure FitsOne (P:Program) (t:Nat) (ti:TI):Prop where
 info:(P.info? t).map (fun i=>(i.size,i.bytes,i.zero.map (fun z=>z.cells.toList)))=some (ti.size,ti.bytes,some (ti.zero.map undD))
 sca:ti.zero.all scaD=true
 zlen:ti.zero.length=ti.size
 und:(P.underlying t).map (fun d=>(aggOf d,fldsOf P d,ifaceOf d,ikOf d,elOf d,kdOf d))=some (ti.agg,some ti.flds,ti.iface,ti.ik,ti.el,ti.kd)
 eqk:ti.eqok=true→(P.underlying t).bind ftsOf=some ti.fts∧ti.fts.length=ti.flds.length∧P.stoodInHeld t=false∧P.eqGuardType P.depth t=false∧ti.agg=true
 sub:(P.underlying t).map subOf=some ti.sub
def Fits (P:Program) (tt:List (Nat×TI)):Prop:=∀ t ti,look tt t=some ti→FitsOne P t ti
theorem fits_nil {P:Program}:Fits P []:=fun u ui hu=>by cases hu
theorem fits_cons {P:Program} {t:Nat} {ti:TI} {r:List (Nat×TI)} (h:FitsOne P t ti) (hr:Fits P r):Fits P ((t,ti)::r):=fun u ui hu=>by
 rw[look_cons] at hu
 by_cases e:t=u
 ·subst e;simp only[if_true,Option.some.injEq] at hu;subst hu;exact h
 ·rw[if_neg e] at hu;exact hr u ui hu
section
variable {P:Program} {t:Nat} {ti:TI}
theorem FitsOne.infoE (h:FitsOne P t ti):∃ i z,P.info? t=some i∧i.size=ti.size∧i.bytes=ti.bytes∧i.zero=some z∧z.cells.toList=ti.zero.map undD:=by
 have hi:=h.info
 cases hq:P.info? t with
 | none=>simp[hq] at hi
 | some i =>
  simp only[hq,Option.map_some,Option.some.injEq,Prod.mk.injEq] at hi
  cases hz:i.zero with
  | none=>simp[hz] at hi
  | some z=>simp only[hz,Option.map_some,Option.some.injEq] at hi;exact ⟨i,z,rfl,hi.1,hi.2.1,hz,hi.2.2⟩
theorem FitsOne.size (h:FitsOne P t ti) (w:World):(sizeOf t).run P w=.ok ti.size w:=by
 obtain ⟨i,z,hq,h1,_⟩:=h.infoE
 simp[sizeOf,typeInfo,hq,h1]
theorem FitsOne.zeroDen (h:FitsOne P t ti) (M:Nat→Prop) (w:World):DenL M w ti.zero (ti.zero.map undD):=by
 have:=h.sca
 generalize ti.zero=l at this
 induction l with
 | nil=>trivial
 | cons d l ih =>
  simp only[List.all_cons,Bool.and_eq_true] at this
  exact ⟨undD_den this.1,ih this.2⟩
theorem FitsOne.agg (h:FitsOne P t ti) (w:World):(isAgg t).run P w=.ok ti.agg w:=by
 have hi:=h.und
 cases hq:P.underlying t with
 | none=>simp[hq] at hi
 | some d =>
  simp only[hq,Option.map_some,Option.some.injEq,Prod.mk.injEq] at hi
  have:(isAgg t).run P w=.ok (aggOf d) w:=by
   unfold isAgg
   simp only[Sem.run_bind,run_underlying hq,Result.andThen_ok]
   cases d <;> rfl
  rw[this,hi.1]
theorem addr_add (b o j:Nat):(⟨b,o,none⟩:Addr).add j=⟨b,o+j,none⟩:=by unfold Addr.add;split <;> simp_all
theorem FitsOne.load (h:FitsOne P t ti) {w:World} {b o:Nat} {cs:List Value} (hl:cs.length=ti.size) (hc:∀ j v,cs[j]?=some v→w.cell? ⟨b,o+j,none⟩=some v) (h1:ti.agg=false→ti.size=1) :
 (loadVar t ⟨b,o,none⟩).run P w=.ok (if ti.agg then .agg cs.toArray else cs.headD undef) w:=by
 unfold loadVar
 simp only[Sem.run_bind,h.agg,Result.andThen_ok]
 cases hg:ti.agg with
 | true =>
  simp only[if_true,Sem.run_bind,h.size,Result.andThen_ok]
  rw[← hl,run_loadCells_list w ⟨b,o,none⟩ cs (fun j v hv=>by rw[addr_add];exact hc j v hv)]
  rfl
 | false =>
  simp only[Bool.false_eq_true,if_false]
  have hs:=h1 hg
  match cs,hl with
  | [c],_ =>
   have:=hc 0 c rfl
   simp only[Nat.add_zero] at this
   rw[run_load]
   simp[this]
  | [],hl=>simp at hl;omega
  | _::_::_,hl=>simp at hl;omega
theorem FitsOne.desc (h:FitsOne P t ti):∃ d,P.underlying t=some d∧aggOf d=ti.agg∧fldsOf P d=some ti.flds∧ifaceOf d=ti.iface∧ikOf d=ti.ik∧elOf d=ti.el∧kdOf d=ti.kd:=by
 have hi:=h.und
 cases hq:P.underlying t with
 | none=>simp[hq] at hi
 | some d=>simp only[hq,Option.map_some,Option.some.injEq,Prod.mk.injEq] at hi;exact ⟨d,rfl,hi⟩
theorem mapM_get {α β:Type} {f:α→Option β}:∀ {l:List α} {r:List β},l.mapM f=some r→∀ (j:Nat) (y:β),r[j]?=some y→∃ x,l[j]?=some x∧f x=some y
 | [],r,h,j,y,hy=>by simp at h;subst h;simp at hy
 | a::l,r,h,j,y,hy=>by
  simp only[List.mapM_cons,Option.bind_eq_bind,Option.bind_eq_some_iff,Option.pure_def,Option.some.injEq] at h
  obtain ⟨b,hb,r',hr,rfl⟩:=h
  cases j with
  | zero=>simp at hy;subst hy;exact ⟨a,rfl,hb⟩
  | succ j=>simpa using mapM_get hr j y (by simpa using hy)
theorem FitsOne.field (h:FitsOne P t ti) {f off sz:Nat} (hf:ti.flds[f]?=some (off,sz+1)) (b o:Nat) (w:World) :
 (Instr.fieldAt t (.pointer (some ⟨b,o,none⟩)) f).run P w=.ok (.pointer (some ⟨b,o+off,none⟩)) w:=by
 obtain ⟨d,hd,_,hfl,_⟩:=h.desc
 cases d with
 | struct fs =>
  simp only[fldsOf] at hfl
  obtain ⟨F,hF,hFi⟩:=mapM_get hfl f _ hf
  have hF':fs[f]?=some F:=by rw[← hF];simp
  cases hq:P.info? F.type with
  | none=>simp[hq] at hFi
  | some i =>
   simp only[hq,Option.map_some,Option.some.injEq,Prod.mk.injEq] at hFi
   have hsz:(sizeOf F.type).run P w=.ok (sz+1) w:=by simp[sizeOf,typeInfo,hq,hFi.2]
   have hadd:(⟨b,o,none⟩:Addr).add off=⟨b,o+off,none⟩:=addr_add b o off
   unfold Instr.fieldAt
   simp only[Sem.run_bind,run_underlying hd,Result.andThen_ok,hF',Instr.sureAddr,Sem.run_pure,fieldPlace,hsz,Nat.add_one_ne_zero,if_false,hFi.1,hadd]
 | _ =>
  simp only[fldsOf,Option.some.injEq] at hfl
  rw[← hfl] at hf
  simp at hf
theorem FitsOne.store (h:FitsOne P t ti) {w:World} {b o:Nat} {tb:TypeId} {cur:List Value} {v:Value} {vs:List Value} (hb:w.heap[b]?=some (.cells cur.toArray tb (0,0))) (hv:v.cells.toList=vs) (hl:vs.length=ti.size)
 (hle:o+vs.length≤cur.length) (h1:∀ u ∈ vs,u.oneCell'=true) :
 (Instr.storeAt t (.pointer (some ⟨b,o,none⟩)) v).run P w=.ok () (w.setRow b (cur.take o++vs++cur.drop (o+vs.length)).toArray):=by
 have hsz:v.cells.size=ti.size:=by rw[← hl,← hv];simp
 have:=run_storeCells_at (P:=P) b o tb vs 0 cur.toArray w hb (by simpa using hle) h1
 simp only[Nat.add_zero] at this
 unfold Instr.storeAt storeVar
 simp only[Instr.sureAddr,Sem.run_bind,Sem.run_pure,Result.andThen_ok,h.size,hsz,ne_eq,not_true_eq_false,if_false,hv,this]
end
def Mut (M0:Nat→Prop) (adr:Env) (L:List (Nat×Blk)) (b:Nat):Prop:=M0 b∨∃ k B n,look L k=some B∧adr k=some (some b,n)
def MapOk (M:Nat→Prop) (w:World) (ks vs:List D) (es:Array MapEntry):Prop :=
 ks.length=es.size∧vs.length=es.size∧ks.Nodup∧(∀ (j:Nat) d e,ks[j]?=some d→es[j]?=some e→keyV d=some (MapEntry.key e))∧∀ (j:Nat) d e,vs[j]?=some d→es[j]?=some e→DenD M w d (MapEntry.val e)
theorem MapOk.evo {M M':Nat→Prop} {S:Nat→Prop} {w w':World} {ks vs:List D} {es:Array MapEntry} (h:MapOk M w ks vs es) (hE:Evo S w w') (hS:∀ b,b<w.heap.size→S b→M b) (hM:∀ b,b<w.heap.size→M' b→M b):MapOk M' w' ks vs es :=
 ⟨h.1,h.2.1,h.2.2.1,h.2.2.2.1,fun j d e h1 h2=>(h.2.2.2.2 j d e h1 h2).evo hE hS hM⟩
def LocB (adr:Env) (M:Nat→Prop) (w:World):Option (Option Nat×Nat)→Blk→Prop
 | some (some b,_),.var l t=>∃ xs:List Value,w.heap[b]?=some (Obj.cells xs.toArray t (0,0))∧DenCs adr M w l xs
 | some (some b,n),.rows z l e=>0<z∧l.length=n∧(∀ r ∈ l,r.length=z)∧∃ (cur:Array Value) (c:Nat),w.heap[b]?=some (Obj.cells cur e (0,0))∧cur.size=c * z∧l.length≤c∧c≤maxLen∧DenL M w l.flatten (cur.toList.take (l.length * z))
 | some (none,n),.rows z l _=>0<z∧l=[]∧n=0
 | some (some b,_),.mp ks vs=>∃ (es:Array MapEntry) (cl:Nat),w.heap[b]?=some (.map es cl)∧MapOk M w ks vs es
 | _,_=>False
structure WOk (M0:Nat→Prop) (adr:Env) (L:List (Nat×Blk)) (n:Nat) (w:World):Prop where
 keys:∀ k B,look L k=some B→k<n
 fresh:∀ k,n≤k→adr k=none
 loc:∀ k B,look L k=some B→LocB adr (Mut M0 adr L) w (adr k) B
 inj:∀ k k' B B' b m m',look L k=some B→look L k'=some B'→adr k=some (some b,m)→adr k'=some (some b,m')→k=k'
 prot:∀ k B b m,look L k=some B→adr k=some (some b,m)→¬ M0 b
 bound:∀ b,M0 b→b<w.heap.size
theorem LocB.lt {adr:Env} {M:Nat→Prop} {w:World} {b m:Nat} {B:Blk} (h:LocB adr M w (some (some b,m)) B):b<w.heap.size:=by
 cases B with
 | var l t=>obtain ⟨xs,h1,_⟩:=h;exact (Array.getElem?_eq_some_iff.1 h1).1
 | rows z l e=>obtain ⟨_,_,_,cur,c,h1,_⟩:=h;exact (Array.getElem?_eq_some_iff.1 h1).1
 | mp ks vs=>obtain ⟨es,cl,h1,_⟩:=h;exact (Array.getElem?_eq_some_iff.1 h1).1
section
variable {M0:Nat→Prop} {adr:Env} {L:List (Nat×Blk)} {n:Nat} {w:World}
theorem WOk.lt (h:WOk M0 adr L n w) {k b m:Nat} {B:Blk} (hk:look L k=some B) (ha:adr k=some (some b,m)):b<w.heap.size:=by
 have:=h.loc k B hk
 rw[ha] at this
 exact this.lt
theorem WOk.mutLt (h:WOk M0 adr L n w) {b:Nat} (hb:Mut M0 adr L b):b<w.heap.size:=by
 rcases hb with hb|⟨k,B,m,hk,ha⟩
 ·exact h.bound b hb
 ·exact h.lt hk ha
end
def FrOk (adr:Env) (M:Nat→Prop) (w:World) (fr:List (Nat×V)) (a:Act):Prop:=∀ t s,look fr t=some s→DenV adr M w s (a.tmps.getD t undef)
def Glob (gl:List (Nat×List D)) (M:Nat→Prop) (w:World):Prop :=
 ∀ g l,look gl g=some l→¬ M g∧∃ xs:List Value,(∃ t f,w.heap[g]?=some (Obj.cells xs.toArray t f))∧g<w.heap.size∧DenL M w l xs
theorem globCell {w:World} {g:Nat} {xs:List Value} (h:∃ t f,w.heap[g]?=some (Obj.cells xs.toArray t f)) (j:Nat) (v:Value) (hv:xs[j]?=some v):w.cell? ⟨g,j,none⟩=some v:=by
 obtain ⟨t,f,h⟩:=h
 simp[World.cell?,h,hv]
theorem Glob.evo {gl:List (Nat×List D)} {M M':Nat→Prop} {S:Nat→Prop} {w w':World} (hg:Glob gl M w) (h:Evo S w w') (hS:∀ b,b<w.heap.size→S b→M b) (hM:∀ b,b<w.heap.size→M' b→M b):Glob gl M' w':=by
 intro g l hl
 obtain ⟨h1,xs,⟨t,f,h2⟩,h3,h4⟩:=hg g l hl
 exact ⟨fun hm=>h1 (hM g h3 hm),xs,⟨t,f,(h.block g h3 (fun hs=>h1 (hS g h3 hs))).trans h2⟩,Nat.lt_of_lt_of_le h3 h.size,h4.evo h hS hM⟩
structure Base where
 w:World
 adr:Env
 fx:List Nat
 df:List Deferred
structure Ok (gl:List (Nat×List D)) (M0 S0:Nat→Prop) (w0:Base) (N:Nat) (adr:Env) (fr:List (Nat×V)) (L:List (Nat×Blk)) (n:Nat) (a:Act) (w:World):Prop where
 size:a.tmps.size=N
 defers:a.defers=w0.df
 fr:FrOk adr (Mut M0 adr L) w fr a
 wok:WOk M0 adr L n w
 glob:Glob gl (Mut M0 adr L) w
 base:Evo S0 w0.w w
 new:∀ k B b m,look L k=some B→adr k=some (some b,m)→S0 b∨w0.w.heap.size≤b
 same:∀ k ∈ w0.fx,k<n∧adr k=w0.adr k
def putF (fr:List (Nat×V)):Option Nat→V→List (Nat×V)
 | some d,s=>(d,s)::fr
 | none,_=>fr
def dstB (N:Nat):Option Nat→Bool
 | some d=>Nat.blt d N
 | none=>true
theorem tmps_put {a:Act} {d N:Nat} (hN:a.tmps.size=N) (hd:Nat.blt d N=true) (v:Value) (t:Nat):(a.put (some d) v).tmps.getD t undef=if d=t then v else a.tmps.getD t undef:=by
 have hlt:d<a.tmps.size:=by rw[hN];have:=hd;simp[Nat.blt,Nat.ble_eq] at this;omega
 simp only[Act.put,Array.getD_eq_getD_getElem?,Array.getElem?_setIfInBounds]
 by_cases h:d=t
 ·subst h;simp[hlt]
 ·simp[h]
theorem put_size (a:Act) (dst:Option Nat) (v:Value):(a.put dst v).tmps.size=a.tmps.size:=by cases dst <;> simp[Act.put]
theorem put_defers (a:Act) (dst:Option Nat) (v:Value):(a.put dst v).defers=a.defers:=by cases dst <;> rfl
theorem FrOk.put {adr:Env} {M:Nat→Prop} {w:World} {fr:List (Nat×V)} {a:Act} {N:Nat} (h:FrOk adr M w fr a) (hN:a.tmps.size=N) {dst:Option Nat} (hd:dstB N dst=true) {s:V} {v:Value} (hv:DenV adr M w s v) :
 FrOk adr M w (putF fr dst s) (a.put dst v):=by
 cases dst with
 | none=>exact h
 | some d =>
  intro t s' hl
  simp only[putF,look_cons] at hl
  rw[tmps_put hN hd]
  by_cases hdt:d=t
  ·simp only[hdt,if_true,Option.some.injEq] at hl ⊢
   subst hl;exact hv
  ·simp only[hdt,if_false] at hl ⊢
   exact h t s' hl
theorem Ok.put {gl:List (Nat×List D)} {M0 S0:Nat→Prop} {w0:Base} {N:Nat} {adr:Env} {fr:List (Nat×V)} {L:List (Nat×Blk)} {n:Nat} {a:Act} {w:World} (h:Ok gl M0 S0 w0 N adr fr L n a w)
 {dst:Option Nat} (hd:dstB N dst=true) {s:V} {v:Value} (hv:DenV adr (Mut M0 adr L) w s v):Ok gl M0 S0 w0 N adr (putF fr dst s) L n (a.put dst v) w :=
 ⟨by rw[put_size];exact h.size,by rw[put_defers];exact h.defers,h.fr.put h.size hd hv,h.wok,h.glob,h.base,h.new,h.same⟩
end
end Go.EYtfcmhmglpcimiaaGreatDoor
