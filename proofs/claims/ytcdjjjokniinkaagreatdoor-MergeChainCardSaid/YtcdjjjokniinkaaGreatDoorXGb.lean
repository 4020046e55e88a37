/- Proved: a part of what the law is proved with (the reckoner, contracts of functions, plain laws). Conditions: as each says. -/
import Derived.Handy
section
namespace Go.Proofs.YtcdjjjokniinkaaGreatDoor
set_option maxRecDepth 100000
structure Rf where
 c:Int
 r:Int
 fc:Bool
 fr:Bool
inductive Nd where
 | mk (k n:Int) (s:List UInt8) (a b:Rf) (ks:List Nd)
inductive Rs (α:Type) where
 | ok (v:α) (i:Nat)
 | no (i:Nat) (e:Int)
namespace Rs
def bind {α β:Type} (x:Rs α) (f:α→Nat→Rs β):Rs β:=match x with
 | ok v i=>f v i
 | no i e=>no i e
@[simp] theorem bind_ok {α β:Type} (v:α) (i:Nat) (f:α→Nat→Rs β):(ok v i).bind f=f v i:=rfl
@[simp] theorem bind_no {α β:Type} (i:Nat) (e:Int) (f:α→Nat→Rs β):(no i e:Rs α).bind f=no i e:=rfl
end Rs
def z0:Rf:=⟨0,0,false,false⟩
def twoN (op:Int) (a b:Nd):Nd:=.mk 8 op [] z0 z0 [a,b]
def blk:List UInt8→Nat
 | []=>0
 | c::r=>if c=32 then blk r+1 else 0
theorem blk_le:∀ l:List UInt8,blk l≤l.length
 | []=>Nat.le_refl _
 | c::r=>by
  unfold blk
  split
  ·have:=blk_le r;simp;omega
  ·exact Nat.zero_le _
theorem blk_drop:∀ l:List UInt8,blk (l.drop (blk l))=0
 | []=>rfl
 | c::r=>by
  by_cases h:c=32
  ·have:blk (c::r)=blk r+1:=by simp[blk,h]
   rw[this]
   exact blk_drop r
  ·have:blk (c::r)=0:=by simp[blk,h]
   rw[this]
   simp[blk,h]
def skp (s:List UInt8) (i:Nat):Nat:=i+blk (s.drop i)
theorem skp_skp (s:List UInt8) (i:Nat):skp s (skp s i)=skp s i:=by
 unfold skp
 rw[← List.drop_drop,blk_drop]
 rfl
theorem le_skp (s:List UInt8) (i:Nat):i≤skp s i:=Nat.le_add_right _ _
theorem skp_le {s:List UInt8} {i:Nat} (h:i≤s.length):skp s i≤s.length:=by
 have:=blk_le (s.drop i)
 rw[List.length_drop] at this
 unfold skp
 omega
def opT:List UInt8→Option (Nat×Nat)
 | 60::62::_=>some (2,2)
 | 60::61::_=>some (4,2)
 | 62::61::_=>some (6,2)
 | 61::_=>some (1,1)
 | 60::_=>some (3,1)
 | 62::_=>some (5,1)
 | 38::_=>some (7,1)
 | 43::_=>some (8,1)
 | 45::_=>some (9,1)
 | 42::_=>some (10,1)
 | 47::_=>some (11,1)
 | _=>none
def opA (s:List UInt8) (i:Nat):Option (Nat×Nat):=opT (s.drop (skp s i))
def tgt (op:Nat):Nat:=if op≤6 then 1 else if op=7 then 2 else if op≤9 then 3 else 4
theorem opT_len {l:List UInt8} {op n:Nat} (h:opT l=some (op,n)):1≤n∧n≤l.length:=by
 unfold opT at h
 split at h <;> first|(simp only[reduceCtorEq] at h;done)|(simp only[Option.some.injEq,Prod.mk.injEq] at h;obtain ⟨_,rfl⟩:=h;simp)
theorem opA_len {s:List UInt8} {i op n:Nat} (h:opA s i=some (op,n)):1≤n∧skp s i+n≤s.length:=by
 obtain ⟨h1,h2⟩:=opT_len h
 rw[List.length_drop] at h2
 omega
def frm (s:List UInt8) (sub:Nat→Nat→Rs Nd) (sel:Nat→Bool):Nat→Nd→Nat→Rs Nd
 | 0,n,j=>.ok n j
 | f+1,n,j=>match opA s j with
  | some (op,len)=>if sel op=true then (sub op (skp s j+len)).bind fun m k=>frm s sub sel f (twoN op n m) k else .ok n j
  | none=>.ok n j
section
variable {s:List UInt8}
def Fwd (s:List UInt8) (f:Nat→Rs Nd):Prop:=∀ i n j,i≤s.length→f i=.ok n j→i<j∧j≤s.length
theorem frm_fwd {sub:Nat→Nat→Rs Nd} {sel:Nat→Bool} (hs:∀ op,Fwd s (sub op)):∀ {F:Nat} {n:Nd} {j:Nat} {m:Nd} {k:Nat},j≤s.length→frm s sub sel F n j=.ok m k→j≤k∧k≤s.length
 | 0,n,j,m,k,hj,h=>by cases h;exact ⟨Nat.le_refl _,hj⟩
 | F+1,n,j,m,k,hj,h=>by
  unfold frm at h
  split at h
  ·rename_i op len ho
   have hl:=opA_len ho
   split at h
   ·cases hx:sub op (skp s j+len) with
    | no a e=>rw[hx] at h;cases h
    | ok m' k' =>
     rw[hx] at h
     have h1:=hs op _ _ _ hl.2 hx
     have h2:=frm_fwd hs h1.2 h
     have:=le_skp s j
     omega
   ·cases h;exact ⟨Nat.le_refl _,hj⟩
  ·cases h;exact ⟨Nat.le_refl _,hj⟩
theorem frm_none {sub:Nat→Nat→Rs Nd} {sel:Nat→Bool} {F:Nat} {n:Nd} {j:Nat} (h:∀ op len,opA s j=some (op,len)→sel op=false):frm s sub sel F n j=.ok n j:=by
 cases F with
 | zero=>rfl
 | succ F =>
  unfold frm
  split
  ·rename_i op len ho
   rw[if_neg (by rw[h op len ho];simp)]
  ·rfl
def skR (s:List UInt8):Rs Nd→Rs Nd
 | .ok n j=>.ok n (skp s j)
 | .no a e=>.no a e
variable (s) (one:Nat→Rs Nd)
def Tw:Nat→Nat→Rs Nd
 | 0,i=>one i
 | c+1,i=>(Tw c i).bind fun n j=>skR s (frm s (fun _=>Tw c) (fun op=>decide (tgt op=4 - c)) (s.length+1) n j)
variable {s} {one}
end
end Go.Proofs.YtcdjjjokniinkaaGreatDoor
end
section
namespace Go.Proofs.YtcdjjjokniinkaaGreatDoor
set_option maxRecDepth 100000
structure Par where
 pl:List UInt8→Option Nd
 cl:List UInt8→Bool
 rf:List UInt8→Option Rf
 lit:List UInt8→Option (Int×Nat)
 hlit:∀ t n l,lit t=some (n,l)→1≤l∧l≤t.length
abbrev wordlyP (c:UInt8):Prop:=c=36∨(48≤c∧c≤57)∨(65≤c∧c≤90)∨(97≤c∧c≤122)
def wdl:List UInt8→Nat
 | []=>0
 | c::r=>if wordlyP c then wdl r+1 else 0
theorem wdl_le:∀ l:List UInt8,wdl l≤l.length
 | []=>Nat.le_refl _
 | c::r=>by
  unfold wdl
  split
  ·have:=wdl_le r;simp;omega
  ·exact Nat.zero_le _
def wdAt (s:List UInt8) (i:Nat):List UInt8:=(s.drop i).take (wdl (s.drop i))
def wdE (s:List UInt8) (i:Nat):Nat:=i+wdl (s.drop i)
theorem wdE_le {s:List UInt8} {i:Nat} (h:i≤s.length):wdE s i≤s.length:=by
 have:=wdl_le (s.drop i)
 rw[List.length_drop] at this
 unfold wdE
 omega
def txtF:List UInt8→Option (List UInt8×Nat)
 | []=>none
 | [c]=>if c=34 then some ([],1) else none
 | c::d::r=>if c=34 then (if d=34 then (txtF r).map fun q=>(34::q.1,q.2+2) else some ([],1)) else (txtF (d::r)).map fun q=>(c::q.1,q.2+1)
theorem txtF_len:∀ (t:List UInt8) (b:List UInt8) (l:Nat),txtF t=some (b,l)→1≤l∧l≤t.length
 | [],b,l,h=>by cases h
 | [c],b,l,h=>by
  unfold txtF at h
  split at h
  ·cases h;simp
  ·cases h
 | c::d::r,b,l,h=>by
  unfold txtF at h
  split at h
  ·split at h
   ·obtain ⟨q,hq,h2⟩:=Option.map_eq_some_iff.1 h
    have:=txtF_len r q.1 q.2 hq
    cases h2
    simp;omega
   ·cases h;simp
  ·obtain ⟨q,hq,h2⟩:=Option.map_eq_some_iff.1 h
   have:=txtF_len (d::r) q.1 q.2 hq
   cases h2
   simp at this ⊢;omega
section
variable (p:Par) (s:List UInt8)
def argF (tw:Nat→Rs Nd) (i:Nat):Rs Nd :=
 match p.rf (wdAt s (skp s i)) with
 | none=>tw (skp s i)
 | some a=>if s[wdE s (skp s i)]?=some 58 then (match p.rf (wdAt s (wdE s (skp s i)+1)) with
  | some b=>.ok (.mk 6 0 [] a b []) (wdE s (wdE s (skp s i)+1))
  | none=>.no (wdE s (skp s i)+1) 2) else tw (skp s i)
def argsF (tw:Nat→Rs Nd):Nat→List Nd→Nat→Rs (List Nd)
 | 0,ks,i=>.ok ks i
 | f+1,ks,i=>(argF p s tw i).bind fun a j =>
  if s[skp s j]?=some 44 then argsF tw f (ks++[a]) (skp s j+1) else if s[skp s j]?=some 41 then .ok (ks++[a]) (skp s j+1) else .no (skp s j) 2
def callF (tw:Nat→Rs Nd) (w:List UInt8) (k:Nat):Rs Nd :=
 if s[skp s (k+1)]?=some 41 then .ok (.mk 9 0 w z0 z0 []) (skp s (k+1)+1) else (argsF p s tw (s.length+1) [] (k+1)).bind fun ks j=>.ok (.mk 9 0 w z0 z0 ks) j
def parF (tw:Nat→Rs Nd) (i:Nat):Rs Nd:=(tw i).bind fun n k=>if s[skp s k]?=some 41 then .ok n (skp s k+1) else .no (skp s k) 2
def wordF (full:Bool) (tw:Nat→Rs Nd) (j:Nat):Rs Nd :=
 if s[wdE s j]?=some 40∧p.cl (wdAt s j)=true then (if full=true then .no j 4 else callF p s tw (wdAt s j) (wdE s j)) else match p.pl (wdAt s j) with
  | some n=>.ok n (wdE s j)
  | none=>.no j 2
def primF (full:Bool) (tw:Nat→Rs Nd) (j:Nat):Rs Nd:=match s[j]? with
 | none=>.no j 2
 | some c =>
  if c=40 then (if full=true then .no j 4 else parF s tw (j+1)) else
  if c=34 then (match txtF (s.drop (j+1)) with
   | some (b,l)=>.ok (.mk 2 0 b z0 z0 []) (j+1+l)
   | none=>.no j 2) else
  if c=35 then (match p.lit (s.drop j) with
   | some (n,l)=>.ok (.mk 4 n [] z0 z0 []) (j+l)
   | none=>.no j 2) else
  if wordlyP c then wordF p s full tw j else .no j 2
def negN (n:Nd):Nd:=.mk 7 0 [] z0 z0 [n]
def negF (full:Bool) (ng tw:Nat→Rs Nd) (i:Nat):Rs Nd :=
 if s[skp s i]?=some 45 then (if full=true then .no (skp s i) 4 else (ng (skp s i+1)).bind fun n k=>.ok (negN n) k) else primF p s full tw (skp s i)
def oneA:Nat→Nat→Rs Nd
 | 0=>negF p s true (fun i=>.no i 0) (fun i=>.no i 0)
 | d+1=>negF p s false (oneA d) (Tw s (oneA d) 4)
variable {p s}
theorem lt_of_get {i:Nat} {c:UInt8} (h:s[i]?=some c):i<s.length:=(List.getElem?_eq_some_iff.1 h).1
theorem argF_fwd {tw:Nat→Rs Nd} (ht:Fwd s tw) {i:Nat} {n:Nd} {j:Nat} (hi:i≤s.length) (h:argF p s tw i=.ok n j):i≤j∧j≤s.length:=by
 have h1:=skp_le hi
 have h2:=le_skp s i
 unfold argF at h
 split at h
 ·have:=ht _ _ _ h1 h;omega
 ·split at h
  ·rename_i hk
   have hk':=lt_of_get hk
   split at h
   ·cases h
    have h3:wdE s (skp s i)+1≤s.length:=hk'
    have h4:=wdE_le h3
    have h5:skp s i≤wdE s (skp s i):=Nat.le_add_right _ _
    have h6:wdE s (skp s i)+1≤wdE s (wdE s (skp s i)+1):=Nat.le_add_right _ _
    omega
   ·cases h
  ·have:=ht _ _ _ h1 h;omega
theorem argsF_fwd {tw:Nat→Rs Nd} (ht:Fwd s tw):∀ {f:Nat} {ks:List Nd} {i:Nat} {ls:List Nd} {j:Nat},i≤s.length→argsF p s tw f ks i=.ok ls j→i≤j∧j≤s.length
 | 0,ks,i,ls,j,hi,h=>by cases h;exact ⟨Nat.le_refl _,hi⟩
 | f+1,ks,i,ls,j,hi,h=>by
  unfold argsF at h
  cases hx:argF p s tw i with
  | no a e=>rw[hx] at h;cases h
  | ok a k =>
   rw[hx] at h
   have h1:=argF_fwd ht hi hx
   simp only[Rs.bind_ok] at h
   split at h
   ·rename_i hk
    have h2:=lt_of_get hk
    have h3:=argsF_fwd ht (show skp s k+1≤s.length from h2) h
    have:=le_skp s k
    omega
   ·split at h
    ·rename_i hk
     have h2:=lt_of_get hk
     cases h
     have:=le_skp s k
     omega
    ·cases h
theorem callF_fwd {tw:Nat→Rs Nd} (ht:Fwd s tw) {w:List UInt8} {k:Nat} {n:Nd} {j:Nat} (hk:k<s.length) (h:callF p s tw w k=.ok n j):k<j∧j≤s.length:=by
 unfold callF at h
 split at h
 ·rename_i hq
  have:=lt_of_get hq
  cases h
  have:=le_skp s (k+1)
  omega
 ·cases hx:argsF p s tw (s.length+1) [] (k+1) with
  | no a e=>rw[hx] at h;cases h
  | ok ls j' =>
   rw[hx] at h
   cases h
   have:=argsF_fwd ht (show k+1≤s.length from hk) hx
   omega
theorem primF_fwd {full:Bool} {tw:Nat→Rs Nd} (ht:Fwd s tw) {i:Nat} {n:Nd} {j:Nat} (h:primF p s full tw i=.ok n j):i<j∧j≤s.length:=by
 unfold primF at h
 split at h
 ·cases h
 ·rename_i c hc
  have hl:=lt_of_get hc
  split at h
  ·split at h
   ·cases h
   ·unfold parF at h
    cases hx:tw (i+1) with
    | no a e=>rw[hx] at h;cases h
    | ok m k =>
     rw[hx] at h
     simp only[Rs.bind_ok] at h
     have h1:=ht _ _ _ (show i+1≤s.length from hl) hx
     split at h
     ·rename_i hq
      have:=lt_of_get hq
      cases h
      have:=le_skp s k
      omega
     ·cases h
  ·split at h
   ·split at h
    ·rename_i b l hq
     have:=txtF_len _ _ _ hq
     rw[List.length_drop] at this
     cases h
     omega
    ·cases h
   ·split at h
    ·split at h
     ·rename_i b l hq
      have:=p.hlit _ _ _ hq
      rw[List.length_drop] at this
      cases h
      omega
     ·cases h
    ·split at h
     ·rename_i hw
      have hd:wdE s i=i+wdl (s.drop i):=rfl
      have h1:1≤wdl (s.drop i):=by
       rw[List.drop_eq_getElem_cons hl]
       have:s[i]=c:=by
        rw[List.getElem?_eq_getElem hl] at hc;exact Option.some.inj hc
       rw[this]
       unfold wdl
       rw[if_pos hw]
       omega
      have h2:=wdE_le (show i≤s.length by omega)
      unfold wordF at h
      split at h
      ·rename_i hq
       split at h
       ·cases h
       ·have:=callF_fwd ht (lt_of_get hq.1) h
        omega
      ·split at h
       ·cases h;omega
       ·cases h
     ·cases h
theorem negF_fwd {full:Bool} {ng tw:Nat→Rs Nd} (hn:Fwd s ng) (ht:Fwd s tw):Fwd s (negF p s full ng tw):=by
 intro i n j hi h
 have h2:=le_skp s i
 unfold negF at h
 split at h
 ·rename_i hq
  have hl:=lt_of_get hq
  split at h
  ·cases h
  ·cases hx:ng (skp s i+1) with
   | no a e=>rw[hx] at h;cases h
   | ok m k =>
    rw[hx] at h
    cases h
    have:=hn _ _ _ (show skp s i+1≤s.length from hl) hx
    omega
 ·have:=primF_fwd ht h;omega
theorem Tw_fwd {one:Nat→Rs Nd} (h1:Fwd s one):∀ c,Fwd s (Tw s one c)
 | 0=>h1
 | c+1=>fun i n j hi h=>by
  unfold Tw at h
  cases hx:Tw s one c i with
  | no a e=>rw[hx] at h;cases h
  | ok n' j' =>
   rw[hx] at h
   simp only[Rs.bind_ok] at h
   have h2:=Tw_fwd h1 c i _ _ hi hx
   cases hy:frm s (fun _=>Tw s one c) (fun op=>decide (tgt op=4 - c)) (s.length+1) n' j' with
   | no a e=>rw[hy] at h;cases h
   | ok n2 j2 =>
    rw[hy] at h
    cases h
    have h3:=frm_fwd (fun _=>Tw_fwd h1 c) h2.2 hy
    have h4:=skp_le h3.2
    have:=le_skp s j2
    omega
theorem no_fwd:Fwd s (fun i=>.no i 0):=fun i n j _ h=>by cases h
theorem oneA_fwd:∀ d,Fwd s (oneA p s d)
 | 0=>negF_fwd no_fwd no_fwd
 | d+1=>negF_fwd (oneA_fwd d) (Tw_fwd (oneA_fwd d) 4)
def allF (rd:Nat→Rs Nd):Rs Nd:=(rd 1).bind fun n k=>if skp s k=s.length then .ok n 0 else .no (skp s k) 2
end
end Go.Proofs.YtcdjjjokniinkaaGreatDoor
end
