/- Proved: a part of what the law is proved with (the reckoner, contracts of functions, plain laws). Conditions: as each says. -/
import Derived.Test.YtfkjhfdpphfjhaaGreatDoorXFp
import Derived.Test.YtfkjhfdpphfjhaaGreatDoorXGa
namespace Go.Proofs.YtfkjhfdpphfjhaaGreatDoor
set_option maxRecDepth 100000
section
structure Par where
 pl:List UInt8→Option Nd
 cl:List UInt8→Bool
 rf:List UInt8→Option Rf
 lit:List UInt8→Option (Int×Nat)
 hlit:∀ t n l,lit t=some (n,l)→1≤l∧l≤t.length
abbrev wordlyP (c:UInt8):Prop:=c=36∨(48≤c∧c≤57)∨(65≤c∧c≤90)∨(97≤c∧c≤122)
def wdl:List UInt8→Nat
 | []=>0
 | c::r=>if wordlyP c then wdl r+1 else 0
theorem wdl_le:∀ l:List UInt8,wdl l≤l.length
 | []=>Nat.le_refl _
 | c::r=>by
  unfold wdl
  split
  ·have:=wdl_le r;simp;omega
  ·exact Nat.zero_le _
def wdAt (s:List UInt8) (i:Nat):List UInt8:=(s.drop i).take (wdl (s.drop i))
def wdE (s:List UInt8) (i:Nat):Nat:=i+wdl (s.drop i)
theorem wdE_le {s:List UInt8} {i:Nat} (h:i≤s.length):wdE s i≤s.length:=by
 have:=wdl_le (s.drop i)
 rw[List.length_drop] at this
 unfold wdE
 omega
def txtF:List UInt8→Option (List UInt8×Nat)
 | []=>none
 | [c]=>if c=34 then some ([],1) else none
 | c::d::r=>if c=34 then (if d=34 then (txtF r).map fun q=>(34::q.1,q.2+2) else some ([],1)) else (txtF (d::r)).map fun q=>(c::q.1,q.2+1)
theorem txtF_len:∀ (t:List UInt8) (b:List UInt8) (l:Nat),txtF t=some (b,l)→1≤l∧l≤t.length
 | [],b,l,h=>by cases h
 | [c],b,l,h=>by
  unfold txtF at h
  split at h
  ·cases h;simp
  ·cases h
 | c::d::r,b,l,h=>by
  unfold txtF at h
  split at h
  ·split at h
   ·obtain ⟨q,hq,h2⟩:=Option.map_eq_some_iff.1 h
    have:=txtF_len r q.1 q.2 hq
    cases h2
    simp;omega
   ·cases h;simp
  ·obtain ⟨q,hq,h2⟩:=Option.map_eq_some_iff.1 h
   have:=txtF_len (d::r) q.1 q.2 hq
   cases h2
   simp at this ⊢;omega
section
variable (p:Par) (s:List UInt8)
def argF (tw:Nat→Rs Nd) (i:Nat):Rs Nd :=
 match p.rf (wdAt s (skp s i)) with
 | none=>tw (skp s i)
 | some a=>if s[wdE s (skp s i)]?=some 58 then (match p.rf (wdAt s (wdE s (skp s i)+1)) with
  | some b=>.ok (.mk 6 0 [] a b []) (wdE s (wdE s (skp s i)+1))
  | none=>.no (wdE s (skp s i)+1) 2) else tw (skp s i)
def argsF (tw:Nat→Rs Nd):Nat→List Nd→Nat→Rs (List Nd)
 | 0,ks,i=>.ok ks i
 | f+1,ks,i=>(argF p s tw i).bind fun a j =>
  if s[skp s j]?=some 44 then argsF tw f (ks++[a]) (skp s j+1) else if s[skp s j]?=some 41 then .ok (ks++[a]) (skp s j+1) else .no (skp s j) 2
def callF (tw:Nat→Rs Nd) (w:List UInt8) (k:Nat):Rs Nd :=
 if s[skp s (k+1)]?=some 41 then .ok (.mk 9 0 w z0 z0 []) (skp s (k+1)+1) else (argsF p s tw (s.length+1) [] (k+1)).bind fun ks j=>.ok (.mk 9 0 w z0 z0 ks) j
def parF (tw:Nat→Rs Nd) (i:Nat):Rs Nd:=(tw i).bind fun n k=>if s[skp s k]?=some 41 then .ok n (skp s k+1) else .no (skp s k) 2
def wordF (full:Bool) (tw:Nat→Rs Nd) (j:Nat):Rs Nd :=
 if s[wdE s j]?=some 40∧p.cl (wdAt s j)=true then (if full=true then .no j 4 else callF p s tw (wdAt s j) (wdE s j)) else match p.pl (wdAt s j) with
  | some n=>.ok n (wdE s j)
  | none=>.no j 2
def primF (full:Bool) (tw:Nat→Rs Nd) (j:Nat):Rs Nd:=match s[j]? with
 | none=>.no j 2
 | some c =>
  if c=40 then (if full=true then .no j 4 else parF s tw (j+1)) else
  if c=34 then (match txtF (s.drop (j+1)) with
   | some (b,l)=>.ok (.mk 2 0 b z0 z0 []) (j+1+l)
   | none=>.no j 2) else
  if c=35 then (match p.lit (s.drop j) with
   | some (n,l)=>.ok (.mk 4 n [] z0 z0 []) (j+l)
   | none=>.no j 2) else
  if wordlyP c then wordF p s full tw j else .no j 2
def negN (n:Nd):Nd:=.mk 7 0 [] z0 z0 [n]
def negF (full:Bool) (ng tw:Nat→Rs Nd) (i:Nat):Rs Nd :=
 if s[skp s i]?=some 45 then (if full=true then .no (skp s i) 4 else (ng (skp s i+1)).bind fun n k=>.ok (negN n) k) else primF p s full tw (skp s i)
def oneA:Nat→Nat→Rs Nd
 | 0=>negF p s true (fun i=>.no i 0) (fun i=>.no i 0)
 | d+1=>negF p s false (oneA d) (Tw s (oneA d) 4)
def oneB:Nat→Nat→Rs Nd
 | 0=>negF p s true (fun i=>.no i 0) (fun i=>.no i 0)
 | d+1=>negF p s false (oneB d) (Lo s (oneB d) 4 1)
variable {p s}
theorem lt_of_get {i:Nat} {c:UInt8} (h:s[i]?=some c):i<s.length:=(List.getElem?_eq_some_iff.1 h).1
theorem argF_fwd {tw:Nat→Rs Nd} (ht:Fwd s tw) {i:Nat} {n:Nd} {j:Nat} (hi:i≤s.length) (h:argF p s tw i=.ok n j):i≤j∧j≤s.length:=by
 have h1:=skp_le hi
 have h2:=le_skp s i
 unfold argF at h
 split at h
 ·have:=ht _ _ _ h1 h;omega
 ·split at h
  ·rename_i hk
   have hk':=lt_of_get hk
   split at h
   ·cases h
    have h3:wdE s (skp s i)+1≤s.length:=hk'
    have h4:=wdE_le h3
    have h5:skp s i≤wdE s (skp s i):=Nat.le_add_right _ _
    have h6:wdE s (skp s i)+1≤wdE s (wdE s (skp s i)+1):=Nat.le_add_right _ _
    omega
   ·cases h
  ·have:=ht _ _ _ h1 h;omega
theorem argsF_fwd {tw:Nat→Rs Nd} (ht:Fwd s tw):∀ {f:Nat} {ks:List Nd} {i:Nat} {ls:List Nd} {j:Nat},i≤s.length→argsF p s tw f ks i=.ok ls j→i≤j∧j≤s.length
 | 0,ks,i,ls,j,hi,h=>by cases h;exact ⟨Nat.le_refl _,hi⟩
 | f+1,ks,i,ls,j,hi,h=>by
  unfold argsF at h
  cases hx:argF p s tw i with
  | no a e=>rw[hx] at h;cases h
  | ok a k =>
   rw[hx] at h
   have h1:=argF_fwd ht hi hx
   simp only[Rs.bind_ok] at h
   split at h
   ·rename_i hk
    have h2:=lt_of_get hk
    have h3:=argsF_fwd ht (show skp s k+1≤s.length from h2) h
    have:=le_skp s k
    omega
   ·split at h
    ·rename_i hk
     have h2:=lt_of_get hk
     cases h
     have:=le_skp s k
     omega
    ·cases h
theorem callF_fwd {tw:Nat→Rs Nd} (ht:Fwd s tw) {w:List UInt8} {k:Nat} {n:Nd} {j:Nat} (hk:k<s.length) (h:callF p s tw w k=.ok n j):k<j∧j≤s.length:=by
 unfold callF at h
 split at h
 ·rename_i hq
  have:=lt_of_get hq
  cases h
  have:=le_skp s (k+1)
  omega
 ·cases hx:argsF p s tw (s.length+1) [] (k+1) with
  | no a e=>rw[hx] at h;cases h
  | ok ls j' =>
   rw[hx] at h
   cases h
   have:=argsF_fwd ht (show k+1≤s.length from hk) hx
   omega
theorem primF_fwd {full:Bool} {tw:Nat→Rs Nd} (ht:Fwd s tw) {i:Nat} {n:Nd} {j:Nat} (h:primF p s full tw i=.ok n j):i<j∧j≤s.length:=by
 unfold primF at h
 split at h
 ·cases h
 ·rename_i c hc
  have hl:=lt_of_get hc
  split at h
  ·split at h
   ·cases h
   ·unfold parF at h
    cases hx:tw (i+1) with
    | no a e=>rw[hx] at h;cases h
    | ok m k =>
     rw[hx] at h
     simp only[Rs.bind_ok] at h
     have h1:=ht _ _ _ (show i+1≤s.length from hl) hx
     split at h
     ·rename_i hq
      have:=lt_of_get hq
      cases h
      have:=le_skp s k
      omega
     ·cases h
  ·split at h
   ·split at h
    ·rename_i b l hq
     have:=txtF_len _ _ _ hq
     rw[List.length_drop] at this
     cases h
     omega
    ·cases h
   ·split at h
    ·split at h
     ·rename_i b l hq
      have:=p.hlit _ _ _ hq
      rw[List.length_drop] at this
      cases h
      omega
     ·cases h
    ·split at h
     ·rename_i hw
      have hd:wdE s i=i+wdl (s.drop i):=rfl
      have h1:1≤wdl (s.drop i):=by
       rw[List.drop_eq_getElem_cons hl]
       have:s[i]=c:=by
        rw[List.getElem?_eq_getElem hl] at hc;exact Option.some.inj hc
       rw[this]
       unfold wdl
       rw[if_pos hw]
       omega
      have h2:=wdE_le (show i≤s.length by omega)
      unfold wordF at h
      split at h
      ·rename_i hq
       split at h
       ·cases h
       ·have:=callF_fwd ht (lt_of_get hq.1) h
        omega
      ·split at h
       ·cases h;omega
       ·cases h
     ·cases h
theorem negF_fwd {full:Bool} {ng tw:Nat→Rs Nd} (hn:Fwd s ng) (ht:Fwd s tw):Fwd s (negF p s full ng tw):=by
 intro i n j hi h
 have h2:=le_skp s i
 unfold negF at h
 split at h
 ·rename_i hq
  have hl:=lt_of_get hq
  split at h
  ·cases h
  ·cases hx:ng (skp s i+1) with
   | no a e=>rw[hx] at h;cases h
   | ok m k =>
    rw[hx] at h
    cases h
    have:=hn _ _ _ (show skp s i+1≤s.length from hl) hx
    omega
 ·have:=primF_fwd ht h;omega
theorem Tw_fwd {one:Nat→Rs Nd} (h1:Fwd s one):∀ c,Fwd s (Tw s one c)
 | 0=>h1
 | c+1=>fun i n j hi h=>by
  unfold Tw at h
  cases hx:Tw s one c i with
  | no a e=>rw[hx] at h;cases h
  | ok n' j' =>
   rw[hx] at h
   simp only[Rs.bind_ok] at h
   have h2:=Tw_fwd h1 c i _ _ hi hx
   cases hy:frm s (fun _=>Tw s one c) (fun op=>decide (tgt op=4 - c)) (s.length+1) n' j' with
   | no a e=>rw[hy] at h;cases h
   | ok n2 j2 =>
    rw[hy] at h
    cases h
    have h3:=frm_fwd (fun _=>Tw_fwd h1 c) h2.2 hy
    have h4:=skp_le h3.2
    have:=le_skp s j2
    omega
theorem no_fwd:Fwd s (fun i=>.no i 0):=fun i n j _ h=>by cases h
theorem oneA_fwd:∀ d,Fwd s (oneA p s d)
 | 0=>negF_fwd no_fwd no_fwd
 | d+1=>negF_fwd (oneA_fwd d) (Tw_fwd (oneA_fwd d) 4)
theorem argF_lk {tw tw':Nat→Rs Nd} (h:∀ i,i≤s.length→skR s (tw i)=skR s (tw' i)) {i:Nat} (hi:i≤s.length):skR s (argF p s tw i)=skR s (argF p s tw' i):=by
 unfold argF
 split
 ·exact h _ (skp_le hi)
 ·split
  ·rfl
  ·exact h _ (skp_le hi)
theorem skR_bind {β:Type} {x y:Rs Nd} {f:Nd→Nat→Rs β} (h:skR s x=skR s y) (hf:∀ n j k,skp s j=skp s k→f n j=f n k):x.bind f=y.bind f:=by
 cases x with
 | no a e =>
  cases y with
  | no a' e'=>cases h;rfl
  | ok n j=>cases h
 | ok n j =>
  cases y with
  | no a' e'=>cases h
  | ok n' j' =>
   simp only[skR,Rs.ok.injEq] at h
   obtain ⟨rfl,h2⟩:=h
   exact hf _ _ _ h2
theorem argsF_lk {tw tw':Nat→Rs Nd} (ht:Fwd s tw') (h:∀ i,i≤s.length→skR s (tw i)=skR s (tw' i)):∀ (f:Nat) (ks:List Nd) {i:Nat},i≤s.length→argsF p s tw f ks i=argsF p s tw' f ks i
 | 0,ks,i,hi=>rfl
 | f+1,ks,i,hi=>by
  unfold argsF
  refine (skR_bind (argF_lk h hi) fun n j k hjk=>by rw[hjk]).trans ?_
  cases hx:argF p s tw' i with
  | no a e=>rfl
  | ok a j =>
   simp only[Rs.bind_ok]
   split
   ·rename_i hq
    exact argsF_lk ht h f _ (lt_of_get hq)
   ·rfl
theorem negF_lk {full:Bool} {ng ng' tw tw':Nat→Rs Nd} (ht:Fwd s tw') (hn:∀ i,i≤s.length→ng i=ng' i) (h:∀ i,i≤s.length→skR s (tw i)=skR s (tw' i)) (i:Nat):negF p s full ng tw i=negF p s full ng' tw' i:=by
 unfold negF
 split
 ·rename_i hq
  rw[hn _ (show skp s i+1≤s.length from lt_of_get hq)]
 ·unfold primF
  split
  ·rfl
  ·rename_i c hc
   have hl:=lt_of_get hc
   split
   ·split
    ·rfl
    ·exact skR_bind (h _ (show skp s i+1≤s.length from hl)) fun n j k hjk=>by rw[hjk]
   ·split
    ·rfl
    ·split
     ·rfl
     ·split
      ·unfold wordF
       split
       ·rename_i hq
        split
        ·rfl
        ·unfold callF
         split
         ·rfl
         ·rw[argsF_lk ht h _ _ (show wdE s (skp s i)+1≤s.length from lt_of_get hq.1)]
       ·rfl
      ·rfl
theorem one_eq:∀ d i,oneA p s d i=oneB p s d i
 | 0,i=>rfl
 | d+1,i=>by
  have e:oneB p s d=oneA p s d:=by funext i;exact (one_eq d i).symm
  show negF p s false (oneA p s d) (Tw s (oneA p s d) 4) i=negF p s false (oneB p s d) (Lo s (oneB p s d) 4 1) i
  rw[e]
  exact negF_lk (Lo_fwd (oneA_fwd d) 4 1) (fun _ _=>rfl) (fun i hi=>by
   rw[Tw_eq (oneA_fwd d) 4 i (by omega) hi,Lo_more 4 1 i (by omega)]) i
def allF (rd:Nat→Rs Nd):Rs Nd:=(rd 1).bind fun n k=>if skp s k=s.length then .ok n 0 else .no (skp s k) 2
theorem all_eq (d:Nat) (h:1≤s.length):allF (s:=s) (Tw s (oneA p s d) 4)=allF (s:=s) (Lo s (oneB p s d) 4 1):=by
 have e:oneB p s d=oneA p s d:=by funext i;exact (one_eq d i).symm
 rw[e]
 unfold allF
 exact skR_bind (by rw[Tw_eq (oneA_fwd d) 4 1 (by omega) h,Lo_more 4 1 1 (by omega)]) fun n j k hjk=>by rw[hjk]
end
end
section
open Go Go.EYtfkjhfdpphfjhaaGreatDoor
variable {gl:List (Nat×List D)}
theorem w1:IntKind.i64.wrap 1=1:=by decide
theorem w2:IntKind.i64.wrap 2=2:=by decide
theorem w3:IntKind.i64.wrap 3=3:=by decide
theorem rRef_le {x n:Int} {ch:UInt8} {b b':Bool} (hx:x=((ch.toNat - 64:Nat):Int)):LeD (retD [D.agg [iD x,iD n,.v (.bool b),.v (.bool b')],.v (.bool true)]) (.tup [refD ((ch.toNat - 64:Nat):Int) n b b',tD true]):=by
 subst hx
 exact LeD.tup ⟨LeD.agg ⟨LeD.rfl,LeD.rfl,tD_le _,tD_le _,trivial⟩,tD_le _,trivial⟩
theorem drop_some {s l:List UInt8} {i:Int} {k:Nat} (hi:i=k) (h:s.drop k=l):List.drop ((some i).getD 0).toNat (List.take ((none:Option Int).getD ((s.length:Nat):Int)).toNat s)=l:=by
 subst hi
 show List.drop ((k:Int)).toNat (List.take ((s.length:Nat):Int).toNat s)=l
 rw[Int.toNat_natCast,Int.toNat_natCast,List.take_length];exact h
theorem rRef_As {l:List UInt8} {ch:UInt8} {n:Int} (hc:65≤ch.toNat∧ch.toNat≤90)   (hW:FnP Tryz.prog gl 79 [.str l,fD] (.tup [iD n,.v (.bool true)])) (hn:1≤n∧n≤99):FnP Tryz.prog gl 196 [.str (36::ch::36::l)] (.tup [refD ((ch.toNat - 64:Nat):Int) n true true,tD true]):=by
 have hW2:FnP Tryz.prog gl 79 [.str (List.drop ((some (IntKind.i64.wrap (IntKind.i64.wrap (IntKind.i64.wrap (0+1)+1)+1))).getD 0).toNat (List.take ((none:Option Int).getD (((36::ch::36::l).length:Nat):Int)).toNat (36::ch::36::l))),fD] (.tup [iD n,.v (.bool true)]):=by
  rw[drop_some (k:=3) (by rw[w0111];rfl) rfl];exact hW
 have f36:(((36::ch::36::l).getD (Int.toNat 0) 0).toNat:Int)=36:=rfl
 have f1:¬ (((36::ch::36::l).length:Nat):Int)≤IntKind.i64.wrap (0+1):=by rw[w01];simp;try omega
 have fe:(36::ch::36::l).getD (IntKind.i64.wrap (0+1)).toNat 0=ch:=by rw[w01];rfl
 have g0:(0:Int)<(((36::ch::36::l).length:Nat):Int):=by simp;try omega
 have hlo:¬ (((36::ch::36::l).getD (IntKind.i64.wrap (0+1)).toNat 0).toNat:Int)<65:=by rw[fe];omega
 have hhi:¬ 90<(((36::ch::36::l).getD (IntKind.i64.wrap (0+1)).toNat 0).toNat:Int):=by rw[fe];omega
 have n1:¬ n<1:=by omega
 have n2:¬ 99<n:=by omega
 have g1:IntKind.i64.wrap (IntKind.i64.wrap (0+1)+1)<(((36::ch::36::l).length:Nat):Int):=by rw[w011];simp;try omega
 have g2:(((36::ch::36::l).getD (IntKind.i64.wrap (IntKind.i64.wrap (0+1)+1)).toNat 0).toNat:Int)=36:=by rw[w011];rfl
 refine S0 Tryz.func196 rfl ?_
 ((repeat' ((conv=>whnf);first|exact .intro|refine G ?_|intro _|refine C1 hW2 ?_|refine .mk ?_ ?_|refine AK ?_|refine And.intro (by first|(first|assumption|omega|(simp;done)|(simp[w1,w2,w3];done)|(simp[w1,w2,w3];omega);done)|fail) ?_|fail));all_goals conv=>whnf)
 exact rRef_le (by rw[fe,wrapI (n:=(ch.toNat:Int)) (by omega),wrapI (by omega)];omega)
theorem rRef_An {l:List UInt8} {ch:UInt8} {n:Int} (hc:65≤ch.toNat∧ch.toNat≤90)   (hW:FnP Tryz.prog gl 79 [.str l,fD] (.tup [iD n,.v (.bool true)])) (hn:n<1∨99<n):FnP Tryz.prog gl 196 [.str (36::ch::36::l)] (rrBad):=by
 have hW2:FnP Tryz.prog gl 79 [.str (List.drop ((some (IntKind.i64.wrap (IntKind.i64.wrap (IntKind.i64.wrap (0+1)+1)+1))).getD 0).toNat (List.take ((none:Option Int).getD (((36::ch::36::l).length:Nat):Int)).toNat (36::ch::36::l))),fD] (.tup [iD n,.v (.bool true)]):=by
  rw[drop_some (k:=3) (by rw[w0111];rfl) rfl];exact hW
 have f36:(((36::ch::36::l).getD (Int.toNat 0) 0).toNat:Int)=36:=rfl
 have f1:¬ (((36::ch::36::l).length:Nat):Int)≤IntKind.i64.wrap (0+1):=by rw[w01];simp;try omega
 have fe:(36::ch::36::l).getD (IntKind.i64.wrap (0+1)).toNat 0=ch:=by rw[w01];rfl
 have g0:(0:Int)<(((36::ch::36::l).length:Nat):Int):=by simp;try omega
 have hlo:¬ (((36::ch::36::l).getD (IntKind.i64.wrap (0+1)).toNat 0).toNat:Int)<65:=by rw[fe];omega
 have hhi:¬ 90<(((36::ch::36::l).getD (IntKind.i64.wrap (0+1)).toNat 0).toNat:Int):=by rw[fe];omega
 have g1:IntKind.i64.wrap (IntKind.i64.wrap (0+1)+1)<(((36::ch::36::l).length:Nat):Int):=by rw[w011];simp;try omega
 have g2:(((36::ch::36::l).getD (IntKind.i64.wrap (IntKind.i64.wrap (0+1)+1)).toNat 0).toNat:Int)=36:=by rw[w011];rfl
 by_cases n1:n<1
 ·refine S0 Tryz.func196 rfl ?_
  ((repeat' ((conv=>whnf);first|exact .intro|refine G ?_|intro _|refine C1 hW2 ?_|refine .mk ?_ ?_|refine AK ?_|refine And.intro (by first|(first|assumption|omega|(simp;done)|(simp[w1,w2,w3];done)|(simp[w1,w2,w3];omega);done)|fail) ?_|fail));all_goals conv=>whnf)
  exact rrBad_le
 ·have n2:99<n:=by omega
  refine S0 Tryz.func196 rfl ?_
  ((repeat' ((conv=>whnf);first|exact .intro|refine G ?_|intro _|refine C1 hW2 ?_|refine .mk ?_ ?_|refine AK ?_|refine And.intro (by first|(first|assumption|omega|(simp;done)|(simp[w1,w2,w3];done)|(simp[w1,w2,w3];omega);done)|fail) ?_|fail));all_goals conv=>whnf)
  exact rrBad_le
theorem rRef_Af {l:List UInt8} {ch:UInt8} (hc:65≤ch.toNat∧ch.toNat≤90)   (hW:FnP Tryz.prog gl 79 [.str l,fD] (.tup [iD 0,fD]))  : FnP Tryz.prog gl 196 [.str (36::ch::36::l)] (rrBad):=by
 have hW2:FnP Tryz.prog gl 79 [.str (List.drop ((some (IntKind.i64.wrap (IntKind.i64.wrap (IntKind.i64.wrap (0+1)+1)+1))).getD 0).toNat (List.take ((none:Option Int).getD (((36::ch::36::l).length:Nat):Int)).toNat (36::ch::36::l))),fD] (.tup [iD 0,fD]):=by
  rw[drop_some (k:=3) (by rw[w0111];rfl) rfl];exact hW
 have f36:(((36::ch::36::l).getD (Int.toNat 0) 0).toNat:Int)=36:=rfl
 have f1:¬ (((36::ch::36::l).length:Nat):Int)≤IntKind.i64.wrap (0+1):=by rw[w01];simp;try omega
 have fe:(36::ch::36::l).getD (IntKind.i64.wrap (0+1)).toNat 0=ch:=by rw[w01];rfl
 have g0:(0:Int)<(((36::ch::36::l).length:Nat):Int):=by simp;try omega
 have hlo:¬ (((36::ch::36::l).getD (IntKind.i64.wrap (0+1)).toNat 0).toNat:Int)<65:=by rw[fe];omega
 have hhi:¬ 90<(((36::ch::36::l).getD (IntKind.i64.wrap (0+1)).toNat 0).toNat:Int):=by rw[fe];omega
 have g1:IntKind.i64.wrap (IntKind.i64.wrap (0+1)+1)<(((36::ch::36::l).length:Nat):Int):=by rw[w011];simp;try omega
 have g2:(((36::ch::36::l).getD (IntKind.i64.wrap (IntKind.i64.wrap (0+1)+1)).toNat 0).toNat:Int)=36:=by rw[w011];rfl
 refine S0 Tryz.func196 rfl ?_
 ((repeat' ((conv=>whnf);first|exact .intro|refine G ?_|intro _|refine C1 hW2 ?_|refine .mk ?_ ?_|refine AK ?_|refine And.intro (by first|(first|assumption|omega|(simp;done)|(simp[w1,w2,w3];done)|(simp[w1,w2,w3];omega);done)|fail) ?_|fail));all_goals conv=>whnf)
 exact rrBad_le
theorem rRef_Bs {l:List UInt8} {ch:UInt8} {n:Int} (hc:65≤ch.toNat∧ch.toNat≤90)  (hl36:l.head?≠some 36) (hW:FnP Tryz.prog gl 79 [.str l,fD] (.tup [iD n,.v (.bool true)])) (hn:1≤n∧n≤99):FnP Tryz.prog gl 196 [.str (36::ch::l)] (.tup [refD ((ch.toNat - 64:Nat):Int) n true false,tD true]):=by
 have hW2:FnP Tryz.prog gl 79 [.str (List.drop ((some (IntKind.i64.wrap (IntKind.i64.wrap (0+1)+1))).getD 0).toNat (List.take ((none:Option Int).getD (((36::ch::l).length:Nat):Int)).toNat (36::ch::l))),fD] (.tup [iD n,.v (.bool true)]):=by
  rw[drop_some (k:=2) (by rw[w011];rfl) rfl];exact hW
 have f36:(((36::ch::l).getD (Int.toNat 0) 0).toNat:Int)=36:=rfl
 have f1:¬ (((36::ch::l).length:Nat):Int)≤IntKind.i64.wrap (0+1):=by rw[w01];simp;try omega
 have fe:(36::ch::l).getD (IntKind.i64.wrap (0+1)).toNat 0=ch:=by rw[w01];rfl
 have g0:(0:Int)<(((36::ch::l).length:Nat):Int):=by simp;try omega
 have hlo:¬ (((36::ch::l).getD (IntKind.i64.wrap (0+1)).toNat 0).toNat:Int)<65:=by rw[fe];omega
 have hhi:¬ 90<(((36::ch::l).getD (IntKind.i64.wrap (0+1)).toNat 0).toNat:Int):=by rw[fe];omega
 have n1:¬ n<1:=by omega
 have n2:¬ 99<n:=by omega
 rcases l with _|⟨c,l⟩
 ·have g1:¬ IntKind.i64.wrap (IntKind.i64.wrap (0+1)+1)<(((36::ch::[]).length:Nat):Int):=by rw[w011];simp
  refine S0 Tryz.func196 rfl ?_
  ((repeat' ((conv=>whnf);first|exact .intro|refine G ?_|intro _|refine C1 hW2 ?_|refine .mk ?_ ?_|refine AK ?_|refine And.intro (by first|(first|assumption|omega|(simp;done)|(simp[w1,w2];done)|(simp[w1,w2,w3];omega);done)|fail) ?_|fail));all_goals conv=>whnf)
  exact rRef_le (by rw[fe,wrapI (n:=(ch.toNat:Int)) (by omega),wrapI (by omega)];omega)
 ·have g1:IntKind.i64.wrap (IntKind.i64.wrap (0+1)+1)<(((36::ch::c::l).length:Nat):Int):=by rw[w011];simp;try omega
  have g2:¬ (((36::ch::c::l).getD (IntKind.i64.wrap (IntKind.i64.wrap (0+1)+1)).toNat 0).toNat:Int)=36:=by rw[w011];exact ne36 (c:=c) fun e=>hl36 (congrArg some e)
  refine S0 Tryz.func196 rfl ?_
  ((repeat' ((conv=>whnf);first|exact .intro|refine G ?_|intro _|refine C1 hW2 ?_|refine .mk ?_ ?_|refine AK ?_|refine And.intro (by first|(first|assumption|omega|(simp;done)|(simp[w1,w2];done)|(simp[w1,w2];omega);done)|fail) ?_|fail));all_goals conv=>whnf)
  exact rRef_le (by rw[fe,wrapI (n:=(ch.toNat:Int)) (by omega),wrapI (by omega)];omega)
theorem rRef_Bn {l:List UInt8} {ch:UInt8} {n:Int} (hc:65≤ch.toNat∧ch.toNat≤90)  (hl36:l.head?≠some 36) (hW:FnP Tryz.prog gl 79 [.str l,fD] (.tup [iD n,.v (.bool true)])) (hn:n<1∨99<n):FnP Tryz.prog gl 196 [.str (36::ch::l)] (rrBad):=by
 have hW2:FnP Tryz.prog gl 79 [.str (List.drop ((some (IntKind.i64.wrap (IntKind.i64.wrap (0+1)+1))).getD 0).toNat (List.take ((none:Option Int).getD (((36::ch::l).length:Nat):Int)).toNat (36::ch::l))),fD] (.tup [iD n,.v (.bool true)]):=by
  rw[drop_some (k:=2) (by rw[w011];rfl) rfl];exact hW
 have f36:(((36::ch::l).getD (Int.toNat 0) 0).toNat:Int)=36:=rfl
 have f1:¬ (((36::ch::l).length:Nat):Int)≤IntKind.i64.wrap (0+1):=by rw[w01];simp;try omega
 have fe:(36::ch::l).getD (IntKind.i64.wrap (0+1)).toNat 0=ch:=by rw[w01];rfl
 have g0:(0:Int)<(((36::ch::l).length:Nat):Int):=by simp;try omega
 have hlo:¬ (((36::ch::l).getD (IntKind.i64.wrap (0+1)).toNat 0).toNat:Int)<65:=by rw[fe];omega
 have hhi:¬ 90<(((36::ch::l).getD (IntKind.i64.wrap (0+1)).toNat 0).toNat:Int):=by rw[fe];omega
 rcases l with _|⟨c,l⟩
 ·have g1:¬ IntKind.i64.wrap (IntKind.i64.wrap (0+1)+1)<(((36::ch::[]).length:Nat):Int):=by rw[w011];simp
  by_cases n1:n<1
  ·refine S0 Tryz.func196 rfl ?_
   ((repeat' ((conv=>whnf);first|exact .intro|refine G ?_|intro _|refine C1 hW2 ?_|refine .mk ?_ ?_|refine AK ?_|refine And.intro (by first|(first|assumption|omega|(simp;done)|(simp[w1,w2];done)|(simp[w1,w2,w3];omega);done)|fail) ?_|fail));all_goals conv=>whnf)
   exact rrBad_le
  ·have n2:99<n:=by omega
   refine S0 Tryz.func196 rfl ?_
   ((repeat' ((conv=>whnf);first|exact .intro|refine G ?_|intro _|refine C1 hW2 ?_|refine .mk ?_ ?_|refine AK ?_|refine And.intro (by first|(first|assumption|omega|(simp;done)|(simp[w1,w2];done)|(simp[w1,w2,w3];omega);done)|fail) ?_|fail));all_goals conv=>whnf)
   exact rrBad_le
 ·have g1:IntKind.i64.wrap (IntKind.i64.wrap (0+1)+1)<(((36::ch::c::l).length:Nat):Int):=by rw[w011];simp;try omega
  have g2:¬ (((36::ch::c::l).getD (IntKind.i64.wrap (IntKind.i64.wrap (0+1)+1)).toNat 0).toNat:Int)=36:=by rw[w011];exact ne36 (c:=c) fun e=>hl36 (congrArg some e)
  by_cases n1:n<1
  ·refine S0 Tryz.func196 rfl ?_
   ((repeat' ((conv=>whnf);first|exact .intro|refine G ?_|intro _|refine C1 hW2 ?_|refine .mk ?_ ?_|refine AK ?_|refine And.intro (by first|(first|assumption|omega|(simp;done)|(simp[w1,w2];done)|(simp[w1,w2];omega);done)|fail) ?_|fail));all_goals conv=>whnf)
   exact rrBad_le
  ·have n2:99<n:=by omega
   refine S0 Tryz.func196 rfl ?_
   ((repeat' ((conv=>whnf);first|exact .intro|refine G ?_|intro _|refine C1 hW2 ?_|refine .mk ?_ ?_|refine AK ?_|refine And.intro (by first|(first|assumption|omega|(simp;done)|(simp[w1,w2];done)|(simp[w1,w2];omega);done)|fail) ?_|fail));all_goals conv=>whnf)
   exact rrBad_le
theorem rRef_Bf {l:List UInt8} {ch:UInt8} (hc:65≤ch.toNat∧ch.toNat≤90)  (hl36:l.head?≠some 36) (hW:FnP Tryz.prog gl 79 [.str l,fD] (.tup [iD 0,fD]))  : FnP Tryz.prog gl 196 [.str (36::ch::l)] (rrBad):=by
 have hW2:FnP Tryz.prog gl 79 [.str (List.drop ((some (IntKind.i64.wrap (IntKind.i64.wrap (0+1)+1))).getD 0).toNat (List.take ((none:Option Int).getD (((36::ch::l).length:Nat):Int)).toNat (36::ch::l))),fD] (.tup [iD 0,fD]):=by
  rw[drop_some (k:=2) (by rw[w011];rfl) rfl];exact hW
 have f36:(((36::ch::l).getD (Int.toNat 0) 0).toNat:Int)=36:=rfl
 have f1:¬ (((36::ch::l).length:Nat):Int)≤IntKind.i64.wrap (0+1):=by rw[w01];simp;try omega
 have fe:(36::ch::l).getD (IntKind.i64.wrap (0+1)).toNat 0=ch:=by rw[w01];rfl
 have g0:(0:Int)<(((36::ch::l).length:Nat):Int):=by simp;try omega
 have hlo:¬ (((36::ch::l).getD (IntKind.i64.wrap (0+1)).toNat 0).toNat:Int)<65:=by rw[fe];omega
 have hhi:¬ 90<(((36::ch::l).getD (IntKind.i64.wrap (0+1)).toNat 0).toNat:Int):=by rw[fe];omega
 rcases l with _|⟨c,l⟩
 ·have g1:¬ IntKind.i64.wrap (IntKind.i64.wrap (0+1)+1)<(((36::ch::[]).length:Nat):Int):=by rw[w011];simp
  refine S0 Tryz.func196 rfl ?_
  ((repeat' ((conv=>whnf);first|exact .intro|refine G ?_|intro _|refine C1 hW2 ?_|refine .mk ?_ ?_|refine AK ?_|refine And.intro (by first|(first|assumption|omega|(simp;done)|(simp[w1,w2];done)|(simp[w1,w2,w3];omega);done)|fail) ?_|fail));all_goals conv=>whnf)
  exact rrBad_le
 ·have g1:IntKind.i64.wrap (IntKind.i64.wrap (0+1)+1)<(((36::ch::c::l).length:Nat):Int):=by rw[w011];simp;try omega
  have g2:¬ (((36::ch::c::l).getD (IntKind.i64.wrap (IntKind.i64.wrap (0+1)+1)).toNat 0).toNat:Int)=36:=by rw[w011];exact ne36 (c:=c) fun e=>hl36 (congrArg some e)
  refine S0 Tryz.func196 rfl ?_
  ((repeat' ((conv=>whnf);first|exact .intro|refine G ?_|intro _|refine C1 hW2 ?_|refine .mk ?_ ?_|refine AK ?_|refine And.intro (by first|(first|assumption|omega|(simp;done)|(simp[w1,w2];done)|(simp[w1,w2];omega);done)|fail) ?_|fail));all_goals conv=>whnf)
  exact rrBad_le
theorem rRef_Cs {l:List UInt8} {ch:UInt8} {n:Int} (hc:65≤ch.toNat∧ch.toNat≤90) (h36:ch≠36)  (hW:FnP Tryz.prog gl 79 [.str l,fD] (.tup [iD n,.v (.bool true)])) (hn:1≤n∧n≤99):FnP Tryz.prog gl 196 [.str (ch::36::l)] (.tup [refD ((ch.toNat - 64:Nat):Int) n false true,tD true]):=by
 have hW2:FnP Tryz.prog gl 79 [.str (List.drop ((some (IntKind.i64.wrap (IntKind.i64.wrap (0+1)+1))).getD 0).toNat (List.take ((none:Option Int).getD (((ch::36::l).length:Nat):Int)).toNat (ch::36::l))),fD] (.tup [iD n,.v (.bool true)]):=by
  rw[drop_some (k:=2) (by rw[w011];rfl) rfl];exact hW
 have f0:¬ (((ch::36::l).getD (Int.toNat 0) 0).toNat:Int)=36:=ne36 h36
 have f1:¬ (((ch::36::l).length:Nat):Int)≤0:=by simp;try omega
 have fe:(ch::36::l).getD (Int.toNat 0) 0=ch:=rfl
 have g0:(0:Int)<(((ch::36::l).length:Nat):Int):=by simp;try omega
 have hlo:¬ (((ch::36::l).getD (Int.toNat 0) 0).toNat:Int)<65:=by rw[fe];omega
 have hhi:¬ 90<(((ch::36::l).getD (Int.toNat 0) 0).toNat:Int):=by rw[fe];omega
 have n1:¬ n<1:=by omega
 have n2:¬ 99<n:=by omega
 have g1:IntKind.i64.wrap (0+1)<(((ch::36::l).length:Nat):Int):=by rw[w01];simp;try omega
 have g2:(((ch::36::l).getD (IntKind.i64.wrap (0+1)).toNat 0).toNat:Int)=36:=by rw[w01];rfl
 refine S0 Tryz.func196 rfl ?_
 ((repeat' ((conv=>whnf);first|exact .intro|refine G ?_|intro _|refine C1 hW2 ?_|refine .mk ?_ ?_|refine AK ?_|refine And.intro (by first|(first|assumption|omega|(simp;done)|(simp[w1,w2];done)|(simp[w1,w2];omega);done)|fail) ?_|fail));all_goals conv=>whnf)
 exact rRef_le (by rw[fe,wrapI (n:=(ch.toNat:Int)) (by omega),wrapI (by omega)];omega)
theorem rRef_Cn {l:List UInt8} {ch:UInt8} {n:Int} (hc:65≤ch.toNat∧ch.toNat≤90) (h36:ch≠36)  (hW:FnP Tryz.prog gl 79 [.str l,fD] (.tup [iD n,.v (.bool true)])) (hn:n<1∨99<n):FnP Tryz.prog gl 196 [.str (ch::36::l)] (rrBad):=by
 have hW2:FnP Tryz.prog gl 79 [.str (List.drop ((some (IntKind.i64.wrap (IntKind.i64.wrap (0+1)+1))).getD 0).toNat (List.take ((none:Option Int).getD (((ch::36::l).length:Nat):Int)).toNat (ch::36::l))),fD] (.tup [iD n,.v (.bool true)]):=by
  rw[drop_some (k:=2) (by rw[w011];rfl) rfl];exact hW
 have f0:¬ (((ch::36::l).getD (Int.toNat 0) 0).toNat:Int)=36:=ne36 h36
 have f1:¬ (((ch::36::l).length:Nat):Int)≤0:=by simp;try omega
 have fe:(ch::36::l).getD (Int.toNat 0) 0=ch:=rfl
 have g0:(0:Int)<(((ch::36::l).length:Nat):Int):=by simp;try omega
 have hlo:¬ (((ch::36::l).getD (Int.toNat 0) 0).toNat:Int)<65:=by rw[fe];omega
 have hhi:¬ 90<(((ch::36::l).getD (Int.toNat 0) 0).toNat:Int):=by rw[fe];omega
 have g1:IntKind.i64.wrap (0+1)<(((ch::36::l).length:Nat):Int):=by rw[w01];simp;try omega
 have g2:(((ch::36::l).getD (IntKind.i64.wrap (0+1)).toNat 0).toNat:Int)=36:=by rw[w01];rfl
 by_cases n1:n<1
 ·refine S0 Tryz.func196 rfl ?_
  ((repeat' ((conv=>whnf);first|exact .intro|refine G ?_|intro _|refine C1 hW2 ?_|refine .mk ?_ ?_|refine AK ?_|refine And.intro (by first|(first|assumption|omega|(simp;done)|(simp[w1,w2];done)|(simp[w1,w2];omega);done)|fail) ?_|fail));all_goals conv=>whnf)
  exact rrBad_le
 ·have n2:99<n:=by omega
  refine S0 Tryz.func196 rfl ?_
  ((repeat' ((conv=>whnf);first|exact .intro|refine G ?_|intro _|refine C1 hW2 ?_|refine .mk ?_ ?_|refine AK ?_|refine And.intro (by first|(first|assumption|omega|(simp;done)|(simp[w1,w2];done)|(simp[w1,w2];omega);done)|fail) ?_|fail));all_goals conv=>whnf)
  exact rrBad_le
theorem rRef_Cf {l:List UInt8} {ch:UInt8} (hc:65≤ch.toNat∧ch.toNat≤90) (h36:ch≠36)  (hW:FnP Tryz.prog gl 79 [.str l,fD] (.tup [iD 0,fD]))  : FnP Tryz.prog gl 196 [.str (ch::36::l)] (rrBad):=by
 have hW2:FnP Tryz.prog gl 79 [.str (List.drop ((some (IntKind.i64.wrap (IntKind.i64.wrap (0+1)+1))).getD 0).toNat (List.take ((none:Option Int).getD (((ch::36::l).length:Nat):Int)).toNat (ch::36::l))),fD] (.tup [iD 0,fD]):=by
  rw[drop_some (k:=2) (by rw[w011];rfl) rfl];exact hW
 have f0:¬ (((ch::36::l).getD (Int.toNat 0) 0).toNat:Int)=36:=ne36 h36
 have f1:¬ (((ch::36::l).length:Nat):Int)≤0:=by simp;try omega
 have fe:(ch::36::l).getD (Int.toNat 0) 0=ch:=rfl
 have g0:(0:Int)<(((ch::36::l).length:Nat):Int):=by simp;try omega
 have hlo:¬ (((ch::36::l).getD (Int.toNat 0) 0).toNat:Int)<65:=by rw[fe];omega
 have hhi:¬ 90<(((ch::36::l).getD (Int.toNat 0) 0).toNat:Int):=by rw[fe];omega
 have g1:IntKind.i64.wrap (0+1)<(((ch::36::l).length:Nat):Int):=by rw[w01];simp;try omega
 have g2:(((ch::36::l).getD (IntKind.i64.wrap (0+1)).toNat 0).toNat:Int)=36:=by rw[w01];rfl
 refine S0 Tryz.func196 rfl ?_
 ((repeat' ((conv=>whnf);first|exact .intro|refine G ?_|intro _|refine C1 hW2 ?_|refine .mk ?_ ?_|refine AK ?_|refine And.intro (by first|(first|assumption|omega|(simp;done)|(simp[w1,w2];done)|(simp[w1,w2];omega);done)|fail) ?_|fail));all_goals conv=>whnf)
 exact rrBad_le
theorem rRef_Ds {l:List UInt8} {ch:UInt8} {n:Int} (hc:65≤ch.toNat∧ch.toNat≤90) (h36:ch≠36) (hl36:l.head?≠some 36) (hW:FnP Tryz.prog gl 79 [.str l,fD] (.tup [iD n,.v (.bool true)])) (hn:1≤n∧n≤99):FnP Tryz.prog gl 196 [.str (ch::l)] (.tup [refD ((ch.toNat - 64:Nat):Int) n false false,tD true]):=by
 have hW2:FnP Tryz.prog gl 79 [.str (List.drop ((some (IntKind.i64.wrap (0+1))).getD 0).toNat (List.take ((none:Option Int).getD (((ch::l).length:Nat):Int)).toNat (ch::l))),fD] (.tup [iD n,.v (.bool true)]):=by
  rw[drop_some (k:=1) (by rw[w01];rfl) rfl];exact hW
 have f0:¬ (((ch::l).getD (Int.toNat 0) 0).toNat:Int)=36:=ne36 h36
 have f1:¬ (((ch::l).length:Nat):Int)≤0:=by simp;try omega
 have fe:(ch::l).getD (Int.toNat 0) 0=ch:=rfl
 have g0:(0:Int)<(((ch::l).length:Nat):Int):=by simp;try omega
 have hlo:¬ (((ch::l).getD (Int.toNat 0) 0).toNat:Int)<65:=by rw[fe];omega
 have hhi:¬ 90<(((ch::l).getD (Int.toNat 0) 0).toNat:Int):=by rw[fe];omega
 have n1:¬ n<1:=by omega
 have n2:¬ 99<n:=by omega
 rcases l with _|⟨c,l⟩
 ·have g1:¬ IntKind.i64.wrap (0+1)<(((ch::[]).length:Nat):Int):=by rw[w01];simp
  refine S0 Tryz.func196 rfl ?_
  ((repeat' ((conv=>whnf);first|exact .intro|refine G ?_|intro _|refine C1 hW2 ?_|refine .mk ?_ ?_|refine AK ?_|refine And.intro (by first|(first|assumption|omega|(simp;done)|(simp[w1];done)|(simp[w1,w2,w3];omega);done)|fail) ?_|fail));all_goals conv=>whnf)
  exact rRef_le (by rw[fe,wrapI (n:=(ch.toNat:Int)) (by omega),wrapI (by omega)];omega)
 ·have g1:IntKind.i64.wrap (0+1)<(((ch::c::l).length:Nat):Int):=by rw[w01];simp;try omega
  have g2:¬ (((ch::c::l).getD (IntKind.i64.wrap (0+1)).toNat 0).toNat:Int)=36:=by rw[w01];exact ne36 (c:=c) fun e=>hl36 (congrArg some e)
  refine S0 Tryz.func196 rfl ?_
  ((repeat' ((conv=>whnf);first|exact .intro|refine G ?_|intro _|refine C1 hW2 ?_|refine .mk ?_ ?_|refine AK ?_|refine And.intro (by first|(first|assumption|omega|(simp;done)|(simp[w1];done)|(simp[w1];omega);done)|fail) ?_|fail));all_goals conv=>whnf)
  exact rRef_le (by rw[fe,wrapI (n:=(ch.toNat:Int)) (by omega),wrapI (by omega)];omega)
theorem rRef_Dn {l:List UInt8} {ch:UInt8} {n:Int} (hc:65≤ch.toNat∧ch.toNat≤90) (h36:ch≠36) (hl36:l.head?≠some 36) (hW:FnP Tryz.prog gl 79 [.str l,fD] (.tup [iD n,.v (.bool true)])) (hn:n<1∨99<n):FnP Tryz.prog gl 196 [.str (ch::l)] (rrBad):=by
 have hW2:FnP Tryz.prog gl 79 [.str (List.drop ((some (IntKind.i64.wrap (0+1))).getD 0).toNat (List.take ((none:Option Int).getD (((ch::l).length:Nat):Int)).toNat (ch::l))),fD] (.tup [iD n,.v (.bool true)]):=by
  rw[drop_some (k:=1) (by rw[w01];rfl) rfl];exact hW
 have f0:¬ (((ch::l).getD (Int.toNat 0) 0).toNat:Int)=36:=ne36 h36
 have f1:¬ (((ch::l).length:Nat):Int)≤0:=by simp;try omega
 have fe:(ch::l).getD (Int.toNat 0) 0=ch:=rfl
 have g0:(0:Int)<(((ch::l).length:Nat):Int):=by simp;try omega
 have hlo:¬ (((ch::l).getD (Int.toNat 0) 0).toNat:Int)<65:=by rw[fe];omega
 have hhi:¬ 90<(((ch::l).getD (Int.toNat 0) 0).toNat:Int):=by rw[fe];omega
 rcases l with _|⟨c,l⟩
 ·have g1:¬ IntKind.i64.wrap (0+1)<(((ch::[]).length:Nat):Int):=by rw[w01];simp
  by_cases n1:n<1
  ·refine S0 Tryz.func196 rfl ?_
   ((repeat' ((conv=>whnf);first|exact .intro|refine G ?_|intro _|refine C1 hW2 ?_|refine .mk ?_ ?_|refine AK ?_|refine And.intro (by first|(first|assumption|omega|(simp;done)|(simp[w1];done)|(simp[w1,w2,w3];omega);done)|fail) ?_|fail));all_goals conv=>whnf)
   exact rrBad_le
  ·have n2:99<n:=by omega
   refine S0 Tryz.func196 rfl ?_
   ((repeat' ((conv=>whnf);first|exact .intro|refine G ?_|intro _|refine C1 hW2 ?_|refine .mk ?_ ?_|refine AK ?_|refine And.intro (by first|(first|assumption|omega|(simp;done)|(simp[w1];done)|(simp[w1,w2,w3];omega);done)|fail) ?_|fail));all_goals conv=>whnf)
   exact rrBad_le
 ·have g1:IntKind.i64.wrap (0+1)<(((ch::c::l).length:Nat):Int):=by rw[w01];simp;try omega
  have g2:¬ (((ch::c::l).getD (IntKind.i64.wrap (0+1)).toNat 0).toNat:Int)=36:=by rw[w01];exact ne36 (c:=c) fun e=>hl36 (congrArg some e)
  by_cases n1:n<1
  ·refine S0 Tryz.func196 rfl ?_
   ((repeat' ((conv=>whnf);first|exact .intro|refine G ?_|intro _|refine C1 hW2 ?_|refine .mk ?_ ?_|refine AK ?_|refine And.intro (by first|(first|assumption|omega|(simp;done)|(simp[w1];done)|(simp[w1];omega);done)|fail) ?_|fail));all_goals conv=>whnf)
   exact rrBad_le
  ·have n2:99<n:=by omega
   refine S0 Tryz.func196 rfl ?_
   ((repeat' ((conv=>whnf);first|exact .intro|refine G ?_|intro _|refine C1 hW2 ?_|refine .mk ?_ ?_|refine AK ?_|refine And.intro (by first|(first|assumption|omega|(simp;done)|(simp[w1];done)|(simp[w1];omega);done)|fail) ?_|fail));all_goals conv=>whnf)
   exact rrBad_le
theorem rRef_Df {l:List UInt8} {ch:UInt8} (hc:65≤ch.toNat∧ch.toNat≤90) (h36:ch≠36) (hl36:l.head?≠some 36) (hW:FnP Tryz.prog gl 79 [.str l,fD] (.tup [iD 0,fD]))  : FnP Tryz.prog gl 196 [.str (ch::l)] (rrBad):=by
 have hW2:FnP Tryz.prog gl 79 [.str (List.drop ((some (IntKind.i64.wrap (0+1))).getD 0).toNat (List.take ((none:Option Int).getD (((ch::l).length:Nat):Int)).toNat (ch::l))),fD] (.tup [iD 0,fD]):=by
  rw[drop_some (k:=1) (by rw[w01];rfl) rfl];exact hW
 have f0:¬ (((ch::l).getD (Int.toNat 0) 0).toNat:Int)=36:=ne36 h36
 have f1:¬ (((ch::l).length:Nat):Int)≤0:=by simp;try omega
 have fe:(ch::l).getD (Int.toNat 0) 0=ch:=rfl
 have g0:(0:Int)<(((ch::l).length:Nat):Int):=by simp;try omega
 have hlo:¬ (((ch::l).getD (Int.toNat 0) 0).toNat:Int)<65:=by rw[fe];omega
 have hhi:¬ 90<(((ch::l).getD (Int.toNat 0) 0).toNat:Int):=by rw[fe];omega
 rcases l with _|⟨c,l⟩
 ·have g1:¬ IntKind.i64.wrap (0+1)<(((ch::[]).length:Nat):Int):=by rw[w01];simp
  refine S0 Tryz.func196 rfl ?_
  ((repeat' ((conv=>whnf);first|exact .intro|refine G ?_|intro _|refine C1 hW2 ?_|refine .mk ?_ ?_|refine AK ?_|refine And.intro (by first|(first|assumption|omega|(simp;done)|(simp[w1];done)|(simp[w1,w2,w3];omega);done)|fail) ?_|fail));all_goals conv=>whnf)
  exact rrBad_le
 ·have g1:IntKind.i64.wrap (0+1)<(((ch::c::l).length:Nat):Int):=by rw[w01];simp;try omega
  have g2:¬ (((ch::c::l).getD (IntKind.i64.wrap (0+1)).toNat 0).toNat:Int)=36:=by rw[w01];exact ne36 (c:=c) fun e=>hl36 (congrArg some e)
  refine S0 Tryz.func196 rfl ?_
  ((repeat' ((conv=>whnf);first|exact .intro|refine G ?_|intro _|refine C1 hW2 ?_|refine .mk ?_ ?_|refine AK ?_|refine And.intro (by first|(first|assumption|omega|(simp;done)|(simp[w1];done)|(simp[w1];omega);done)|fail) ?_|fail));all_goals conv=>whnf)
  exact rrBad_le
end
section
open Go Go.EYtfkjhfdpphfjhaaGreatDoor
variable {gl:List (Nat×List D)}
theorem dl_inv3 {t l:List UInt8} {b:Bool} (h:dl t=(b,l)):(t=36::l∧b=true)∨(t=l∧l.head?≠some 36∧b=false):=by
 cases t with
 | nil=>cases h;exact .inr ⟨rfl,by simp,rfl⟩
 | cons a s =>
  by_cases ha:a=36
  ·simp only[dl,if_pos ha,Prod.mk.injEq] at h;left;rw[ha,h.2];exact ⟨rfl,h.1.symm⟩
  ·simp only[dl,if_neg ha,Prod.mk.injEq] at h;right;obtain ⟨h1,h2⟩:=h;subst h2;exact ⟨rfl,fun e=>ha (Option.some.inj e),h1.symm⟩
theorem rRef_s {s t l:List UInt8} {b b':Bool} {ch:UInt8} {n:Int} (h:dl s=(b,ch::t)) (hc:65≤ch.toNat∧ch.toNat≤90) (h':dl t=(b',l)) (hW:FnP Tryz.prog gl 79 [.str l,fD] (.tup [iD n,.v (.bool true)])) (hn:1≤n∧n≤99) :
 FnP Tryz.prog gl 196 [.str s] (.tup [refD ((ch.toNat - 64:Nat):Int) n b b',tD true]):=by
 rcases dl_inv2 h with ⟨rfl,rfl⟩|⟨rfl,h36,rfl⟩ <;> rcases dl_inv3 h' with ⟨rfl,rfl⟩|⟨rfl,hl,rfl⟩
 ·exact rRef_As hc hW hn
 ·exact rRef_Bs hc hl hW hn
 ·exact rRef_Cs hc h36 hW hn
 ·exact rRef_Ds hc h36 hl hW hn
theorem rRef_n {s t l:List UInt8} {b b':Bool} {ch:UInt8} {n:Int} (h:dl s=(b,ch::t)) (hc:65≤ch.toNat∧ch.toNat≤90) (h':dl t=(b',l)) (hW:FnP Tryz.prog gl 79 [.str l,fD] (.tup [iD n,.v (.bool true)])) (hn:n<1∨99<n) :
 FnP Tryz.prog gl 196 [.str s] rrBad:=by
 rcases dl_inv2 h with ⟨rfl,rfl⟩|⟨rfl,h36,rfl⟩ <;> rcases dl_inv3 h' with ⟨rfl,rfl⟩|⟨rfl,hl,rfl⟩
 ·exact rRef_An hc hW hn
 ·exact rRef_Bn hc hl hW hn
 ·exact rRef_Cn hc h36 hW hn
 ·exact rRef_Dn hc h36 hl hW hn
theorem rRef_f {s t l:List UInt8} {b b':Bool} {ch:UInt8} (h:dl s=(b,ch::t)) (hc:65≤ch.toNat∧ch.toNat≤90) (h':dl t=(b',l)) (hW:FnP Tryz.prog gl 79 [.str l,fD] (.tup [iD 0,fD])) :
 FnP Tryz.prog gl 196 [.str s] rrBad:=by
 rcases dl_inv2 h with ⟨rfl,rfl⟩|⟨rfl,h36,rfl⟩ <;> rcases dl_inv3 h' with ⟨rfl,rfl⟩|⟨rfl,hl,rfl⟩
 ·exact rRef_Af hc hW
 ·exact rRef_Bf hc hl hW
 ·exact rRef_Cf hc h36 hW
 ·exact rRef_Df hc h36 hl hW
theorem refWhole_e:FnP Tryz.prog gl 79 [.str [],fD] (.tup [iD 0,fD]):=by
 refine S0 Tryz.func79 rfl ?_
 ((repeat' ((conv=>whnf);first|exact .intro|refine G ?_|intro _|refine .mk ?_ ?_|refine H ?_|fail));all_goals conv=>whnf)
 exact LeD.rfl
theorem refWhole_z {l:List UInt8} (h:l≠[]):FnP Tryz.prog gl 79 [.str (48::l),fD] (.tup [iD 0,fD]):=by
 have h1:(((48::l).getD (Int.toNat 0) 0).toNat:Int)=48:=rfl
 have h2:¬ 48::l=(⟨#[48]⟩:ByteArray).data.toList:=fun e=>h (List.cons.inj e).2
 refine S0 Tryz.func79 rfl ?_
 ((repeat' ((conv=>whnf);first|exact .intro|refine G ?_|intro _|refine .mk ?_ ?_|refine H ?_|fail));all_goals conv=>whnf)
 exact LeD.rfl
theorem rv_ge {l:List UInt8} (h0:l≠[]) (h48:l.head?≠some 48) (hd:∀ d ∈ l,isDig d):∀ k,k<l.length→10 ^ k≤rv l (k+1)
 | 0,h=>by
  obtain ⟨a,l,rfl⟩:=List.exists_cons_of_ne_nil h0
  rw[rv_succ h]
  have h1:a≠48:=fun e=>h48 (congrArg some e)
  have h2:=hd a (List.mem_cons_self ..)
  have h3:a.toNat≠48:=fun e=>h1 (UInt8.toNat_inj.1 e)
  show 1≤0 * 10+(a.toNat - 48)
  obtain ⟨h4,h5⟩:=h2
  omega
 | k+1,h=>by
  have:=rv_ge h0 h48 hd k (by omega)
  rw[rv_succ h,Nat.pow_succ];omega
end
end Go.Proofs.YtfkjhfdpphfjhaaGreatDoor
