/- Proved: a part of what the law is proved with (the reckoner, contracts of functions, plain laws). Conditions: as each says. -/
import Derived.Handy
import Derived.Test.YtfkjhfdpphfjhaaGreatDoorXBa
import Derived.Test.YtfkjhfdpphfjhaaGreatDoorXTd
namespace Go.Proofs.YtfkjhfdpphfjhaaGreatDoor
set_option maxRecDepth 100000
section
open Go Go.EYtfkjhfdpphfjhaaGreatDoor
variable {gl:List (Nat×List D)}
def likeV (a b:Vl):Vl:=if a.k=0∧b.k≠4 then ⟨b.k,a.n,a.s⟩ else a
theorem like_d (k n:Int) (s:List UInt8) (k' n':Int) (s':List UInt8):FnP Tryz.prog gl 111 [vlD k n s,vlD k' n' s'] (likeV ⟨k,n,s⟩ ⟨k',n',s'⟩).d:=by
 unfold likeV
 by_cases h:k=0
 ·subst h
  by_cases h4:k'=4
  ·subst h4
   refine S0 Tryz.func111 rfl ?_
   ((repeat' ((conv=>whnf);first|exact .intro|refine G ?_|intro _|refine .mk ?_ ?_|refine H ?_|fail));all_goals conv=>whnf)
   exact LeD.rfl
  ·rw[if_pos ⟨rfl,h4⟩]
   refine S0 Tryz.func111 rfl ?_
   ((repeat' ((conv=>whnf);first|exact .intro|refine G ?_|intro _|refine .mk ?_ ?_|refine H ?_|fail));all_goals conv=>whnf)
   exact LeD.rfl
 ·rw[if_neg (fun hh=>h hh.1)]
  refine S0 Tryz.func111 rfl ?_
  ((repeat' ((conv=>whnf);first|exact .intro|refine G ?_|intro _|refine .mk ?_ ?_|refine H ?_|fail));all_goals conv=>whnf)
  exact LeD.rfl
def cvV (a b:Vl):Int:=cv a.k a.n a.s b.k b.n b.s
def cmpN (op c:Int):Int:=if op=1 then (if c=0 then 1 else 0) else if op=2 then (if ¬ c=0 then 1 else 0) else if op=3 then (if c<0 then 1 else 0) else if op=4 then (if c≤0 then 1 else 0) else if op=5 then (if 0<c then 1 else 0) else (if 0≤c then 1 else 0)
def twoV (op:Int) (a b:Vl):Vl :=
 if op<1∨11<op then ⟨4,4,[]⟩ else
 if 8≤op then (if (numV a).k=4 then numV a else if (numV b).k=4 then numV b else rkV op (numV a).n (numV b).n) else
 if a.k=4 then a else if b.k=4 then b else
 if op=7 then (if 200<(showV a++showV b).length then ⟨4,2,[]⟩ else ⟨2,0,showV a++showV b⟩) else
 ⟨3,cmpN op (cvV (likeV a b) (likeV b a)),[]⟩
theorem len200' {s:List UInt8} (h:¬ 200<s.length):¬ (200:Int)<((s.length:Nat):Int):=by omega
theorem Two_v (te:TypeId) (pe:Value) (op:Int) {a b:Vl} (ha:a.ok) (hb:b.ok):FnP Tryz.prog (glV te pe) 65 [iD op,a.d,b.d] (twoV op a b).d:=by
 have hla:=showV_len ha
 have hlb:=showV_len hb
 obtain ⟨na,na'⟩:=numV_ok ha
 obtain ⟨nb,nb'⟩:=numV_ok hb
 have hs:∀ v:Vl,v.ok→v.s.length≤140737488355328:=fun v hv=>by
  rcases hv.1 with h|h|h|h|h
  ·rw[h.2.2];decide
  ·rw[h.2];decide
  ·omega
  ·rw[h.2.2];decide
  ·rw[h.2.2.2];decide
 have c1:=Number_d te pe a.k a.n a.s (hs a ha)
 have c2:=Number_d te pe b.k b.n b.s (hs b hb)
 unfold twoV
 by_cases h1:op<1
 ·rw[if_pos (.inl h1)]
  refine S0 Tryz.func65 rfl ?_
  ((repeat' ((conv=>whnf);first|exact .intro|refine G ?_|intro _|refine C1 (Wrong_d _) ?_|refine .mk ?_ ?_|refine H ?_|fail));all_goals conv=>whnf)
  exact LeD.rfl
 by_cases h2:11<op
 ·rw[if_pos (.inr h2)]
  refine S0 Tryz.func65 rfl ?_
  ((repeat' ((conv=>whnf);first|exact .intro|refine G ?_|intro _|refine C1 (Wrong_d _) ?_|refine .mk ?_ ?_|refine H ?_|fail));all_goals conv=>whnf)
  exact LeD.rfl
 rw[if_neg (fun h=>by omega)]
 by_cases h8:8≤op
 ·rw[if_pos h8]
  change FnP Tryz.prog (glV te pe) 106 [vlD a.k a.n a.s] (numV a).d at c1
  change FnP Tryz.prog (glV te pe) 106 [vlD b.k b.n b.s] (numV b).d at c2
  have c3:=reckon_d (gl:=glV te pe) h8 (by omega) na.2 nb.2
  generalize numV a=x at *
  generalize numV b=y at *
  generalize rkV op x.n y.n=z at *
  by_cases q1:x.k=4
  ·rw[if_pos q1]
   refine S0 Tryz.func65 rfl ?_
   ((repeat' ((conv=>whnf);first|exact .intro|refine G ?_|intro _|refine C1 c1 ?_|refine C1 c2 ?_|refine C1 (IsBad_d _ _ _) ?_|refine .mk ?_ ?_|refine H ?_|fail));all_goals conv=>whnf)
   all_goals exact LeD.rfl
  ·rw[if_neg q1]
   by_cases q2:y.k=4
   ·rw[if_pos q2]
    refine S0 Tryz.func65 rfl ?_
    ((repeat' ((conv=>whnf);first|exact .intro|refine G ?_|intro _|refine C1 c1 ?_|refine C1 c2 ?_|refine C1 (IsBad_d _ _ _) ?_|refine .mk ?_ ?_|refine H ?_|fail));all_goals conv=>whnf)
    all_goals exact LeD.rfl
   ·rw[if_neg q2]
    refine S0 Tryz.func65 rfl ?_
    ((repeat' ((conv=>whnf);first|exact .intro|refine G ?_|intro _|refine C1 c1 ?_|refine C1 c2 ?_|refine C1 c3 ?_|refine C1 (IsBad_d _ _ _) ?_|refine .mk ?_ ?_|refine H ?_|fail));all_goals conv=>whnf)
    all_goals exact LeD.rfl
 rw[if_neg h8]
 by_cases q1:a.k=4
 ·rw[if_pos q1]
  refine S0 Tryz.func65 rfl ?_
  ((repeat' ((conv=>whnf);first|exact .intro|refine G ?_|intro _|refine C1 (IsBad_d _ _ _) ?_|refine .mk ?_ ?_|refine H ?_|fail));all_goals conv=>whnf)
  all_goals exact LeD.rfl
 rw[if_neg q1]
 by_cases q2:b.k=4
 ·rw[if_pos q2]
  refine S0 Tryz.func65 rfl ?_
  ((repeat' ((conv=>whnf);first|exact .intro|refine G ?_|intro _|refine C1 (IsBad_d _ _ _) ?_|refine .mk ?_ ?_|refine H ?_|fail));all_goals conv=>whnf)
  all_goals exact LeD.rfl
 rw[if_neg q2]
 by_cases h7:op=7
 ·subst h7
  rw[if_pos rfl]
  have s1:=Show_d te pe a ha.2
  have s2:=Show_d te pe b hb.2
  generalize showV a=x at *
  generalize showV b=y at *
  by_cases hl:200<(x++y).length
  ·rw[if_pos hl]
   have hl':=len_200.2 hl
   refine S0 Tryz.func65 rfl ?_
   ((repeat' ((conv=>whnf);first|exact .intro|refine G ?_|intro _|refine C1 s1 ?_|refine C1 s2 ?_|refine C1 (IsBad_d _ _ _) ?_|refine C1 (Wrong_d _) ?_|refine .mk ?_ ?_|refine H ?_|fail));all_goals conv=>whnf)
   all_goals exact LeD.rfl
  ·rw[if_neg hl]
   have hl':=len200' hl
   refine S0 Tryz.func65 rfl ?_
   ((repeat' ((conv=>whnf);first|exact .intro|refine G ?_|intro _|refine C1 s1 ?_|refine C1 s2 ?_|refine C1 (IsBad_d _ _ _) ?_|refine C1 (Of_d _) ?_|refine .mk ?_ ?_|refine H ?_|fail));all_goals conv=>whnf)
   all_goals exact LeD.rfl
 rw[if_neg h7]
 have l1:=like_d (gl:=glV te pe) a.k a.n a.s b.k b.n b.s
 have l2:=like_d (gl:=glV te pe) b.k b.n b.s a.k a.n a.s
 change FnP Tryz.prog (glV te pe) 111 [vlD a.k a.n a.s,vlD b.k b.n b.s] (likeV a b).d at l1
 change FnP Tryz.prog (glV te pe) 111 [vlD b.k b.n b.s,vlD a.k a.n a.s] (likeV b a).d at l2
 generalize likeV a b=x at *
 generalize likeV b a=y at *
 have c3:=vCompare_d (gl:=glV te pe) x.k x.n x.s y.k y.n y.s
 change FnP Tryz.prog (glV te pe) 110 [vlD x.k x.n x.s,vlD y.k y.n y.s] (iD (cvV x y)) at c3
 generalize cvV x y=c at *
 have e:op=1∨op=2∨op=3∨op=4∨op=5∨op=6:=by omega
 rcases e with rfl|rfl|rfl|rfl|rfl|rfl
 all_goals
  refine S0 Tryz.func65 rfl ?_
  ((repeat' ((conv=>whnf);first|exact .intro|refine G ?_|intro _|refine C1 l1 ?_|refine C1 l2 ?_|refine C1 c3 ?_|refine C1 (IsBad_d _ _ _) ?_|refine C1 (Is_b _) ?_|refine .mk ?_ ?_|refine H ?_|fail));all_goals conv=>whnf)
  all_goals exact LeD.rfl
theorem isR_y {k n:Int} {s:List UInt8} (h:isV k n s):FnP Tryz.prog gl 12 [vlD k n s] (.v (.bool true)):=by
 rcases h with ⟨rfl,rfl,rfl⟩|⟨rfl,rfl⟩|⟨rfl,rfl,hl⟩|⟨rfl,rfl|rfl,rfl⟩|⟨rfl,h1,h2,rfl⟩
 ·refine S0 Tryz.func12 rfl ?_
  ((repeat' ((conv=>whnf);first|exact .intro|refine G ?_|intro _|refine .mk ?_ ?_|refine H ?_|fail));all_goals conv=>whnf)
  all_goals first|exact LeD.rfl|exact LeD.vt rfl|exact LeD.vt (by omega)
 ·refine S0 Tryz.func12 rfl ?_
  ((repeat' ((conv=>whnf);first|exact .intro|refine G ?_|intro _|refine .mk ?_ ?_|refine H ?_|fail));all_goals conv=>whnf)
  all_goals first|exact LeD.rfl|exact LeD.vt rfl|exact LeD.vt (by omega)
 ·refine S0 Tryz.func12 rfl ?_
  ((repeat' ((conv=>whnf);first|exact .intro|refine G ?_|intro _|refine .mk ?_ ?_|refine H ?_|fail));all_goals conv=>whnf)
  all_goals first|exact LeD.rfl|exact LeD.vt rfl|exact LeD.vt (by omega)
 ·refine S0 Tryz.func12 rfl ?_
  ((repeat' ((conv=>whnf);first|exact .intro|refine G ?_|intro _|refine .mk ?_ ?_|refine H ?_|fail));all_goals conv=>whnf)
  all_goals first|exact LeD.rfl|exact LeD.vt rfl|exact LeD.vt (by omega)
 ·refine S0 Tryz.func12 rfl ?_
  ((repeat' ((conv=>whnf);first|exact .intro|refine G ?_|intro _|refine .mk ?_ ?_|refine H ?_|fail));all_goals conv=>whnf)
  all_goals first|exact LeD.rfl|exact LeD.vt rfl|exact LeD.vt (by omega)
 ·refine S0 Tryz.func12 rfl ?_
  ((repeat' ((conv=>whnf);first|exact .intro|refine G ?_|intro _|refine .mk ?_ ?_|refine H ?_|fail));all_goals conv=>whnf)
  all_goals first|exact LeD.rfl|exact LeD.vt rfl|exact LeD.vt (by omega)
theorem isR_n {k n:Int} {s:List UInt8} (h:¬ isV k n s):FnP Tryz.prog gl 12 [vlD k n s] (.v (.bool false)):=by
 refine S0 Tryz.func12 rfl ?_
 ((repeat' ((conv=>whnf);first|exact .intro|refine G ?_|intro _|refine .mk ?_ ?_|refine H ?_|fail));all_goals conv=>whnf)
 all_goals first|exact LeD.rfl|(refine LeD.vf fun hh=>h ?_;unfold isV;simp_all;done)|(refine LeD.vf fun hh=>h ?_;unfold isV;simp_all;omega)|(exfalso;apply h;unfold isV;simp_all;done)|(exfalso;apply h;unfold isV;simp_all;omega)
end
section
structure Rf where
 c:Int
 r:Int
 fc:Bool
 fr:Bool
inductive Nd where
 | mk (k n:Int) (s:List UInt8) (a b:Rf) (ks:List Nd)
inductive Rs (α:Type) where
 | ok (v:α) (i:Nat)
 | no (i:Nat) (e:Int)
namespace Rs
def bind {α β:Type} (x:Rs α) (f:α→Nat→Rs β):Rs β:=match x with
 | ok v i=>f v i
 | no i e=>no i e
@[simp] theorem bind_ok {α β:Type} (v:α) (i:Nat) (f:α→Nat→Rs β):(ok v i).bind f=f v i:=rfl
@[simp] theorem bind_no {α β:Type} (i:Nat) (e:Int) (f:α→Nat→Rs β):(no i e:Rs α).bind f=no i e:=rfl
theorem bind_assoc {α β γ:Type} (x:Rs α) (f:α→Nat→Rs β) (g:β→Nat→Rs γ):(x.bind f).bind g=x.bind fun v i=>(f v i).bind g:=by cases x <;> rfl
end Rs
def z0:Rf:=⟨0,0,false,false⟩
def twoN (op:Int) (a b:Nd):Nd:=.mk 8 op [] z0 z0 [a,b]
def blk:List UInt8→Nat
 | []=>0
 | c::r=>if c=32 then blk r+1 else 0
theorem blk_le:∀ l:List UInt8,blk l≤l.length
 | []=>Nat.le_refl _
 | c::r=>by
  unfold blk
  split
  ·have:=blk_le r;simp;omega
  ·exact Nat.zero_le _
theorem blk_drop:∀ l:List UInt8,blk (l.drop (blk l))=0
 | []=>rfl
 | c::r=>by
  by_cases h:c=32
  ·have:blk (c::r)=blk r+1:=by simp[blk,h]
   rw[this]
   exact blk_drop r
  ·have:blk (c::r)=0:=by simp[blk,h]
   rw[this]
   simp[blk,h]
def skp (s:List UInt8) (i:Nat):Nat:=i+blk (s.drop i)
theorem skp_skp (s:List UInt8) (i:Nat):skp s (skp s i)=skp s i:=by
 unfold skp
 rw[← List.drop_drop,blk_drop]
 rfl
theorem le_skp (s:List UInt8) (i:Nat):i≤skp s i:=Nat.le_add_right _ _
theorem skp_le {s:List UInt8} {i:Nat} (h:i≤s.length):skp s i≤s.length:=by
 have:=blk_le (s.drop i)
 rw[List.length_drop] at this
 unfold skp
 omega
def opT:List UInt8→Option (Nat×Nat)
 | 60::62::_=>some (2,2)
 | 60::61::_=>some (4,2)
 | 62::61::_=>some (6,2)
 | 61::_=>some (1,1)
 | 60::_=>some (3,1)
 | 62::_=>some (5,1)
 | 38::_=>some (7,1)
 | 43::_=>some (8,1)
 | 45::_=>some (9,1)
 | 42::_=>some (10,1)
 | 47::_=>some (11,1)
 | _=>none
def opA (s:List UInt8) (i:Nat):Option (Nat×Nat):=opT (s.drop (skp s i))
def tgt (op:Nat):Nat:=if op≤6 then 1 else if op=7 then 2 else if op≤9 then 3 else 4
theorem tgt_pos (op:Nat):1≤tgt op:=by unfold tgt;(repeat' split) <;> omega
theorem tgt_le (op:Nat):tgt op≤4:=by unfold tgt;(repeat' split) <;> omega
theorem opT_len {l:List UInt8} {op n:Nat} (h:opT l=some (op,n)):1≤n∧n≤l.length:=by
 unfold opT at h
 split at h <;> first|(simp only[reduceCtorEq] at h;done)|(simp only[Option.some.injEq,Prod.mk.injEq] at h;obtain ⟨_,rfl⟩:=h;simp)
theorem opA_len {s:List UInt8} {i op n:Nat} (h:opA s i=some (op,n)):1≤n∧skp s i+n≤s.length:=by
 obtain ⟨h1,h2⟩:=opT_len h
 rw[List.length_drop] at h2
 omega
def frm (s:List UInt8) (sub:Nat→Nat→Rs Nd) (sel:Nat→Bool):Nat→Nd→Nat→Rs Nd
 | 0,n,j=>.ok n j
 | f+1,n,j=>match opA s j with
  | some (op,len)=>if sel op=true then (sub op (skp s j+len)).bind fun m k=>frm s sub sel f (twoN op n m) k else .ok n j
  | none=>.ok n j
section
variable {s:List UInt8}
def Fwd (s:List UInt8) (f:Nat→Rs Nd):Prop:=∀ i n j,i≤s.length→f i=.ok n j→i<j∧j≤s.length
theorem frm_fwd {sub:Nat→Nat→Rs Nd} {sel:Nat→Bool} (hs:∀ op,Fwd s (sub op)):∀ {F:Nat} {n:Nd} {j:Nat} {m:Nd} {k:Nat},j≤s.length→frm s sub sel F n j=.ok m k→j≤k∧k≤s.length
 | 0,n,j,m,k,hj,h=>by cases h;exact ⟨Nat.le_refl _,hj⟩
 | F+1,n,j,m,k,hj,h=>by
  unfold frm at h
  split at h
  ·rename_i op len ho
   have hl:=opA_len ho
   split at h
   ·cases hx:sub op (skp s j+len) with
    | no a e=>rw[hx] at h;cases h
    | ok m' k' =>
     rw[hx] at h
     have h1:=hs op _ _ _ hl.2 hx
     have h2:=frm_fwd hs h1.2 h
     have:=le_skp s j
     omega
   ·cases h;exact ⟨Nat.le_refl _,hj⟩
  ·cases h;exact ⟨Nat.le_refl _,hj⟩
theorem frm_stop {sub:Nat→Nat→Rs Nd} {sel:Nat→Bool} (hs:∀ op,Fwd s (sub op)):∀ {F:Nat} {n:Nd} {j:Nat} {m:Nd} {k:Nat},j≤s.length→s.length - j<F→frm s sub sel F n j=.ok m k→∀ op len,opA s k=some (op,len)→sel op=false
 | 0,n,j,m,k,hj,hF,h=>by omega
 | F+1,n,j,m,k,hj,hF,h=>by
  intro op' len' ho'
  unfold frm at h
  split at h
  ·rename_i op len ho
   have hl:=opA_len ho
   split at h
   ·cases hx:sub op (skp s j+len) with
    | no a e=>rw[hx] at h;cases h
    | ok m' k' =>
     rw[hx] at h
     have h1:=hs op _ _ _ hl.2 hx
     have:=le_skp s j
     exact frm_stop hs h1.2 (by omega) h op' len' ho'
   ·rename_i hn
    cases h
    rw[ho] at ho'
    cases ho'
    simpa using hn
  ·rename_i hn
   cases h
   rw[hn] at ho';cases ho'
theorem frm_none {sub:Nat→Nat→Rs Nd} {sel:Nat→Bool} {F:Nat} {n:Nd} {j:Nat} (h:∀ op len,opA s j=some (op,len)→sel op=false):frm s sub sel F n j=.ok n j:=by
 cases F with
 | zero=>rfl
 | succ F =>
  unfold frm
  split
  ·rename_i op len ho
   rw[if_neg (by rw[h op len ho];simp)]
  ·rfl
theorem frm_split {sub:Nat→Nat→Rs Nd} {t:Nat} (hs:∀ op,Fwd s (sub op))
 (hstop:∀ op i m k,tgt op=t→i≤s.length→sub op i=.ok m k→∀ op' len',opA s k=some (op',len')→decide (t+1≤tgt op')=false) :
 ∀ (N:Nat) (F F1 F2:Nat) (n:Nd) (j:Nat),j≤s.length→s.length - j≤N→s.length - j<F→s.length - j<F1→s.length - j<F2→
  frm s sub (fun op=>decide (t≤tgt op)) F n j=(frm s sub (fun op=>decide (t+1≤tgt op)) F1 n j).bind fun n' j'=>frm s sub (fun op=>decide (tgt op=t)) F2 n' j':=by
 intro N
 induction N with
 | zero =>
  intro F F1 F2 n j hj hN _ _ _
  have hn:∀ op len,opA s j=some (op,len)→False:=fun op len ho=>by
   have:=opA_len ho
   have:=le_skp s j
   omega
  rw[frm_none fun op len h=>(hn op len h).elim,frm_none fun op len h=>(hn op len h).elim,Rs.bind_ok,frm_none fun op len h=>(hn op len h).elim]
 | succ N ih =>
  intro F F1 F2 n j hj hN hF hF1 hF2
  cases ho:opA s j with
  | none =>
   rw[frm_none fun op len h=>(by rw[ho] at h;cases h),frm_none fun op len h=>(by rw[ho] at h;cases h),Rs.bind_ok,frm_none fun op len h=>(by rw[ho] at h;cases h)]
  | some q =>
   obtain ⟨op,len⟩:=q
   have hl:=opA_len ho
   have hsk:=le_skp s j
   rcases Nat.lt_trichotomy (tgt op) t with hlt|heq|hgt
   ·have hn:∀ op' len',opA s j=some (op',len')→tgt op'<t:=fun op' len' h=>by rw[ho] at h;cases h;exact hlt
    rw[frm_none fun op len h=>(by have:=hn op len h;simp;omega),frm_none fun op len h=>(by have:=hn op len h;simp;omega),Rs.bind_ok,frm_none fun op len h=>(by have:=hn op len h;simp;omega)]
   ·have hn:∀ op' len',opA s j=some (op',len')→tgt op'=t:=fun op' len' h=>by rw[ho] at h;cases h;exact heq
    rw[frm_none (sel:=fun op=>decide (t+1≤tgt op)) fun op len h=>(by have:=hn op len h;simp;omega),Rs.bind_ok]
    obtain ⟨G,rfl⟩:∃ G,F=G+1:=⟨F - 1,by omega⟩
    obtain ⟨G2,rfl⟩:∃ G,F2=G+1:=⟨F2 - 1,by omega⟩
    unfold frm
    rw[ho]
    simp only[heq,Nat.le_refl,decide_true,if_true]
    cases hx:sub op (skp s j+len) with
    | no a e=>rfl
    | ok m k =>
     have h1:=hs op _ _ _ hl.2 hx
     simp only[Rs.bind_ok]
     rw[ih G F1 G2 (twoN op n m) k h1.2 (by omega) (by omega) (by omega) (by omega),frm_none (sel:=fun op=>decide (t+1≤tgt op)) (hstop op _ m k heq hl.2 hx),Rs.bind_ok]
   ·obtain ⟨G,rfl⟩:∃ G,F=G+1:=⟨F - 1,by omega⟩
    obtain ⟨G1,rfl⟩:∃ G,F1=G+1:=⟨F1 - 1,by omega⟩
    rw[show frm s sub (fun op=>decide (t≤tgt op)) (G+1) n j=(sub op (skp s j+len)).bind fun m k=>frm s sub (fun op=>decide (t≤tgt op)) G (twoN op n m) k by
     rw[frm,ho];simp only[];rw[if_pos (by simp;omega)],
     show frm s sub (fun op=>decide (t+1≤tgt op)) (G1+1) n j=(sub op (skp s j+len)).bind fun m k=>frm s sub (fun op=>decide (t+1≤tgt op)) G1 (twoN op n m) k by
      rw[frm,ho];simp only[];rw[if_pos (by simp;omega)]]
    cases hx:sub op (skp s j+len) with
    | no a e=>rfl
    | ok m k =>
     have h1:=hs op _ _ _ hl.2 hx
     simp only[Rs.bind_ok]
     exact ih G G1 F2 (twoN op n m) k h1.2 (by omega) (by omega) (by omega) (by omega)
def skR (s:List UInt8):Rs Nd→Rs Nd
 | .ok n j=>.ok n (skp s j)
 | .no a e=>.no a e
theorem frm_skp {sub sub':Nat→Nat→Rs Nd} {sel:Nat→Bool} (hss:∀ op i,sel op=true→i≤s.length→skR s (sub' op i)=skR s (sub op i)):∀ (F:Nat) (n:Nd) (j j':Nat),skp s j'=skp s j→skR s (frm s sub' sel F n j')=skR s (frm s sub sel F n j)
 | 0,n,j,j',h=>by simp only[frm,skR,h]
 | F+1,n,j,j',h=>by
  have ho:opA s j'=opA s j:=by unfold opA;rw[h]
  unfold frm
  rw[ho,h]
  split
  ·rename_i op len hol
   by_cases hse:sel op=true
   ·rw[if_pos hse,if_pos hse]
    have h1:=hss op (skp s j+len) hse (opA_len hol).2
    revert h1
    cases sub' op (skp s j+len) with
    | no a e =>
     cases sub op (skp s j+len) with
     | no a' e'=>exact fun h1=>h1
     | ok m k=>exact fun h1=>nomatch h1
    | ok m' k' =>
     cases sub op (skp s j+len) with
     | no a' e'=>exact fun h1=>nomatch h1
     | ok m k =>
      intro h1
      simp only[skR,Rs.ok.injEq] at h1
      obtain ⟨rfl,h2⟩:=h1
      exact frm_skp hss F _ k k' h2
   ·rw[if_neg hse,if_neg hse]
    simp only[skR,h]
  ·simp only[skR,h]
variable (s) (one:Nat→Rs Nd)
def Lo:Nat→Nat→Nat→Rs Nd
 | 0,_,i=>one i
 | k+1,least,i=>(one i).bind fun n j=>frm s (fun op=>Lo k (tgt op+1)) (fun op=>decide (least≤tgt op)) (s.length+1) n j
def Tw:Nat→Nat→Rs Nd
 | 0,i=>one i
 | c+1,i=>(Tw c i).bind fun n j=>skR s (frm s (fun _=>Tw c) (fun op=>decide (tgt op=4 - c)) (s.length+1) n j)
variable {s} {one}
theorem Lo_fwd (h1:Fwd s one):∀ (k least:Nat),Fwd s (Lo s one k least)
 | 0,_=>h1
 | k+1,least=>fun i n j hi h=>by
  unfold Lo at h
  cases hx:one i with
  | no a e=>rw[hx] at h;cases h
  | ok n' j' =>
   rw[hx] at h
   have h2:=h1 i _ _ hi hx
   have h3:=frm_fwd (fun op=>Lo_fwd h1 k _) h2.2 h
   omega
theorem Lo_stop (h1:Fwd s one) {k least i:Nat} {n:Nd} {j:Nat} (hk:5≤k+least) (hi:i≤s.length) (h:Lo s one k least i=.ok n j):∀ op len,opA s j=some (op,len)→decide (least≤tgt op)=false:=by
 cases k with
 | zero=>intro op len _;have:=tgt_le op;simp;omega
 | succ k =>
  unfold Lo at h
  cases hx:one i with
  | no a e=>rw[hx] at h;cases h
  | ok n' j' =>
   rw[hx] at h
   have h2:=h1 i _ _ hi hx
   exact frm_stop (fun op=>Lo_fwd h1 k _) h2.2 (by omega) h
theorem frm_congr {sub sub':Nat→Nat→Rs Nd} {sel:Nat→Bool} (h:∀ op i,sel op=true→sub op i=sub' op i):∀ (F:Nat) (n:Nd) (j:Nat),frm s sub sel F n j=frm s sub' sel F n j
 | 0,n,j=>rfl
 | F+1,n,j=>by
  unfold frm
  split
  ·rename_i op len _
   by_cases hse:sel op=true
   ·rw[if_pos hse,if_pos hse,h op _ hse]
    congr 1
    funext m k
    exact frm_congr h F _ _
   ·rw[if_neg hse,if_neg hse]
  ·rfl
theorem Lo_more:∀ (k least i:Nat),5≤k+least→Lo s one (k+1) least i=Lo s one k least i
 | 0,least,i,h=>by
  show (one i).bind _=one i
  cases one i with
  | no a e=>rfl
  | ok n j =>
   simp only[Rs.bind_ok]
   exact frm_none fun op len _=>by have:=tgt_le op;simp;omega
 | k+1,least,i,h=>by
  show (one i).bind _=(one i).bind _
  congr 1
  funext n j
  exact frm_congr (fun op i hs=>Lo_more k (tgt op+1) i (by simp at hs;omega)) _ _ _
theorem Lo_least (h1:Fwd s one) {k t i:Nat} (hi:i≤s.length) (hk:5≤k+(t+1)) (_hk0:1≤k):Lo s one (k+1) t i=(Lo s one k (t+1) i).bind fun n j=>frm s (fun _=>Lo s one k (t+1)) (fun op=>decide (tgt op=t)) (s.length+1) n j:=by
 rw[← Lo_more k (t+1) i hk]
 show (one i).bind _=((one i).bind _).bind _
 rw[Rs.bind_assoc]
 cases hx:one i with
 | no a e=>rfl
 | ok n j =>
  have h2:=h1 i _ _ hi hx
  simp only[Rs.bind_ok]
  rw[frm_split (t:=t) (fun op=>Lo_fwd h1 k _) (fun op i m k' ht hi h=>by
   have:=Lo_stop h1 (by rw[ht];omega) hi h
   rw[ht] at this
   exact this) (s.length - j) (s.length+1) (s.length+1) (s.length+1) n j h2.2 (Nat.le_refl _) (by omega) (by omega) (by omega)]
  congr 1
  funext n' j'
  exact frm_congr (fun op i hs=>by
   simp only[decide_eq_true_eq] at hs
   rw[hs]) _ _ _
theorem Tw_eq (h1:Fwd s one):∀ (c i:Nat),c≤4→i≤s.length→skR s (Tw s one c i)=skR s (Lo s one (c+1) (5 - c) i)
 | 0,i,_,_=>by
  rw[Lo_more 0 5 i (by omega)]
  rfl
 | c+1,i,hc,hi=>by
  rw[Lo_least (k:=c+1) (t:=5 - (c+1)) h1 hi (by omega) (by omega)]
  have hc1:5 - (c+1)+1=5 - c:=by omega
  have hc2:5 - (c+1)=4 - c:=by omega
  rw[hc1,hc2]
  have ih:=Tw_eq h1 c
  have h0:=ih i (by omega) hi
  show skR s ((Tw s one c i).bind _)=_
  revert h0
  cases hx:Tw s one c i with
  | no a e =>
   cases hy:Lo s one (c+1) (5 - c) i with
   | no a' e'=>exact fun h0=>h0
   | ok n' j'=>exact fun h0=>nomatch h0
  | ok n j =>
   cases hy:Lo s one (c+1) (5 - c) i with
   | no a' e'=>exact fun h0=>nomatch h0
   | ok n' j' =>
    intro h0
    simp only[skR,Rs.ok.injEq] at h0
    obtain ⟨rfl,h2⟩:=h0
    simp only[Rs.bind_ok]
    rw[show ∀ x:Rs Nd,skR s (skR s x)=skR s x from fun x=>by cases x <;> simp only[skR,skp_skp]]
    exact frm_skp (fun op i _ hi=>ih i (by omega) hi) _ _ _ _ h2
end
end
end Go.Proofs.YtfkjhfdpphfjhaaGreatDoor
