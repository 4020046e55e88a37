/- Proved: a part of what the law is proved with (the reckoner, contracts of functions, plain laws). Conditions: as each says. -/
import Derived.Test.YtfkjhfdpphfjhaaGreatDoorYDm
import Derived.Test.YtfkjhfdpphfjhaaGreatDoorYTf
section
namespace Go.Proofs.YtfkjhfdpphfjhaaGreatDoor
open Go Go.RowKit Go.EYtfkjhfdpphfjhaaGreatDoor
set_option maxRecDepth 100000
set_option maxHeartbeats 4000000
variable {gl:List (Nat×List D)}
abbrev vlR' (v:Vl):List D:=[iD v.k,iD v.n,.str v.s]
section
variable (te:TypeId) (pe:Value) (hV:Has gl (glV te pe))
include hV
theorem numC {v:Vl} (hv:v.ok):FnP Tryz.prog gl 106 [v.d] (numV v).d:=FnP.moreG (Number_d te pe v.k v.n v.s (v_len hv)) hV
end
end Go.Proofs.YtfkjhfdpphfjhaaGreatDoor
end
section
namespace Go.Proofs.YtfkjhfdpphfjhaaGreatDoor
open Go Go.EYtfkjhfdpphfjhaaGreatDoor
set_option maxRecDepth 100000
theorem fstOf {p:Nat→Prop} (n:Nat):(∀ k,k<n→p k)∨∃ m,m<n∧(∀ k,k<m→p k)∧¬ p m:=by
 induction n with
 | zero=>exact .inl fun k h=>absurd h (Nat.not_lt_zero k)
 | succ n ih =>
  rcases ih with h|⟨m,h1,h2,h3⟩
  ·by_cases hn:p n
   ·exact .inl fun k hk=>by
     rcases Nat.lt_succ_iff_lt_or_eq.1 hk with hk|rfl
     ·exact h k hk
     ·exact hn
   ·exact .inr ⟨n,Nat.lt_succ_self n,h,hn⟩
  ·exact .inr ⟨m,by omega,h2,h3⟩
abbrev txV (t:List UInt8):Vl:=⟨2,0,t⟩
abbrev nuV (n:Int):Vl:=⟨1,n,[]⟩
theorem call_left (t:List UInt8) (n:Nat) (_h:n≤t.length):callV nLEFT [.one (txV t),.one (nuV n)]=txV (t.take n):=by
 have e:callV nLEFT [.one (txV t),.one (nuV n)]=cutV nLEFT t n (numV wrV).n:=rfl
 rw[e]
 unfold cutV
 rw[if_neg (by decide),if_neg (by omega),if_neg (by decide),if_neg (by decide)]
 simp
theorem call_right (t:List UInt8) (n:Nat) (h:n≤t.length):callV nRIGHT [.one (txV t),.one (nuV ((t.length:Int) - n))]=txV (t.drop n):=by
 have e:callV nRIGHT [.one (txV t),.one (nuV ((t.length:Int) - n))]=cutV nRIGHT t ((t.length:Int) - n) (numV wrV).n:=rfl
 rw[e]
 unfold cutV
 rw[if_neg (by decide),if_neg (by omega),if_pos rfl]
 congr 2
 omega
theorem call_mid (t:List UInt8) (n:Nat) (h:n≤t.length):callV nMID [.one (txV t),.one (nuV ((n:Int)+1)),.one (nuV ((t.length:Int) - n))]=txV (t.drop n):=by
 have e:callV nMID [.one (txV t),.one (nuV ((n:Int)+1)),.one (nuV ((t.length:Int) - n))]=cutV nMID t ((n:Int)+1) ((t.length:Int) - n):=rfl
 rw[e]
 unfold cutV
 rw[if_pos rfl,if_neg (by omega),if_neg (by omega)]
 congr 1
 rw[show ((n:Int)+1 - 1).toNat=n by omega,List.take_of_length_le (by rw[List.length_drop];omega)]
theorem call_exact (s t:List UInt8):callV nEXACT [.one (txV s),.one (txV t)]=truD (s=t):=rfl
theorem call_len (s:List UInt8):callV nLEN [.one (txV s)]=nuV s.length:=rfl
theorem call_find (s t:List UInt8):callV nFIND [.one (txV s),.one (txV t)]=if Lib.index t s<0 then wrV else nuV (Lib.index t s+1):=rfl
theorem find_drop {t:List UInt8} {n:Nat} (h:n≤t.length):0≤Lib.index t (t.drop n)∧Lib.index t (t.drop n)≤n:=by
 have ho:Lib.occAt t (t.drop n) n=true:=by unfold Lib.occAt;simp
 have hx:∃ m,m≤n∧Lib.occAt t (t.drop n) m=true∧∀ j,j<m→Lib.occAt t (t.drop n) j=false:=by
  rcases fstOf (p:=fun j=>Lib.occAt t (t.drop n) j=false) (n+1) with h1|⟨m,h1,h2,h3⟩
  ·have:=h1 n (by omega)
   rw[ho] at this
   cases this
  ·exact ⟨m,by omega,by simpa using h3,h2⟩
 obtain ⟨m,h1,h2,h3⟩:=hx
 rw[Lib.index_first (by omega) h2 h3]
 omega
theorem cat_cut (t:List UInt8) (n:Nat) (h:t.length≤200):twoV 7 (txV (t.take n)) (txV (t.drop n))=txV t:=by
 rw[show twoV 7 (txV (t.take n)) (txV (t.drop n))=if 200<(t.take n++t.drop n).length then ⟨4,2,[]⟩ else ⟨2,0,t.take n++t.drop n⟩ from rfl,List.take_append_drop,if_neg (by omega)]
end Go.Proofs.YtfkjhfdpphfjhaaGreatDoor
end
section
namespace Go.Proofs.YtfkjhfdpphfjhaaGreatDoor
open Go Go.EYtfkjhfdpphfjhaaGreatDoor
set_option maxRecDepth 100000
abbrev cR (c r:Int):Rf:=⟨c,r,false,false⟩
def refN (a:Rf):Nd:=.mk 5 0 [] a z0 []
def numN (m:Int):Nd:=.mk 1 m [] z0 z0 []
def txtN (t:List UInt8):Nd:=.mk 2 0 t z0 z0 []
def callN (t:List UInt8) (ks:List Nd):Nd:=.mk 9 0 t z0 z0 ks
def catN (x y:Nd):Nd:=.mk 8 7 [] z0 z0 [x,y]
structure Sm (n:Nd) (p:Prop) (w d c:Nat):Prop where
 frm:frmN n p
 ok:okN n
 wr:(wrN n).length≤w
 dep:depN n≤d
 cnt:cntN n≤c
theorem Sm.mono {n:Nd} {p q:Prop} {w d c w' d' c':Nat} (h:Sm n p w d c) (hf:frmN n p→frmN n q) (hw:w≤w':=by omega) (hd:d≤d':=by omega) (hc:c≤c':=by omega):Sm n q w' d' c' :=
 ⟨hf h.frm,h.ok,Nat.le_trans h.wr hw,Nat.le_trans h.dep hd,Nat.le_trans h.cnt hc⟩
theorem Sm.to {n:Nd} {w d c w' d' c':Nat} (h:Sm n False w d c) (hw:w≤w':=by omega) (hd:d≤d':=by omega) (hc:c≤c':=by omega):Sm n True w' d' c':=h.mono frm_more hw hd hc
theorem Sm.pr {n:Nd} {w d c:Nat} (h:Sm n False w d c) (hw:w≤199) (hd:d≤30) (hc:c≤200):prZ rfZ n=(61::wrN n,0) :=
 prZ_small h.frm h.ok (Nat.le_trans h.cnt hc) (Nat.le_trans h.dep hd) (Nat.le_trans h.wr hw)
theorem nmR_3 (c r:Int):(nmR (cR c r)).length≤3:=by
 have:=digs_len r.toNat
 unfold nmR nameL
 simp
 omega
theorem sm_ref (p:Prop) {c r:Int} (h:okP c r):Sm (refN (cR c r)) p 3 0 1:=by
 have h1:=nmR_3 c r
 refine ⟨by unfold refN;rw[frm_5];exact ⟨rfl,rfl,rfl,noR_z0,h⟩,⟨by decide,by decide,trivial⟩,?_,by unfold refN;simp[depN],by unfold refN;simp[cntN,cntL]⟩
 unfold refN
 simp[wrN]
 omega
theorem sm_num (p:Prop) {m:Int} (h:0≤m) (h':okI m) {w:Nat} (hw:(Lib.itoa m).length≤w):Sm (numN m) p w 0 1:=by
 refine ⟨by unfold numN;rw[frm_1];exact ⟨rfl,rfl,⟨noR_z0,noR_z0⟩,h⟩,⟨h',by decide,trivial⟩,?_,by unfold numN;simp[depN],by unfold numN;simp[cntN,cntL]⟩
 unfold numN
 simp[wrN]
 exact hw
theorem sm_txt (p:Prop) {t:List UInt8} {w:Nat} (hw:(dqN t).length+2≤w) (ht:t.length≤1048576):Sm (txtN t) p w 0 1:=by
 refine ⟨by unfold txtN;rw[frm_2];exact ⟨rfl,⟨noR_z0,noR_z0⟩,rfl⟩,⟨by decide,ht,trivial⟩,?_,by unfold txtN;simp[depN],by unfold txtN;simp[cntN,cntL]⟩
 unfold txtN
 simp[wrN]
 omega
theorem com_le {w:Nat}:∀ {l:List (List UInt8)},(∀ s ∈ l,s.length≤w)→(comN l).length≤l.length * (w+1)
 | [],_=>by simp[comN]
 | [x],h=>by have:=h x (by simp);simp[comN];omega
 | x::y::l,h=>by
  have h1:=com_le (l:=y::l) fun s hs=>h s (by simp[hs])
  have h2:=h x (by simp)
  rw[comN_cons,List.length_append,List.length_cons]
  rw[List.length_cons] at h1
  rw[List.length_cons,List.length_cons]
  have:(l.length+1+1) * (w+1)=(l.length+1) * (w+1)+(w+1):=Nat.succ_mul _ _
  omega
theorem cnt_le {c:Nat}:∀ {ks:List Nd},(∀ x ∈ ks,cntN x≤c)→cntL ks≤ks.length * c
 | [],_=>by simp[cntL]
 | x::r,h=>by
  have h1:=cnt_le (ks:=r) fun s hs=>h s (by simp[hs])
  have h2:=h x (by simp)
  rw[cntL,List.length_cons,Nat.succ_mul]
  omega
theorem dep_le {d:Nat}:∀ {ks:List Nd},(∀ x ∈ ks,depN x≤d)→mxL (depL ks)≤d
 | [],_=>by simp[depL,mxL]
 | x::r,h=>by
  have h1:=dep_le (ks:=r) fun s hs=>h s (by simp[hs])
  have h2:=h x (by simp)
  rw[depL,mxL]
  omega
theorem okL_of:∀ {ks:List Nd},(∀ x ∈ ks,okN x)→okL ks
 | [],_=>trivial
 | x::r,h=>⟨h x (by simp),okL_of fun y hy=>h y (by simp[hy])⟩
theorem wrL_mem:∀ {ks:List Nd} {s:List UInt8},s ∈ wrL ks→∃ x ∈ ks,s=wrN x
 | x::r,s,h=>by
  rcases List.mem_cons.1 h with rfl|h
  ·exact ⟨x,by simp,rfl⟩
  ·obtain ⟨y,hy,e⟩:=wrL_mem (ks:=r) h
   exact ⟨y,by simp[hy],e⟩
theorem sm_call (p:Prop) {t:List UInt8} (ht:clZ t=true) {ks:List Nd} {w d c:Nat} (h:∀ x ∈ ks,Sm x True w d c):Sm (callN t ks) p (t.length+2+ks.length * (w+1)) (d+1) (1+ks.length * c):=by
 have htl:t.length≤10:=((clZ_iff t).1 ht).2.1
 refine ⟨?_,⟨by decide,by omega,okL_of fun x hx=>(h x hx).ok⟩,?_,?_,?_⟩
 ·unfold callN
  rw[frm_9]
  exact ⟨ht,⟨noR_z0,noR_z0⟩,rfl,frmL_iff.2 fun x hx=>(h _ (List.getElem_mem hx)).frm⟩
 ·have h1:=com_le (w:=w) (l:=wrL ks) fun s hs=>by
   obtain ⟨x,hx,rfl⟩:=wrL_mem hs
   exact (h x hx).wr
  rw[wrL_len] at h1
  unfold callN
  simp[wrN]
  omega
 ·have h1:=dep_le (d:=d) fun x hx=>(h x hx).dep
  unfold callN
  unfold depN
  rw[if_neg (by decide),if_neg (by decide),if_pos rfl]
  omega
 ·have h1:=cnt_le (c:=c) fun x hx=>(h x hx).cnt
  unfold callN
  unfold cntN
  omega
theorem sm_cat (p:Prop) {x y:Nd} {w d c:Nat} (hx:Sm x False w d c) (hy:Sm y False w d c):Sm (catN x y) p (2 * w+6) (d+1) (1+2 * c):=by
 refine ⟨?_,⟨by decide,by decide,hx.ok,hy.ok,trivial⟩,?_,?_,?_⟩
 ·unfold catN
  rw[frm_8]
  exact ⟨rfl,rfl,⟨noR_z0,noR_z0⟩,by decide,by decide,hx.frm,hy.frm,trivial⟩
 ·have h1:=hx.wr
  have h2:=hy.wr
  have hb:∀ (s:List UInt8) (q:Prop) [Decidable q],(brN s q).length≤s.length+2:=fun s q _=>by unfold brN;split <;> simp
  unfold catN
  rw[wrN,if_neg (by decide),if_neg (by decide),if_neg (by decide),if_neg (by decide),if_neg (by decide),if_neg (by decide),if_neg (by decide),if_pos rfl,wrL,wrL,wrL,wr8]
  have b1:=hb (wrN x) (tgtN x<tgtN (.mk 8 7 [] z0 z0 [x,y]))
  have b2:=hb (wrN y) (tgtN y≤tgtN (.mk 8 7 [] z0 z0 [x,y]))
  have b3:(sgnN 7).length=1:=rfl
  rw[List.length_append,List.length_append]
  omega
 ·have h1:=hx.dep
  have h2:=hy.dep
  unfold catN
  rw[depN,if_neg (by decide),if_pos rfl,depL,depL,depL,dp8]
  unfold brD
  repeat' split
  all_goals omega
 ·have h1:=hx.cnt
  have h2:=hy.cnt
  unfold catN
  simp only[cntN,cntL]
  omega
theorem evN_call (ev:Int→Int→Vl) (t:List UInt8) (ks:List Nd):evN ev (callN t ks)=callV t (ks.map (evA ev)):=by
 unfold callN
 rw[evN_mk,evK_map]
 rfl
theorem evA_call (ev:Int→Int→Vl) (t:List UInt8) (ks:List Nd):evA ev (callN t ks)=.one (callV t (ks.map (evA ev))):=by
 unfold callN
 rw[evA,evK_map]
 rfl
theorem evN_cat (ev:Int→Int→Vl) (x y:Nd):evN ev (catN x y)=twoV 7 (evN ev x) (evN ev y):=by
 unfold catN
 rw[evN_mk]
 rfl
end Go.Proofs.YtfkjhfdpphfjhaaGreatDoor
end
