/- Proved: a part of what the law is proved with (the reckoner, contracts of functions, plain laws). Conditions: as each says. -/
import Derived.Test.YtfcmhmglpcimiaaGreatDoorKIg
import Derived.Test.YtfcmhmglpcimiaaGreatDoorKJk
import Derived.Test.YtfcmhmglpcimiaaGreatDoorKTja
import Derived.Test.YtfcmhmglpcimiaaGreatDoorKTje
namespace Go.Proofs.YtfcmhmglpcimiaaGreatDoor
set_option maxRecDepth 100000
section
structure Pas (g:Gr) (p:List Cl) (c:Cl) (m:Nat) (s:FS) (b:Bool) (F:Prop):Prop where
 inv:FInv g p c s
 le:fmeas p s≤m
 lt:b=true→fmeas p s<m
 fx:b=false→F
theorem Pas.mono {g:Gr} {p:List Cl} {c:Cl} {m:Nat} {s:FS} {b:Bool} {F G:Prop} (h:Pas g p c m s b F) (k:F→G):Pas g p c m s b G:=⟨h.inv,h.le,h.lt,fun hb=>k (h.fx hb)⟩
theorem Pas.set {g:Gr} {p:List Cl} {c:Cl} {m:Nat} {s:FS} {b:Bool} {F G:Prop} (h:Pas g p c m s b F) {x y:Cl} (hx:x ∈ p) (hy:y ∈ g.on x) (hyK:y ∈ s.K) (hn:x ∉ s.K∨s.val y+1<s.val x):Pas g p c m (s.put x (s.val y+1)) true G:=by
 obtain ⟨h1,h2⟩:=h.inv.set hx hy hyK hn
 have:=h.le
 exact ⟨h1,by omega,fun _=>by omega,fun hb=>nomatch hb⟩
structure Circ (g:Gr) (p:List Cl) (c:Cl) (s:FS) (a:List Cl):Prop where
 hd:a.head?=some c
 nd:a.Nodup
 sub:∀ x ∈ a,x ∈ p
 st:∀ i,(h:i+1<a.length)→near s p (g.on a[i]) none=some a[i+1]
 en:∀ i,(h:i<a.length)→i+1=a.length→near s p (g.on a[i]) none=some c
theorem near_on {s:FS} {p l:List Cl} {w:Cl} (h:near s p l none=some w):w ∈ l∧w ∈ s.K∧w ∈ p:=by
 rcases near_in (s:=s) (p:=p) (l:=l) (b:=none) with e|⟨z,z1,z2,z3,z4⟩
 ·rw[e] at h
  cases h
 ·rw[h] at z2
  cases z2
  exact ⟨z1,z3,z4⟩
structure Way (g:Gr) (p:List Cl) (c:Cl) (s:FS) (b:List Cl) (t:Cl):Prop where
 hd:(b++[t]).head?=some c
 nd:(b++[t]).Nodup
 sub:∀ x ∈ b++[t],x ∈ p
 st:∀ i,(h:i+1<(b++[t]).length)→near s p (g.on (b++[t])[i]) none=some (b++[t])[i+1]
 dn:∀ x ∈ b++[t],x≠c→t≠c∧s.val t≤s.val x
def wayM (p:List Cl) (c:Cl) (s:FS) (t:Cl):Nat:=if t=c then p.length+1 else s.val t
theorem Way.init {g:Gr} {p:List Cl} {c:Cl} {s:FS} (hc:c ∈ p):Way g p c s [] c :=
 ⟨rfl,by simp,fun x hx=>by obtain rfl:=List.mem_singleton.1 hx;exact hc,fun i h=>by simp at h,fun x hx hn=>absurd (List.mem_singleton.1 hx) hn⟩
theorem Way.next {g:Gr} {p:List Cl} {c t:Cl} {s:FS} {b:List Cl} (h:Way g p c s b t) (hI:FInv g p c s) (hf:Fix g p s) (hp:Part g p) (hc:c ∈ p) (hy:∃ y ∈ g.on c,y ∈ p) :
 ∃ w,near s p (g.on t) none=some w∧(w=c→Circ g p c s (b++[t]))∧(w≠c→Way g p c s (b++[t]) w∧wayM p c s w<wayM p c s t):=by
 have hall:=hI.all hf hp hc
 have ht:t ∈ p:=h.sub t (by simp)
 obtain ⟨y,hy1,hy2,hy3⟩:∃ y ∈ g.on t,y ∈ p∧(t≠c→s.val y+1=s.val t):=by
  by_cases e:t=c
  ·subst e
   obtain ⟨y,h1,h2⟩:=hy
   exact ⟨y,h1,h2,fun hh=>absurd rfl hh⟩
  ·obtain ⟨y,h1,h2,h3⟩:=hI.near hf (hall t ht) ht e
   exact ⟨y,h1,hI.sub y h2,fun _=>h3⟩
 obtain ⟨w,hw,hwv⟩:=(near_le (s:=s) (p:=p) (l:=g.on t) (b:=none)).2 y hy1 (hall y hy2) hy2
 obtain ⟨w1,w2,w3⟩:=near_on hw
 refine ⟨w,hw,fun e=>?_,fun hwc=>?_⟩
 ·subst e
  refine ⟨h.hd,h.nd,h.sub,h.st,fun i hi hn=>?_⟩
  have hil:i=b.length:=by simp at hn;exact hn
  subst hil
  have e2:(b++[t])[b.length]=t:=by simp
  rw[e2]
  exact hw
 ·have hwt:t≠c→s.val w+1≤s.val t:=fun e=>by have:=hy3 e;omega
  have hwn:w ∉ b++[t]:=fun hm=>by
   obtain ⟨h1,h2⟩:=h.dn w hm hwc
   have:=hwt h1
   omega
  refine ⟨⟨?_,?_,?_,?_,?_⟩,?_⟩
  ·have h1:=h.hd
   cases hb:b++[t] with
   | nil=>simp at hb
   | cons x r=>rw[hb] at h1;exact h1
  ·exact List.nodup_append.2 ⟨h.nd,by simp,fun a ha x hx=>by obtain rfl:=List.mem_singleton.1 hx;exact fun e=>hwn (e ▸ ha)⟩
  ·intro x hx
   rcases List.mem_append.1 hx with hx|hx
   ·exact h.sub x hx
   ·obtain rfl:=List.mem_singleton.1 hx;exact w3
  ·intro i hi
   by_cases hl:i+1<(b++[t]).length
   ·rw[List.getElem_append_left hl,List.getElem_append_left (by omega)]
    exact h.st i hl
   ·have hn:i+1=(b++[t]).length:=by
     rw[List.length_append] at hi
     simp only[List.length_singleton] at hi
     omega
    have e1:(b++[t]++[w])[i+1]=w:=by
     rw[List.getElem_append_right (by omega)]
     simp
    have hil:i=b.length:=by simp at hn;exact hn
    subst hil
    have e2:(b++[t]++[w])[b.length]'(by simp)=t:=by
     rw[List.getElem_append_left (by simp)]
     simp
    rw[e1,e2]
    exact hw
  ·intro x hx hxc
   rcases List.mem_append.1 hx with hx|hx
   ·obtain ⟨h1,h2⟩:=h.dn x hx hxc
    have:=hwt h1
    exact ⟨hwc,by omega⟩
   ·obtain rfl:=List.mem_singleton.1 hx
    exact ⟨hwc,Nat.le_refl _⟩
  ·unfold wayM
   rw[if_neg hwc]
   by_cases e:t=c
   ·rw[if_pos e]
    have h1:=hI.lt w w2
    have h2:=hI.len
    omega
   ·rw[if_neg e]
    have:=hwt e
    omega
theorem Part.out {g:Gr} {c:Cl} (hc:∃ x,x≠c∧Rch g c x∧Rch g x c) (_hh:g.has c=true):∃ y ∈ g.on c,Rch g c y∧Rch g y c:=by
 obtain ⟨x,hx,h1,h2⟩:=hc
 cases h1 with
 | refl=>exact absurd rfl hx
 | step a1 a2 a3=>exact ⟨_,a1,Rch.one a1 a2,a3.trans h2⟩
theorem Part.on {g:Gr} {p:List Cl} (hp:Part g p) (up:p.Pairwise les) {c:Cl} (hc:c ∈ p) (hh:∀ x ∈ p,g.has x=true) {d:Cl} {r:List Cl} (he:p=d::r) (hr:r≠[]∨d ∈ g.on d):∃ y ∈ g.on c,y ∈ p:=by
 by_cases hrn:r=[]
 ·subst hrn
  subst he
  obtain rfl:=List.mem_singleton.1 hc
  exact ⟨c,hr.resolve_left fun h=>h rfl,hc⟩
 ·have hx:∃ x ∈ p,x≠c:=by
   cases r with
   | nil=>exact absurd rfl hrn
   | cons e r =>
    subst he
    by_cases hd:d=c
    ·subst hd
     refine ⟨e,by simp,fun hh=>?_⟩
     have:=(List.pairwise_cons.1 up).1 e (by simp)
     rw[hh] at this
     exact les_irr _ this
    ·exact ⟨d,by simp,hd⟩
  obtain ⟨x,hxp,hxc⟩:=hx
  have h1:=(hp.scc c hc x).1 hxp
  obtain ⟨y,y1,y2,y3⟩:=Part.out ⟨x,hxc,h1.1,h1.2⟩ (hh c hc)
  exact ⟨y,y1,(hp.scc c hc y).2 ⟨y2,y3⟩⟩
end
section
theorem Parts.row {g:Gr} {V:List Cl} {P:List (List Cl)} (h:Parts g V P):Row g V (sr2 P):=⟨h.perm (sr2_perm P),sr2_row P h.two fun p hp=>(h.part p hp).ne⟩
theorem Row.at {g:Gr} {V:List Cl} {Q:List (List Cl)} (h:Row g V Q) {i j:Nat} (hi:i<Q.length) (hj:j<Q.length) {c:Cl} (h1:c ∈ Q[i]) (h2:c ∈ Q[j]):i=j:=by
 have key:∀ {i j:Nat} (hi:i<Q.length) (hj:j<Q.length),i<j→c ∈ Q[i]→c ∈ Q[j]→False:=fun hi hj hij h1 h2=>(List.pairwise_iff_getElem.1 h.ps.two) _ _ hi hj hij c h1 h2
 rcases Nat.lt_trichotomy i j with hij|hij|hij
 ·exact (key hi hj hij h1 h2).elim
 ·exact hij
 ·exact (key hj hi hij h2 h1).elim
theorem Row.ex {g:Gr} {V:List Cl} {Q:List (List Cl)} (h:Row g V Q) {c:Cl} (hc:c ∈ V):∃ i,∃ hi:i<Q.length,c ∈ Q[i]:=by
 obtain ⟨p,hp,hcp⟩:=h.ps.all c hc
 obtain ⟨i,hi,rfl⟩:=List.getElem_of_mem hp
 exact ⟨i,hi,hcp⟩
section
variable {on:Cl→List Cl} {V W:List Cl} {c:Cl}
end
end
section
def Plus (g:Gr) (a b:Cl):Prop:=∃ y ∈ g.on a,g.has y=true∧Rch g y b
structure Bf (g:Gr) (V:List Cl) (c:Cl) (R:List Cl):Prop where
 nd:R.Nodup
 sub:∀ x ∈ R,x ∈ V
 ok:∀ x ∈ R,Plus g c x
def BDone (g:Gr) (V R:List Cl) (l:List Cl):Prop:=∀ x ∈ l,∀ y ∈ g.on x,y ∈ V→y ∈ R
theorem Bf.init {g:Gr} {V:List Cl} {c:Cl}:Bf g V c []:=⟨List.nodup_nil,(fun _ h=>nomatch h),(fun _ h=>nomatch h)⟩
theorem Bf.len {g:Gr} {V:List Cl} {c:Cl} {R:List Cl} (h:Bf g V c R):R.length≤V.length:=nodup_len h.nd h.sub
theorem Bf.put {g:Gr} {V:List Cl} {c x y:Cl} {R:List Cl} (h:Bf g V c R) (hV:∀ z ∈ V,g.has z=true) (hx:x ∈ c::R) (hy:y ∈ g.on x) (hyV:y ∈ V) (hn:y ∉ R):Bf g V c (R++[y]):=by
 refine ⟨List.nodup_append.2 ⟨h.nd,by simp,fun a ha b hb=>by obtain rfl:=List.mem_singleton.1 hb;exact fun e=>hn (e ▸ ha)⟩,fun z hz=>?_,fun z hz=>?_⟩
 ·rcases List.mem_append.1 hz with hz|hz
  ·exact h.sub z hz
  ·obtain rfl:=List.mem_singleton.1 hz;exact hyV
 ·rcases List.mem_append.1 hz with hz|hz
  ·exact h.ok z hz
  ·obtain rfl:=List.mem_singleton.1 hz
   rcases List.mem_cons.1 hx with rfl|hx
   ·exact ⟨z,hy,hV z hyV,.refl z⟩
   ·obtain ⟨w,h1,h2,h3⟩:=h.ok x hx
    exact ⟨w,h1,h2,h3.trans (Rch.one hy (hV z hyV))⟩
theorem BDone.more {g:Gr} {V R R':List Cl} {l:List Cl} (h:BDone g V R l) (k:∀ y ∈ R,y ∈ R'):BDone g V R' l:=fun x hx y hy hV=>k y (h x hx y hy hV)
theorem bdone_s {g:Gr} {V R:List Cl} {l:List Cl} {k:Nat} (hk:k<l.length) (h:BDone g V R (l.take k)) (hx:∀ y ∈ g.on l[k],y ∈ V→y ∈ R):BDone g V R (l.take (k+1)):=fun x hm=>by
 rw[List.take_succ_eq_append_getElem hk] at hm
 rcases List.mem_append.1 hm with h1|h1
 ·exact h x h1
 ·obtain rfl:=List.mem_singleton.1 h1
  exact hx
def BOne (V R:List Cl) (l:List Cl):Prop:=∀ y ∈ l,y ∈ V→y ∈ R
theorem bone_s {V R:List Cl} {l:List Cl} {j:Nat} (hj:j<l.length) (h:BOne V R (l.take j)) (hy:l[j] ∈ V→l[j] ∈ R):BOne V R (l.take (j+1)):=fun y hm=>by
 rw[List.take_succ_eq_append_getElem hj] at hm
 rcases List.mem_append.1 hm with h1|h1
 ·exact h y h1
 ·obtain rfl:=List.mem_singleton.1 h1
  exact hy
theorem BOne.more {V R R':List Cl} {l:List Cl} (h:BOne V R l) (k:∀ y ∈ R,y ∈ R'):BOne V R' l:=fun y hy hV=>k y (h y hy hV)
theorem Bf.all {g:Gr} {V:List Cl} {c:Cl} {R:List Cl} (h:Bf g V c R) (hV:∀ z,g.has z=true→z ∈ V) (hd:BDone g V R (c::R)) (x:Cl):x ∈ R↔Plus g c x:=by
 refine ⟨h.ok x,?_⟩
 rintro ⟨y,h1,h2,h3⟩
 have key:∀ {a b:Cl},Rch g a b→a ∈ R→b ∈ R:=fun {a b} hr=>by
  induction hr with
  | refl=>exact id
  | step k1 k2 _ ih=>exact fun ha=>ih (hd _ (List.mem_cons_of_mem _ ha) _ k1 (hV _ k2))
 exact key h3 (hd c (by simp) y h1 (hV y h2))
theorem half_at {V:List Cl} (hs:V.Pairwise les) {c:Cl} {k:Nat} (hk:k≤V.length) (h1:∀ j,(h:j<V.length)→j<k→les V[j] c) (h2:∀ j,(h:j<V.length)→k≤j→¬ les V[j] c) (hc:c ∈ V):∃ h:k<V.length,V[k]=c∧V.idxOf c=k:=by
 obtain ⟨p,hp,rfl⟩:=List.getElem_of_mem hc
 have hpk:p=k:=by
  rcases Nat.lt_trichotomy p k with h|h|h
  ·exact absurd (h1 p hp h) (les_irr _)
  ·exact h
  ·exact absurd ((List.pairwise_iff_getElem.1 hs) k p (by omega) hp h) (h2 k (by omega) (Nat.le_refl _))
 subst hpk
 have hn:V.Nodup:=hs.imp fun {a b} (hab:les a b) (e:a=b)=>les_irr b (by rwa [e] at hab)
 exact ⟨hp,rfl,List.Nodup.idxOf_getElem hn p hp⟩
end
section
open Go Go.RowKit Go.EYtfcmhmglpcimiaaGreatDoor
set_option maxHeartbeats 40000000
variable {gl:List (Nat×List D)}
abbrev vF (l:List Fl):List Cl:=l.map fun f=>(f.c,f.r)
def posZ (l:List Fl) (c:Cl):Int:=if c ∈ vF l then (((vF l).idxOf c:Nat):Int) else -1
theorem posZ_in {l:List Fl} {c:Cl} (h:c ∈ vF l):posZ l c=(((vF l).idxOf c:Nat):Int):=if_pos h
theorem posZ_out {l:List Fl} {c:Cl} (h:c ∉ vF l):posZ l c=-1:=if_neg h
abbrev docN (l:List Fl) (c1 c2 c3 c4:C):Blk:=.var [.d (.lst 3 (l.map flD)),c1,c2,c3,c4] 37
theorem number_h (l:List Fl) (hs:(vF l).Pairwise les) (hl:l.length≤65536) (c:Cl):Go.EYtfcmhmglpcimiaaGreatDoor.Fn Tryz.prog gl 25 [.c (.ptr 0 0),.agg [.d (iD c.1),.d (iD c.2)]] [(0,docN l (.all 12 1) (.all 1 2) (.all 1 3) (.all 1 4))] 5 (.ret (.c (.d (iD (posZ l c))))) [(0,docN l (.all 12 1) (.all 1 2) (.all 1 3) (.all 1 4))] 5 []:=by
 have hlm:(l.map flD).length=l.length:=List.length_map _
 have hvm:(vF l).length=l.length:=List.length_map _
 refine S1 Tryz.func25 rfl ?_
 ((repeat' ((conv=>whnf);first|exact .intro|refine G ?_|intro _|refine .mk ?_ ?_|refine H ?_|fail));all_goals conv=>whnf)
 refine ⟨{ σ:=Nat×Nat,fr:=fun q=>[(5,.c (.d (iD (q.1:Int)))),(6,.c (.d (iD (q.2:Int))))],ks:=[],L:=fun _=>[],ex:=0,I:=fun q=>q.1≤q.2∧q.2≤l.length∧(∀ j,(h:j<(vF l).length)→j<q.1→les (vF l)[j] c)∧∀ j,(h:j<(vF l).length)→q.2≤j→¬ les (vF l)[j] c,μ:=fun q=>q.2 - q.1 },⟨(0,l.length),⟨Nat.zero_le _,Nat.le_refl _,(fun _ _ h=>nomatch h),fun j h hj=>by omega⟩,?_⟩,fun (q:Nat×Nat) hq=>?_⟩
 ·((repeat' first|exact rfl|((conv=>whnf);first|done|exact suL|refine And.intro ?_ ?_|fail));all_goals conv=>whnf)
  all_goals first|exact .inr (.inl (by rw[hlm]))|skip
 obtain ⟨a,b⟩:=q
 obtain ⟨h1,h2,h3,h4⟩:=hq
 replace h1:a≤b:=h1
 replace h2:b≤l.length:=h2
 replace h3:∀ j,(h:j<(vF l).length)→j<a→les (vF l)[j] c:=h3
 replace h4:∀ j,(h:j<(vF l).length)→b≤j→¬ les (vF l)[j] c:=h4
 by_cases hab:a<b
 ·have h5:(a:Int)<(b:Int):=by omega
  obtain ⟨m,hm⟩:∃ m,m=(a+b) / 2:=⟨_,rfl⟩
  have hma:a≤m:=by omega
  have hmb:m<b:=by omega
  have hml:m<l.length:=by omega
  have em:IntKind.i64.wrap ((IntKind.i64.wrap ((a:Int)+(b:Int))).tdiv 2)=(m:Int):=by
   have e1:(IntKind.i64.wrap ((a:Int)+(b:Int))).tdiv 2=(m:Int):=by
    rw[wrapI (by omega),show (a:Int)+(b:Int)=((a+b:Nat):Int) by omega,hm]
    rfl
   rw[e1,wrapI (by omega)]
  have g1:=get_map (f:=flD) hml
  have hv:(vF l)[m]'(by omega)=(l[m].c,l[m].r):=List.getElem_map ..
  have c1:=Ahead_d (gl:=gl) l[m].c l[m].r c.1 c.2
  have e0:IntKind.i64.wrap ((m:Int)+1)=((m+1:Nat):Int):=by rw[wrapI (by omega)];rfl
  have hles:∀ {x y z:Cl},les x y→les y z→les x z:=fun {x y z} h k=>by unfold les at *;omega
  have hsv:=List.pairwise_iff_getElem.1 hs
  by_cases hA:l[m].r<c.2∨l[m].r=c.2∧l[m].c<c.1
  ·have hm3:les ((vF l)[m]'(by omega)) c:=by rw[hv];exact hA
   ((repeat' ((conv=>whnf);first|exact .intro|refine G ?_|intro _|refine C1 c1 ?_|(first|rw[em]|refine ⟨Int.natCast_nonneg _,_,g1,?_⟩)|refine .mk ?_ ?_|refine H ?_|fail));all_goals conv=>whnf)
   all_goals refine ⟨(m+1,b),⟨⟨hmb,h2,(fun j hj hjm=>?_),h4⟩,by show b - (m+1)<b - a;omega⟩,?_⟩
   ·rcases Nat.lt_or_eq_of_le (Nat.le_of_lt_succ hjm) with h6|h6
    ·exact hles (hsv j m hj (by omega) h6) hm3
    ·subst h6;exact hm3
   all_goals ((repeat' first|exact rfl|((conv=>whnf);first|done|exact suL|refine And.intro ?_ ?_|fail));all_goals conv=>whnf)
   all_goals first|exact .inr (.inl (by rw[e0]))|(rw[em,e0];exact .inr (.inl rfl))|skip
  ·have hm3:¬ les ((vF l)[m]'(by omega)) c:=by rw[hv];exact hA
   ((repeat' ((conv=>whnf);first|exact .intro|refine G ?_|intro _|refine C1 c1 ?_|(first|rw[em]|refine ⟨Int.natCast_nonneg _,_,g1,?_⟩)|refine .mk ?_ ?_|refine H ?_|fail));all_goals conv=>whnf)
   all_goals refine ⟨(a,m),⟨⟨hma,by omega,h3,fun j hj hjm hh=>?_⟩,by show m - a<b - a;omega⟩,?_⟩
   ·rcases Nat.lt_or_eq_of_le hjm with h6|h6
    ·exact hm3 (hles (hsv m j (by omega) hj h6) hh)
    ·subst h6;exact hm3 hh
   all_goals ((repeat' first|exact rfl|((conv=>whnf);first|done|exact suL|refine And.intro ?_ ?_|fail));all_goals conv=>whnf)
   all_goals first|exact .inr (.inl (by rw[em]))|skip
 ·obtain rfl:a=b:=by omega
  have h5:¬ (a:Int)<(a:Int):=by omega
  by_cases hal:a<l.length
  ·have h6:(a:Int)<(((l.map flD).length:Nat):Int):=by omega
   have g1:=get_map (f:=flD) hal
   have hv:(vF l)[a]'(by omega)=(l[a].c,l[a].r):=List.getElem_map ..
   by_cases hc:(vF l)[a]'(by omega)=c
   ·have hcv:c ∈ vF l:=by rw[← hc];exact List.getElem_mem _
    obtain ⟨_,_,h7⟩:=half_at hs (by omega) h3 h4 hcv
    rw[posZ_in hcv,h7]
    have h8:l[a].c=c.1∧l[a].r=c.2∧True:=by rw[← hc,hv];exact ⟨rfl,rfl,trivial⟩
    ((repeat' ((conv=>whnf);first|exact .intro|refine G ?_|intro _|(refine ⟨Int.natCast_nonneg _,_,g1,?_⟩)|refine .mk ?_ ?_|refine H ?_|fail));all_goals conv=>whnf)
    all_goals ((repeat' first|exact rfl|((conv=>whnf);first|done|exact suL|refine And.intro ?_ ?_|fail));all_goals conv=>whnf)
   ·have hcv:c ∉ vF l:=fun hh=>by
     obtain ⟨_,h7,_⟩:=half_at hs (by omega) h3 h4 hh
     exact hc h7
    rw[posZ_out hcv]
    have h8:¬ (l[a].c=c.1∧l[a].r=c.2∧True):=fun hh=>hc (by rw[hv];exact Prod.ext hh.1 hh.2.1)
    ((repeat' ((conv=>whnf);first|exact .intro|refine G ?_|intro _|(refine ⟨Int.natCast_nonneg _,_,g1,?_⟩)|refine .mk ?_ ?_|refine H ?_|fail));all_goals conv=>whnf)
    all_goals ((repeat' first|exact rfl|((conv=>whnf);first|done|exact suL|refine And.intro ?_ ?_|fail));all_goals conv=>whnf)
  ·have h6:¬ (a:Int)<(((l.map flD).length:Nat):Int):=by omega
   have hcv:c ∉ vF l:=fun hh=>by
    obtain ⟨h7,_⟩:=half_at hs (by omega) h3 h4 hh
    omega
   rw[posZ_out hcv]
   ((repeat' ((conv=>whnf);first|exact .intro|refine G ?_|intro _|refine .mk ?_ ?_|refine H ?_|fail));all_goals conv=>whnf)
   all_goals ((repeat' first|exact rfl|((conv=>whnf);first|done|exact suL|refine And.intro ?_ ?_|fail));all_goals conv=>whnf)
end
end Go.Proofs.YtfcmhmglpcimiaaGreatDoor
