/- Proved: a part of what the law is proved with (the reckoner, contracts of functions, plain laws). Conditions: as each says. -/
import Derived.Test.YtaheflnnigocgaaGreatDoorHEr
section
namespace Go.Proofs.YtaheflnnigocgaaGreatDoor
set_option maxRecDepth 100000
structure FS where
 K:List Cl
 val:Cl→Nat
structure FInv (g:Gr) (p:List Cl) (c:Cl) (s:FS):Prop where
 nd:s.K.Nodup
 sub:∀ x ∈ s.K,x ∈ p
 c0:c ∈ s.K
 v0:s.val c=0
 st:∀ x ∈ s.K,x≠c→∃ y ∈ g.on x,y ∈ s.K∧s.val y+1≤s.val x
 lt:∀ x ∈ s.K,s.val x<s.K.length
def FS.put (s:FS) (x:Cl) (v:Nat):FS:=⟨if x ∈ s.K then s.K else s.K++[x],fun z=>if z=x then v else s.val z⟩
def fmeas (p:List Cl) (s:FS):Nat:=(p.map fun x=>if x ∈ s.K then s.val x else p.length+1).sum
theorem put_mem {s:FS} {x z:Cl} {v:Nat}:z ∈ (s.put x v).K↔z ∈ s.K∨z=x:=by
 unfold FS.put
 by_cases h:x ∈ s.K
 ·simp only[if_pos h]
  exact ⟨.inl,fun hh=>hh.elim id fun e=>e ▸ h⟩
 ·simp only[if_neg h,List.mem_append,List.mem_singleton]
theorem FInv.init {g:Gr} {p:List Cl} {c:Cl} (hc:c ∈ p) (f:Cl→Nat) (hf:f c=0):FInv g p c ⟨[c],f⟩ :=
 ⟨by simp,fun x hx=>by obtain rfl:=List.mem_singleton.1 hx;exact hc,by simp,hf,fun x hx hn=>absurd (List.mem_singleton.1 hx) hn,fun x hx=>by obtain rfl:=List.mem_singleton.1 hx;show f x<1;rw[hf];exact Nat.one_pos⟩
section
variable {g:Gr} {p:List Cl} {c:Cl} {s:FS}
theorem FInv.len (h:FInv g p c s):s.K.length≤p.length:=nodup_len h.nd h.sub
theorem FInv.set (h:FInv g p c s) {x y:Cl} (hx:x ∈ p) (hy:y ∈ g.on x) (hyK:y ∈ s.K) (hn:x ∉ s.K∨s.val y+1<s.val x):FInv g p c (s.put x (s.val y+1))∧fmeas p (s.put x (s.val y+1))<fmeas p s:=by
 have hxc:x≠c:=fun e=>by
  subst e
  rcases hn with hn|hn
  ·exact hn h.c0
  ·rw[h.v0] at hn;cases hn
 have hyx:y≠x:=fun e=>by
  subst e
  rcases hn with hn|hn
  ·exact hn hyK
  ·omega
 have hval:∀ z,z≠x→(s.put x (s.val y+1)).val z=s.val z:=fun z hz=>if_neg hz
 have hvx:(s.put x (s.val y+1)).val x=s.val y+1:=if_pos rfl
 have hle:∀ z ∈ s.K,(s.put x (s.val y+1)).val z≤s.val z:=fun z hz=>by
  by_cases e:z=x
  ·subst e
   rw[hvx]
   rcases hn with hn|hn
   ·exact absurd hz hn
   ·omega
  ·rw[hval z e];exact Nat.le_refl _
 have hlen:s.K.length≤(s.put x (s.val y+1)).K.length:=by
  unfold FS.put
  by_cases e:x ∈ s.K
  ·simp only[if_pos e];exact Nat.le_refl _
  ·simp only[if_neg e,List.length_append,List.length_singleton];omega
 have hy1:=h.lt y hyK
 refine ⟨⟨?_,?_,?_,?_,?_,?_⟩,?_⟩
 ·unfold FS.put
  by_cases e:x ∈ s.K
  ·simp only[if_pos e];exact h.nd
  ·simp only[if_neg e]
   exact List.nodup_append.2 ⟨h.nd,by simp,fun a ha b hb=>by obtain rfl:=List.mem_singleton.1 hb;exact fun e'=>e (e' ▸ ha)⟩
 ·intro z hz
  rcases put_mem.1 hz with hz|rfl
  ·exact h.sub z hz
  ·exact hx
 ·exact put_mem.2 (.inl h.c0)
 ·rw[hval c (Ne.symm hxc)];exact h.v0
 ·intro z hz hzc
  by_cases e:z=x
  ·subst e
   exact ⟨y,hy,put_mem.2 (.inl hyK),by rw[hvx,hval y hyx];exact Nat.le_refl _⟩
  ·have hzK:z ∈ s.K:=(put_mem.1 hz).resolve_right e
   obtain ⟨w,hw,hwK,h1⟩:=h.st z hzK hzc
   exact ⟨w,hw,put_mem.2 (.inl hwK),by rw[hval z e];have:=hle w hwK;omega⟩
 ·intro z hz
  by_cases e:z=x
  ·subst e
   rw[hvx]
   unfold FS.put
   by_cases e':z ∈ s.K
   ·rcases hn with hn|hn
    ·exact absurd e' hn
    ·simp only[if_pos e']
     have:=h.lt z e'
     omega
   ·simp only[if_neg e',List.length_append,List.length_singleton]
    omega
  ·have hzK:z ∈ s.K:=(put_mem.1 hz).resolve_right e
   rw[hval z e]
   exact Nat.lt_of_lt_of_le (h.lt z hzK) hlen
 ·refine sum_one (d:=1) hx ?_ fun z hz=>?_
  ·show (if x ∈ (s.put x (s.val y+1)).K then (s.put x (s.val y+1)).val x else p.length+1)+1≤(if x ∈ s.K then s.val x else p.length+1)
   rw[if_pos (put_mem.2 (.inr rfl)),hvx]
   have:=h.len
   rcases hn with hn|hn
   ·rw[if_neg hn];omega
   ·split
    ·omega
    ·omega
  ·show (if z ∈ (s.put x (s.val y+1)).K then (s.put x (s.val y+1)).val z else p.length+1)≤(if z ∈ s.K then s.val z else p.length+1)
   by_cases e:z ∈ s.K
   ·rw[if_pos e,if_pos (put_mem.2 (.inl e))];exact hle z e
   ·rw[if_neg e]
    by_cases e':z=x
    ·subst e'
     rw[if_pos (put_mem.2 (.inr rfl)),hvx]
     have:=h.len
     omega
    ·rw[if_neg fun hh=>(put_mem.1 hh).elim e e']
     exact Nat.le_refl _
def Fix (g:Gr) (p:List Cl) (s:FS):Prop:=∀ x ∈ p,∀ y ∈ g.on x,y ∈ s.K→x ∈ s.K∧s.val x≤s.val y+1
theorem FInv.all (h:FInv g p c s) (hf:Fix g p s) (hp:Part g p) (hc:c ∈ p):∀ x ∈ p,x ∈ s.K:=by
 have key:∀ {a b:Cl},Rch g a b→b=c→(a ∈ p→a ∈ s.K):=fun {a b} hr=>by
  induction hr with
  | refl a=>intro e ha;rw[e];exact h.c0
  | step h1 h2 h3 ih =>
   intro e ha
   subst e
   have hb:=(hp.scc _ hc _).2 ⟨((hp.scc _ hc _).1 ha).1.trans (Rch.one h1 h2),h3⟩
   exact (hf _ ha _ h1 (ih rfl hb)).1
 exact fun x hx=>key ((hp.scc c hc x).1 hx).2 rfl hx
theorem FInv.near (h:FInv g p c s) (hf:Fix g p s) {x:Cl} (hx:x ∈ s.K) (hxp:x ∈ p) (hxc:x≠c):∃ y ∈ g.on x,y ∈ s.K∧s.val y+1=s.val x:=by
 obtain ⟨y,hy,hyK,h1⟩:=h.st x hx hxc
 have:=(hf x hxp y hy hyK).2
 exact ⟨y,hy,hyK,by omega⟩
theorem FInv.pos (h:FInv g p c s) {x:Cl} (hx:x ∈ s.K) (hxc:x≠c):0<s.val x:=by
 obtain ⟨y,_,_,h1⟩:=h.st x hx hxc
 omega
end
def near (s:FS) (p:List Cl):List Cl→Option Cl→Option Cl
 | [],b=>b
 | y::l,b=>near s p l (if y ∈ s.K∧y ∈ p∧(∀ z,b=some z→s.val y<s.val z) then some y else b)
theorem near_in {s:FS} {p:List Cl}:∀ {l:List Cl} {b:Option Cl},near s p l b=b∨∃ y ∈ l,near s p l b=some y∧y ∈ s.K∧y ∈ p
 | [],_=>.inl rfl
 | y::l,b=>by
  unfold near
  by_cases h:y ∈ s.K∧y ∈ p∧(∀ z,b=some z→s.val y<s.val z)
  ·rw[if_pos h]
   rcases near_in (s:=s) (p:=p) (l:=l) (b:=some y) with h1|⟨z,h1,h2⟩
   ·exact .inr ⟨y,by simp,h1,h.1,h.2.1⟩
   ·exact .inr ⟨z,by simp[h1],h2⟩
  ·rw[if_neg h]
   rcases near_in (s:=s) (p:=p) (l:=l) (b:=b) with h1|⟨z,h1,h2⟩
   ·exact .inl h1
   ·exact .inr ⟨z,by simp[h1],h2⟩
theorem near_le {s:FS} {p:List Cl}:∀ {l:List Cl} {b:Option Cl},(∀ z,b=some z→∃ w,near s p l b=some w∧s.val w≤s.val z)∧∀ y ∈ l,y ∈ s.K→y ∈ p→∃ w,near s p l b=some w∧s.val w≤s.val y
 | [],b=>⟨fun z hz=>⟨z,hz,Nat.le_refl _⟩,fun y hy=>by cases hy⟩
 | a::l,b=>by
  unfold near
  by_cases h:a ∈ s.K∧a ∈ p∧(∀ z,b=some z→s.val a<s.val z)
  ·rw[if_pos h]
   obtain ⟨h1,h2⟩:=near_le (s:=s) (p:=p) (l:=l) (b:=some a)
   obtain ⟨w,h3,h4⟩:=h1 a rfl
   refine ⟨fun z hz=>⟨w,h3,?_⟩,fun y hy hyK hyp=>?_⟩
   ·have:=h.2.2 z hz;omega
   ·rcases List.mem_cons.1 hy with rfl|hy
    ·exact ⟨w,h3,h4⟩
    ·exact h2 y hy hyK hyp
  ·rw[if_neg h]
   obtain ⟨h1,h2⟩:=near_le (s:=s) (p:=p) (l:=l) (b:=b)
   refine ⟨h1,fun y hy hyK hyp=>?_⟩
   rcases List.mem_cons.1 hy with rfl|hy
   ·cases b with
    | none=>exact absurd ⟨hyK,hyp,fun z hz=>by cases hz⟩ h
    | some z =>
     obtain ⟨w,h3,h4⟩:=h1 z rfl
     refine ⟨w,h3,?_⟩
     by_cases hlt:s.val y<s.val z
     ·exact absurd ⟨hyK,hyp,fun z' hz'=>by cases hz';exact hlt⟩ h
     ·omega
   ·exact h2 y hy hyK hyp
end Go.Proofs.YtaheflnnigocgaaGreatDoor
end
section
namespace Go.Proofs.YtaheflnnigocgaaGreatDoor
set_option maxRecDepth 100000
inductive Hng (g:Gr) (c:Cl):Cl→Prop
 | one {x:Cl}:c ∈ g.on x→Hng g c x
 | more {x y:Cl}:y ∈ g.on x→g.has y=true→Hng g c y→Hng g c x
structure HInv (g:Gr) (V:List Cl) (c:Cl) (K:List Cl):Prop where
 nd:K.Nodup
 sub:∀ x ∈ K,x ∈ V
 ok:∀ x ∈ K,Hng g c x
section
variable {g:Gr} {V:List Cl} {c:Cl} {K:List Cl}
theorem HInv.init:HInv g V c []:=⟨List.nodup_nil,(fun _ h=>nomatch h),(fun _ h=>nomatch h)⟩
theorem HInv.len (h:HInv g V c K):K.length≤V.length:=nodup_len h.nd h.sub
theorem HInv.put (h:HInv g V c K) (hV:∀ x ∈ V,g.has x=true) {x y:Cl} (hx:x ∈ V) (hn:x ∉ K) (hy:y ∈ g.on x) (hc:y=c∨y ∈ K):HInv g V c (K++[x]):=by
 refine ⟨List.nodup_append.2 ⟨h.nd,by simp,fun a ha b hb=>by obtain rfl:=List.mem_singleton.1 hb;exact fun e=>hn (e ▸ ha)⟩,fun z hz=>?_,fun z hz=>?_⟩
 ·rcases List.mem_append.1 hz with hz|hz
  ·exact h.sub z hz
  ·obtain rfl:=List.mem_singleton.1 hz;exact hx
 ·rcases List.mem_append.1 hz with hz|hz
  ·exact h.ok z hz
  ·obtain rfl:=List.mem_singleton.1 hz
   rcases hc with rfl|hc
   ·exact .one hy
   ·exact .more hy (hV _ (h.sub y hc)) (h.ok y hc)
theorem HInv.all (_h:HInv g V c K) (hV:∀ x,g.has x=true→x ∈ V) (hf:∀ x ∈ V,∀ y ∈ g.on x,(y=c∨y ∈ K)→x ∈ K):∀ x,Hng g c x→x ∈ V→x ∈ K:=fun x hx=>by
 induction hx with
 | one h1=>exact fun hx=>hf _ hx _ h1 (.inl rfl)
 | more h1 h2 _ ih=>exact fun hx=>hf _ hx _ h1 (.inr (ih (hV _ h2)))
end
end Go.Proofs.YtaheflnnigocgaaGreatDoor
end
section
namespace Go.Proofs.YtaheflnnigocgaaGreatDoor
set_option maxRecDepth 100000
structure Pas (g:Gr) (p:List Cl) (c:Cl) (m:Nat) (s:FS) (b:Bool) (F:Prop):Prop where
 inv:FInv g p c s
 le:fmeas p s≤m
 lt:b=true→fmeas p s<m
 fx:b=false→F
theorem Pas.mono {g:Gr} {p:List Cl} {c:Cl} {m:Nat} {s:FS} {b:Bool} {F G:Prop} (h:Pas g p c m s b F) (k:F→G):Pas g p c m s b G:=⟨h.inv,h.le,h.lt,fun hb=>k (h.fx hb)⟩
theorem Pas.set {g:Gr} {p:List Cl} {c:Cl} {m:Nat} {s:FS} {b:Bool} {F G:Prop} (h:Pas g p c m s b F) {x y:Cl} (hx:x ∈ p) (hy:y ∈ g.on x) (hyK:y ∈ s.K) (hn:x ∉ s.K∨s.val y+1<s.val x):Pas g p c m (s.put x (s.val y+1)) true G:=by
 obtain ⟨h1,h2⟩:=h.inv.set hx hy hyK hn
 have:=h.le
 exact ⟨h1,by omega,fun _=>by omega,fun hb=>nomatch hb⟩
structure Circ (g:Gr) (p:List Cl) (c:Cl) (s:FS) (a:List Cl):Prop where
 hd:a.head?=some c
 nd:a.Nodup
 sub:∀ x ∈ a,x ∈ p
 st:∀ i,(h:i+1<a.length)→near s p (g.on a[i]) none=some a[i+1]
 en:∀ i,(h:i<a.length)→i+1=a.length→near s p (g.on a[i]) none=some c
theorem near_on {s:FS} {p l:List Cl} {w:Cl} (h:near s p l none=some w):w ∈ l∧w ∈ s.K∧w ∈ p:=by
 rcases near_in (s:=s) (p:=p) (l:=l) (b:=none) with e|⟨z,z1,z2,z3,z4⟩
 ·rw[e] at h
  cases h
 ·rw[h] at z2
  cases z2
  exact ⟨z1,z3,z4⟩
structure Way (g:Gr) (p:List Cl) (c:Cl) (s:FS) (b:List Cl) (t:Cl):Prop where
 hd:(b++[t]).head?=some c
 nd:(b++[t]).Nodup
 sub:∀ x ∈ b++[t],x ∈ p
 st:∀ i,(h:i+1<(b++[t]).length)→near s p (g.on (b++[t])[i]) none=some (b++[t])[i+1]
 dn:∀ x ∈ b++[t],x≠c→t≠c∧s.val t≤s.val x
def wayM (p:List Cl) (c:Cl) (s:FS) (t:Cl):Nat:=if t=c then p.length+1 else s.val t
theorem Way.init {g:Gr} {p:List Cl} {c:Cl} {s:FS} (hc:c ∈ p):Way g p c s [] c :=
 ⟨rfl,by simp,fun x hx=>by obtain rfl:=List.mem_singleton.1 hx;exact hc,fun i h=>by simp at h,fun x hx hn=>absurd (List.mem_singleton.1 hx) hn⟩
theorem Way.next {g:Gr} {p:List Cl} {c t:Cl} {s:FS} {b:List Cl} (h:Way g p c s b t) (hI:FInv g p c s) (hf:Fix g p s) (hp:Part g p) (hc:c ∈ p) (hy:∃ y ∈ g.on c,y ∈ p) :
 ∃ w,near s p (g.on t) none=some w∧(w=c→Circ g p c s (b++[t]))∧(w≠c→Way g p c s (b++[t]) w∧wayM p c s w<wayM p c s t):=by
 have hall:=hI.all hf hp hc
 have ht:t ∈ p:=h.sub t (by simp)
 obtain ⟨y,hy1,hy2,hy3⟩:∃ y ∈ g.on t,y ∈ p∧(t≠c→s.val y+1=s.val t):=by
  by_cases e:t=c
  ·subst e
   obtain ⟨y,h1,h2⟩:=hy
   exact ⟨y,h1,h2,fun hh=>absurd rfl hh⟩
  ·obtain ⟨y,h1,h2,h3⟩:=hI.near hf (hall t ht) ht e
   exact ⟨y,h1,hI.sub y h2,fun _=>h3⟩
 obtain ⟨w,hw,hwv⟩:=(near_le (s:=s) (p:=p) (l:=g.on t) (b:=none)).2 y hy1 (hall y hy2) hy2
 obtain ⟨w1,w2,w3⟩:=near_on hw
 refine ⟨w,hw,fun e=>?_,fun hwc=>?_⟩
 ·subst e
  refine ⟨h.hd,h.nd,h.sub,h.st,fun i hi hn=>?_⟩
  have hil:i=b.length:=by simp at hn;exact hn
  subst hil
  have e2:(b++[t])[b.length]=t:=by simp
  rw[e2]
  exact hw
 ·have hwt:t≠c→s.val w+1≤s.val t:=fun e=>by have:=hy3 e;omega
  have hwn:w ∉ b++[t]:=fun hm=>by
   obtain ⟨h1,h2⟩:=h.dn w hm hwc
   have:=hwt h1
   omega
  refine ⟨⟨?_,?_,?_,?_,?_⟩,?_⟩
  ·have h1:=h.hd
   cases hb:b++[t] with
   | nil=>simp at hb
   | cons x r=>rw[hb] at h1;exact h1
  ·exact List.nodup_append.2 ⟨h.nd,by simp,fun a ha x hx=>by obtain rfl:=List.mem_singleton.1 hx;exact fun e=>hwn (e ▸ ha)⟩
  ·intro x hx
   rcases List.mem_append.1 hx with hx|hx
   ·exact h.sub x hx
   ·obtain rfl:=List.mem_singleton.1 hx;exact w3
  ·intro i hi
   by_cases hl:i+1<(b++[t]).length
   ·rw[List.getElem_append_left hl,List.getElem_append_left (by omega)]
    exact h.st i hl
   ·have hn:i+1=(b++[t]).length:=by
     rw[List.length_append] at hi
     simp only[List.length_singleton] at hi
     omega
    have e1:(b++[t]++[w])[i+1]=w:=by
     rw[List.getElem_append_right (by omega)]
     simp
    have hil:i=b.length:=by simp at hn;exact hn
    subst hil
    have e2:(b++[t]++[w])[b.length]'(by simp)=t:=by
     rw[List.getElem_append_left (by simp)]
     simp
    rw[e1,e2]
    exact hw
  ·intro x hx hxc
   rcases List.mem_append.1 hx with hx|hx
   ·obtain ⟨h1,h2⟩:=h.dn x hx hxc
    have:=hwt h1
    exact ⟨hwc,by omega⟩
   ·obtain rfl:=List.mem_singleton.1 hx
    exact ⟨hwc,Nat.le_refl _⟩
  ·unfold wayM
   rw[if_neg hwc]
   by_cases e:t=c
   ·rw[if_pos e]
    have h1:=hI.lt w w2
    have h2:=hI.len
    omega
   ·rw[if_neg e]
    have:=hwt e
    omega
theorem Part.out {g:Gr} {c:Cl} (hc:∃ x,x≠c∧Rch g c x∧Rch g x c) (_hh:g.has c=true):∃ y ∈ g.on c,Rch g c y∧Rch g y c:=by
 obtain ⟨x,hx,h1,h2⟩:=hc
 cases h1 with
 | refl=>exact absurd rfl hx
 | step a1 a2 a3=>exact ⟨_,a1,Rch.one a1 a2,a3.trans h2⟩
theorem Part.on {g:Gr} {p:List Cl} (hp:Part g p) (up:p.Pairwise les) {c:Cl} (hc:c ∈ p) (hh:∀ x ∈ p,g.has x=true) {d:Cl} {r:List Cl} (he:p=d::r) (hr:r≠[]∨d ∈ g.on d):∃ y ∈ g.on c,y ∈ p:=by
 by_cases hrn:r=[]
 ·subst hrn
  subst he
  obtain rfl:=List.mem_singleton.1 hc
  exact ⟨c,hr.resolve_left fun h=>h rfl,hc⟩
 ·have hx:∃ x ∈ p,x≠c:=by
   cases r with
   | nil=>exact absurd rfl hrn
   | cons e r =>
    subst he
    by_cases hd:d=c
    ·subst hd
     refine ⟨e,by simp,fun hh=>?_⟩
     have:=(List.pairwise_cons.1 up).1 e (by simp)
     rw[hh] at this
     exact les_irr _ this
    ·exact ⟨d,by simp,hd⟩
  obtain ⟨x,hxp,hxc⟩:=hx
  have h1:=(hp.scc c hc x).1 hxp
  obtain ⟨y,y1,y2,y3⟩:=Part.out ⟨x,hxc,h1.1,h1.2⟩ (hh c hc)
  exact ⟨y,y1,(hp.scc c hc y).2 ⟨y2,y3⟩⟩
end Go.Proofs.YtaheflnnigocgaaGreatDoor
end
