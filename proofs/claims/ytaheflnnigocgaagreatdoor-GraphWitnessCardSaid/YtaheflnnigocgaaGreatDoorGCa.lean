/- Proved: a part of what the law is proved with (the reckoner, contracts of functions, plain laws). Conditions: as each says. -/
import Derived.Test.YtaheflnnigocgaaGreatDoorGBj
import Derived.Test.YtaheflnnigocgaaGreatDoorGEr
import Derived.Test.YtaheflnnigocgaaGreatDoorGGd
import Derived.Test.YtaheflnnigocgaaGreatDoorGGi
import Derived.Test.YtaheflnnigocgaaGreatDoorGJk
import Derived.Test.YtaheflnnigocgaaGreatDoorGPe
import Derived.Test.YtaheflnnigocgaaGreatDoorGTje
import Derived.Test.YtaheflnnigocgaaGreatDoorGTjm
section
namespace Go.Proofs.YtaheflnnigocgaaGreatDoor
set_option maxRecDepth 100000
def FixA (s:FS) (x:Cl) (l:List Cl):Prop:=∀ y ∈ l,y ∈ s.K→x ∈ s.K∧s.val x≤s.val y+1
structure Pas (g:Gr) (p:List Cl) (c:Cl) (m:Nat) (s:FS) (b:Bool) (F:Prop):Prop where
 inv:FInv g p c s
 le:fmeas p s≤m
 lt:b=true→fmeas p s<m
 fx:b=false→F
theorem Pas.mono {g:Gr} {p:List Cl} {c:Cl} {m:Nat} {s:FS} {b:Bool} {F G:Prop} (h:Pas g p c m s b F) (k:F→G):Pas g p c m s b G:=⟨h.inv,h.le,h.lt,fun hb=>k (h.fx hb)⟩
theorem Pas.set {g:Gr} {p:List Cl} {c:Cl} {m:Nat} {s:FS} {b:Bool} {F G:Prop} (h:Pas g p c m s b F) {x y:Cl} (hx:x ∈ p) (hy:y ∈ g.on x) (hyK:y ∈ s.K) (hn:x ∉ s.K∨s.val y+1<s.val x):Pas g p c m (s.put x (s.val y+1)) true G:=by
 obtain ⟨h1,h2⟩:=h.inv.set hx hy hyK hn
 have:=h.le
 exact ⟨h1,by omega,fun _=>by omega,fun hb=>nomatch hb⟩
theorem fixA_s {s:FS} {x:Cl} {l:List Cl} {j:Nat} (hj:j<l.length) (h:FixA s x (l.take j)) (hy:l[j] ∈ s.K→x ∈ s.K∧s.val x≤s.val l[j]+1):FixA s x (l.take (j+1)):=fun y hm hK=>by
 rw[List.take_succ_eq_append_getElem hj] at hm
 rcases List.mem_append.1 hm with h1|h1
 ·exact h y h1 hK
 ·obtain rfl:=List.mem_singleton.1 h1
  exact hy hK
def FixP (g:Gr) (s:FS) (l:List Cl):Prop:=∀ x ∈ l,FixA s x (g.on x)
theorem fixP_s {g:Gr} {s:FS} {l:List Cl} {i:Nat} (hi:i<l.length) (h:FixP g s (l.take i)) (hy:FixA s l[i] (g.on l[i])):FixP g s (l.take (i+1)):=fun y hm=>by
 rw[List.take_succ_eq_append_getElem hi] at hm
 rcases List.mem_append.1 hm with h1|h1
 ·exact h y h1
 ·obtain rfl:=List.mem_singleton.1 h1
  exact hy
structure Wit (g:Gr) (p:List Cl) (c:Cl) (a:List Cl):Prop where
 hd:a.head?=some c
 nd:a.Nodup
 sub:∀ x ∈ a,x ∈ p
 lnk:∀ i,(h:i<a.length)→∀ j,(hj:j<a.length)→j=(i+1) % a.length→a[j] ∈ g.on a[i]
structure Circ (g:Gr) (p:List Cl) (c:Cl) (s:FS) (a:List Cl):Prop where
 hd:a.head?=some c
 nd:a.Nodup
 sub:∀ x ∈ a,x ∈ p
 st:∀ i,(h:i+1<a.length)→near s p (g.on a[i]) none=some a[i+1]
 en:∀ i,(h:i<a.length)→i+1=a.length→near s p (g.on a[i]) none=some c
theorem near_on {s:FS} {p l:List Cl} {w:Cl} (h:near s p l none=some w):w ∈ l∧w ∈ s.K∧w ∈ p:=by
 rcases near_in (s:=s) (p:=p) (l:=l) (b:=none) with e|⟨z,z1,z2,z3,z4⟩
 ·rw[e] at h
  cases h
 ·rw[h] at z2
  cases z2
  exact ⟨z1,z3,z4⟩
theorem head_at {a:List Cl} {c:Cl} (h:a.head?=some c) (h0:0<a.length):a[0]=c:=by
 rw[List.head?_eq_getElem?,List.getElem?_eq_getElem h0] at h
 exact Option.some.inj h
theorem Circ.wit {g:Gr} {p:List Cl} {c:Cl} {s:FS} {a:List Cl} (h:Circ g p c s a):Wit g p c a:=by
 refine ⟨h.hd,h.nd,h.sub,fun i hi j hj hij=>?_⟩
 by_cases hl:i+1<a.length
 ·rw[Nat.mod_eq_of_lt hl] at hij
  subst hij
  exact (near_on (h.st i hl)).1
 ·have hn:i+1=a.length:=by omega
  rw[hn,Nat.mod_self] at hij
  subst hij
  rw[head_at h.hd hj]
  exact (near_on (h.en i hi hn)).1
structure Way (g:Gr) (p:List Cl) (c:Cl) (s:FS) (b:List Cl) (t:Cl):Prop where
 hd:(b++[t]).head?=some c
 nd:(b++[t]).Nodup
 sub:∀ x ∈ b++[t],x ∈ p
 st:∀ i,(h:i+1<(b++[t]).length)→near s p (g.on (b++[t])[i]) none=some (b++[t])[i+1]
 dn:∀ x ∈ b++[t],x≠c→t≠c∧s.val t≤s.val x
def wayM (p:List Cl) (c:Cl) (s:FS) (t:Cl):Nat:=if t=c then p.length+1 else s.val t
theorem Way.init {g:Gr} {p:List Cl} {c:Cl} {s:FS} (hc:c ∈ p):Way g p c s [] c :=
 ⟨rfl,by simp,fun x hx=>by obtain rfl:=List.mem_singleton.1 hx;exact hc,fun i h=>by simp at h,fun x hx hn=>absurd (List.mem_singleton.1 hx) hn⟩
theorem Way.next {g:Gr} {p:List Cl} {c t:Cl} {s:FS} {b:List Cl} (h:Way g p c s b t) (hI:FInv g p c s) (hf:Fix g p s) (hp:Part g p) (hc:c ∈ p) (hy:∃ y ∈ g.on c,y ∈ p) :
 ∃ w,near s p (g.on t) none=some w∧(w=c→Circ g p c s (b++[t]))∧(w≠c→Way g p c s (b++[t]) w∧wayM p c s w<wayM p c s t):=by
 have hall:=hI.all hf hp hc
 have ht:t ∈ p:=h.sub t (by simp)
 obtain ⟨y,hy1,hy2,hy3⟩:∃ y ∈ g.on t,y ∈ p∧(t≠c→s.val y+1=s.val t):=by
  by_cases e:t=c
  ·subst e
   obtain ⟨y,h1,h2⟩:=hy
   exact ⟨y,h1,h2,fun hh=>absurd rfl hh⟩
  ·obtain ⟨y,h1,h2,h3⟩:=hI.near hf (hall t ht) ht e
   exact ⟨y,h1,hI.sub y h2,fun _=>h3⟩
 obtain ⟨w,hw,hwv⟩:=(near_le (s:=s) (p:=p) (l:=g.on t) (b:=none)).2 y hy1 (hall y hy2) hy2
 obtain ⟨w1,w2,w3⟩:=near_on hw
 refine ⟨w,hw,fun e=>?_,fun hwc=>?_⟩
 ·subst e
  refine ⟨h.hd,h.nd,h.sub,h.st,fun i hi hn=>?_⟩
  have hil:i=b.length:=by simp at hn;exact hn
  subst hil
  have e2:(b++[t])[b.length]=t:=by simp
  rw[e2]
  exact hw
 ·have hwt:t≠c→s.val w+1≤s.val t:=fun e=>by have:=hy3 e;omega
  have hwn:w ∉ b++[t]:=fun hm=>by
   obtain ⟨h1,h2⟩:=h.dn w hm hwc
   have:=hwt h1
   omega
  refine ⟨⟨?_,?_,?_,?_,?_⟩,?_⟩
  ·have h1:=h.hd
   cases hb:b++[t] with
   | nil=>simp at hb
   | cons x r=>rw[hb] at h1;exact h1
  ·exact List.nodup_append.2 ⟨h.nd,by simp,fun a ha x hx=>by obtain rfl:=List.mem_singleton.1 hx;exact fun e=>hwn (e ▸ ha)⟩
  ·intro x hx
   rcases List.mem_append.1 hx with hx|hx
   ·exact h.sub x hx
   ·obtain rfl:=List.mem_singleton.1 hx;exact w3
  ·intro i hi
   by_cases hl:i+1<(b++[t]).length
   ·rw[List.getElem_append_left hl,List.getElem_append_left (by omega)]
    exact h.st i hl
   ·have hn:i+1=(b++[t]).length:=by
     rw[List.length_append] at hi
     simp only[List.length_singleton] at hi
     omega
    have e1:(b++[t]++[w])[i+1]=w:=by
     rw[List.getElem_append_right (by omega)]
     simp
    have hil:i=b.length:=by simp at hn;exact hn
    subst hil
    have e2:(b++[t]++[w])[b.length]'(by simp)=t:=by
     rw[List.getElem_append_left (by simp)]
     simp
    rw[e1,e2]
    exact hw
  ·intro x hx hxc
   rcases List.mem_append.1 hx with hx|hx
   ·obtain ⟨h1,h2⟩:=h.dn x hx hxc
    have:=hwt h1
    exact ⟨hwc,by omega⟩
   ·obtain rfl:=List.mem_singleton.1 hx
    exact ⟨hwc,Nat.le_refl _⟩
  ·unfold wayM
   rw[if_neg hwc]
   by_cases e:t=c
   ·rw[if_pos e]
    have h1:=hI.lt w w2
    have h2:=hI.len
    omega
   ·rw[if_neg e]
    have:=hwt e
    omega
theorem fix_le {g:Gr} {p:List Cl} {c:Cl} {s s':FS} (hI:FInv g p c s) (hf:Fix g p s) (hI':FInv g p c s') (hall:∀ x ∈ p,x ∈ s.K):∀ (n:Nat) (x:Cl),x ∈ s'.K→s'.val x=n→s.val x≤s'.val x:=by
 intro n
 induction n using Nat.strongRecOn with
 | ind n ih =>
  intro x hx hn
  by_cases e:x=c
  ·subst e
   rw[hI.v0]
   exact Nat.zero_le _
  ·obtain ⟨y,h1,h2,h3⟩:=hI'.st x hx e
   have h4:=ih (s'.val y) (by omega) y h2 rfl
   have h5:=(hf x (hI'.sub x hx) y h1 (hall y (hI'.sub y h2))).2
   omega
theorem near_eq {p:List Cl} {s s':FS} (hK:∀ x ∈ p,x ∈ s.K∧x ∈ s'.K∧s.val x=s'.val x):∀ {l:List Cl} {b:Option Cl},(∀ z,b=some z→z ∈ p)→near s p l b=near s' p l b
 | [],_,_=>rfl
 | y::l,b,hb=>by
  have e:(y ∈ s.K∧y ∈ p∧(∀ z,b=some z→s.val y<s.val z))↔(y ∈ s'.K∧y ∈ p∧(∀ z,b=some z→s'.val y<s'.val z)):=by
   constructor
   ·rintro ⟨_,h2,h3⟩
    refine ⟨(hK y h2).2.1,h2,fun z hz=>?_⟩
    rw[← (hK y h2).2.2,← (hK z (hb z hz)).2.2]
    exact h3 z hz
   ·rintro ⟨_,h2,h3⟩
    refine ⟨(hK y h2).1,h2,fun z hz=>?_⟩
    rw[(hK y h2).2.2,(hK z (hb z hz)).2.2]
    exact h3 z hz
  unfold near
  by_cases h:y ∈ s.K∧y ∈ p∧(∀ z,b=some z→s.val y<s.val z)
  ·rw[if_pos h,if_pos (e.1 h)]
   exact near_eq hK fun z hz=>by cases hz;exact h.2.1
  ·rw[if_neg h,if_neg fun hh=>h (e.2 hh)]
   exact near_eq hK hb
theorem circ_one {g:Gr} {p:List Cl} {c:Cl} (hp:Part g p) (hc:c ∈ p) {s s':FS} {a a':List Cl} (hI:FInv g p c s) (hf:Fix g p s) (h:Circ g p c s a) (hI':FInv g p c s') (hf':Fix g p s') (h':Circ g p c s' a'):a=a':=by
 have k1:=hI.all hf hp hc
 have k2:=hI'.all hf' hp hc
 have hK:∀ x ∈ p,x ∈ s.K∧x ∈ s'.K∧s.val x=s'.val x:=fun x hx=>⟨k1 x hx,k2 x hx,Nat.le_antisymm (fix_le hI hf hI' k1 _ x (k2 x hx) rfl) (fix_le hI' hf' hI k2 _ x (k1 x hx) rfl)⟩
 have hne:∀ l b,b=none→near s p l b=near s' p l b:=fun l b hb=>near_eq hK fun z hz=>by rw[hb] at hz;cases hz
 have ne0:∀ {s:FS} {a:List Cl},Circ g p c s a→0<a.length:=fun {s a} h=>by
  cases a with
  | nil=>exact absurd h.hd (by simp)
  | cons x r=>simp
 have step:∀ i,(h1:i<a.length)→(h2:i<a'.length)→a[i]=a'[i]:=fun i=>by
  induction i with
  | zero=>intro h1 h2;rw[head_at h.hd h1,head_at h'.hd h2]
  | succ i ih =>
   intro h1 h2
   have e:=ih (by omega) (by omega)
   have e1:=h.st i h1
   have e2:=h'.st i h2
   rw[hne _ _ rfl,e,e2] at e1
   exact (Option.some.inj e1).symm
 have key:∀ {s s':FS} {a a':List Cl},Circ g p c s a→Circ g p c s' a'→(∀ l,near s p l none=near s' p l none)→(∀ i,(h1:i<a.length)→(h2:i<a'.length)→a[i]=a'[i])→a'.length≤a.length:=fun {s s' a a'} h h' hne st=>by
  refine Nat.le_of_not_lt fun hlt=>?_
  have hl:=ne0 h
  have e1:=h.en (a.length - 1) (by omega) (by omega)
  have e2:=h'.st (a.length - 1) (by omega)
  have e3:=st (a.length - 1) (by omega) (by omega)
  rw[hne,e3,e2] at e1
  have e4:=Option.some.inj e1
  have e5:=head_at h'.hd (by omega)
  have e6:=(List.getElem_inj (xs:=a') (i:=a.length - 1+1) (j:=0) (h₀:=by omega) (h₁:=by omega) h'.nd).1 (e4.trans e5.symm)
  omega
 have hl1:=key h h' (fun l=>hne l _ rfl) step
 have hl2:=key h' h (fun l=>(hne l _ rfl).symm) fun i h1 h2=>(step i h2 h1).symm
 exact List.ext_getElem (by omega) step
noncomputable def circZ (g:Gr) (p:List Cl) (c:Cl):List Cl:=open Classical in if h:∃ a s,FInv g p c s∧Fix g p s∧Circ g p c s a then Classical.choose h else []
theorem circ_eq {g:Gr} {p:List Cl} {c:Cl} (hp:Part g p) (hc:c ∈ p) {s:FS} {a:List Cl} (hI:FInv g p c s) (hf:Fix g p s) (h:Circ g p c s a):a=circZ g p c:=by
 unfold circZ
 have hx:∃ a s,FInv g p c s∧Fix g p s∧Circ g p c s a:=⟨a,s,hI,hf,h⟩
 rw[dif_pos hx]
 obtain ⟨s',h1,h2,h3⟩:=Classical.choose_spec hx
 exact circ_one hp hc hI hf h h1 h2 h3
theorem near_snoc {s:FS} {p:List Cl} {y:Cl}:∀ {l:List Cl} {b:Option Cl},near s p (l++[y]) b=if y ∈ s.K∧y ∈ p∧(∀ z,near s p l b=some z→s.val y<s.val z) then some y else near s p l b
 | [],_=>rfl
 | a::l,b=>by
  show near s p (l++[y]) _=_
  rw[near_snoc]
  rfl
theorem Part.out {g:Gr} {c:Cl} (hc:∃ x,x≠c∧Rch g c x∧Rch g x c) (_hh:g.has c=true):∃ y ∈ g.on c,Rch g c y∧Rch g y c:=by
 obtain ⟨x,hx,h1,h2⟩:=hc
 cases h1 with
 | refl=>exact absurd rfl hx
 | step a1 a2 a3=>exact ⟨_,a1,Rch.one a1 a2,a3.trans h2⟩
theorem Part.on {g:Gr} {p:List Cl} (hp:Part g p) (up:p.Pairwise les) {c:Cl} (hc:c ∈ p) (hh:∀ x ∈ p,g.has x=true) {d:Cl} {r:List Cl} (he:p=d::r) (hr:r≠[]∨d ∈ g.on d):∃ y ∈ g.on c,y ∈ p:=by
 by_cases hrn:r=[]
 ·subst hrn
  subst he
  obtain rfl:=List.mem_singleton.1 hc
  exact ⟨c,hr.resolve_left fun h=>h rfl,hc⟩
 ·have hx:∃ x ∈ p,x≠c:=by
   cases r with
   | nil=>exact absurd rfl hrn
   | cons e r =>
    subst he
    by_cases hd:d=c
    ·subst hd
     refine ⟨e,by simp,fun hh=>?_⟩
     have:=(List.pairwise_cons.1 up).1 e (by simp)
     rw[hh] at this
     exact les_irr _ this
    ·exact ⟨d,by simp,hd⟩
  obtain ⟨x,hxp,hxc⟩:=hx
  have h1:=(hp.scc c hc x).1 hxp
  obtain ⟨y,y1,y2,y3⟩:=Part.out ⟨x,hxc,h1.1,h1.2⟩ (hh c hc)
  exact ⟨y,y1,(hp.scc c hc y).2 ⟨y2,y3⟩⟩
theorem fix_ex {g:Gr} {p:List Cl} {c:Cl}:∀ (n:Nat) (s:FS),FInv g p c s→fmeas p s≤n→∃ s',FInv g p c s'∧Fix g p s':=by
 intro n
 induction n using Nat.strongRecOn with
 | ind n ih =>
  intro s hI hn
  by_cases hf:Fix g p s
  ·exact ⟨s,hI,hf⟩
  ·obtain ⟨x,hx,y,hy,hyK,hh⟩:∃ x,x ∈ p∧∃ y,y ∈ g.on x∧y ∈ s.K∧¬ (x ∈ s.K∧s.val x≤s.val y+1):=Classical.byContradiction fun hh=>hf fun x hx y hy hyK=>Classical.byContradiction fun h=>hh ⟨x,hx,y,hy,hyK,h⟩
   have hn2:x ∉ s.K∨s.val y+1<s.val x:=by
    by_cases hxK:x ∈ s.K
    ·refine .inr (Nat.lt_of_not_le fun hle=>hh ⟨hxK,hle⟩)
    ·exact .inl hxK
   obtain ⟨h1,h2⟩:=hI.set hx hy hyK hn2
   exact ih _ (Nat.lt_of_lt_of_le h2 hn) _ h1 (Nat.le_refl _)
theorem way_ex {g:Gr} {p:List Cl} {c:Cl} {s:FS} (hI:FInv g p c s) (hf:Fix g p s) (hp:Part g p) (hc:c ∈ p) (hy:∃ y ∈ g.on c,y ∈ p):∀ (n:Nat) (b:List Cl) (t:Cl),Way g p c s b t→wayM p c s t≤n→∃ a,Circ g p c s a:=by
 intro n
 induction n using Nat.strongRecOn with
 | ind n ih =>
  intro b t h hn
  obtain ⟨w,_,h2,h3⟩:=h.next hI hf hp hc hy
  by_cases hw:w=c
  ·exact ⟨_,h2 hw⟩
  ·obtain ⟨h4,h5⟩:=h3 hw
   exact ih _ (Nat.lt_of_lt_of_le h5 hn) _ _ h4 (Nat.le_refl _)
theorem circZ_wit {g:Gr} {p:List Cl} {c:Cl} (hp:Part g p) (hc:c ∈ p) (hy:∃ y ∈ g.on c,y ∈ p):Wit g p c (circZ g p c):=by
 obtain ⟨s,hI,hf⟩:=fix_ex (g:=g) (p:=p) (c:=c) _ ⟨[c],fun _=>0⟩ (FInv.init hc _ rfl) (Nat.le_refl _)
 obtain ⟨a,ha⟩:=way_ex hI hf hp hc hy _ [] c (Way.init hc) (Nat.le_refl _)
 rw[← circ_eq hp hc hI hf ha]
 exact ha.wit
end Go.Proofs.YtaheflnnigocgaaGreatDoor
end
section
namespace Go.Proofs.YtaheflnnigocgaaGreatDoor
set_option maxRecDepth 100000
theorem Rch.to_has {g:Gr} {a b:Cl} (h:Rch g a b) (ha:g.has a=true):g.has b=true:=by
 induction h with
 | refl=>exact ha
 | step h1 h2 _ ih=>exact ih h2
theorem cls_ex (g:Gr) {V:List Cl} (hV:∀ c,g.has c=true↔c ∈ V) (hn:V.Nodup) {c:Cl} (hc:c ∈ V):∃ p,Part g p∧(∀ x ∈ p,g.has x=true)∧p.Pairwise les∧c ∈ p:=by
 classical
 have hm:∀ x,x ∈ sortC (V.filter fun x=>decide (Rch g c x∧Rch g x c))↔Rch g c x∧Rch g x c:=fun x=>by
  rw[sortC_mem,List.mem_filter,decide_eq_true_eq]
  exact ⟨fun h=>h.2,fun h=>⟨(hV x).1 (h.1.to_has ((hV c).2 hc)),h⟩⟩
 have hcm:=(hm c).2 ⟨.refl c,.refl c⟩
 refine ⟨_,⟨(fun e=>by rw[e] at hcm;cases hcm),fun d hd v=>?_⟩,fun x hx=>((hm x).1 hx).1.to_has ((hV c).2 hc),sortC_up _ (hn.sublist List.filter_sublist),hcm⟩
 obtain ⟨h1,h2⟩:=(hm d).1 hd
 rw[hm v]
 exact ⟨fun h=>⟨h2.trans h.1,h.2.trans h1⟩,fun h=>⟨h1.trans h.1,h.2.trans h2⟩⟩
theorem parts_ex (g:Gr) {V:List Cl} (hV:∀ c,g.has c=true↔c ∈ V) (hn:V.Nodup):∀ W:List Cl,(∀ c ∈ W,c ∈ V)→∃ P,Parts g W P
 | [],_=>⟨[],(fun _ h=>nomatch h),(fun _ h=>nomatch h),(fun _ h=>nomatch h),.nil,(fun _ h=>nomatch h)⟩
 | c::W,hW=>by
  obtain ⟨P,hP⟩:=parts_ex g hV hn W fun x hx=>hW x (by simp[hx])
  by_cases h:∃ p ∈ P,c ∈ p
  ·refine ⟨P,hP.part,hP.sub,fun x hx=>?_,hP.two,hP.up⟩
   rcases List.mem_cons.1 hx with rfl|hx
   ·exact h
   ·exact hP.all x hx
  ·obtain ⟨q,q1,q2,q3,q4⟩:=cls_ex g hV hn (hW c (by simp))
   refine ⟨q::P,fun p hp=>?_,fun p hp=>?_,fun x hx=>?_,List.pairwise_cons.2 ⟨fun p hp x hx hxp=>?_,hP.two⟩,fun p hp=>?_⟩
   ·rcases List.mem_cons.1 hp with rfl|hp
    ·exact q1
    ·exact hP.part p hp
   ·rcases List.mem_cons.1 hp with rfl|hp
    ·exact q2
    ·exact hP.sub p hp
   ·rcases List.mem_cons.1 hx with rfl|hx
    ·exact ⟨q,by simp,q4⟩
    ·obtain ⟨p,hp,hxp⟩:=hP.all x hx
     exact ⟨p,by simp[hp],hxp⟩
   ·exact h ⟨p,hp,((hP.part p hp).scc x hxp c).2 ((q1.scc x hx c).1 q4)⟩
   ·rcases List.mem_cons.1 hp with rfl|hp
    ·exact q3
    ·exact hP.up p hp
theorem Parts.row {g:Gr} {V:List Cl} {P:List (List Cl)} (h:Parts g V P):Row g V (sr2 P):=⟨h.perm (sr2_perm P),sr2_row P h.two fun p hp=>(h.part p hp).ne⟩
theorem row_z {g:Gr} {V:List Cl} (hV:∀ c,g.has c=true↔c ∈ V) (hn:V.Nodup):Row g V (partsZ g V):=by
 obtain ⟨P,hP⟩:=parts_ex g hV hn V fun c h=>h
 have h:=hP.row
 rw[← h.eq fun c=>(hV c).1]
 exact h
theorem Row.at {g:Gr} {V:List Cl} {Q:List (List Cl)} (h:Row g V Q) {i j:Nat} (hi:i<Q.length) (hj:j<Q.length) {c:Cl} (h1:c ∈ Q[i]) (h2:c ∈ Q[j]):i=j:=by
 have key:∀ {i j:Nat} (hi:i<Q.length) (hj:j<Q.length),i<j→c ∈ Q[i]→c ∈ Q[j]→False:=fun hi hj hij h1 h2=>(List.pairwise_iff_getElem.1 h.ps.two) _ _ hi hj hij c h1 h2
 rcases Nat.lt_trichotomy i j with hij|hij|hij
 ·exact (key hi hj hij h1 h2).elim
 ·exact hij
 ·exact (key hj hi hij h2 h1).elim
theorem Row.ex {g:Gr} {V:List Cl} {Q:List (List Cl)} (h:Row g V Q) {c:Cl} (hc:c ∈ V):∃ i,∃ hi:i<Q.length,c ∈ Q[i]:=by
 obtain ⟨p,hp,hcp⟩:=h.ps.all c hc
 obtain ⟨i,hi,rfl⟩:=List.getElem_of_mem hp
 exact ⟨i,hi,hcp⟩
section
variable {on:Cl→List Cl} {V W:List Cl} {c:Cl}
end
end Go.Proofs.YtaheflnnigocgaaGreatDoor
end
section
namespace Go.Proofs.YtaheflnnigocgaaGreatDoor
open Go Go.EYtaheflnnigocgaaGreatDoor
open Go
mutual
def cntN:Nd→Nat
 | .mk _ _ _ _ _ ks=>cntL ks+1
def cntL:List Nd→Nat
 | []=>0
 | x::r=>cntN x+cntL r
end
theorem cntL_take:∀ {ks:List Nd} {x:Nat} (h:x<ks.length),cntL (ks.take (x+1))=cntL (ks.take x)+cntN ks[x]
 | y::r,0,_=>by simp[cntL]
 | y::r,x+1,h=>by
  have:=cntL_take (ks:=r) (x:=x) (by simpa using h)
  simp only[List.take_succ_cons,cntL,List.getElem_cons_succ] at *
  omega
theorem cntL_le:∀ (ks:List Nd) (x:Nat),cntL (ks.take x)≤cntL ks
 | [],x=>by simp[cntL]
 | y::r,0=>by simp[cntL]
 | y::r,x+1=>by
  have:=cntL_le r x
  simp only[List.take_succ_cons,cntL] at *
  omega
abbrev noR (a:Rf):Prop:=(a.c=0∧a.r=0∧True)∧((a.fc=true↔False)∧(a.fr=true↔False)∧True)
open Go
mutual
def frmN:Nd→Prop→Prop
 | .mk k m t a b ks,box=>(k=1∧ks.length=0∧t=[]∧(noR a∧noR b)∧0≤m)∨(k=2∧ks.length=0∧(noR a∧noR b)∧m=0)∨(k=3∧ks.length=0∧t=[]∧(noR a∧noR b)∧(m=0∨m=1))∨
  (k=4∧ks.length=0∧t=[]∧(noR a∧noR b)∧1≤m∧m≤6)∨(k=5∧ks.length=0∧t=[]∧m=0∧noR b∧okP a.c a.r)∨(k=6∧box∧ks.length=0∧t=[]∧m=0∧okP a.c a.r∧okP b.c b.r)∨
  (k=7∧ks.length=1∧t=[]∧(noR a∧noR b)∧m=0∧frmL False ks)∨(k=8∧ks.length=2∧t=[]∧(noR a∧noR b)∧1≤m∧m≤11∧frmL False ks)∨(k=9∧clZ t=true∧(noR a∧noR b)∧m=0∧frmL True ks)
def frmL:Prop→List Nd→Prop
 | _,[]=>True
 | box,x::r=>frmN x box∧frmL box r
end
theorem frmL_iff {box:Prop}:∀ {ks:List Nd},frmL box ks↔∀ x (h:x<ks.length),frmN ks[x] box
 | []=>by simp[frmL]
 | y::r=>by
  simp only[frmL,frmL_iff (ks:=r)]
  constructor
  ·rintro ⟨h1,h2⟩ x hx
   cases x with
   | zero=>exact h1
   | succ x=>exact h2 x (by simpa using hx)
  ·intro h
   exact ⟨h 0 (by simp),fun x hx=>h (x+1) (by simpa using hx)⟩
section
variable {m:Int} {t:List UInt8} {a b:Rf} {ks:List Nd} {box:Prop}
theorem frm_1:frmN (.mk 1 m t a b ks) box↔ks.length=0∧t=[]∧(noR a∧noR b)∧0≤m:=by simp[frmN]
theorem frm_2:frmN (.mk 2 m t a b ks) box↔ks.length=0∧(noR a∧noR b)∧m=0:=by simp[frmN]
theorem frm_3:frmN (.mk 3 m t a b ks) box↔ks.length=0∧t=[]∧(noR a∧noR b)∧(m=0∨m=1):=by simp[frmN]
theorem frm_4:frmN (.mk 4 m t a b ks) box↔ks.length=0∧t=[]∧(noR a∧noR b)∧1≤m∧m≤6:=by simp[frmN]
theorem frm_5:frmN (.mk 5 m t a b ks) box↔ks.length=0∧t=[]∧m=0∧noR b∧okP a.c a.r:=by simp[frmN]
theorem frm_6:frmN (.mk 6 m t a b ks) box↔box∧ks.length=0∧t=[]∧m=0∧okP a.c a.r∧okP b.c b.r:=by simp[frmN]
theorem frm_7:frmN (.mk 7 m t a b ks) box↔ks.length=1∧t=[]∧(noR a∧noR b)∧m=0∧frmL False ks:=by simp[frmN]
theorem frm_8:frmN (.mk 8 m t a b ks) box↔ks.length=2∧t=[]∧(noR a∧noR b)∧1≤m∧m≤11∧frmL False ks:=by simp[frmN]
theorem frm_9:frmN (.mk 9 m t a b ks) box↔clZ t=true∧(noR a∧noR b)∧m=0∧frmL True ks:=by simp[frmN]
end
def tgtN:Nd→Int
 | .mk k m _ _ _ _=>if k=8 then (if m≤6 then 1 else if m=7 then 2 else if m≤9 then 3 else 4) else 5
def sgnN (m:Int):List UInt8:=([[],[61],[60,62],[60],[60,61],[62],[62,61],[38],[43],[45],[42],[47]]:List (List UInt8)).getD m.toNat []
def brN (s:List UInt8) (p:Prop) [Decidable p]:List UInt8:=if p then 40::(s++[41]) else s
def dqN:List UInt8→List UInt8
 | []=>[]
 | c::r=>if c=34 then 34::34::dqN r else c::dqN r
def comN:List (List UInt8)→List UInt8
 | []=>[]
 | s::r=>s++(r.map fun t=>44::t).flatten
def wr7:List Nd→List (List UInt8)→List UInt8
 | x::_,s::_=>45::brN s (tgtN x<5)
 | _,_=>[]
def wr8 (m tg:Int):List Nd→List (List UInt8)→List UInt8
 | x::y::_,s::t::_=>brN s (tgtN x<tg)++(sgnN m++brN t (tgtN y≤tg))
 | _,_=>[]
def nmR (a:Rf):List UInt8:=nameL a.c a.r a.fc a.fr
open Go
mutual
def wrN:Nd→List UInt8
 | .mk k m t a b ks=>if k=1 then Lib.itoa m else if k=2 then 34::(dqN t++[34]) else if k=3 then (if m=1 then tT else tF) else if k=4 then tx.getD m.toNat [] else if k=5 then nmR a else if k=6 then nmR a++58::nmR b
  else if k=7 then wr7 ks (wrL ks) else if k=8 then wr8 m (tgtN (.mk k m t a b ks)) ks (wrL ks) else if k=9 then t++40::(comN (wrL ks)++[41]) else []
def wrL:List Nd→List (List UInt8)
 | []=>[]
 | x::r=>wrN x::wrL r
end
open Go
mutual
def okN:Nd→Prop
 | .mk _ m t _ _ ks=>okI m∧t.length≤1048576∧okL ks
def okL:List Nd→Prop
 | []=>True
 | x::r=>okN x∧okL r
end
theorem okL_get:∀ {ks:List Nd} (_:okL ks) {x:Nat} (hx:x<ks.length),okN ks[x]
 | y::r,h,0,_=>h.1
 | y::r,h,x+1,hx=>okL_get (ks:=r) h.2 (by simpa using hx)
end Go.Proofs.YtaheflnnigocgaaGreatDoor
end
section
namespace Go.Proofs.YtaheflnnigocgaaGreatDoor
open Go Go.EYtaheflnnigocgaaGreatDoor
set_option maxRecDepth 100000
set_option maxHeartbeats 4000000
variable {gl:List (Nat×List D)}
theorem kid_get {ks:List Nd} {x:Nat} (h:x<ks.length):(Nd.csL ks)[((x:Nat):Int).toNat]?=some (ks[x]).cs:=by
 rw[Int.toNat_natCast]
 induction ks generalizing x with
 | nil=>simp at h
 | cons a r ih =>
  cases x with
  | zero=>rfl
  | succ x=>exact ih (by simpa using h)
theorem kid_len:∀ ks:List Nd,(Nd.csL ks).length=ks.length
 | []=>rfl
 | _::r=>congrArg (·+1) (kid_len r)
theorem cnt_pos (n:Nd):1≤cntN n:=by
 obtain ⟨k,m,t,a,b,ks⟩:=n
 unfold cntN
 omega
theorem len_cnt:∀ ks:List Nd,ks.length≤cntL ks
 | []=>Nat.le_refl _
 | x::r=>by
  have h1:=len_cnt r
  have h2:=cnt_pos x
  simp only[List.length_cons,cntL]
  omega
end Go.Proofs.YtaheflnnigocgaaGreatDoor
end
section
namespace Go.Proofs.YtaheflnnigocgaaGreatDoor
open Go Go.EYtaheflnnigocgaaGreatDoor
set_option maxRecDepth 100000
def boxC (a b:Rf):List (Int×Int):=pairsL (min a.c b.c) (min a.r b.r) (max a.c b.c - min a.c b.c+1).toNat (max a.r b.r - min a.r b.r+1).toNat
def ownC (k:Int) (a b:Rf):List (Int×Int):=if k=5 then [(a.c,a.r)] else if k=6 then boxC a b else []
mutual
def cellsN:Nd→List (Int×Int)
 | .mk k _ _ a b ks=>ownC k a b++cellsK ks
def cellsK:List Nd→List (Int×Int)
 | []=>[]
 | x::r=>cellsN x++cellsK r
end
theorem cellsK_take:∀ {ks:List Nd} {x:Nat} (h:x<ks.length),cellsK (ks.take (x+1))=cellsK (ks.take x)++cellsN ks[x]
 | y::r,0,_=>by simp[cellsK]
 | y::r,x+1,h=>by
  have:=cellsK_take (ks:=r) (x:=x) (by simpa using h)
  rw[List.take_succ_cons,List.take_succ_cons,cellsK,cellsK,this,List.append_assoc]
  rfl
theorem frm_kid {k m:Int} {t:List UInt8} {a b:Rf} {ks:List Nd} {box:Prop} (hf:frmN (.mk k m t a b ks) box):∀ x (h:x<ks.length),∃ bx:Prop,frmN ks[x] bx:=fun x h=>by
 by_cases h7:k=7
 ·subst h7;rw[frm_7] at hf;exact ⟨_,frmL_iff.1 hf.2.2.2.2 x h⟩
 by_cases h8:k=8
 ·subst h8;rw[frm_8] at hf;exact ⟨_,frmL_iff.1 hf.2.2.2.2.2 x h⟩
 by_cases h9:k=9
 ·subst h9;rw[frm_9] at hf;exact ⟨_,frmL_iff.1 hf.2.2.2 x h⟩
 exfalso
 unfold frmN at hf
 omega
theorem boxC_len {a b:Rf} (ha:okP a.c a.r) (hb:okP b.c b.r):(boxC a b).length≤2574:=by
 unfold boxC
 rw[pairsL_len]
 obtain ⟨h1,h2,h3,h4⟩:=ha
 obtain ⟨h5,h6,h7,h8⟩:=hb
 have:(max a.r b.r - min a.r b.r+1).toNat * (max a.c b.c - min a.c b.c+1).toNat≤99 * 26:=Nat.mul_le_mul (by omega) (by omega)
 omega
theorem boxC_ok {a b:Rf} (ha:okP a.c a.r) (hb:okP b.c b.r):∀ p ∈ boxC a b,okP p.1 p.2:=fun p hp=>by
 unfold boxC pairsL at hp
 simp only[List.mem_flatMap,List.mem_map,List.mem_range] at hp
 obtain ⟨i,hi,j,hj,rfl⟩:=hp
 simp only
 omega
theorem boxC_box {a b:Rf} (ha:okP a.c a.r) (hb:okP b.c b.r):boxP (min a.c b.c) (min a.r b.r) (max a.c b.c) (max a.r b.r):=by omega
theorem own_ok {k m:Int} {t:List UInt8} {a b:Rf} {ks:List Nd} {box:Prop} (hf:frmN (.mk k m t a b ks) box):(ownC k a b).length≤2574∧∀ p ∈ ownC k a b,okP p.1 p.2:=by
 unfold ownC
 by_cases h5:k=5
 ·subst h5
  rw[frm_5] at hf
  rw[if_pos rfl]
  exact ⟨by simp,fun p hp=>by rw[List.mem_singleton.1 hp];exact hf.2.2.2.2⟩
 ·rw[if_neg h5]
  by_cases h6:k=6
  ·subst h6
   rw[frm_6] at hf
   rw[if_pos rfl]
   exact ⟨boxC_len hf.2.2.2.2.1 hf.2.2.2.2.2,boxC_ok hf.2.2.2.2.1 hf.2.2.2.2.2⟩
  ·rw[if_neg h6]
   exact ⟨by simp,fun p hp=>by cases hp⟩
theorem cellsK_few {ks:List Nd} (h:∀ x (h:x<ks.length),(cellsN ks[x]).length≤2574 * cntN ks[x]∧∀ p ∈ cellsN ks[x],okP p.1 p.2):∀ x,x≤ks.length→(cellsK (ks.take x)).length≤2574 * cntL (ks.take x)∧∀ p ∈ cellsK (ks.take x),okP p.1 p.2
 | 0,_=>by simp[cellsK]
 | x+1,hx=>by
  obtain ⟨h1,h2⟩:=cellsK_few h x (by omega)
  obtain ⟨h3,h4⟩:=h x hx
  have h5:=cntL_take (show x<ks.length from hx)
  rw[cellsK_take hx]
  refine ⟨?_,fun p hp=>?_⟩
  ·rw[List.length_append,h5]
   omega
  ·rcases List.mem_append.1 hp with hp|hp
   ·exact h2 p hp
   ·exact h4 p hp
theorem cellsN_few (n:Nd):∀ {box:Prop},frmN n box→(cellsN n).length≤2574 * cntN n∧∀ p ∈ cellsN n,okP p.1 p.2:=by
 match n with
 | .mk k m t a b ks =>
  intro box hf
  have ih:∀ x (h:x<ks.length),(cellsN ks[x]).length≤2574 * cntN ks[x]∧∀ p ∈ cellsN ks[x],okP p.1 p.2:=fun x h=>cellsN_few ks[x] (frm_kid hf x h).choose_spec
  obtain ⟨h1,h2⟩:=cellsK_few ih ks.length (Nat.le_refl _)
  rw[List.take_length] at h1 h2
  obtain ⟨h3,h4⟩:=own_ok hf
  rw[cellsN]
  refine ⟨?_,fun p hp=>?_⟩
  ·rw[List.length_append]
   unfold cntN
   omega
  ·rcases List.mem_append.1 hp with hp|hp
   ·exact h4 p hp
   ·exact h2 p hp
termination_by SizeOf.sizeOf n
decreasing_by
 simp only[Nd.mk.sizeOf_spec]
 have:=List.sizeOf_lt_of_mem (List.getElem_mem h)
 omega
end Go.Proofs.YtaheflnnigocgaaGreatDoor
end
