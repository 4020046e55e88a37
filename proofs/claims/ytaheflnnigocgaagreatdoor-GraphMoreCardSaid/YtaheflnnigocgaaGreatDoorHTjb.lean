/- Proved: a part of what the law is proved with (the reckoner, contracts of functions, plain laws). Conditions: as each says. -/
import Derived.Test.YtaheflnnigocgaaGreatDoorHPe
section
namespace Go.Proofs.YtaheflnnigocgaaGreatDoor
set_option maxRecDepth 100000
abbrev Cl:=Int×Int
structure Gr where
 on:Cl→List Cl
 has:Cl→Bool
inductive Rch (g:Gr):Cl→Cl→Prop
 | refl (a:Cl):Rch g a a
 | step {a b c:Cl}:b ∈ g.on a→g.has b=true→Rch g b c→Rch g a c
theorem Rch.trans {g:Gr} {a b c:Cl} (h:Rch g a b) (k:Rch g b c):Rch g a c:=by
 induction h with
 | refl=>exact k
 | step h1 h2 _ ih=>exact .step h1 h2 (ih k)
theorem Rch.one {g:Gr} {a b:Cl} (h:b ∈ g.on a) (k:g.has b=true):Rch g a b:=.step h k (.refl b)
structure TS where
 D:List Cl
 S:List Cl
 F:List (Cl×Nat)
 P:List (List Cl)
 low:Cl→Nat
def num (D:List Cl) (c:Cl):Nat:=if c ∈ D then D.idxOf c+1 else 0
theorem num_in {D:List Cl} {c:Cl} (h:c ∈ D):num D c=D.idxOf c+1:=if_pos h
theorem num_out {D:List Cl} {c:Cl} (h:c ∉ D):num D c=0:=if_neg h
theorem num_pos {D:List Cl} {c:Cl}:0<num D c↔c ∈ D:=by
 by_cases h:c ∈ D
 ·rw[num_in h];exact ⟨fun _=>h,fun _=>Nat.succ_pos _⟩
 ·rw[num_out h];exact ⟨fun h=>absurd h (Nat.lt_irrefl 0),fun k=>absurd k h⟩
theorem num_le {D:List Cl} {c:Cl}:num D c≤D.length:=by
 by_cases h:c ∈ D
 ·rw[num_in h];exact List.idxOf_lt_length_iff.2 h
 ·rw[num_out h];exact Nat.zero_le _
theorem num_app {D:List Cl} {c x:Cl} (h:c ∈ D):num (D++[x]) c=num D c:=by
 rw[num_in h,num_in (List.mem_append_left _ h),List.idxOf_append,if_pos h]
theorem num_new {D:List Cl} {x:Cl} (h:x ∉ D):num (D++[x]) x=D.length+1:=by
 rw[num_in (by simp),List.idxOf_append,if_neg h]
 simp
theorem num_sorted:∀ {D:List Cl},D.Nodup→D.Pairwise fun a b=>num D a<num D b:=fun {D} hD=>by
 rw[List.pairwise_iff_getElem]
 intro i j hi hj hij
 rw[num_in (List.getElem_mem hi),num_in (List.getElem_mem hj),List.Nodup.idxOf_getElem hD,List.Nodup.idxOf_getElem hD]
 omega
def Prc (g:Gr) (F:List (Cl×Nat)) (v w:Cl):Prop:=(∃ k,(v,k) ∈ F∧w ∈ (g.on v).take k)∨((∀ k,(v,k) ∉ F)∧w ∈ g.on v)
def les (a b:Cl):Prop:=a.2<b.2∨a.2=b.2∧a.1<b.1
structure Part (g:Gr) (p:List Cl):Prop where
 ne:p≠[]
 scc:∀ c ∈ p,∀ v,v ∈ p↔Rch g c v∧Rch g v c
structure Inv (g:Gr) (s:TS):Prop where
 dn:s.D.Nodup
 dh:∀ c ∈ s.D,g.has c=true
 sd:s.S.Sublist s.D
 fs:(s.F.map (·.1)).Sublist s.S
 lo:∀ f ∈ s.F.map (·.1),s.low f≤num s.D f∧∃ u ∈ s.S,num s.D u=s.low f∧Rch g f u
 pd:∀ v ∈ s.S,∀ w,Prc g s.F v w→g.has w=true→w ∈ s.D
 cl:∀ v ∈ s.D,v ∉ s.S→∀ w ∈ g.on v,g.has w=true→w ∈ s.D∧w ∉ s.S
 pl:∀ f ∈ s.F.map (·.1),∀ v ∈ s.S,num s.D f≤num s.D v→∀ w ∈ s.S,Prc g s.F v w→∃ h ∈ s.F.map (·.1),num s.D f≤num s.D h∧s.low h≤num s.D w
 bk:∀ v ∈ s.S,v ∉ s.F.map (·.1)→∃ u ∈ s.S,num s.D u<num s.D v∧Rch g v u
 fr:∀ f ∈ s.F.map (·.1),∀ v ∈ s.S,num s.D f≤num s.D v→Rch g f v
 bt:∀ v ∈ s.S,∃ f ∈ s.F.map (·.1),num s.D f≤num s.D v
 ps:∀ p ∈ s.P,Part g p∧∀ c ∈ p,c ∈ s.D∧c ∉ s.S
 pc:∀ c ∈ s.D,c ∉ s.S→∃ p ∈ s.P,c ∈ p
 pp:s.P.Pairwise fun p q=>∀ c ∈ p,c ∉ q
 pn:∀ p ∈ s.P,p.Pairwise les
section
variable {g:Gr} {s:TS}
theorem Inv.inD (h:Inv g s) {c:Cl} (hc:c ∈ s.S):c ∈ s.D:=h.sd.subset hc
theorem Inv.inS (h:Inv g s) {c:Cl} (hc:c ∈ s.F.map (·.1)):c ∈ s.S:=h.fs.subset hc
theorem Inv.top (h:Inv g s) {F0:List (Cl×Nat)} {t:Cl} {k:Nat} (hF:s.F=F0++[(t,k)]) {f:Cl} (hf:f ∈ s.F.map (·.1)):num s.D f≤num s.D t∧(f≠t→f ∈ F0.map (·.1)∧num s.D f<num s.D t):=by
 have hs:(s.F.map (·.1)).Pairwise fun a b=>num s.D a<num s.D b:=(num_sorted h.dn).sublist (h.fs.trans h.sd)
 rw[hF,List.map_append] at hs hf
 rcases List.mem_append.1 hf with h1|h1
 ·have:=(List.pairwise_append.1 hs).2.2 f h1 t (by simp)
  exact ⟨Nat.le_of_lt this,fun _=>⟨h1,this⟩⟩
 ·obtain rfl:f=t:=by simpa using h1
  exact ⟨Nat.le_refl _,fun hh=>absurd rfl hh⟩
theorem Inv.fnd (h:Inv g s):(s.F.map (·.1)).Nodup:=h.dn.sublist (h.fs.trans h.sd)
theorem Inv.at (h:Inv g s) {F0:List (Cl×Nat)} {t:Cl} {k j:Nat} (hF:s.F=F0++[(t,k)]) (hj:(t,j) ∈ s.F):j=k:=by
 have hn:=h.fnd
 rw[hF] at hj hn
 rcases List.mem_append.1 hj with h1|h1
 ·exfalso
  rw[List.map_append] at hn
  exact (List.nodup_append.1 hn).2.2 t (List.mem_map.2 ⟨(t,j),h1,rfl⟩) t (by simp) rfl
 ·simpa using h1
theorem Inv.front (h:Inv g s) {F0:List (Cl×Nat)} {t:Cl} {k:Nat} (hF:s.F=F0++[(t,k)]):t ∉ F0.map (·.1):=fun hh=>by
 have hn:=h.fnd
 rw[hF,List.map_append] at hn
 exact (List.nodup_append.1 hn).2.2 t hh t (by simp) rfl
theorem prc_step {F0:List (Cl×Nat)} {t:Cl} {k:Nat} (ht:t ∉ F0.map (·.1)) {v w:Cl} (h:Prc g (F0++[(t,k+1)]) v w):Prc g (F0++[(t,k)]) v w∨(v=t∧(g.on t)[k]?=some w):=by
 rcases h with ⟨j,hj,hw⟩|⟨hj,hw⟩
 ·rcases List.mem_append.1 hj with h1|h1
  ·exact .inl (.inl ⟨j,List.mem_append_left _ h1,hw⟩)
  ·obtain ⟨rfl,rfl⟩:v=t∧j=k+1:=by simpa using h1
   by_cases hk:k<(g.on v).length
   ·rw[List.take_succ_eq_append_getElem hk] at hw
    rcases List.mem_append.1 hw with h2|h2
    ·exact .inl (.inl ⟨k,by simp,h2⟩)
    ·obtain rfl:=List.mem_singleton.1 h2
     exact .inr ⟨rfl,List.getElem?_eq_getElem hk⟩
   ·rw[List.take_of_length_le (by omega)] at hw
    exact .inl (.inl ⟨k,by simp,by rw[List.take_of_length_le (by omega)];exact hw⟩)
 ·refine .inl (.inr ⟨fun j hh=>?_,hw⟩)
  rcases List.mem_append.1 hh with h1|h1
  ·exact hj j (List.mem_append_left _ h1)
  ·obtain ⟨rfl,rfl⟩:v=t∧j=k:=by simpa using h1
   exact hj (j+1) (by simp)
theorem map_step {F0:List (Cl×Nat)} {t:Cl} {k j:Nat}:(F0++[(t,k)]).map (·.1)=(F0++[(t,j)]).map (·.1):=by simp
theorem Inv.skip (h:Inv g s) {F0:List (Cl×Nat)} {t x:Cl} {k:Nat} (hF:s.F=F0++[(t,k)]) (hx:(g.on t)[k]?=some x) (hs:g.has x=false∨(x ∈ s.D∧x ∉ s.S)):Inv g { s with F:=F0++[(t,k+1)] }:=by
 have ht:=h.front hF
 have hm:(F0++[(t,k+1)]:List (Cl×Nat)).map (·.1)=s.F.map (·.1):=by rw[hF];exact map_step
 refine ⟨h.dn,h.dh,h.sd,by rw[hm];exact h.fs,by rw[hm];exact h.lo,fun v hv w hw hh=>?_,h.cl,?_,by rw[hm];exact h.bk,by rw[hm];exact h.fr,by rw[hm];exact h.bt,h.ps,h.pc,h.pp,h.pn⟩
 ·rcases prc_step ht hw with h1|⟨rfl,h1⟩
  ·rw[← hF] at h1;exact h.pd v hv w h1 hh
  ·rw[hx] at h1
   cases h1
   rcases hs with hs|hs
   ·rw[hs] at hh;cases hh
   ·exact hs.1
 ·show ∀ f ∈ (F0++[(t,k+1)]:List (Cl×Nat)).map (·.1),_
  rw[hm]
  intro f hf v hv hfv w hw hp
  rcases prc_step ht hp with h1|⟨rfl,h1⟩
  ·rw[← hF] at h1
   obtain ⟨a,ha,h2⟩:=h.pl f hf v hv hfv w hw h1
   exact ⟨a,ha,h2⟩
  ·rw[hx] at h1
   cases h1
   rcases hs with hs|hs
   ·have:=h.dh x (h.inD hw)
    rw[hs] at this
    cases this
   ·exact absurd hw hs.2
theorem Inv.lower (h:Inv g s) {F0:List (Cl×Nat)} {t x:Cl} {k:Nat} (hF:s.F=F0++[(t,k)]) (hx:(g.on t)[k]?=some x) (hs:x ∈ s.S):Inv g { s with F:=F0++[(t,k+1)],low:=fun c=>if c=t then min (s.low t) (num s.D x) else s.low c }:=by
 have ht:=h.front hF
 have htF:t ∈ s.F.map (·.1):=by rw[hF];simp
 have hm:(F0++[(t,k+1)]:List (Cl×Nat)).map (·.1)=s.F.map (·.1):=by rw[hF];exact map_step
 have hxh:=h.dh x (h.inD hs)
 have hle:∀ c,(if c=t then min (s.low t) (num s.D x) else s.low c)≤s.low c:=fun c=>by
  by_cases hc:c=t
  ·subst hc;rw[if_pos rfl];exact Nat.min_le_left _ _
  ·rw[if_neg hc];exact Nat.le_refl _
 refine ⟨h.dn,h.dh,h.sd,by rw[hm];exact h.fs,?_,fun v hv w hw hh=>?_,h.cl,?_,by rw[hm];exact h.bk,by rw[hm];exact h.fr,by rw[hm];exact h.bt,h.ps,h.pc,h.pp,h.pn⟩
 ·show ∀ f ∈ (F0++[(t,k+1)]:List (Cl×Nat)).map (·.1),_
  rw[hm]
  intro f hf
  obtain ⟨h1,u,hu,h2,h3⟩:=h.lo f hf
  refine ⟨Nat.le_trans (hle f) h1,?_⟩
  show ∃ u ∈ s.S,num s.D u=(if f=t then min (s.low t) (num s.D x) else s.low f)∧Rch g f u
  by_cases hft:f=t
  ·subst hft
   rw[if_pos rfl]
   by_cases hlt:s.low f≤num s.D x
   ·exact ⟨u,hu,by rw[Nat.min_eq_left hlt];exact h2,h3⟩
   ·exact ⟨x,hs,by rw[Nat.min_eq_right (by omega)],Rch.one (List.mem_of_getElem? hx) hxh⟩
  ·rw[if_neg hft]
   exact ⟨u,hu,h2,h3⟩
 ·rcases prc_step ht hw with h1|⟨rfl,h1⟩
  ·rw[← hF] at h1;exact h.pd v hv w h1 hh
  ·rw[hx] at h1
   cases h1
   exact h.inD hs
 ·show ∀ f ∈ (F0++[(t,k+1)]:List (Cl×Nat)).map (·.1),_
  rw[hm]
  intro f hf v hv hfv w hw hp
  rcases prc_step ht hp with h1|⟨rfl,h1⟩
  ·rw[← hF] at h1
   obtain ⟨a,ha,h2,h3⟩:=h.pl f hf v hv hfv w hw h1
   exact ⟨a,ha,h2,Nat.le_trans (hle a) h3⟩
  ·rw[hx] at h1
   cases h1
   refine ⟨v,htF,hfv,?_⟩
   show (if v=v then min (s.low v) (num s.D x) else s.low v)≤num s.D x
   rw[if_pos rfl]
   exact Nat.min_le_right _ _
theorem prc_front {F0:List (Cl×Nat)} {t:Cl} {k:Nat} {v w:Cl} (hv:v≠t) (h:Prc g (F0++[(t,k)]) v w):Prc g F0 v w:=by
 rcases h with ⟨j,hj,hw⟩|⟨hj,hw⟩
 ·rcases List.mem_append.1 hj with h1|h1
  ·exact .inl ⟨j,h1,hw⟩
  ·exact absurd (by simpa using h1:v=t∧j=k).1 hv
 ·exact .inr ⟨fun j hh=>hj j (List.mem_append_left _ hh),hw⟩
theorem prc_back {F0:List (Cl×Nat)} {t:Cl} {k:Nat} (ht:t ∉ F0.map (·.1)) (hk:(g.on t).length≤k) {v w:Cl}:Prc g F0 v w→Prc g (F0++[(t,k)]) v w:=by
 intro h
 by_cases hv:v=t
 ·subst hv
  rcases h with ⟨j,hj,_⟩|⟨_,hw⟩
  ·exact absurd (List.mem_map.2 ⟨_,hj,rfl⟩) ht
  ·exact .inl ⟨k,by simp,by rw[List.take_of_length_le hk];exact hw⟩
 ·rcases h with ⟨j,hj,hw⟩|⟨hj,hw⟩
  ·exact .inl ⟨j,List.mem_append_left _ hj,hw⟩
  ·refine .inr ⟨fun j hh=>?_,hw⟩
   rcases List.mem_append.1 hh with h1|h1
   ·exact hj j h1
   ·exact hv (by simpa using h1:v=t∧j=k).1
theorem Inv.enter (h:Inv g s) {F0:List (Cl×Nat)} {t x:Cl} {k:Nat} (hF:s.F=F0++[(t,k)]) (hx:(g.on t)[k]?=some x) (hh:g.has x=true) (hn:x ∉ s.D):Inv g { s with D:=s.D++[x],S:=s.S++[x],F:=F0++[(t,k+1)]++[(x,0)],low:=fun c=>if c=x then s.D.length+1 else s.low c }:=by
 have ht:=h.front hF
 have htF:t ∈ s.F.map (·.1):=by rw[hF];simp
 have hm:(F0++[(t,k+1)]++[(x,0)]:List (Cl×Nat)).map (·.1)=s.F.map (·.1)++[x]:=by rw[hF];simp
 have hxS:x ∉ s.S:=fun hh=>hn (h.inD hh)
 have hxF:x ∉ s.F.map (·.1):=fun hh=>hxS (h.inS hh)
 have htx:t≠x:=fun e=>hxF (e ▸ htF)
 have nS:∀ {c},c ∈ s.S→num (s.D++[x]) c=num s.D c:=fun hc=>num_app (h.inD hc)
 have nF:∀ {c},c ∈ s.F.map (·.1)→num (s.D++[x]) c=num s.D c:=fun hc=>nS (h.inS hc)
 have nx:num (s.D++[x]) x=s.D.length+1:=num_new hn
 have hlF:∀ {c},c ∈ s.F.map (·.1)→(if c=x then s.D.length+1 else s.low c)=s.low c:=fun {c} hc=>if_neg fun (e:c=x)=>hxF (e ▸ hc)
 have rtx:Rch g t x:=Rch.one (List.mem_of_getElem? hx) hh
 -- what was looked at
 have hp:∀ {v w:Cl},v≠x→Prc g (F0++[(t,k+1)]++[(x,0)]) v w→Prc g s.F v w∨(v=t∧w=x):=fun {v w} hv hp=>by
  have h1:Prc g (F0++[(t,k+1)]) v w:=prc_front hv hp
  rcases prc_step ht h1 with h2|⟨rfl,h2⟩
  ·rw[← hF] at h2;exact .inl h2
  ·rw[hx] at h2;cases h2;exact .inr ⟨rfl,rfl⟩
 have hp0:∀ {w:Cl},¬ Prc g (F0++[(t,k+1)]++[(x,0)]) x w:=fun {w} hp=>by
  rcases hp with ⟨j,hj,hw⟩|⟨hj,_⟩
  ·rcases List.mem_append.1 hj with h1|h1
   ·rcases List.mem_append.1 h1 with h2|h2
    ·exact hxF (by rw[hF,List.map_append];exact List.mem_append_left _ (List.mem_map.2 ⟨_,h2,rfl⟩))
    ·exact htx (congrArg Prod.fst (List.mem_singleton.1 h2)).symm
   ·obtain rfl:j=0:=by simpa using h1
    cases hw
  ·exact hj 0 (by simp)
 refine ⟨?_,?_,?_,?_,?_,?_,?_,?_,?_,?_,?_,?_,?_,h.pp,h.pn⟩
 ·exact List.nodup_append.2 ⟨h.dn,by simp,fun a ha b hb=>by obtain rfl:=List.mem_singleton.1 hb;exact fun e=>hn (e ▸ ha)⟩
 ·intro c hc
  rcases List.mem_append.1 hc with h1|h1
  ·exact h.dh c h1
  ·obtain rfl:=List.mem_singleton.1 h1;exact hh
 ·exact h.sd.append (List.Sublist.refl _)
 ·show ((F0++[(t,k+1)]++[(x,0)]:List (Cl×Nat)).map (·.1)).Sublist (s.S++[x])
  rw[hm]
  exact h.fs.append (List.Sublist.refl _)
 ·show ∀ f ∈ (F0++[(t,k+1)]++[(x,0)]:List (Cl×Nat)).map (·.1),(if f=x then s.D.length+1 else s.low f)≤num (s.D++[x]) f∧∃ u ∈ s.S++[x],num (s.D++[x]) u=(if f=x then s.D.length+1 else s.low f)∧Rch g f u
  rw[hm]
  intro f hf
  rcases List.mem_append.1 hf with h1|h1
  ·obtain ⟨h2,u,hu,h3,h4⟩:=h.lo f h1
   rw[hlF h1,nF h1]
   exact ⟨h2,u,List.mem_append_left _ hu,by rw[nS hu];exact h3,h4⟩
  ·obtain rfl:=List.mem_singleton.1 h1
   rw[if_pos rfl,nx]
   exact ⟨Nat.le_refl _,f,by simp,nx,.refl f⟩
 ·intro v hv w hw hwh
  by_cases hvx:v=x
  ·subst hvx;exact absurd hw hp0
  ·have hvS:v ∈ s.S:=by simpa[hvx] using hv
   rcases hp hvx hw with h1|⟨_,rfl⟩
   ·exact List.mem_append_left _ (h.pd v hvS w h1 hwh)
   ·simp
 ·intro v hv hvS w hw hwh
  have hvx:v≠x:=fun e=>hvS (by rw[e];simp)
  have hvD:v ∈ s.D:=by simpa[hvx] using hv
  obtain ⟨h1,h2⟩:=h.cl v hvD (fun hh=>hvS (List.mem_append_left _ hh)) w hw hwh
  refine ⟨List.mem_append_left _ h1,fun hh=>?_⟩
  rcases List.mem_append.1 hh with h3|h3
  ·exact h2 h3
  ·obtain rfl:=List.mem_singleton.1 h3;exact hn h1
 ·show ∀ f ∈ (F0++[(t,k+1)]++[(x,0)]:List (Cl×Nat)).map (·.1),∀ v ∈ s.S++[x],num (s.D++[x]) f≤num (s.D++[x]) v→∀ w ∈ s.S++[x],Prc g (F0++[(t,k+1)]++[(x,0)]) v w→∃ a ∈ (F0++[(t,k+1)]++[(x,0)]:List (Cl×Nat)).map (·.1),num (s.D++[x]) f≤num (s.D++[x]) a∧(if a=x then s.D.length+1 else s.low a)≤num (s.D++[x]) w
  rw[hm]
  intro f hf v hv hfv w hw hpr
  by_cases hvx:v=x
  ·subst hvx;exact absurd hpr hp0
  have hvS:v ∈ s.S:=by simpa[hvx] using hv
  have hfF:f ∈ s.F.map (·.1):=by
   rcases List.mem_append.1 hf with h1|h1
   ·exact h1
   ·obtain rfl:=List.mem_singleton.1 h1
    rw[nx,nS hvS] at hfv
    have:=@num_le s.D v
    omega
  rw[nF hfF,nS hvS] at hfv
  rcases hp hvx hpr with h1|⟨rfl,rfl⟩
  ·have hwS:w ∈ s.S:=by
    rcases List.mem_append.1 hw with h2|h2
    ·exact h2
    ·obtain rfl:=List.mem_singleton.1 h2
     exact absurd (h.pd v hvS w h1 hh) hn
   obtain ⟨a,ha,h2,h3⟩:=h.pl f hfF v hvS hfv w hwS h1
   exact ⟨a,List.mem_append_left _ ha,by rw[nF hfF,nF ha];exact h2,by rw[hlF ha,nS hwS];exact h3⟩
  ·refine ⟨f,hf,Nat.le_refl _,?_⟩
   rw[hlF hfF,nx]
   have:=(h.lo f hfF).1
   have:=@num_le s.D f
   omega
 ·show ∀ v ∈ s.S++[x],v ∉ (F0++[(t,k+1)]++[(x,0)]:List (Cl×Nat)).map (·.1)→∃ u ∈ s.S++[x],num (s.D++[x]) u<num (s.D++[x]) v∧Rch g v u
  rw[hm]
  intro v hv hvF
  have hvx:v≠x:=fun e=>hvF (by rw[e];simp)
  have hvS:v ∈ s.S:=by simpa[hvx] using hv
  obtain ⟨u,hu,h1,h2⟩:=h.bk v hvS fun hh=>hvF (List.mem_append_left _ hh)
  exact ⟨u,List.mem_append_left _ hu,by rw[nS hu,nS hvS];exact h1,h2⟩
 ·show ∀ f ∈ (F0++[(t,k+1)]++[(x,0)]:List (Cl×Nat)).map (·.1),∀ v ∈ s.S++[x],num (s.D++[x]) f≤num (s.D++[x]) v→Rch g f v
  rw[hm]
  intro f hf v hv hfv
  rcases List.mem_append.1 hf with h1|h1
  ·rcases List.mem_append.1 hv with h2|h2
   ·rw[nF h1,nS h2] at hfv
    exact h.fr f h1 v h2 hfv
   ·obtain rfl:=List.mem_singleton.1 h2
    exact (h.fr f h1 t (h.inS htF) (h.top hF h1).1).trans rtx
  ·obtain rfl:=List.mem_singleton.1 h1
   rcases List.mem_append.1 hv with h2|h2
   ·rw[nx,nS h2] at hfv
    have:=@num_le s.D v
    omega
   ·obtain rfl:=List.mem_singleton.1 h2
    exact .refl _
 ·show ∀ v ∈ s.S++[x],∃ f ∈ (F0++[(t,k+1)]++[(x,0)]:List (Cl×Nat)).map (·.1),num (s.D++[x]) f≤num (s.D++[x]) v
  rw[hm]
  intro v hv
  rcases List.mem_append.1 hv with h2|h2
  ·obtain ⟨f,hf,h3⟩:=h.bt v h2
   exact ⟨f,List.mem_append_left _ hf,by rw[nF hf,nS h2];exact h3⟩
  ·obtain rfl:=List.mem_singleton.1 h2
   exact ⟨v,by simp,Nat.le_refl _⟩
 ·intro p hp
  obtain ⟨h1,h2⟩:=h.ps p hp
  refine ⟨h1,fun c hc=>?_⟩
  obtain ⟨h3,h4⟩:=h2 c hc
  refine ⟨List.mem_append_left _ h3,fun hh=>?_⟩
  rcases List.mem_append.1 hh with h5|h5
  ·exact h4 h5
  ·obtain rfl:=List.mem_singleton.1 h5;exact hn h3
 ·intro c hc hcS
  have hcx:c≠x:=fun e=>hcS (by rw[e];simp)
  exact h.pc c (by simpa[hcx] using hc) fun hh=>hcS (List.mem_append_left _ hh)
end
end Go.Proofs.YtaheflnnigocgaaGreatDoor
end
section
namespace Go.Proofs.YtaheflnnigocgaaGreatDoor
set_option maxRecDepth 100000
section
variable {g:Gr} {s:TS}
theorem inv_0 (low:Cl→Nat):Inv g ⟨[],[],[],[],low⟩:=by
 constructor <;> simp
theorem Inv.none (h:Inv g s) (hF:s.F=[]):s.S=[]:=by
 cases hS:s.S with
 | nil=>rfl
 | cons a l =>
  obtain ⟨f,hf,_⟩:=h.bt a (by rw[hS];simp)
  rw[hF] at hf
  cases hf
theorem Inv.first (h:Inv g s) (hF:s.F=[]) {x:Cl} (hh:g.has x=true) (hn:x ∉ s.D):Inv g { s with D:=s.D++[x],S:=[x],F:=[(x,0)],low:=fun c=>if c=x then s.D.length+1 else s.low c }:=by
 have hS:=h.none hF
 have nx:num (s.D++[x]) x=s.D.length+1:=num_new hn
 have hp0:∀ {w:Cl},¬ Prc g [(x,0)] x w:=fun {w} hp=>by
  rcases hp with ⟨j,hj,hw⟩|⟨hj,_⟩
  ·obtain rfl:j=0:=by simpa using hj
   cases hw
  ·exact hj 0 (by simp)
 refine ⟨?_,?_,?_,?_,?_,?_,?_,?_,?_,?_,?_,?_,?_,h.pp,h.pn⟩
 ·exact List.nodup_append.2 ⟨h.dn,by simp,fun a ha b hb=>by obtain rfl:=List.mem_singleton.1 hb;exact fun e=>hn (e ▸ ha)⟩
 ·intro c hc
  rcases List.mem_append.1 hc with h1|h1
  ·exact h.dh c h1
  ·obtain rfl:=List.mem_singleton.1 h1;exact hh
 ·exact List.sublist_append_right _ _
 ·exact List.Sublist.refl _
 ·intro f hf
  obtain rfl:f=x:=by simpa using hf
  show (if f=f then s.D.length+1 else s.low f)≤num (s.D++[f]) f∧∃ u ∈ [f],num (s.D++[f]) u=(if f=f then s.D.length+1 else s.low f)∧Rch g f u
  rw[if_pos rfl,nx]
  exact ⟨Nat.le_refl _,f,by simp,nx,.refl f⟩
 ·intro v hv w hw
  obtain rfl:=List.mem_singleton.1 hv
  exact absurd hw hp0
 ·intro v hv hvS w hw hwh
  have hvx:v≠x:=fun e=>hvS (by rw[e];simp)
  have hvD:v ∈ s.D:=by simpa[hvx] using hv
  obtain ⟨h1,h2⟩:=h.cl v hvD (by rw[hS];simp) w hw hwh
  refine ⟨List.mem_append_left _ h1,fun hh=>?_⟩
  obtain rfl:=List.mem_singleton.1 hh
  exact hn h1
 ·intro f hf v hv hfv w hw hp
  obtain rfl:=List.mem_singleton.1 hv
  exact absurd hp hp0
 ·intro v hv hvF
  obtain rfl:=List.mem_singleton.1 hv
  exact absurd (by simp) hvF
 ·intro f hf v hv _
  obtain rfl:=List.mem_singleton.1 hv
  obtain rfl:f=v:=by simpa using hf
  exact .refl _
 ·intro v hv
  obtain rfl:=List.mem_singleton.1 hv
  exact ⟨v,by simp,Nat.le_refl _⟩
 ·intro p hp
  obtain ⟨h1,h2⟩:=h.ps p hp
  refine ⟨h1,fun c hc=>?_⟩
  obtain ⟨h3,_⟩:=h2 c hc
  refine ⟨List.mem_append_left _ h3,fun hh=>?_⟩
  obtain rfl:=List.mem_singleton.1 hh
  exact hn h3
 ·intro c hc hcS
  have hcx:c≠x:=fun e=>hcS (by rw[e];simp)
  exact h.pc c (by simpa[hcx] using hc) (by rw[hS];simp)
theorem Inv.alone (h:Inv g s) {t:Cl} {k:Nat} (hF:s.F=[(t,k)]):¬ s.low t<num s.D t:=fun hl=>by
 obtain ⟨_,u,hu,h1,_⟩:=h.lo t (by rw[hF];simp)
 obtain ⟨f,hf,h2⟩:=h.bt u hu
 rw[hF] at hf
 obtain rfl:f=t:=by simpa using hf
 omega
theorem Inv.back (h:Inv g s) {F1:List (Cl×Nat)} {p t:Cl} {j k:Nat} (hF:s.F=F1++[(p,j)]++[(t,k)]) (hk:(g.on t).length≤k) (hl:s.low t<num s.D t):Inv g { s with F:=F1++[(p,j)],low:=fun c=>if c=p then min (s.low p) (s.low t) else s.low c }:=by
 have ht:=h.front hF
 have htF:t ∈ s.F.map (·.1):=by rw[hF];simp
 have hpF:p ∈ s.F.map (·.1):=by rw[hF];simp
 have hpt:p≠t:=fun e=>ht (by rw[← e];simp)
 have hsub:∀ {f},f ∈ (F1++[(p,j)]).map (·.1)→f ∈ s.F.map (·.1):=fun {f} hf=>by rw[hF,List.map_append];exact List.mem_append_left _ hf
 have hcase:∀ {f},f ∈ s.F.map (·.1)→f ∈ (F1++[(p,j)]).map (·.1)∨f=t:=fun {f} hf=>by
  rw[hF,List.map_append] at hf
  rcases List.mem_append.1 hf with h1|h1
  ·exact .inl h1
  ·exact .inr (by simpa using h1)
 have hfp:∀ {f},f ∈ (F1++[(p,j)]).map (·.1)→num s.D f≤num s.D p:=fun {f} hf=>by
  have hs:(s.F.map (·.1)).Pairwise fun a b=>num s.D a<num s.D b:=(num_sorted h.dn).sublist (h.fs.trans h.sd)
  rw[hF,List.map_append,List.map_append] at hs
  rw[List.map_append] at hf
  rcases List.mem_append.1 hf with h1|h1
  ·exact Nat.le_of_lt ((List.pairwise_append.1 (List.pairwise_append.1 hs).1).2.2 f h1 p (by simp))
  ·obtain rfl:f=p:=by simpa using h1
   exact Nat.le_refl _
 have hpt2:num s.D p≤num s.D t:=(h.top hF hpF).1
 have hrpt:Rch g p t:=h.fr p hpF t (h.inS htF) hpt2
 have hle:∀ c,(if c=p then min (s.low p) (s.low t) else s.low c)≤s.low c:=fun c=>by
  by_cases hc:c=p
  ·subst hc;rw[if_pos rfl];exact Nat.min_le_left _ _
  ·rw[if_neg hc];exact Nat.le_refl _
 have hpr:∀ {v w:Cl},Prc g (F1++[(p,j)]) v w→Prc g s.F v w:=fun {v w} hp=>by
  rw[hF]
  exact prc_back ht hk hp
 refine ⟨h.dn,h.dh,h.sd,?_,?_,fun v hv w hw hh=>h.pd v hv w (hpr hw) hh,h.cl,?_,?_,fun f hf v hv hfv=>h.fr f (hsub hf) v hv hfv,?_,h.ps,h.pc,h.pp,h.pn⟩
 ·have:=h.fs
  rw[hF,List.map_append] at this
  exact (List.sublist_append_left _ _).trans this
 ·intro f hf
  obtain ⟨h1,u,hu,h2,h3⟩:=h.lo f (hsub hf)
  refine ⟨Nat.le_trans (hle f) h1,?_⟩
  show ∃ u ∈ s.S,num s.D u=(if f=p then min (s.low p) (s.low t) else s.low f)∧Rch g f u
  by_cases hfp:f=p
  ·subst hfp
   rw[if_pos rfl]
   by_cases hlt:s.low f≤s.low t
   ·exact ⟨u,hu,by rw[Nat.min_eq_left hlt];exact h2,h3⟩
   ·obtain ⟨_,u',hu',h4,h5⟩:=h.lo t htF
    exact ⟨u',hu',by rw[Nat.min_eq_right (by omega)];exact h4,hrpt.trans h5⟩
  ·rw[if_neg hfp]
   exact ⟨u,hu,h2,h3⟩
 ·intro f hf v hv hfv w hw hp
  obtain ⟨a,ha,h1,h2⟩:=h.pl f (hsub hf) v hv hfv w hw (hpr hp)
  rcases hcase ha with h3|rfl
  ·exact ⟨a,h3,h1,Nat.le_trans (hle a) h2⟩
  ·refine ⟨p,by simp,hfp hf,?_⟩
   show (if p=p then min (s.low p) (s.low a) else s.low p)≤_
   rw[if_pos rfl]
   exact Nat.le_trans (Nat.min_le_right _ _) h2
 ·intro v hv hvF
  by_cases hvt:v=t
  ·subst hvt
   obtain ⟨_,u,hu,h2,h3⟩:=h.lo v htF
   exact ⟨u,hu,by rw[h2];exact hl,h3⟩
  ·exact h.bk v hv fun hh=>(hcase hh).elim hvF hvt
 ·intro v hv
  obtain ⟨f,hf,h1⟩:=h.bt v hv
  rcases hcase hf with h2|rfl
  ·exact ⟨f,h2,h1⟩
  ·exact ⟨p,by simp,Nat.le_trans hpt2 h1⟩
theorem Inv.part (h:Inv g s) {F0:List (Cl×Nat)} {t:Cl} {k:Nat} (hF:s.F=F0++[(t,k)]) (hk:(g.on t).length≤k) (hl:¬ s.low t<num s.D t) {S0 S1:List Cl} (hS:s.S=S0++t::S1) {part:List Cl} (hpm:∀ c,c ∈ part↔c ∈ t::S1) (hpl:part.Pairwise les) {low:Cl→Nat} (hlow:∀ f ∈ F0.map (·.1),low f=s.low f) :
 Inv g { s with S:=S0,F:=F0,P:=s.P++[part],low:=low }:=by
 have ht:=h.front hF
 have htF:t ∈ s.F.map (·.1):=by rw[hF];simp
 have hts:t ∈ s.S:=h.inS htF
 have hlt:s.low t=num s.D t:=Nat.le_antisymm (h.lo t htF).1 (Nat.le_of_not_lt hl)
 have hsub:∀ {f},f ∈ F0.map (·.1)→f ∈ s.F.map (·.1):=fun {f} hf=>by rw[hF,List.map_append];exact List.mem_append_left _ hf
 have hcase:∀ {f},f ∈ s.F.map (·.1)→f ∈ F0.map (·.1)∨f=t:=fun {f} hf=>by
  rw[hF,List.map_append] at hf
  rcases List.mem_append.1 hf with h1|h1
  ·exact .inl h1
  ·exact .inr (by simpa using h1)
 have hlf:∀ {f},f ∈ F0.map (·.1)→num s.D f<num s.D t:=fun {f} hf=>((h.top hF (hsub hf)).2 fun e=>ht (e ▸ hf)).2
 have hss:s.S.Pairwise fun a b=>num s.D a<num s.D b:=(num_sorted h.dn).sublist h.sd
 rw[hS] at hss
 obtain ⟨hs0,hs1,hs2⟩:=List.pairwise_append.1 hss
 have hs3:=(List.pairwise_cons.1 hs1).1
 have m0:∀ {c},c ∈ s.S→(c ∈ S0∧num s.D c<num s.D t)∨(c ∈ t::S1∧num s.D t≤num s.D c):=fun {c} hc=>by
  rw[hS] at hc
  rcases List.mem_append.1 hc with h1|h1
  ·exact .inl ⟨h1,hs2 c h1 t (by simp)⟩
  ·refine .inr ⟨h1,?_⟩
   rcases List.mem_cons.1 h1 with rfl|h2
   ·exact Nat.le_refl _
   ·exact Nat.le_of_lt (hs3 c h2)
 have i0:∀ {c},c ∈ S0→c ∈ s.S:=fun hc=>by rw[hS];exact List.mem_append_left _ hc
 have i1:∀ {c},c ∈ t::S1→c ∈ s.S:=fun hc=>by rw[hS];exact List.mem_append_right _ hc
 have l0:∀ {c},c ∈ S0→num s.D c<num s.D t:=fun hc=>hs2 _ hc t (by simp)
 have l1:∀ {c},c ∈ t::S1→num s.D t≤num s.D c:=fun {c} hc=>by
  rcases List.mem_cons.1 hc with rfl|h2
  ·exact Nat.le_refl _
  ·exact Nat.le_of_lt (hs3 c h2)
 have dis:∀ {c},c ∈ t::S1→c ∉ S0:=fun h1 h2=>by have:=l0 h2;have:=l1 h1;omega
 have n1:∀ {c},c ∈ S1→c ∉ s.F.map (·.1):=fun {c} hc hf=>by
  have h1:=(h.top hF hf).1
  have:=hs3 c hc
  omega
 -- all links of the part are looked at
 have hprT:∀ {v w:Cl},v ∈ t::S1→w ∈ g.on v→Prc g s.F v w:=fun {v w} hv hw=>by
  rcases List.mem_cons.1 hv with rfl|h1
  ·exact .inl ⟨k,by rw[hF];simp,by rw[List.take_of_length_le hk];exact hw⟩
  ·exact .inr ⟨fun j hj=>n1 h1 (List.mem_map.2 ⟨_,hj,rfl⟩),hw⟩
 have clT:∀ {v w:Cl},v ∈ t::S1→w ∈ g.on v→g.has w=true→w ∈ t::S1∨(w ∈ s.D∧w ∉ s.S):=fun {v w} hv hw hh=>by
  have hp:=hprT hv hw
  by_cases hwS:w ∈ s.S
  ·obtain ⟨a,ha,h1,h2⟩:=h.pl t htF v (i1 hv) (l1 hv) w hwS hp
   have:a=t:=by
    rcases hcase ha with h3|h3
    ·have:=hlf h3;omega
    ·exact h3
   subst this
   rw[hlt] at h2
   rcases m0 hwS with ⟨_,h3⟩|⟨h3,_⟩
   ·omega
   ·exact .inl h3
  ·exact .inr ⟨h.pd v (i1 hv) w hp hh,hwS⟩
 have rD:∀ {v u:Cl},Rch g v u→v ∈ s.D→v ∉ s.S→u ∈ s.D∧u ∉ s.S:=fun {v u} hr=>by
  induction hr with
  | refl a=>exact fun h1 h2=>⟨h1,h2⟩
  | step e1 e2 _ ih =>
   intro h1 h2
   obtain ⟨h3,h4⟩:=h.cl _ h1 h2 _ e1 e2
   exact ih h3 h4
 have rT:∀ {v u:Cl},Rch g v u→v ∈ t::S1→u ∈ t::S1∨(u ∈ s.D∧u ∉ s.S):=fun {v u} hr=>by
  induction hr with
  | refl a=>exact fun h1=>.inl h1
  | step e1 e2 e3 ih =>
   intro h1
   rcases clT h1 e1 e2 with h2|⟨h2,h3⟩
   ·exact ih h2
   ·exact .inr (rD e3 h2 h3)
 have toT:∀ (n:Nat) {v:Cl},v ∈ t::S1→num s.D v≤n→Rch g v t:=fun n=>by
  induction n with
  | zero =>
   intro v hv hn
   have:=num_pos.2 (h.inD (i1 hv))
   omega
  | succ n ih =>
   intro v hv hn
   rcases List.mem_cons.1 hv with rfl|h1
   ·exact .refl _
   ·obtain ⟨u,hu,h2,h3⟩:=h.bk v (i1 hv) (n1 h1)
    rcases rT h3 hv with h4|⟨_,h4⟩
    ·exact h3.trans (ih h4 (by omega))
    ·exact absurd hu h4
 have frT:∀ {v:Cl},v ∈ t::S1→Rch g t v:=fun {v} hv=>h.fr t htF v (i1 hv) (l1 hv)
 have hpart:Part g part:=⟨fun e=>(by have:=(hpm t).2 (by simp);rw[e] at this;cases this),fun c hc v=>by
  rw[hpm] at hc ⊢
  constructor
  ·intro hv
   exact ⟨(toT _ hc (Nat.le_refl _)).trans (frT hv),(toT _ hv (Nat.le_refl _)).trans (frT hc)⟩
  ·rintro ⟨h1,h2⟩
   rcases rT h1 hc with h3|⟨h3,h4⟩
   ·exact h3
   ·exact absurd (i1 hc) (rD h2 h3 h4).2⟩
 have hprF:∀ {v w:Cl},v ∈ S0→Prc g F0 v w→Prc g s.F v w:=fun {v w} _ hp=>by
  rw[hF]
  exact prc_back ht hk hp
 refine ⟨h.dn,h.dh,?_,?_,?_,fun v hv w hw hh=>h.pd v (i0 hv) w (hprF hv hw) hh,?_,?_,?_,fun f hf v hv hfv=>h.fr f (hsub hf) v (i0 hv) hfv,?_,?_,?_,?_,fun p hp=>?_⟩
 ·refine List.Sublist.trans ?_ h.sd
  rw[hS]
  exact List.sublist_append_left _ _
 ·have h1:(F0.map (·.1)).Sublist s.S:=by
   have:=h.fs
   rw[hF,List.map_append] at this
   exact (List.sublist_append_left _ _).trans this
  have h2:=h1.filter fun c=>decide (num s.D c<num s.D t)
  rw[List.filter_eq_self.2 fun a ha=>decide_eq_true (hlf ha),hS,List.filter_append,List.filter_eq_self.2 fun a ha=>decide_eq_true (l0 ha),List.filter_eq_nil_iff.2 fun a ha=>by have:=l1 ha;simp;omega,List.append_nil] at h2
  exact h2
 ·intro f hf
  obtain ⟨h1,u,hu,h2,h3⟩:=h.lo f (hsub hf)
  show low f≤_∧∃ u ∈ S0,num s.D u=low f∧Rch g f u
  rw[hlow f hf]
  refine ⟨h1,u,?_,h2,h3⟩
  rcases m0 hu with ⟨h4,_⟩|⟨_,h4⟩
  ·exact h4
  ·have:=hlf hf;omega
 ·intro v hv hvS w hw hh
  by_cases hvS':v ∈ s.S
  ·rcases m0 hvS' with ⟨h1,_⟩|⟨h1,_⟩
   ·exact absurd h1 hvS
   ·rcases clT h1 hw hh with h2|⟨h2,h3⟩
    ·exact ⟨h.inD (i1 h2),dis h2⟩
    ·exact ⟨h2,fun h4=>h3 (i0 h4)⟩
  ·obtain ⟨h2,h3⟩:=h.cl v hv hvS' w hw hh
   exact ⟨h2,fun h4=>h3 (i0 h4)⟩
 ·intro f hf v hv hfv w hw hp
  obtain ⟨a,ha,h1,h2⟩:=h.pl f (hsub hf) v (i0 hv) hfv w (i0 hw) (hprF hv hp)
  rcases hcase ha with h3|rfl
  ·exact ⟨a,h3,h1,by show low a≤_;rw[hlow a h3];exact h2⟩
  ·rw[hlt] at h2
   have:=l0 hw
   omega
 ·intro v hv hvF
  obtain ⟨u,hu,h1,h2⟩:=h.bk v (i0 hv) fun hh=>(hcase hh).elim hvF fun e=>by have:=l0 hv;rw[e] at this;omega
  refine ⟨u,?_,h1,h2⟩
  rcases m0 hu with ⟨h3,_⟩|⟨_,h3⟩
  ·exact h3
  ·have:=l0 hv;omega
 ·intro v hv
  obtain ⟨f,hf,h1⟩:=h.bt v (i0 hv)
  rcases hcase hf with h2|rfl
  ·exact ⟨f,h2,h1⟩
  ·have:=l0 hv;omega
 ·intro p hp
  rcases List.mem_append.1 hp with h1|h1
  ·obtain ⟨h2,h3⟩:=h.ps p h1
   exact ⟨h2,fun c hc=>⟨(h3 c hc).1,fun hh=>(h3 c hc).2 (i0 hh)⟩⟩
  ·obtain rfl:=List.mem_singleton.1 h1
   exact ⟨hpart,fun c hc=>by rw[hpm] at hc;exact ⟨h.inD (i1 hc),dis hc⟩⟩
 ·intro c hc hcS
  by_cases hcS':c ∈ s.S
  ·rcases m0 hcS' with ⟨h1,_⟩|⟨h1,_⟩
   ·exact absurd h1 hcS
   ·exact ⟨part,by simp,(hpm c).2 h1⟩
  ·obtain ⟨p,hp,h1⟩:=h.pc c hc hcS'
   exact ⟨p,List.mem_append_left _ hp,h1⟩
 ·refine List.pairwise_append.2 ⟨h.pp,by simp,fun p hp q hq c hc=>?_⟩
  obtain rfl:=List.mem_singleton.1 hq
  rw[hpm]
  exact fun hh=>((h.ps p hp).2 c hc).2 (i1 hh)
 ·rcases List.mem_append.1 hp with h1|h1
  ·exact h.pn p h1
  ·obtain rfl:=List.mem_singleton.1 h1
   exact hpl
end
end Go.Proofs.YtaheflnnigocgaaGreatDoor
end
