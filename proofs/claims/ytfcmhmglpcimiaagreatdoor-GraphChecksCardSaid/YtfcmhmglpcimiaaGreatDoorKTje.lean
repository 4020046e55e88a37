/- Proved: a part of what the law is proved with (the reckoner, contracts of functions, plain laws). Conditions: as each says. -/
import Derived.Test.YtfcmhmglpcimiaaGreatDoorKTja
namespace Go.Proofs.YtfcmhmglpcimiaaGreatDoor
set_option maxRecDepth 100000
section
section
variable {g:Gr} {s:TS}
theorem inv_0 (low:Cl→Nat):Inv g ⟨[],[],[],[],low⟩:=by
 constructor <;> simp
theorem Inv.none (h:Inv g s) (hF:s.F=[]):s.S=[]:=by
 cases hS:s.S with
 | nil=>rfl
 | cons a l =>
  obtain ⟨f,hf,_⟩:=h.bt a (by rw[hS];simp)
  rw[hF] at hf
  cases hf
theorem Inv.first (h:Inv g s) (hF:s.F=[]) {x:Cl} (hh:g.has x=true) (hn:x ∉ s.D):Inv g { s with D:=s.D++[x],S:=[x],F:=[(x,0)],low:=fun c=>if c=x then s.D.length+1 else s.low c }:=by
 have hS:=h.none hF
 have nx:num (s.D++[x]) x=s.D.length+1:=num_new hn
 have hp0:∀ {w:Cl},¬ Prc g [(x,0)] x w:=fun {w} hp=>by
  rcases hp with ⟨j,hj,hw⟩|⟨hj,_⟩
  ·obtain rfl:j=0:=by simpa using hj
   cases hw
  ·exact hj 0 (by simp)
 refine ⟨?_,?_,?_,?_,?_,?_,?_,?_,?_,?_,?_,?_,?_,h.pp,h.pn⟩
 ·exact List.nodup_append.2 ⟨h.dn,by simp,fun a ha b hb=>by obtain rfl:=List.mem_singleton.1 hb;exact fun e=>hn (e ▸ ha)⟩
 ·intro c hc
  rcases List.mem_append.1 hc with h1|h1
  ·exact h.dh c h1
  ·obtain rfl:=List.mem_singleton.1 h1;exact hh
 ·exact List.sublist_append_right _ _
 ·exact List.Sublist.refl _
 ·intro f hf
  obtain rfl:f=x:=by simpa using hf
  show (if f=f then s.D.length+1 else s.low f)≤num (s.D++[f]) f∧∃ u ∈ [f],num (s.D++[f]) u=(if f=f then s.D.length+1 else s.low f)∧Rch g f u
  rw[if_pos rfl,nx]
  exact ⟨Nat.le_refl _,f,by simp,nx,.refl f⟩
 ·intro v hv w hw
  obtain rfl:=List.mem_singleton.1 hv
  exact absurd hw hp0
 ·intro v hv hvS w hw hwh
  have hvx:v≠x:=fun e=>hvS (by rw[e];simp)
  have hvD:v ∈ s.D:=by simpa[hvx] using hv
  obtain ⟨h1,h2⟩:=h.cl v hvD (by rw[hS];simp) w hw hwh
  refine ⟨List.mem_append_left _ h1,fun hh=>?_⟩
  obtain rfl:=List.mem_singleton.1 hh
  exact hn h1
 ·intro f hf v hv hfv w hw hp
  obtain rfl:=List.mem_singleton.1 hv
  exact absurd hp hp0
 ·intro v hv hvF
  obtain rfl:=List.mem_singleton.1 hv
  exact absurd (by simp) hvF
 ·intro f hf v hv _
  obtain rfl:=List.mem_singleton.1 hv
  obtain rfl:f=v:=by simpa using hf
  exact .refl _
 ·intro v hv
  obtain rfl:=List.mem_singleton.1 hv
  exact ⟨v,by simp,Nat.le_refl _⟩
 ·intro p hp
  obtain ⟨h1,h2⟩:=h.ps p hp
  refine ⟨h1,fun c hc=>?_⟩
  obtain ⟨h3,_⟩:=h2 c hc
  refine ⟨List.mem_append_left _ h3,fun hh=>?_⟩
  obtain rfl:=List.mem_singleton.1 hh
  exact hn h3
 ·intro c hc hcS
  have hcx:c≠x:=fun e=>hcS (by rw[e];simp)
  exact h.pc c (by simpa[hcx] using hc) (by rw[hS];simp)
theorem Inv.alone (h:Inv g s) {t:Cl} {k:Nat} (hF:s.F=[(t,k)]):¬ s.low t<num s.D t:=fun hl=>by
 obtain ⟨_,u,hu,h1,_⟩:=h.lo t (by rw[hF];simp)
 obtain ⟨f,hf,h2⟩:=h.bt u hu
 rw[hF] at hf
 obtain rfl:f=t:=by simpa using hf
 omega
theorem Inv.back (h:Inv g s) {F1:List (Cl×Nat)} {p t:Cl} {j k:Nat} (hF:s.F=F1++[(p,j)]++[(t,k)]) (hk:(g.on t).length≤k) (hl:s.low t<num s.D t):Inv g { s with F:=F1++[(p,j)],low:=fun c=>if c=p then min (s.low p) (s.low t) else s.low c }:=by
 have ht:=h.front hF
 have htF:t ∈ s.F.map (·.1):=by rw[hF];simp
 have hpF:p ∈ s.F.map (·.1):=by rw[hF];simp
 have hpt:p≠t:=fun e=>ht (by rw[← e];simp)
 have hsub:∀ {f},f ∈ (F1++[(p,j)]).map (·.1)→f ∈ s.F.map (·.1):=fun {f} hf=>by rw[hF,List.map_append];exact List.mem_append_left _ hf
 have hcase:∀ {f},f ∈ s.F.map (·.1)→f ∈ (F1++[(p,j)]).map (·.1)∨f=t:=fun {f} hf=>by
  rw[hF,List.map_append] at hf
  rcases List.mem_append.1 hf with h1|h1
  ·exact .inl h1
  ·exact .inr (by simpa using h1)
 have hfp:∀ {f},f ∈ (F1++[(p,j)]).map (·.1)→num s.D f≤num s.D p:=fun {f} hf=>by
  have hs:(s.F.map (·.1)).Pairwise fun a b=>num s.D a<num s.D b:=(num_sorted h.dn).sublist (h.fs.trans h.sd)
  rw[hF,List.map_append,List.map_append] at hs
  rw[List.map_append] at hf
  rcases List.mem_append.1 hf with h1|h1
  ·exact Nat.le_of_lt ((List.pairwise_append.1 (List.pairwise_append.1 hs).1).2.2 f h1 p (by simp))
  ·obtain rfl:f=p:=by simpa using h1
   exact Nat.le_refl _
 have hpt2:num s.D p≤num s.D t:=(h.top hF hpF).1
 have hrpt:Rch g p t:=h.fr p hpF t (h.inS htF) hpt2
 have hle:∀ c,(if c=p then min (s.low p) (s.low t) else s.low c)≤s.low c:=fun c=>by
  by_cases hc:c=p
  ·subst hc;rw[if_pos rfl];exact Nat.min_le_left _ _
  ·rw[if_neg hc];exact Nat.le_refl _
 have hpr:∀ {v w:Cl},Prc g (F1++[(p,j)]) v w→Prc g s.F v w:=fun {v w} hp=>by
  rw[hF]
  exact prc_back ht hk hp
 refine ⟨h.dn,h.dh,h.sd,?_,?_,fun v hv w hw hh=>h.pd v hv w (hpr hw) hh,h.cl,?_,?_,fun f hf v hv hfv=>h.fr f (hsub hf) v hv hfv,?_,h.ps,h.pc,h.pp,h.pn⟩
 ·have:=h.fs
  rw[hF,List.map_append] at this
  exact (List.sublist_append_left _ _).trans this
 ·intro f hf
  obtain ⟨h1,u,hu,h2,h3⟩:=h.lo f (hsub hf)
  refine ⟨Nat.le_trans (hle f) h1,?_⟩
  show ∃ u ∈ s.S,num s.D u=(if f=p then min (s.low p) (s.low t) else s.low f)∧Rch g f u
  by_cases hfp:f=p
  ·subst hfp
   rw[if_pos rfl]
   by_cases hlt:s.low f≤s.low t
   ·exact ⟨u,hu,by rw[Nat.min_eq_left hlt];exact h2,h3⟩
   ·obtain ⟨_,u',hu',h4,h5⟩:=h.lo t htF
    exact ⟨u',hu',by rw[Nat.min_eq_right (by omega)];exact h4,hrpt.trans h5⟩
  ·rw[if_neg hfp]
   exact ⟨u,hu,h2,h3⟩
 ·intro f hf v hv hfv w hw hp
  obtain ⟨a,ha,h1,h2⟩:=h.pl f (hsub hf) v hv hfv w hw (hpr hp)
  rcases hcase ha with h3|rfl
  ·exact ⟨a,h3,h1,Nat.le_trans (hle a) h2⟩
  ·refine ⟨p,by simp,hfp hf,?_⟩
   show (if p=p then min (s.low p) (s.low a) else s.low p)≤_
   rw[if_pos rfl]
   exact Nat.le_trans (Nat.min_le_right _ _) h2
 ·intro v hv hvF
  by_cases hvt:v=t
  ·subst hvt
   obtain ⟨_,u,hu,h2,h3⟩:=h.lo v htF
   exact ⟨u,hu,by rw[h2];exact hl,h3⟩
  ·exact h.bk v hv fun hh=>(hcase hh).elim hvF hvt
 ·intro v hv
  obtain ⟨f,hf,h1⟩:=h.bt v hv
  rcases hcase hf with h2|rfl
  ·exact ⟨f,h2,h1⟩
  ·exact ⟨p,by simp,Nat.le_trans hpt2 h1⟩
theorem Inv.part (h:Inv g s) {F0:List (Cl×Nat)} {t:Cl} {k:Nat} (hF:s.F=F0++[(t,k)]) (hk:(g.on t).length≤k) (hl:¬ s.low t<num s.D t) {S0 S1:List Cl} (hS:s.S=S0++t::S1) {part:List Cl} (hpm:∀ c,c ∈ part↔c ∈ t::S1) (hpl:part.Pairwise les) {low:Cl→Nat} (hlow:∀ f ∈ F0.map (·.1),low f=s.low f) :
 Inv g { s with S:=S0,F:=F0,P:=s.P++[part],low:=low }:=by
 have ht:=h.front hF
 have htF:t ∈ s.F.map (·.1):=by rw[hF];simp
 have hts:t ∈ s.S:=h.inS htF
 have hlt:s.low t=num s.D t:=Nat.le_antisymm (h.lo t htF).1 (Nat.le_of_not_lt hl)
 have hsub:∀ {f},f ∈ F0.map (·.1)→f ∈ s.F.map (·.1):=fun {f} hf=>by rw[hF,List.map_append];exact List.mem_append_left _ hf
 have hcase:∀ {f},f ∈ s.F.map (·.1)→f ∈ F0.map (·.1)∨f=t:=fun {f} hf=>by
  rw[hF,List.map_append] at hf
  rcases List.mem_append.1 hf with h1|h1
  ·exact .inl h1
  ·exact .inr (by simpa using h1)
 have hlf:∀ {f},f ∈ F0.map (·.1)→num s.D f<num s.D t:=fun {f} hf=>((h.top hF (hsub hf)).2 fun e=>ht (e ▸ hf)).2
 have hss:s.S.Pairwise fun a b=>num s.D a<num s.D b:=(num_sorted h.dn).sublist h.sd
 rw[hS] at hss
 obtain ⟨hs0,hs1,hs2⟩:=List.pairwise_append.1 hss
 have hs3:=(List.pairwise_cons.1 hs1).1
 have m0:∀ {c},c ∈ s.S→(c ∈ S0∧num s.D c<num s.D t)∨(c ∈ t::S1∧num s.D t≤num s.D c):=fun {c} hc=>by
  rw[hS] at hc
  rcases List.mem_append.1 hc with h1|h1
  ·exact .inl ⟨h1,hs2 c h1 t (by simp)⟩
  ·refine .inr ⟨h1,?_⟩
   rcases List.mem_cons.1 h1 with rfl|h2
   ·exact Nat.le_refl _
   ·exact Nat.le_of_lt (hs3 c h2)
 have i0:∀ {c},c ∈ S0→c ∈ s.S:=fun hc=>by rw[hS];exact List.mem_append_left _ hc
 have i1:∀ {c},c ∈ t::S1→c ∈ s.S:=fun hc=>by rw[hS];exact List.mem_append_right _ hc
 have l0:∀ {c},c ∈ S0→num s.D c<num s.D t:=fun hc=>hs2 _ hc t (by simp)
 have l1:∀ {c},c ∈ t::S1→num s.D t≤num s.D c:=fun {c} hc=>by
  rcases List.mem_cons.1 hc with rfl|h2
  ·exact Nat.le_refl _
  ·exact Nat.le_of_lt (hs3 c h2)
 have dis:∀ {c},c ∈ t::S1→c ∉ S0:=fun h1 h2=>by have:=l0 h2;have:=l1 h1;omega
 have n1:∀ {c},c ∈ S1→c ∉ s.F.map (·.1):=fun {c} hc hf=>by
  have h1:=(h.top hF hf).1
  have:=hs3 c hc
  omega
 -- all links of the part are looked at
 have hprT:∀ {v w:Cl},v ∈ t::S1→w ∈ g.on v→Prc g s.F v w:=fun {v w} hv hw=>by
  rcases List.mem_cons.1 hv with rfl|h1
  ·exact .inl ⟨k,by rw[hF];simp,by rw[List.take_of_length_le hk];exact hw⟩
  ·exact .inr ⟨fun j hj=>n1 h1 (List.mem_map.2 ⟨_,hj,rfl⟩),hw⟩
 have clT:∀ {v w:Cl},v ∈ t::S1→w ∈ g.on v→g.has w=true→w ∈ t::S1∨(w ∈ s.D∧w ∉ s.S):=fun {v w} hv hw hh=>by
  have hp:=hprT hv hw
  by_cases hwS:w ∈ s.S
  ·obtain ⟨a,ha,h1,h2⟩:=h.pl t htF v (i1 hv) (l1 hv) w hwS hp
   have:a=t:=by
    rcases hcase ha with h3|h3
    ·have:=hlf h3;omega
    ·exact h3
   subst this
   rw[hlt] at h2
   rcases m0 hwS with ⟨_,h3⟩|⟨h3,_⟩
   ·omega
   ·exact .inl h3
  ·exact .inr ⟨h.pd v (i1 hv) w hp hh,hwS⟩
 have rD:∀ {v u:Cl},Rch g v u→v ∈ s.D→v ∉ s.S→u ∈ s.D∧u ∉ s.S:=fun {v u} hr=>by
  induction hr with
  | refl a=>exact fun h1 h2=>⟨h1,h2⟩
  | step e1 e2 _ ih =>
   intro h1 h2
   obtain ⟨h3,h4⟩:=h.cl _ h1 h2 _ e1 e2
   exact ih h3 h4
 have rT:∀ {v u:Cl},Rch g v u→v ∈ t::S1→u ∈ t::S1∨(u ∈ s.D∧u ∉ s.S):=fun {v u} hr=>by
  induction hr with
  | refl a=>exact fun h1=>.inl h1
  | step e1 e2 e3 ih =>
   intro h1
   rcases clT h1 e1 e2 with h2|⟨h2,h3⟩
   ·exact ih h2
   ·exact .inr (rD e3 h2 h3)
 have toT:∀ (n:Nat) {v:Cl},v ∈ t::S1→num s.D v≤n→Rch g v t:=fun n=>by
  induction n with
  | zero =>
   intro v hv hn
   have:=num_pos.2 (h.inD (i1 hv))
   omega
  | succ n ih =>
   intro v hv hn
   rcases List.mem_cons.1 hv with rfl|h1
   ·exact .refl _
   ·obtain ⟨u,hu,h2,h3⟩:=h.bk v (i1 hv) (n1 h1)
    rcases rT h3 hv with h4|⟨_,h4⟩
    ·exact h3.trans (ih h4 (by omega))
    ·exact absurd hu h4
 have frT:∀ {v:Cl},v ∈ t::S1→Rch g t v:=fun {v} hv=>h.fr t htF v (i1 hv) (l1 hv)
 have hpart:Part g part:=⟨fun e=>(by have:=(hpm t).2 (by simp);rw[e] at this;cases this),fun c hc v=>by
  rw[hpm] at hc ⊢
  constructor
  ·intro hv
   exact ⟨(toT _ hc (Nat.le_refl _)).trans (frT hv),(toT _ hv (Nat.le_refl _)).trans (frT hc)⟩
  ·rintro ⟨h1,h2⟩
   rcases rT h1 hc with h3|⟨h3,h4⟩
   ·exact h3
   ·exact absurd (i1 hc) (rD h2 h3 h4).2⟩
 have hprF:∀ {v w:Cl},v ∈ S0→Prc g F0 v w→Prc g s.F v w:=fun {v w} _ hp=>by
  rw[hF]
  exact prc_back ht hk hp
 refine ⟨h.dn,h.dh,?_,?_,?_,fun v hv w hw hh=>h.pd v (i0 hv) w (hprF hv hw) hh,?_,?_,?_,fun f hf v hv hfv=>h.fr f (hsub hf) v (i0 hv) hfv,?_,?_,?_,?_,fun p hp=>?_⟩
 ·refine List.Sublist.trans ?_ h.sd
  rw[hS]
  exact List.sublist_append_left _ _
 ·have h1:(F0.map (·.1)).Sublist s.S:=by
   have:=h.fs
   rw[hF,List.map_append] at this
   exact (List.sublist_append_left _ _).trans this
  have h2:=h1.filter fun c=>decide (num s.D c<num s.D t)
  rw[List.filter_eq_self.2 fun a ha=>decide_eq_true (hlf ha),hS,List.filter_append,List.filter_eq_self.2 fun a ha=>decide_eq_true (l0 ha),List.filter_eq_nil_iff.2 fun a ha=>by have:=l1 ha;simp;omega,List.append_nil] at h2
  exact h2
 ·intro f hf
  obtain ⟨h1,u,hu,h2,h3⟩:=h.lo f (hsub hf)
  show low f≤_∧∃ u ∈ S0,num s.D u=low f∧Rch g f u
  rw[hlow f hf]
  refine ⟨h1,u,?_,h2,h3⟩
  rcases m0 hu with ⟨h4,_⟩|⟨_,h4⟩
  ·exact h4
  ·have:=hlf hf;omega
 ·intro v hv hvS w hw hh
  by_cases hvS':v ∈ s.S
  ·rcases m0 hvS' with ⟨h1,_⟩|⟨h1,_⟩
   ·exact absurd h1 hvS
   ·rcases clT h1 hw hh with h2|⟨h2,h3⟩
    ·exact ⟨h.inD (i1 h2),dis h2⟩
    ·exact ⟨h2,fun h4=>h3 (i0 h4)⟩
  ·obtain ⟨h2,h3⟩:=h.cl v hv hvS' w hw hh
   exact ⟨h2,fun h4=>h3 (i0 h4)⟩
 ·intro f hf v hv hfv w hw hp
  obtain ⟨a,ha,h1,h2⟩:=h.pl f (hsub hf) v (i0 hv) hfv w (i0 hw) (hprF hv hp)
  rcases hcase ha with h3|rfl
  ·exact ⟨a,h3,h1,by show low a≤_;rw[hlow a h3];exact h2⟩
  ·rw[hlt] at h2
   have:=l0 hw
   omega
 ·intro v hv hvF
  obtain ⟨u,hu,h1,h2⟩:=h.bk v (i0 hv) fun hh=>(hcase hh).elim hvF fun e=>by have:=l0 hv;rw[e] at this;omega
  refine ⟨u,?_,h1,h2⟩
  rcases m0 hu with ⟨h3,_⟩|⟨_,h3⟩
  ·exact h3
  ·have:=l0 hv;omega
 ·intro v hv
  obtain ⟨f,hf,h1⟩:=h.bt v (i0 hv)
  rcases hcase hf with h2|rfl
  ·exact ⟨f,h2,h1⟩
  ·have:=l0 hv;omega
 ·intro p hp
  rcases List.mem_append.1 hp with h1|h1
  ·obtain ⟨h2,h3⟩:=h.ps p h1
   exact ⟨h2,fun c hc=>⟨(h3 c hc).1,fun hh=>(h3 c hc).2 (i0 hh)⟩⟩
  ·obtain rfl:=List.mem_singleton.1 h1
   exact ⟨hpart,fun c hc=>by rw[hpm] at hc;exact ⟨h.inD (i1 hc),dis hc⟩⟩
 ·intro c hc hcS
  by_cases hcS':c ∈ s.S
  ·rcases m0 hcS' with ⟨h1,_⟩|⟨h1,_⟩
   ·exact absurd h1 hcS
   ·exact ⟨part,by simp,(hpm c).2 h1⟩
  ·obtain ⟨p,hp,h1⟩:=h.pc c hc hcS'
   exact ⟨p,List.mem_append_left _ hp,h1⟩
 ·refine List.pairwise_append.2 ⟨h.pp,by simp,fun p hp q hq c hc=>?_⟩
  obtain rfl:=List.mem_singleton.1 hq
  rw[hpm]
  exact fun hh=>((h.ps p hp).2 c hc).2 (i1 hh)
 ·rcases List.mem_append.1 hp with h1|h1
  ·exact h.pn p h1
  ·obtain rfl:=List.mem_singleton.1 h1
   exact hpl
end
end
section
theorem nodup_len:∀ {K p:List Cl},K.Nodup→(∀ x ∈ K,x ∈ p)→K.length≤p.length
 | [],_,_,_=>Nat.zero_le _
 | a::K,p,hn,hs=>by
  obtain ⟨h1,h2⟩:=List.nodup_cons.1 hn
  have ha:=hs a (by simp)
  have:=nodup_len (K:=K) (p:=p.erase a) h2 fun x hx=>(List.mem_erase_of_ne fun (e:x=a)=>h1 (e ▸ hx)).2 (hs x (by simp[hx]))
  rw[List.length_erase_of_mem ha] at this
  have:=List.length_pos_of_mem ha
  simp only[List.length_cons]
  omega
theorem map_upd {α:Type} {D:List Cl} (hD:D.Nodup) {c:Cl} (hc:c ∈ D) (f:Cl→α) (v:α):(D.map f).set (D.idxOf c) v=D.map fun x=>if x=c then v else f x:=by
 have hi:=List.idxOf_lt_length_iff.2 hc
 apply List.ext_getElem
 ·simp
 intro i h1 h2
 rw[List.length_map] at h2
 rw[List.getElem_set,List.getElem_map,List.getElem_map]
 by_cases he:D.idxOf c=i
 ·subst he
  rw[if_pos rfl,if_pos (List.getElem_idxOf hi)]
 ·rw[if_neg he,if_neg]
  intro h
  apply he
  rw[← h]
  exact List.Nodup.idxOf_getElem hD i h2
theorem get_key {α:Type} {D:List Cl} {c:Cl} (hc:c ∈ D) (f:Cl→α):(D.map f)[D.idxOf c]?=some (f c):=by
 have hi:=List.idxOf_lt_length_iff.2 hc
 rw[List.getElem?_map,List.getElem?_eq_getElem hi,List.getElem_idxOf hi]
 rfl
theorem map_new {α:Type} {D:List Cl} {c:Cl} (hc:c ∉ D) (f:Cl→α) (v:α):(D++[c]).map (fun x=>if x=c then v else f x)=D.map f++[v]:=by
 rw[List.map_append]
 congr 1
 ·exact List.map_congr_left fun x hx=>if_neg fun (e:x=c)=>hc (e ▸ hx)
 ·simp
def undo (g:Gr) (D:List Cl) (c:Cl):Nat:=if c ∈ D then 0 else (g.on c).length+2
def todoF (g:Gr) (f:Cl×Nat):Nat:=(g.on f.1).length - f.2+1
def todo (g:Gr) (V:List Cl) (s:TS):Nat:=(V.map (undo g s.D)).sum+(s.F.map (todoF g)).sum
theorem sum_le {α:Type} {f h:α→Nat}:∀ {l:List α},(∀ x ∈ l,f x≤h x)→(l.map f).sum≤(l.map h).sum
 | [],_=>Nat.le_refl _
 | a::l,k=>by
  have h1:=k a (by simp)
  have h2:=sum_le (l:=l) fun x hx=>k x (by simp[hx])
  simp only[List.map_cons,List.sum_cons]
  omega
theorem sum_one {α:Type} {f h:α→Nat} {x:α} {d:Nat}:∀ {l:List α},x ∈ l→f x+d≤h x→(∀ y ∈ l,f y≤h y)→(l.map f).sum+d≤(l.map h).sum
 | a::l,hx,hd,k=>by
  simp only[List.map_cons,List.sum_cons]
  rcases List.mem_cons.1 hx with rfl|hx
  ·have:=sum_le (l:=l) fun y hy=>k y (by simp[hy])
   omega
  ·have:=sum_one hx hd fun y hy=>k y (by simp[hy])
   have:=k a (by simp)
   omega
theorem undo_le (g:Gr) (D:List Cl) (x c:Cl):undo g (D++[x]) c≤undo g D c:=by
 unfold undo
 by_cases h:c ∈ D
 ·rw[if_pos h,if_pos (List.mem_append_left _ h)];exact Nat.le_refl _
 ·rw[if_neg h]
  split
  ·exact Nat.zero_le _
  ·exact Nat.le_refl _
theorem todo_enter {g:Gr} {V:List Cl} {s:TS} {x:Cl} (hx:x ∈ V) (hn:x ∉ s.D):(V.map (undo g (s.D++[x]))).sum+((g.on x).length+2)≤(V.map (undo g s.D)).sum:=by
 refine sum_one hx ?_ fun y _=>undo_le g s.D x y
 unfold undo
 rw[if_pos (by simp),if_neg hn]
 omega
theorem todo_app (g:Gr) (F0:List (Cl×Nat)) (t:Cl) (k:Nat):((F0++[(t,k)]).map (todoF g)).sum=(F0.map (todoF g)).sum+((g.on t).length - k+1):=by
 rw[List.map_append,List.sum_append]
 rfl
theorem todo_step (g:Gr) (V:List Cl) (s:TS) (F0:List (Cl×Nat)) (t:Cl) (k:Nat) (hF:s.F=F0++[(t,k)]) (hk:k<(g.on t).length) (low:Cl→Nat):todo g V ⟨s.D,s.S,F0++[(t,k+1)],s.P,low⟩<todo g V s:=by
 unfold todo
 rw[hF,todo_app,todo_app]
 simp only
 omega
theorem todo_more (g:Gr) (V:List Cl) (s:TS) (F0:List (Cl×Nat)) (t x:Cl) (k:Nat) (hF:s.F=F0++[(t,k)]) (hk:k<(g.on t).length) (hx:x ∈ V) (hn:x ∉ s.D) (S:List Cl) (low:Cl→Nat):todo g V ⟨s.D++[x],S,F0++[(t,k+1)]++[(x,0)],s.P,low⟩<todo g V s:=by
 have h1:=todo_enter (g:=g) hx hn
 unfold todo
 rw[hF,todo_app,todo_app,todo_app]
 simp only
 omega
theorem todo_back (g:Gr) (V:List Cl) (s:TS) (F0:List (Cl×Nat)) (t:Cl) (k:Nat) (hF:s.F=F0++[(t,k)]) (S:List Cl) (P:List (List Cl)) (low:Cl→Nat):todo g V ⟨s.D,S,F0,P,low⟩<todo g V s:=by
 unfold todo
 rw[hF,todo_app]
 simp only
 omega
theorem len_parts {g:Gr} {s:TS} (h:Inv g s):s.P.length≤s.D.length:=by
 have hd:∀ p ∈ s.P,∃ c,c ∈ p:=fun p hp=>List.exists_mem_of_ne_nil p (h.ps p hp).1.ne
 have key:∀ P:List (List Cl),P.Pairwise (fun p q=>∀ c ∈ p,c ∉ q)→(∀ p ∈ P,(∃ c,c ∈ p)∧∀ c ∈ p,c ∈ s.D)→∃ H:List Cl,H.length=P.length∧H.Nodup∧∀ c ∈ H,c ∈ s.D∧∃ p ∈ P,c ∈ p:=fun P=>by
  induction P with
  | nil=>exact fun _ _=>⟨[],rfl,List.nodup_nil,fun c hc=>nomatch hc⟩
  | cons p P ih =>
   intro h1 h2
   obtain ⟨h3,h4⟩:=List.pairwise_cons.1 h1
   obtain ⟨H,g1,g2,g3⟩:=ih h4 fun q hq=>h2 q (by simp[hq])
   obtain ⟨⟨c,hc⟩,hcD⟩:=h2 p (by simp)
   refine ⟨c::H,by simp[g1],List.nodup_cons.2 ⟨fun hcH=>?_,g2⟩,fun d hd=>?_⟩
   ·obtain ⟨_,q,hq,hcq⟩:=g3 c hcH
    exact h3 q hq c hc hcq
   ·rcases List.mem_cons.1 hd with rfl|hd
    ·exact ⟨hcD d hc,p,by simp,hc⟩
    ·obtain ⟨g4,q,hq,g5⟩:=g3 d hd
     exact ⟨g4,q,by simp[hq],g5⟩
 obtain ⟨H,g1,g2,g3⟩:=key s.P h.pp fun p hp=>⟨hd p hp,fun c hc=>((h.ps p hp).2 c hc).1⟩
 rw[← g1]
 exact nodup_len g2 fun c hc=>(g3 c hc).1
structure Parts (g:Gr) (V:List Cl) (P:List (List Cl)):Prop where
 part:∀ p ∈ P,Part g p
 sub:∀ p ∈ P,∀ c ∈ p,g.has c=true
 all:∀ c ∈ V,∃ p ∈ P,c ∈ p
 two:P.Pairwise fun p q=>∀ c ∈ p,c ∉ q
 up:∀ p ∈ P,p.Pairwise les
theorem Inv.done {g:Gr} {s:TS} (h:Inv g s) (hF:s.F=[]) {V:List Cl} (hV:∀ c ∈ V,c ∈ s.D):Parts g V s.P:=by
 have hS:=h.none hF
 exact ⟨fun p hp=>(h.ps p hp).1,fun p hp c hc=>h.dh c ((h.ps p hp).2 c hc).1,fun c hc=>h.pc c (hV c hc) (by rw[hS];simp),h.pp,h.pn⟩
theorem Parts.perm {g:Gr} {V:List Cl} {P Q:List (List Cl)} (h:Parts g V P) (hp:Q.Perm P):Parts g V Q :=
 ⟨fun p hq=>h.part p (hp.mem_iff.1 hq),fun p hq=>h.sub p (hp.mem_iff.1 hq),fun c hc=>by
  obtain ⟨p,h1,h2⟩:=h.all c hc
  exact ⟨p,hp.mem_iff.2 h1,h2⟩,(hp.pairwise_iff fun {a b} hab c hc hca=>hab c hca hc).2 h.two,fun p hq=>h.up p (hp.mem_iff.1 hq)⟩
theorem les_irr (a:Cl):¬ les a a:=by unfold les;omega
theorem les_asym {a b:Cl} (h:les a b) (k:les b a):False:=by unfold les at *;omega
theorem les_tri (a b:Cl):les a b∨a=b∨les b a:=by
 obtain ⟨a1,a2⟩:=a
 obtain ⟨b1,b2⟩:=b
 unfold les
 simp only[Prod.mk.injEq]
 omega
theorem les_ext:∀ {l m:List Cl},l.Pairwise les→m.Pairwise les→(∀ p,p ∈ l↔p ∈ m)→l=m
 | [],[],_,_,_=>rfl
 | [],q::m,_,_,h=>by have:=(h q).2 (by simp);cases this
 | p::l,[],_,_,h=>by have:=(h p).1 (by simp);cases this
 | p::l,q::m,h1,h2,h=>by
  obtain ⟨a1,a2⟩:=List.pairwise_cons.1 h1
  obtain ⟨b1,b2⟩:=List.pairwise_cons.1 h2
  have hpq:p=q:=by
   rcases List.mem_cons.1 ((h p).1 (by simp)) with e|hp
   ·exact e
   ·rcases List.mem_cons.1 ((h q).2 (by simp)) with e|hq
    ·exact e.symm
    ·exact (les_asym (a1 q hq) (b1 p hp)).elim
  subst hpq
  refine congrArg (List.cons p) (les_ext a2 b2 fun x=>⟨fun hx=>?_,fun hx=>?_⟩)
  ·rcases List.mem_cons.1 ((h x).1 (by simp[hx])) with e|hm
   ·exact (les_irr p (by have:=a1 x hx;rwa [e] at this)).elim
   ·exact hm
  ·rcases List.mem_cons.1 ((h x).2 (by simp[hx])) with e|hm
   ·exact (les_irr p (by have:=b1 x hx;rwa [e] at this)).elim
   ·exact hm
def headLes (p q:List Cl):Prop:=∀ a b,p.head?=some a→q.head?=some b→les a b
structure Row (g:Gr) (V:List Cl) (Q:List (List Cl)):Prop where
 ps:Parts g V Q
 row:Q.Pairwise headLes
theorem Part.eq {g:Gr} {p q:List Cl} (hp:Part g p) (hq:Part g q) (up:p.Pairwise les) (uq:q.Pairwise les) {c:Cl} (h1:c ∈ p) (h2:c ∈ q):p=q :=
 les_ext up uq fun v=>(hp.scc c h1 v).trans (hq.scc c h2 v).symm
theorem row_ext:∀ {P Q:List (List Cl)},P.Pairwise headLes→Q.Pairwise headLes→(∀ p ∈ P,p≠[])→(∀ p,p ∈ P↔p ∈ Q)→P=Q
 | [],[],_,_,_,_=>rfl
 | [],q::m,_,_,_,h=>by have:=(h q).2 (by simp);cases this
 | p::l,[],_,_,_,h=>by have:=(h p).1 (by simp);cases this
 | p::l,q::m,h1,h2,hn,h=>by
  obtain ⟨a1,a2⟩:=List.pairwise_cons.1 h1
  obtain ⟨b1,b2⟩:=List.pairwise_cons.1 h2
  have hd:∀ x ∈ p::l,∃ a,x.head?=some a:=fun x hx=>by
   cases x with
   | nil=>exact absurd rfl (hn _ hx)
   | cons a r=>exact ⟨a,rfl⟩
  have hirr:∀ x ∈ p::l,¬ headLes x x:=fun x hx hh=>by
   obtain ⟨a,ha⟩:=hd x hx
   exact les_irr a (hh a a ha ha)
  have hpq:p=q:=by
   rcases List.mem_cons.1 ((h p).1 (by simp)) with e|hp
   ·exact e
   ·rcases List.mem_cons.1 ((h q).2 (by simp)) with e|hq
    ·exact e.symm
    ·obtain ⟨a,ha⟩:=hd p (by simp)
     obtain ⟨b,hb⟩:=hd q (by simp[hq])
     exact (les_asym (a1 q hq a b ha hb) (b1 p hp b a hb ha)).elim
  subst hpq
  refine congrArg (List.cons p) (row_ext a2 b2 (fun x hx=>hn x (by simp[hx])) fun x=>⟨fun hx=>?_,fun hx=>?_⟩)
  ·rcases List.mem_cons.1 ((h x).1 (by simp[hx])) with e|hm
   ·exact (hirr p (by simp) (by have:=a1 x hx;rwa [e] at this)).elim
   ·exact hm
  ·rcases List.mem_cons.1 ((h x).2 (by simp[hx])) with e|hm
   ·exact (hirr p (by simp) (by have:=b1 x hx;rwa [e] at this)).elim
   ·exact hm
theorem Row.one {g:Gr} {V:List Cl} {P Q:List (List Cl)} (hV:∀ c,g.has c=true→c ∈ V) (hP:Row g V P) (hQ:Row g V Q):P=Q:=by
 have key:∀ {P Q:List (List Cl)},Row g V P→Row g V Q→∀ p ∈ P,p ∈ Q:=fun {P Q} hP hQ p hp=>by
  obtain ⟨c,hc⟩:=List.exists_mem_of_ne_nil p (hP.ps.part p hp).ne
  obtain ⟨q,hq,hcq⟩:=hQ.ps.all c (hV c (hP.ps.sub p hp c hc))
  rw[Part.eq (hP.ps.part p hp) (hQ.ps.part q hq) (hP.ps.up p hp) (hQ.ps.up q hq) hc hcq]
  exact hq
 exact row_ext hP.row hQ.row (fun p hp=>(hP.ps.part p hp).ne) fun p=>⟨key hP hQ p,key hQ hP p⟩
noncomputable def partsZ (g:Gr) (V:List Cl):List (List Cl):=open Classical in if h:∃ Q,Row g V Q then Classical.choose h else []
theorem Row.eq {g:Gr} {V:List Cl} {Q:List (List Cl)} (hV:∀ c,g.has c=true→c ∈ V) (h:Row g V Q):Q=partsZ g V:=by
 unfold partsZ
 rw[dif_pos ⟨Q,h⟩]
 exact h.one hV (Classical.choose_spec (⟨Q,h⟩:∃ Q,Row g V Q))
end
section
theorem sortC_up (l:List Cl) (h:l.Nodup):(sortC l).Pairwise les:=by
 have hn:(sortC l).Pairwise (·≠·):=(sortC_perm l).nodup_iff.2 h
 exact (List.Pairwise.and (sortC_sorted l) hn).imp fun {a b} hab=>(les_tri a b).elim id fun h=>h.elim (fun e=>absurd e hab.2) fun h=>absurd h hab.1
end
section
def hd1 (p:List Cl):Cl:=p.headD (0,0)
instance (a b:Cl):Decidable (les a b):=by unfold les;infer_instance
def leP (p q:List Cl):Bool:=!decide (les (hd1 q) (hd1 p))
theorem leP_iff {p q:List Cl}:leP p q=true↔¬ les (hd1 q) (hd1 p):=by
 unfold leP
 simp
def sr2 (P:List (List Cl)):List (List Cl):=P.mergeSort leP
theorem sr2_perm (P:List (List Cl)):(sr2 P).Perm P:=List.mergeSort_perm P _
theorem sr2_row (P:List (List Cl)) (h2:P.Pairwise fun p q=>∀ c ∈ p,c ∉ q) (hne:∀ p ∈ P,p≠[]):(sr2 P).Pairwise headLes:=by
 have hs:=List.pairwise_mergeSort (le:=leP) (fun a b c h1 h2=>by
  rw[leP_iff] at *
  unfold les at *
  omega) (fun a b=>by
  rw[Bool.or_eq_true,leP_iff,leP_iff]
  unfold les
  omega) P
 have hd:(sr2 P).Pairwise fun p q=>∀ c ∈ p,c ∉ q:=((sr2_perm P).pairwise_iff fun {a b} hab c hc hca=>hab c hca hc).2 h2
 have hn:∀ p ∈ sr2 P,p≠[]:=fun p hp=>hne p ((sr2_perm P).mem_iff.1 hp)
 have key:∀ L:List (List Cl),L.Pairwise (fun p q=>leP p q=true)→(L.Pairwise fun p q=>∀ c ∈ p,c ∉ q)→(∀ p ∈ L,p≠[])→L.Pairwise headLes:=fun L=>by
  induction L with
  | nil=>exact fun _ _ _=>.nil
  | cons p L ih =>
   intro g1 g2 g3
   obtain ⟨a1,a2⟩:=List.pairwise_cons.1 g1
   obtain ⟨b1,b2⟩:=List.pairwise_cons.1 g2
   refine List.pairwise_cons.2 ⟨fun q hq a b ha hb=>?_,ih a2 b2 fun q hq=>g3 q (by simp[hq])⟩
   have h1:=a1 q hq
   have e1:hd1 p=a:=by
    cases p with
    | nil=>cases ha
    | cons x r=>simpa[hd1] using ha
   have e2:hd1 q=b:=by
    cases q with
    | nil=>cases hb
    | cons x r=>simpa[hd1] using hb
   rw[leP_iff,e1,e2] at h1
   rcases les_tri a b with h|h|h
   ·exact h
   ·subst h
    exact absurd (List.mem_of_head? hb) (b1 q hq a (List.mem_of_head? ha))
   ·exact absurd h h1
 exact key _ hs hd hn
end
section
structure FS where
 K:List Cl
 val:Cl→Nat
structure FInv (g:Gr) (p:List Cl) (c:Cl) (s:FS):Prop where
 nd:s.K.Nodup
 sub:∀ x ∈ s.K,x ∈ p
 c0:c ∈ s.K
 v0:s.val c=0
 st:∀ x ∈ s.K,x≠c→∃ y ∈ g.on x,y ∈ s.K∧s.val y+1≤s.val x
 lt:∀ x ∈ s.K,s.val x<s.K.length
def FS.put (s:FS) (x:Cl) (v:Nat):FS:=⟨if x ∈ s.K then s.K else s.K++[x],fun z=>if z=x then v else s.val z⟩
def fmeas (p:List Cl) (s:FS):Nat:=(p.map fun x=>if x ∈ s.K then s.val x else p.length+1).sum
theorem put_mem {s:FS} {x z:Cl} {v:Nat}:z ∈ (s.put x v).K↔z ∈ s.K∨z=x:=by
 unfold FS.put
 by_cases h:x ∈ s.K
 ·simp only[if_pos h]
  exact ⟨.inl,fun hh=>hh.elim id fun e=>e ▸ h⟩
 ·simp only[if_neg h,List.mem_append,List.mem_singleton]
theorem FInv.init {g:Gr} {p:List Cl} {c:Cl} (hc:c ∈ p) (f:Cl→Nat) (hf:f c=0):FInv g p c ⟨[c],f⟩ :=
 ⟨by simp,fun x hx=>by obtain rfl:=List.mem_singleton.1 hx;exact hc,by simp,hf,fun x hx hn=>absurd (List.mem_singleton.1 hx) hn,fun x hx=>by obtain rfl:=List.mem_singleton.1 hx;show f x<1;rw[hf];exact Nat.one_pos⟩
section
variable {g:Gr} {p:List Cl} {c:Cl} {s:FS}
theorem FInv.len (h:FInv g p c s):s.K.length≤p.length:=nodup_len h.nd h.sub
theorem FInv.set (h:FInv g p c s) {x y:Cl} (hx:x ∈ p) (hy:y ∈ g.on x) (hyK:y ∈ s.K) (hn:x ∉ s.K∨s.val y+1<s.val x):FInv g p c (s.put x (s.val y+1))∧fmeas p (s.put x (s.val y+1))<fmeas p s:=by
 have hxc:x≠c:=fun e=>by
  subst e
  rcases hn with hn|hn
  ·exact hn h.c0
  ·rw[h.v0] at hn;cases hn
 have hyx:y≠x:=fun e=>by
  subst e
  rcases hn with hn|hn
  ·exact hn hyK
  ·omega
 have hval:∀ z,z≠x→(s.put x (s.val y+1)).val z=s.val z:=fun z hz=>if_neg hz
 have hvx:(s.put x (s.val y+1)).val x=s.val y+1:=if_pos rfl
 have hle:∀ z ∈ s.K,(s.put x (s.val y+1)).val z≤s.val z:=fun z hz=>by
  by_cases e:z=x
  ·subst e
   rw[hvx]
   rcases hn with hn|hn
   ·exact absurd hz hn
   ·omega
  ·rw[hval z e];exact Nat.le_refl _
 have hlen:s.K.length≤(s.put x (s.val y+1)).K.length:=by
  unfold FS.put
  by_cases e:x ∈ s.K
  ·simp only[if_pos e];exact Nat.le_refl _
  ·simp only[if_neg e,List.length_append,List.length_singleton];omega
 have hy1:=h.lt y hyK
 refine ⟨⟨?_,?_,?_,?_,?_,?_⟩,?_⟩
 ·unfold FS.put
  by_cases e:x ∈ s.K
  ·simp only[if_pos e];exact h.nd
  ·simp only[if_neg e]
   exact List.nodup_append.2 ⟨h.nd,by simp,fun a ha b hb=>by obtain rfl:=List.mem_singleton.1 hb;exact fun e'=>e (e' ▸ ha)⟩
 ·intro z hz
  rcases put_mem.1 hz with hz|rfl
  ·exact h.sub z hz
  ·exact hx
 ·exact put_mem.2 (.inl h.c0)
 ·rw[hval c (Ne.symm hxc)];exact h.v0
 ·intro z hz hzc
  by_cases e:z=x
  ·subst e
   exact ⟨y,hy,put_mem.2 (.inl hyK),by rw[hvx,hval y hyx];exact Nat.le_refl _⟩
  ·have hzK:z ∈ s.K:=(put_mem.1 hz).resolve_right e
   obtain ⟨w,hw,hwK,h1⟩:=h.st z hzK hzc
   exact ⟨w,hw,put_mem.2 (.inl hwK),by rw[hval z e];have:=hle w hwK;omega⟩
 ·intro z hz
  by_cases e:z=x
  ·subst e
   rw[hvx]
   unfold FS.put
   by_cases e':z ∈ s.K
   ·rcases hn with hn|hn
    ·exact absurd e' hn
    ·simp only[if_pos e']
     have:=h.lt z e'
     omega
   ·simp only[if_neg e',List.length_append,List.length_singleton]
    omega
  ·have hzK:z ∈ s.K:=(put_mem.1 hz).resolve_right e
   rw[hval z e]
   exact Nat.lt_of_lt_of_le (h.lt z hzK) hlen
 ·refine sum_one (d:=1) hx ?_ fun z hz=>?_
  ·show (if x ∈ (s.put x (s.val y+1)).K then (s.put x (s.val y+1)).val x else p.length+1)+1≤(if x ∈ s.K then s.val x else p.length+1)
   rw[if_pos (put_mem.2 (.inr rfl)),hvx]
   have:=h.len
   rcases hn with hn|hn
   ·rw[if_neg hn];omega
   ·split
    ·omega
    ·omega
  ·show (if z ∈ (s.put x (s.val y+1)).K then (s.put x (s.val y+1)).val z else p.length+1)≤(if z ∈ s.K then s.val z else p.length+1)
   by_cases e:z ∈ s.K
   ·rw[if_pos e,if_pos (put_mem.2 (.inl e))];exact hle z e
   ·rw[if_neg e]
    by_cases e':z=x
    ·subst e'
     rw[if_pos (put_mem.2 (.inr rfl)),hvx]
     have:=h.len
     omega
    ·rw[if_neg fun hh=>(put_mem.1 hh).elim e e']
     exact Nat.le_refl _
def Fix (g:Gr) (p:List Cl) (s:FS):Prop:=∀ x ∈ p,∀ y ∈ g.on x,y ∈ s.K→x ∈ s.K∧s.val x≤s.val y+1
theorem FInv.all (h:FInv g p c s) (hf:Fix g p s) (hp:Part g p) (hc:c ∈ p):∀ x ∈ p,x ∈ s.K:=by
 have key:∀ {a b:Cl},Rch g a b→b=c→(a ∈ p→a ∈ s.K):=fun {a b} hr=>by
  induction hr with
  | refl a=>intro e ha;rw[e];exact h.c0
  | step h1 h2 h3 ih =>
   intro e ha
   subst e
   have hb:=(hp.scc _ hc _).2 ⟨((hp.scc _ hc _).1 ha).1.trans (Rch.one h1 h2),h3⟩
   exact (hf _ ha _ h1 (ih rfl hb)).1
 exact fun x hx=>key ((hp.scc c hc x).1 hx).2 rfl hx
theorem FInv.near (h:FInv g p c s) (hf:Fix g p s) {x:Cl} (hx:x ∈ s.K) (hxp:x ∈ p) (hxc:x≠c):∃ y ∈ g.on x,y ∈ s.K∧s.val y+1=s.val x:=by
 obtain ⟨y,hy,hyK,h1⟩:=h.st x hx hxc
 have:=(hf x hxp y hy hyK).2
 exact ⟨y,hy,hyK,by omega⟩
theorem FInv.pos (h:FInv g p c s) {x:Cl} (hx:x ∈ s.K) (hxc:x≠c):0<s.val x:=by
 obtain ⟨y,_,_,h1⟩:=h.st x hx hxc
 omega
end
def near (s:FS) (p:List Cl):List Cl→Option Cl→Option Cl
 | [],b=>b
 | y::l,b=>near s p l (if y ∈ s.K∧y ∈ p∧(∀ z,b=some z→s.val y<s.val z) then some y else b)
theorem near_in {s:FS} {p:List Cl}:∀ {l:List Cl} {b:Option Cl},near s p l b=b∨∃ y ∈ l,near s p l b=some y∧y ∈ s.K∧y ∈ p
 | [],_=>.inl rfl
 | y::l,b=>by
  unfold near
  by_cases h:y ∈ s.K∧y ∈ p∧(∀ z,b=some z→s.val y<s.val z)
  ·rw[if_pos h]
   rcases near_in (s:=s) (p:=p) (l:=l) (b:=some y) with h1|⟨z,h1,h2⟩
   ·exact .inr ⟨y,by simp,h1,h.1,h.2.1⟩
   ·exact .inr ⟨z,by simp[h1],h2⟩
  ·rw[if_neg h]
   rcases near_in (s:=s) (p:=p) (l:=l) (b:=b) with h1|⟨z,h1,h2⟩
   ·exact .inl h1
   ·exact .inr ⟨z,by simp[h1],h2⟩
theorem near_le {s:FS} {p:List Cl}:∀ {l:List Cl} {b:Option Cl},(∀ z,b=some z→∃ w,near s p l b=some w∧s.val w≤s.val z)∧∀ y ∈ l,y ∈ s.K→y ∈ p→∃ w,near s p l b=some w∧s.val w≤s.val y
 | [],b=>⟨fun z hz=>⟨z,hz,Nat.le_refl _⟩,fun y hy=>by cases hy⟩
 | a::l,b=>by
  unfold near
  by_cases h:a ∈ s.K∧a ∈ p∧(∀ z,b=some z→s.val a<s.val z)
  ·rw[if_pos h]
   obtain ⟨h1,h2⟩:=near_le (s:=s) (p:=p) (l:=l) (b:=some a)
   obtain ⟨w,h3,h4⟩:=h1 a rfl
   refine ⟨fun z hz=>⟨w,h3,?_⟩,fun y hy hyK hyp=>?_⟩
   ·have:=h.2.2 z hz;omega
   ·rcases List.mem_cons.1 hy with rfl|hy
    ·exact ⟨w,h3,h4⟩
    ·exact h2 y hy hyK hyp
  ·rw[if_neg h]
   obtain ⟨h1,h2⟩:=near_le (s:=s) (p:=p) (l:=l) (b:=b)
   refine ⟨h1,fun y hy hyK hyp=>?_⟩
   rcases List.mem_cons.1 hy with rfl|hy
   ·cases b with
    | none=>exact absurd ⟨hyK,hyp,fun z hz=>by cases hz⟩ h
    | some z =>
     obtain ⟨w,h3,h4⟩:=h1 z rfl
     refine ⟨w,h3,?_⟩
     by_cases hlt:s.val y<s.val z
     ·exact absurd ⟨hyK,hyp,fun z' hz'=>by cases hz';exact hlt⟩ h
     ·omega
   ·exact h2 y hy hyK hyp
end
section
inductive Hng (g:Gr) (c:Cl):Cl→Prop
 | one {x:Cl}:c ∈ g.on x→Hng g c x
 | more {x y:Cl}:y ∈ g.on x→g.has y=true→Hng g c y→Hng g c x
structure HInv (g:Gr) (V:List Cl) (c:Cl) (K:List Cl):Prop where
 nd:K.Nodup
 sub:∀ x ∈ K,x ∈ V
 ok:∀ x ∈ K,Hng g c x
section
variable {g:Gr} {V:List Cl} {c:Cl} {K:List Cl}
theorem HInv.init:HInv g V c []:=⟨List.nodup_nil,(fun _ h=>nomatch h),(fun _ h=>nomatch h)⟩
theorem HInv.len (h:HInv g V c K):K.length≤V.length:=nodup_len h.nd h.sub
theorem HInv.put (h:HInv g V c K) (hV:∀ x ∈ V,g.has x=true) {x y:Cl} (hx:x ∈ V) (hn:x ∉ K) (hy:y ∈ g.on x) (hc:y=c∨y ∈ K):HInv g V c (K++[x]):=by
 refine ⟨List.nodup_append.2 ⟨h.nd,by simp,fun a ha b hb=>by obtain rfl:=List.mem_singleton.1 hb;exact fun e=>hn (e ▸ ha)⟩,fun z hz=>?_,fun z hz=>?_⟩
 ·rcases List.mem_append.1 hz with hz|hz
  ·exact h.sub z hz
  ·obtain rfl:=List.mem_singleton.1 hz;exact hx
 ·rcases List.mem_append.1 hz with hz|hz
  ·exact h.ok z hz
  ·obtain rfl:=List.mem_singleton.1 hz
   rcases hc with rfl|hc
   ·exact .one hy
   ·exact .more hy (hV _ (h.sub y hc)) (h.ok y hc)
theorem HInv.all (_h:HInv g V c K) (hV:∀ x,g.has x=true→x ∈ V) (hf:∀ x ∈ V,∀ y ∈ g.on x,(y=c∨y ∈ K)→x ∈ K):∀ x,Hng g c x→x ∈ V→x ∈ K:=fun x hx=>by
 induction hx with
 | one h1=>exact fun hx=>hf _ hx _ h1 (.inl rfl)
 | more h1 h2 _ ih=>exact fun hx=>hf _ hx _ h1 (.inr (ih (hV _ h2)))
end
end
end Go.Proofs.YtfcmhmglpcimiaaGreatDoor
