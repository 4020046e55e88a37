/- Proved: a part of what the law is proved with (the reckoner, contracts of functions, plain laws). Conditions: as each says. -/
import Derived.Shelf.Vars
import Derived.Test.YtaheflnnigocgaaGreatDoorGFo
import Derived.Test.YtaheflnnigocgaaGreatDoorGJk
import Derived.Test.YtaheflnnigocgaaGreatDoorGPe
section
namespace Go.Proofs.YtaheflnnigocgaaGreatDoor
open Go Go.ChangeShapes Go.WideShapes Go.ChangeAt Go.RowKit Go.EYtaheflnnigocgaaGreatDoor
set_option linter.unusedVariables false
set_option maxRecDepth 100000
section
variable {B n:Nat} {ds:List D}
theorem sh_int (h:Sh Tryz.prog B n 3 ds):∃ m,ds=[iD m]∧(Lit.int .i64 m).wf=true:=by
 cases n with
 | zero=>exact h.elim
 | succ n=>unfold Sh at h;rw[Tryz.underlying3] at h;exact h
theorem sh_str (h:Sh Tryz.prog B n 9 ds):∃ s,ds=[.str s]∧s.length≤B:=by
 cases n with
 | zero=>exact h.elim
 | succ n=>unfold Sh at h;rw[Tryz.underlying9] at h;exact h
theorem sh_two {t a b:TypeId} {f g:Field} (hu:Tryz.prog.underlying t=some (.struct #[f,g])) (ha:f.type=a) (hb:g.type=b) (h:Sh Tryz.prog B n t ds):∃ m x y,n=m+1∧ds=x++y∧Sh Tryz.prog B m a x∧Sh Tryz.prog B m b y:=by
 cases n with
 | zero=>exact h.elim
 | succ n =>
  unfold Sh at h;rw[hu] at h
  obtain ⟨dss,h1,h2⟩:=h
  match dss,h2 with
  | [x,y],h2 =>
   subst ha;subst hb
   exact ⟨n,x,y,rfl,by simpa using h1,h2.1,h2.2.1⟩
theorem sh_cell (h:Sh Tryz.prog B n 24 ds):∃ c r,ds=[iD c,iD r]∧(Lit.int .i64 c).wf=true∧(Lit.int .i64 r).wf=true:=by
 obtain ⟨m,x,y,rfl,rfl,h1,h2⟩:=sh_two Tryz.underlying24 rfl rfl h
 obtain ⟨c,rfl,hc⟩:=sh_int h1
 obtain ⟨r,rfl,hr⟩:=sh_int h2
 exact ⟨c,r,rfl,hc,hr⟩
theorem sh_fl (h:Sh Tryz.prog B n 32 ds):∃ f:Fl,ds=flD f∧f.t.length≤B:=by
 obtain ⟨m,x,y,rfl,rfl,h1,h2⟩:=sh_two Tryz.underlying32 rfl rfl h
 obtain ⟨c,r,rfl,_,_⟩:=sh_cell h1
 obtain ⟨s,rfl,hs⟩:=sh_str h2
 exact ⟨⟨c,r,s⟩,rfl,hs⟩
theorem map_of {α:Type} {g:α→List D} {p:α→Prop}:∀ {rows:List (List D)},(∀ r ∈ rows,∃ f,r=g f∧p f)→∃ l:List α,rows=l.map g∧∀ f ∈ l,p f
 | [],_=>⟨[],rfl,fun f hf=>by cases hf⟩
 | r::rows,h=>by
  obtain ⟨f,rfl,hf⟩:=h r (List.mem_cons_self ..)
  obtain ⟨l,rfl,hl⟩:=map_of fun r hr=>h r (List.mem_cons_of_mem _ hr)
  exact ⟨f::l,rfl,fun g hg=>by rcases List.mem_cons.1 hg with rfl|hg;exact hf;exact hl g hg⟩
theorem sh_fls (h:Sh Tryz.prog B n 22 ds):∃ l:List Fl,ds=[.lst 3 (l.map flD)]∧l.length≤maxLen∧∀ f ∈ l,f.t.length≤B:=by
 cases n with
 | zero=>exact h.elim
 | succ n =>
  unfold Sh at h;rw[Tryz.underlying22] at h
  obtain ⟨rows,rfl,h1,_,h2⟩:=h
  obtain ⟨l,rfl,hl⟩:=map_of (g:=flD) (p:=fun f=>f.t.length≤B) fun r hr=>sh_fl (h2 r hr)
  exact ⟨l,by rw[show Tryz.prog.cellsOf 32=3 by kernel_rfl],by simpa using h1,hl⟩
end
theorem open_fls {H:Type} {enc:TypeId×Value→H} {W:World} {sp:Nat→Bool} {hd:Bool} {v:Value} {d:DataW H} {p:List MemPlace} {b0:Nat} (hv:Value.okWide Tryz.prog W .any b0 22 v) (h:DataW.Trod enc Tryz.prog W 0 sp hd 22 v d p)
 (hw:∀ m ∈ d.weights Tryz.prog 22,m≤reachBytes):∃ l:List Fl,DenD (fun _=>False) W (.lst 3 (l.map flD)) v∧l.length≤maxLen∧∀ f ∈ l,f.t.length≤reachBytes:=by
 obtain ⟨a,n,c,rfl⟩:=okWide_slice Tryz.underlying22 hv
 obtain ⟨f,hf⟩:=h
 obtain ⟨ds,h1,h2⟩:=sh_open (ts:=[22,32,24,3,9]) (by kernel_rfl) f _ _ _ hf (by decide) hw
 obtain ⟨l,rfl,h3,h4⟩:=sh_fls h2
 exact ⟨l,h1.1,h3,h4⟩
theorem var_maxLen {w:World} (h:w.ShapedOpen Tryz.prog):∃ m:Int,Holds1 w 6 [iD m]:=by
 have h0:((begin Tryz.prog (fun _ _=>0) default).world.heap[6]?).bind Obj.row?=some (#[.int .i64 0],3):=by kernel_rfl
 obtain ⟨m,hm⟩:=cell_of_shapedOpen_int (P:=Tryz.prog) (g:=6) (t:=3) (zero:=#[.int .i64 0]) h (of_decide_eq_true (by kernel_rfl)) h0 rfl (by kernel_rfl) (by kernel_rfl) Tryz.underlying3
 obtain ⟨⟨l⟩,hh,hs,_⟩:=h.1 6 _ _ (of_decide_eq_true (by kernel_rfl)) h0
 match l,hs with
 | [x],_ =>
  have:x=.int .i64 m:=by simpa[World.cell?,hh] using hm
  subst this
  exact ⟨m,[_],⟨_,_,hh⟩,.v _,trivial⟩
end Go.Proofs.YtaheflnnigocgaaGreatDoor
end
section
namespace Go.Proofs.YtaheflnnigocgaaGreatDoor
set_option maxRecDepth 100000
abbrev Cl:=Int×Int
structure Gr where
 on:Cl→List Cl
 has:Cl→Bool
inductive Rch (g:Gr):Cl→Cl→Prop
 | refl (a:Cl):Rch g a a
 | step {a b c:Cl}:b ∈ g.on a→g.has b=true→Rch g b c→Rch g a c
theorem Rch.trans {g:Gr} {a b c:Cl} (h:Rch g a b) (k:Rch g b c):Rch g a c:=by
 induction h with
 | refl=>exact k
 | step h1 h2 _ ih=>exact .step h1 h2 (ih k)
theorem Rch.one {g:Gr} {a b:Cl} (h:b ∈ g.on a) (k:g.has b=true):Rch g a b:=.step h k (.refl b)
structure TS where
 D:List Cl
 S:List Cl
 F:List (Cl×Nat)
 P:List (List Cl)
 low:Cl→Nat
def num (D:List Cl) (c:Cl):Nat:=if c ∈ D then D.idxOf c+1 else 0
theorem num_in {D:List Cl} {c:Cl} (h:c ∈ D):num D c=D.idxOf c+1:=if_pos h
theorem num_out {D:List Cl} {c:Cl} (h:c ∉ D):num D c=0:=if_neg h
theorem num_pos {D:List Cl} {c:Cl}:0<num D c↔c ∈ D:=by
 by_cases h:c ∈ D
 ·rw[num_in h];exact ⟨fun _=>h,fun _=>Nat.succ_pos _⟩
 ·rw[num_out h];exact ⟨fun h=>absurd h (Nat.lt_irrefl 0),fun k=>absurd k h⟩
theorem num_le {D:List Cl} {c:Cl}:num D c≤D.length:=by
 by_cases h:c ∈ D
 ·rw[num_in h];exact List.idxOf_lt_length_iff.2 h
 ·rw[num_out h];exact Nat.zero_le _
theorem num_app {D:List Cl} {c x:Cl} (h:c ∈ D):num (D++[x]) c=num D c:=by
 rw[num_in h,num_in (List.mem_append_left _ h),List.idxOf_append,if_pos h]
theorem num_new {D:List Cl} {x:Cl} (h:x ∉ D):num (D++[x]) x=D.length+1:=by
 rw[num_in (by simp),List.idxOf_append,if_neg h]
 simp
theorem num_sorted:∀ {D:List Cl},D.Nodup→D.Pairwise fun a b=>num D a<num D b:=fun {D} hD=>by
 rw[List.pairwise_iff_getElem]
 intro i j hi hj hij
 rw[num_in (List.getElem_mem hi),num_in (List.getElem_mem hj),List.Nodup.idxOf_getElem hD,List.Nodup.idxOf_getElem hD]
 omega
def Prc (g:Gr) (F:List (Cl×Nat)) (v w:Cl):Prop:=(∃ k,(v,k) ∈ F∧w ∈ (g.on v).take k)∨((∀ k,(v,k) ∉ F)∧w ∈ g.on v)
def les (a b:Cl):Prop:=a.2<b.2∨a.2=b.2∧a.1<b.1
structure Part (g:Gr) (p:List Cl):Prop where
 ne:p≠[]
 scc:∀ c ∈ p,∀ v,v ∈ p↔Rch g c v∧Rch g v c
structure Inv (g:Gr) (s:TS):Prop where
 dn:s.D.Nodup
 dh:∀ c ∈ s.D,g.has c=true
 sd:s.S.Sublist s.D
 fs:(s.F.map (·.1)).Sublist s.S
 lo:∀ f ∈ s.F.map (·.1),s.low f≤num s.D f∧∃ u ∈ s.S,num s.D u=s.low f∧Rch g f u
 pd:∀ v ∈ s.S,∀ w,Prc g s.F v w→g.has w=true→w ∈ s.D
 cl:∀ v ∈ s.D,v ∉ s.S→∀ w ∈ g.on v,g.has w=true→w ∈ s.D∧w ∉ s.S
 pl:∀ f ∈ s.F.map (·.1),∀ v ∈ s.S,num s.D f≤num s.D v→∀ w ∈ s.S,Prc g s.F v w→∃ h ∈ s.F.map (·.1),num s.D f≤num s.D h∧s.low h≤num s.D w
 bk:∀ v ∈ s.S,v ∉ s.F.map (·.1)→∃ u ∈ s.S,num s.D u<num s.D v∧Rch g v u
 fr:∀ f ∈ s.F.map (·.1),∀ v ∈ s.S,num s.D f≤num s.D v→Rch g f v
 bt:∀ v ∈ s.S,∃ f ∈ s.F.map (·.1),num s.D f≤num s.D v
 ps:∀ p ∈ s.P,Part g p∧∀ c ∈ p,c ∈ s.D∧c ∉ s.S
 pc:∀ c ∈ s.D,c ∉ s.S→∃ p ∈ s.P,c ∈ p
 pp:s.P.Pairwise fun p q=>∀ c ∈ p,c ∉ q
 pn:∀ p ∈ s.P,p.Pairwise les
section
variable {g:Gr} {s:TS}
theorem Inv.inD (h:Inv g s) {c:Cl} (hc:c ∈ s.S):c ∈ s.D:=h.sd.subset hc
theorem Inv.inS (h:Inv g s) {c:Cl} (hc:c ∈ s.F.map (·.1)):c ∈ s.S:=h.fs.subset hc
theorem Inv.top (h:Inv g s) {F0:List (Cl×Nat)} {t:Cl} {k:Nat} (hF:s.F=F0++[(t,k)]) {f:Cl} (hf:f ∈ s.F.map (·.1)):num s.D f≤num s.D t∧(f≠t→f ∈ F0.map (·.1)∧num s.D f<num s.D t):=by
 have hs:(s.F.map (·.1)).Pairwise fun a b=>num s.D a<num s.D b:=(num_sorted h.dn).sublist (h.fs.trans h.sd)
 rw[hF,List.map_append] at hs hf
 rcases List.mem_append.1 hf with h1|h1
 ·have:=(List.pairwise_append.1 hs).2.2 f h1 t (by simp)
  exact ⟨Nat.le_of_lt this,fun _=>⟨h1,this⟩⟩
 ·obtain rfl:f=t:=by simpa using h1
  exact ⟨Nat.le_refl _,fun hh=>absurd rfl hh⟩
theorem Inv.fnd (h:Inv g s):(s.F.map (·.1)).Nodup:=h.dn.sublist (h.fs.trans h.sd)
theorem Inv.at (h:Inv g s) {F0:List (Cl×Nat)} {t:Cl} {k j:Nat} (hF:s.F=F0++[(t,k)]) (hj:(t,j) ∈ s.F):j=k:=by
 have hn:=h.fnd
 rw[hF] at hj hn
 rcases List.mem_append.1 hj with h1|h1
 ·exfalso
  rw[List.map_append] at hn
  exact (List.nodup_append.1 hn).2.2 t (List.mem_map.2 ⟨(t,j),h1,rfl⟩) t (by simp) rfl
 ·simpa using h1
theorem Inv.front (h:Inv g s) {F0:List (Cl×Nat)} {t:Cl} {k:Nat} (hF:s.F=F0++[(t,k)]):t ∉ F0.map (·.1):=fun hh=>by
 have hn:=h.fnd
 rw[hF,List.map_append] at hn
 exact (List.nodup_append.1 hn).2.2 t hh t (by simp) rfl
theorem prc_step {F0:List (Cl×Nat)} {t:Cl} {k:Nat} (ht:t ∉ F0.map (·.1)) {v w:Cl} (h:Prc g (F0++[(t,k+1)]) v w):Prc g (F0++[(t,k)]) v w∨(v=t∧(g.on t)[k]?=some w):=by
 rcases h with ⟨j,hj,hw⟩|⟨hj,hw⟩
 ·rcases List.mem_append.1 hj with h1|h1
  ·exact .inl (.inl ⟨j,List.mem_append_left _ h1,hw⟩)
  ·obtain ⟨rfl,rfl⟩:v=t∧j=k+1:=by simpa using h1
   by_cases hk:k<(g.on v).length
   ·rw[List.take_succ_eq_append_getElem hk] at hw
    rcases List.mem_append.1 hw with h2|h2
    ·exact .inl (.inl ⟨k,by simp,h2⟩)
    ·obtain rfl:=List.mem_singleton.1 h2
     exact .inr ⟨rfl,List.getElem?_eq_getElem hk⟩
   ·rw[List.take_of_length_le (by omega)] at hw
    exact .inl (.inl ⟨k,by simp,by rw[List.take_of_length_le (by omega)];exact hw⟩)
 ·refine .inl (.inr ⟨fun j hh=>?_,hw⟩)
  rcases List.mem_append.1 hh with h1|h1
  ·exact hj j (List.mem_append_left _ h1)
  ·obtain ⟨rfl,rfl⟩:v=t∧j=k:=by simpa using h1
   exact hj (j+1) (by simp)
theorem map_step {F0:List (Cl×Nat)} {t:Cl} {k j:Nat}:(F0++[(t,k)]).map (·.1)=(F0++[(t,j)]).map (·.1):=by simp
theorem Inv.skip (h:Inv g s) {F0:List (Cl×Nat)} {t x:Cl} {k:Nat} (hF:s.F=F0++[(t,k)]) (hx:(g.on t)[k]?=some x) (hs:g.has x=false∨(x ∈ s.D∧x ∉ s.S)):Inv g { s with F:=F0++[(t,k+1)] }:=by
 have ht:=h.front hF
 have hm:(F0++[(t,k+1)]:List (Cl×Nat)).map (·.1)=s.F.map (·.1):=by rw[hF];exact map_step
 refine ⟨h.dn,h.dh,h.sd,by rw[hm];exact h.fs,by rw[hm];exact h.lo,fun v hv w hw hh=>?_,h.cl,?_,by rw[hm];exact h.bk,by rw[hm];exact h.fr,by rw[hm];exact h.bt,h.ps,h.pc,h.pp,h.pn⟩
 ·rcases prc_step ht hw with h1|⟨rfl,h1⟩
  ·rw[← hF] at h1;exact h.pd v hv w h1 hh
  ·rw[hx] at h1
   cases h1
   rcases hs with hs|hs
   ·rw[hs] at hh;cases hh
   ·exact hs.1
 ·show ∀ f ∈ (F0++[(t,k+1)]:List (Cl×Nat)).map (·.1),_
  rw[hm]
  intro f hf v hv hfv w hw hp
  rcases prc_step ht hp with h1|⟨rfl,h1⟩
  ·rw[← hF] at h1
   obtain ⟨a,ha,h2⟩:=h.pl f hf v hv hfv w hw h1
   exact ⟨a,ha,h2⟩
  ·rw[hx] at h1
   cases h1
   rcases hs with hs|hs
   ·have:=h.dh x (h.inD hw)
    rw[hs] at this
    cases this
   ·exact absurd hw hs.2
theorem Inv.lower (h:Inv g s) {F0:List (Cl×Nat)} {t x:Cl} {k:Nat} (hF:s.F=F0++[(t,k)]) (hx:(g.on t)[k]?=some x) (hs:x ∈ s.S):Inv g { s with F:=F0++[(t,k+1)],low:=fun c=>if c=t then min (s.low t) (num s.D x) else s.low c }:=by
 have ht:=h.front hF
 have htF:t ∈ s.F.map (·.1):=by rw[hF];simp
 have hm:(F0++[(t,k+1)]:List (Cl×Nat)).map (·.1)=s.F.map (·.1):=by rw[hF];exact map_step
 have hxh:=h.dh x (h.inD hs)
 have hle:∀ c,(if c=t then min (s.low t) (num s.D x) else s.low c)≤s.low c:=fun c=>by
  by_cases hc:c=t
  ·subst hc;rw[if_pos rfl];exact Nat.min_le_left _ _
  ·rw[if_neg hc];exact Nat.le_refl _
 refine ⟨h.dn,h.dh,h.sd,by rw[hm];exact h.fs,?_,fun v hv w hw hh=>?_,h.cl,?_,by rw[hm];exact h.bk,by rw[hm];exact h.fr,by rw[hm];exact h.bt,h.ps,h.pc,h.pp,h.pn⟩
 ·show ∀ f ∈ (F0++[(t,k+1)]:List (Cl×Nat)).map (·.1),_
  rw[hm]
  intro f hf
  obtain ⟨h1,u,hu,h2,h3⟩:=h.lo f hf
  refine ⟨Nat.le_trans (hle f) h1,?_⟩
  show ∃ u ∈ s.S,num s.D u=(if f=t then min (s.low t) (num s.D x) else s.low f)∧Rch g f u
  by_cases hft:f=t
  ·subst hft
   rw[if_pos rfl]
   by_cases hlt:s.low f≤num s.D x
   ·exact ⟨u,hu,by rw[Nat.min_eq_left hlt];exact h2,h3⟩
   ·exact ⟨x,hs,by rw[Nat.min_eq_right (by omega)],Rch.one (List.mem_of_getElem? hx) hxh⟩
  ·rw[if_neg hft]
   exact ⟨u,hu,h2,h3⟩
 ·rcases prc_step ht hw with h1|⟨rfl,h1⟩
  ·rw[← hF] at h1;exact h.pd v hv w h1 hh
  ·rw[hx] at h1
   cases h1
   exact h.inD hs
 ·show ∀ f ∈ (F0++[(t,k+1)]:List (Cl×Nat)).map (·.1),_
  rw[hm]
  intro f hf v hv hfv w hw hp
  rcases prc_step ht hp with h1|⟨rfl,h1⟩
  ·rw[← hF] at h1
   obtain ⟨a,ha,h2,h3⟩:=h.pl f hf v hv hfv w hw h1
   exact ⟨a,ha,h2,Nat.le_trans (hle a) h3⟩
  ·rw[hx] at h1
   cases h1
   refine ⟨v,htF,hfv,?_⟩
   show (if v=v then min (s.low v) (num s.D x) else s.low v)≤num s.D x
   rw[if_pos rfl]
   exact Nat.min_le_right _ _
theorem prc_front {F0:List (Cl×Nat)} {t:Cl} {k:Nat} {v w:Cl} (hv:v≠t) (h:Prc g (F0++[(t,k)]) v w):Prc g F0 v w:=by
 rcases h with ⟨j,hj,hw⟩|⟨hj,hw⟩
 ·rcases List.mem_append.1 hj with h1|h1
  ·exact .inl ⟨j,h1,hw⟩
  ·exact absurd (by simpa using h1:v=t∧j=k).1 hv
 ·exact .inr ⟨fun j hh=>hj j (List.mem_append_left _ hh),hw⟩
theorem prc_back {F0:List (Cl×Nat)} {t:Cl} {k:Nat} (ht:t ∉ F0.map (·.1)) (hk:(g.on t).length≤k) {v w:Cl}:Prc g F0 v w→Prc g (F0++[(t,k)]) v w:=by
 intro h
 by_cases hv:v=t
 ·subst hv
  rcases h with ⟨j,hj,_⟩|⟨_,hw⟩
  ·exact absurd (List.mem_map.2 ⟨_,hj,rfl⟩) ht
  ·exact .inl ⟨k,by simp,by rw[List.take_of_length_le hk];exact hw⟩
 ·rcases h with ⟨j,hj,hw⟩|⟨hj,hw⟩
  ·exact .inl ⟨j,List.mem_append_left _ hj,hw⟩
  ·refine .inr ⟨fun j hh=>?_,hw⟩
   rcases List.mem_append.1 hh with h1|h1
   ·exact hj j h1
   ·exact hv (by simpa using h1:v=t∧j=k).1
theorem Inv.enter (h:Inv g s) {F0:List (Cl×Nat)} {t x:Cl} {k:Nat} (hF:s.F=F0++[(t,k)]) (hx:(g.on t)[k]?=some x) (hh:g.has x=true) (hn:x ∉ s.D):Inv g { s with D:=s.D++[x],S:=s.S++[x],F:=F0++[(t,k+1)]++[(x,0)],low:=fun c=>if c=x then s.D.length+1 else s.low c }:=by
 have ht:=h.front hF
 have htF:t ∈ s.F.map (·.1):=by rw[hF];simp
 have hm:(F0++[(t,k+1)]++[(x,0)]:List (Cl×Nat)).map (·.1)=s.F.map (·.1)++[x]:=by rw[hF];simp
 have hxS:x ∉ s.S:=fun hh=>hn (h.inD hh)
 have hxF:x ∉ s.F.map (·.1):=fun hh=>hxS (h.inS hh)
 have htx:t≠x:=fun e=>hxF (e ▸ htF)
 have nS:∀ {c},c ∈ s.S→num (s.D++[x]) c=num s.D c:=fun hc=>num_app (h.inD hc)
 have nF:∀ {c},c ∈ s.F.map (·.1)→num (s.D++[x]) c=num s.D c:=fun hc=>nS (h.inS hc)
 have nx:num (s.D++[x]) x=s.D.length+1:=num_new hn
 have hlF:∀ {c},c ∈ s.F.map (·.1)→(if c=x then s.D.length+1 else s.low c)=s.low c:=fun {c} hc=>if_neg fun (e:c=x)=>hxF (e ▸ hc)
 have rtx:Rch g t x:=Rch.one (List.mem_of_getElem? hx) hh
 -- what was looked at
 have hp:∀ {v w:Cl},v≠x→Prc g (F0++[(t,k+1)]++[(x,0)]) v w→Prc g s.F v w∨(v=t∧w=x):=fun {v w} hv hp=>by
  have h1:Prc g (F0++[(t,k+1)]) v w:=prc_front hv hp
  rcases prc_step ht h1 with h2|⟨rfl,h2⟩
  ·rw[← hF] at h2;exact .inl h2
  ·rw[hx] at h2;cases h2;exact .inr ⟨rfl,rfl⟩
 have hp0:∀ {w:Cl},¬ Prc g (F0++[(t,k+1)]++[(x,0)]) x w:=fun {w} hp=>by
  rcases hp with ⟨j,hj,hw⟩|⟨hj,_⟩
  ·rcases List.mem_append.1 hj with h1|h1
   ·rcases List.mem_append.1 h1 with h2|h2
    ·exact hxF (by rw[hF,List.map_append];exact List.mem_append_left _ (List.mem_map.2 ⟨_,h2,rfl⟩))
    ·exact htx (congrArg Prod.fst (List.mem_singleton.1 h2)).symm
   ·obtain rfl:j=0:=by simpa using h1
    cases hw
  ·exact hj 0 (by simp)
 refine ⟨?_,?_,?_,?_,?_,?_,?_,?_,?_,?_,?_,?_,?_,h.pp,h.pn⟩
 ·exact List.nodup_append.2 ⟨h.dn,by simp,fun a ha b hb=>by obtain rfl:=List.mem_singleton.1 hb;exact fun e=>hn (e ▸ ha)⟩
 ·intro c hc
  rcases List.mem_append.1 hc with h1|h1
  ·exact h.dh c h1
  ·obtain rfl:=List.mem_singleton.1 h1;exact hh
 ·exact h.sd.append (List.Sublist.refl _)
 ·show ((F0++[(t,k+1)]++[(x,0)]:List (Cl×Nat)).map (·.1)).Sublist (s.S++[x])
  rw[hm]
  exact h.fs.append (List.Sublist.refl _)
 ·show ∀ f ∈ (F0++[(t,k+1)]++[(x,0)]:List (Cl×Nat)).map (·.1),(if f=x then s.D.length+1 else s.low f)≤num (s.D++[x]) f∧∃ u ∈ s.S++[x],num (s.D++[x]) u=(if f=x then s.D.length+1 else s.low f)∧Rch g f u
  rw[hm]
  intro f hf
  rcases List.mem_append.1 hf with h1|h1
  ·obtain ⟨h2,u,hu,h3,h4⟩:=h.lo f h1
   rw[hlF h1,nF h1]
   exact ⟨h2,u,List.mem_append_left _ hu,by rw[nS hu];exact h3,h4⟩
  ·obtain rfl:=List.mem_singleton.1 h1
   rw[if_pos rfl,nx]
   exact ⟨Nat.le_refl _,f,by simp,nx,.refl f⟩
 ·intro v hv w hw hwh
  by_cases hvx:v=x
  ·subst hvx;exact absurd hw hp0
  ·have hvS:v ∈ s.S:=by simpa[hvx] using hv
   rcases hp hvx hw with h1|⟨_,rfl⟩
   ·exact List.mem_append_left _ (h.pd v hvS w h1 hwh)
   ·simp
 ·intro v hv hvS w hw hwh
  have hvx:v≠x:=fun e=>hvS (by rw[e];simp)
  have hvD:v ∈ s.D:=by simpa[hvx] using hv
  obtain ⟨h1,h2⟩:=h.cl v hvD (fun hh=>hvS (List.mem_append_left _ hh)) w hw hwh
  refine ⟨List.mem_append_left _ h1,fun hh=>?_⟩
  rcases List.mem_append.1 hh with h3|h3
  ·exact h2 h3
  ·obtain rfl:=List.mem_singleton.1 h3;exact hn h1
 ·show ∀ f ∈ (F0++[(t,k+1)]++[(x,0)]:List (Cl×Nat)).map (·.1),∀ v ∈ s.S++[x],num (s.D++[x]) f≤num (s.D++[x]) v→∀ w ∈ s.S++[x],Prc g (F0++[(t,k+1)]++[(x,0)]) v w→∃ a ∈ (F0++[(t,k+1)]++[(x,0)]:List (Cl×Nat)).map (·.1),num (s.D++[x]) f≤num (s.D++[x]) a∧(if a=x then s.D.length+1 else s.low a)≤num (s.D++[x]) w
  rw[hm]
  intro f hf v hv hfv w hw hpr
  by_cases hvx:v=x
  ·subst hvx;exact absurd hpr hp0
  have hvS:v ∈ s.S:=by simpa[hvx] using hv
  have hfF:f ∈ s.F.map (·.1):=by
   rcases List.mem_append.1 hf with h1|h1
   ·exact h1
   ·obtain rfl:=List.mem_singleton.1 h1
    rw[nx,nS hvS] at hfv
    have:=@num_le s.D v
    omega
  rw[nF hfF,nS hvS] at hfv
  rcases hp hvx hpr with h1|⟨rfl,rfl⟩
  ·have hwS:w ∈ s.S:=by
    rcases List.mem_append.1 hw with h2|h2
    ·exact h2
    ·obtain rfl:=List.mem_singleton.1 h2
     exact absurd (h.pd v hvS w h1 hh) hn
   obtain ⟨a,ha,h2,h3⟩:=h.pl f hfF v hvS hfv w hwS h1
   exact ⟨a,List.mem_append_left _ ha,by rw[nF hfF,nF ha];exact h2,by rw[hlF ha,nS hwS];exact h3⟩
  ·refine ⟨f,hf,Nat.le_refl _,?_⟩
   rw[hlF hfF,nx]
   have:=(h.lo f hfF).1
   have:=@num_le s.D f
   omega
 ·show ∀ v ∈ s.S++[x],v ∉ (F0++[(t,k+1)]++[(x,0)]:List (Cl×Nat)).map (·.1)→∃ u ∈ s.S++[x],num (s.D++[x]) u<num (s.D++[x]) v∧Rch g v u
  rw[hm]
  intro v hv hvF
  have hvx:v≠x:=fun e=>hvF (by rw[e];simp)
  have hvS:v ∈ s.S:=by simpa[hvx] using hv
  obtain ⟨u,hu,h1,h2⟩:=h.bk v hvS fun hh=>hvF (List.mem_append_left _ hh)
  exact ⟨u,List.mem_append_left _ hu,by rw[nS hu,nS hvS];exact h1,h2⟩
 ·show ∀ f ∈ (F0++[(t,k+1)]++[(x,0)]:List (Cl×Nat)).map (·.1),∀ v ∈ s.S++[x],num (s.D++[x]) f≤num (s.D++[x]) v→Rch g f v
  rw[hm]
  intro f hf v hv hfv
  rcases List.mem_append.1 hf with h1|h1
  ·rcases List.mem_append.1 hv with h2|h2
   ·rw[nF h1,nS h2] at hfv
    exact h.fr f h1 v h2 hfv
   ·obtain rfl:=List.mem_singleton.1 h2
    exact (h.fr f h1 t (h.inS htF) (h.top hF h1).1).trans rtx
  ·obtain rfl:=List.mem_singleton.1 h1
   rcases List.mem_append.1 hv with h2|h2
   ·rw[nx,nS h2] at hfv
    have:=@num_le s.D v
    omega
   ·obtain rfl:=List.mem_singleton.1 h2
    exact .refl _
 ·show ∀ v ∈ s.S++[x],∃ f ∈ (F0++[(t,k+1)]++[(x,0)]:List (Cl×Nat)).map (·.1),num (s.D++[x]) f≤num (s.D++[x]) v
  rw[hm]
  intro v hv
  rcases List.mem_append.1 hv with h2|h2
  ·obtain ⟨f,hf,h3⟩:=h.bt v h2
   exact ⟨f,List.mem_append_left _ hf,by rw[nF hf,nS h2];exact h3⟩
  ·obtain rfl:=List.mem_singleton.1 h2
   exact ⟨v,by simp,Nat.le_refl _⟩
 ·intro p hp
  obtain ⟨h1,h2⟩:=h.ps p hp
  refine ⟨h1,fun c hc=>?_⟩
  obtain ⟨h3,h4⟩:=h2 c hc
  refine ⟨List.mem_append_left _ h3,fun hh=>?_⟩
  rcases List.mem_append.1 hh with h5|h5
  ·exact h4 h5
  ·obtain rfl:=List.mem_singleton.1 h5;exact hn h3
 ·intro c hc hcS
  have hcx:c≠x:=fun e=>hcS (by rw[e];simp)
  exact h.pc c (by simpa[hcx] using hc) fun hh=>hcS (List.mem_append_left _ hh)
end
end Go.Proofs.YtaheflnnigocgaaGreatDoor
end
