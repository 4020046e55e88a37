/- Proved: a part of what the law is proved with (the reckoner, contracts of functions, plain laws). Conditions: as each says. -/
import Derived.Test.YtaheflnnigocgaaGreatDoorProg
import Derived.Laws.StructEq
import Derived.WalkKit
import Derived.ScopeJumps
import Derived.Test.YtaheflnnigocgaaGreatDoorHEv
import Derived.Test.YtaheflnnigocgaaGreatDoorHFo
import Derived.Test.YtaheflnnigocgaaGreatDoorHPe
import Derived.Test.YtaheflnnigocgaaGreatDoorHTjb
section
namespace Go.Proofs.YtaheflnnigocgaaGreatDoor
set_option maxRecDepth 100000
theorem nodup_len:∀ {K p:List Cl},K.Nodup→(∀ x ∈ K,x ∈ p)→K.length≤p.length
 | [],_,_,_=>Nat.zero_le _
 | a::K,p,hn,hs=>by
  obtain ⟨h1,h2⟩:=List.nodup_cons.1 hn
  have ha:=hs a (by simp)
  have:=nodup_len (K:=K) (p:=p.erase a) h2 fun x hx=>(List.mem_erase_of_ne fun (e:x=a)=>h1 (e ▸ hx)).2 (hs x (by simp[hx]))
  rw[List.length_erase_of_mem ha] at this
  have:=List.length_pos_of_mem ha
  simp only[List.length_cons]
  omega
theorem map_upd {α:Type} {D:List Cl} (hD:D.Nodup) {c:Cl} (hc:c ∈ D) (f:Cl→α) (v:α):(D.map f).set (D.idxOf c) v=D.map fun x=>if x=c then v else f x:=by
 have hi:=List.idxOf_lt_length_iff.2 hc
 apply List.ext_getElem
 ·simp
 intro i h1 h2
 rw[List.length_map] at h2
 rw[List.getElem_set,List.getElem_map,List.getElem_map]
 by_cases he:D.idxOf c=i
 ·subst he
  rw[if_pos rfl,if_pos (List.getElem_idxOf hi)]
 ·rw[if_neg he,if_neg]
  intro h
  apply he
  rw[← h]
  exact List.Nodup.idxOf_getElem hD i h2
theorem get_key {α:Type} {D:List Cl} {c:Cl} (hc:c ∈ D) (f:Cl→α):(D.map f)[D.idxOf c]?=some (f c):=by
 have hi:=List.idxOf_lt_length_iff.2 hc
 rw[List.getElem?_map,List.getElem?_eq_getElem hi,List.getElem_idxOf hi]
 rfl
theorem map_new {α:Type} {D:List Cl} {c:Cl} (hc:c ∉ D) (f:Cl→α) (v:α):(D++[c]).map (fun x=>if x=c then v else f x)=D.map f++[v]:=by
 rw[List.map_append]
 congr 1
 ·exact List.map_congr_left fun x hx=>if_neg fun (e:x=c)=>hc (e ▸ hx)
 ·simp
def undo (g:Gr) (D:List Cl) (c:Cl):Nat:=if c ∈ D then 0 else (g.on c).length+2
def todoF (g:Gr) (f:Cl×Nat):Nat:=(g.on f.1).length - f.2+1
def todo (g:Gr) (V:List Cl) (s:TS):Nat:=(V.map (undo g s.D)).sum+(s.F.map (todoF g)).sum
theorem sum_le {α:Type} {f h:α→Nat}:∀ {l:List α},(∀ x ∈ l,f x≤h x)→(l.map f).sum≤(l.map h).sum
 | [],_=>Nat.le_refl _
 | a::l,k=>by
  have h1:=k a (by simp)
  have h2:=sum_le (l:=l) fun x hx=>k x (by simp[hx])
  simp only[List.map_cons,List.sum_cons]
  omega
theorem sum_one {α:Type} {f h:α→Nat} {x:α} {d:Nat}:∀ {l:List α},x ∈ l→f x+d≤h x→(∀ y ∈ l,f y≤h y)→(l.map f).sum+d≤(l.map h).sum
 | a::l,hx,hd,k=>by
  simp only[List.map_cons,List.sum_cons]
  rcases List.mem_cons.1 hx with rfl|hx
  ·have:=sum_le (l:=l) fun y hy=>k y (by simp[hy])
   omega
  ·have:=sum_one hx hd fun y hy=>k y (by simp[hy])
   have:=k a (by simp)
   omega
theorem undo_le (g:Gr) (D:List Cl) (x c:Cl):undo g (D++[x]) c≤undo g D c:=by
 unfold undo
 by_cases h:c ∈ D
 ·rw[if_pos h,if_pos (List.mem_append_left _ h)];exact Nat.le_refl _
 ·rw[if_neg h]
  split
  ·exact Nat.zero_le _
  ·exact Nat.le_refl _
theorem todo_enter {g:Gr} {V:List Cl} {s:TS} {x:Cl} (hx:x ∈ V) (hn:x ∉ s.D):(V.map (undo g (s.D++[x]))).sum+((g.on x).length+2)≤(V.map (undo g s.D)).sum:=by
 refine sum_one hx ?_ fun y _=>undo_le g s.D x y
 unfold undo
 rw[if_pos (by simp),if_neg hn]
 omega
theorem todo_app (g:Gr) (F0:List (Cl×Nat)) (t:Cl) (k:Nat):((F0++[(t,k)]).map (todoF g)).sum=(F0.map (todoF g)).sum+((g.on t).length - k+1):=by
 rw[List.map_append,List.sum_append]
 rfl
theorem todo_step (g:Gr) (V:List Cl) (s:TS) (F0:List (Cl×Nat)) (t:Cl) (k:Nat) (hF:s.F=F0++[(t,k)]) (hk:k<(g.on t).length) (low:Cl→Nat):todo g V ⟨s.D,s.S,F0++[(t,k+1)],s.P,low⟩<todo g V s:=by
 unfold todo
 rw[hF,todo_app,todo_app]
 simp only
 omega
theorem todo_more (g:Gr) (V:List Cl) (s:TS) (F0:List (Cl×Nat)) (t x:Cl) (k:Nat) (hF:s.F=F0++[(t,k)]) (hk:k<(g.on t).length) (hx:x ∈ V) (hn:x ∉ s.D) (S:List Cl) (low:Cl→Nat):todo g V ⟨s.D++[x],S,F0++[(t,k+1)]++[(x,0)],s.P,low⟩<todo g V s:=by
 have h1:=todo_enter (g:=g) hx hn
 unfold todo
 rw[hF,todo_app,todo_app,todo_app]
 simp only
 omega
theorem todo_back (g:Gr) (V:List Cl) (s:TS) (F0:List (Cl×Nat)) (t:Cl) (k:Nat) (hF:s.F=F0++[(t,k)]) (S:List Cl) (P:List (List Cl)) (low:Cl→Nat):todo g V ⟨s.D,S,F0,P,low⟩<todo g V s:=by
 unfold todo
 rw[hF,todo_app]
 simp only
 omega
theorem len_parts {g:Gr} {s:TS} (h:Inv g s):s.P.length≤s.D.length:=by
 have hd:∀ p ∈ s.P,∃ c,c ∈ p:=fun p hp=>List.exists_mem_of_ne_nil p (h.ps p hp).1.ne
 have key:∀ P:List (List Cl),P.Pairwise (fun p q=>∀ c ∈ p,c ∉ q)→(∀ p ∈ P,(∃ c,c ∈ p)∧∀ c ∈ p,c ∈ s.D)→∃ H:List Cl,H.length=P.length∧H.Nodup∧∀ c ∈ H,c ∈ s.D∧∃ p ∈ P,c ∈ p:=fun P=>by
  induction P with
  | nil=>exact fun _ _=>⟨[],rfl,List.nodup_nil,fun c hc=>nomatch hc⟩
  | cons p P ih =>
   intro h1 h2
   obtain ⟨h3,h4⟩:=List.pairwise_cons.1 h1
   obtain ⟨H,g1,g2,g3⟩:=ih h4 fun q hq=>h2 q (by simp[hq])
   obtain ⟨⟨c,hc⟩,hcD⟩:=h2 p (by simp)
   refine ⟨c::H,by simp[g1],List.nodup_cons.2 ⟨fun hcH=>?_,g2⟩,fun d hd=>?_⟩
   ·obtain ⟨_,q,hq,hcq⟩:=g3 c hcH
    exact h3 q hq c hc hcq
   ·rcases List.mem_cons.1 hd with rfl|hd
    ·exact ⟨hcD d hc,p,by simp,hc⟩
    ·obtain ⟨g4,q,hq,g5⟩:=g3 d hd
     exact ⟨g4,q,by simp[hq],g5⟩
 obtain ⟨H,g1,g2,g3⟩:=key s.P h.pp fun p hp=>⟨hd p hp,fun c hc=>((h.ps p hp).2 c hc).1⟩
 rw[← g1]
 exact nodup_len g2 fun c hc=>(g3 c hc).1
structure Parts (g:Gr) (V:List Cl) (P:List (List Cl)):Prop where
 part:∀ p ∈ P,Part g p
 sub:∀ p ∈ P,∀ c ∈ p,g.has c=true
 all:∀ c ∈ V,∃ p ∈ P,c ∈ p
 two:P.Pairwise fun p q=>∀ c ∈ p,c ∉ q
 up:∀ p ∈ P,p.Pairwise les
theorem Inv.done {g:Gr} {s:TS} (h:Inv g s) (hF:s.F=[]) {V:List Cl} (hV:∀ c ∈ V,c ∈ s.D):Parts g V s.P:=by
 have hS:=h.none hF
 exact ⟨fun p hp=>(h.ps p hp).1,fun p hp c hc=>h.dh c ((h.ps p hp).2 c hc).1,fun c hc=>h.pc c (hV c hc) (by rw[hS];simp),h.pp,h.pn⟩
theorem Parts.perm {g:Gr} {V:List Cl} {P Q:List (List Cl)} (h:Parts g V P) (hp:Q.Perm P):Parts g V Q :=
 ⟨fun p hq=>h.part p (hp.mem_iff.1 hq),fun p hq=>h.sub p (hp.mem_iff.1 hq),fun c hc=>by
  obtain ⟨p,h1,h2⟩:=h.all c hc
  exact ⟨p,hp.mem_iff.2 h1,h2⟩,(hp.pairwise_iff fun {a b} hab c hc hca=>hab c hca hc).2 h.two,fun p hq=>h.up p (hp.mem_iff.1 hq)⟩
theorem les_irr (a:Cl):¬ les a a:=by unfold les;omega
theorem les_asym {a b:Cl} (h:les a b) (k:les b a):False:=by unfold les at *;omega
theorem les_tri (a b:Cl):les a b∨a=b∨les b a:=by
 obtain ⟨a1,a2⟩:=a
 obtain ⟨b1,b2⟩:=b
 unfold les
 simp only[Prod.mk.injEq]
 omega
theorem les_ext:∀ {l m:List Cl},l.Pairwise les→m.Pairwise les→(∀ p,p ∈ l↔p ∈ m)→l=m
 | [],[],_,_,_=>rfl
 | [],q::m,_,_,h=>by have:=(h q).2 (by simp);cases this
 | p::l,[],_,_,h=>by have:=(h p).1 (by simp);cases this
 | p::l,q::m,h1,h2,h=>by
  obtain ⟨a1,a2⟩:=List.pairwise_cons.1 h1
  obtain ⟨b1,b2⟩:=List.pairwise_cons.1 h2
  have hpq:p=q:=by
   rcases List.mem_cons.1 ((h p).1 (by simp)) with e|hp
   ·exact e
   ·rcases List.mem_cons.1 ((h q).2 (by simp)) with e|hq
    ·exact e.symm
    ·exact (les_asym (a1 q hq) (b1 p hp)).elim
  subst hpq
  refine congrArg (List.cons p) (les_ext a2 b2 fun x=>⟨fun hx=>?_,fun hx=>?_⟩)
  ·rcases List.mem_cons.1 ((h x).1 (by simp[hx])) with e|hm
   ·exact (les_irr p (by have:=a1 x hx;rwa [e] at this)).elim
   ·exact hm
  ·rcases List.mem_cons.1 ((h x).2 (by simp[hx])) with e|hm
   ·exact (les_irr p (by have:=b1 x hx;rwa [e] at this)).elim
   ·exact hm
def headLes (p q:List Cl):Prop:=∀ a b,p.head?=some a→q.head?=some b→les a b
structure Row (g:Gr) (V:List Cl) (Q:List (List Cl)):Prop where
 ps:Parts g V Q
 row:Q.Pairwise headLes
theorem Part.eq {g:Gr} {p q:List Cl} (hp:Part g p) (hq:Part g q) (up:p.Pairwise les) (uq:q.Pairwise les) {c:Cl} (h1:c ∈ p) (h2:c ∈ q):p=q :=
 les_ext up uq fun v=>(hp.scc c h1 v).trans (hq.scc c h2 v).symm
theorem row_ext:∀ {P Q:List (List Cl)},P.Pairwise headLes→Q.Pairwise headLes→(∀ p ∈ P,p≠[])→(∀ p,p ∈ P↔p ∈ Q)→P=Q
 | [],[],_,_,_,_=>rfl
 | [],q::m,_,_,_,h=>by have:=(h q).2 (by simp);cases this
 | p::l,[],_,_,_,h=>by have:=(h p).1 (by simp);cases this
 | p::l,q::m,h1,h2,hn,h=>by
  obtain ⟨a1,a2⟩:=List.pairwise_cons.1 h1
  obtain ⟨b1,b2⟩:=List.pairwise_cons.1 h2
  have hd:∀ x ∈ p::l,∃ a,x.head?=some a:=fun x hx=>by
   cases x with
   | nil=>exact absurd rfl (hn _ hx)
   | cons a r=>exact ⟨a,rfl⟩
  have hirr:∀ x ∈ p::l,¬ headLes x x:=fun x hx hh=>by
   obtain ⟨a,ha⟩:=hd x hx
   exact les_irr a (hh a a ha ha)
  have hpq:p=q:=by
   rcases List.mem_cons.1 ((h p).1 (by simp)) with e|hp
   ·exact e
   ·rcases List.mem_cons.1 ((h q).2 (by simp)) with e|hq
    ·exact e.symm
    ·obtain ⟨a,ha⟩:=hd p (by simp)
     obtain ⟨b,hb⟩:=hd q (by simp[hq])
     exact (les_asym (a1 q hq a b ha hb) (b1 p hp b a hb ha)).elim
  subst hpq
  refine congrArg (List.cons p) (row_ext a2 b2 (fun x hx=>hn x (by simp[hx])) fun x=>⟨fun hx=>?_,fun hx=>?_⟩)
  ·rcases List.mem_cons.1 ((h x).1 (by simp[hx])) with e|hm
   ·exact (hirr p (by simp) (by have:=a1 x hx;rwa [e] at this)).elim
   ·exact hm
  ·rcases List.mem_cons.1 ((h x).2 (by simp[hx])) with e|hm
   ·exact (hirr p (by simp) (by have:=b1 x hx;rwa [e] at this)).elim
   ·exact hm
theorem Row.one {g:Gr} {V:List Cl} {P Q:List (List Cl)} (hV:∀ c,g.has c=true→c ∈ V) (hP:Row g V P) (hQ:Row g V Q):P=Q:=by
 have key:∀ {P Q:List (List Cl)},Row g V P→Row g V Q→∀ p ∈ P,p ∈ Q:=fun {P Q} hP hQ p hp=>by
  obtain ⟨c,hc⟩:=List.exists_mem_of_ne_nil p (hP.ps.part p hp).ne
  obtain ⟨q,hq,hcq⟩:=hQ.ps.all c (hV c (hP.ps.sub p hp c hc))
  rw[Part.eq (hP.ps.part p hp) (hQ.ps.part q hq) (hP.ps.up p hp) (hQ.ps.up q hq) hc hcq]
  exact hq
 exact row_ext hP.row hQ.row (fun p hp=>(hP.ps.part p hp).ne) fun p=>⟨key hP hQ p,key hQ hP p⟩
noncomputable def partsZ (g:Gr) (V:List Cl):List (List Cl):=open Classical in if h:∃ Q,Row g V Q then Classical.choose h else []
theorem Row.eq {g:Gr} {V:List Cl} {Q:List (List Cl)} (hV:∀ c,g.has c=true→c ∈ V) (h:Row g V Q):Q=partsZ g V:=by
 unfold partsZ
 rw[dif_pos ⟨Q,h⟩]
 exact h.one hV (Classical.choose_spec (⟨Q,h⟩:∃ Q,Row g V Q))
end Go.Proofs.YtaheflnnigocgaaGreatDoor
end
section
namespace Go.Proofs.YtaheflnnigocgaaGreatDoor
open Go Go.RowKit Go.EYtaheflnnigocgaaGreatDoor
set_option maxRecDepth 100000
theorem check_cell (w:World) (em:Bool) (a b:Int):(Instr.checkKey em 10000 24 (.agg #[.int .i64 a,.int .i64 b])).run Tryz.prog w=.ok () w:=by kernel_rfl
theorem eq_cell (w:World) (a b c d:Int):∃ r:Bool,(Op.equal 24 (.agg #[.int .i64 a,.int .i64 b]) (.agg #[.int .i64 c,.int .i64 d])).run Tryz.prog w=.ok r w∧(r=true↔(Value.agg #[.int .i64 c,.int .i64 d])=.agg #[.int .i64 a,.int .i64 b]):=by
 refine ⟨a==c && b==d,?_,?_⟩
 ·have u3:=Tryz.underlying3
  have a3:=Tryz.isAgg3
  have z3:=Tryz.sizeOf3
  have hS:Tryz.prog.underlying 24=some (.struct (Tryz.prog.fieldsOf 24)):=by kernel_rfl
  have hp:Tryz.prog.stoodInHeld 24=false:=by kernel_rfl
  show (Op.equalIn (9999+1) 24 _ _).run Tryz.prog w=_
  rw[run_equalIn_agg w 9999 24 _ _ hS hp]
  simp only[Program.fieldsOf,Tryz.underlying24]
  go_simp
  by_cases h1:a=c <;> by_cases h2:b=d <;> simp[h1,h2]
 ·simp
  constructor
  ·rintro ⟨rfl,rfl⟩;exact ⟨rfl,rfl⟩
  ·rintro ⟨rfl,rfl⟩;exact ⟨rfl,rfl⟩
theorem key_cell:KeyT Tryz.prog 24 3:=by
 refine keyT_of (fun w em d x hs hx=>?_) (fun w d e x y hs he hx hy=>?_) Tryz.underlying24 (fun x y=>?_)
 ·rcases keyS_cases hs with ⟨h,_⟩|⟨h,_⟩|⟨_,a,b,rfl⟩
  ·cases h
  ·cases h
  ·cases hx
   exact check_cell w em a b
 ·rcases keyS_cases hs with ⟨h,_⟩|⟨h,_⟩|⟨_,a,b,rfl⟩
  ·cases h
  ·cases h
  ·rcases keyS_cases he with ⟨h,_⟩|⟨h,_⟩|⟨_,c,d,rfl⟩
   ·cases h
   ·cases h
   ·cases hx
    cases hy
    exact eq_cell w a b c d
 ·cases x <;> cases y <;> rfl
end Go.Proofs.YtaheflnnigocgaaGreatDoor
end
section
namespace Go.Proofs.YtaheflnnigocgaaGreatDoor
open Go Go.EYtaheflnnigocgaaGreatDoor
abbrev rowC (p:Int×Int):List D:=[iD p.1,iD p.2]
end Go.Proofs.YtaheflnnigocgaaGreatDoor
end
section
namespace Go.EYtaheflnnigocgaaGreatDoor
open Go Go.RowKit
theorem wp_scope_ghost {P:Program} {a:Act} {w:World} {Q:Exit→Act→World→Prop} {c rest:Code} (l:Nat) (J:Nat→Act→World→Prop) (hf:findLabel c l=some rest)
 (first:c.wp P (Exit.jump l (fun a w=>∃ k,J k a w) Q) a w)
 (pass:∀ k a w,J k a w→rest.wp P (Exit.jump l (fun a' w'=>∃ j,j<k∧J j a' w') Q) a w):(Code.scope c).wp P Q a w:=by
 have least:∀ a w,(∃ k,J k a w)→∃ k,J k a w∧∀ j,J j a w→k≤j:=by
  rintro a w ⟨k,hk⟩
  obtain ⟨j,hj,hmin⟩:=exists_least (p:=fun k=>J k a w) ⟨k,hk⟩
  exact ⟨j,hj,hmin⟩
 refine wp_scope_jumps l (fun a w=>∃ k,J k a w) (fun a w=>Classical.epsilon fun k=>J k a w∧∀ j,J j a w→k≤j) hf first ?_
 intro a w hJ
 have h0:=Classical.epsilon_spec (least a w hJ)
 refine Go.wp_mono (pass _ a w h0.1) ?_
 intro e a' w' h
 cases e with
 | goto l' =>
  obtain ⟨rfl,j,hj,hJ'⟩:=h
  have h1:=Classical.epsilon_spec (least a' w' ⟨j,hJ'⟩)
  exact ⟨rfl,⟨j,hJ'⟩,Nat.lt_of_le_of_lt (h1.2 j hJ') hj⟩
 | _=>exact h
def atLab (l:Nat) (J:List (Nat×V)→List (Nat×Blk)→Nat→Prop) (K:XK):XK:=fun x fr L n=>match x with
 | .goto l'=>(match Nat.beq l' l with
  | true=>J fr L n
  | false=>False)
 | x=>K x fr L n
def vcS (P:Program) (gl:List (Nat×List D)) (tt:List (Nat×TI)) (fx:List Nat) (N nv:Nat) (cu:List Nat) (a c rest:Code) (l:Nat) (fr:List (Nat×V)) (L:List (Nat×Blk)) (n:Nat) (K:XK):Prop :=
 vcCode P gl tt fx N nv cu a fr L n fun x fr1 L1 n1=>match x with
  | .normal=>fF (keepFr nv (dsts c) fr1) fun kept=>∃ S:Spec,vcCode P gl tt fx N nv cu c fr1 L1 n1 (atLab l (fun fr2 L2 n2=>∃ s,S.I s∧frzAll S.fz fr2 L2 fun fr4 L4=>sub3 fx n2 fr4 L4 (n1+S.ex) (S.fr s++kept) (S.L s++keepL S.ks L1)) K)∧
   ∀ s,S.I s→nK (n1+S.ex) fun n2=>fF (S.fr s++kept) fun fr2=>fBs (S.L s++keepL S.ks L1) fun L2=>vcCode P gl tt fx N nv cu rest fr2 L2 n2 (atLab l (fun fr3 L3 n3=>∃ s',(S.I s'∧S.μ s'<S.μ s)∧frzAll S.fz fr3 L3 fun fr4 L4=>sub3 fx n3 fr4 L4 n2 (S.fr s'++kept) (S.L s'++keepL S.ks L1)) K)
  | x=>K x fr1 L1 n1
section
variable {P:Program} {gl:List (Nat×List D)} {tt:List (Nat×TI)} {M0 S0:Nat→Prop} {w0:Base} {N nv:Nat} {cu:List Nat}
theorem QX.lab {K:XK} {Q:Exit→Act→World→Prop} {l:Nat} {J:List (Nat×V)→List (Nat×Blk)→Nat→Prop} {J':Act→World→Prop} (hQ:QX true gl M0 S0 w0 N K Q)
 (hJ:∀ fr L n adr a w,J fr L n→Ok gl M0 S0 w0 N adr fr L n a w→J' a w):QX true gl M0 S0 w0 N (atLab l J K) (Exit.jump l J' Q):=by
 refine ⟨?_,?_,?_,?_,?_,?_⟩
 ·intro fr1 L1 n1 adr1 a1 w1 hk hx1;exact hQ.1 _ _ _ _ _ _ hk hx1
 ·intro id fr1 L1 n1 adr1 a1 w1 hk hx1;exact hQ.2.1 _ _ _ _ _ _ _ hk hx1
 ·intro l' fr1 L1 n1 adr1 a1 w1 hk hx1
  replace hk:(match Nat.beq l' l with
   | true=>J fr1 L1 n1
   | false=>False):=hk
  cases hb:Nat.beq l' l with
  | false=>rw[hb] at hk;exact hk.elim
  | true=>rw[hb] at hk;exact ⟨Nat.eq_of_beq_eq_true hb,hJ _ _ _ _ _ _ hk hx1⟩
 ·intro fr1 L1 n1 adr1 a1 w1 hk hx1;exact hQ.2.2.2.1 _ _ _ _ _ _ hk hx1
 ·intro c fr1 L1 n1 adr1 x a1 w1 hk hx1 hd;exact hQ.2.2.2.2.1 _ _ _ _ _ _ _ _ hk hx1 hd
 ·intro e c a d v w h;exact hQ.2.2.2.2.2 rfl c a d v w h
theorem vcS_ok (hT:Fits P tt) (hm:P.follows .mixedOrders=true) {a c rest:Code} {l:Nat} (hl:findLabel c l=some rest) {fr:List (Nat×V)} {L:List (Nat×Blk)} {n:Nat} {adr:Env} {K:XK} {Q:Exit→Act→World→Prop} {act:Act} {w:World}
 (h:vcS P gl tt w0.fx N nv cu a c rest l fr L n K) (hx:Ok gl M0 S0 w0 N adr fr L n act w) (hQ:QX true gl M0 S0 w0 N K Q):(Code.seq a (.scope c)).wp P Q act w:=by
 refine wp_seq (vcCode_ok hT hm a _ _ _ adr _ _ act w h hx ⟨?_,?_,?_,?_,?_,?_⟩)
 ·intro fr1 L1 n1 adr1 a1 w1 hk hx1
  replace hk:fF (keepFr nv (dsts c) fr1) fun kept=>∃ S:Spec,vcCode P gl tt w0.fx N nv cu c fr1 L1 n1 (atLab l (fun fr2 L2 n2=>∃ s,S.I s∧frzAll S.fz fr2 L2 fun fr4 L4=>sub3 w0.fx n2 fr4 L4 (n1+S.ex) (S.fr s++kept) (S.L s++keepL S.ks L1)) K)∧
   ∀ s,S.I s→nK (n1+S.ex) fun n2=>fF (S.fr s++kept) fun fr2=>fBs (S.L s++keepL S.ks L1) fun L2=>vcCode P gl tt w0.fx N nv cu rest fr2 L2 n2 (atLab l (fun fr3 L3 n3=>∃ s',(S.I s'∧S.μ s'<S.μ s)∧frzAll S.fz fr3 L3 fun fr4 L4=>sub3 w0.fx n3 fr4 L4 n2 (S.fr s'++kept) (S.L s'++keepL S.ks L1)) K):=hk
  rw[fF_eq] at hk
  obtain ⟨S,h1,h2⟩:=hk
  refine wp_scope_ghost l (fun k a w=>∃ s adr,S.μ s=k∧S.I s∧Ok gl M0 S0 w0 N adr (S.fr s++keepFr nv (dsts c) fr1) (S.L s++keepL S.ks L1) (n1+S.ex) a w) hl (vcCode_ok hT hm c _ _ _ adr1 _ _ a1 w1 h1 hx1 ((hQ.lab ?_).sub fun _=>rfl)) ?_
  ·rintro fr2 L2 n2 adr2 a2 w2 ⟨s,hI,hs⟩ hx2
   obtain ⟨fr4,L4,hs4,hx4⟩:=frzAll_ok hs hx2
   exact ⟨S.μ s,s,_,rfl,hI,sub3_ok hx4 hs4⟩
  ·rintro _ a2 w2 ⟨s,adr2,rfl,hI,hok⟩
   have h3:=h2 s hI
   rw[nK_eq,fF_eq,fBs_eq] at h3
   refine vcCode_ok hT hm rest _ _ _ adr2 _ _ a2 w2 h3 hok ((hQ.lab ?_).sub fun _=>rfl)
   rintro fr3 L3 n3 adr3 a3 w3 ⟨s',⟨hI',hlt⟩,hs'⟩ hx3
   obtain ⟨fr4,L4,hs4,hx4⟩:=frzAll_ok hs' hx3
   exact ⟨S.μ s',hlt,s',_,rfl,hI',sub3_ok hx4 hs4⟩
 ·intro id fr1 L1 n1 adr1 a1 w1 hk hx1;exact hQ.2.1 _ _ _ _ _ _ _ hk hx1
 ·intro id fr1 L1 n1 adr1 a1 w1 hk hx1;exact hQ.2.2.1 _ _ _ _ _ _ _ hk hx1
 ·intro fr1 L1 n1 adr1 a1 w1 hk hx1;exact hQ.2.2.2.1 _ _ _ _ _ _ hk hx1
 ·intro c fr1 L1 n1 adr1 x a1 w1 hk hx1 hd;exact hQ.2.2.2.2.1 _ _ _ _ _ _ _ _ hk hx1 hd
 ·intro e c a d v w h;exact hQ.2.2.2.2.2 rfl c a d v w h
theorem fn_of_vcS (hT:Fits P tt) (hm:P.follows .mixedOrders=true) {f:FuncId} {fn:Func} {a c rest:Code} {l:Nat} {vs:List V} {H:List (Nat×Blk)} {h:Nat} {r:Ret} {H':List (Nat×Blk)} {n':Nat} {mv:List Nat} (hf:P.funcs[f]?=some fn) (hb:fn.body=some (.seq a (.scope c))) (hl:findLabel c l=some rest) (hB:HasBody P f) (hN:Nat.ble vs.length fn.ntmps=true)
 (hh:Nat.ble h n'=true) (hk:keysIn h H H'=true) (hmv:allIn H mv=true) (hv:vcS P gl tt (fxOf mv h) fn.ntmps nv cu a c rest l (argFr 0 vs) H h (endF (fxOf mv h) fn.results.toList tt r H' n')):Fn P gl f vs H h r H' n' mv :=
 fn_of_ok hT hm hf hb hB hN hh hk hmv fun M0 S0 w0 adr Q a w hfx hx hQ=>vcS_ok hT hm hl (by rw[hfx];exact hv) hx hQ
end
end Go.EYtaheflnnigocgaaGreatDoor
end
