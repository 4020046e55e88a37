/- Proved: a part of what the law is proved with (the reckoner, contracts of functions, plain laws). Conditions: as each says. -/
import Derived.ChangeKeysEq
import Derived.Test.YtaheflnnigocgaaGreatDoorHPe
import Derived.Test.YtaheflnnigocgaaGreatDoorHZa
section
namespace Go.Proofs.YtaheflnnigocgaaGreatDoor
open Go Go.EYtaheflnnigocgaaGreatDoor
set_option maxRecDepth 100000
abbrev sameC (f:Fl) (c r:Int):Prop:=f.c=c∧f.r=r
def wS (c r:Int) (t:List UInt8):Bool→List Fl→List Fl
 | put,[]=>if put=true then [] else [⟨c,r,t⟩]
 | put,f::l=>(if put=false∧¬ lesC f c r then [⟨c,r,t⟩] else [])++((if sameC f c r then [] else [f])++wS c r t (put || decide (¬ lesC f c r)) l)
theorem wS_put {c r:Int} {t:List UInt8}:∀ {l:List Fl},(∀ f ∈ l,¬ sameC f c r)→wS c r t true l=l
 | [],_=>rfl
 | f::l,h=>by
  unfold wS
  rw[if_neg (by simp),if_neg (h f (by simp)),Bool.true_or,wS_put (fun g hg=>h g (by simp[hg]))]
  rfl
theorem les_not {f:Fl} {c r:Int} (h:lesC f c r):¬ sameC f c r:=by unfold lesC sameC at *;omega
theorem later {c r:Int} {f:Fl} {l:List Fl} (h:¬ lesC f c r) (ho:∀ g ∈ l,lessF f g):∀ g ∈ l,¬ sameC g c r∧¬ lesC g c r:=fun g hg=>by
 have:=ho g hg
 unfold lessF at this
 unfold lesC sameC at *
 omega
end Go.Proofs.YtaheflnnigocgaaGreatDoor
end
section
namespace Go.Proofs.YtaheflnnigocgaaGreatDoor
open Go Go.RowKit Go.EYtaheflnnigocgaaGreatDoor
set_option maxRecDepth 100000
theorem wS_split {c r:Int} {t:List UInt8}:∀ {l:List Fl},l.Pairwise lessF→(∀ f ∈ l,¬ sameC f c r)→∃ A B:List Fl,l=A++B∧wS c r t false l=A++⟨c,r,t⟩::B∧(∀ f ∈ A,lesC f c r)∧∀ f ∈ B,¬ lesC f c r
 | [],_,_=>⟨[],[],rfl,rfl,(fun _ h=>nomatch h),(fun _ h=>nomatch h)⟩
 | f::l,ho,hs=>by
  obtain ⟨h1,h2⟩:=List.pairwise_cons.1 ho
  by_cases h:lesC f c r
  ·obtain ⟨A,B,e1,e2,e3,e4⟩:=wS_split (t:=t) h2 fun g hg=>hs g (by simp[hg])
   refine ⟨f::A,B,by rw[e1];rfl,?_,fun g hg=>?_,e4⟩
   ·show (if false=false∧¬ lesC f c r then [⟨c,r,t⟩] else [])++((if sameC f c r then [] else [f])++wS c r t (false || decide (¬ lesC f c r)) l)=_
    rw[if_neg (fun hh=>hh.2 h),if_neg (les_not h),show decide (¬ lesC f c r)=false from decide_eq_false (fun hh=>hh h)]
    show f::wS c r t false l=_
    rw[e2]
    rfl
   ·rcases List.mem_cons.1 hg with rfl|hg
    ·exact h
    ·exact e3 g hg
  ·refine ⟨[],f::l,rfl,?_,(fun _ h=>nomatch h),fun g hg=>?_⟩
   ·show (if false=false∧¬ lesC f c r then [⟨c,r,t⟩] else [])++((if sameC f c r then [] else [f])++wS c r t (false || decide (¬ lesC f c r)) l)=_
    rw[if_pos ⟨rfl,h⟩,if_neg (hs f (by simp)),show decide (¬ lesC f c r)=true from decide_eq_true h]
    show [⟨c,r,t⟩]++([f]++wS c r t true l)=_
    rw[wS_put fun g hg=>hs g (by simp[hg])]
    rfl
   ·rcases List.mem_cons.1 hg with rfl|hg
    ·exact h
    ·have:=h1 g hg
     unfold lessF at this
     unfold lesC at *
     omega
theorem gOrd {l:List Fl} (h:gZ l):l.Pairwise lessF:=by
 have h1:=gUp h
 rw[List.pairwise_map] at h1
 exact h1
theorem good_of {l:List Fl} (hl:l.length≤200) (ho:l.Pairwise lessF) (hf:∀ f ∈ l,f.t≠[]∧textZ rfZ f.t=0∧okP f.c f.r):gZ l:=by
 refine ⟨hl,fun k hk=>?_⟩
 obtain ⟨h1,h2,h3⟩:=hf _ (List.getElem_mem hk)
 rw[stepZ_at hk,if_pos h3,if_pos,if_neg h1]
 ·exact h2
 ·intro h0
  exact (List.pairwise_iff_getElem.1 ho) (k - 1) k (by omega) hk (by omega)
theorem more_all {l:List Fl} (h:gZ l) {c:Cl} (ho:okP c.1 c.2) (hl:l.length<200) (hc:c ∉ vZ l) :
 gZ (wS c.1 c.2 [53] false l)∧(ntZ (wS c.1 c.2 [53] false l)).on=(ntZ l).on∧linksZ (ntZ l).on (vZ (wS c.1 c.2 [53] false l))=linksZ (ntZ l).on (vZ l)∧(qZ (wS c.1 c.2 [53] false l)).length=(qZ l).length+1∧
  ∀ d,hangsZ (ntZ (wS c.1 c.2 [53] false l)).g (vZ (wS c.1 c.2 [53] false l)) d=hangsZ (ntZ l).g (vZ l) d:=by
 have hs:∀ f ∈ l,¬ sameC f c.1 c.2:=fun f hf hh=>hc (List.mem_map.2 ⟨f,hf,Prod.ext hh.1 hh.2⟩)
 obtain ⟨A,B,e1,e2,e3,e4⟩:=wS_split (t:=[53]) (gOrd h) hs
 have hon0:=on_sub hc
 have hord:=gOrd h
 have hnd:=gNd h
 have hgT:∀ f ∈ l,f.t≠[]∧textZ rfZ f.t=0∧okP f.c f.r:=fun f hf=>gT h hf
 rw[e2]
 have hx53:rdZ.isF ([53]:List UInt8)=false:=by show decide (([53]:List UInt8).head?=some 61)=false;decide
 have hfs:fsL rdZ (A++⟨c.1,c.2,[53]⟩::B)=fsL rdZ l:=by
  rw[e1]
  show (A++⟨c.1,c.2,[53]⟩::B).filter _=(A++B).filter _
  rw[List.filter_append,List.filter_append,List.filter_cons_of_neg (p:=fun f:Fl=>rdZ.isF f.t) (by show ¬ rdZ.isF [53]=true;rw[hx53];decide)]
 have hon:(ntZ (A++⟨c.1,c.2,[53]⟩::B)).on=(ntZ l).on:=by
  funext x
  show (match (fsL rdZ (A++⟨c.1,c.2,[53]⟩::B)).find? fun f=>decide (clF f=x) with
   | some f=>rdZ.on f.t
   | none=>[])=(match (fsL rdZ l).find? fun f=>decide (clF f=x) with
   | some f=>rdZ.on f.t
   | none=>[])
  rw[hfs]
 have hvm:vZ (A++⟨c.1,c.2,[53]⟩::B)=A.map clF++c::B.map clF:=by
  show (A++⟨c.1,c.2,[53]⟩::B).map clF=_
  rw[List.map_append,List.map_cons]
 have hvl:vZ l=A.map clF++B.map clF:=by
  show l.map clF=_
  rw[e1,List.map_append]
 have hW:∀ x,x ∈ A.map clF++c::B.map clF↔x=c∨x ∈ A.map clF++B.map clF:=fun x=>by
  rw[List.mem_append,List.mem_cons,List.mem_append]
  exact ⟨fun h=>h.elim (fun h=>.inr (.inl h)) fun h=>h.elim .inl fun h=>.inr (.inr h),fun h=>h.elim (fun h=>.inr (.inl h)) fun h=>h.elim .inl fun h=>.inr (.inr h)⟩
 have hgm:(ntZ (A++⟨c.1,c.2,[53]⟩::B)).g=grV (ntZ l).on (A.map clF++c::B.map clF):=by
  show Gr.mk (ntZ (A++⟨c.1,c.2,[53]⟩::B)).on (fun x=>decide (x ∈ vZ (A++⟨c.1,c.2,[53]⟩::B)))=_
  rw[hon,hvm]
 have hgl:(ntZ l).g=grV (ntZ l).on (A.map clF++B.map clF):=by
  show Gr.mk (ntZ l).on (fun x=>decide (x ∈ vZ l))=_
  rw[hvl]
 refine ⟨good_of ?_ ?_ fun f hf=>?_,hon,?_,?_,fun d=>?_⟩
 ·rw[e1,List.length_append] at hl
  rw[List.length_append,List.length_cons]
  omega
 ·rw[e1] at hord
  obtain ⟨p1,p2,p3⟩:=List.pairwise_append.1 hord
  refine List.pairwise_append.2 ⟨p1,List.pairwise_cons.2 ⟨fun g hg=>?_,p2⟩,fun f hf g hg=>?_⟩
  ·have h1:=e4 g hg
   have h2:=hs g (by rw[e1];exact List.mem_append_right _ hg)
   unfold lesC at h1
   unfold sameC at h2
   show c.2<g.r∨c.2=g.r∧c.1<g.c
   omega
  ·rcases List.mem_cons.1 hg with rfl|hg
   ·exact e3 f hf
   ·exact p3 f hf g hg
 ·rcases List.mem_append.1 hf with hf|hf
  ·exact hgT f (by rw[e1];exact List.mem_append_left _ hf)
  ·rcases List.mem_cons.1 hf with rfl|hf
   ·exact ⟨by simp,rfl,ho⟩
   ·exact hgT f (by rw[e1];exact List.mem_append_right _ hf)
 ·rw[hvm,hvl]
  unfold linksZ
  rw[List.flatMap_append,List.flatMap_append,List.flatMap_cons,hon0]
  rfl
 ·show (partsZ (ntZ (A++⟨c.1,c.2,[53]⟩::B)).g (vZ (A++⟨c.1,c.2,[53]⟩::B))).length=(partsZ (ntZ l).g (vZ l)).length+1
  rw[hgm,hgl,hvm,hvl]
  rw[hvl] at hc
  refine more_len hc hon0 hW ?_
  rw[← hvl]
  exact hnd
 ·rw[hgm,hgl,hvm,hvl]
  exact more_hangs hon0 d
end Go.Proofs.YtaheflnnigocgaaGreatDoor
end
section
namespace Go.Proofs.YtaheflnnigocgaaGreatDoor
open Go Go.RowKit Go.EYtaheflnnigocgaaGreatDoor
set_option maxRecDepth 100000
theorem cell_eq (x y:Int) (w:World):(Op.equalIn 9999 24 (.agg #[.int .i64 x,.int .i64 y]) (.agg #[.int .i64 x,.int .i64 y])).run Tryz.prog w=.ok true w:=by
 obtain ⟨ti,h1,h2,u,v,h3,h4,h5⟩:=eqC_ok (adr:=fun _=>none) (M:=fun _=>False) fits w 8 24 [.d (iD x),.d (iD y)] [.d (iD x),.d (iD y)] [.int .i64 x,.int .i64 y] [.int .i64 x,.int .i64 y] _ rfl 9999 (by omega) ⟨.v _,.v _,trivial⟩ ⟨.v _,.v _,trivial⟩
 cases h1
 simp only[if_true] at h3 h4
 subst h3
 subst h4
 rw[h5]
 simp[andPD]
theorem link_eq (a b c d:Int):EqF Tryz.prog 33 [.d (iD a),.d (iD b),.d (iD c),.d (iD d)] [.d (iD a),.d (iD b),.d (iD c),.d (iD d)] ⟨True,inferInstance⟩:=by
 intro adr M w us vs hu hv
 match us,hu with
 | [u1,u2,u3,u4],⟨h1,h2,h3,h4,_⟩ =>
  obtain rfl:=DenD.v_inv h1
  obtain rfl:=DenD.v_inv h2
  obtain rfl:=DenD.v_inv h3
  obtain rfl:=DenD.v_inv h4
  match vs,hv with
  | [v1,v2,v3,v4],⟨k1,k2,k3,k4,_⟩ =>
   obtain rfl:=DenD.v_inv k1
   obtain rfl:=DenD.v_inv k2
   obtain rfl:=DenD.v_inv k3
   obtain rfl:=DenD.v_inv k4
   refine ⟨by kernel_rfl,?_⟩
   show (Op.equalIn (9999+1) 33 (.agg #[.int .i64 a,.int .i64 b,.int .i64 c,.int .i64 d]) (.agg #[.int .i64 a,.int .i64 b,.int .i64 c,.int .i64 d])).run Tryz.prog w=.ok true w
   have ag:=Tryz.isAgg24
   have sz:=Tryz.sizeOf24
   have p0:∀ w,(part 24 #[.int .i64 a,.int .i64 b,.int .i64 c,.int .i64 d] 0).run Tryz.prog w=.ok (.agg #[.int .i64 a,.int .i64 b]) w:=fun w=>by simp[part,ag,sz]
   have p1:∀ w,(part 24 #[.int .i64 a,.int .i64 b,.int .i64 c,.int .i64 d] 2).run Tryz.prog w=.ok (.agg #[.int .i64 c,.int .i64 d]) w:=fun w=>by simp[part,ag,sz]
   have hs:Tryz.prog.cellsOf 24=2:=by kernel_rfl
   obtain ⟨i,hi⟩:=Go.info_of_underlying (P:=Tryz.prog) Tryz.underlying24
   rw[Go.run_equalIn_array w 9999 _ _ Tryz.underlying33 hi,hs]
   simp[Op.eqItems,List.range_succ,p0,p1,cell_eq]
end Go.Proofs.YtaheflnnigocgaaGreatDoor
end
section
namespace Go.Proofs.YtaheflnnigocgaaGreatDoor
open Go Go.EYtaheflnnigocgaaGreatDoor
set_option maxRecDepth 100000
set_option maxHeartbeats 4000000
variable {gl:List (Nat×List D)}
theorem rAhead_d (f:Fl) (c r:Int):FnP Tryz.prog gl 19 [cellD f.c f.r,cellD c r] (.b (lesC f c r) inferInstance):=Ahead_d f.c f.r c r
theorem map_snoc (l:List Fl) (f:Fl):l.map flD++[flD f]=(l++[f]).map flD:=by simp
theorem wS_cons (c r:Int) (t:List UInt8) (put:Bool) (f:Fl) (l:List Fl):wS c r t put (f::l)=(if put=false∧¬ lesC f c r then [⟨c,r,t⟩] else [])++((if sameC f c r then [] else [f])++wS c r t (put || decide (¬ lesC f c r)) l):=rfl
theorem rWith_d (c r:Int) (t:List UInt8) (l:List Fl) (hl:l.length≤65536):FnP Tryz.prog gl 9 [.lst 3 (l.map flD),cellD c r,.str t] (.lst 3 ((wS c r t (decide (t=[])) l).map flD)):=by
 have hlen:(l.map flD).length=l.length:=List.length_map _
 refine fnP_of_vc (nv:=9999) (cu:=[]) fits mixed Tryz.func9 rfl hoB rfl ?_
 ((repeat' ((conv=>whnf);first|exact .intro|refine .ya ?_|refine .na ?_|refine .ys ?_|refine .ns ?_|refine .neg (fun _=>?_) (fun _=>?_)|refine .mk (fun _=>?_) (fun _=>?_)|refine .mk ?_ ?_|refine AK ?_|refine AT ?_|fail));all_goals conv=>whnf)
 refine ⟨{ σ:=Nat×Bool×List Fl,fr:=fun q=>[(9,.c (.d (iD (q.1:Int)))),(8,.c (.d (tD q.2.1))),(7,.c (.all 3 1))],ks:=[],L:=fun q=>[(1,.rows 3 (q.2.2.map flD) 32)],ex:=1,I:=fun q=>q.1≤l.length∧q.2.2.length≤2 * q.1∧wS c r t (decide (t=[])) l=q.2.2++wS c r t q.2.1 (l.drop q.1),μ:=fun q=>l.length - q.1 },⟨(0,decide (t=[]),[]),⟨Nat.zero_le _,Nat.zero_le _,rfl⟩,?_⟩,fun q hq=>?_⟩
 ·((repeat' first|exact rfl|((conv=>whnf);first|done|exact suL|refine And.intro ?_ ?_|fail));all_goals conv=>whnf)
  all_goals first
   | exact .inr (.inr (.inr (LeD.b (by simp))))
   | exact ⟨3,_,rfl,by decide,Nat.le_refl _⟩
 ·obtain ⟨k,p,out⟩:=q
  obtain ⟨h1,h2,h3⟩:=hq
  simp only at h1 h2 h3
  have ho:(out.map flD).length≤131072:=by rw[List.length_map];omega
  by_cases hlt:k<l.length
  ·have h4:(k:Int)<((l.map flD).length:Nat):=by omega
   have e0:IntKind.i64.wrap ((k:Int)+1)=((k+1:Nat):Int):=by rw[wrapI (by omega)];rfl
   have g1:=get_map (f:=flD) hlt
   have c1:=rAhead_d (gl:=gl) l[k] c r
   rw[List.drop_eq_getElem_cons hlt] at h3
   rw[wS_cons] at h3
   generalize l[k]=f at *
   obtain ⟨fc,fr,ft⟩:=f
   by_cases ha:lesC ⟨fc,fr,ft⟩ c r
   ·rw[if_neg (fun hh=>hh.2 ha),if_neg (les_not ha),show decide (¬ lesC ⟨fc,fr,ft⟩ c r)=false from decide_eq_false (fun hh=>hh ha),Bool.or_false] at h3
    have hs:¬ (fc=c∧fr=r):=les_not ha
    cases p
    ·((repeat' ((conv=>whnf);first|exact .intro|refine .ya ?_|refine .na ?_|refine .ys ?_|refine .ns ?_|refine .neg (fun _=>?_) (fun _=>?_)|refine .mk (fun _=>?_) (fun _=>?_)|refine .inl (.inl (X1 (c1) ?_))|refine .inl (X1 (c1) ?_)|refine X1 (c1) ?_|(first|refine ⟨Int.natCast_nonneg _,_,g1,?_⟩|refine ⟨⟨rfl,by show (_+1) * 32≤_;omega,by show _+1≤maxLen;unfold maxLen;omega⟩,?_⟩|refine ⟨⟨rfl,by simp only[List.length_cons,List.length_nil];show (_+1) * 32≤_;omega,by simp only[List.length_cons,List.length_nil];show _+1≤maxLen;unfold maxLen;omega⟩,?_⟩)|refine .mk ?_ ?_|refine AK ?_|refine AT ?_|fail));all_goals conv=>whnf)
     all_goals first
      | (exfalso;rename_i hx;exact hs ⟨hx.1,hx.2.1⟩)
      | (exfalso;rename_i hx;exact hx ⟨hs.1,hs.2,trivial⟩)
      | skip
     all_goals refine ⟨(k+1,false,out++[⟨fc,fr,ft⟩]),⟨⟨hlt,by simp only[List.length_append,List.length_cons,List.length_nil];omega,by rw[h3];simp⟩,by show l.length - (k+1)<l.length - k;omega⟩,?_⟩
     all_goals ((repeat' first|exact rfl|((conv=>whnf);first|done|exact suL|refine And.intro ?_ ?_|fail));all_goals conv=>whnf)
     all_goals first
      | exact ceq e0
      | exact map_snoc _ _
      | exact .inr (.inr (.inr (LeD.bt rfl)))
      | exact (by simp)
    ·((repeat' ((conv=>whnf);first|exact .intro|refine .ya ?_|refine .na ?_|refine .ys ?_|refine .ns ?_|refine .neg (fun _=>?_) (fun _=>?_)|refine .mk (fun _=>?_) (fun _=>?_)|refine .inl (.inl (X1 (c1) ?_))|refine .inl (X1 (c1) ?_)|refine X1 (c1) ?_|(first|refine ⟨Int.natCast_nonneg _,_,g1,?_⟩|refine ⟨⟨rfl,by show (_+1) * 32≤_;omega,by show _+1≤maxLen;unfold maxLen;omega⟩,?_⟩|refine ⟨⟨rfl,by simp only[List.length_cons,List.length_nil];show (_+1) * 32≤_;omega,by simp only[List.length_cons,List.length_nil];show _+1≤maxLen;unfold maxLen;omega⟩,?_⟩)|refine .mk ?_ ?_|refine AK ?_|refine AT ?_|fail));all_goals conv=>whnf)
     all_goals first
      | (exfalso;rename_i hx;exact hs ⟨hx.1,hx.2.1⟩)
      | (exfalso;rename_i hx;exact hx ⟨hs.1,hs.2,trivial⟩)
      | skip
     all_goals refine ⟨(k+1,true,out++[⟨fc,fr,ft⟩]),⟨⟨hlt,by simp only[List.length_append,List.length_cons,List.length_nil];omega,by rw[h3];simp⟩,by show l.length - (k+1)<l.length - k;omega⟩,?_⟩
     all_goals ((repeat' first|exact rfl|((conv=>whnf);first|done|exact suL|refine And.intro ?_ ?_|fail));all_goals conv=>whnf)
     all_goals first
      | exact ceq e0
      | exact map_snoc _ _
      | exact .inr (.inr (.inr (LeD.bt rfl)))
      | exact (by simp)
   ·rw[show decide (¬ lesC ⟨fc,fr,ft⟩ c r)=true from decide_eq_true ha,Bool.or_true] at h3
    by_cases hs:fc=c∧fr=r
    ·rw[if_pos (show sameC ⟨fc,fr,ft⟩ c r from hs)] at h3
     cases p
     ·rw[if_pos ⟨rfl,ha⟩] at h3
      ((repeat' ((conv=>whnf);first|exact .intro|refine .ya ?_|refine .na ?_|refine .ys ?_|refine .ns ?_|refine .neg (fun _=>?_) (fun _=>?_)|refine .mk (fun _=>?_) (fun _=>?_)|refine .inl (.inl (X1 (c1) ?_))|refine .inl (X1 (c1) ?_)|refine X1 (c1) ?_|(first|refine ⟨Int.natCast_nonneg _,_,g1,?_⟩|refine ⟨⟨rfl,by show (_+1) * 32≤_;omega,by show _+1≤maxLen;unfold maxLen;omega⟩,?_⟩|refine ⟨⟨rfl,by simp only[List.length_append,List.length_cons,List.length_nil];show (_+1) * 32≤_;omega,by simp only[List.length_append,List.length_cons,List.length_nil];show _+1≤maxLen;unfold maxLen;omega⟩,?_⟩)|refine .mk ?_ ?_|refine AK ?_|refine AT ?_|fail));all_goals conv=>whnf)
      all_goals first
       | (exfalso;rename_i hx;exact hs ⟨hx.1,hx.2.1⟩)
       | (exfalso;rename_i hx;exact hx ⟨hs.1,hs.2,trivial⟩)
       | skip
      all_goals refine ⟨(k+1,true,out++[⟨c,r,t⟩]),⟨⟨hlt,by simp only[List.length_append,List.length_cons,List.length_nil];omega,by rw[h3];simp⟩,by show l.length - (k+1)<l.length - k;omega⟩,?_⟩
      all_goals ((repeat' first|exact rfl|((conv=>whnf);first|done|exact suL|refine And.intro ?_ ?_|fail));all_goals conv=>whnf)
      all_goals first
       | exact ceq e0
       | exact map_snoc _ _
       | exact .inr (.inr (.inr (LeD.bt rfl)))
       | exact (by simp)
     ·rw[if_neg (by simp)] at h3
      ((repeat' ((conv=>whnf);first|exact .intro|refine .ya ?_|refine .na ?_|refine .ys ?_|refine .ns ?_|refine .neg (fun _=>?_) (fun _=>?_)|refine .mk (fun _=>?_) (fun _=>?_)|refine .inl (.inl (X1 (c1) ?_))|refine .inl (X1 (c1) ?_)|refine X1 (c1) ?_|(first|refine ⟨Int.natCast_nonneg _,_,g1,?_⟩|refine ⟨⟨rfl,by show (_+1) * 32≤_;omega,by show _+1≤maxLen;unfold maxLen;omega⟩,?_⟩|refine ⟨⟨rfl,by simp only[List.length_cons,List.length_nil];show (_+1) * 32≤_;omega,by simp only[List.length_cons,List.length_nil];show _+1≤maxLen;unfold maxLen;omega⟩,?_⟩)|refine .mk ?_ ?_|refine AK ?_|refine AT ?_|fail));all_goals conv=>whnf)
      all_goals first
       | (exfalso;rename_i hx;exact hs ⟨hx.1,hx.2.1⟩)
       | (exfalso;rename_i hx;exact hx ⟨hs.1,hs.2,trivial⟩)
       | skip
      all_goals refine ⟨(k+1,true,out),⟨⟨hlt,by simp only;omega,by rw[h3];simp⟩,by show l.length - (k+1)<l.length - k;omega⟩,?_⟩
      all_goals ((repeat' first|exact rfl|((conv=>whnf);first|done|exact suL|refine And.intro ?_ ?_|fail));all_goals conv=>whnf)
      all_goals first
       | exact ceq e0
       | exact map_snoc _ _
       | exact .inr (.inr (.inr (LeD.bt rfl)))
       | exact (by simp)
    ·rw[if_neg (show ¬ sameC ⟨fc,fr,ft⟩ c r from hs)] at h3
     cases p
     ·rw[if_pos ⟨rfl,ha⟩] at h3
      ((repeat' ((conv=>whnf);first|exact .intro|refine .ya ?_|refine .na ?_|refine .ys ?_|refine .ns ?_|refine .neg (fun _=>?_) (fun _=>?_)|refine .mk (fun _=>?_) (fun _=>?_)|refine .inl (.inl (X1 (c1) ?_))|refine .inl (X1 (c1) ?_)|refine X1 (c1) ?_|(first|refine ⟨Int.natCast_nonneg _,_,g1,?_⟩|refine ⟨⟨rfl,by show (_+1) * 32≤_;omega,by show _+1≤maxLen;unfold maxLen;omega⟩,?_⟩|refine ⟨⟨rfl,by simp only[List.length_append,List.length_cons,List.length_nil];show (_+1) * 32≤_;omega,by simp only[List.length_append,List.length_cons,List.length_nil];show _+1≤maxLen;unfold maxLen;omega⟩,?_⟩)|refine .mk ?_ ?_|refine AK ?_|refine AT ?_|fail));all_goals conv=>whnf)
      all_goals first
       | (exfalso;rename_i hx;exact hs ⟨hx.1,hx.2.1⟩)
       | (exfalso;rename_i hx;exact hx ⟨hs.1,hs.2,trivial⟩)
       | skip
      all_goals refine ⟨(k+1,true,out++[⟨c,r,t⟩]++[⟨fc,fr,ft⟩]),⟨⟨hlt,by simp only[List.length_append,List.length_cons,List.length_nil];omega,by rw[h3];simp⟩,by show l.length - (k+1)<l.length - k;omega⟩,?_⟩
      all_goals ((repeat' first|exact rfl|((conv=>whnf);first|done|exact suL|refine And.intro ?_ ?_|fail));all_goals conv=>whnf)
      all_goals first
       | exact ceq e0
       | exact map_snoc _ _
       | exact .inr (.inr (.inr (LeD.bt rfl)))
       | exact (by simp)
     ·rw[if_neg (by simp)] at h3
      ((repeat' ((conv=>whnf);first|exact .intro|refine .ya ?_|refine .na ?_|refine .ys ?_|refine .ns ?_|refine .neg (fun _=>?_) (fun _=>?_)|refine .mk (fun _=>?_) (fun _=>?_)|refine .inl (.inl (X1 (c1) ?_))|refine .inl (X1 (c1) ?_)|refine X1 (c1) ?_|(first|refine ⟨Int.natCast_nonneg _,_,g1,?_⟩|refine ⟨⟨rfl,by show (_+1) * 32≤_;omega,by show _+1≤maxLen;unfold maxLen;omega⟩,?_⟩|refine ⟨⟨rfl,by simp only[List.length_cons,List.length_nil];show (_+1) * 32≤_;omega,by simp only[List.length_cons,List.length_nil];show _+1≤maxLen;unfold maxLen;omega⟩,?_⟩)|refine .mk ?_ ?_|refine AK ?_|refine AT ?_|fail));all_goals conv=>whnf)
      all_goals first
       | (exfalso;rename_i hx;exact hs ⟨hx.1,hx.2.1⟩)
       | (exfalso;rename_i hx;exact hx ⟨hs.1,hs.2,trivial⟩)
       | skip
      all_goals refine ⟨(k+1,true,out++[⟨fc,fr,ft⟩]),⟨⟨hlt,by simp only[List.length_append,List.length_cons,List.length_nil];omega,by rw[h3];simp⟩,by show l.length - (k+1)<l.length - k;omega⟩,?_⟩
      all_goals ((repeat' first|exact rfl|((conv=>whnf);first|done|exact suL|refine And.intro ?_ ?_|fail));all_goals conv=>whnf)
      all_goals first
       | exact ceq e0
       | exact map_snoc _ _
       | exact .inr (.inr (.inr (LeD.bt rfl)))
       | exact (by simp)
  ·have h4:¬ (k:Int)<((l.map flD).length:Nat):=by omega
   obtain rfl:k=l.length:=by omega
   rw[List.drop_of_length_le (Nat.le_refl _)] at h3
   cases p
   ·((repeat' ((conv=>whnf);first|exact .intro|refine .ya ?_|refine .na ?_|refine .ys ?_|refine .ns ?_|refine .neg (fun _=>?_) (fun _=>?_)|refine .mk (fun _=>?_) (fun _=>?_)|(first|refine ⟨⟨rfl,by show (_+1) * 32≤_;omega,by show _+1≤maxLen;unfold maxLen;omega⟩,?_⟩|refine ⟨⟨rfl,by simp only[List.length_cons,List.length_nil];show (_+1) * 32≤_;omega,by simp only[List.length_cons,List.length_nil];show _+1≤maxLen;unfold maxLen;omega⟩,?_⟩)|refine .mk ?_ ?_|refine AK ?_|refine AT ?_|fail));all_goals conv=>whnf)
    all_goals exact LeD.of (by rw[h3];simp[wS];rfl)
   ·((repeat' ((conv=>whnf);first|exact .intro|refine .ya ?_|refine .na ?_|refine .ys ?_|refine .ns ?_|refine .neg (fun _=>?_) (fun _=>?_)|refine .mk (fun _=>?_) (fun _=>?_)|refine .mk ?_ ?_|refine AK ?_|refine AT ?_|fail));all_goals conv=>whnf)
    all_goals exact LeD.of (by rw[h3];simp[wS];rfl)
end Go.Proofs.YtaheflnnigocgaaGreatDoor
end
