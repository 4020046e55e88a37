/- Proved: a part of what the law is proved with (the reckoner, contracts of functions, plain laws). Conditions: as each says. -/
import Derived.Test.YtdpigpahfiachaaGreatDoorZJd
import Derived.Test.YtdpigpahfiachaaGreatDoorZZi
import Derived.Test.YtdpigpahfiachaaGreatDoorZZq
section
namespace Go.Proofs.YtdpigpahfiachaaGreatDoor
open Go Go.EYtdpigpahfiachaaGreatDoor
set_option maxRecDepth 100000
set_option maxHeartbeats 4000000
variable {gl:List (Nat×List D)}
abbrev lesC (f:Fl) (c r:Int):Prop:=f.r<r∨f.r=r∧f.c<c
def skF (c r:Int):List Fl→Nat
 | []=>0
 | f::t=>if lesC f c r then skF c r t+1 else 0
theorem skF_le (c r:Int):∀ l:List Fl,skF c r l≤l.length
 | []=>Nat.le_refl _
 | f::t=>by
  unfold skF
  split
  ·exact Nat.succ_le_succ (skF_le c r t)
  ·exact Nat.zero_le _
theorem skF_lt {c r:Int}:∀ {l:List Fl} {i:Nat} (_:i<skF c r l) (h:i<l.length),lesC l[i] c r
 | f::t,0,h,_=>by
  unfold skF at h
  split at h
  ·assumption
  ·omega
 | f::t,i+1,h,hl=>by
  unfold skF at h
  split at h
  ·exact skF_lt (l:=t) (i:=i) (by omega) (by simpa using hl)
  ·omega
theorem skF_at {c r:Int}:∀ {l:List Fl} (h:skF c r l<l.length),¬ lesC l[skF c r l] c r
 | f::t,h=>by
  by_cases hf:lesC f c r
  ·have e:skF c r (f::t)=skF c r t+1:=if_pos hf
   have h':skF c r t<t.length:=by rw[e] at h;simpa using h
   have:=skF_at h'
   simp only[e,List.getElem_cons_succ]
   exact this
  ·have e:skF c r (f::t)=0:=if_neg hf
   simp only[e,List.getElem_cons_zero]
   exact hf
theorem skF_eq {c r:Int} {l:List Fl} {k:Nat} (hk:k≤l.length) (h1:∀ i (h:i<l.length),i<k→lesC l[i] c r) (h2:∀ i (h:i<l.length),k≤i→¬ lesC l[i] c r):k=skF c r l:=by
 rcases Nat.lt_trichotomy k (skF c r l) with h|h|h
 ·have hl:=skF_le c r l
  exact absurd (skF_lt h (by omega)) (h2 k (by omega) (Nat.le_refl _))
 ·exact h
 ·exact absurd (h1 _ (by omega) h) (skF_at (by omega))
def isF (c r:Int) (l:List Fl):Bool:=match l[skF c r l]? with
 | some f=>decide (f.c=c∧f.r=r)
 | none=>false
theorem wcmp_d (f:Fl) (c r:Int):FnP Tryz.prog gl 103 [.agg (flD f),cellD c r] (iD (orZ (cmpZ f.r r) (cmpZ f.c c))):=by
 have c1:=Compare_d (gl:=gl) f.c f.r c r
 refine fnP_of_vc (nv:=9999) (cu:=[]) fits mixed Tryz.func103 rfl hoB rfl ?_
 ((repeat' ((conv=>whnf);first|exact .intro|refine .ya ?_|refine .na ?_|refine .ys ?_|refine .ns ?_|refine .neg (fun _=>?_) (fun _=>?_)|refine .mk (fun _=>?_) (fun _=>?_)|refine .inl (.inl (X1 (c1) ?_))|refine .inl (X1 (c1) ?_)|refine X1 (c1) ?_|refine .mk ?_ ?_|refine AK ?_|refine AT ?_|fail));all_goals conv=>whnf)
 exact LeD.rfl
theorem wcmp_lt (f:Fl) (c r:Int):orZ (cmpZ f.r r) (cmpZ f.c c)<0↔lesC f c r:=by
 unfold orZ cmpZ lesC
 (repeat' split) <;> omega
theorem wcmp_eq (f:Fl) (c r:Int):orZ (cmpZ f.r r) (cmpZ f.c c)=0↔(f.c=c∧f.r=r):=by
 unfold orZ cmpZ
 (repeat' split) <;> omega
theorem half {i j:Nat} (h:i+j<4611686018427387904):IntKind.i64.wrap ((IntKind.u64.wrap (IntKind.i64.wrap ((i:Int)+(j:Int)))).fdiv (2 ^ min (Int.toNat 1) IntKind.u64.bits))=(((i+j) / 2:Nat):Int):=by
 rw[wrapI (n:=(i:Int)+j) (by omega),show IntKind.u64.wrap ((i:Int)+(j:Int))=(i:Int)+j from IntWalk.u64_in _ (by omega)]
 have e:(2:Int) ^ min (Int.toNat 1) IntKind.u64.bits=2:=by decide
 rw[e,wrapI (by rw[Int.fdiv_eq_ediv_of_nonneg _ (by omega)];omega),Int.fdiv_eq_ediv_of_nonneg _ (by omega)]
 omega
abbrev fnC:D:=.v (.func (.func 103) #[] #[])
theorem Bin_d (l:List Fl) (c r:Int) (hl:l.length≤1099511627776) (hs:∀ i j (hi:i<j) (hj:j<l.length),lessF (l[i]'(by omega)) l[j]):FnP Tryz.prog gl 102 [.lst 3 (l.map flD),cellD c r,fnC] (.tup [iD (skF c r l:Nat),tD (isF c r l)]):=by
 have hlen:(l.map flD).length=l.length:=List.length_map _
 refine fnP_of_vc (nv:=9999) (cu:=[]) fits mixed Tryz.func102 rfl hoB rfl ?_
 ((repeat' ((conv=>whnf);first|exact .intro|refine .ya ?_|refine .na ?_|refine .ys ?_|refine .ns ?_|refine .neg (fun _=>?_) (fun _=>?_)|refine .mk (fun _=>?_) (fun _=>?_)|refine .mk ?_ ?_|refine AK ?_|refine AT ?_|fail));all_goals conv=>whnf)
 refine ⟨{ σ:=Nat×Nat,fr:=fun q=>[(9,.c (.d (iD (q.1:Int)))),(10,.c (.d (iD (q.2:Int))))],ks:=[],L:=fun _=>[],ex:=0,I:=fun q=>q.1≤q.2∧q.2≤l.length∧(∀ i (h:i<l.length),i<q.1→lesC l[i] c r)∧∀ i (h:i<l.length),q.2≤i→¬ lesC l[i] c r,μ:=fun q=>q.2 - q.1 },⟨(0,l.length),⟨Nat.zero_le _,Nat.le_refl _,fun i h h0=>absurd h0 (Nat.not_lt_zero _),fun i h h0=>by omega⟩,?_⟩,fun q hq=>?_⟩
 ·((repeat' first|exact rfl|((conv=>whnf);first|done|exact suL|refine And.intro ?_ ?_|fail));all_goals conv=>whnf)
  all_goals first|exact ceq (by rw[hlen])|exact ceq rfl
 ·obtain ⟨i,j⟩:=q
  obtain ⟨h1,h2,h3,h4⟩:=hq
  simp only at h1 h2 h3 h4
  by_cases hij:i<j
  ·have h5:(i:Int)<(j:Int):=by omega
   have em:=half (i:=i) (j:=j) (by omega)
   have hm:(i+j) / 2<l.length:=by omega
   have hm1:i≤(i+j) / 2∧(i+j) / 2<j:=by omega
   generalize (i+j) / 2=m at *
   have g1:=get_map (f:=flD) hm
   have c1:=wcmp_d (gl:=gl) l[m] c r
   have e0:IntKind.i64.wrap ((m:Int)+1)=((m+1:Nat):Int):=by rw[wrapI (by omega)];rfl
   have hlt:=wcmp_lt l[m] c r
   by_cases hc:lesC l[m] c r
   ·have h6:orZ (cmpZ l[m].r r) (cmpZ l[m].c c)<0:=hlt.2 hc
    have key:∀ a (h:a<l.length),a<m+1→lesC l[a] c r:=fun a ha hb=>by
     rcases Nat.lt_succ_iff_lt_or_eq.1 hb with h|rfl
     ·have:=hs a m h hm
      unfold lessF at this
      unfold lesC at *
      omega
     ·exact hc
    clear hlt hc h3
    generalize orZ (cmpZ l[m].r r) (cmpZ l[m].c c)=z at *
    generalize l[m]=f at *
    obtain ⟨fc,fr,ft⟩:=f
    ((repeat' ((conv=>whnf);first|exact .intro|refine .ya ?_|refine .na ?_|refine .ys ?_|refine .ns ?_|refine .neg (fun _=>?_) (fun _=>?_)|refine .mk (fun _=>?_) (fun _=>?_)|refine .inl (.inl (X1 (c1) ?_))|refine .inl (X1 (c1) ?_)|refine X1 (c1) ?_|(first|rw[em]|refine ⟨Int.natCast_nonneg _,_,g1,?_⟩)|refine .mk ?_ ?_|refine AK ?_|refine AT ?_|fail));all_goals conv=>whnf)
    all_goals refine ⟨(m+1,j),⟨⟨by show m+1≤j;omega,h2,key,h4⟩,by show j - (m+1)<j - i;omega⟩,?_⟩
    all_goals ((repeat' first|exact rfl|((conv=>whnf);first|done|exact suL|refine And.intro ?_ ?_|fail));all_goals conv=>whnf)
    all_goals first|exact ceq e0|exact ceq em
   ·have h6:¬ orZ (cmpZ l[m].r r) (cmpZ l[m].c c)<0:=fun h=>hc (hlt.1 h)
    have key:∀ a (h:a<l.length),m≤a→¬ lesC l[a] c r:=fun a ha hb=>by
     rcases Nat.lt_or_eq_of_le hb with h|rfl
     ·have:=hs m a h ha
      unfold lessF at this
      unfold lesC at *
      omega
     ·exact hc
    clear hlt hc h4
    generalize orZ (cmpZ l[m].r r) (cmpZ l[m].c c)=z at *
    generalize l[m]=f at *
    obtain ⟨fc,fr,ft⟩:=f
    ((repeat' ((conv=>whnf);first|exact .intro|refine .ya ?_|refine .na ?_|refine .ys ?_|refine .ns ?_|refine .neg (fun _=>?_) (fun _=>?_)|refine .mk (fun _=>?_) (fun _=>?_)|refine .inl (.inl (X1 (c1) ?_))|refine .inl (X1 (c1) ?_)|refine X1 (c1) ?_|(first|rw[em]|refine ⟨Int.natCast_nonneg _,_,g1,?_⟩)|refine .mk ?_ ?_|refine AK ?_|refine AT ?_|fail));all_goals conv=>whnf)
    all_goals refine ⟨(i,m),⟨⟨hm1.1,by show m≤l.length;omega,h3,key⟩,by show m - i<j - i;omega⟩,?_⟩
    all_goals ((repeat' first|exact rfl|((conv=>whnf);first|done|exact suL|refine And.intro ?_ ?_|fail));all_goals conv=>whnf)
    all_goals first|exact ceq e0|exact ceq em
  ·have h5:¬ (i:Int)<(j:Int):=by omega
   obtain rfl:i=j:=by omega
   have hk:=skF_eq h2 h3 h4
   by_cases hi:i<l.length
   ·have h6:(i:Int)<((l.map flD).length:Nat):=by omega
    have g1:=get_map (f:=flD) hi
    have c1:=wcmp_d (gl:=gl) l[i] c r
    have he:=wcmp_eq l[i] c r
    have hF:isF c r l=decide (l[i].c=c∧l[i].r=r):=by
     unfold isF
     rw[← hk,List.getElem?_eq_getElem hi]
    rw[hF,← hk]
    clear hF h3 h4 hk
    generalize orZ (cmpZ l[i].r r) (cmpZ l[i].c c)=z at *
    generalize l[i]=f at *
    obtain ⟨fc,fr,ft⟩:=f
    ((repeat' ((conv=>whnf);first|exact .intro|refine .ya ?_|refine .na ?_|refine .ys ?_|refine .ns ?_|refine .neg (fun _=>?_) (fun _=>?_)|refine .mk (fun _=>?_) (fun _=>?_)|refine .inl (.inl (X1 (c1) ?_))|refine .inl (X1 (c1) ?_)|refine X1 (c1) ?_|(refine ⟨Int.natCast_nonneg _,_,g1,?_⟩)|refine .mk ?_ ?_|refine AK ?_|refine AT ?_|fail));all_goals conv=>whnf)
    all_goals exact LeD.tup (LeD.cons LeD.rfl (LeD.cons (LeD.b (by rw[he];simp)) LeD.nil))
   ·have h6:¬ (i:Int)<((l.map flD).length:Nat):=by omega
    have hF:isF c r l=false:=by
     unfold isF
     rw[← hk,List.getElem?_eq_none (by omega)]
    rw[hF,← hk]
    ((repeat' ((conv=>whnf);first|exact .intro|refine .ya ?_|refine .na ?_|refine .ys ?_|refine .ns ?_|refine .neg (fun _=>?_) (fun _=>?_)|refine .mk (fun _=>?_) (fun _=>?_)|refine .mk ?_ ?_|refine AK ?_|refine AT ?_|fail));all_goals conv=>whnf)
    all_goals exact LeD.tup (LeD.cons LeD.rfl (LeD.cons (LeD.bf (by simp)) LeD.nil))
end Go.Proofs.YtdpigpahfiachaaGreatDoor
end
section
namespace Go.Proofs.YtdpigpahfiachaaGreatDoor
open Go Go.EYtdpigpahfiachaaGreatDoor
set_option maxRecDepth 100000
def ordL:List Fl→Prop
 | []=>True
 | f::l=>(∀ g ∈ l,lessF f g)∧ordL l
theorem ordL_at:∀ {l:List Fl} (_:ordL l) {i j:Nat} (hi:i<j) (hj:j<l.length),lessF (l[i]'(by omega)) l[j]
 | f::l,h,0,j+1,_,hj=>h.1 _ (List.getElem_mem _)
 | f::l,h,i+1,j+1,hi,hj=>ordL_at (l:=l) h.2 (by omega) (by simpa using hj)
theorem ordL_of:∀ {l:List Fl} (_:∀ i j (hi:i<j) (hj:j<l.length),lessF (l[i]'(by omega)) l[j]),ordL l
 | [],_=>trivial
 | f::l,h=>⟨fun g hg=>by
  obtain ⟨j,hj,rfl⟩:=List.getElem_of_mem hg
  exact h 0 (j+1) (by omega) (by simpa using hj),ordL_of fun i j hi hj=>h (i+1) (j+1) (by omega) (by simpa using hj)⟩
def withL (c r:Int) (t:List UInt8) (l:List Fl):List Fl :=
 if isF c r l=true then (if t=[] then l.eraseIdx (skF c r l) else l.set (skF c r l) ⟨c,r,t⟩) else (if t=[] then l else l.insertIdx (skF c r l) ⟨c,r,t⟩)
abbrev sameC (f:Fl) (c r:Int):Prop:=f.c=c∧f.r=r
def wS (c r:Int) (t:List UInt8):Bool→List Fl→List Fl
 | put,[]=>if put=true then [] else [⟨c,r,t⟩]
 | put,f::l=>(if put=false∧¬ lesC f c r then [⟨c,r,t⟩] else [])++((if sameC f c r then [] else [f])++wS c r t (put || decide (¬ lesC f c r)) l)
theorem wS_put {c r:Int} {t:List UInt8}:∀ {l:List Fl},(∀ f ∈ l,¬ sameC f c r)→wS c r t true l=l
 | [],_=>rfl
 | f::l,h=>by
  unfold wS
  rw[if_neg (by simp),if_neg (h f (by simp)),Bool.true_or,wS_put (fun g hg=>h g (by simp[hg]))]
  rfl
theorem les_not {f:Fl} {c r:Int} (h:lesC f c r):¬ sameC f c r:=by unfold lesC sameC at *;omega
theorem skF_cons {c r:Int} {f:Fl} {l:List Fl} (h:lesC f c r):skF c r (f::l)=skF c r l+1:=if_pos h
theorem skF_zero {c r:Int} {f:Fl} {l:List Fl} (h:¬ lesC f c r):skF c r (f::l)=0:=if_neg h
theorem isF_cons {c r:Int} {f:Fl} {l:List Fl} (h:lesC f c r):isF c r (f::l)=isF c r l:=by
 unfold isF
 rw[skF_cons h,List.getElem?_cons_succ]
theorem isF_zero {c r:Int} {f:Fl} {l:List Fl} (h:¬ lesC f c r):isF c r (f::l)=decide (sameC f c r):=by
 unfold isF
 rw[skF_zero h]
 rfl
theorem withL_cons {c r:Int} {t:List UInt8} {f:Fl} {l:List Fl} (h:lesC f c r):withL c r t (f::l)=f::withL c r t l:=by
 unfold withL
 rw[isF_cons h,skF_cons h]
 split
 ·split <;> simp
 ·split <;> simp
theorem later {c r:Int} {f:Fl} {l:List Fl} (h:¬ lesC f c r) (ho:∀ g ∈ l,lessF f g):∀ g ∈ l,¬ sameC g c r∧¬ lesC g c r:=fun g hg=>by
 have:=ho g hg
 unfold lessF at this
 unfold lesC sameC at *
 omega
theorem wS_eq {c r:Int} {t:List UInt8}:∀ {l:List Fl},ordL l→wS c r t (decide (t=[])) l=withL c r t l
 | [],_=>by
  unfold wS withL isF
  by_cases ht:t=[] <;> simp[ht,skF]
 | f::l,ho=>by
  by_cases h:lesC f c r
  ·rw[withL_cons h,← wS_eq ho.2]
   conv=>lhs;unfold wS
   rw[if_neg (fun hh=>hh.2 h),if_neg (les_not h),show decide (¬ lesC f c r)=false from decide_eq_false (fun hh=>hh h),Bool.or_false]
   rfl
  ·have hl:=later h ho.1
   unfold wS withL
   rw[isF_zero h,skF_zero h,decide_eq_true h,Bool.or_true,wS_put (fun g hg=>(hl g hg).1)]
   by_cases ht:t=[]
   ·by_cases hs:sameC f c r
    ·simp[ht,hs]
    ·simp[ht,hs]
   ·by_cases hs:sameC f c r
    ·simp[ht,hs,h]
    ·simp[ht,hs,h]
theorem mem_withL {c r:Int} {t:List UInt8}:∀ {l:List Fl} {g:Fl},g ∈ withL c r t l→g ∈ l∨g=⟨c,r,t⟩
 | [],g,h=>by
  unfold withL isF at h
  simp[skF] at h
  exact .inr h.2
 | f::l,g,h=>by
  by_cases hl:lesC f c r
  ·rw[withL_cons hl] at h
   rcases List.mem_cons.1 h with rfl|h
   ·exact .inl (by simp)
   ·rcases mem_withL h with h|h
    ·exact .inl (by simp[h])
    ·exact .inr h
  ·unfold withL at h
   rw[skF_zero hl] at h
   split at h
   ·split at h
    ·simp at h;exact .inl (by simp[h])
    ·simp at h
     rcases h with h|h
     ·exact .inr h
     ·exact .inl (by simp[h])
   ·split at h
    ·exact .inl h
    ·simp at h
     rcases h with h|h|h
     ·exact .inr h
     ·exact .inl (by simp[h])
     ·exact .inl (by simp[h])
theorem ordL_with {c r:Int} {t:List UInt8}:∀ {l:List Fl},ordL l→ordL (withL c r t l)
 | [],_=>by
  unfold withL isF
  simp[skF]
  split
  ·trivial
  ·exact ⟨fun g hg=>by simp at hg,trivial⟩
 | f::l,h=>by
  by_cases hl:lesC f c r
  ·rw[withL_cons hl]
   refine ⟨fun g hg=>?_,ordL_with h.2⟩
   rcases mem_withL hg with hg|rfl
   ·exact h.1 g hg
   ·exact hl
  ·unfold withL
   rw[isF_zero hl,skF_zero hl]
   by_cases hs:sameC f c r
   ·rw[decide_eq_true hs,if_pos rfl]
    split
    ·exact h.2
    ·refine ⟨fun g hg=>?_,h.2⟩
     have:=h.1 g hg
     unfold lessF at *
     unfold sameC at hs
     simp only
     omega
   ·rw[decide_eq_false hs,if_neg (by simp)]
    split
    ·exact h
    ·refine ⟨fun g hg=>?_,h⟩
     rcases List.mem_cons.1 hg with rfl|hg
     ·unfold lessF
      unfold lesC sameC at *
      simp only
      omega
     ·have:=h.1 g hg
      unfold lessF at *
      unfold lesC sameC at *
      simp only
      omega
end Go.Proofs.YtdpigpahfiachaaGreatDoor
end
section
namespace Go.Proofs.YtdpigpahfiachaaGreatDoor
open Go Go.RowKit Go.EYtdpigpahfiachaaGreatDoor
set_option maxRecDepth 100000
set_option maxHeartbeats 4000000
variable {gl:List (Nat×List D)}
theorem With_no (l:List Fl) (c r:Int) (ho:ordL l) (hl:l.length≤65536) (hb:¬ isF c r l=true):FnP Tryz.prog gl 60 [.lst 3 (l.map flD),cellD c r,.str []] (.lst 3 (l.map flD)):=by
 have c0:=Bin_d (gl:=gl) l c r (by omega) (fun i j hi hj=>ordL_at ho hi hj)
 have c1:=FClone_d (gl:=gl) l hl
 have hlen:(l.map flD).length=l.length:=List.length_map _
 have hs:=skF_le c r l
 refine fnP_of_vc (nv:=9999) (cu:=[]) fits mixed Tryz.func60 rfl hoB rfl ?_
 ((repeat' ((conv=>whnf);first|exact .intro|refine .ya ?_|refine .na ?_|refine .ys ?_|refine .ns ?_|refine .neg (fun _=>?_) (fun _=>?_)|refine .mk (fun _=>?_) (fun _=>?_)|refine .inl (.inl (X1 (by first|exact c0|exact c1) ?_))|refine .inl (X1 (by first|exact c0|exact c1) ?_)|refine X1 (by first|exact c0|exact c1) ?_|refine .mk ?_ ?_|refine AK ?_|refine AT ?_|fail));all_goals conv=>whnf)
 all_goals exact LeD.rfl
theorem With_del (l:List Fl) (c r:Int) (ho:ordL l) (hl:l.length≤65536) (hb:isF c r l=true) (i:Nat) (he:skF c r l=i) (hi:i<l.length) (h0:l≠[]):FnP Tryz.prog gl 60 [.lst 3 (l.map flD),cellD c r,.str []] (.lst 3 ((l.eraseIdx i).map flD)):=by
 have c0:=Bin_d (gl:=gl) l c r (by omega) (fun i j hi hj=>ordL_at ho hi hj)
 rw[he] at c0
 have c1:=FClone_x (gl:=gl) l h0 hl
 have hlen:(l.map flD).length=l.length:=List.length_map _
 have c2:=Del_x (gl:=gl) l i (i+1) rfl hi hl
 have ew:IntKind.i64.wrap ((i:Int)+1)=((i+1:Nat):Int):=wrapI (by omega)
 refine fnP_of_vc (nv:=9999) (cu:=[]) fits mixed Tryz.func60 rfl hoB rfl ?_
 ((repeat' ((conv=>whnf);first|exact .intro|refine .ya ?_|refine .na ?_|refine .ys ?_|refine .ns ?_|refine .neg (fun _=>?_) (fun _=>?_)|refine .mk (fun _=>?_) (fun _=>?_)|refine .inr (X5 (c1.r [] _) ?_)|refine .inl (.inr (X5 (c1.r [] _) ?_))|refine .inl (X5 (c1.r [] _) ?_)|refine .inr (X5 (c2.r [1] _) ?_)|refine .inl (.inr (X5 (c2.r [1] _) ?_))|refine .inl (X5 (c2.r [1] _) ?_)|refine .inl (.inl (X1 (c0) ?_))|refine .inl (X1 (c0) ?_)|refine X1 (c0) ?_|(rw[ew])|refine .mk ?_ ?_|refine AK ?_|refine AT ?_|fail));all_goals conv=>whnf)
 all_goals exact LeD.rfl
theorem With_set (l:List Fl) (c r:Int) (t:List UInt8) (ht:t≠[]) (ho:ordL l) (hl:l.length≤65536) (hb:isF c r l=true) (i:Nat) (he:skF c r l=i) (hi:i<l.length) (h0:l≠[]):FnP Tryz.prog gl 60 [.lst 3 (l.map flD),cellD c r,.str t] (.lst 3 ((l.set i ⟨l[i].c,l[i].r,t⟩).map flD)):=by
 have c0:=Bin_d (gl:=gl) l c r (by omega) (fun i j hi hj=>ordL_at ho hi hj)
 rw[he] at c0
 have c1:=FClone_x (gl:=gl) l h0 hl
 have hlen:(l.map flD).length=l.length:=List.length_map _
 have ew:(l.map flD)[i]?=some (flD l[i]):=by simp[hi]
 refine fnP_of_vc (nv:=9999) (cu:=[]) fits mixed Tryz.func60 rfl hoB rfl ?_
 ((repeat' ((conv=>whnf);first|exact .intro|refine .ya ?_|refine .na ?_|refine .ys ?_|refine .ns ?_|refine .neg (fun _=>?_) (fun _=>?_)|refine .mk (fun _=>?_) (fun _=>?_)|refine .inr (X5 (c1.r [] _) ?_)|refine .inl (.inr (X5 (c1.r [] _) ?_))|refine .inl (X5 (c1.r [] _) ?_)|refine .inl (.inl (X1 (c0) ?_))|refine .inl (X1 (c0) ?_)|refine X1 (c0) ?_|(refine ⟨_,ew,?_⟩)|refine .mk ?_ ?_|refine AK ?_|refine AT ?_|fail));all_goals conv=>whnf)
 all_goals
  rw[List.map_set]
  exact LeD.rfl
theorem With_ins (l:List Fl) (c r:Int) (t:List UInt8) (ht:t≠[]) (ho:ordL l) (hl:l.length≤65536) (hb:¬ isF c r l=true) (i:Nat) (he:skF c r l=i) (hi:i≤l.length) (c1:Go.EYtdpigpahfiachaaGreatDoor.Fn Tryz.prog gl 58 [.c (.d (.lst 3 (l.map flD)))] [] 0 (.ret (.c (.all 3 0))) [(0,.rows 3 (l.map flD) 44)] 1 []):FnP Tryz.prog gl 60 [.lst 3 (l.map flD),cellD c r,.str t] (.lst 3 ((l.insertIdx i ⟨c,r,t⟩).map flD)):=by
 have c0:=Bin_d (gl:=gl) l c r (by omega) (fun i j hi hj=>ordL_at ho hi hj)
 rw[he] at c0
 have hlen:(l.map flD).length=l.length:=List.length_map _
 have c2:=Ins_x (gl:=gl) l ⟨c,r,t⟩ i hi hl
 refine fnP_of_vc (nv:=9999) (cu:=[]) fits mixed Tryz.func60 rfl hoB rfl ?_
 ((repeat' ((conv=>whnf);first|exact .intro|refine .ya ?_|refine .na ?_|refine .ys ?_|refine .ns ?_|refine .neg (fun _=>?_) (fun _=>?_)|refine .mk (fun _=>?_) (fun _=>?_)|refine .inr (X5 (c1.r [] _) ?_)|refine .inl (.inr (X5 (c1.r [] _) ?_))|refine .inl (X5 (c1.r [] _) ?_)|refine .inr (X5 (c2.r [1,2] _) ?_)|refine .inl (.inr (X5 (c2.r [1,2] _) ?_))|refine .inl (X5 (c2.r [1,2] _) ?_)|refine .inl (.inl (X1 (c0) ?_))|refine .inl (X1 (c0) ?_)|refine X1 (c0) ?_|refine .mk ?_ ?_|refine AK ?_|refine AT ?_|fail));all_goals conv=>whnf)
 all_goals exact LeD.rfl
theorem isF_some {c r:Int} {l:List Fl} (h:isF c r l=true):∃ hi:skF c r l<l.length,l[skF c r l].c=c∧l[skF c r l].r=r:=by
 unfold isF at h
 split at h
 ·rename_i f hf
  obtain ⟨hi,rfl⟩:=List.getElem?_eq_some_iff.1 hf
  exact ⟨hi,by simpa using h⟩
 ·cases h
theorem With_d (l:List Fl) (c r:Int) (t:List UInt8) (ho:ordL l) (hl:l.length≤65536):FnP Tryz.prog gl 60 [.lst 3 (l.map flD),cellD c r,.str t] (.lst 3 ((withL c r t l).map flD)):=by
 unfold withL
 by_cases hb:isF c r l=true
 ·obtain ⟨hi,e1,e2⟩:=isF_some hb
  have h0:l≠[]:=by rintro rfl;simp at hi
  rw[if_pos hb]
  by_cases ht:t=[]
  ·subst ht
   rw[if_pos rfl]
   exact With_del l c r ho hl hb _ rfl hi h0
  ·rw[if_neg ht]
   have:=With_set (gl:=gl) l c r t ht ho hl hb _ rfl hi h0
   rw[e1,e2] at this
   exact this
 ·rw[if_neg hb]
  by_cases ht:t=[]
  ·subst ht
   rw[if_pos rfl]
   exact With_no l c r ho hl hb
  ·rw[if_neg ht]
   by_cases h0:l=[]
   ·subst h0
    exact With_ins [] c r t ht ho hl hb _ rfl (skF_le c r []) FClone_e
   ·exact With_ins l c r t ht ho hl hb _ rfl (skF_le c r l) (FClone_x l h0 hl)
end Go.Proofs.YtdpigpahfiachaaGreatDoor
end
