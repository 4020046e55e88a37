/- Proved: a part of what the law is proved with (the reckoner, contracts of functions, plain laws). Conditions: as each says. -/
import Derived.Test.YtfkjhfdpphfjhaaGreatDoorXFs
import Derived.Test.YtfkjhfdpphfjhaaGreatDoorXTf
namespace Go.Proofs.YtfkjhfdpphfjhaaGreatDoor
set_option maxRecDepth 100000
section
open Go Go.RowKit Go.EYtfkjhfdpphfjhaaGreatDoor
set_option maxHeartbeats 4000000
variable {gl:List (Nat×List D)}
abbrev vlR' (v:Vl):List D:=[iD v.k,iD v.n,.str v.s]
section
variable (te:TypeId) (pe:Value) (hV:Has gl (glV te pe))
include hV
theorem numC {v:Vl} (hv:v.ok):FnP Tryz.prog gl 106 [v.d] (numV v).d:=FnP.moreG (Number_d te pe v.k v.n v.s (v_len hv)) hV
theorem truC {v:Vl} (hv:v.ok):FnP Tryz.prog gl 175 [v.d] (truV v).d:=FnP.moreG (Truth_d te pe hv.1) hV
theorem reck_not {v:Vl} (hv:v.ok):FnP Tryz.prog gl 117 [.str nNOT,.lst 3 [vlR' v]] (reckV nNOT [v]).d:=by
 have e:reckV nNOT [v]=if (truV v).k=4 then truV v else ⟨3,1 - (truV v).n,[]⟩:=rfl
 have c1:=numC te pe hV hv
 have c2:=truC te pe hV hv
 have hx:=truV_ok hv
 have hn:=tru_n hv
 rw[e]
 generalize numV v=y at *
 generalize truV v=x at *
 have g1:([vlR' v]:List (List D))[(0:Int).toNat]?=some [iD v.k,iD v.n,.str v.s]:=rfl
 have c3:FnP Tryz.prog gl 107 [x.d] (.b (x.k=4) inferInstance):=bad_d
 by_cases h4:x.k=4
 ·rw[if_pos h4]
  refine S0 Tryz.func117 rfl ?_
  ((repeat' ((conv=>whnf);first|exact .intro|refine G ?_|intro _|refine C1 c1 ?_|refine C1 c2 ?_|refine C1 c3 ?_|(refine ⟨Int.le_refl _,_,g1,?_⟩)|refine .mk ?_ ?_|refine H ?_|fail));all_goals conv=>whnf)
  all_goals exact LeD.rfl
 ·rw[if_neg h4]
  have h3:x.k=3:=by omega
  have hs:x.s=[]:=by
   rcases hx.1.1 with h|h|h|h|h <;> simp_all
  have e1:IntKind.i64.wrap (1 - x.n)=1 - x.n:=wrapI (by have:=hn h4;omega)
  refine S0 Tryz.func117 rfl ?_
  ((repeat' ((conv=>whnf);first|exact .intro|refine G ?_|intro _|refine C1 c1 ?_|refine C1 c2 ?_|refine C1 c3 ?_|(first|refine ⟨Int.le_refl _,_,g1,?_⟩|rw[e1])|refine .mk ?_ ?_|refine H ?_|fail));all_goals conv=>whnf)
  all_goals exact LeD.of (by show D.agg [iD x.k,iD (1 - x.n),.str x.s]=D.agg [iD 3,iD (1 - x.n),.str []];rw[h3,hs])
end
end
section
open Go Go.EYtfkjhfdpphfjhaaGreatDoor
theorem fstOf {p:Nat→Prop} (n:Nat):(∀ k,k<n→p k)∨∃ m,m<n∧(∀ k,k<m→p k)∧¬ p m:=by
 induction n with
 | zero=>exact .inl fun k h=>absurd h (Nat.not_lt_zero k)
 | succ n ih =>
  rcases ih with h|⟨m,h1,h2,h3⟩
  ·by_cases hn:p n
   ·exact .inl fun k hk=>by
     rcases Nat.lt_succ_iff_lt_or_eq.1 hk with hk|rfl
     ·exact h k hk
     ·exact hn
   ·exact .inr ⟨n,Nat.lt_succ_self n,h,hn⟩
  ·exact .inr ⟨m,by omega,h2,h3⟩
def ntV (v:Vl):Vl:=if v.k=4 then v else if (truV v).k=4 then truV v else ⟨3,1 - (truV v).n,[]⟩
theorem call_not (v:Vl):callV nNOT [.one v]=ntV v:=by
 have e:callV nNOT [.one v]=match badL [v] with
  | some b=>b
  | none=>if (truV v).k=4 then truV v else ⟨3,1 - (truV v).n,[]⟩:=rfl
 rw[e]
 unfold ntV badL
 by_cases h:v.k=4
 ·rw[List.find?_cons_of_pos (by simpa using h),if_pos h]
 ·rw[List.find?_cons_of_neg (by simpa using h),if_neg h]
  rfl
abbrev onv (vs:List Vl):List (Bool×Vl):=vs.map fun v=>(false,v)
theorem truV_bad {v:Vl} (h:v.k=4):truV v=v:=by unfold truV;rw[if_pos (.inr h)]
theorem truV_tru {v:Vl} (h:v.k=3):truV v=v:=by unfold truV;rw[if_pos (.inl h)]
theorem log_stuck (and:Bool):∀ (l:List (Bool×Vl)) (s:Lg),s.bad.k=4→l.foldl (logS and) s=s
 | [],_,_=>rfl
 | p::l,s,h=>by
  rw[List.foldl_cons,show logS and s p=s by unfold logS logO;split <;> first|rfl|(rw[if_pos h])]
  exact log_stuck and l s h
theorem log_good (and:Bool):∀ (vs:List Vl) (s:Lg),s.bad.k≠4→(∀ v ∈ vs,(truV v).k=3)→((onv vs).foldl (logS and) s).bad.k≠4∧((onv vs).foldl (logS and) s).k=s.k+vs.length∧
 (((onv vs).foldl (logS and) s).out=if ∃ v ∈ vs,¬ (decide ((truV v).n=1)=and) then !and else s.out)
 | [],s,h,_=>⟨h,rfl,by simp⟩
 | v::vs,s,h,hv=>by
  have h3:=hv v (by simp)
  have e:logS and s (false,v)=⟨s.k+1,truV v,if ¬ (decide ((truV v).n=1)=and) then !and else s.out⟩:=by
   unfold logS logO
   rw[if_neg (by simp),if_neg h]
   simp[h3]
  show ((onv vs).foldl (logS and) (logS and s (false,v))).bad.k≠4∧_
  rw[show (onv (v::vs)).foldl (logS and) s=(onv vs).foldl (logS and) (logS and s (false,v)) from rfl,e]
  obtain ⟨h1,h2,h4⟩:=log_good and vs ⟨s.k+1,truV v,if ¬ (decide ((truV v).n=1)=and) then !and else s.out⟩ (by show (truV v).k≠4;omega) fun x hx=>hv x (by simp[hx])
  refine ⟨h1,by rw[h2];simp;omega,?_⟩
  rw[h4]
  by_cases hx:∃ x ∈ vs,¬ (decide ((truV x).n=1)=and)
  ·rw[if_pos hx,if_pos]
   obtain ⟨x,hx1,hx2⟩:=hx
   exact ⟨x,by simp[hx1],hx2⟩
  ·rw[if_neg hx]
   by_cases hy:¬ (decide ((truV v).n=1)=and)
   ·rw[if_pos hy,if_pos ⟨v,by simp,hy⟩]
   ·rw[if_neg hy,if_neg]
    rintro ⟨x,hx1,hx2⟩
    rcases List.mem_cons.1 hx1 with rfl|hx1
    ·exact hy hx2
    ·exact hx ⟨x,hx1,hx2⟩
theorem log_bad (and:Bool):∀ (vs:List Vl) (s:Lg),s.bad.k≠4→(∀ v ∈ vs,v.ok)→(∃ v ∈ vs,(truV v).k=4)→((onv vs).foldl (logS and) s).bad.k=4
 | v::vs,s,h,ho,hx=>by
  rw[show (onv (v::vs)).foldl (logS and) s=(onv vs).foldl (logS and) (logS and s (false,v)) from rfl]
  have e:logS and s (false,v)=⟨s.k+1,truV v,if (truV v).k=3∧¬ (decide ((truV v).n=1)=and) then !and else s.out⟩:=by
   unfold logS logO
   rw[if_neg (by simp),if_neg h]
  rw[e]
  by_cases h4:(truV v).k=4
  ·rw[log_stuck _ _ _ h4];exact h4
  ·refine log_bad and vs _ h4 (fun x hx=>ho x (by simp[hx])) ?_
   obtain ⟨x,hx1,hx2⟩:=hx
   rcases List.mem_cons.1 hx1 with rfl|hx1
   ·exact absurd hx2 h4
   ·exact ⟨x,hx1,hx2⟩
theorem and_eq (l:List (Bool×Vl)):manyF nAND l=logicV true (l.foldl (logS true) ⟨0,⟨0,0,[]⟩,true⟩):=rfl
theorem or_eq (l:List (Bool×Vl)):manyF nOR l=logicV false (l.foldl (logS false) ⟨0,⟨0,0,[]⟩,false⟩):=rfl
theorem nt_tru {v:Vl} (ho:v.ok):((truV v).k=4↔(truV (ntV v)).k=4)∧((truV v).k=3→truV (ntV v)=⟨3,1 - (truV v).n,[]⟩):=by
 have h34:=(truV_ok ho).2
 unfold ntV
 by_cases h4:v.k=4
 ·rw[if_pos h4]
  exact ⟨Iff.rfl,fun h=>by rw[truV_bad h4] at h;omega⟩
 ·rw[if_neg h4]
  by_cases t4:(truV v).k=4
  ·rw[if_pos t4,truV_bad t4]
   exact ⟨Iff.rfl,fun h=>by omega⟩
  ·rw[if_neg t4]
   have e:truV ⟨3,1 - (truV v).n,[]⟩=⟨3,1 - (truV v).n,[]⟩:=truV_tru rfl
   rw[e]
   exact ⟨⟨fun h=>absurd h t4,fun h=>by cases h⟩,fun _=>rfl⟩
theorem morgan {vs:List Vl} (h0:vs≠[]) (ho:∀ v ∈ vs,v.ok):((∀ v ∈ vs,¬ (truV v).k=4)→ntV (manyF nAND (onv vs))=manyF nOR (onv (vs.map ntV)))∧
 ((∃ v ∈ vs,(truV v).k=4)→(ntV (manyF nAND (onv vs))).k=4∧(manyF nOR (onv (vs.map ntV))).k=4):=by
 have hnt:∀ v ∈ vs.map ntV,v.ok:=fun v hv=>by
  obtain ⟨x,hx,rfl⟩:=List.mem_map.1 hv
  have:=ho x hx
  unfold ntV
  split
  ·exact this
  ·split
   ·exact (truV_ok this).1
   ·rename_i h
    exact ok_tru (by have:=tru_n this h;omega)
 have hlen:vs.length≠0:=fun h=>h0 (List.eq_nil_of_length_eq_zero h)
 rw[and_eq,or_eq]
 constructor
 ·intro hg
  have hg3:∀ v ∈ vs,(truV v).k=3:=fun v hv=>by
   have:=(truV_ok (ho v hv)).2
   have:=hg v hv
   omega
  have hn3:∀ v ∈ vs.map ntV,(truV v).k=3:=fun v hv=>by
   obtain ⟨x,hx,rfl⟩:=List.mem_map.1 hv
   rw[(nt_tru (ho x hx)).2 (hg3 x hx)]
  obtain ⟨a1,a2,a3⟩:=log_good true vs ⟨0,⟨0,0,[]⟩,true⟩ (by decide) hg3
  obtain ⟨b1,b2,b3⟩:=log_good false (vs.map ntV) ⟨0,⟨0,0,[]⟩,false⟩ (by decide) hn3
  generalize (onv vs).foldl (logS true) ⟨0,⟨0,0,[]⟩,true⟩=x at *
  generalize (onv (vs.map ntV)).foldl (logS false) ⟨0,⟨0,0,[]⟩,false⟩=y at *
  rw[List.length_map] at b2
  have hx0:¬ x.k=0:=by rw[a2];simp;exact h0
  have hy0:¬ y.k=0:=by rw[b2];simp;exact h0
  unfold logicV
  rw[if_neg a1,if_neg hx0,if_neg b1,if_neg hy0]
  unfold ntV
  rw[if_neg (by show ¬ (3:Int)=4;decide),truV_tru rfl,if_neg (by show ¬ (3:Int)=4;decide)]
  have hiff:(∃ v ∈ vs,¬ (decide ((truV v).n=1)=true))↔∃ v ∈ vs.map ntV,¬ (decide ((truV v).n=1)=false):=by
   constructor
   ·rintro ⟨v,hv,hh⟩
    refine ⟨ntV v,List.mem_map_of_mem hv,?_⟩
    have hn:=tru_n (ho v hv) (hg v hv)
    rw[(nt_tru (ho v hv)).2 (hg3 v hv)]
    simp at hh ⊢
    omega
   ·rintro ⟨v,hv,hh⟩
    obtain ⟨x,hx,rfl⟩:=List.mem_map.1 hv
    refine ⟨x,hx,?_⟩
    rw[(nt_tru (ho x hx)).2 (hg3 x hx)] at hh
    simp at hh ⊢
    omega
  by_cases hx:∃ v ∈ vs,¬ (decide ((truV v).n=1)=true)
  ·rw[if_pos hx] at a3
   rw[if_pos (hiff.1 hx)] at b3
   rw[a3,b3]
   rfl
  ·rw[if_neg hx] at a3
   rw[if_neg (fun h=>hx (hiff.2 h))] at b3
   rw[a3,b3]
   rfl
 ·rintro ⟨v,hv,h4⟩
  have a:=log_bad true vs ⟨0,⟨0,0,[]⟩,true⟩ (by decide) ho ⟨v,hv,h4⟩
  have b:=log_bad false (vs.map ntV) ⟨0,⟨0,0,[]⟩,false⟩ (by decide) hnt ⟨ntV v,List.mem_map_of_mem hv,(nt_tru (ho v hv)).1.1 h4⟩
  unfold logicV
  rw[if_pos a,if_pos b]
  unfold ntV
  rw[if_pos a]
  exact ⟨a,b⟩
theorem and_k {vs:List Vl} (_h0:vs≠[]) (_ho:∀ v ∈ vs,v.ok):(manyF nAND (onv vs)).k=4∨((manyF nAND (onv vs)).k=3∧((manyF nAND (onv vs)).n=0∨(manyF nAND (onv vs)).n=1)):=by
 rw[and_eq]
 unfold logicV
 split
 ·exact .inl ‹_›
 ·split
  ·exact .inl rfl
  ·exact .inr ⟨rfl,by show (if _ then (1:Int) else 0)=0∨(if _ then (1:Int) else 0)=1;split <;> simp⟩
theorem call_if (s a b:Vl):callV nIF [.one s,.one a,.one b]=if (truV s).k=4 then truV s else if (truV s).n=1 then a else b:=rfl
end
section
open Go Go.EYtfkjhfdpphfjhaaGreatDoor
abbrev cR (c r:Int):Rf:=⟨c,r,false,false⟩
def refN (a:Rf):Nd:=.mk 5 0 [] a z0 []
def truN (m:Int):Nd:=.mk 3 m [] z0 z0 []
def callN (t:List UInt8) (ks:List Nd):Nd:=.mk 9 0 t z0 z0 ks
structure Sm (n:Nd) (p:Prop) (w d c:Nat):Prop where
 frm:frmN n p
 ok:okN n
 wr:(wrN n).length≤w
 dep:depN n≤d
 cnt:cntN n≤c
theorem Sm.mono {n:Nd} {p q:Prop} {w d c w' d' c':Nat} (h:Sm n p w d c) (hf:frmN n p→frmN n q) (hw:w≤w':=by omega) (hd:d≤d':=by omega) (hc:c≤c':=by omega):Sm n q w' d' c' :=
 ⟨hf h.frm,h.ok,Nat.le_trans h.wr hw,Nat.le_trans h.dep hd,Nat.le_trans h.cnt hc⟩
theorem Sm.to {n:Nd} {w d c w' d' c':Nat} (h:Sm n False w d c) (hw:w≤w':=by omega) (hd:d≤d':=by omega) (hc:c≤c':=by omega):Sm n True w' d' c':=h.mono frm_more hw hd hc
theorem Sm.pr {n:Nd} {w d c:Nat} (h:Sm n False w d c) (hw:w≤199) (hd:d≤30) (hc:c≤200):prZ rfZ n=(61::wrN n,0) :=
 prZ_small h.frm h.ok (Nat.le_trans h.cnt hc) (Nat.le_trans h.dep hd) (Nat.le_trans h.wr hw)
theorem nmR_3 (c r:Int):(nmR (cR c r)).length≤3:=by
 have:=digs_len r.toNat
 unfold nmR nameL
 simp
 omega
theorem sm_ref (p:Prop) {c r:Int} (h:okP c r):Sm (refN (cR c r)) p 3 0 1:=by
 have h1:=nmR_3 c r
 refine ⟨by unfold refN;rw[frm_5];exact ⟨rfl,rfl,rfl,noR_z0,h⟩,⟨by decide,by decide,trivial⟩,?_,by unfold refN;simp[depN],by unfold refN;simp[cntN,cntL]⟩
 unfold refN
 simp[wrN]
 omega
theorem sm_tru (p:Prop):Sm (truN 1) p 4 0 1:=by
 refine ⟨by unfold truN;rw[frm_3];exact ⟨rfl,rfl,⟨noR_z0,noR_z0⟩,.inr rfl⟩,⟨by decide,by decide,trivial⟩,by decide,by decide,by decide⟩
theorem com_le {w:Nat}:∀ {l:List (List UInt8)},(∀ s ∈ l,s.length≤w)→(comN l).length≤l.length * (w+1)
 | [],_=>by simp[comN]
 | [x],h=>by have:=h x (by simp);simp[comN];omega
 | x::y::l,h=>by
  have h1:=com_le (l:=y::l) fun s hs=>h s (by simp[hs])
  have h2:=h x (by simp)
  rw[comN_cons,List.length_append,List.length_cons]
  rw[List.length_cons] at h1
  rw[List.length_cons,List.length_cons]
  have:(l.length+1+1) * (w+1)=(l.length+1) * (w+1)+(w+1):=Nat.succ_mul _ _
  omega
theorem cnt_le {c:Nat}:∀ {ks:List Nd},(∀ x ∈ ks,cntN x≤c)→cntL ks≤ks.length * c
 | [],_=>by simp[cntL]
 | x::r,h=>by
  have h1:=cnt_le (ks:=r) fun s hs=>h s (by simp[hs])
  have h2:=h x (by simp)
  rw[cntL,List.length_cons,Nat.succ_mul]
  omega
theorem dep_le {d:Nat}:∀ {ks:List Nd},(∀ x ∈ ks,depN x≤d)→mxL (depL ks)≤d
 | [],_=>by simp[depL,mxL]
 | x::r,h=>by
  have h1:=dep_le (ks:=r) fun s hs=>h s (by simp[hs])
  have h2:=h x (by simp)
  rw[depL,mxL]
  omega
theorem okL_of:∀ {ks:List Nd},(∀ x ∈ ks,okN x)→okL ks
 | [],_=>trivial
 | x::r,h=>⟨h x (by simp),okL_of fun y hy=>h y (by simp[hy])⟩
theorem wrL_mem:∀ {ks:List Nd} {s:List UInt8},s ∈ wrL ks→∃ x ∈ ks,s=wrN x
 | x::r,s,h=>by
  rcases List.mem_cons.1 h with rfl|h
  ·exact ⟨x,by simp,rfl⟩
  ·obtain ⟨y,hy,e⟩:=wrL_mem (ks:=r) h
   exact ⟨y,by simp[hy],e⟩
theorem sm_call (p:Prop) {t:List UInt8} (ht:clZ t=true) {ks:List Nd} {w d c:Nat} (h:∀ x ∈ ks,Sm x True w d c):Sm (callN t ks) p (t.length+2+ks.length * (w+1)) (d+1) (1+ks.length * c):=by
 have htl:t.length≤10:=((clZ_iff t).1 ht).2.1
 refine ⟨?_,⟨by decide,by omega,okL_of fun x hx=>(h x hx).ok⟩,?_,?_,?_⟩
 ·unfold callN
  rw[frm_9]
  exact ⟨ht,⟨noR_z0,noR_z0⟩,rfl,frmL_iff.2 fun x hx=>(h _ (List.getElem_mem hx)).frm⟩
 ·have h1:=com_le (w:=w) (l:=wrL ks) fun s hs=>by
   obtain ⟨x,hx,rfl⟩:=wrL_mem hs
   exact (h x hx).wr
  rw[wrL_len] at h1
  unfold callN
  simp[wrN]
  omega
 ·have h1:=dep_le (d:=d) fun x hx=>(h x hx).dep
  unfold callN
  unfold depN
  rw[if_neg (by decide),if_neg (by decide),if_pos rfl]
  omega
 ·have h1:=cnt_le (c:=c) fun x hx=>(h x hx).cnt
  unfold callN
  unfold cntN
  omega
def colS (v:List Vl):List Shw:=v.mapIdx fun i x=>⟨1,(i:Int)+1,x,0,0⟩
theorem colS_len (v:List Vl):(colS v).length=v.length:=List.length_mapIdx
theorem colS_take {v:List Vl} {k:Nat} (h:k<v.length):colS (v.take (k+1))=colS (v.take k)++[⟨1,(k:Int)+1,v[k],0,0⟩]:=by
 unfold colS
 rw[List.take_succ_eq_append_getElem h,List.mapIdx_append]
 simp[List.length_take,Nat.min_eq_left (Nat.le_of_lt h)]
theorem evF_snoc (l:List Shw) (x:Shw):evF (l++[x])=evS (evF l) x:=by
 unfold evF
 rw[List.foldl_append]
 rfl
theorem evF_col {v:List Vl}:∀ (n:Nat),n≤v.length→∀ (i:Nat) (_h:i<n) (hv:i<v.length),evF (colS (v.take n)) 1 ((i:Int)+1)=v[i]
 | 0,_,_,h,_=>absurd h (Nat.not_lt_zero _)
 | n+1,hn,i,h,hv=>by
  rw[colS_take (show n<v.length by omega),evF_snoc]
  unfold evS
  by_cases hi:i=n
  ·subst hi
   rw[if_pos ⟨rfl,rfl⟩]
  ·rw[if_neg (by simp;omega)]
   exact evF_col n (by omega) i (by omega) hv
theorem col_at {v:List Vl} {i:Nat} (h:i<v.length):evF (colS v) 1 ((i:Int)+1)=v[i]:=by
 have:=evF_col v.length (Nat.le_refl _) i h h
 rwa [List.take_length] at this
theorem evN_call (ev:Int→Int→Vl) (t:List UInt8) (ks:List Nd):evN ev (callN t ks)=callV t (ks.map (evA ev)):=by
 unfold callN
 rw[evN_mk,evK_map]
 rfl
theorem evA_call (ev:Int→Int→Vl) (t:List UInt8) (ks:List Nd):evA ev (callN t ks)=.one (callV t (ks.map (evA ev))):=by
 unfold callN
 rw[evA,evK_map]
 rfl
theorem evA_ref (ev:Int→Int→Vl) (a:Rf):evA ev (refN a)=.one (ev a.c a.r):=rfl
theorem many_eq {t:List UInt8} (h:isMany t) {ag:List Ar} (h0:ag.length≠0):callV t ag=manyF t (flA ag):=by
 unfold callV
 rw[if_pos h,if_neg h0]
 rfl
theorem fl_ones:∀ vs:List Vl,flA (vs.map Ar.one)=onv vs
 | []=>rfl
 | v::r=>by
  show [(false,v)]++flA (r.map Ar.one)=_
  rw[fl_ones r]
  rfl
end
end Go.Proofs.YtfkjhfdpphfjhaaGreatDoor
