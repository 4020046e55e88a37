/- Proved: a part of what the law is proved with (the reckoner, contracts of functions, plain laws). Conditions: as each says. -/
import Derived.ChangeArms
import Derived.Test.YtfkjhfdpphfjhaaGreatDoorWDe
import Derived.Test.YtfkjhfdpphfjhaaGreatDoorWDr
import Derived.Test.YtfkjhfdpphfjhaaGreatDoorWDy
import Derived.Test.YtfkjhfdpphfjhaaGreatDoorWFs
section
namespace Go.Proofs.YtfkjhfdpphfjhaaGreatDoor
open Go Go.RowKit Go.EYtfkjhfdpphfjhaaGreatDoor
set_option maxRecDepth 100000
set_option maxHeartbeats 40000000
variable {gl:List (Nat×List D)}
abbrev finS (t:List UInt8) (n:Nat):Prop:=(t=nNONE∧n=0)∨(t=nMATCH∧n=2)∨(t=nCOUNTIF∧n=2)∨(t=nLOOKUP∧n=3)∨(t=nINDEX∧n=3)
section
variable (te:TypeId) (pe:Value) (hV:Has (wG gl) (glV te pe))
include hV
theorem call_fin {mk:List (Int×Int)} {mv:List Vl} {ev:Int→Int→Vl} (hM:MapOk mk mv ev) (hev:∀ c r,(ev c r).ok):CallOk gl finS mk mv ev:=fun t ks hs hk hlk=>by
 clear hlk
 rcases hs with ⟨rfl,hn⟩|⟨rfl,hn⟩|⟨rfl,hn⟩|⟨rfl,hn⟩|⟨rfl,hn⟩
 ·obtain rfl:=List.eq_nil_of_length_eq_zero hn
  exact call_non (ks:=[]) (lo:=0) (hi:=0) (by decide) rfl (by decide) (by decide) (by decide) rfl
 ·obtain ⟨x,y,rfl⟩:=len_2 hn
  have hx:KdOk (wG gl) mk mv ev x:=hk 0 (by simp)
  have hy:KdOk (wG gl) mk mv ev y:=hk 1 (by simp)
  have hlen:=kid_len [x,y]
  have h2:¬ (((Nd.csL [x,y]).length:Nat):Int)<2:=by rw[hlen];simp
  have h3:¬ (2:Int)<(((Nd.csL [x,y]).length:Nat):Int):=by rw[hlen];simp
  obtain ⟨k0,m0,t0,a0,b0,s0⟩:=x
  obtain ⟨k1,m1,t1,a1,b1,s1⟩:=y
  by_cases h6:k1=6
  ·subst h6
   exact call_box (t:=nMATCH) (by decide) rfl (by decide) h2 h3 (.inr (.inr (.inr (.inl rfl)))) (boxed_match_y te pe hV hx hy hM hev)
  ·exact call_box (t:=nMATCH) (by decide) rfl (by decide) h2 h3 (.inr (.inr (.inr (.inl rfl)))) (boxed_match_n hx hy h6)
 ·obtain ⟨x,y,rfl⟩:=len_2 hn
  have hx:KdOk (wG gl) mk mv ev x:=hk 0 (by simp)
  have hy:KdOk (wG gl) mk mv ev y:=hk 1 (by simp)
  have hlen:=kid_len [x,y]
  have h2:¬ (((Nd.csL [x,y]).length:Nat):Int)<2:=by rw[hlen];simp
  have h3:¬ (2:Int)<(((Nd.csL [x,y]).length:Nat):Int):=by rw[hlen];simp
  obtain ⟨k0,m0,t0,a0,b0,s0⟩:=x
  obtain ⟨k1,m1,t1,a1,b1,s1⟩:=y
  by_cases h6:k0=6
  ·subst h6
   exact call_box (t:=nCOUNTIF) (by decide) rfl (by decide) h2 h3 (.inr (.inr (.inr (.inr (.inr (.inl rfl)))))) (boxed_countif_y te pe hV hx hy hM hev)
  ·exact call_box (t:=nCOUNTIF) (by decide) rfl (by decide) h2 h3 (.inr (.inr (.inr (.inr (.inr (.inl rfl)))))) (boxed_countif_n hx hy h6)
 ·obtain ⟨x,y,z,rfl⟩:=len_3 hn
  have hx:KdOk (wG gl) mk mv ev x:=hk 0 (by simp)
  have hy:KdOk (wG gl) mk mv ev y:=hk 1 (by simp)
  have hz:KdOk (wG gl) mk mv ev z:=hk 2 (by simp)
  have hlen:=kid_len [x,y,z]
  have h2:¬ (((Nd.csL [x,y,z]).length:Nat):Int)<3:=by rw[hlen];simp
  have h3:¬ (3:Int)<(((Nd.csL [x,y,z]).length:Nat):Int):=by rw[hlen];simp
  obtain ⟨k0,m0,t0,a0,b0,s0⟩:=x
  obtain ⟨k1,m1,t1,a1,b1,s1⟩:=y
  obtain ⟨k2,m2,t2,a2,b2,s2⟩:=z
  by_cases h6:k1=6
  ·subst h6
   exact call_box (t:=nLOOKUP) (by decide) rfl (by decide) h2 h3 (.inr (.inr (.inr (.inr (.inl rfl))))) (boxed_lookup_y te pe hV hx hy hz hM hev)
  ·exact call_box (t:=nLOOKUP) (by decide) rfl (by decide) h2 h3 (.inr (.inr (.inr (.inr (.inl rfl))))) (boxed_lookup_n hx hy hz h6)
 ·obtain ⟨x,y,z,rfl⟩:=len_3 hn
  have hx:KdOk (wG gl) mk mv ev x:=hk 0 (by simp)
  have hy:KdOk (wG gl) mk mv ev y:=hk 1 (by simp)
  have hz:KdOk (wG gl) mk mv ev z:=hk 2 (by simp)
  have hlen:=kid_len [x,y,z]
  have h2:¬ (((Nd.csL [x,y,z]).length:Nat):Int)<3:=by rw[hlen];simp
  have h3:¬ (3:Int)<(((Nd.csL [x,y,z]).length:Nat):Int):=by rw[hlen];simp
  obtain ⟨k0,m0,t0,a0,b0,s0⟩:=x
  obtain ⟨k1,m1,t1,a1,b1,s1⟩:=y
  obtain ⟨k2,m2,t2,a2,b2,s2⟩:=z
  by_cases h6:k0=6
  ·subst h6
   exact call_box (t:=nINDEX) (by decide) rfl (by decide) h2 h3 (.inr (.inr (.inl rfl))) (boxed_index_y te pe hV hx hy hz hM)
  ·exact call_box (t:=nINDEX) (by decide) rfl (by decide) h2 h3 (.inr (.inr (.inl rfl))) (boxed_index_n hx hy hz h6)
end
theorem fin_0:InS finS (callN nNONE []):=in_call (.inl ⟨rfl,rfl⟩) fun _ h=>nomatch h
theorem fin_f0:evN (evF []) (callN nNONE [])=⟨4,6,[]⟩:=by rw[evN_call];rfl
theorem fin_f1:FnP Tryz.prog (wG gl) 16 [.str nNONE,.v (.slice none 0 0)] (.agg (callN nNONE []).cs):=FnP.args (scall_d nNONE []) ⟨LeD.rfl,LeD.nil0,trivial⟩
theorem fin_f2:Sm (callN nNONE []) False 6 1 1:=sm_call (w:=0) (d:=0) (c:=0) False (by decide) fun _ h=>nomatch h
def cntI (vs:List Vl) (w:Vl) (i:Nat):Nat:=(vs.take i).countP fun v=>decide (alikeP v w)
def fstI (vs:List Vl) (w:Vl) (i:Nat):Nat:=match (vs.take i).findIdx? fun v=>decide (alikeP v w) with
 | some x=>x+1
 | none=>0
section
variable {vs:List Vl} {w:Vl} {i:Nat} (h:i<vs.length)
include h
theorem cnt_y (ha:alikeP vs[i] w):cntI vs w (i+1)=cntI vs w i+1:=by
 unfold cntI
 rw[List.take_succ_eq_append_getElem h,List.countP_append,List.countP_singleton,if_pos (by simpa using ha)]
theorem cnt_n (ha:¬ alikeP vs[i] w):cntI vs w (i+1)=cntI vs w i:=by
 unfold cntI
 rw[List.take_succ_eq_append_getElem h,List.countP_append,List.countP_singleton,if_neg (by simpa using ha),Nat.add_zero]
theorem fst_n (ha:¬ alikeP vs[i] w):fstI vs w (i+1)=fstI vs w i:=by
 unfold fstI
 rw[List.take_succ_eq_append_getElem h,List.findIdx?_append]
 cases (vs.take i).findIdx? fun v=>decide (alikeP v w) with
 | some x=>rfl
 | none=>simp[ha]
theorem fst_y0 (ha:alikeP vs[i] w) (h0:fstI vs w i=0):fstI vs w (i+1)=i+1:=by
 unfold fstI at h0 ⊢
 rw[List.take_succ_eq_append_getElem h,List.findIdx?_append]
 cases hx:(vs.take i).findIdx? fun v=>decide (alikeP v w) with
 | some x=>rw[hx] at h0;cases h0
 | none=>simp[ha,Nat.min_eq_left (Nat.le_of_lt h)]
theorem fst_y1 (h0:fstI vs w i≠0):fstI vs w (i+1)=fstI vs w i:=by
 unfold fstI at h0 ⊢
 rw[List.take_succ_eq_append_getElem h,List.findIdx?_append]
 cases hx:(vs.take i).findIdx? fun v=>decide (alikeP v w) with
 | some x=>rfl
 | none=>rw[hx] at h0;exact absurd rfl h0
end
def finL (vs:List Vl) (w:Vl):List Shw:=colS vs++[⟨2,1,w,0,0⟩]
theorem cnt_le2 (vs:List Vl) (w:Vl) (i:Nat):cntI vs w i≤i:=by
 unfold cntI
 exact Nat.le_trans List.countP_le_length (by rw[List.length_take];omega)
theorem fst_le2 (vs:List Vl) (w:Vl) (i:Nat):fstI vs w i≤i:=by
 unfold fstI
 split
 ·rename_i x hx
  have:=(List.findIdx?_eq_some_iff_getElem.1 hx).1
  rw[List.length_take] at this
  omega
 ·exact Nat.zero_le _
theorem cnt_all (vs:List Vl) (w:Vl):cntifV vs w=nuV (cntI vs w vs.length:Nat):=by
 unfold cntI cntifV
 rw[List.take_length]
theorem fst_all (vs:List Vl) (w:Vl):matchV vs w=(if fstI vs w vs.length=0 then ⟨4,6,[]⟩ else nuV (fstI vs w vs.length:Nat)):=by
 unfold fstI matchV
 rw[List.take_length]
 cases vs.findIdx? fun v=>decide (alikeP v w) with
 | some x=>simp
 | none=>simp
theorem all_2 {p:Nd→Prop} {x y:Nd} (hx:p x) (hy:p y):∀ z ∈ [x,y],p z:=fun z hz=>by
 rcases List.mem_cons.1 hz with rfl|hz
 ·exact hx
 ·obtain rfl:=List.mem_singleton.1 hz
  exact hy
theorem all_3 {p:Nd→Prop} {x y u:Nd} (hx:p x) (hy:p y) (hu:p u):∀ z ∈ [x,y,u],p z:=fun z hz=>by
 rcases List.mem_cons.1 hz with rfl|hz
 ·exact hx
 ·exact all_2 hy hu z hz
section
variable (te:TypeId) (pe:Value) (hV:Has (wG gl) (glV te pe)) {mx:Int} (hm':Go.EYtfkjhfdpphfjhaaGreatDoor.look (wG gl) 4=some [iD mx]) (hl':Go.EYtfkjhfdpphfjhaaGreatDoor.look (wG gl) 0=some lvAll)
include hV hm' hl'
theorem finds_a {vs:List Vl} {w:Vl} {p q:Bool} (hp:FnP Tryz.prog (wG gl) 17 [.lst 3 (vs.map vlQ),iD 90] (.v (.bool p))) (hq:FnP Tryz.prog (wG gl) 12 [w.d] (.v (.bool q))) (h:p=false∨q=false∨w.k=4):FnP Tryz.prog (wG gl) 6 [.lst 3 (vs.map vlQ),w.d] (.v (.bool true)):=by
 have f1:=fin_f1 (gl:=gl)
 have f2:=works_0 te pe hV hm' hl' fin_f2 (by decide) (by decide) (by decide) fin_0 (fun _ _ hM hev=>call_fin te pe hV hM hev) fin_f0
 have f3:=rBad_d (gl:=wG gl) 6
 obtain ⟨k,n,s⟩:=w
 change FnP Tryz.prog (wG gl) 12 [vlD k n s] _ at hq
 replace h:p=false∨q=false∨k=4:=h
 cases p
 ·refine fnP_of_vc (nv:=9999) (cu:=[]) fits mixed Tryz.func6 rfl hoB rfl ?_
  ((repeat' ((conv=>whnf);first|exact .intro|refine .ya ?_|refine .na ?_|refine .ys ?_|refine .ns ?_|refine .neg (fun _=>?_) (fun _=>?_)|refine .mk (fun _=>?_) (fun _=>?_)|refine .inl (.inl (X1 (by first|exact f1|exact f2|exact f3|exact hp|exact hq) ?_))|refine .inl (X1 (by first|exact f1|exact f2|exact f3|exact hp|exact hq) ?_)|refine X1 (by first|exact f1|exact f2|exact f3|exact hp|exact hq) ?_|refine .mk ?_ ?_|refine AK ?_|refine AT ?_|fail));all_goals conv=>whnf)
  all_goals first|exact LeD.rfl|(exfalso;simp_all;done)|skip
 cases q
 ·refine fnP_of_vc (nv:=9999) (cu:=[]) fits mixed Tryz.func6 rfl hoB rfl ?_
  ((repeat' ((conv=>whnf);first|exact .intro|refine .ya ?_|refine .na ?_|refine .ys ?_|refine .ns ?_|refine .neg (fun _=>?_) (fun _=>?_)|refine .mk (fun _=>?_) (fun _=>?_)|refine .inl (.inl (X1 (by first|exact f1|exact f2|exact f3|exact hp|exact hq) ?_))|refine .inl (X1 (by first|exact f1|exact f2|exact f3|exact hp|exact hq) ?_)|refine X1 (by first|exact f1|exact f2|exact f3|exact hp|exact hq) ?_|refine .mk ?_ ?_|refine AK ?_|refine AT ?_|fail));all_goals conv=>whnf)
  all_goals first|exact LeD.rfl|(exfalso;simp_all;done)|skip
 obtain rfl:k=4:=by simpa using h
 refine fnP_of_vc (nv:=9999) (cu:=[]) fits mixed Tryz.func6 rfl hoB rfl ?_
 ((repeat' ((conv=>whnf);first|exact .intro|refine .ya ?_|refine .na ?_|refine .ys ?_|refine .ns ?_|refine .neg (fun _=>?_) (fun _=>?_)|refine .mk (fun _=>?_) (fun _=>?_)|refine .inl (.inl (X1 (by first|exact f1|exact f2|exact f3|exact hp|exact hq) ?_))|refine .inl (X1 (by first|exact f1|exact f2|exact f3|exact hp|exact hq) ?_)|refine X1 (by first|exact f1|exact f2|exact f3|exact hp|exact hq) ?_|refine .mk ?_ ?_|refine AK ?_|refine AT ?_|fail));all_goals conv=>whnf)
 all_goals first|exact LeD.rfl|(exfalso;simp_all;done)|skip
theorem finds_y {vs:List Vl} {w:Vl} (hv:∀ v ∈ vs,v.ok) (hw:w.ok) (hw4:w.k≠4) (h0:vs.length≠0) (h90:vs.length≤90):FnP Tryz.prog (wG gl) 6 [.lst 3 (vs.map vlQ),w.d] (.v (.bool true)):=by
 have hlen:(vs.map vlQ).length=vs.length:=List.length_map _
 have f1:=fin_f1 (gl:=gl)
 have f2:=works_0 te pe hV hm' hl' fin_f2 (by decide) (by decide) (by decide) fin_0 (fun _ _ hM hev=>call_fin te pe hV hM hev) fin_f0
 have f3:=rBad_d (gl:=wG gl) 6
 have hp:=values_y (gl:=wG gl) (vs:=vs) (most:=90) h0 (by omega) (by omega) fun v h=>(hv v h).1
 have hq:FnP Tryz.prog (wG gl) 12 [vlD w.k w.n w.s] (.v (.bool true)):=isR_y hw.1
 have fc:=column_h (gl:=wG gl) vs (by omega)
 have hrl:((colS vs).map shwD).length=vs.length:=by rw[List.length_map,colS_len]
 have b1:(((colS vs).map shwD).length+1) * 64≤140737488355328:=by omega
 have b2:((colS vs).map shwD).length+1≤maxLen:=by unfold maxLen;omega
 have hsh:∀ x ∈ finL vs w,shOk x∧okI x.v.n:=fun x hx=>by
  unfold finL at hx
  rcases List.mem_append.1 hx with hx|hx
  ·unfold colS at hx
   obtain ⟨i,hi,rfl⟩:=List.mem_mapIdx.1 hx
   have:=hv _ (List.getElem_mem hi)
   exact ⟨⟨by show okP 1 ((i:Int)+1);unfold okP;omega,this.1⟩,this.2⟩
  ·obtain rfl:=List.mem_singleton.1 hx
   exact ⟨⟨by show okP 2 1;decide,hw.1⟩,hw.2⟩
 have hcl:(finL vs w).length≤1048576:=by unfold finL;rw[List.length_append,colS_len];simp;omega
 have hsw:shw7 (finL vs w)=.lst 7 ((colS vs).map shwD++[[iD 2,iD 1,iD w.k,iD w.n,.str w.s,iD 0,iD 0]]):=by
  show D.lst 7 ((colS vs++[(⟨2,1,w,0,0⟩:Shw)]).map shwD)=_
  rw[List.map_append]
  rfl
 have ew:evF (finL vs w) 2 1=w:=by unfold finL;rw[evF_snoc];unfold evS;rw[if_pos ⟨rfl,rfl⟩]
 have hev:∀ (i:Nat) (h:i<vs.length),evF (finL vs w) 1 ((i:Int)+1)=vs[i]:=fun i h=>by
  unfold finL
  rw[evF_snoc]
  unfold evS
  rw[if_neg (by simp),col_at h]
 have bW:boxA (evF (finL vs w)) (cR 1 1) (cR 1 vs.length)=.box vs 1:=by
  rw[box_col hev (p:=0) (q:=vs.length) (by omega) (Nat.le_refl _) ⟨rfl,rfl⟩ (.inl ⟨rfl,rfl⟩),List.drop_zero,Nat.sub_zero,List.take_length]
 have oN:okP 1 (vs.length:Int):=by unfold okP;omega
 have sB:Sm (boxN (cR 1 1) (cR 1 vs.length)) True 20 0 1:=(sm_box True trivial (by decide) oN).mono id (by decide) (by decide) (by decide)
 have sX:Sm (refN (cR 2 1)) True 20 0 1:=(sm_ref True (by decide)).mono id (by decide) (by decide) (by decide)
 have sN:∀ m:Int,0≤m→m≤90→Sm (numN m) True 20 0 1:=fun m h1 h2=>sm_num True h1 (by omega) (itoa_len (by omega))
 have iB:InS finS (boxN (cR 1 1) (cR 1 vs.length)):=.leaf (by decide)
 have iX:InS finS (refN (cR 2 1)):=.leaf (by decide)
 have iN:∀ m,InS finS (numN m):=fun m=>.leaf (by decide)
 have fle:=fst_le2 vs w vs.length
 have sM:=sm_call (w:=20) (d:=0) (c:=1) False (t:=nMATCH) (by decide) (ks:=[refN (cR 2 1),boxN (cR 1 1) (cR 1 vs.length)]) (all_2 sX sB)
 have sC:=sm_call (w:=20) (d:=0) (c:=1) False (t:=nCOUNTIF) (by decide) (ks:=[boxN (cR 1 1) (cR 1 vs.length),refN (cR 2 1)]) (all_2 sB sX)
 have sL:=sm_call (w:=20) (d:=0) (c:=1) False (t:=nLOOKUP) (by decide) (ks:=[refN (cR 2 1),boxN (cR 1 1) (cR 1 vs.length),numN 1]) (all_3 sX sB (sN 1 (by decide) (by decide)))
 have sI:=sm_call (w:=20) (d:=0) (c:=1) False (t:=nINDEX) (by decide) (ks:=[boxN (cR 1 1) (cR 1 vs.length),numN (fstI vs w vs.length:Nat),numN 1]) (all_3 sB (sN _ (by omega) (by omega)) (sN 1 (by decide) (by decide)))
 have cok:∀ mk mv,MapOk mk mv (evF (finL vs w))→(∀ c r,(evF (finL vs w) c r).ok)→CallOk gl finS mk mv (evF (finL vs w)):=fun _ _ hM hev=>call_fin te pe hV hM hev
 have eM:evN (evF (finL vs w)) (callN nMATCH [refN (cR 2 1),boxN (cR 1 1) (cR 1 vs.length)])=matchV vs w:=by
  rw[evN_call]
  show callV nMATCH [.one (evF _ 2 1),boxA _ _ _]=_
  rw[ew,bW,call_match w vs 1 hw4]
 have eC:evN (evF (finL vs w)) (callN nCOUNTIF [boxN (cR 1 1) (cR 1 vs.length),refN (cR 2 1)])=cntifV vs w:=by
  rw[evN_call]
  show callV nCOUNTIF [boxA _ _ _,.one (evF _ 2 1)]=_
  rw[ew,bW,call_cntif w vs 1 hw4]
 have eL:evN (evF (finL vs w)) (callN nLOOKUP [refN (cR 2 1),boxN (cR 1 1) (cR 1 vs.length),numN 1])=match lookR vs 1 w with
  | some r=>vs.getD r wrV
  | none=>⟨4,6,[]⟩:=by
  rw[evN_call]
  show callV nLOOKUP [.one (evF _ 2 1),boxA _ _ _,.one (nuV 1)]=_
  rw[ew,bW,call_look w vs hw4]
  rfl
 have w1:=works_s te pe hV hm' hl' sM (by show 5+2+2 * 21≤199;decide) (by decide) (by simp) (in_call (.inr (.inl ⟨rfl,rfl⟩)) (in_2 iX iB)) (fun x hx=>(hsh x hx).1) (fun x hx=>(hsh x hx).2) hcl cok eM
 have w2:=works_s te pe hV hm' hl' sC (by show 7+2+2 * 21≤199;decide) (by decide) (by simp) (in_call (.inr (.inr (.inl ⟨rfl,rfl⟩))) (in_2 iB iX)) (fun x hx=>(hsh x hx).1) (fun x hx=>(hsh x hx).2) hcl cok eC
 have w3:=works_s te pe hV hm' hl' sL (by show 6+2+3 * 21≤199;decide) (by decide) (by simp) (in_call (.inr (.inr (.inr (.inl ⟨rfl,rfl⟩)))) (in_3 iX iB (iN 1))) (fun x hx=>(hsh x hx).1) (fun x hx=>(hsh x hx).2) hcl cok eL
 rw[hsw] at w1 w2 w3
 rw[cnt_all] at w2
 change FnP Tryz.prog (wG gl) 15 _ (.tup [vlD 1 (cntI vs w vs.length:Nat) [],_]) at w2
 have k1:FnP Tryz.prog (wG gl) 16 [.str nMATCH,.lst 12 [refR 2 1,(boxN (cR 1 1) (cR 1 vs.length)).cs]] (.agg (callN nMATCH [refN (cR 2 1),boxN (cR 1 1) (cR 1 vs.length)]).cs):=FnP.args (scall_d nMATCH [refN (cR 2 1),boxN (cR 1 1) (cR 1 vs.length)]) ⟨LeD.rfl,LeD.lst ⟨ref_le _ _,le_refl2 _,trivial⟩,trivial⟩
 have k2:FnP Tryz.prog (wG gl) 16 [.str nCOUNTIF,.lst 12 [(boxN (cR 1 1) (cR 1 vs.length)).cs,refR 2 1]] (.agg (callN nCOUNTIF [boxN (cR 1 1) (cR 1 vs.length),refN (cR 2 1)]).cs):=FnP.args (scall_d nCOUNTIF [boxN (cR 1 1) (cR 1 vs.length),refN (cR 2 1)]) ⟨LeD.rfl,LeD.lst ⟨le_refl2 _,ref_le _ _,trivial⟩,trivial⟩
 have k3:FnP Tryz.prog (wG gl) 16 [.str nLOOKUP,.lst 12 [refR 2 1,(boxN (cR 1 1) (cR 1 vs.length)).cs,rawR 1 1 [] 0 0]] (.agg (callN nLOOKUP [refN (cR 2 1),boxN (cR 1 1) (cR 1 vs.length),numN 1]).cs):=FnP.args (scall_d nLOOKUP [refN (cR 2 1),boxN (cR 1 1) (cR 1 vs.length),numN 1]) ⟨LeD.rfl,LeD.lst ⟨ref_le _ _,le_refl2 _,raw_le _ _ _ _ _,trivial⟩,trivial⟩
 have a1:=at_d (gl:=wG gl) 1 1
 have a2:=at_d (gl:=wG gl) 1 (vs.length:Int)
 have a3:=at_d (gl:=wG gl) 2 1
 have s1:=sbox_d (gl:=wG gl) 1 1 1 (vs.length:Int)
 have f9:FnP Tryz.prog (wG gl) 23 [.v (.bool true)] (vlD 3 1 []):=rTru_c true
 have f8:=rNum_d (gl:=wG gl) (cntI vs w vs.length:Nat)
 have f7:=rNum_d (gl:=wG gl) (fstI vs w vs.length:Nat)
 have hN:=first_like vs w
 rcases hN with ⟨hno,hmv,hlk,hcn⟩|⟨x,hx,hax,hbx,hmv,hlk⟩
 ·rw[hmv] at w1
  rw[hlk] at w3
  change FnP Tryz.prog (wG gl) 15 _ (.tup [vlD 4 6 [],_]) at w1
  change FnP Tryz.prog (wG gl) 15 _ (.tup [vlD 4 6 [],_]) at w3
  have hc0:cntI vs w vs.length=0:=by
   rw[cnt_all] at hcn
   have:=congrArg Vl.n hcn
   simpa using this
  refine fnP_of_vc (nv:=9999) (cu:=[]) fits mixed Tryz.func6 rfl hoB rfl ?_
  ((repeat' ((conv=>whnf);first|exact .intro|refine .ya ?_|refine .na ?_|refine .ys ?_|refine .ns ?_|refine .neg (fun _=>?_) (fun _=>?_)|refine .mk (fun _=>?_) (fun _=>?_)|refine .inr (X5 (fc.r [] _) ?_)|refine .inl (.inr (X5 (fc.r [] _) ?_))|refine .inl (X5 (fc.r [] _) ?_)|refine .inl (.inl (X1 (by first|exact f1|exact f2|exact f3|exact hp|exact hq|exact w1|exact w2|exact w3|exact a1|exact a2|exact a3|exact s1) ?_))|refine .inl (X1 (by first|exact f1|exact f2|exact f3|exact hp|exact hq|exact w1|exact w2|exact w3|exact a1|exact a2|exact a3|exact s1) ?_)|refine X1 (by first|exact f1|exact f2|exact f3|exact hp|exact hq|exact w1|exact w2|exact w3|exact a1|exact a2|exact a3|exact s1) ?_|refine .inr (X1 (by first|exact k1|exact k2|exact k3) ?_)|(first|rw[hlen]|refine ⟨⟨rfl,b1,b2⟩,?_⟩)|refine .mk ?_ ?_|refine AK ?_|refine AT ?_|fail));all_goals conv=>whnf)
  refine ⟨{ σ:=Nat,fr:=fun i=>[(20,.c (.d (iD (i:Int)))),(19,.c (.d (iD ((fstI vs w i:Nat):Int)))),(18,.c (.d (iD ((cntI vs w i:Nat):Int))))],ks:=[],L:=fun _=>[],ex:=0,I:=fun i=>i≤vs.length,μ:=fun i=>vs.length - i },⟨0,Nat.zero_le _,?_⟩,fun (i:Nat) hi=>?_⟩
  ·((repeat' first|exact rfl|((conv=>whnf);first|done|exact suL|refine And.intro ?_ ?_|fail));all_goals conv=>whnf)
  replace hi:i≤vs.length:=hi
  by_cases hlt:i<vs.length
  ·clear f1 f2 f3 hp hq w1 w2 w3 a1 a2 a3 s1 fc k1 k2 k3 hsh hcl hsw ew hev bW oN sB sX sN iB iX iN sM sC sL sI cok eM eC eL hmv hlk hrl b1 b2 fle h0 hw4 f7 f8 hno hcn hc0
   have h3:(i:Int)<(((vs.map vlQ).length:Nat):Int):=by omega
   have g1:=get_map (f:=vlQ) hlt
   have e0:=wx (x:=i) (by omega)
   have hl1:=cnt_le2 vs w i
   have hl2:=fst_le2 vs w i
   have rT:=rTwo_v (gl:=wG gl) 1 (hv _ (List.getElem_mem hlt)) hw
   clear hv hw
   by_cases ha:alikeP vs[i] w
   ·rw[(alike_iff _ _).1 ha] at rT
    have e1:IntKind.i64.wrap (((cntI vs w i:Nat):Int)+1)=((cntI vs w (i+1):Nat):Int):=by rw[cnt_y hlt ha];exact wx (by omega)
    by_cases hf0:fstI vs w i=0
    ·have e2:IntKind.i64.wrap ((i:Int)+1)=((fstI vs w (i+1):Nat):Int):=by rw[fst_y0 hlt ha hf0];exact e0
     have h5:((fstI vs w i:Nat):Int)=0:=by omega
     clear ha
     generalize vs[i]=v at *
     ((repeat' ((conv=>whnf);first|exact .intro|refine .ya ?_|refine .na ?_|refine .ys ?_|refine .ns ?_|refine .neg (fun _=>?_) (fun _=>?_)|refine .mk (fun _=>?_) (fun _=>?_)|refine .inl (.inl (X1 (by first|exact rT|exact f9) ?_))|refine .inl (X1 (by first|exact rT|exact f9) ?_)|refine X1 (by first|exact rT|exact f9) ?_|(refine ⟨Int.natCast_nonneg _,_,g1,?_⟩)|refine .mk ?_ ?_|refine AK ?_|refine AT ?_|fail));all_goals conv=>whnf)
     all_goals first|(exfalso;simp_all;done)|refine ⟨i+1,⟨hlt,by show vs.length - (i+1)<vs.length - i;omega⟩,?_⟩
     all_goals ((repeat' first|exact rfl|((conv=>whnf);first|done|exact suL|refine And.intro ?_ ?_|fail));all_goals conv=>whnf)
     all_goals first|exact ceq e0|exact ceq e1|exact ceq e2|skip
    ·have e2:((fstI vs w i:Nat):Int)=((fstI vs w (i+1):Nat):Int):=by rw[fst_y1 hlt hf0]
     have h5:¬ ((fstI vs w i:Nat):Int)=0:=by omega
     clear ha
     generalize vs[i]=v at *
     ((repeat' ((conv=>whnf);first|exact .intro|refine .ya ?_|refine .na ?_|refine .ys ?_|refine .ns ?_|refine .neg (fun _=>?_) (fun _=>?_)|refine .mk (fun _=>?_) (fun _=>?_)|refine .inl (.inl (X1 (by first|exact rT|exact f9) ?_))|refine .inl (X1 (by first|exact rT|exact f9) ?_)|refine X1 (by first|exact rT|exact f9) ?_|(refine ⟨Int.natCast_nonneg _,_,g1,?_⟩)|refine .mk ?_ ?_|refine AK ?_|refine AT ?_|fail));all_goals conv=>whnf)
     all_goals first|(exfalso;simp_all;done)|refine ⟨i+1,⟨hlt,by show vs.length - (i+1)<vs.length - i;omega⟩,?_⟩
     all_goals ((repeat' first|exact rfl|((conv=>whnf);first|done|exact suL|refine And.intro ?_ ?_|fail));all_goals conv=>whnf)
     all_goals first|exact ceq e0|exact ceq e1|exact ceq e2|skip
   ·have hne:twoV 1 vs[i] w≠⟨3,1,[]⟩:=fun h=>ha ((alike_iff _ _).2 h)
    have e1:((cntI vs w i:Nat):Int)=((cntI vs w (i+1):Nat):Int):=by rw[cnt_n hlt ha]
    have e2:((fstI vs w i:Nat):Int)=((fstI vs w (i+1):Nat):Int):=by rw[fst_n hlt ha]
    clear ha
    generalize twoV 1 vs[i] w=E at *
    generalize vs[i]=v at *
    obtain ⟨ek,en,es⟩:=E
    change FnP Tryz.prog (wG gl) 21 [_,_,_] (vlD ek en es) at rT
    ((repeat' ((conv=>whnf);first|exact .intro|refine .ya ?_|refine .na ?_|refine .ys ?_|refine .ns ?_|refine .neg (fun _=>?_) (fun _=>?_)|refine .mk (fun _=>?_) (fun _=>?_)|refine .inl (.inl (X1 (by first|exact rT|exact f9) ?_))|refine .inl (X1 (by first|exact rT|exact f9) ?_)|refine X1 (by first|exact rT|exact f9) ?_|(refine ⟨Int.natCast_nonneg _,_,g1,?_⟩)|refine .mk ?_ ?_|refine AK ?_|refine AT ?_|fail));all_goals conv=>whnf)
    all_goals first|(exfalso;simp_all [andPD];done)|refine ⟨i+1,⟨hlt,by show vs.length - (i+1)<vs.length - i;omega⟩,?_⟩
    all_goals ((repeat' first|exact rfl|((conv=>whnf);first|done|exact suL|refine And.intro ?_ ?_|fail));all_goals conv=>whnf)
    all_goals first|exact ceq e0|exact ceq e1|exact ceq e2|skip
  ·have h3:¬ (i:Int)<(((vs.map vlQ).length:Nat):Int):=by omega
   obtain rfl:i=vs.length:=by omega
   have h7:((cntI vs w vs.length:Nat):Int)=0:=by omega
   clear hv hw f1 f2 hp hq w1 w2 w3 a1 a2 a3 s1 fc k1 k2 k3 hsh hcl hsw ew hev bW oN sB sX sN iB iX iN sM sC sL sI cok eM eC eL hmv hlk hrl b1 b2 fle h0 hw4 f7 hno hcn hc0
   ((repeat' ((conv=>whnf);first|exact .intro|refine .ya ?_|refine .na ?_|refine .ys ?_|refine .ns ?_|refine .neg (fun _=>?_) (fun _=>?_)|refine .mk (fun _=>?_) (fun _=>?_)|refine .inl (.inl (X1 (by first|exact f3|exact f8) ?_))|refine .inl (X1 (by first|exact f3|exact f8) ?_)|refine X1 (by first|exact f3|exact f8) ?_|refine .mk ?_ ?_|refine AK ?_|refine AT ?_|fail));all_goals conv=>whnf)
   all_goals first|exact LeD.rfl|exact LeD.vt (by simp[andPD])|(exfalso;simp_all;done)|skip
 ·have hF0:fstI vs w vs.length≠0:=fun h=>by
   rw[fst_all,if_pos h] at hmv
   cases hmv
  have hF:fstI vs w vs.length=x+1:=by
   rw[fst_all,if_neg hF0] at hmv
   have:=congrArg Vl.n hmv
   simp only at this
   omega
  have hc0:cntI vs w vs.length≠0:=fun h=>by
   unfold cntI at h
   rw[List.take_length,List.countP_eq_zero] at h
   exact h _ (List.getElem_mem hx) (by simpa using hax)
  rw[fst_all,if_neg hF0] at w1
  rw[hlk] at w3
  have hgd:vs.getD x wrV=vs[x]:=by rw[List.getD_eq_getElem?_getD,List.getElem?_eq_getElem hx];rfl
  have eI:evN (evF (finL vs w)) (callN nINDEX [boxN (cR 1 1) (cR 1 vs.length),numN (fstI vs w vs.length:Nat),numN 1])=vs[x]:=by
   rw[evN_call]
   show callV nINDEX [boxA _ _ _,.one (nuV (fstI vs w vs.length:Nat)),.one (nuV 1)]=_
   rw[bW,call_index vs _ (by omega) (by omega),hF,Nat.add_sub_cancel,hgd]
  have w4:=works_s te pe hV hm' hl' sI (by show 5+2+3 * 21≤199;decide) (by decide) (by simp) (in_call (.inr (.inr (.inr (.inr ⟨rfl,rfl⟩)))) (in_3 iB (iN _) (iN 1))) (fun x hx=>(hsh x hx).1) (fun x hx=>(hsh x hx).2) hcl cok eI
  rw[hsw] at w4
  change FnP Tryz.prog (wG gl) 15 _ (.tup [vlD 1 (fstI vs w vs.length:Nat) [],_]) at w1
  change FnP Tryz.prog (wG gl) 15 _ (.tup [(vs.getD x wrV).d,_]) at w3
  rw[hgd] at w3
  have k4:FnP Tryz.prog (wG gl) 16 [.str nINDEX,.lst 12 [(boxN (cR 1 1) (cR 1 vs.length)).cs,rawR 1 (fstI vs w vs.length:Nat) [] 0 0,rawR 1 1 [] 0 0]] (.agg (callN nINDEX [boxN (cR 1 1) (cR 1 vs.length),numN (fstI vs w vs.length:Nat),numN 1]).cs):=FnP.args (scall_d nINDEX [boxN (cR 1 1) (cR 1 vs.length),numN (fstI vs w vs.length:Nat),numN 1]) ⟨LeD.rfl,LeD.lst ⟨le_refl2 _,raw_le _ _ _ _ _,raw_le _ _ _ _ _,trivial⟩,trivial⟩
  have e6:IntKind.i64.wrap (((fstI vs w vs.length:Nat):Int) - 1)=(x:Int):=by rw[wrapI (by omega)];omega
  have g2:=get_map (f:=vlQ) hx
  clear hax hbx hgd eI
  refine fnP_of_vc (nv:=9999) (cu:=[]) fits mixed Tryz.func6 rfl hoB rfl ?_
  ((repeat' ((conv=>whnf);first|exact .intro|refine .ya ?_|refine .na ?_|refine .ys ?_|refine .ns ?_|refine .neg (fun _=>?_) (fun _=>?_)|refine .mk (fun _=>?_) (fun _=>?_)|refine .inr (X5 (fc.r [] _) ?_)|refine .inl (.inr (X5 (fc.r [] _) ?_))|refine .inl (X5 (fc.r [] _) ?_)|refine .inl (.inl (X1 (by first|exact f1|exact f2|exact f3|exact hp|exact hq|exact w1|exact w2|exact w3|exact a1|exact a2|exact a3|exact s1) ?_))|refine .inl (X1 (by first|exact f1|exact f2|exact f3|exact hp|exact hq|exact w1|exact w2|exact w3|exact a1|exact a2|exact a3|exact s1) ?_)|refine X1 (by first|exact f1|exact f2|exact f3|exact hp|exact hq|exact w1|exact w2|exact w3|exact a1|exact a2|exact a3|exact s1) ?_|refine .inr (X1 (by first|exact k1|exact k2|exact k3) ?_)|(first|rw[hlen]|refine ⟨⟨rfl,b1,b2⟩,?_⟩)|refine .mk ?_ ?_|refine AK ?_|refine AT ?_|fail));all_goals conv=>whnf)
  refine ⟨{ σ:=Nat,fr:=fun i=>[(20,.c (.d (iD (i:Int)))),(19,.c (.d (iD ((fstI vs w i:Nat):Int)))),(18,.c (.d (iD ((cntI vs w i:Nat):Int))))],ks:=[],L:=fun _=>[],ex:=0,I:=fun i=>i≤vs.length,μ:=fun i=>vs.length - i },⟨0,Nat.zero_le _,?_⟩,fun (i:Nat) hi=>?_⟩
  ·((repeat' first|exact rfl|((conv=>whnf);first|done|exact suL|refine And.intro ?_ ?_|fail));all_goals conv=>whnf)
  replace hi:i≤vs.length:=hi
  by_cases hlt:i<vs.length
  ·clear f1 f2 f3 hp hq w1 w2 w3 a1 a2 a3 s1 fc k1 k2 k3 hsh hcl hsw ew hev bW oN sB sX sN iB iX iN sM sC sL sI cok eM eC eL hmv hlk hrl b1 b2 fle h0 hw4 f7 f8 w4 k4 e6 g2 hF0 hF hc0
   have h3:(i:Int)<(((vs.map vlQ).length:Nat):Int):=by omega
   have g1:=get_map (f:=vlQ) hlt
   have e0:=wx (x:=i) (by omega)
   have hl1:=cnt_le2 vs w i
   have hl2:=fst_le2 vs w i
   have rT:=rTwo_v (gl:=wG gl) 1 (hv _ (List.getElem_mem hlt)) hw
   clear hv hw
   by_cases ha:alikeP vs[i] w
   ·rw[(alike_iff _ _).1 ha] at rT
    have e1:IntKind.i64.wrap (((cntI vs w i:Nat):Int)+1)=((cntI vs w (i+1):Nat):Int):=by rw[cnt_y hlt ha];exact wx (by omega)
    by_cases hf0:fstI vs w i=0
    ·have e2:IntKind.i64.wrap ((i:Int)+1)=((fstI vs w (i+1):Nat):Int):=by rw[fst_y0 hlt ha hf0];exact e0
     have h5:((fstI vs w i:Nat):Int)=0:=by omega
     clear ha
     generalize vs[i]=v at *
     ((repeat' ((conv=>whnf);first|exact .intro|refine .ya ?_|refine .na ?_|refine .ys ?_|refine .ns ?_|refine .neg (fun _=>?_) (fun _=>?_)|refine .mk (fun _=>?_) (fun _=>?_)|refine .inl (.inl (X1 (by first|exact rT|exact f9) ?_))|refine .inl (X1 (by first|exact rT|exact f9) ?_)|refine X1 (by first|exact rT|exact f9) ?_|(refine ⟨Int.natCast_nonneg _,_,g1,?_⟩)|refine .mk ?_ ?_|refine AK ?_|refine AT ?_|fail));all_goals conv=>whnf)
     all_goals first|(exfalso;simp_all;done)|refine ⟨i+1,⟨hlt,by show vs.length - (i+1)<vs.length - i;omega⟩,?_⟩
     all_goals ((repeat' first|exact rfl|((conv=>whnf);first|done|exact suL|refine And.intro ?_ ?_|fail));all_goals conv=>whnf)
     all_goals first|exact ceq e0|exact ceq e1|exact ceq e2|skip
    ·have e2:((fstI vs w i:Nat):Int)=((fstI vs w (i+1):Nat):Int):=by rw[fst_y1 hlt hf0]
     have h5:¬ ((fstI vs w i:Nat):Int)=0:=by omega
     clear ha
     generalize vs[i]=v at *
     ((repeat' ((conv=>whnf);first|exact .intro|refine .ya ?_|refine .na ?_|refine .ys ?_|refine .ns ?_|refine .neg (fun _=>?_) (fun _=>?_)|refine .mk (fun _=>?_) (fun _=>?_)|refine .inl (.inl (X1 (by first|exact rT|exact f9) ?_))|refine .inl (X1 (by first|exact rT|exact f9) ?_)|refine X1 (by first|exact rT|exact f9) ?_|(refine ⟨Int.natCast_nonneg _,_,g1,?_⟩)|refine .mk ?_ ?_|refine AK ?_|refine AT ?_|fail));all_goals conv=>whnf)
     all_goals first|(exfalso;simp_all;done)|refine ⟨i+1,⟨hlt,by show vs.length - (i+1)<vs.length - i;omega⟩,?_⟩
     all_goals ((repeat' first|exact rfl|((conv=>whnf);first|done|exact suL|refine And.intro ?_ ?_|fail));all_goals conv=>whnf)
     all_goals first|exact ceq e0|exact ceq e1|exact ceq e2|skip
   ·have hne:twoV 1 vs[i] w≠⟨3,1,[]⟩:=fun h=>ha ((alike_iff _ _).2 h)
    have e1:((cntI vs w i:Nat):Int)=((cntI vs w (i+1):Nat):Int):=by rw[cnt_n hlt ha]
    have e2:((fstI vs w i:Nat):Int)=((fstI vs w (i+1):Nat):Int):=by rw[fst_n hlt ha]
    clear ha
    generalize twoV 1 vs[i] w=E at *
    generalize vs[i]=v at *
    obtain ⟨ek,en,es⟩:=E
    change FnP Tryz.prog (wG gl) 21 [_,_,_] (vlD ek en es) at rT
    ((repeat' ((conv=>whnf);first|exact .intro|refine .ya ?_|refine .na ?_|refine .ys ?_|refine .ns ?_|refine .neg (fun _=>?_) (fun _=>?_)|refine .mk (fun _=>?_) (fun _=>?_)|refine .inl (.inl (X1 (by first|exact rT|exact f9) ?_))|refine .inl (X1 (by first|exact rT|exact f9) ?_)|refine X1 (by first|exact rT|exact f9) ?_|(refine ⟨Int.natCast_nonneg _,_,g1,?_⟩)|refine .mk ?_ ?_|refine AK ?_|refine AT ?_|fail));all_goals conv=>whnf)
    all_goals first|(exfalso;simp_all [andPD];done)|refine ⟨i+1,⟨hlt,by show vs.length - (i+1)<vs.length - i;omega⟩,?_⟩
    all_goals ((repeat' first|exact rfl|((conv=>whnf);first|done|exact suL|refine And.intro ?_ ?_|fail));all_goals conv=>whnf)
    all_goals first|exact ceq e0|exact ceq e1|exact ceq e2|skip
  ·have h3:¬ (i:Int)<(((vs.map vlQ).length:Nat):Int):=by omega
   obtain rfl:i=vs.length:=by omega
   have h7:¬ ((cntI vs w vs.length:Nat):Int)=0:=by omega
   clear hv hw f1 f2 hp hq w1 w2 w3 a1 a2 a3 s1 fc k1 k2 k3 hsh hcl hsw ew hev bW oN sB sX sN iB iX iN sM sC sL sI cok eM eC eL hmv hlk hrl b1 b2 fle h0 hw4 hF0 hF hc0
   generalize vs[x]=v at *
   ((repeat' ((conv=>whnf);first|exact .intro|refine .ya ?_|refine .na ?_|refine .ys ?_|refine .ns ?_|refine .neg (fun _=>?_) (fun _=>?_)|refine .mk (fun _=>?_) (fun _=>?_)|refine .inl (.inl (X1 (by first|exact f3|exact f8|exact f7|exact w4) ?_))|refine .inl (X1 (by first|exact f3|exact f8|exact f7|exact w4) ?_)|refine X1 (by first|exact f3|exact f8|exact f7|exact w4) ?_|refine .inr (X1 (by first|exact k4) ?_)|(first|rw[e6]|refine ⟨Int.natCast_nonneg _,_,g2,?_⟩)|refine .mk ?_ ?_|refine AK ?_|refine AT ?_|fail));all_goals conv=>whnf)
   all_goals first|exact LeD.rfl|exact LeD.vt (by simp[andPD])|(exfalso;simp_all;done)|skip
theorem EvalFinds_d {vs:List Vl} {w:Vl} (hn:∀ v ∈ vs,okI v.n) (hw:okI w.n):FnP Tryz.prog (wG gl) 6 [.lst 3 (vs.map vlQ),w.d] (.v (.bool true)):=by
 by_cases h:vs.length≠0∧(vs.length:Int)≤90∧∀ v ∈ vs,isV v.k v.n v.s
 ·have hp:=values_y (gl:=wG gl) (vs:=vs) (most:=90) h.1 h.2.1 (by omega) h.2.2
  by_cases h1:isV w.k w.n w.s
  ·by_cases h4:w.k=4
   ·exact finds_a te pe hV hm' hl' hp (isR_y h1) (.inr (.inr h4))
   ·exact finds_y te pe hV hm' hl' (fun v hv=>⟨h.2.2 v hv,hn v hv⟩) ⟨h1,hw⟩ h4 h.1 (by omega)
  ·exact finds_a te pe hV hm' hl' hp (isR_n h1) (.inr (.inl rfl))
 ·by_cases h1:isV w.k w.n w.s
  ·exact finds_a te pe hV hm' hl' (values_n (by decide) (by decide) h) (isR_y h1) (.inl rfl)
  ·exact finds_a te pe hV hm' hl' (values_n (by decide) (by decide) h) (isR_n h1) (.inl rfl)
end
end Go.Proofs.YtfkjhfdpphfjhaaGreatDoor
end
section
namespace Go.Proofs.YtfkjhfdpphfjhaaGreatDoor
open Go Go.ChangeShapes Go.WideShapes Go.ChangeAt Go.RowKit Go.EYtfkjhfdpphfjhaaGreatDoor
set_option linter.unusedVariables false
set_option maxRecDepth 100000
theorem var_wrong {w:World} (h1:Lib.VarReads Tryz.prog w "sccsettle/eval.wrong" Rows.laid_sccsettle_eval_wrong):Holds1 w 1 [iD 4,iD 2,.str []]:=by
 obtain ⟨g,t,cs,fuel,p,hg,ht,hv,hd⟩:=h1
 have e:(some g:Option Nat)=some 1:=hg.symm.trans (show Tryz.prog.globalNamed "sccsettle/eval.wrong" = some 1 by kernel_rfl)
 cases e
 have e:(some t:Option Nat)=some 31:=ht.symm.trans (by kernel_rfl)
 cases e
 obtain ⟨xs,n,_,hx,hcl,hlen,hi⟩:=DataW.trod_struct Tryz.underlying31 hd
 rw[show Tryz.prog.cellsOf 31=3 by kernel_rfl] at hcl
 have b1:=var_cells hg hv
 obtain ⟨csl⟩:=cs
 have c3:Tryz.prog.cellsOf 3=1:=by kernel_rfl
 have c9:Tryz.prog.cellsOf 9=1:=by kernel_rfl
 match csl,hcl with
 | [a,b,c],_ =>
  match xs,hlen with
  | [y0,y1,y2],_ =>
   have h0:=hi 0 _ rfl
   have h1:=hi 1 _ rfl
   have h2:=hi 2 _ rfl
   change DataW.trod _ Tryz.prog w _ _ _ n 3 (List.take (Tryz.prog.cellsOf 3) [a,b,c])=some y0 at h0
   change DataW.trod _ Tryz.prog w _ _ _ n 3 (List.take (Tryz.prog.cellsOf 3) [b,c])=some y1 at h1
   change DataW.trod _ Tryz.prog w _ _ _ n 9 (List.take (Tryz.prog.cellsOf 9) [c])=some y2 at h2
   rw[c3] at h0 h1
   rw[c9] at h2
   obtain ⟨k,e0,f0,_⟩:=DataW.trod_int Tryz.underlying3 h0
   obtain ⟨m,e1,f1,_⟩:=DataW.trod_int Tryz.underlying3 h1
   obtain ⟨s,e2,f2,_⟩:=DataW.trod_string Tryz.underlying9 h2
   cases e0;cases e1;cases e2
   subst f0;subst f1;subst f2
   have hq:=(Prod.mk.inj hx).1
   simp only[Rows.laid_sccsettle_eval_wrong,List.map,DataW.agg.injEq,List.cons.injEq,DataW.lit.injEq,Lit.int.injEq,Lit.string.injEq,true_and,and_true] at hq
   obtain ⟨rfl,rfl,hs⟩:=hq
   have es:s=⟨([]:List UInt8).toArray⟩:=by
    obtain ⟨⟨l⟩⟩:=s
    have:l=[]:=hs.symm
    subst this
    rfl
   subst es
   exact ⟨_,b1,.v _,.v _,.str _,trivial⟩
abbrev glX (te:TypeId) (pe:Value) (mx:Int):List (Nat×List D):=(0,lvAll)::(4,[iD mx])::glV te pe
abbrev glY (te:TypeId) (pe:Value) (mx:Int):List (Nat×List D):=wG (glX te pe mx)
theorem glY_has (te:TypeId) (pe:Value) (mx:Int):Has (glY te pe mx) (glV te pe):=by
 intro g l hl
 rw[look_cons]
 split
 ·rename_i e;subst e;exact absurd hl (by rw[show Go.EYtfkjhfdpphfjhaaGreatDoor.look (glV te pe) 1=none from rfl];simp)
 ·rw[look_cons]
  split
  ·rename_i e;subst e;exact absurd hl (by rw[show Go.EYtfkjhfdpphfjhaaGreatDoor.look (glV te pe) 0=none from rfl];simp)
  ·rw[look_cons]
   split
   ·rename_i e;subst e;exact absurd hl (by rw[show Go.EYtfkjhfdpphfjhaaGreatDoor.look (glV te pe) 4=none from rfl];simp)
   ·exact hl
end Go.Proofs.YtfkjhfdpphfjhaaGreatDoor
end
section
namespace Go.Proofs.YtfkjhfdpphfjhaaGreatDoor
open Go Go.EYtfkjhfdpphfjhaaGreatDoor
set_option maxRecDepth 100000
theorem EvalFinds_g (te:TypeId) (pe:Value) (mx:Int) (vs:List Vl) (hv:∀ v ∈ vs,inV v) (k n:Int) (s:List UInt8) (hn:okI n):FnP Tryz.prog (glY te pe mx) 6 [.lst 3 (vs.map vlR),vlD k n s] (.v (.bool true)) :=
 EvalFinds_d te pe (glY_has te pe mx) rfl rfl (w:=⟨k,n,s⟩) (fun v h=>(hv v h).1) hn
end Go.Proofs.YtfkjhfdpphfjhaaGreatDoor
end
