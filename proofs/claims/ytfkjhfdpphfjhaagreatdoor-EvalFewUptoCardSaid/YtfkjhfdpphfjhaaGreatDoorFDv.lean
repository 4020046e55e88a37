/- Proved: a part of what the law is proved with (the reckoner, contracts of functions, plain laws). Conditions: as each says. -/
import Derived.Laws.IdiomStrings
import Derived.Deep.LoopGhost
import Derived.Test.YtfkjhfdpphfjhaaGreatDoorFDj
import Derived.Test.YtfkjhfdpphfjhaaGreatDoorFDo
import Derived.Test.YtfkjhfdpphfjhaaGreatDoorFDr
namespace Go.Proofs.YtfkjhfdpphfjhaaGreatDoor
open Go Go.RowKit Go.EYtfkjhfdpphfjhaaGreatDoor
set_option maxRecDepth 100000
set_option maxHeartbeats 4000000
section
variable {gl:List (Nat×List D)}
theorem len_1 {α:Type} {l:List α} (h:l.length=1):∃ x,l=[x]:=by
 match l,h with
 | [x],_=>exact ⟨x,rfl⟩
theorem len_2 {α:Type} {l:List α} (h:l.length=2):∃ x y,l=[x,y]:=by
 match l,h with
 | [x,y],_=>exact ⟨x,y,rfl⟩
theorem len_3 {α:Type} {l:List α} (h:l.length=3):∃ x y z,l=[x,y,z]:=by
 match l,h with
 | [x,y,z],_=>exact ⟨x,y,z,rfl⟩
inductive InS (S:List UInt8→Nat→Prop):Nd→Prop
 | mk {k m:Int} {t:List UInt8} {a b:Rf} {ks:List Nd} (h:k=9→S t ks.length) (hk:∀ x (h:x<ks.length),InS S ks[x]):InS S (.mk k m t a b ks)
theorem InS.out {S:List UInt8→Nat→Prop} {k m:Int} {t:List UInt8} {a b:Rf} {ks:List Nd} (h:InS S (.mk k m t a b ks)):(k=9→S t ks.length)∧∀ x (h:x<ks.length),InS S ks[x]:=by
 cases h with
 | mk h hk=>exact ⟨h,hk⟩
theorem InS.leaf {S:List UInt8→Nat→Prop} {k m:Int} {t:List UInt8} {a b:Rf} (h:k≠9):InS S (.mk k m t a b []):=.mk (fun e=>absurd e h) fun _ h=>absurd h (Nat.not_lt_zero _)
theorem InS.of {S:List UInt8→Nat→Prop} {k m:Int} {t:List UInt8} {a b:Rf} {ks:List Nd} (h:k=9→S t ks.length) (hk:∀ x ∈ ks,InS S x):InS S (.mk k m t a b ks):=.mk h fun _ hx=>hk _ (List.getElem_mem hx)
abbrev CallOk (gl:List (Nat×List D)) (S:List UInt8→Nat→Prop) (mk:List (Int×Int)) (mv:List Vl) (ev:Int→Int→Vl):Prop :=
 ∀ t,∀ {ks:List Nd},S t ks.length→(∀ x (h:x<ks.length),KdOk (wG gl) mk mv ev ks[x])→ks.length≤200→FnP Tryz.prog (wG gl) 66 [mpE mk mv,.str t,.lst 12 (Nd.csL ks)] (callV t (evK ev ks)).d
section
variable (te:TypeId) (pe:Value) (hV:Has (wG gl) (glV te pe))
include hV
omit hV in
theorem node_leaf {mk:List (Int×Int)} {mv:List Vl} {ev:Int→Int→Vl} (hM:MapOk mk mv ev) (k m:Int) (t:List UInt8) (a b:Rf) (ks:List Nd) (h7:¬ k=7) (h8:¬ k=8) (h9:¬ k=9):FnP Tryz.prog (wG gl) 39 [mpE mk mv,.agg (Nd.cs (.mk k m t a b ks))] (nodeV ev k m t a (evK ev ks)).d:=by
 unfold nodeV
 by_cases h1:k=1
 ·rw[if_pos h1]
  have c1:=Num_d (gl:=wG gl) m
  refine S0 Tryz.func39 rfl ?_
  ((repeat' ((conv=>whnf);first|exact .intro|refine G ?_|intro _|refine C1 c1 ?_|refine .mk ?_ ?_|refine H ?_|fail));all_goals conv=>whnf)
  all_goals exact LeD.rfl
 rw[if_neg h1]
 by_cases h2:k=2
 ·rw[if_pos h2]
  have c1:=Of_d (gl:=wG gl) t
  refine S0 Tryz.func39 rfl ?_
  ((repeat' ((conv=>whnf);first|exact .intro|refine G ?_|intro _|refine C1 c1 ?_|refine .mk ?_ ?_|refine H ?_|fail));all_goals conv=>whnf)
  all_goals exact LeD.rfl
 rw[if_neg h2]
 by_cases h3:k=3
 ·rw[if_pos h3]
  have c1:FnP Tryz.prog (wG gl) 62 [.b (m=1) inferInstance] (vlD 3 (if m=1 then 1 else 0) []):=Is_b _
  refine S0 Tryz.func39 rfl ?_
  ((repeat' ((conv=>whnf);first|exact .intro|refine G ?_|intro _|refine C1 c1 ?_|refine .mk ?_ ?_|refine H ?_|fail));all_goals conv=>whnf)
  all_goals exact LeD.rfl
 rw[if_neg h3]
 by_cases h4:k=4
 ·rw[if_pos h4]
  have c1:=Wrong_d (gl:=wG gl) m
  refine S0 Tryz.func39 rfl ?_
  ((repeat' ((conv=>whnf);first|exact .intro|refine G ?_|intro _|refine C1 c1 ?_|refine .mk ?_ ?_|refine H ?_|fail));all_goals conv=>whnf)
  all_goals exact LeD.rfl
 rw[if_neg h4]
 by_cases h5:k=5
 ·rw[if_pos h5]
  have hlk:=look_ev hM a.c a.r
  generalize ev a.c a.r=u at *
  rcases hlk with ⟨i,hi⟩|⟨hi,rfl⟩
  ·refine S0 Tryz.func39 rfl ?_
   ((repeat' ((conv=>whnf);first|exact .intro|refine G ?_|intro _|(refine ⟨3,⟨key_cell,rfl,keys_E _⟩,by kernel_rfl,.inl ⟨_,_,hi,?_⟩⟩)|refine .mk ?_ ?_|refine H ?_|fail));all_goals conv=>whnf)
   all_goals exact LeD.rfl
  ·refine S0 Tryz.func39 rfl ?_
   ((repeat' ((conv=>whnf);first|exact .intro|refine G ?_|intro _|(refine ⟨3,⟨key_cell,rfl,keys_E _⟩,by kernel_rfl,.inr ⟨hi,?_⟩⟩)|refine .mk ?_ ?_|refine H ?_|fail));all_goals conv=>whnf)
   all_goals exact LeD.rfl
 rw[if_neg h5,if_neg h7,if_neg h8,if_neg h9]
 refine S0 Tryz.func39 rfl ?_
 ((repeat' ((conv=>whnf);first|exact .intro|refine G ?_|intro _|refine .mk ?_ ?_|refine H ?_|fail));all_goals conv=>whnf)
 all_goals exact LeD.rfl
theorem node_7 {mk:List (Int×Int)} {mv:List Vl} {ev:Int→Int→Vl} (m:Int) (t:List UInt8) (a b:Rf) {x:Nd} (hx:KdOk (wG gl) mk mv ev x):FnP Tryz.prog (wG gl) 39 [mpE mk mv,.agg (Nd.cs (.mk 7 m t a b [x]))] (nodeV ev 7 m t a (evK ev [x])).d:=by
 have c1:=hx.run
 have c2:=FnP.moreG (Neg_v te pe hx.vok) hV
 show FnP Tryz.prog (wG gl) 39 _ (twoV 9 ⟨1,0,[]⟩ (evN ev x)).d
 clear hx
 generalize twoV 9 ⟨1,0,[]⟩ (evN ev x)=z at *
 generalize evN ev x=v at *
 obtain ⟨k1,m1,t1,a1,b1,s1⟩:=x
 have g1:(Nd.csL [.mk k1 m1 t1 a1 b1 s1])[(0:Int).toNat]?=some (ndR k1 m1 t1 a1 b1 s1):=rfl
 refine S0 Tryz.func39 rfl ?_
 ((repeat' ((conv=>whnf);first|exact .intro|refine G ?_|intro _|refine C1 c1 ?_|refine C1 c2 ?_|(refine ⟨Int.le_refl _,_,g1,?_⟩)|refine .mk ?_ ?_|refine H ?_|fail));all_goals conv=>whnf)
 all_goals exact LeD.rfl
theorem node_8 {mk:List (Int×Int)} {mv:List Vl} {ev:Int→Int→Vl} (m:Int) (t:List UInt8) (a b:Rf) {x y:Nd} (hx:KdOk (wG gl) mk mv ev x) (hy:KdOk (wG gl) mk mv ev y):FnP Tryz.prog (wG gl) 39 [mpE mk mv,.agg (Nd.cs (.mk 8 m t a b [x,y]))] (nodeV ev 8 m t a (evK ev [x,y])).d:=by
 have c1:=hx.run
 have c2:=hy.run
 have c3:=FnP.moreG (Two_v te pe m hx.vok hy.vok) hV
 show FnP Tryz.prog (wG gl) 39 _ (twoV m (evN ev x) (evN ev y)).d
 clear hx hy
 generalize twoV m (evN ev x) (evN ev y)=z at *
 generalize evN ev x=v at *
 generalize evN ev y=u at *
 obtain ⟨k1,m1,t1,a1,b1,s1⟩:=x
 obtain ⟨k2,m2,t2,a2,b2,s2⟩:=y
 have g1:(Nd.csL [.mk k1 m1 t1 a1 b1 s1,.mk k2 m2 t2 a2 b2 s2])[(0:Int).toNat]?=some (ndR k1 m1 t1 a1 b1 s1):=rfl
 have g2:(Nd.csL [.mk k1 m1 t1 a1 b1 s1,.mk k2 m2 t2 a2 b2 s2])[(1:Int).toNat]?=some (ndR k2 m2 t2 a2 b2 s2):=rfl
 refine S0 Tryz.func39 rfl ?_
 ((repeat' ((conv=>whnf);first|exact .intro|refine G ?_|intro _|refine C1 c1 ?_|refine C1 c2 ?_|refine C1 c3 ?_|(first|refine ⟨Int.le_refl _,_,g1,?_⟩|refine ⟨by decide,_,g2,?_⟩)|refine .mk ?_ ?_|refine H ?_|fail));all_goals conv=>whnf)
 all_goals exact LeD.rfl
omit hV in
theorem node_9 {mk:List (Int×Int)} {mv:List Vl} {ev:Int→Int→Vl} (m:Int) (t:List UInt8) (a b:Rf) {ks:List Nd} (c:FnP Tryz.prog (wG gl) 66 [mpE mk mv,.str t,.lst 12 (Nd.csL ks)] (callV t (evK ev ks)).d):FnP Tryz.prog (wG gl) 39 [mpE mk mv,.agg (Nd.cs (.mk 9 m t a b ks))] (nodeV ev 9 m t a (evK ev ks)).d:=by
 show FnP Tryz.prog (wG gl) 39 _ (callV t (evK ev ks)).d
 generalize callV t (evK ev ks)=z at *
 refine S0 Tryz.func39 rfl ?_
 ((repeat' ((conv=>whnf);first|exact .intro|refine G ?_|intro _|refine C1 c ?_|refine .mk ?_ ?_|refine H ?_|fail));all_goals conv=>whnf)
 all_goals exact LeD.rfl
theorem node_s {S:List UInt8→Nat→Prop} {mk:List (Int×Int)} {mv:List Vl} {ev:Int→Int→Vl} (hcall:CallOk gl S mk mv ev) (hM:MapOk mk mv ev) (hev:∀ c r,(ev c r).ok) (n:Nd):∀ {box:Prop},frmN n box→cntN n≤200→(wrN n).length≤200→okN n→InS S n→KdOk (wG gl) mk mv ev n:=by
 match n with
 | .mk k m t a b ks =>
  intro box hf hc hw ho hi
  obtain ⟨hs,hki⟩:=hi.out
  have hcx:∀ x (h:x<ks.length),cntN ks[x]≤200:=fun x h=>by
   have h1:=cntL_take h
   have h2:=cntL_le ks (x+1)
   unfold cntN at hc
   omega
  have hfx:=frm_kid hf
  have hwx:=kid_wr hf
  have hol:okL ks:=by unfold okN at ho;exact ho.2.2
  have ih:∀ x (h:x<ks.length),KdOk (wG gl) mk mv ev ks[x]:=fun x h=>node_s hcall hM hev ks[x] (hfx x h).choose_spec (hcx x h) (Nat.le_trans (hwx x h) hw) (okL_get hol h) (hki x h)
  have hlk:ks.length≤200:=by
   have:=len_cnt ks
   unfold cntN at hc
   omega
  refine ⟨?_,evA_ok hev _ hf hc hw ho,fun h6=>?_⟩
  ·rw[evN_mk]
   by_cases h7:k=7
   ·subst h7
    rw[frm_7] at hf
    obtain ⟨x,rfl⟩:=len_1 hf.1
    exact node_7 te pe hV m t a b (ih 0 (by simp))
   by_cases h8:k=8
   ·subst h8
    rw[frm_8] at hf
    obtain ⟨x,y,rfl⟩:=len_2 hf.1
    exact node_8 te pe hV m t a b (ih 0 (by simp)) (ih 1 (by simp))
   by_cases h9:k=9
   ·subst h9
    exact node_9 m t a b (hcall t (hs rfl) ih hlk)
   exact node_leaf hM k m t a b ks h7 h8 h9
  ·subst h6
   rw[frm_6] at hf
   exact ⟨hf.2.2.2.2.1,hf.2.2.2.2.2⟩
termination_by SizeOf.sizeOf n
decreasing_by
 simp only[Nd.mk.sizeOf_spec]
 have:=List.sizeOf_lt_of_mem (List.getElem_mem h)
 omega
end
end
section
variable {gl:List (Nat×List D)}
theorem arg_in {t:List UInt8} {lo hi:Int} (hlh:argZ t=(lo,hi)) (h0:¬ lo<0):t=nNONE∨(is1 t∧lo=1∧hi=1)∨(is2 t∧lo=2∧hi=2)∨(is3 t∧lo=3∧hi=3)∨(t=nIF∧lo=2∧hi=3)∨(t=nCHOOSE∧lo=2∧hi=200):=by
 unfold argZ at hlh
 by_cases h:t=nNONE
 ·exact .inl h
 rw[if_neg h] at hlh
 by_cases h:is1 t
 ·rw[if_pos h] at hlh;cases hlh;exact .inr (.inl ⟨h,rfl,rfl⟩)
 rw[if_neg h] at hlh
 by_cases h:is2 t
 ·rw[if_pos h] at hlh;cases hlh;exact .inr (.inr (.inl ⟨h,rfl,rfl⟩))
 rw[if_neg h] at hlh
 by_cases h:is3 t
 ·rw[if_pos h] at hlh;cases hlh;exact .inr (.inr (.inr (.inl ⟨h,rfl,rfl⟩)))
 rw[if_neg h] at hlh
 by_cases h:t=nIF
 ·rw[if_pos h] at hlh;cases hlh;exact .inr (.inr (.inr (.inr (.inl ⟨h,rfl,rfl⟩))))
 rw[if_neg h] at hlh
 by_cases h:t=nCHOOSE
 ·rw[if_pos h] at hlh;cases hlh;exact .inr (.inr (.inr (.inr (.inr ⟨h,rfl,rfl⟩))))
 rw[if_neg h] at hlh
 cases hlh
 exact absurd (by decide) h0
section
variable (te:TypeId) (pe:Value) (hV:Has (wG gl) (glV te pe)) {mx:Int} (hm':Go.EYtfkjhfdpphfjhaaGreatDoor.look (wG gl) 4=some [iD mx])
include hV

include hm' in
theorem ecall_d (hC:∀ (s:List UInt8) (p:Prop) (i:Decidable p),s.length≤200→FnP Tryz.prog (wG gl) 181 [.str s,.b p i] (.str (s.map (caseB (@decide p i))))) {mk:List (Int×Int)} {mv:List Vl} {ev:Int→Int→Vl} (hM:MapOk mk mv ev) (hev:∀ c r,(ev c r).ok) (t:List UInt8) {ks:List Nd} (hk:∀ x (h:x<ks.length),KdOk (wG gl) mk mv ev ks[x]) (hlk:ks.length≤200) :
 FnP Tryz.prog (wG gl) 66 [mpE mk mv,.str t,.lst 12 (Nd.csL ks)] (callV t (evK ev ks)).d:=by
 have hlen:=kid_len ks
 have hel:(evK ev ks).length=ks.length:=by rw[evK_map,List.length_map]
 by_cases hm:isMany t
 ·unfold callV
  rw[if_pos hm,hel]
  by_cases h0:ks.length=0
  ·rw[if_pos h0];exact call_m0 hm (by rw[hlen];omega)
  ·rw[if_neg h0];exact call_m hm (by rw[hlen];omega) (emany_d te pe hV t hM hev ks hk hlk)
 obtain ⟨lo,hi,hlh⟩:∃ lo hi,argZ t=(lo,hi):=⟨_,_,rfl⟩
 by_cases h0:lo<0
 ·unfold callV
  rw[if_neg hm,hlh,if_pos h0]
  exact call_wn hm hlh h0
 by_cases h1:(ks.length:Int)<lo∨hi<(ks.length:Int)
 ·unfold callV
  rw[if_neg hm,hlh,if_neg h0,hel,if_pos h1]
  exact call_wa hm hlh h0 (by rw[hlen];exact h1)
 have h2:¬ (((Nd.csL ks).length:Nat):Int)<lo:=by rw[hlen];exact fun h=>h1 (.inl h)
 have h3:¬ hi<(((Nd.csL ks).length:Nat):Int):=by rw[hlen];exact fun h=>h1 (.inr h)
 rcases arg_in hlh h0 with q|⟨q,rfl,rfl⟩|⟨q,rfl,rfl⟩|⟨q,rfl,rfl⟩|⟨q,rfl,rfl⟩|⟨q,rfl,rfl⟩
 ·unfold callV
  rw[if_neg hm,hlh,if_neg h0,hel,if_neg h1,if_pos q]
  exact call_non hm hlh h0 h2 h3 q
 ·obtain ⟨x,rfl⟩:=len_1 (l:=ks) (by omega)
  have hx:KdOk (wG gl) mk mv ev x:=hk 0 (by simp)
  clear hlh h0 h1 hm
  rcases q with rfl|rfl|rfl|rfl|rfl|rfl|rfl|rfl|rfl|rfl|rfl|rfl
  ·exact call_badp hx
  ·exact call_blankp hx
  ·exact call_nump hx
  ·exact call_gen (t:=nNOT) (lo:=1) (hi:=1) (by decide) rfl (by decide) h2 h3 ⟨by decide,by decide,by decide,by decide,by decide,by decide,by decide,by decide,by decide,by decide,by decide,by decide,by decide,by decide⟩ hk hlk (r:=reckV nNOT [evN ev x]) fun _=>.inl ⟨by decide,reck_not te pe hV hx.vok⟩
  ·exact call_gen (t:=nABS) (lo:=1) (hi:=1) (by decide) rfl (by decide) h2 h3 ⟨by decide,by decide,by decide,by decide,by decide,by decide,by decide,by decide,by decide,by decide,by decide,by decide,by decide,by decide⟩ hk hlk (r:=reckV nABS [evN ev x]) fun _=>.inl ⟨by decide,reck_abs te pe hV hx.vok⟩
  ·exact call_gen (t:=nSIGN) (lo:=1) (hi:=1) (by decide) rfl (by decide) h2 h3 ⟨by decide,by decide,by decide,by decide,by decide,by decide,by decide,by decide,by decide,by decide,by decide,by decide,by decide,by decide⟩ hk hlk (r:=reckV nSIGN [evN ev x]) fun _=>.inl ⟨by decide,reck_sign te pe hV hx.vok⟩
  ·exact call_gen (t:=nLEN) (lo:=1) (hi:=1) (by decide) rfl (by decide) h2 h3 ⟨by decide,by decide,by decide,by decide,by decide,by decide,by decide,by decide,by decide,by decide,by decide,by decide,by decide,by decide⟩ hk hlk (r:=textV nLEN [evN ev x]) fun _=>.inr ⟨by decide,text_len te pe hV hx.vok⟩
  ·exact call_gen (t:=nUPPER) (lo:=1) (hi:=1) (by decide) rfl (by decide) h2 h3 ⟨by decide,by decide,by decide,by decide,by decide,by decide,by decide,by decide,by decide,by decide,by decide,by decide,by decide,by decide⟩ hk hlk (r:=textV nUPPER [evN ev x]) fun _=>.inr ⟨by decide,text_case te pe hV hC (.inl rfl) hx.vok⟩
  ·exact call_gen (t:=nLOWER) (lo:=1) (hi:=1) (by decide) rfl (by decide) h2 h3 ⟨by decide,by decide,by decide,by decide,by decide,by decide,by decide,by decide,by decide,by decide,by decide,by decide,by decide,by decide⟩ hk hlk (r:=textV nLOWER [evN ev x]) fun _=>.inr ⟨by decide,text_case te pe hV hC (.inr rfl) hx.vok⟩
  ·exact call_gen (t:=nVALUE) (lo:=1) (hi:=1) (by decide) rfl (by decide) h2 h3 ⟨by decide,by decide,by decide,by decide,by decide,by decide,by decide,by decide,by decide,by decide,by decide,by decide,by decide,by decide⟩ hk hlk (r:=reckV nVALUE [evN ev x]) fun _=>.inl ⟨by decide,reck_value te pe hV hx.vok⟩
  ·obtain ⟨k0,m0,t0,a0,b0,s0⟩:=x
   by_cases h6:k0=6
   ·subst h6
    exact call_box (t:=nROWS) (by decide) rfl (by decide) h2 h3 (.inl rfl) (boxed_rows_y hx)
   ·exact call_box (t:=nROWS) (by decide) rfl (by decide) h2 h3 (.inl rfl) (boxed_rows_n hx h6)
  ·obtain ⟨k0,m0,t0,a0,b0,s0⟩:=x
   by_cases h6:k0=6
   ·subst h6
    exact call_box (t:=nCOLS) (by decide) rfl (by decide) h2 h3 (.inr (.inl rfl)) (boxed_cols_y hx)
   ·exact call_box (t:=nCOLS) (by decide) rfl (by decide) h2 h3 (.inr (.inl rfl)) (boxed_cols_n hx h6)
 ·obtain ⟨x,y,rfl⟩:=len_2 (l:=ks) (by omega)
  have hx:KdOk (wG gl) mk mv ev x:=hk 0 (by simp)
  have hy:KdOk (wG gl) mk mv ev y:=hk 1 (by simp)
  clear hlh h0 h1 hm
  rcases q with rfl|rfl|rfl|rfl|rfl|rfl|rfl|rfl|rfl|rfl
  ·exact call_cho (t:=nIFBAD) (by decide) rfl (by decide) h2 h3 (.inr (.inl rfl)) (chosen_ifbad hx hy)
  ·exact call_gen (t:=nMOD) (lo:=2) (hi:=2) (by decide) rfl (by decide) h2 h3 ⟨by decide,by decide,by decide,by decide,by decide,by decide,by decide,by decide,by decide,by decide,by decide,by decide,by decide,by decide⟩ hk hlk (r:=reckV nMOD [evN ev x,evN ev y]) fun _=>.inl ⟨by decide,reck_mod te pe hV hx.vok hy.vok⟩
  ·exact call_gen (t:=nPOWER) (lo:=2) (hi:=2) (by decide) rfl (by decide) h2 h3 ⟨by decide,by decide,by decide,by decide,by decide,by decide,by decide,by decide,by decide,by decide,by decide,by decide,by decide,by decide⟩ hk hlk (r:=reckV nPOWER [evN ev x,evN ev y]) fun _=>.inl ⟨by decide,reck_power te pe hV hx.vok hy.vok⟩
  ·exact call_gen (t:=nLEFT) (lo:=2) (hi:=2) (by decide) rfl (by decide) h2 h3 ⟨by decide,by decide,by decide,by decide,by decide,by decide,by decide,by decide,by decide,by decide,by decide,by decide,by decide,by decide⟩ hk hlk (r:=textV nLEFT [evN ev x,evN ev y]) fun _=>.inr ⟨by decide,text_left te pe hV hx.vok hy.vok⟩
  ·exact call_gen (t:=nRIGHT) (lo:=2) (hi:=2) (by decide) rfl (by decide) h2 h3 ⟨by decide,by decide,by decide,by decide,by decide,by decide,by decide,by decide,by decide,by decide,by decide,by decide,by decide,by decide⟩ hk hlk (r:=textV nRIGHT [evN ev x,evN ev y]) fun _=>.inr ⟨by decide,text_right te pe hV hx.vok hy.vok⟩
  ·exact call_gen (t:=nFIND) (lo:=2) (hi:=2) (by decide) rfl (by decide) h2 h3 ⟨by decide,by decide,by decide,by decide,by decide,by decide,by decide,by decide,by decide,by decide,by decide,by decide,by decide,by decide⟩ hk hlk (r:=textV nFIND [evN ev x,evN ev y]) fun _=>.inr ⟨by decide,text_find te pe hV hm' hx.vok hy.vok⟩
  ·exact call_gen (t:=nREPT) (lo:=2) (hi:=2) (by decide) rfl (by decide) h2 h3 ⟨by decide,by decide,by decide,by decide,by decide,by decide,by decide,by decide,by decide,by decide,by decide,by decide,by decide,by decide⟩ hk hlk (r:=textV nREPT [evN ev x,evN ev y]) fun _=>.inr ⟨by decide,text_rept te pe hV hx.vok hy.vok⟩
  ·exact call_gen (t:=nEXACT) (lo:=2) (hi:=2) (by decide) rfl (by decide) h2 h3 ⟨by decide,by decide,by decide,by decide,by decide,by decide,by decide,by decide,by decide,by decide,by decide,by decide,by decide,by decide⟩ hk hlk (r:=textV nEXACT [evN ev x,evN ev y]) fun _=>.inr ⟨by decide,text_exact te pe hV hx.vok hy.vok⟩
  ·obtain ⟨k0,m0,t0,a0,b0,s0⟩:=x
   obtain ⟨k1,m1,t1,a1,b1,s1⟩:=y
   by_cases h6:k1=6
   ·subst h6
    exact call_box (t:=nMATCH) (by decide) rfl (by decide) h2 h3 (.inr (.inr (.inr (.inl rfl)))) (boxed_match_y te pe hV hx hy hM hev)
   ·exact call_box (t:=nMATCH) (by decide) rfl (by decide) h2 h3 (.inr (.inr (.inr (.inl rfl)))) (boxed_match_n hx hy h6)
  ·obtain ⟨k0,m0,t0,a0,b0,s0⟩:=x
   obtain ⟨k1,m1,t1,a1,b1,s1⟩:=y
   by_cases h6:k0=6
   ·subst h6
    exact call_box (t:=nCOUNTIF) (by decide) rfl (by decide) h2 h3 (.inr (.inr (.inr (.inr (.inr (.inl rfl)))))) (boxed_countif_y te pe hV hx hy hM hev)
   ·exact call_box (t:=nCOUNTIF) (by decide) rfl (by decide) h2 h3 (.inr (.inr (.inr (.inr (.inr (.inl rfl)))))) (boxed_countif_n hx hy h6)
 ·obtain ⟨x,y,z,rfl⟩:=len_3 (l:=ks) (by omega)
  have hx:KdOk (wG gl) mk mv ev x:=hk 0 (by simp)
  have hy:KdOk (wG gl) mk mv ev y:=hk 1 (by simp)
  have hz:KdOk (wG gl) mk mv ev z:=hk 2 (by simp)
  clear hlh h0 h1 hm
  rcases q with rfl|rfl|rfl|rfl
  ·exact call_gen (t:=nMID) (lo:=3) (hi:=3) (by decide) rfl (by decide) h2 h3 ⟨by decide,by decide,by decide,by decide,by decide,by decide,by decide,by decide,by decide,by decide,by decide,by decide,by decide,by decide⟩ hk hlk (r:=textV nMID [evN ev x,evN ev y,evN ev z]) fun _=>.inr ⟨by decide,text_mid te pe hV hx.vok hy.vok hz.vok⟩
  ·obtain ⟨k0,m0,t0,a0,b0,s0⟩:=x
   obtain ⟨k1,m1,t1,a1,b1,s1⟩:=y
   obtain ⟨k2,m2,t2,a2,b2,s2⟩:=z
   by_cases h6:k0=6
   ·subst h6
    exact call_box (t:=nINDEX) (by decide) rfl (by decide) h2 h3 (.inr (.inr (.inl rfl))) (boxed_index_y te pe hV hx hy hz hM)
   ·exact call_box (t:=nINDEX) (by decide) rfl (by decide) h2 h3 (.inr (.inr (.inl rfl))) (boxed_index_n hx hy hz h6)
  ·obtain ⟨k0,m0,t0,a0,b0,s0⟩:=x
   obtain ⟨k1,m1,t1,a1,b1,s1⟩:=y
   obtain ⟨k2,m2,t2,a2,b2,s2⟩:=z
   by_cases h6:k1=6
   ·subst h6
    exact call_box (t:=nLOOKUP) (by decide) rfl (by decide) h2 h3 (.inr (.inr (.inr (.inr (.inl rfl))))) (boxed_lookup_y te pe hV hx hy hz hM hev)
   ·exact call_box (t:=nLOOKUP) (by decide) rfl (by decide) h2 h3 (.inr (.inr (.inr (.inr (.inl rfl))))) (boxed_lookup_n hx hy hz h6)
  ·obtain ⟨k0,m0,t0,a0,b0,s0⟩:=x
   obtain ⟨k1,m1,t1,a1,b1,s1⟩:=y
   obtain ⟨k2,m2,t2,a2,b2,s2⟩:=z
   by_cases h6:k0=6
   ·subst h6
    by_cases h7:k2=6
    ·subst h7
     exact call_box (t:=nSUMIF) (by decide) rfl (by decide) h2 h3 (.inr (.inr (.inr (.inr (.inr (.inr (rfl))))))) (boxed_sumif_y te pe hV hx hy hz hM hev)
    ·exact call_box (t:=nSUMIF) (by decide) rfl (by decide) h2 h3 (.inr (.inr (.inr (.inr (.inr (.inr (rfl))))))) (boxed_sumif_m hx hy hz h7)
   ·exact call_box (t:=nSUMIF) (by decide) rfl (by decide) h2 h3 (.inr (.inr (.inr (.inr (.inr (.inr (rfl))))))) (boxed_sumif_n hx hy hz h6)
 ·have hl23:ks.length=2∨ks.length=3:=by omega
  subst q
  rcases hl23 with hl|hl
  ·obtain ⟨x,y,rfl⟩:=len_2 hl
   exact call_cho (t:=nIF) (by decide) rfl (by decide) h2 h3 (.inl rfl) (chosen_if2 te pe hV (hk 0 (by simp)) (hk 1 (by simp)))
  ·obtain ⟨x,y,z,rfl⟩:=len_3 hl
   exact call_cho (t:=nIF) (by decide) rfl (by decide) h2 h3 (.inl rfl) (chosen_if3 te pe hV (hk 0 (by simp)) (hk 1 (by simp)) (hk 2 (by simp)))
 ·subst q
  unfold callV
  rw[if_neg hm,hlh,if_neg h0,hel,if_neg h1,if_neg (by decide),if_pos (by decide),v_map]
  exact call_cho (t:=nCHOOSE) (by decide) rfl (by decide) h2 h3 (.inr (.inr rfl)) (chosen_choose te pe hV hk (by omega) hlk)

omit hV in
theorem InS.all (n:Nd):InS (fun _ _=>True) n:=by
 match n with
 | .mk k m t a b ks=>exact .mk (fun _=>trivial) fun x h=>InS.all ks[x]
termination_by SizeOf.sizeOf n
decreasing_by
 simp only[Nd.mk.sizeOf_spec]
 have:=List.sizeOf_lt_of_mem (List.getElem_mem h)
 omega
include hm' in
theorem node_d (hC:∀ (s:List UInt8) (p:Prop) (i:Decidable p),s.length≤200→FnP Tryz.prog (wG gl) 181 [.str s,.b p i] (.str (s.map (caseB (@decide p i))))) {mk:List (Int×Int)} {mv:List Vl} {ev:Int→Int→Vl} (hM:MapOk mk mv ev) (hev:∀ c r,(ev c r).ok) (n:Nd):∀ {box:Prop},frmN n box→cntN n≤200→(wrN n).length≤200→okN n→KdOk (wG gl) mk mv ev n:=by
 exact fun hf hc hw ho=>node_s te pe hV (S:=fun _ _=>True) (fun t _ _ hk hlk=>ecall_d te pe hV hm' hC hM hev t hk hlk) hM hev n hf hc hw ho (InS.all n)
end
end
section
variable {gl:List (Nat×List D)}
abbrev shOk (x:Shw):Prop:=okP x.c x.r∧isV x.v.k x.v.n x.v.s
abbrev shw7 (l:List Shw):D:=.lst 7 (l.map shwD)
theorem Eval_e {n:Nd} {l:List Shw} {e:Int} (c0:FnP Tryz.prog (wG gl) 36 [.agg n.cs] (erD e)):FnP Tryz.prog (wG gl) 10 [.agg n.cs,shw7 l] (.tup [vlD 0 0 [],erD e]):=by
 obtain ⟨k,m,t,a,b,ks⟩:=n
 refine S0 Tryz.func10 rfl ?_
 ((repeat' ((conv=>whnf);first|exact .intro|refine G ?_|intro _|refine C1 c0 ?_|refine .mk ?_ ?_|refine H ?_|fail));all_goals conv=>whnf)
 all_goals exact LeD.rfl
theorem loop_E {n:Nd} {l:List Shw} (hl:l.length≤1099511627776) (c0:FnP Tryz.prog (wG gl) 36 [.agg n.cs] (.v .nilIface)) (m:Nat) (hm:m≤l.length) (hg:∀ k (h:k<l.length),k<m→shOk l[k]) (r:D)
 (hr:(m=l.length∧∀ ks vs,MapOk ks vs (evF l)→FnP Tryz.prog (wG gl) 39 [mpE ks vs,.agg n.cs] (evN (evF l) n).d∧r=.tup [(evN (evF l) n).d,.v .nilIface])∨(∃ h:m<l.length,¬ shOk l[m]∧r=.tup [vlD 0 0 [],errD 1])) :
 FnP Tryz.prog (wG gl) 10 [.agg n.cs,shw7 l] r:=by
 have hlen:(l.map shwD).length=l.length:=List.length_map _
 obtain ⟨k,m',t,a,b,ks⟩:=n
 refine S0 Tryz.func10 rfl ?_
 ((repeat' ((conv=>whnf);first|exact .intro|refine G ?_|intro _|refine C1 c0 ?_|refine .mk ?_ ?_|refine H ?_|fail));all_goals conv=>whnf)
 refine ⟨{ σ:=Nat×List (Int×Int)×List Vl,fr:=fun s=>[(19,.c (.d (iD (s.1:Int))))],ks:=[2],L:=fun s=>[(2,.mp (s.2.1.map ckD) (s.2.2.map Vl.d))],ex:=0,I:=fun s=>s.1≤m∧MapOk s.2.1 s.2.2 (evF (l.take s.1)),μ:=fun s=>l.length - s.1 },⟨(0,[],[]),⟨Nat.zero_le _,MapOk.nil⟩,?_⟩,fun (s:Nat×List (Int×Int)×List Vl) hs=>?_⟩
 ·((repeat' first|exact rfl|((conv=>whnf);first|done|exact suL|refine And.intro ?_ ?_|fail));all_goals conv=>whnf)
 obtain ⟨k,mk,mv⟩:=s
 obtain ⟨hk,hM⟩:=hs
 simp only at hk hM
 have e0:=wx (x:=k) (by omega)
 by_cases hlt:k<l.length
 ·have h2:(k:Int)<(((l.map shwD).length:Nat):Int):=by omega
  have g1:=get_map (f:=shwD) hlt
  by_cases hkm:k<m
  ·have hok:=hg k hlt hkm
   have hst:=evF_take hlt
   clear hr hg
   generalize l[k]=x at *
   obtain ⟨xc,xr,⟨vk,vn,vs⟩,st,rd⟩:=x
   obtain ⟨hok1,hok2⟩:=hok
   have c1:FnP Tryz.prog (wG gl) 37 [cellD xc xr] (.v .nilIface):=Check_s hok1
   have c2:FnP Tryz.prog (wG gl) 38 [vlD vk vn vs] (.v .nilIface):=vCheck_s hok2
   by_cases hmem:(xc,xr) ∈ mk
   ·obtain ⟨i,hi,he⟩:=List.getElem_of_mem hmem
    have hi':mk[i]?=some (xc,xr):=by rw[List.getElem?_eq_getElem hi,he]
    have hiD:(mk.map ckD)[i]?=some (cellD xc xr):=by rw[List.getElem?_map,hi'];rfl
    have hM':=hM.set ⟨xc,xr,⟨vk,vn,vs⟩,st,rd⟩ hi'
    rw[← hst] at hM'
    ((repeat' ((conv=>whnf);first|exact .intro|refine G ?_|intro _|refine C1 c1 ?_|refine C1 c2 ?_|(first|refine ⟨Int.natCast_nonneg _,_,g1,?_⟩|refine ⟨3,⟨key_cell,rfl,keys_E _⟩,.inr ⟨i,hiD,?_⟩⟩)|refine .mk ?_ ?_|refine H ?_|fail));all_goals conv=>whnf)
    all_goals refine ⟨(k+1,mk,mv.set i ⟨vk,vn,vs⟩),⟨⟨hkm,hM'⟩,by show l.length - (k+1)<l.length - k;omega⟩,?_⟩
    all_goals ((repeat' first|exact rfl|((conv=>whnf);first|done|exact suL|refine And.intro ?_ ?_|fail));all_goals conv=>whnf)
    all_goals first|exact ceq e0|(rw[List.map_set];rfl)|skip
   ·have hnD:cellD xc xr ∉ mk.map ckD:=fun hh=>by
     obtain ⟨p,hp,he⟩:=List.mem_map.1 hh
     obtain ⟨e1,e2⟩:=ckD_inj he
     exact hmem (by rw[← e1,← e2];exact hp)
    have hM':=hM.push ⟨xc,xr,⟨vk,vn,vs⟩,st,rd⟩ hmem
    rw[← hst] at hM'
    ((repeat' ((conv=>whnf);first|exact .intro|refine G ?_|intro _|refine C1 c1 ?_|refine C1 c2 ?_|(first|refine ⟨Int.natCast_nonneg _,_,g1,?_⟩|refine ⟨3,⟨key_cell,rfl,keys_E _⟩,.inl ⟨hnD,?_⟩⟩)|refine .mk ?_ ?_|refine H ?_|fail));all_goals conv=>whnf)
    all_goals refine ⟨(k+1,mk++[(xc,xr)],mv++[⟨vk,vn,vs⟩]),⟨⟨hkm,hM'⟩,by show l.length - (k+1)<l.length - k;omega⟩,?_⟩
    all_goals ((repeat' first|exact rfl|((conv=>whnf);first|done|exact suL|refine And.intro ?_ ?_|fail));all_goals conv=>whnf)
    all_goals first|exact ceq e0|(rw[List.map_append];rfl)|(rw[List.map_append,List.map_append];rfl)|skip
  ·obtain rfl:k=m:=by omega
   rcases hr with ⟨h,_⟩|⟨_,hb,rfl⟩
   ·omega
   ·clear hg
    generalize l[k]=x at *
    obtain ⟨xc,xr,⟨vk,vn,vs⟩,st,rd⟩:=x
    by_cases hc:okP xc xr
    ·have c1:FnP Tryz.prog (wG gl) 37 [cellD xc xr] (.v .nilIface):=Check_s hc
     have c2:FnP Tryz.prog (wG gl) 38 [vlD vk vn vs] (errD 1):=vCheck_n fun hv=>hb ⟨hc,hv⟩
     ((repeat' ((conv=>whnf);first|exact .intro|refine G ?_|intro _|refine C1 c1 ?_|refine C1 c2 ?_|(first|refine ⟨Int.natCast_nonneg _,_,g1,?_⟩)|refine .mk ?_ ?_|refine H ?_|fail));all_goals conv=>whnf)
     all_goals exact LeD.rfl
    ·have c1:FnP Tryz.prog (wG gl) 37 [cellD xc xr] (errD 1):=Check_n hc
     ((repeat' ((conv=>whnf);first|exact .intro|refine G ?_|intro _|refine C1 c1 ?_|(first|refine ⟨Int.natCast_nonneg _,_,g1,?_⟩)|refine .mk ?_ ?_|refine H ?_|fail));all_goals conv=>whnf)
     all_goals exact LeD.rfl
 ·have h2:¬ (k:Int)<(((l.map shwD).length:Nat):Int):=by omega
  obtain rfl:k=l.length:=by omega
  rcases hr with ⟨_,hr⟩|⟨h,_⟩
  ·rw[List.take_length] at hM
   obtain ⟨c1,rfl⟩:=hr mk mv hM
   generalize evN (evF l) (.mk _ m' t a b ks)=v at *
   ((repeat' ((conv=>whnf);first|exact .intro|refine G ?_|intro _|refine C1 c1 ?_|refine .mk ?_ ?_|refine H ?_|fail));all_goals conv=>whnf)
   all_goals exact LeD.rfl
  ·omega
section
variable (te:TypeId) (pe:Value) (hV:Has (wG gl) (glV te pe)) {mx:Int} (hm':Go.EYtfkjhfdpphfjhaaGreatDoor.look (wG gl) 4=some [iD mx]) (hl':Go.EYtfkjhfdpphfjhaaGreatDoor.look (wG gl) 0=some lvAll)
include hV hm' hl'
end
end
section
variable {gl:List (Nat×List D)}
section
variable (te:TypeId) (pe:Value) (hV:Has (wG gl) (glV te pe)) {mx:Int} (hm':Go.EYtfkjhfdpphfjhaaGreatDoor.look (wG gl) 4=some [iD mx]) (hl':Go.EYtfkjhfdpphfjhaaGreatDoor.look (wG gl) 0=some lvAll)
include hV hm' hl'
noncomputable def evalZ (n:Nd) (l:List Shw):Vl×Int:=open Classical in if (prZ rfZ n).2≠0 then (⟨0,0,[]⟩,(prZ rfZ n).2) else if ∀ x ∈ l,shOk x then (evN (evF l) n,0) else (⟨0,0,[]⟩,1)
theorem Eval_d (hC:∀ (s:List UInt8) (p:Prop) (i:Decidable p),s.length≤200→FnP Tryz.prog (wG gl) 181 [.str s,.b p i] (.str (s.map (caseB (@decide p i))))) (n:Nd) (ho:okN n) (l:List Shw) (hn:∀ x ∈ l,okI x.v.n) (hll:l.length≤1099511627776) :
 FnP Tryz.prog (wG gl) 10 [.agg n.cs,shw7 l] (.tup [(evalZ n l).1.d,errD (evalZ n l).2]):=by
 have c0:=fCheck_d te pe hV hl' rfZ_ok hm' n ho
 unfold evalZ
 by_cases hp:(prZ rfZ n).2=0
 ·rw[if_neg (fun h=>h hp)]
  rw[hp] at c0
  change FnP Tryz.prog (wG gl) 36 [_] (.v .nilIface) at c0
  by_cases hx:∀ x ∈ l,shOk x
  ·rw[if_pos hx]
   refine loop_E hll c0 l.length (Nat.le_refl _) (fun k h _=>hx _ (List.getElem_mem h)) _ (.inl ⟨rfl,fun ks vs hM=>⟨?_,rfl⟩⟩)
   obtain ⟨_,hc,hf⟩:=prZ_y hp
   exact (node_d te pe hV hm' hC hM (evF_ok fun x hxl=>⟨(hx x hxl).2,hn x hxl⟩) n hf hc (Nat.le_trans (prZ_len hp) (by decide)) ho).run
  ·rw[if_neg hx]
   rcases fstOf (p:=fun k=>∀ h:k<l.length,shOk l[k]) l.length with h|⟨m,h1,h2,h3⟩
   ·exact absurd (fun x hxl=>by obtain ⟨k,hk,rfl⟩:=List.getElem_of_mem hxl;exact h k hk hk) hx
   ·exact loop_E hll c0 m (by omega) (fun k h hkm=>h2 k hkm h) _ (.inr ⟨h1,fun hh=>h3 fun _=>hh,rfl⟩)
 ·rw[if_pos hp]
  have hee:errD (prZ rfZ n).2=erD (prZ rfZ n).2:=by unfold errD;rw[if_neg hp]
  rw[hee] at c0 ⊢
  exact Eval_e c0
end
end
section
variable {gl:List (Nat×List D)}
structure CsSt (s:List UInt8) (up:Bool) (w:World) (i:Nat) (wr:World):Prop where
 at':∀ (j:Nat) (h:j<s.length),wr.cell? ⟨w.heap.size,j,none⟩=some (.int .u8 ((if j<i then caseB up s[j] else s[j]).toNat:Int))
 frz:∀ (j:Nat),j<s.length→wr.frozen? ⟨w.heap.size,j,none⟩=false
 blw:Below w.heap.size w wr
theorem CsSt.step {s:List UInt8} {up:Bool} {w wr:World} {i:Nat} (h:CsSt s up w i wr) (hi:i<s.length):CsSt s up w (i+1) (wr.setCell ⟨w.heap.size,i,none⟩ (.int .u8 ((caseB up s[i]).toNat:Int))) where
 at':=fun j hj=>by
  by_cases hji:j=i
  ·subst hji
   rw[if_pos (Nat.lt_succ_self j)]
   exact World.cell?_setCell_same _ _ _ (h.at' j hj)
  ·rw[World.cell?_setCell_other _ _ _ _ (by intro he;exact hji (congrArg Addr.off he).symm),h.at' j hj]
   by_cases hlt:j<i
   ·rw[if_pos hlt,if_pos (by omega)]
   ·rw[if_neg hlt,if_neg (by omega)]
 frz:=fun j hj=>by rw[World.frozen?_setCell];exact h.frz j hj
 blw:=h.blw.setCell (p:=⟨w.heap.size,i,none⟩) (Nat.le_refl _) _
theorem CsSt.same {s:List UInt8} {up:Bool} {w wr:World} {i:Nat} (h:CsSt s up w i wr) (hi:i<s.length) (he:caseB up s[i]=s[i]):CsSt s up w (i+1) wr where
 at':=fun j hj=>by
  rw[h.at' j hj]
  by_cases hji:j=i
  ·subst hji
   rw[if_neg (Nat.lt_irrefl _),if_pos (Nat.lt_succ_self j),he]
  ·by_cases hlt:j<i
   ·rw[if_pos hlt,if_pos (by omega)]
   ·rw[if_neg hlt,if_neg (by omega)]
 frz:=h.frz
 blw:=h.blw
theorem caseB_1 {b:UInt8} (h1:(97:Int)≤(b.toNat:Int)) (h2:(b.toNat:Int)≤122):IntKind.u8.wrap ((b.toNat:Int) - 32)=((caseB true b).toNat:Int):=by
 have e:caseB true b=b - 32:=by
  unfold caseB
  rw[if_pos ⟨rfl,UInt8.le_iff_toNat_le.2 (by simpa using (by omega:97≤b.toNat)),UInt8.le_iff_toNat_le.2 (by simpa using (by omega:b.toNat≤122))⟩]
 rw[e,UInt8.toNat_sub_of_le _ _ (UInt8.le_iff_toNat_le.2 (by simpa using (by omega:32≤b.toNat)))]
 have:IntKind.u8.wrap ((b.toNat:Int) - 32)=(b.toNat:Int) - 32:=by rw[IntKind.wrap_u8];omega
 rw[this]
 show _=((b.toNat - 32:Nat):Int)
 omega
theorem caseB_2 {b:UInt8} (h1:(65:Int)≤(b.toNat:Int)) (h2:(b.toNat:Int)≤90):IntKind.u8.wrap ((b.toNat:Int)+32)=((caseB false b).toNat:Int):=by
 have e:caseB false b=b+32:=by
  unfold caseB
  rw[if_neg (by simp),if_pos ⟨rfl,UInt8.le_iff_toNat_le.2 (by simpa using (by omega:65≤b.toNat)),UInt8.le_iff_toNat_le.2 (by simpa using (by omega:b.toNat≤90))⟩]
 rw[e,UInt8.toNat_add]
 have:IntKind.u8.wrap ((b.toNat:Int)+32)=(b.toNat:Int)+32:=by rw[IntKind.wrap_u8];omega
 rw[this]
 show _=(((b.toNat+32) % 256:Nat):Int)
 omega
theorem caseB_t {b:UInt8} (h:¬ (97:Int)≤(b.toNat:Int)∨¬ (b.toNat:Int)≤122):caseB true b=b:=by
 unfold caseB
 rw[if_neg,if_neg (by simp)]
 rintro ⟨_,h1,h2⟩
 have q1:=UInt8.le_iff_toNat_le.1 h1
 have q2:=UInt8.le_iff_toNat_le.1 h2
 simp at q1 q2
 omega
theorem caseB_f {b:UInt8} (h:¬ (65:Int)≤(b.toNat:Int)∨¬ (b.toNat:Int)≤90):caseB false b=b:=by
 unfold caseB
 rw[if_neg (by simp),if_neg]
 rintro ⟨_,h1,h2⟩
 have q1:=UInt8.le_iff_toNat_le.1 h1
 have q2:=UInt8.le_iff_toNat_le.1 h2
 simp at q1 q2
 omega
theorem CsSt.start (s:List UInt8) (up:Bool) (w:World) (cap:Nat):CsSt s up w 0 (w.drew.alloc (.cells (bytesRow ⟨s.toArray⟩ cap) 5 ((bytesRow ⟨s.toArray⟩ cap).size,(bytesRow ⟨s.toArray⟩ cap).size+1))) where
 at':=fun j hj=>by
  rw[if_neg (Nat.not_lt_zero _)]
  refine (World.cell?_alloc_mark w.drew (bytesRow ⟨s.toArray⟩ cap) 5 _ j).trans ?_
  have h:=bytesRow_at ⟨s.toArray⟩ cap j (by simpa using hj)
  simpa using h
 frz:=fun j hj=>by
  refine (World.frozen?_alloc_mark w.drew (bytesRow ⟨s.toArray⟩ cap) 5 _ _ j).trans ?_
  have hsz:s.length≤(bytesRow ⟨s.toArray⟩ cap).size:=by simp[bytesRow]
  rw[Bool.and_eq_false_iff]
  exact .inl (decide_eq_false (by omega))
 blw:=((Below.refl _ w).drew).alloc (Nat.le_refl _) _
theorem cased_w (s:List UInt8) (up:Bool) (w:World) (hs:s.length≤200) :
 Calls Tryz.prog 181 #[.string ⟨s.toArray⟩,.bool up] w fun e w'=>e=.returned (.string ⟨(s.map (caseB up)).toArray⟩)∧Below w.heap.size w w':=by
 have hcv:=run_bytes_of_string (P:=Tryz.prog) w 9 128 5 ⟨s.toArray⟩ Tryz.underlying9 Tryz.underlying128 Tryz.underlying5
 have hsz:(⟨s.toArray⟩:ByteArray).size=s.length:=rfl
 have h0:=CsSt.start s up w (grownCap w s.length 0 5)
 have H0:Hid (CsSt s up w 0 _):=h0
 clear h0
 rw[hsz] at hcv
 generalize grownCap w s.length 0 5=cap at *
 go_enter Tryz.func181,Tryz.ntmps181
 go_wp2
 go_loopg [12] s.length (fun k c wr=>∃ i,k=s.length - i∧i≤s.length∧c=.int .i64 (i:Int)∧CsSt s up w i wr)
 case atStart=>exact ⟨0,rfl,Nat.zero_le _,rfl,H0.out⟩
 case round =>
  obtain ⟨i,hk,hi,rfl,hst⟩:=hrel
  have HS:Hid (CsSt s up w i wr):=hst
  clear hst H0 hcv
  by_cases hlt:i<s.length
  ·have hlt':(i:Int)<(s.length:Int):=by omega
   have hc:wr.cell? ⟨w.heap.size,i,none⟩=some (.int .u8 (s[i].toNat:Int)):=by rw[HS.out.at' i hlt,if_neg (Nat.lt_irrefl _)]
   have hf:wr.frozen? ⟨w.heap.size,i,none⟩=false:=HS.out.frz i hlt
   obtain ⟨m,hm⟩:∃ m:Int,m=(s[i].toNat:Int):=⟨_,rfl⟩
   rw[← hm] at hc
   have HM:Hid (m=(s[i].toNat:Int)):=hm
   have HK:Hid (gk=s.length - i∧s.length≤200):=⟨hk,hs⟩
   have HW:Hid (wrap64 ((i:Int)+1)=(i:Int)+1):=by show wrap64 _=_;unfold wrap64;omega
   clear hm hk hsz hs
   cases up
   ·by_cases q1:(65:Int)≤m
    ·by_cases q2:m≤90
     ·obtain ⟨z,hz⟩:∃ z:Int,IntKind.u8.wrap (m+32)=z:=⟨_,rfl⟩
      go_wp2
      go_roundg (s.length - (i+1))
      case measure=>have:=HK.out;omega
      case rel =>
       refine ⟨i+1,rfl,by omega,by simpa using HW.out,?_⟩
       have:=HS.out.step hlt
       rw[← caseB_2 (by rw[← HM.out];exact q1) (by rw[← HM.out];exact q2),← HM.out,hz] at this
       exact this
     ·have hsm:=HS.out.same hlt (caseB_f (.inr (by rw[← HM.out];exact q2)))
      have HT:Hid (CsSt s false w (i+1) wr):=hsm
      clear hsm
      go_wp2
      go_roundg (s.length - (i+1))
      case measure=>have:=HK.out;omega
      case rel=>exact ⟨i+1,rfl,by omega,by simpa using HW.out,HT.out⟩
    ·have hsm:=HS.out.same hlt (caseB_f (.inl (by rw[← HM.out];exact q1)))
     have HT:Hid (CsSt s false w (i+1) wr):=hsm
     clear hsm
     go_wp2
     go_roundg (s.length - (i+1))
     case measure=>have:=HK.out;omega
     case rel=>exact ⟨i+1,rfl,by omega,by simpa using HW.out,HT.out⟩
   ·by_cases q1:(97:Int)≤m
    ·by_cases q2:m≤122
     ·obtain ⟨z,hz⟩:∃ z:Int,IntKind.u8.wrap (m - 32)=z:=⟨_,rfl⟩
      go_wp2
      go_roundg (s.length - (i+1))
      case measure=>have:=HK.out;omega
      case rel =>
       refine ⟨i+1,rfl,by omega,by simpa using HW.out,?_⟩
       have:=HS.out.step hlt
       rw[← caseB_1 (by rw[← HM.out];exact q1) (by rw[← HM.out];exact q2),← HM.out,hz] at this
       exact this
     ·have hsm:=HS.out.same hlt (caseB_t (.inr (by rw[← HM.out];exact q2)))
      have HT:Hid (CsSt s true w (i+1) wr):=hsm
      clear hsm
      go_wp2
      go_roundg (s.length - (i+1))
      case measure=>have:=HK.out;omega
      case rel=>exact ⟨i+1,rfl,by omega,by simpa using HW.out,HT.out⟩
    ·have hsm:=HS.out.same hlt (caseB_t (.inl (by rw[← HM.out];exact q1)))
     have HT:Hid (CsSt s true w (i+1) wr):=hsm
     clear hsm
     go_wp2
     go_roundg (s.length - (i+1))
     case measure=>have:=HK.out;omega
     case rel=>exact ⟨i+1,rfl,by omega,by simpa using HW.out,HT.out⟩
  ·obtain rfl:i=s.length:=by omega
   have hback:=run_convert_bytes_back (P:=Tryz.prog) wr 128 9 5 ⟨w.heap.size,0,none⟩ cap (s.map (caseB up)) Tryz.underlying128 Tryz.underlying5 Tryz.underlying9 (fun j hj=>by
    have hj':j<s.length:=by simpa using hj
    rw[Addr.add_lit,Nat.zero_add,HS.out.at' j hj',if_pos hj',List.getElem_map])
   rw[List.length_map] at hback
   go_wp2
   go_ret
   exact ⟨rfl,HS.out.blw⟩
theorem str_b {M:Nat→Prop} {w:World} {s:List UInt8} {p:Prop} {i:Decidable p} {ys:List Value} (h:DenL M w [.str s,.b p i] ys):ys=[.string ⟨s.toArray⟩,.bool (decide p)]:=by
 obtain ⟨y,ys,rfl,h1,h2⟩:=All2.cons_iff.1 h
 obtain ⟨z,rfl,h3⟩:=All2.one_iff.1 h2
 rw[DenD.str_inv h1,DenD.b_inv h3]
theorem cased_d (s:List UInt8) (p:Prop) (i:Decidable p) (hs:s.length≤200):FnP Tryz.prog gl 181 [.str s,.b p i] (.str (s.map (caseB (@decide p i)))) :=
 FnP.of_below (xs:=[.string ⟨s.toArray⟩,.bool (@decide p i)]) (v:=.string ⟨(s.map (caseB (@decide p i))).toArray⟩) hoB (fun _ _ _ hd=>str_b hd) (fun _ _=>.str _) (fun _ w _=>cased_w s _ w hs)
end
end Go.Proofs.YtfkjhfdpphfjhaaGreatDoor
