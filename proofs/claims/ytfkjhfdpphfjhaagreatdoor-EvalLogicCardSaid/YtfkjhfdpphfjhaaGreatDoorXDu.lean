/- Proved: a part of what the law is proved with (the reckoner, contracts of functions, plain laws). Conditions: as each says. -/
import Derived.Test.YtfkjhfdpphfjhaaGreatDoorXDo
import Derived.Test.YtfkjhfdpphfjhaaGreatDoorXDr
namespace Go.Proofs.YtfkjhfdpphfjhaaGreatDoor
open Go Go.RowKit Go.EYtfkjhfdpphfjhaaGreatDoor
set_option maxRecDepth 100000
set_option maxHeartbeats 4000000
section
variable {gl:List (Nat×List D)}
theorem len_1 {α:Type} {l:List α} (h:l.length=1):∃ x,l=[x]:=by
 match l,h with
 | [x],_=>exact ⟨x,rfl⟩
theorem len_2 {α:Type} {l:List α} (h:l.length=2):∃ x y,l=[x,y]:=by
 match l,h with
 | [x,y],_=>exact ⟨x,y,rfl⟩
theorem len_3 {α:Type} {l:List α} (h:l.length=3):∃ x y z,l=[x,y,z]:=by
 match l,h with
 | [x,y,z],_=>exact ⟨x,y,z,rfl⟩
inductive InS (S:List UInt8→Nat→Prop):Nd→Prop
 | mk {k m:Int} {t:List UInt8} {a b:Rf} {ks:List Nd} (h:k=9→S t ks.length) (hk:∀ x (h:x<ks.length),InS S ks[x]):InS S (.mk k m t a b ks)
theorem InS.out {S:List UInt8→Nat→Prop} {k m:Int} {t:List UInt8} {a b:Rf} {ks:List Nd} (h:InS S (.mk k m t a b ks)):(k=9→S t ks.length)∧∀ x (h:x<ks.length),InS S ks[x]:=by
 cases h with
 | mk h hk=>exact ⟨h,hk⟩
theorem InS.leaf {S:List UInt8→Nat→Prop} {k m:Int} {t:List UInt8} {a b:Rf} (h:k≠9):InS S (.mk k m t a b []):=.mk (fun e=>absurd e h) fun _ h=>absurd h (Nat.not_lt_zero _)
theorem InS.of {S:List UInt8→Nat→Prop} {k m:Int} {t:List UInt8} {a b:Rf} {ks:List Nd} (h:k=9→S t ks.length) (hk:∀ x ∈ ks,InS S x):InS S (.mk k m t a b ks):=.mk h fun _x hx=>hk _ (List.getElem_mem hx)
abbrev CallOk (gl:List (Nat×List D)) (S:List UInt8→Nat→Prop) (mk:List (Int×Int)) (mv:List Vl) (ev:Int→Int→Vl):Prop :=
 ∀ t,∀ {ks:List Nd},S t ks.length→(∀ x (h:x<ks.length),KdOk (wG gl) mk mv ev ks[x])→ks.length≤200→FnP Tryz.prog (wG gl) 66 [mpE mk mv,.str t,.lst 12 (Nd.csL ks)] (callV t (evK ev ks)).d
section
variable (te:TypeId) (pe:Value) (hV:Has (wG gl) (glV te pe))
include hV
omit hV in
theorem node_leaf {mk:List (Int×Int)} {mv:List Vl} {ev:Int→Int→Vl} (hM:MapOk mk mv ev) (k m:Int) (t:List UInt8) (a b:Rf) (ks:List Nd) (h7:¬ k=7) (h8:¬ k=8) (h9:¬ k=9):FnP Tryz.prog (wG gl) 39 [mpE mk mv,.agg (Nd.cs (.mk k m t a b ks))] (nodeV ev k m t a (evK ev ks)).d:=by
 unfold nodeV
 by_cases h1:k=1
 ·rw[if_pos h1]
  have c1:=Num_d (gl:=wG gl) m
  refine S0 Tryz.func39 rfl ?_
  ((repeat' ((conv=>whnf);first|exact .intro|refine G ?_|intro _|refine C1 c1 ?_|refine .mk ?_ ?_|refine H ?_|fail));all_goals conv=>whnf)
  all_goals exact LeD.rfl
 rw[if_neg h1]
 by_cases h2:k=2
 ·rw[if_pos h2]
  have c1:=Of_d (gl:=wG gl) t
  refine S0 Tryz.func39 rfl ?_
  ((repeat' ((conv=>whnf);first|exact .intro|refine G ?_|intro _|refine C1 c1 ?_|refine .mk ?_ ?_|refine H ?_|fail));all_goals conv=>whnf)
  all_goals exact LeD.rfl
 rw[if_neg h2]
 by_cases h3:k=3
 ·rw[if_pos h3]
  have c1:FnP Tryz.prog (wG gl) 62 [.b (m=1) inferInstance] (vlD 3 (if m=1 then 1 else 0) []):=Is_b _
  refine S0 Tryz.func39 rfl ?_
  ((repeat' ((conv=>whnf);first|exact .intro|refine G ?_|intro _|refine C1 c1 ?_|refine .mk ?_ ?_|refine H ?_|fail));all_goals conv=>whnf)
  all_goals exact LeD.rfl
 rw[if_neg h3]
 by_cases h4:k=4
 ·rw[if_pos h4]
  have c1:=Wrong_d (gl:=wG gl) m
  refine S0 Tryz.func39 rfl ?_
  ((repeat' ((conv=>whnf);first|exact .intro|refine G ?_|intro _|refine C1 c1 ?_|refine .mk ?_ ?_|refine H ?_|fail));all_goals conv=>whnf)
  all_goals exact LeD.rfl
 rw[if_neg h4]
 by_cases h5:k=5
 ·rw[if_pos h5]
  have hlk:=look_ev hM a.c a.r
  generalize ev a.c a.r=u at *
  rcases hlk with ⟨i,hi⟩|⟨hi,rfl⟩
  ·refine S0 Tryz.func39 rfl ?_
   ((repeat' ((conv=>whnf);first|exact .intro|refine G ?_|intro _|(refine ⟨3,⟨key_cell,rfl,keys_E _⟩,by kernel_rfl,.inl ⟨_,_,hi,?_⟩⟩)|refine .mk ?_ ?_|refine H ?_|fail));all_goals conv=>whnf)
   all_goals exact LeD.rfl
  ·refine S0 Tryz.func39 rfl ?_
   ((repeat' ((conv=>whnf);first|exact .intro|refine G ?_|intro _|(refine ⟨3,⟨key_cell,rfl,keys_E _⟩,by kernel_rfl,.inr ⟨hi,?_⟩⟩)|refine .mk ?_ ?_|refine H ?_|fail));all_goals conv=>whnf)
   all_goals exact LeD.rfl
 rw[if_neg h5,if_neg h7,if_neg h8,if_neg h9]
 refine S0 Tryz.func39 rfl ?_
 ((repeat' ((conv=>whnf);first|exact .intro|refine G ?_|intro _|refine .mk ?_ ?_|refine H ?_|fail));all_goals conv=>whnf)
 all_goals exact LeD.rfl
theorem node_7 {mk:List (Int×Int)} {mv:List Vl} {ev:Int→Int→Vl} (m:Int) (t:List UInt8) (a b:Rf) {x:Nd} (hx:KdOk (wG gl) mk mv ev x):FnP Tryz.prog (wG gl) 39 [mpE mk mv,.agg (Nd.cs (.mk 7 m t a b [x]))] (nodeV ev 7 m t a (evK ev [x])).d:=by
 have c1:=hx.run
 have c2:=FnP.moreG (Neg_v te pe hx.vok) hV
 show FnP Tryz.prog (wG gl) 39 _ (twoV 9 ⟨1,0,[]⟩ (evN ev x)).d
 clear hx
 generalize twoV 9 ⟨1,0,[]⟩ (evN ev x)=z at *
 generalize evN ev x=v at *
 obtain ⟨k1,m1,t1,a1,b1,s1⟩:=x
 have g1:(Nd.csL [.mk k1 m1 t1 a1 b1 s1])[(0:Int).toNat]?=some (ndR k1 m1 t1 a1 b1 s1):=rfl
 refine S0 Tryz.func39 rfl ?_
 ((repeat' ((conv=>whnf);first|exact .intro|refine G ?_|intro _|refine C1 c1 ?_|refine C1 c2 ?_|(refine ⟨Int.le_refl _,_,g1,?_⟩)|refine .mk ?_ ?_|refine H ?_|fail));all_goals conv=>whnf)
 all_goals exact LeD.rfl
theorem node_8 {mk:List (Int×Int)} {mv:List Vl} {ev:Int→Int→Vl} (m:Int) (t:List UInt8) (a b:Rf) {x y:Nd} (hx:KdOk (wG gl) mk mv ev x) (hy:KdOk (wG gl) mk mv ev y):FnP Tryz.prog (wG gl) 39 [mpE mk mv,.agg (Nd.cs (.mk 8 m t a b [x,y]))] (nodeV ev 8 m t a (evK ev [x,y])).d:=by
 have c1:=hx.run
 have c2:=hy.run
 have c3:=FnP.moreG (Two_v te pe m hx.vok hy.vok) hV
 show FnP Tryz.prog (wG gl) 39 _ (twoV m (evN ev x) (evN ev y)).d
 clear hx hy
 generalize twoV m (evN ev x) (evN ev y)=z at *
 generalize evN ev x=v at *
 generalize evN ev y=u at *
 obtain ⟨k1,m1,t1,a1,b1,s1⟩:=x
 obtain ⟨k2,m2,t2,a2,b2,s2⟩:=y
 have g1:(Nd.csL [.mk k1 m1 t1 a1 b1 s1,.mk k2 m2 t2 a2 b2 s2])[(0:Int).toNat]?=some (ndR k1 m1 t1 a1 b1 s1):=rfl
 have g2:(Nd.csL [.mk k1 m1 t1 a1 b1 s1,.mk k2 m2 t2 a2 b2 s2])[(1:Int).toNat]?=some (ndR k2 m2 t2 a2 b2 s2):=rfl
 refine S0 Tryz.func39 rfl ?_
 ((repeat' ((conv=>whnf);first|exact .intro|refine G ?_|intro _|refine C1 c1 ?_|refine C1 c2 ?_|refine C1 c3 ?_|(first|refine ⟨Int.le_refl _,_,g1,?_⟩|refine ⟨by decide,_,g2,?_⟩)|refine .mk ?_ ?_|refine H ?_|fail));all_goals conv=>whnf)
 all_goals exact LeD.rfl
omit hV in
theorem node_9 {mk:List (Int×Int)} {mv:List Vl} {ev:Int→Int→Vl} (m:Int) (t:List UInt8) (a b:Rf) {ks:List Nd} (c:FnP Tryz.prog (wG gl) 66 [mpE mk mv,.str t,.lst 12 (Nd.csL ks)] (callV t (evK ev ks)).d):FnP Tryz.prog (wG gl) 39 [mpE mk mv,.agg (Nd.cs (.mk 9 m t a b ks))] (nodeV ev 9 m t a (evK ev ks)).d:=by
 show FnP Tryz.prog (wG gl) 39 _ (callV t (evK ev ks)).d
 generalize callV t (evK ev ks)=z at *
 refine S0 Tryz.func39 rfl ?_
 ((repeat' ((conv=>whnf);first|exact .intro|refine G ?_|intro _|refine C1 c ?_|refine .mk ?_ ?_|refine H ?_|fail));all_goals conv=>whnf)
 all_goals exact LeD.rfl
theorem node_s {S:List UInt8→Nat→Prop} {mk:List (Int×Int)} {mv:List Vl} {ev:Int→Int→Vl} (hcall:CallOk gl S mk mv ev) (hM:MapOk mk mv ev) (hev:∀ c r,(ev c r).ok) (n:Nd):∀ {box:Prop},frmN n box→cntN n≤200→(wrN n).length≤200→okN n→InS S n→KdOk (wG gl) mk mv ev n:=by
 match n with
 | .mk k m t a b ks =>
  intro box hf hc hw ho hi
  obtain ⟨hs,hki⟩:=hi.out
  have hcx:∀ x (h:x<ks.length),cntN ks[x]≤200:=fun x h=>by
   have h1:=cntL_take h
   have h2:=cntL_le ks (x+1)
   unfold cntN at hc
   omega
  have hfx:=frm_kid hf
  have hwx:=kid_wr hf
  have hol:okL ks:=by unfold okN at ho;exact ho.2.2
  have ih:∀ x (h:x<ks.length),KdOk (wG gl) mk mv ev ks[x]:=fun x h=>node_s hcall hM hev ks[x] (hfx x h).choose_spec (hcx x h) (Nat.le_trans (hwx x h) hw) (okL_get hol h) (hki x h)
  have hlk:ks.length≤200:=by
   have:=len_cnt ks
   unfold cntN at hc
   omega
  refine ⟨?_,evA_ok hev _ hf hc hw ho,fun h6=>?_⟩
  ·rw[evN_mk]
   by_cases h7:k=7
   ·subst h7
    rw[frm_7] at hf
    obtain ⟨x,rfl⟩:=len_1 hf.1
    exact node_7 te pe hV m t a b (ih 0 (by simp))
   by_cases h8:k=8
   ·subst h8
    rw[frm_8] at hf
    obtain ⟨x,y,rfl⟩:=len_2 hf.1
    exact node_8 te pe hV m t a b (ih 0 (by simp)) (ih 1 (by simp))
   by_cases h9:k=9
   ·subst h9
    exact node_9 m t a b (hcall t (hs rfl) ih hlk)
   exact node_leaf hM k m t a b ks h7 h8 h9
  ·subst h6
   rw[frm_6] at hf
   exact ⟨hf.2.2.2.2.1,hf.2.2.2.2.2⟩
termination_by SizeOf.sizeOf n
decreasing_by
 simp only[Nd.mk.sizeOf_spec]
 have:=List.sizeOf_lt_of_mem (List.getElem_mem h)
 omega
theorem call_many {S:List UInt8→Nat→Prop} (hS:∀ t n,S t n→isMany t) {mk:List (Int×Int)} {mv:List Vl} {ev:Int→Int→Vl} (hM:MapOk mk mv ev) (hev:∀ c r,(ev c r).ok):CallOk gl S mk mv ev:=fun t ks hs hk hlk=>by
 have hlen:=kid_len ks
 have hel:(evK ev ks).length=ks.length:=by rw[evK_map,List.length_map]
 have hm:=hS _ _ hs
 unfold callV
 rw[if_pos hm,hel]
 by_cases h0:ks.length=0
 ·rw[if_pos h0];exact call_m0 hm (by rw[hlen];omega)
 ·rw[if_neg h0];exact call_m hm (by rw[hlen];omega) (emany_d te pe hV t hM hev ks hk hlk)
end
end
section
variable {gl:List (Nat×List D)}
abbrev shOk (x:Shw):Prop:=okP x.c x.r∧isV x.v.k x.v.n x.v.s
abbrev shw7 (l:List Shw):D:=.lst 7 (l.map shwD)
theorem loop_E {n:Nd} {l:List Shw} (hl:l.length≤1099511627776) (c0:FnP Tryz.prog (wG gl) 36 [.agg n.cs] (.v .nilIface)) (m:Nat) (hm:m≤l.length) (hg:∀ k (h:k<l.length),k<m→shOk l[k]) (r:D)
 (hr:(m=l.length∧∀ ks vs,MapOk ks vs (evF l)→FnP Tryz.prog (wG gl) 39 [mpE ks vs,.agg n.cs] (evN (evF l) n).d∧r=.tup [(evN (evF l) n).d,.v .nilIface])∨(∃ h:m<l.length,¬ shOk l[m]∧r=.tup [vlD 0 0 [],errD 1])) :
 FnP Tryz.prog (wG gl) 10 [.agg n.cs,shw7 l] r:=by
 have hlen:(l.map shwD).length=l.length:=List.length_map _
 obtain ⟨k,m',t,a,b,ks⟩:=n
 refine S0 Tryz.func10 rfl ?_
 ((repeat' ((conv=>whnf);first|exact .intro|refine G ?_|intro _|refine C1 c0 ?_|refine .mk ?_ ?_|refine H ?_|fail));all_goals conv=>whnf)
 refine ⟨{ σ:=Nat×List (Int×Int)×List Vl,fr:=fun s=>[(19,.c (.d (iD (s.1:Int))))],ks:=[2],L:=fun s=>[(2,.mp (s.2.1.map ckD) (s.2.2.map Vl.d))],ex:=0,I:=fun s=>s.1≤m∧MapOk s.2.1 s.2.2 (evF (l.take s.1)),μ:=fun s=>l.length - s.1 },⟨(0,[],[]),⟨Nat.zero_le _,MapOk.nil⟩,?_⟩,fun (s:Nat×List (Int×Int)×List Vl) hs=>?_⟩
 ·((repeat' first|exact rfl|((conv=>whnf);first|done|exact suL|refine And.intro ?_ ?_|fail));all_goals conv=>whnf)
 obtain ⟨k,mk,mv⟩:=s
 obtain ⟨hk,hM⟩:=hs
 simp only at hk hM
 have e0:=wx (x:=k) (by omega)
 by_cases hlt:k<l.length
 ·have h2:(k:Int)<(((l.map shwD).length:Nat):Int):=by omega
  have g1:=get_map (f:=shwD) hlt
  by_cases hkm:k<m
  ·have hok:=hg k hlt hkm
   have hst:=evF_take hlt
   clear hr hg
   generalize l[k]=x at *
   obtain ⟨xc,xr,⟨vk,vn,vs⟩,st,rd⟩:=x
   obtain ⟨hok1,hok2⟩:=hok
   have c1:FnP Tryz.prog (wG gl) 37 [cellD xc xr] (.v .nilIface):=Check_s hok1
   have c2:FnP Tryz.prog (wG gl) 38 [vlD vk vn vs] (.v .nilIface):=vCheck_s hok2
   by_cases hmem:(xc,xr) ∈ mk
   ·obtain ⟨i,hi,he⟩:=List.getElem_of_mem hmem
    have hi':mk[i]?=some (xc,xr):=by rw[List.getElem?_eq_getElem hi,he]
    have hiD:(mk.map ckD)[i]?=some (cellD xc xr):=by rw[List.getElem?_map,hi'];rfl
    have hM':=hM.set ⟨xc,xr,⟨vk,vn,vs⟩,st,rd⟩ hi'
    rw[← hst] at hM'
    ((repeat' ((conv=>whnf);first|exact .intro|refine G ?_|intro _|refine C1 c1 ?_|refine C1 c2 ?_|(first|refine ⟨Int.natCast_nonneg _,_,g1,?_⟩|refine ⟨3,⟨key_cell,rfl,keys_E _⟩,.inr ⟨i,hiD,?_⟩⟩)|refine .mk ?_ ?_|refine H ?_|fail));all_goals conv=>whnf)
    all_goals refine ⟨(k+1,mk,mv.set i ⟨vk,vn,vs⟩),⟨⟨hkm,hM'⟩,by show l.length - (k+1)<l.length - k;omega⟩,?_⟩
    all_goals ((repeat' first|exact rfl|((conv=>whnf);first|done|exact suL|refine And.intro ?_ ?_|fail));all_goals conv=>whnf)
    all_goals first|exact ceq e0|(rw[List.map_set];rfl)|skip
   ·have hnD:cellD xc xr ∉ mk.map ckD:=fun hh=>by
     obtain ⟨p,hp,he⟩:=List.mem_map.1 hh
     obtain ⟨e1,e2⟩:=ckD_inj he
     exact hmem (by rw[← e1,← e2];exact hp)
    have hM':=hM.push ⟨xc,xr,⟨vk,vn,vs⟩,st,rd⟩ hmem
    rw[← hst] at hM'
    ((repeat' ((conv=>whnf);first|exact .intro|refine G ?_|intro _|refine C1 c1 ?_|refine C1 c2 ?_|(first|refine ⟨Int.natCast_nonneg _,_,g1,?_⟩|refine ⟨3,⟨key_cell,rfl,keys_E _⟩,.inl ⟨hnD,?_⟩⟩)|refine .mk ?_ ?_|refine H ?_|fail));all_goals conv=>whnf)
    all_goals refine ⟨(k+1,mk++[(xc,xr)],mv++[⟨vk,vn,vs⟩]),⟨⟨hkm,hM'⟩,by show l.length - (k+1)<l.length - k;omega⟩,?_⟩
    all_goals ((repeat' first|exact rfl|((conv=>whnf);first|done|exact suL|refine And.intro ?_ ?_|fail));all_goals conv=>whnf)
    all_goals first|exact ceq e0|(rw[List.map_append];rfl)|(rw[List.map_append,List.map_append];rfl)|skip
  ·obtain rfl:k=m:=by omega
   rcases hr with ⟨h,_⟩|⟨_,hb,rfl⟩
   ·omega
   ·clear hg
    generalize l[k]=x at *
    obtain ⟨xc,xr,⟨vk,vn,vs⟩,st,rd⟩:=x
    by_cases hc:okP xc xr
    ·have c1:FnP Tryz.prog (wG gl) 37 [cellD xc xr] (.v .nilIface):=Check_s hc
     have c2:FnP Tryz.prog (wG gl) 38 [vlD vk vn vs] (errD 1):=vCheck_n fun hv=>hb ⟨hc,hv⟩
     ((repeat' ((conv=>whnf);first|exact .intro|refine G ?_|intro _|refine C1 c1 ?_|refine C1 c2 ?_|(first|refine ⟨Int.natCast_nonneg _,_,g1,?_⟩)|refine .mk ?_ ?_|refine H ?_|fail));all_goals conv=>whnf)
     all_goals exact LeD.rfl
    ·have c1:FnP Tryz.prog (wG gl) 37 [cellD xc xr] (errD 1):=Check_n hc
     ((repeat' ((conv=>whnf);first|exact .intro|refine G ?_|intro _|refine C1 c1 ?_|(first|refine ⟨Int.natCast_nonneg _,_,g1,?_⟩)|refine .mk ?_ ?_|refine H ?_|fail));all_goals conv=>whnf)
     all_goals exact LeD.rfl
 ·have h2:¬ (k:Int)<(((l.map shwD).length:Nat):Int):=by omega
  obtain rfl:k=l.length:=by omega
  rcases hr with ⟨_,hr⟩|⟨h,_⟩
  ·rw[List.take_length] at hM
   obtain ⟨c1,rfl⟩:=hr mk mv hM
   generalize evN (evF l) (.mk _ m' t a b ks)=v at *
   ((repeat' ((conv=>whnf);first|exact .intro|refine G ?_|intro _|refine C1 c1 ?_|refine .mk ?_ ?_|refine H ?_|fail));all_goals conv=>whnf)
   all_goals exact LeD.rfl
  ·omega
section
variable (te:TypeId) (pe:Value) (hV:Has (wG gl) (glV te pe)) {mx:Int} (hm':Go.EYtfkjhfdpphfjhaaGreatDoor.look (wG gl) 4=some [iD mx]) (hl':Go.EYtfkjhfdpphfjhaaGreatDoor.look (wG gl) 0=some lvAll)
include hV hm' hl'
theorem Eval_s {S:List UInt8→Nat→Prop} {n:Nd} (ho:okN n) (hp:(prZ rfZ n).2=0) (hi:InS S n) {l:List Shw} (hx:∀ x ∈ l,shOk x) (hn:∀ x ∈ l,okI x.v.n) (hll:l.length≤1099511627776)
 (hcall:∀ mk mv,MapOk mk mv (evF l)→(∀ c r,(evF l c r).ok)→CallOk gl S mk mv (evF l)):FnP Tryz.prog (wG gl) 10 [.agg n.cs,shw7 l] (.tup [(evN (evF l) n).d,.v .nilIface]):=by
 have c0:=fCheck_d te pe hV hl' rfZ_ok hm' n ho
 rw[hp] at c0
 change FnP Tryz.prog (wG gl) 36 [_] (.v .nilIface) at c0
 refine loop_E hll c0 l.length (Nat.le_refl _) (fun k h _=>hx _ (List.getElem_mem h)) _ (.inl ⟨rfl,fun ks vs hM=>⟨?_,rfl⟩⟩)
 obtain ⟨_,hc,hf⟩:=prZ_y hp
 have hev:=evF_ok fun x hxl=>⟨(hx x hxl).2,hn x hxl⟩
 exact (node_s te pe hV (hcall ks vs hM hev) hM hev n hf hc (Nat.le_trans (prZ_len hp) (by decide)) ho hi).run
end
end
section
variable {gl:List (Nat×List D)}
abbrev vlQ (v:Vl):List D:=[iD v.k,iD v.n,.str v.s]
theorem get2_le {l l':List (List D)} (h:All2 (All2 LeD) l l') {i j:Nat} {d:D} (hg:get2 l' i j=some d):∃ d',get2 l i j=some d'∧LeD d' d:=by
 unfold get2 at hg ⊢
 cases hr:l'[i]? with
 | none=>rw[hr] at hg;cases hg
 | some r' =>
  rw[hr] at hg
  have hg':r'[j]?=some d:=hg
  have hi:i<l.length:=by rw[h.length];exact (List.getElem?_eq_some_iff.1 hr).1
  have hl:l[i]?=some l[i]:=List.getElem?_eq_getElem hi
  have hrr:=h.get2 i _ _ hl hr
  have hj:j<l[i].length:=by rw[hrr.length];exact (List.getElem?_eq_some_iff.1 hg').1
  have hlj:l[i][j]?=some l[i][j]:=List.getElem?_eq_getElem hj
  exact ⟨l[i][j],by rw[hl];exact hlj,hrr.get2 j _ _ hlj hg'⟩
theorem LeD.lst {z:Nat} {l l':List (List D)} (h:All2 (All2 LeD) l l'):LeD (.lst z l) (.lst z l'):=⟨fun M w x hx=>by
 cases hx with
 | lst0 _ a c hc =>
  cases l' with
  | nil=>exact .lst0 _ _ _ hc
  | cons=>exact h.elim
 | lst _ _ b o c cs hb hM hl hc hz hcell hden =>
  rw[h.length]
  refine .lst z l' b o c cs hb hM (by rw[← h.length];exact hl) hc (fun e he=>?_) (fun i j d hg=>?_) (fun i j d hg=>?_)
  ·obtain ⟨i,hi,rfl⟩:=List.getElem_of_mem he
   have hi':i<l.length:=by rw[h.length];exact hi
   rw[← (h.get2 i _ _ (List.getElem?_eq_getElem hi') (List.getElem?_eq_getElem hi)).length]
   exact hz _ (List.getElem_mem hi')
  ·obtain ⟨d',h1,_⟩:=get2_le h hg
   exact hcell i j d' h1
  ·obtain ⟨d',h1,h2⟩:=get2_le h hg
   exact h2.out _ _ _ (hden i j d' h1)⟩
theorem FnP.args {P:Program} {f:Nat} {ds ds':List D} {r:D} (h:FnP P gl f ds r) (hl:All2 LeD ds' ds):FnP P gl f ds' r:=fun w M xs hM hG hd=>h w M xs hM hG (LeDs hl hd)
abbrev rawR (k m:Int) (t:List UInt8) (c r:Int):List D:=[iD k,iD m,.str t,iD c,iD r,.v (.bool false),.v (.bool false),iD 0,iD 0,.v (.bool false),.v (.bool false),.v (.slice none 0 0)]
theorem raw_le (k m:Int) (t:List UInt8) (c r:Int):All2 LeD (rawR k m t c r) (Nd.cs (.mk k m t (cR c r) z0 [])) :=
 ⟨LeD.rfl,LeD.rfl,LeD.rfl,LeD.rfl,LeD.rfl,LeD.bf (by simp),LeD.bf (by simp),LeD.rfl,LeD.rfl,LeD.bf (by simp[z0]),LeD.bf (by simp[z0]),LeD.nil0,trivial⟩
theorem at_d (c r:Int):FnP Tryz.prog gl 20 [iD c,iD r] (cellD c r):=by
 refine S0 Tryz.func20 rfl ?_
 ((repeat' ((conv=>whnf);first|exact .intro|refine G ?_|intro _|refine .mk ?_ ?_|refine H ?_|fail));all_goals conv=>whnf)
 all_goals exact LeD.rfl
theorem scall_d (t:List UInt8) (ks:List Nd):FnP Tryz.prog gl 16 [.str t,.lst 12 (Nd.csL ks)] (.agg (Nd.cs (callN t ks))):=by
 refine S0 Tryz.func16 rfl ?_
 ((repeat' ((conv=>whnf);first|exact .intro|refine G ?_|intro _|refine .mk ?_ ?_|refine H ?_|fail));all_goals conv=>whnf)
 all_goals refine LeD.agg ?_
 all_goals ((repeat' (first|exact LeD.rfl|exact LeD.bf (by simp[z0])|exact LeD.nil0|exact LeD.nil|refine LeD.cons ?_ ?_)))
theorem FnP.nil2 {P:Program} {f z:Nat} {a r:D} (h:FnP P gl f [a,.lst z []] r):FnP P gl f [a,.v (.slice none 0 0)] r:=fun w M xs hM hG hd=>by
 match xs,hd with
 | [x,y],⟨h1,h2,h3⟩=>exact h w M _ hM hG ⟨h1,LeD.nil0.1 _ _ _ h2,h3⟩
theorem values_y {vs:List Vl} {most:Int} (h1:vs.length≠0) (h2:(vs.length:Int)≤most) (hb:vs.length≤1099511627776) (h:∀ v ∈ vs,isV v.k v.n v.s):FnP Tryz.prog gl 17 [.lst 3 (vs.map vlQ),iD most] (.v (.bool true)):=by
 have hlen:(vs.map vlQ).length=vs.length:=List.length_map _
 have q1:¬ most<(((vs.map vlQ).length:Nat):Int):=by omega
 have q2:¬ (((vs.map vlQ).length:Nat):Int)=0:=by omega
 refine S0 Tryz.func17 rfl ?_
 ((repeat' ((conv=>whnf);first|exact .intro|refine G ?_|intro _|refine .mk ?_ ?_|refine H ?_|fail));all_goals conv=>whnf)
 refine ⟨{ σ:=Nat,fr:=fun k=>[(5,.c (.d (iD (k:Int))))],ks:=[],L:=fun k=>[],ex:=0,I:=fun k=>k≤vs.length,μ:=fun k=>vs.length - k },⟨0,Nat.zero_le _,?_⟩,fun (k:Nat) hk=>?_⟩
 ·((repeat' first|exact rfl|((conv=>whnf);first|done|exact suL|refine And.intro ?_ ?_|fail));all_goals conv=>whnf)
 replace hk:k≤vs.length:=hk
 by_cases hlt:k<vs.length
 ·have h3:(k:Int)<(((vs.map vlQ).length:Nat):Int):=by omega
  have g1:=get_map (f:=vlQ) hlt
  have e0:=wx (x:=k) (by omega)
  have hv:=h _ (List.getElem_mem hlt)
  generalize vs[k]=v at *
  have c1:FnP Tryz.prog gl 12 [vlD v.k v.n v.s] (.v (.bool true)):=isR_y hv
  ((repeat' ((conv=>whnf);first|exact .intro|refine G ?_|intro _|refine C1 c1 ?_|(refine ⟨Int.natCast_nonneg _,_,g1,?_⟩)|refine .mk ?_ ?_|refine H ?_|fail));all_goals conv=>whnf)
  all_goals refine ⟨k+1,⟨hlt,by show vs.length - (k+1)<vs.length - k;omega⟩,?_⟩
  all_goals ((repeat' first|exact rfl|((conv=>whnf);first|done|exact suL|refine And.intro ?_ ?_|fail));all_goals conv=>whnf)
  all_goals first|exact ceq e0|skip
 ·have h3:¬ (k:Int)<(((vs.map vlQ).length:Nat):Int):=by omega
  ((repeat' ((conv=>whnf);first|exact .intro|refine G ?_|intro _|refine .mk ?_ ?_|refine H ?_|fail));all_goals conv=>whnf)
  all_goals exact LeD.rfl
theorem values_n {vs:List Vl} {most:Int} (hm:0≤most) (hmm:most≤1048576) (h:¬ (vs.length≠0∧(vs.length:Int)≤most∧∀ v ∈ vs,isV v.k v.n v.s)):FnP Tryz.prog gl 17 [.lst 3 (vs.map vlQ),iD most] (.v (.bool false)):=by
 have hlen:(vs.map vlQ).length=vs.length:=List.length_map _
 by_cases q1:most<(vs.length:Int)
 ·have q1':most<(((vs.map vlQ).length:Nat):Int):=by omega
  refine S0 Tryz.func17 rfl ?_
  ((repeat' ((conv=>whnf);first|exact .intro|refine G ?_|intro _|refine .mk ?_ ?_|refine H ?_|fail));all_goals conv=>whnf)
  all_goals exact LeD.rfl
 have q1':¬ most<(((vs.map vlQ).length:Nat):Int):=by omega
 by_cases q2:vs.length=0
 ·have q2':(((vs.map vlQ).length:Nat):Int)=0:=by omega
  refine S0 Tryz.func17 rfl ?_
  ((repeat' ((conv=>whnf);first|exact .intro|refine G ?_|intro _|refine .mk ?_ ?_|refine H ?_|fail));all_goals conv=>whnf)
  all_goals exact LeD.rfl
 have q2':¬ (((vs.map vlQ).length:Nat):Int)=0:=by omega
 rcases fstOf (p:=fun k=>∀ h:k<vs.length,isV vs[k].k vs[k].n vs[k].s) vs.length with hx|⟨m,h1,h2,h3⟩
 ·exact absurd ⟨q2,by omega,fun v hv=>by obtain ⟨k,hk,rfl⟩:=List.getElem_of_mem hv;exact hx k hk hk⟩ h
 have hbad:¬ isV vs[m].k vs[m].n vs[m].s:=fun hh=>h3 fun _=>hh
 clear h h3
 refine S0 Tryz.func17 rfl ?_
 ((repeat' ((conv=>whnf);first|exact .intro|refine G ?_|intro _|refine .mk ?_ ?_|refine H ?_|fail));all_goals conv=>whnf)
 refine ⟨{ σ:=Nat,fr:=fun k=>[(5,.c (.d (iD (k:Int))))],ks:=[],L:=fun k=>[],ex:=0,I:=fun k=>k≤m,μ:=fun k=>vs.length - k },⟨0,Nat.zero_le _,?_⟩,fun (k:Nat) hk=>?_⟩
 ·((repeat' first|exact rfl|((conv=>whnf);first|done|exact suL|refine And.intro ?_ ?_|fail));all_goals conv=>whnf)
 replace hk:k≤m:=hk
 have hlt:k<vs.length:=by omega
 have h3:(k:Int)<(((vs.map vlQ).length:Nat):Int):=by omega
 have g1:=get_map (f:=vlQ) hlt
 have e0:=wx (x:=k) (by omega)
 by_cases hkm:k<m
 ·have hv:=h2 k hkm hlt
  clear hbad
  generalize vs[k]=v at *
  have c1:FnP Tryz.prog gl 12 [vlD v.k v.n v.s] (.v (.bool true)):=isR_y hv
  ((repeat' ((conv=>whnf);first|exact .intro|refine G ?_|intro _|refine C1 c1 ?_|(refine ⟨Int.natCast_nonneg _,_,g1,?_⟩)|refine .mk ?_ ?_|refine H ?_|fail));all_goals conv=>whnf)
  all_goals refine ⟨k+1,⟨hkm,by show vs.length - (k+1)<vs.length - k;omega⟩,?_⟩
  all_goals ((repeat' first|exact rfl|((conv=>whnf);first|done|exact suL|refine And.intro ?_ ?_|fail));all_goals conv=>whnf)
  all_goals first|exact ceq e0|skip
 ·obtain rfl:k=m:=by omega
  generalize vs[k]=v at *
  have c1:FnP Tryz.prog gl 12 [vlD v.k v.n v.s] (.v (.bool false)):=isR_n hbad
  ((repeat' ((conv=>whnf);first|exact .intro|refine G ?_|intro _|refine C1 c1 ?_|(refine ⟨Int.natCast_nonneg _,_,g1,?_⟩)|refine .mk ?_ ?_|refine H ?_|fail));all_goals conv=>whnf)
  all_goals exact LeD.rfl
theorem column_h (vs:List Vl) (hb:vs.length≤1048576):Go.EYtfkjhfdpphfjhaaGreatDoor.Fn Tryz.prog gl 18 [.c (.d (.lst 3 (vs.map vlQ)))] [] 0 (.ret (.c (.all 7 0))) [(0,.rows 7 ((colS vs).map shwD) 40)] 1 []:=by
 have hlen:(vs.map vlQ).length=vs.length:=List.length_map _
 refine S1 Tryz.func18 rfl ?_
 ((repeat' ((conv=>whnf);first|exact .intro|refine G ?_|intro _|refine .mk ?_ ?_|refine H ?_|fail));all_goals conv=>whnf)
 refine ⟨{ σ:=Nat,fr:=fun k=>[(4,.c (.d (iD (k:Int)))),(3,.c (.all 7 0))],ks:=[],L:=fun k=>[(0,.rows 7 ((colS (vs.take k)).map shwD) 40)],ex:=1,I:=fun k=>k≤vs.length,μ:=fun k=>vs.length - k },⟨0,Nat.zero_le _,?_⟩,fun (k:Nat) hk=>?_⟩
 ·((repeat' first|exact rfl|((conv=>whnf);first|done|exact suL|refine And.intro ?_ ?_|fail));all_goals conv=>whnf)
  all_goals first|exact .inr (.inr (.inl ⟨rfl,7,0,rfl,by decide⟩))|exact ⟨7,_,rfl,by decide,by decide⟩|skip
 replace hk:k≤vs.length:=hk
 by_cases hlt:k<vs.length
 ·have h3:(k:Int)<(((vs.map vlQ).length:Nat):Int):=by omega
  have g1:=get_map (f:=vlQ) hlt
  have e0:=wx (x:=k) (by omega)
  have hst:=colS_take hlt
  have hrl:((colS (vs.take k)).map shwD).length=k:=by rw[List.length_map,colS_len,List.length_take];omega
  have b1:(((colS (vs.take k)).map shwD).length+1) * 64≤140737488355328:=by omega
  have b2:((colS (vs.take k)).map shwD).length+1≤maxLen:=by unfold maxLen;omega
  have c1:=at_d (gl:=gl) 1 ((k+1:Nat):Int)
  generalize vs[k]=v at *
  ((repeat' ((conv=>whnf);first|exact .intro|refine G ?_|intro _|refine C1 c1 ?_|(first|rw[e0]|refine ⟨Int.natCast_nonneg _,_,g1,?_⟩|refine ⟨⟨rfl,b1,b2⟩,?_⟩)|refine .mk ?_ ?_|refine H ?_|fail));all_goals conv=>whnf)
  all_goals refine ⟨k+1,⟨hlt,by show vs.length - (k+1)<vs.length - k;omega⟩,?_⟩
  all_goals ((repeat' first|exact rfl|((conv=>whnf);first|done|exact suL|refine And.intro ?_ ?_|fail));all_goals conv=>whnf)
  all_goals first|exact ceq e0|(rw[hst,List.map_append];rfl)|skip
 ·have h3:¬ (k:Int)<(((vs.map vlQ).length:Nat):Int):=by omega
  obtain rfl:k=vs.length:=by omega
  ((repeat' ((conv=>whnf);first|exact .intro|refine G ?_|intro _|refine .mk ?_ ?_|refine H ?_|fail));all_goals conv=>whnf)
  all_goals ((repeat' first|exact rfl|((conv=>whnf);first|done|exact suL|refine And.intro ?_ ?_|fail));all_goals conv=>whnf)
  all_goals first|(rw[List.take_length];rfl)|(rw[List.take_length];done)|skip
theorem works_e {n:Nd} {l:List Shw} {v:Vl} (c:FnP Tryz.prog gl 10 [.agg n.cs,shw7 l] (.tup [v.d,.v .nilIface])):FnP Tryz.prog gl 15 [.agg n.cs,shw7 l] (.tup [v.d,.v (.bool true)]):=by
 obtain ⟨k,m,t,a,b,ks⟩:=n
 refine S0 Tryz.func15 rfl ?_
 ((repeat' ((conv=>whnf);first|exact .intro|refine G ?_|intro _|refine C1 c ?_|refine .mk ?_ ?_|refine H ?_|fail));all_goals conv=>whnf)
 all_goals exact LeD.tup (LeD.cons LeD.rfl (LeD.cons (LeD.vt trivial) LeD.nil))
section
variable (te:TypeId) (pe:Value) (hV:Has (wG gl) (glV te pe)) {mx:Int} (hm':Go.EYtfkjhfdpphfjhaaGreatDoor.look (wG gl) 4=some [iD mx]) (hl':Go.EYtfkjhfdpphfjhaaGreatDoor.look (wG gl) 0=some lvAll)
include hV hm' hl'
theorem works_s {S:List UInt8→Nat→Prop} {n:Nd} {w d c:Nat} (hs:Sm n False w d c) (hw:w≤199) (hd:d≤30) (hc:c≤200) (hi:InS S n) {l:List Shw} (hx:∀ x ∈ l,shOk x) (hn:∀ x ∈ l,okI x.v.n) (hll:l.length≤1048576)
 (hcall:∀ mk mv,MapOk mk mv (evF l)→(∀ c r,(evF l c r).ok)→CallOk gl S mk mv (evF l)) {v:Vl} (hv:evN (evF l) n=v):FnP Tryz.prog (wG gl) 15 [.agg n.cs,shw7 l] (.tup [v.d,.v (.bool true)]):=by
 subst hv
 exact works_e (Eval_s te pe hV hm' hl' hs.ok (by rw[hs.pr hw hd hc]) hi hx hn (by omega) hcall)
theorem works_0 {S:List UInt8→Nat→Prop} {n:Nd} {w d c:Nat} (hs:Sm n False w d c) (hw:w≤199) (hd:d≤30) (hc:c≤200) (hi:InS S n)
 (hcall:∀ mk mv,MapOk mk mv (evF [])→(∀ c r,(evF [] c r).ok)→CallOk gl S mk mv (evF [])) {v:Vl} (hv:evN (evF []) n=v):FnP Tryz.prog (wG gl) 15 [.agg n.cs,.v (.slice none 0 0)] (.tup [v.d,.v (.bool true)]) :=
 FnP.nil2 (works_s te pe hV hm' hl' hs hw hd hc hi (l:=[]) (fun _ h=>nomatch h) (fun _ h=>nomatch h) (by decide) hcall hv)
end
end
end Go.Proofs.YtfkjhfdpphfjhaaGreatDoor
