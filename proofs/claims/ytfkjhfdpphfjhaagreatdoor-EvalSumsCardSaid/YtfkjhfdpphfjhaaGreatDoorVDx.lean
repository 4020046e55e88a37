/- Proved: a part of what the law is proved with (the reckoner, contracts of functions, plain laws). Conditions: as each says. -/
import Derived.ChangeArms
import Derived.Test.YtfkjhfdpphfjhaaGreatDoorVDm
import Derived.Test.YtfkjhfdpphfjhaaGreatDoorVDu
import Derived.Test.YtfkjhfdpphfjhaaGreatDoorVMk
section
namespace Go.Proofs.YtfkjhfdpphfjhaaGreatDoor
open Go Go.RowKit Go.EYtfkjhfdpphfjhaaGreatDoor
set_option maxRecDepth 100000
set_option maxHeartbeats 4000000
variable {gl:List (Nat×List D)}
abbrev sumS (t:List UInt8) (_n:Nat):Prop:=isMany t
theorem sumS_leaf {n:Nd} (h:∃ k m t a b,n=.mk k m t a b []∧k≠9):InS sumS n:=by
 obtain ⟨k,m,t,a,b,rfl,h⟩:=h
 exact .leaf h
theorem sumS_call {t:List UInt8} (ht:isMany t) {ks:List Nd} (hk:∀ x ∈ ks,∃ k m t a b,x=.mk k m t a b []∧k≠9):InS sumS (callN t ks):=.of (fun _=>ht) fun x hx=>sumS_leaf (hk x hx)
theorem box_leaf (a b:Rf):∃ k m t a' b',boxN a b=.mk k m t a' b' []∧k≠9:=⟨6,0,[],a,b,rfl,by decide⟩
theorem num_leaf (m:Int):∃ k m' t a' b',numN m=.mk k m' t a' b' []∧k≠9:=⟨1,m,[],z0,z0,rfl,by decide⟩
theorem sum_f0:evN (evF []) (callN nSUM [numN 2,numN 3])=⟨1,5,[]⟩:=by
 rw[evN_call,many_eq (.inl rfl) (by decide)]
 rfl
theorem sum_f1:FnP Tryz.prog (wG gl) 16 [.str nSUM,.lst 12 [rawR 1 2 [] 0 0,rawR 1 3 [] 0 0]] (.agg (callN nSUM [numN 2,numN 3]).cs) :=
 FnP.args (scall_d nSUM [numN 2,numN 3]) ⟨LeD.rfl,LeD.lst ⟨raw_le _ _ _ _ _,raw_le _ _ _ _ _,trivial⟩,trivial⟩
theorem itoa_1 {n:Int} (h:0≤n) (h':n<10):(Lib.itoa n).length≤1:=by
 unfold Lib.itoa
 rw[if_neg (by omega)]
 exact dec_len 0 n.toNat (by omega)
theorem sum_f2:Sm (callN nSUM [numN 2,numN 3]) False 9 1 3 :=
 sm_call (w:=1) (d:=0) (c:=1) False (by decide) fun x hx=>by
  rcases List.mem_cons.1 hx with rfl|hx
  ·exact sm_num _ (by decide) (by decide) (itoa_1 (by decide) (by decide))
  ·obtain rfl:=List.mem_singleton.1 hx
   exact sm_num _ (by decide) (by decide) (itoa_1 (by decide) (by decide))
theorem sum_f3:InS sumS (callN nSUM [numN 2,numN 3]):=sumS_call (.inl rfl) fun x hx=>by
 rcases List.mem_cons.1 hx with rfl|hx
 ·exact num_leaf 2
 ·obtain rfl:=List.mem_singleton.1 hx
  exact num_leaf 3
section
variable (te:TypeId) (pe:Value) (hV:Has (wG gl) (glV te pe)) {mx:Int} (hm':Go.EYtfkjhfdpphfjhaaGreatDoor.look (wG gl) 4=some [iD mx]) (hl':Go.EYtfkjhfdpphfjhaaGreatDoor.look (wG gl) 0=some lvAll)
include hV hm' hl'
theorem sums_a {vs:List Vl} {cut:Int} (hq:FnP Tryz.prog (wG gl) 17 [.lst 3 (vs.map vlQ),iD 90] (.v (.bool false))):FnP Tryz.prog (wG gl) 4 [.lst 3 (vs.map vlQ),iD cut] (.v (.bool true)):=by
 have hlen:(vs.map vlQ).length=vs.length:=List.length_map _
 have f1:=sum_f1 (gl:=gl)
 have f2:=works_0 te pe hV hm' hl' sum_f2 (by decide) (by decide) (by decide) sum_f3 (fun _ _ hM hev=>call_many te pe hV (fun _ _ h=>h) hM hev) sum_f0
 have f3:=rNum_d (gl:=wG gl) 5
 refine fnP_of_vc (nv:=9999) (cu:=[]) fits mixed Tryz.func4 rfl hoB rfl ?_
 ((repeat' ((conv=>whnf);first|exact .intro|refine G ?_|intro _|refine C1 f2 ?_|refine C1 f3 ?_|refine C1 hq ?_|refine C2 f1 ?_|refine .mk ?_ ?_|refine H ?_|fail));all_goals conv=>whnf)
 all_goals first|exact LeD.rfl|(exfalso;simp_all;done)|skip
theorem sums_b {vs:List Vl} {cut:Int} (hq:FnP Tryz.prog (wG gl) 17 [.lst 3 (vs.map vlQ),iD 90] (.v (.bool true))) (h:cut<1∨(((vs.map vlQ).length:Nat):Int)≤cut):FnP Tryz.prog (wG gl) 4 [.lst 3 (vs.map vlQ),iD cut] (.v (.bool true)):=by
 have hlen:(vs.map vlQ).length=vs.length:=List.length_map _
 have f1:=sum_f1 (gl:=gl)
 have f2:=works_0 te pe hV hm' hl' sum_f2 (by decide) (by decide) (by decide) sum_f3 (fun _ _ hM hev=>call_many te pe hV (fun _ _ h=>h) hM hev) sum_f0
 have f3:=rNum_d (gl:=wG gl) 5
 by_cases h1:cut<1
 ·refine fnP_of_vc (nv:=9999) (cu:=[]) fits mixed Tryz.func4 rfl hoB rfl ?_
  ((repeat' ((conv=>whnf);first|exact .intro|refine G ?_|intro _|refine C1 f2 ?_|refine C1 f3 ?_|refine C1 hq ?_|refine C2 f1 ?_|refine .mk ?_ ?_|refine H ?_|fail));all_goals conv=>whnf)
  all_goals first|exact LeD.rfl|(exfalso;simp_all;done)|skip
 ·have h2:(((vs.map vlQ).length:Nat):Int)≤cut:=h.resolve_left h1
  refine fnP_of_vc (nv:=9999) (cu:=[]) fits mixed Tryz.func4 rfl hoB rfl ?_
  ((repeat' ((conv=>whnf);first|exact .intro|refine G ?_|intro _|refine C1 f2 ?_|refine C1 f3 ?_|refine C1 hq ?_|refine C2 f1 ?_|refine .mk ?_ ?_|refine H ?_|fail));all_goals conv=>whnf)
  all_goals first|exact LeD.rfl|(exfalso;simp_all;done)|skip
theorem sums_y {vs:List Vl} (hv:∀ v ∈ vs,v.ok) (h90:vs.length≤90) {cut:Nat} (h1:1≤cut) (h2:cut<vs.length):FnP Tryz.prog (wG gl) 4 [.lst 3 (vs.map vlQ),iD (cut:Int)] (.v (.bool true)):=by
 have hlen:(vs.map vlQ).length=vs.length:=List.length_map _
 have f1:=sum_f1 (gl:=gl)
 have f2:=works_0 te pe hV hm' hl' sum_f2 (by decide) (by decide) (by decide) sum_f3 (fun _ _ hM hev=>call_many te pe hV (fun _ _ h=>h) hM hev) sum_f0
 have f3:=rNum_d (gl:=wG gl) 5
 have hq:=values_y (gl:=wG gl) (vs:=vs) (most:=90) (by omega) (by omega) (by omega) fun v h=>(hv v h).1
 have fc:=column_d (gl:=wG gl) vs (by omega)
 have hsh:∀ x ∈ colS vs,shOk x∧okI x.v.n:=fun x hx=>by
  unfold colS at hx
  obtain ⟨i,hi,rfl⟩:=List.mem_mapIdx.1 hx
  have:=hv _ (List.getElem_mem hi)
  exact ⟨⟨by show okP 1 ((i:Int)+1);unfold okP;omega,this.1⟩,this.2⟩
 have hcl:(colS vs).length≤1048576:=by rw[colS_len];omega
 have oW:okP 1 1:=by unfold okP;omega
 have oN:okP 1 (vs.length:Int):=by unfold okP;omega
 have oC:okP 1 (cut:Int):=by unfold okP;omega
 have oD:okP 1 ((cut:Int)+1):=by unfold okP;omega
 have sW:=fun (t:List UInt8) (ht:clZ t=true)=>sm_call (w:=7) (d:=0) (c:=1) False ht (ks:=[boxN (cR 1 1) (cR 1 vs.length)]) fun x hx=>by
  obtain rfl:=List.mem_singleton.1 hx
  exact sm_box _ trivial oW oN
 have sA:=fun (t:List UInt8) (ht:clZ t=true)=>sm_call (w:=7) (d:=0) (c:=1) False ht (ks:=[boxN (cR 1 1) (cR 1 cut)]) fun x hx=>by
  obtain rfl:=List.mem_singleton.1 hx
  exact sm_box _ trivial oW oC
 have sB:=fun (t:List UInt8) (ht:clZ t=true)=>sm_call (w:=7) (d:=0) (c:=1) False ht (ks:=[boxN (cR 1 vs.length) (cR 1 ((cut:Int)+1))]) fun x hx=>by
  obtain rfl:=List.mem_singleton.1 hx
  exact sm_box _ trivial oN oD
 have sC:=fun (t:List UInt8) (ht:clZ t=true)=>sm_call (w:=7) (d:=0) (c:=1) False ht (ks:=[boxN (cR 1 1) (cR 1 cut),boxN (cR 1 vs.length) (cR 1 ((cut:Int)+1))]) fun x hx=>by
  rcases List.mem_cons.1 hx with rfl|hx
  ·exact sm_box _ trivial oW oC
  ·obtain rfl:=List.mem_singleton.1 hx
   exact sm_box _ trivial oN oD
 have iW:∀ x ∈ [boxN (cR 1 1) (cR 1 vs.length)],∃ k m t a b,x=.mk k m t a b []∧k≠9:=fun x hx=>by
  obtain rfl:=List.mem_singleton.1 hx
  exact box_leaf _ _
 have iA:∀ x ∈ [boxN (cR 1 1) (cR 1 cut)],∃ k m t a b,x=.mk k m t a b []∧k≠9:=fun x hx=>by
  obtain rfl:=List.mem_singleton.1 hx
  exact box_leaf _ _
 have iB:∀ x ∈ [boxN (cR 1 vs.length) (cR 1 ((cut:Int)+1))],∃ k m t a b,x=.mk k m t a b []∧k≠9:=fun x hx=>by
  obtain rfl:=List.mem_singleton.1 hx
  exact box_leaf _ _
 have iC:∀ x ∈ [boxN (cR 1 1) (cR 1 cut),boxN (cR 1 vs.length) (cR 1 ((cut:Int)+1))],∃ k m t a b,x=.mk k m t a b []∧k≠9:=fun x hx=>by
  rcases List.mem_cons.1 hx with rfl|hx
  ·exact box_leaf _ _
  ·obtain rfl:=List.mem_singleton.1 hx
   exact box_leaf _ _
 have hcall:∀ mk mv,MapOk mk mv (evF (colS vs))→(∀ c r,(evF (colS vs) c r).ok)→CallOk gl sumS mk mv (evF (colS vs)):=fun _ _ hM hev=>call_many te pe hV (fun _ _ h=>h) hM hev
 have hev:∀ (i:Nat) (h:i<vs.length),evF (colS vs) 1 ((i:Int)+1)=vs[i]:=fun i h=>col_at h
 have bW:boxA (evF (colS vs)) (cR 1 1) (cR 1 vs.length)=.box vs 1:=by
  rw[box_col hev (p:=0) (q:=vs.length) (by omega) (Nat.le_refl _) ⟨rfl,rfl⟩ (.inl ⟨rfl,rfl⟩),List.drop_zero,Nat.sub_zero,List.take_length]
 have bA:boxA (evF (colS vs)) (cR 1 1) (cR 1 cut)=.box (vs.take cut) 1:=by
  rw[box_col hev (p:=0) (q:=cut) (by omega) (by omega) ⟨rfl,rfl⟩ (.inl ⟨rfl,rfl⟩),List.drop_zero,Nat.sub_zero]
 have bB:boxA (evF (colS vs)) (cR 1 vs.length) (cR 1 ((cut:Int)+1))=.box (vs.drop cut) 1:=by
  rw[box_col hev (p:=cut) (q:=vs.length) (by omega) (Nat.le_refl _) ⟨rfl,rfl⟩ (.inr ⟨rfl,rfl⟩),List.take_of_length_le (by rw[List.length_drop];exact Nat.le_refl _)]
 have eW:∀ t,isMany t→evN (evF (colS vs)) (callN t [boxN (cR 1 1) (cR 1 vs.length)])=manyF t (bxd vs):=fun t ht=>by
  rw[evN_call,many_eq ht (by simp)]
  show manyF t (flA [boxA _ _ _])=_
  rw[bW,fl_box,show flA []=[] from rfl,List.append_nil]
 have eA:∀ t,isMany t→evN (evF (colS vs)) (callN t [boxN (cR 1 1) (cR 1 cut)])=manyF t (bxd (vs.take cut)):=fun t ht=>by
  rw[evN_call,many_eq ht (by simp)]
  show manyF t (flA [boxA _ _ _])=_
  rw[bA,fl_box,show flA []=[] from rfl,List.append_nil]
 have eB:∀ t,isMany t→evN (evF (colS vs)) (callN t [boxN (cR 1 vs.length) (cR 1 ((cut:Int)+1))])=manyF t (bxd (vs.drop cut)):=fun t ht=>by
  rw[evN_call,many_eq ht (by simp)]
  show manyF t (flA [boxA _ _ _])=_
  rw[bB,fl_box,show flA []=[] from rfl,List.append_nil]
 have eC:∀ t,isMany t→evN (evF (colS vs)) (callN t [boxN (cR 1 1) (cR 1 cut),boxN (cR 1 vs.length) (cR 1 ((cut:Int)+1))])=manyF t (bxd vs):=fun t ht=>by
  rw[evN_call,many_eq ht (by simp)]
  show manyF t (flA [boxA _ _ _,boxA _ _ _])=_
  rw[bA,bB,fl_box,fl_box,show flA []=[] from rfl,List.append_nil,← List.map_append,List.take_append_drop]
 have hnm:∀ i:Nat,i<5→∃ t,([[.str nSUM],[.str nCOUNT],[.str nCOUNTA],[.str nMIN],[.str nMAX]]:List (List D))[(i:Int).toNat]?=some [.str t]∧isMany t∧clZ t=true∧t.length≤6∧(i≤2→t=nSUM∨t=nCOUNT∨t=nCOUNTA):=fun i hi=>by
  rcases (by omega:i=0∨i=1∨i=2∨i=3∨i=4) with rfl|rfl|rfl|rfl|rfl
  ·exact ⟨nSUM,rfl,by decide,by decide,by decide,by decide⟩
  ·exact ⟨nCOUNT,rfl,by decide,by decide,by decide,by decide⟩
  ·exact ⟨nCOUNTA,rfl,by decide,by decide,by decide,by decide⟩
  ·exact ⟨nMIN,rfl,by decide,by decide,by decide,by decide⟩
  ·exact ⟨nMAX,rfl,by decide,by decide,by decide,by decide⟩
 have e0:=wx (x:=cut) (by omega)
 have a1:=at_d (gl:=wG gl) 1 1
 have a2:=at_d (gl:=wG gl) 1 (vs.length:Int)
 have a3:=at_d (gl:=wG gl) 1 (cut:Int)
 have a4:=at_d (gl:=wG gl) 1 ((cut:Int)+1)
 have b1:=sbox_d (gl:=wG gl) 1 1 1 (vs.length:Int)
 have b2:=sbox_d (gl:=wG gl) 1 1 1 (cut:Int)
 have b3:=sbox_d (gl:=wG gl) 1 (vs.length:Int) 1 ((cut:Int)+1)
 refine fnP_of_vc (nv:=9) (cu:=[]) fits mixed Tryz.func4 rfl hoB rfl ?_
 have q0:¬ (cut:Int)<1:=by omega
 have q1:¬ (((vs.map vlQ).length:Nat):Int)≤(cut:Int):=by omega
 ((repeat' ((conv=>whnf);first|exact .intro|refine G ?_|intro _|refine C1 f2 ?_|refine C1 f3 ?_|refine C1 hq ?_|refine C1 fc ?_|refine C1 a1 ?_|refine C1 a2 ?_|refine C1 a3 ?_|refine C1 a4 ?_|refine C1 b1 ?_|refine C1 b2 ?_|refine C1 b3 ?_|refine C2 f1 ?_|(first|rw[hlen]|rw[e0]|refine ⟨_,rfl,?_⟩)|refine .mk ?_ ?_|refine H ?_|fail));all_goals conv=>whnf)
 refine ⟨{ σ:=Nat,fr:=fun i=>[(15,.c (.d (iD (i:Int)))),(14,.c (.d (.lst 1 [[.str nSUM],[.str nCOUNT],[.str nCOUNTA],[.str nMIN],[.str nMAX]]))),(13,.c (.d (.lst 12 (Nd.csL [boxN (cR 1 1) (cR 1 cut),boxN (cR 1 vs.length) (cR 1 ((cut:Int)+1))])))),(12,.c (.d (.lst 12 (Nd.csL [boxN (cR 1 vs.length) (cR 1 ((cut:Int)+1))])))),(11,.c (.d (.lst 12 (Nd.csL [boxN (cR 1 1) (cR 1 cut)])))),(10,.c (.d (.lst 12 (Nd.csL [boxN (cR 1 1) (cR 1 vs.length)])))),(9,.c (.d (shw7 (colS vs))))],ks:=[2,3,4,5,6],L:=fun _=>[],ex:=0,f0:=[2,3,4,5,6],I:=fun i=>i≤5,μ:=fun i=>5 - i },⟨0,Nat.zero_le _,?_⟩,fun (i:Nat) hi=>?_⟩
 ·((repeat' first|exact rfl|((conv=>whnf);first|done|exact suL|refine And.intro ?_ ?_|fail));all_goals conv=>whnf)
 replace hi:i≤5:=hi
 by_cases hlt:i<5
 ·obtain ⟨t,g1,hm,hc,h6,h3⟩:=hnm i hlt
  have r3:(i:Int)<(([[.str nSUM],[.str nCOUNT],[.str nCOUNTA],[.str nMIN],[.str nMAX]]:List (List D)).length:Nat):=by show (i:Int)<5;omega
  have kW:=scall_d (gl:=wG gl) t [boxN (cR 1 1) (cR 1 vs.length)]
  have kA:=scall_d (gl:=wG gl) t [boxN (cR 1 1) (cR 1 cut)]
  have kB:=scall_d (gl:=wG gl) t [boxN (cR 1 vs.length) (cR 1 ((cut:Int)+1))]
  have kC:=scall_d (gl:=wG gl) t [boxN (cR 1 1) (cR 1 cut),boxN (cR 1 vs.length) (cR 1 ((cut:Int)+1))]
  have wW:=works_s te pe hV hm' hl' (sW t hc) (by show t.length+2+1 * 8≤199;omega) (by decide) (by simp) (sumS_call hm iW) (fun x hx=>(hsh x hx).1) (fun x hx=>(hsh x hx).2) hcl hcall (eW t hm)
  have wA:=works_s te pe hV hm' hl' (sA t hc) (by show t.length+2+1 * 8≤199;omega) (by decide) (by simp) (sumS_call hm iA) (fun x hx=>(hsh x hx).1) (fun x hx=>(hsh x hx).2) hcl hcall (eA t hm)
  have wB:=works_s te pe hV hm' hl' (sB t hc) (by show t.length+2+1 * 8≤199;omega) (by decide) (by simp) (sumS_call hm iB) (fun x hx=>(hsh x hx).1) (fun x hx=>(hsh x hx).2) hcl hcall (eB t hm)
  have wC:=works_s te pe hV hm' hl' (sC t hc) (by show t.length+2+2 * 8≤199;omega) (by decide) (by simp) (sumS_call hm iC) (fun x hx=>(hsh x hx).1) (fun x hx=>(hsh x hx).2) hcl hcall (eC t hm)
  have evok:∀ c r,(evF (colS vs) c r).ok:=evF_ok fun x hx=>⟨(hsh x hx).1.2,(hsh x hx).2⟩
  have pok:(manyF t (bxd (vs.take cut))).ok:=by
   rw[← eA t hm]
   exact evN_ok evok (sA t hc).frm (Nat.le_trans (sA t hc).cnt (by simp)) (Nat.le_trans (sA t hc).wr (by show t.length+2+1 * 8≤200;omega)) (sA t hc).ok
  have qok:(manyF t (bxd (vs.drop cut))).ok:=by
   rw[← eB t hm]
   exact evN_ok evok (sB t hc).frm (Nat.le_trans (sB t hc).cnt (by simp)) (Nat.le_trans (sB t hc).wr (by show t.length+2+1 * 8≤200;omega)) (sB t hc).ok
  have key:i≤2→(twoV 8 (manyF t (bxd (vs.take cut))) (manyF t (bxd (vs.drop cut)))).k=1→(manyF t (bxd vs)).k=1→twoV 8 (manyF t (bxd (vs.take cut))) (manyF t (bxd (vs.drop cut)))=manyF t (bxd vs):=fun hi2 hs hx=>by
   have happ:bxd vs=bxd (vs.take cut)++bxd (vs.drop cut):=by rw[← List.map_append,List.take_append_drop]
   rcases h3 hi2 with rfl|h
   ·have:=sum_parts (vs.take cut) (vs.drop cut) hs (by rw[List.take_append_drop];exact hx)
    rwa [List.take_append_drop] at this
   ·rw[happ]
    exact cnt_parts h _ _ (by rw[List.length_map,List.length_map,List.length_take,List.length_drop];omega)
  clear evok sW sA sB sC eW eA eB eC hsh hev bW bA bB hv iW iA iB iC hcall
  generalize manyF t (bxd vs)=X at *
  generalize manyF t (bxd (vs.take cut))=P at *
  generalize manyF t (bxd (vs.drop cut))=Q at *
  by_cases h2':(2:Int)<(i:Int)
  ·((repeat' ((conv=>whnf);first|exact .intro|refine G ?_|intro _|refine C1 kW ?_|refine C1 kA ?_|refine C1 kB ?_|refine C1 kC ?_|refine C1 wW ?_|refine C1 wA ?_|refine C1 wB ?_|refine C1 wC ?_|(first|rw[wx (x:=i) (by omega)]|refine ⟨Int.natCast_nonneg _,_,g1,?_⟩|refine ⟨_,rfl,?_⟩)|refine .mk ?_ ?_|refine H ?_|fail));all_goals conv=>whnf)
   all_goals refine ⟨i+1,⟨by show i+1≤5;omega,by show 5 - (i+1)<5 - i;omega⟩,?_⟩
   all_goals ((repeat' first|exact rfl|((conv=>whnf);first|done|exact suL|refine And.intro ?_ ?_|fail));all_goals conv=>whnf)
   all_goals first|exact ceq (wx (x:=i) (by omega))|skip
  ·have key:=key (by omega)
   have rT:=rTwo_v (gl:=wG gl) 8 pok qok
   generalize twoV 8 P Q=S at *
   ((repeat' ((conv=>whnf);first|exact .intro|refine G ?_|intro _|refine C1 kW ?_|refine C1 kA ?_|refine C1 kB ?_|refine C1 kC ?_|refine C1 wW ?_|refine C1 wA ?_|refine C1 wB ?_|refine C1 wC ?_|refine C1 rT ?_|(first|rw[wx (x:=i) (by omega)]|refine ⟨Int.natCast_nonneg _,_,g1,?_⟩|refine ⟨_,rfl,?_⟩)|refine .mk ?_ ?_|refine H ?_|fail));all_goals conv=>whnf)
   all_goals first|(exfalso;simp_all [andPD];done)|refine ⟨i+1,⟨by show i+1≤5;omega,by show 5 - (i+1)<5 - i;omega⟩,?_⟩
   all_goals ((repeat' first|exact rfl|((conv=>whnf);first|done|exact suL|refine And.intro ?_ ?_|fail));all_goals conv=>whnf)
   all_goals first|exact ceq (wx (x:=i) (by omega))|skip
 ·obtain rfl:i=5:=by omega
  ((repeat' ((conv=>whnf);first|exact .intro|refine G ?_|intro _|refine .mk ?_ ?_|refine H ?_|fail));all_goals conv=>whnf)
  all_goals exact LeD.rfl
theorem EvalSums_d {vs:List Vl} (hn:∀ v ∈ vs,okI v.n) (cut:Int):FnP Tryz.prog (wG gl) 4 [.lst 3 (vs.map vlQ),iD cut] (.v (.bool true)):=by
 by_cases h:vs.length≠0∧(vs.length:Int)≤90∧∀ v ∈ vs,isV v.k v.n v.s
 ·by_cases h1:cut<1∨(vs.length:Int)≤cut
  ·exact sums_b te pe hV hm' hl' (values_y h.1 h.2.1 (by omega) h.2.2) (by rw[List.length_map];exact h1)
  ·obtain ⟨c,rfl⟩:∃ c:Nat,cut=(c:Int):=⟨cut.toNat,by omega⟩
   exact sums_y te pe hV hm' hl' (fun v hv=>⟨h.2.2 v hv,hn v hv⟩) (by omega) (by omega) (by omega)
 ·exact sums_a te pe hV hm' hl' (values_n (by decide) (by decide) h)
end
end Go.Proofs.YtfkjhfdpphfjhaaGreatDoor
end
section
namespace Go.Proofs.YtfkjhfdpphfjhaaGreatDoor
open Go Go.ChangeShapes Go.WideShapes Go.ChangeAt Go.RowKit Go.EYtfkjhfdpphfjhaaGreatDoor
set_option linter.unusedVariables false
set_option maxRecDepth 100000
theorem var_wrong {w:World} (h1:Lib.VarReads Tryz.prog w "sccsettle/eval.wrong" Rows.laid_sccsettle_eval_wrong):Holds1 w 1 [iD 4,iD 2,.str []]:=by
 obtain ⟨g,t,cs,fuel,p,hg,ht,hv,hd⟩:=h1
 have e:(some g:Option Nat)=some 1:=hg.symm.trans (show Tryz.prog.globalNamed "sccsettle/eval.wrong" = some 1 by kernel_rfl)
 cases e
 have e:(some t:Option Nat)=some 31:=ht.symm.trans (by kernel_rfl)
 cases e
 obtain ⟨xs,n,_,hx,hcl,hlen,hi⟩:=DataW.trod_struct Tryz.underlying31 hd
 rw[show Tryz.prog.cellsOf 31=3 by kernel_rfl] at hcl
 have b1:=var_cells hg hv
 obtain ⟨csl⟩:=cs
 have c3:Tryz.prog.cellsOf 3=1:=by kernel_rfl
 have c9:Tryz.prog.cellsOf 9=1:=by kernel_rfl
 match csl,hcl with
 | [a,b,c],_ =>
  match xs,hlen with
  | [y0,y1,y2],_ =>
   have h0:=hi 0 _ rfl
   have h1:=hi 1 _ rfl
   have h2:=hi 2 _ rfl
   change DataW.trod _ Tryz.prog w _ _ _ n 3 (List.take (Tryz.prog.cellsOf 3) [a,b,c])=some y0 at h0
   change DataW.trod _ Tryz.prog w _ _ _ n 3 (List.take (Tryz.prog.cellsOf 3) [b,c])=some y1 at h1
   change DataW.trod _ Tryz.prog w _ _ _ n 9 (List.take (Tryz.prog.cellsOf 9) [c])=some y2 at h2
   rw[c3] at h0 h1
   rw[c9] at h2
   obtain ⟨k,e0,f0,_⟩:=DataW.trod_int Tryz.underlying3 h0
   obtain ⟨m,e1,f1,_⟩:=DataW.trod_int Tryz.underlying3 h1
   obtain ⟨s,e2,f2,_⟩:=DataW.trod_string Tryz.underlying9 h2
   cases e0;cases e1;cases e2
   subst f0;subst f1;subst f2
   have hq:=(Prod.mk.inj hx).1
   simp only[Rows.laid_sccsettle_eval_wrong,List.map,DataW.agg.injEq,List.cons.injEq,DataW.lit.injEq,Lit.int.injEq,Lit.string.injEq,true_and,and_true] at hq
   obtain ⟨rfl,rfl,hs⟩:=hq
   have es:s=⟨([]:List UInt8).toArray⟩:=by
    obtain ⟨⟨l⟩⟩:=s
    have:l=[]:=hs.symm
    subst this
    rfl
   subst es
   exact ⟨_,b1,.v _,.v _,.str _,trivial⟩
abbrev glX (te:TypeId) (pe:Value) (mx:Int):List (Nat×List D):=(0,lvAll)::(4,[iD mx])::glV te pe
abbrev glY (te:TypeId) (pe:Value) (mx:Int):List (Nat×List D):=wG (glX te pe mx)
theorem glY_has (te:TypeId) (pe:Value) (mx:Int):Has (glY te pe mx) (glV te pe):=by
 intro g l hl
 rw[look_cons]
 split
 ·rename_i e;subst e;exact absurd hl (by rw[show Go.EYtfkjhfdpphfjhaaGreatDoor.look (glV te pe) 1=none from rfl];simp)
 ·rw[look_cons]
  split
  ·rename_i e;subst e;exact absurd hl (by rw[show Go.EYtfkjhfdpphfjhaaGreatDoor.look (glV te pe) 0=none from rfl];simp)
  ·rw[look_cons]
   split
   ·rename_i e;subst e;exact absurd hl (by rw[show Go.EYtfkjhfdpphfjhaaGreatDoor.look (glV te pe) 4=none from rfl];simp)
   ·exact hl
end Go.Proofs.YtfkjhfdpphfjhaaGreatDoor
end
section
namespace Go.Proofs.YtfkjhfdpphfjhaaGreatDoor
open Go Go.EYtfkjhfdpphfjhaaGreatDoor
set_option maxRecDepth 100000
theorem EvalSums_g (te:TypeId) (pe:Value) (mx:Int) (vs:List Vl) (hv:∀ v ∈ vs,inV v) (cut:Int):FnP Tryz.prog (glY te pe mx) 4 [.lst 3 (vs.map vlR),iD cut] (.v (.bool true)) :=
 EvalSums_d te pe (glY_has te pe mx) rfl rfl (fun v h=>(hv v h).1) cut
end Go.Proofs.YtfkjhfdpphfjhaaGreatDoor
end
