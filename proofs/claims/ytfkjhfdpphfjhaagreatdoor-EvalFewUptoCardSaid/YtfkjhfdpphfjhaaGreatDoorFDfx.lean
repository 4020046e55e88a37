/- Proved: a part of what the law is proved with (the reckoner, contracts of functions, plain laws). Conditions: as each says. -/
import Derived.ChangeArms
import Derived.Test.YtfkjhfdpphfjhaaGreatDoorFDm
import Derived.Test.YtfkjhfdpphfjhaaGreatDoorFDv
import Derived.Test.YtfkjhfdpphfjhaaGreatDoorFLaysB
import Derived.Test.YtfkjhfdpphfjhaaGreatDoorFMk
import Derived.Test.YtfkjhfdpphfjhaaGreatDoorFRo
section
namespace Go.Proofs.YtfkjhfdpphfjhaaGreatDoor
open Go Go.RowKit Go.EYtfkjhfdpphfjhaaGreatDoor
set_option maxRecDepth 100000
set_option maxHeartbeats 40000000
variable {gl:List (Nat×List D)}
def nA1:Nd:=.mk 8 8 [] z0 z0 [refN (cR 1 1),numN 1]
theorem nA1_ok:okN nA1:=⟨by decide,by decide,⟨by decide,by decide,trivial⟩,⟨by decide,by decide,trivial⟩,trivial⟩
theorem nA1_frm:frmN nA1 False:=by
 unfold nA1
 rw[frm_8]
 refine ⟨rfl,rfl,⟨noR_z0,noR_z0⟩,by decide,by decide,?_,?_,trivial⟩
 ·exact (sm_ref False (by decide)).frm
 ·exact (sm_num False (m:=1) (by decide) (by decide) (w:=20) (itoa_len (by decide))).frm
theorem parse_A1:∃ i,parseZ rfZ [61,65,49,43,49]=.ok nA1 i:=by
 have hw:61::wrN nA1=[61,65,49,43,49]:=by decide +kernel
 have h:=(parse_wr pbZ nA1_frm nA1_ok).1 (by decide)
 rw[hw] at h
 refine ⟨0,?_⟩
 unfold parseZ
 rw[if_neg (by decide),List.head?_cons,if_pos rfl]
 exact h
theorem prZ_A1:prZ rfZ nA1=([61,65,49,43,49],0):=by
 have hw:61::wrN nA1=[61,65,49,43,49]:=by decide +kernel
 have h:=prZ_s (rf:=rfZ) nA1_frm (by decide) (by rw[hw];exact parse_A1)
 rw[hw] at h
 exact h
def fewL (m:List (Int×Int)) (v:Vl) (l:List Shw):List Shw:=l.map fun x=>if (x.c,x.r) ∈ m then x else ⟨x.c,x.r,v,x.st,x.rd⟩
theorem few_ev (m:List (Int×Int)) (v:Vl) {c r:Int} (h:(c,r) ∈ m):∀ (l:List Shw) (f g:Int→Int→Vl),f c r=g c r→(l.foldl evS f) c r=((fewL m v l).foldl evS g) c r
 | [],f,g,e=>e
 | x::l,f,g,e=>by
  refine few_ev m v h l (evS f x) (evS g _) ?_
  unfold evS
  by_cases hx:(x.c,x.r) ∈ m
  ·simp only[if_pos hx,e]
  ·simp only[if_neg hx]
   have hne:¬ (c=x.c∧r=x.r):=fun hh=>hx (by rw[← hh.1,← hh.2];exact h)
   rw[if_neg hne,if_neg hne,e]
theorem fewL_len (m:List (Int×Int)) (v:Vl) (l:List Shw):(fewL m v l).length=l.length:=by unfold fewL;rw[List.length_map]
theorem fewL_take {m:List (Int×Int)} {v:Vl} {l:List Shw} {k:Nat} (h:k<l.length):fewL m v (l.take (k+1))=fewL m v (l.take k)++[if (l[k].c,l[k].r) ∈ m then l[k] else ⟨l[k].c,l[k].r,v,l[k].st,l[k].rd⟩]:=by
 unfold fewL
 rw[List.take_succ_eq_append_getElem h,List.map_append]
 rfl
theorem evA_nA1:evN (evF [⟨1,1,nuV 2,0,0⟩]) nA1=⟨1,3,[]⟩:=by
 unfold nA1
 rw[evN_mk]
 rfl
def FewF (gl:List (Nat×List D)) (n:Nd) (l:List Shw) (o:Vl):Prop :=
 (∃ (zk zn:Int) (zs:List UInt8) (e:Int) (b:Bool),(e≠0∨b=false)∧FnP Tryz.prog (wG gl) 10 [.agg n.cs,shw7 l] (.tup [vlD zk zn zs,errD e])∧FnP Tryz.prog (wG gl) 12 [vlD o.k o.n o.s] (.v (.bool b)))∨
 (∃ (m:List (Int×Int)) (vk vn:Int) (vS:List UInt8),m.length≤2700∧FnP Tryz.prog (wG gl) 10 [.agg n.cs,shw7 l] (.tup [vlD vk vn vS,.v .nilIface])∧FnP Tryz.prog (wG gl) 12 [vlD o.k o.n o.s] (.v (.bool true))∧FnP Tryz.prog (wG gl) 12 [vlD vk vn vS] (.v (.bool true))∧
  FnP Tryz.prog (wG gl) 13 [.agg n.cs] (.lst 2 (m.map rowC))∧FnP Tryz.prog (wG gl) 10 [.agg n.cs,shw7 (fewL m o l)] (.tup [vlD vk vn vS,.v .nilIface]))
section
variable (te:TypeId) (pe:Value) (hV:Has (wG gl) (glV te pe)) {mx:Int} (hm':Go.EYtfkjhfdpphfjhaaGreatDoor.look (wG gl) 4=some [iD mx]) (hl':Go.EYtfkjhfdpphfjhaaGreatDoor.look (wG gl) 0=some lvAll)
include hV hm' hl'
omit hm' in
theorem few_parse:∃ i,FnP Tryz.prog (wG gl) 9 [.str [61,65,49,43,49]] (.tup [.agg [iD 8,iD 8,.str [],iD 0,iD 0,tD false,tD false,iD 0,iD 0,tD false,tD false,.lst 12 (Nd.csL [refN (cR 1 1),numN 1])],iD i,.v .nilIface]):=by
 obtain ⟨i,hp⟩:=parse_A1
 have c:=Parse_d te pe hV hl' rfZ_ok [61,65,49,43,49]
 rw[hp] at c
 exact ⟨_,c⟩
theorem few_fact:FnP Tryz.prog (wG gl) 10 [.agg nA1.cs,shw7 [⟨1,1,nuV 2,0,0⟩]] (.tup [vlD 1 3 [],.v .nilIface]):=by
 have hx:∀ x ∈ ([⟨1,1,nuV 2,0,0⟩]:List Shw),shOk x:=fun x hx=>by
  obtain rfl:=List.mem_singleton.1 hx
  exact ⟨by show okP 1 1;decide,(ok_num (n:=2) (by decide)).1⟩
 have c:=Eval_d te pe hV hm' hl' (fun s p i h=>cased_d s p i h) nA1 nA1_ok [⟨1,1,nuV 2,0,0⟩] (fun x hx=>by obtain rfl:=List.mem_singleton.1 hx;decide) (by decide)
 have e:evalZ nA1 [⟨1,1,nuV 2,0,0⟩]=(⟨1,3,[]⟩,0):=by
  unfold evalZ
  rw[prZ_A1,if_neg (by simp),if_pos hx,evA_nA1]
 rw[e] at c
 exact c
theorem few_f (n:Nd) (ho:okN n) (l:List Shw) (hn:∀ x ∈ l,okI x.v.n) (hll:l.length≤1048576) (o:Vl) (hoo:okI o.n):FewF gl n l o:=by
 have hEv:∀ m:List Shw,(∀ x ∈ m,okI x.v.n)→m.length≤1048576→FnP Tryz.prog (wG gl) 10 [.agg n.cs,shw7 m] (.tup [(evalZ n m).1.d,errD (evalZ n m).2]):=fun m h1 h2=>Eval_d te pe hV hm' hl' (fun s p i h=>cased_d s p i h) n ho m h1 (by omega)
 by_cases hB:(evalZ n l).2≠0∨¬ isV o.k o.n o.s
 ·by_cases hi:isV o.k o.n o.s
  ·exact .inl ⟨_,_,_,_,true,.inl (hB.resolve_right fun h=>h hi),hEv l hn hll,isR_y hi⟩
  ·exact .inl ⟨_,_,_,_,false,.inr rfl,hEv l hn hll,isR_n hi⟩
 have hE:(evalZ n l).2=0:=Classical.byContradiction fun h=>hB (.inl h)
 have hoV:isV o.k o.n o.s:=Classical.byContradiction fun h=>hB (.inr h)
 have hoK:o.ok:=⟨hoV,hoo⟩
 have hpx:(prZ rfZ n).2=0∧∀ x ∈ l,shOk x:=by
  unfold evalZ at hE
  by_cases hp:(prZ rfZ n).2=0
  ·refine ⟨hp,?_⟩
   rw[if_neg (fun h=>h hp)] at hE
   by_cases hx:∀ x ∈ l,shOk x
   ·exact hx
   ·rw[if_neg hx] at hE;cases hE
  ·rw[if_pos hp] at hE;exact absurd hE hp
 obtain ⟨hp,hx⟩:=hpx
 clear hB hE
 obtain ⟨_,hc,hf⟩:=prZ_y hp
 have hev:∀ m:List Shw,(∀ x ∈ m,shOk x)→evalZ n m=(evN (evF m) n,0):=fun m hm=>by unfold evalZ;rw[if_neg (fun h=>h hp),if_pos hm]
 obtain ⟨m,hm⟩:∃ m,m=ofU (markL (cellsN n) (List.replicate 2700 false)) 2700:=⟨_,rfl⟩
 have c9:=rOf_u (gl:=wG gl) n hf hc
 have hmm:∀ p,p ∈ m↔p ∈ cellsN n:=fun p=>by rw[hm];exact ofU_mem (cellsN_few n hf).2
 have hml:m.length≤2700:=by rw[hm];exact ofU_len _ _
 rw[← hm] at c9
 have hfx:∀ x ∈ fewL m o l,shOk x∧okI x.v.n:=fun x hx'=>by
  unfold fewL at hx'
  obtain ⟨y,hy,rfl⟩:=List.mem_map.1 hx'
  by_cases hh:(y.c,y.r) ∈ m
  ·rw[if_pos hh];exact ⟨hx y hy,hn y hy⟩
  ·rw[if_neg hh];exact ⟨⟨(hx y hy).1,hoV⟩,hoo⟩
 have c6:=hEv l hn hll
 have c11:=hEv (fewL m o l) (fun x h=>(hfx x h).2) (by rw[fewL_len];exact hll)
 have hvk:(evN (evF l) n).ok:=evN_ok (evF_ok fun x h=>⟨(hx x h).2,hn x h⟩) hf hc (Nat.le_trans (prZ_len hp) (by decide)) ho
 have hsa:evA (evF (fewL m o l)) n=evA (evF l) n:=evA_ext n fun p hp=>(few_ev m o ((hmm p).2 hp) l _ _ rfl).symm
 have hsame:evN (evF (fewL m o l)) n=evN (evF l) n:=by
  unfold evN
  rw[hsa]
 rw[hev _ hx] at c6
 rw[hev _ (fun x h=>(hfx x h).1),hsame] at c11
 clear hEv hev hsame hsa hfx hx hp ho hn hm hmm hf hc
 generalize evN (evF l) n=v at *
 obtain ⟨vk,vn,vS⟩:=v
 replace c6:FnP Tryz.prog (wG gl) 10 _ (.tup [vlD vk vn vS,.v .nilIface]):=c6
 replace c11:FnP Tryz.prog (wG gl) 10 _ (.tup [vlD vk vn vS,.v .nilIface]):=c11
 have c8:FnP Tryz.prog (wG gl) 12 [vlD vk vn vS] (.v (.bool true)):=isR_y hvk.1
 have c7:FnP Tryz.prog (wG gl) 12 [vlD o.k o.n o.s] (.v (.bool true)):=isR_y hoV
 exact .inr ⟨m,vk,vn,vS,hml,c6,c7,c8,c9,c11⟩
theorem few_d (n:Nd) (ho:okN n) (l:List Shw) (hn:∀ x ∈ l,okI x.v.n) (hll:l.length≤1048576) (o:Vl) (hoo:okI o.n):FnP Tryz.prog (wG gl) 3 [.agg n.cs,shw7 l,o.d] (.v (.bool true)):=by
 obtain ⟨i,c1⟩:=few_parse te pe hV hl'
 have c2:=few_fact te pe hV hm' hl'
 have c4:=rNum_d (gl:=wG gl) 2
 have c5:=rNum_d (gl:=wG gl) 3
 have hF:=few_f te pe hV hm' hl' n ho l hn hll o hoo
 clear ho hn
 have hlen:(l.map shwD).length=l.length:=List.length_map _
 unfold FewF at hF
 obtain ⟨nk,nm,nt,na,nb,nks⟩:=n
 refine fnP_of_vc (nv:=9999) (cu:=[5]) fits mixed Tryz.func3 rfl hoB rfl ?_
 ((repeat' ((conv=>whnf);first|exact .intro|refine .ya ?_|refine .na ?_|refine .ys ?_|refine .ns ?_|refine .neg (fun _=>?_) (fun _=>?_)|refine .mk (fun _=>?_) (fun _=>?_)|refine .inl (.inl (X1 (by first|exact c1|exact c2|exact c4|exact c5) ?_))|refine .inl (X1 (by first|exact c1|exact c2|exact c4|exact c5) ?_)|refine X1 (by first|exact c1|exact c2|exact c4|exact c5) ?_|refine .mk ?_ ?_|refine AK ?_|refine AT ?_|fail));all_goals conv=>whnf)
 refine ⟨{ σ:=Nat,fr:=fun k=>[(10,.c (.ptr k 0)),(9,.c (.d (.v .nilIface)))],ks:=[],L:=fun k=>[(k,vB ⟨1,3,[]⟩)],ex:=2,I:=fun k=>k=3∨k=4,μ:=fun _=>0 },?_,fun (k:Nat) hk=>?_⟩
 ·clear hF
  ((repeat' ((conv=>whnf);first|exact .intro|refine .ya ?_|refine .na ?_|refine .ys ?_|refine .ns ?_|refine .neg (fun _=>?_) (fun _=>?_)|refine .mk (fun _=>?_) (fun _=>?_)|refine .inl (.inl (X1 (by first|exact c1|exact c2|exact c4|exact c5) ?_))|refine .inl (X1 (by first|exact c1|exact c2|exact c4|exact c5) ?_)|refine X1 (by first|exact c1|exact c2|exact c4|exact c5) ?_|refine .mk ?_ ?_|refine AK ?_|refine AT ?_|fail));all_goals conv=>whnf)
  all_goals first|(refine ⟨3,.inl rfl,?_⟩;focus (((repeat' first|exact rfl|((conv=>whnf);first|done|exact suL|refine And.intro ?_ ?_|fail));all_goals conv=>whnf);done))|(refine ⟨4,.inr rfl,?_⟩;focus (((repeat' first|exact rfl|((conv=>whnf);first|done|exact suL|refine And.intro ?_ ?_|fail));all_goals conv=>whnf);done))|skip
 clear c1 c2 c4
 rcases hF with ⟨zk,zn,zs,e,b,hB,c6,c7⟩|⟨m,vk,vn,vS,hml,c6,c7,c8,c9,c11⟩
 ·by_cases hE:e=0
  ·subst hE
   obtain rfl:b=false:=hB.resolve_left fun h=>h rfl
   replace c6:FnP Tryz.prog (wG gl) 10 _ (.tup [vlD zk zn zs,.v .nilIface]):=c6
   rcases hk with rfl|rfl
   ·((repeat' ((conv=>whnf);first|exact .intro|refine .ya ?_|refine .na ?_|refine .ys ?_|refine .ns ?_|refine .neg (fun _=>?_) (fun _=>?_)|refine .mk (fun _=>?_) (fun _=>?_)|refine .inl (.inl (X1 (by first|exact c5|exact c6|exact c7) ?_))|refine .inl (X1 (by first|exact c5|exact c6|exact c7) ?_)|refine X1 (by first|exact c5|exact c6|exact c7) ?_|refine .mk ?_ ?_|refine AK ?_|refine AT ?_|fail));all_goals conv=>whnf)
    all_goals first|exact LeD.rfl|(exfalso;simp_all;done)|skip
   ·((repeat' ((conv=>whnf);first|exact .intro|refine .ya ?_|refine .na ?_|refine .ys ?_|refine .ns ?_|refine .neg (fun _=>?_) (fun _=>?_)|refine .mk (fun _=>?_) (fun _=>?_)|refine .inl (.inl (X1 (by first|exact c5|exact c6|exact c7) ?_))|refine .inl (X1 (by first|exact c5|exact c6|exact c7) ?_)|refine X1 (by first|exact c5|exact c6|exact c7) ?_|refine .mk ?_ ?_|refine AK ?_|refine AT ?_|fail));all_goals conv=>whnf)
    all_goals first|exact LeD.rfl|(exfalso;simp_all;done)|skip
  ·unfold errD at c6
   rw[if_neg hE] at c6
   rcases hk with rfl|rfl
   ·((repeat' ((conv=>whnf);first|exact .intro|refine .ya ?_|refine .na ?_|refine .ys ?_|refine .ns ?_|refine .neg (fun _=>?_) (fun _=>?_)|refine .mk (fun _=>?_) (fun _=>?_)|refine .inl (.inl (X1 (by first|exact c5|exact c6|exact c7) ?_))|refine .inl (X1 (by first|exact c5|exact c6|exact c7) ?_)|refine X1 (by first|exact c5|exact c6|exact c7) ?_|refine .mk ?_ ?_|refine AK ?_|refine AT ?_|fail));all_goals conv=>whnf)
    all_goals first|exact LeD.rfl|(exfalso;simp_all;done)|skip
   ·((repeat' ((conv=>whnf);first|exact .intro|refine .ya ?_|refine .na ?_|refine .ys ?_|refine .ns ?_|refine .neg (fun _=>?_) (fun _=>?_)|refine .mk (fun _=>?_) (fun _=>?_)|refine .inl (.inl (X1 (by first|exact c5|exact c6|exact c7) ?_))|refine .inl (X1 (by first|exact c5|exact c6|exact c7) ?_)|refine X1 (by first|exact c5|exact c6|exact c7) ?_|refine .mk ?_ ?_|refine AK ?_|refine AT ?_|fail));all_goals conv=>whnf)
    all_goals first|exact LeD.rfl|(exfalso;simp_all;done)|skip
 rcases hk with rfl|rfl
 all_goals
  ((repeat' ((conv=>whnf);first|exact .intro|refine .ya ?_|refine .na ?_|refine .ys ?_|refine .ns ?_|refine .neg (fun _=>?_) (fun _=>?_)|refine .mk (fun _=>?_) (fun _=>?_)|refine .inl (.inl (X1 (by first|exact c5|exact c6|exact c7|exact c8|exact c9) ?_))|refine .inl (X1 (by first|exact c5|exact c6|exact c7|exact c8|exact c9) ?_)|refine X1 (by first|exact c5|exact c6|exact c7|exact c8|exact c9) ?_|refine .mk ?_ ?_|refine AK ?_|refine AT ?_|fail));all_goals conv=>whnf)
  refine ⟨{ σ:=Nat,fr:=fun i=>[(17,.c (.d (iD (i:Int)))),(16,.c (.all 7 6))],ks:=[],L:=fun i=>[(6,.rows 7 ((fewL m o (l.take i)).map shwD) 40)],ex:=1,I:=fun i=>i≤l.length,μ:=fun i=>l.length - i },⟨0,Nat.zero_le _,?_⟩,fun (i:Nat) hi=>?_⟩
  ·((repeat' first|exact rfl|((conv=>whnf);first|done|exact suL|refine And.intro ?_ ?_|fail));all_goals conv=>whnf)
   all_goals first|exact .inr (.inr (.inl ⟨rfl,7,6,rfl,by decide⟩))|exact ⟨7,_,rfl,by decide,by decide⟩|skip
  replace hi:i≤l.length:=hi
  by_cases hlt:i<l.length
  ·clear c5 c6 c7 c8 c9 c11
   have h3:(i:Int)<(((l.map shwD).length:Nat):Int):=by omega
   have g1:=get_map (f:=shwD) hlt
   have e0:=wx (x:=i) (by omega)
   have hst:=fewL_take (m:=m) (v:=o) hlt
   have hrl:((fewL m o (l.take i)).map shwD).length=i:=by rw[List.length_map,fewL_len,List.length_take];omega
   have b1:(((fewL m o (l.take i)).map shwD).length+1) * 64≤140737488355328:=by omega
   have b2:((fewL m o (l.take i)).map shwD).length+1≤maxLen:=by unfold maxLen;omega
   generalize l[i]=x at *
   have c10:=Has_r (gl:=wG gl) m x.c x.r (by omega)
   by_cases hh:(x.c,x.r) ∈ m
   ·rw[if_pos hh] at hst
    ((repeat' ((conv=>whnf);first|exact .intro|refine .ya ?_|refine .na ?_|refine .ys ?_|refine .ns ?_|refine .neg (fun _=>?_) (fun _=>?_)|refine .mk (fun _=>?_) (fun _=>?_)|refine .inl (.inl (X1 (c10) ?_))|refine .inl (X1 (c10) ?_)|refine X1 (c10) ?_|(first|refine ⟨Int.natCast_nonneg _,_,g1,?_⟩|refine ⟨⟨rfl,b1,b2⟩,?_⟩)|refine .mk ?_ ?_|refine AK ?_|refine AT ?_|fail));all_goals conv=>whnf)
    all_goals refine ⟨i+1,⟨hlt,by show l.length - (i+1)<l.length - i;omega⟩,?_⟩
    all_goals ((repeat' first|exact rfl|((conv=>whnf);first|done|exact suL|refine And.intro ?_ ?_|fail));all_goals conv=>whnf)
    all_goals first|exact ceq e0|(rw[hst,List.map_append];rfl)|skip
   ·rw[if_neg hh] at hst
    ((repeat' ((conv=>whnf);first|exact .intro|refine .ya ?_|refine .na ?_|refine .ys ?_|refine .ns ?_|refine .neg (fun _=>?_) (fun _=>?_)|refine .mk (fun _=>?_) (fun _=>?_)|refine .inl (.inl (X1 (c10) ?_))|refine .inl (X1 (c10) ?_)|refine X1 (c10) ?_|(first|refine ⟨Int.natCast_nonneg _,_,g1,?_⟩|refine ⟨⟨rfl,b1,b2⟩,?_⟩)|refine .mk ?_ ?_|refine AK ?_|refine AT ?_|fail));all_goals conv=>whnf)
    all_goals refine ⟨i+1,⟨hlt,by show l.length - (i+1)<l.length - i;omega⟩,?_⟩
    all_goals ((repeat' first|exact rfl|((conv=>whnf);first|done|exact suL|refine And.intro ?_ ?_|fail));all_goals conv=>whnf)
    all_goals first|exact ceq e0|(rw[hst,List.map_append];rfl)|skip
  ·have h3:¬ (i:Int)<(((l.map shwD).length:Nat):Int):=by omega
   obtain rfl:i=l.length:=by omega
   have c12:FnP Tryz.prog (wG gl) 10 [.agg (Nd.cs (.mk nk nm nt na nb nks)),.lst 7 ((fewL m o (l.take l.length)).map shwD)] (.tup [vlD vk vn vS,.v .nilIface]):=by rw[List.take_length];exact c11
   ((repeat' ((conv=>whnf);first|exact .intro|refine .ya ?_|refine .na ?_|refine .ys ?_|refine .ns ?_|refine .neg (fun _=>?_) (fun _=>?_)|refine .mk (fun _=>?_) (fun _=>?_)|refine .inl (.inl (X1 (c12) ?_))|refine .inl (X1 (c12) ?_)|refine X1 (c12) ?_|refine .mk ?_ ?_|refine AK ?_|refine AT ?_|fail));all_goals conv=>whnf)
   all_goals first|exact LeD.rfl|exact LeD.vt (by simp[andPD])|(exfalso;simp_all [andPD];done)|skip
end
end Go.Proofs.YtfkjhfdpphfjhaaGreatDoor
end
section
namespace Go.Proofs.YtfkjhfdpphfjhaaGreatDoor
open Go Go.ChangeShapes Go.WideShapes Go.ChangeAt Go.RowKit Go.EYtfkjhfdpphfjhaaGreatDoor
set_option linter.unusedVariables false
set_option maxRecDepth 100000
theorem var_wrong {w:World} (h1:Lib.VarReads Tryz.prog w "sccsettle/eval.wrong" Rows.laid_sccsettle_eval_wrong):Holds1 w 1 [iD 4,iD 2,.str []]:=by
 obtain ⟨g,t,cs,fuel,p,hg,ht,hv,hd⟩:=h1
 have e:(some g:Option Nat)=some 1:=hg.symm.trans (show Tryz.prog.globalNamed "sccsettle/eval.wrong" = some 1 by kernel_rfl)
 cases e
 have e:(some t:Option Nat)=some 31:=ht.symm.trans (by kernel_rfl)
 cases e
 obtain ⟨xs,n,_,hx,hcl,hlen,hi⟩:=DataW.trod_struct Tryz.underlying31 hd
 rw[show Tryz.prog.cellsOf 31=3 by kernel_rfl] at hcl
 have b1:=var_cells hg hv
 obtain ⟨csl⟩:=cs
 have c3:Tryz.prog.cellsOf 3=1:=by kernel_rfl
 have c9:Tryz.prog.cellsOf 9=1:=by kernel_rfl
 match csl,hcl with
 | [a,b,c],_ =>
  match xs,hlen with
  | [y0,y1,y2],_ =>
   have h0:=hi 0 _ rfl
   have h1:=hi 1 _ rfl
   have h2:=hi 2 _ rfl
   change DataW.trod _ Tryz.prog w _ _ _ n 3 (List.take (Tryz.prog.cellsOf 3) [a,b,c])=some y0 at h0
   change DataW.trod _ Tryz.prog w _ _ _ n 3 (List.take (Tryz.prog.cellsOf 3) [b,c])=some y1 at h1
   change DataW.trod _ Tryz.prog w _ _ _ n 9 (List.take (Tryz.prog.cellsOf 9) [c])=some y2 at h2
   rw[c3] at h0 h1
   rw[c9] at h2
   obtain ⟨k,e0,f0,_⟩:=DataW.trod_int Tryz.underlying3 h0
   obtain ⟨m,e1,f1,_⟩:=DataW.trod_int Tryz.underlying3 h1
   obtain ⟨s,e2,f2,_⟩:=DataW.trod_string Tryz.underlying9 h2
   cases e0;cases e1;cases e2
   subst f0;subst f1;subst f2
   have hq:=(Prod.mk.inj hx).1
   simp only[Rows.laid_sccsettle_eval_wrong,List.map,DataW.agg.injEq,List.cons.injEq,DataW.lit.injEq,Lit.int.injEq,Lit.string.injEq,true_and,and_true] at hq
   obtain ⟨rfl,rfl,hs⟩:=hq
   have es:s=⟨([]:List UInt8).toArray⟩:=by
    obtain ⟨⟨l⟩⟩:=s
    have:l=[]:=hs.symm
    subst this
    rfl
   subst es
   exact ⟨_,b1,.v _,.v _,.str _,trivial⟩
abbrev glX (te:TypeId) (pe:Value) (mx:Int):List (Nat×List D):=(0,lvAll)::(4,[iD mx])::glV te pe
abbrev glY (te:TypeId) (pe:Value) (mx:Int):List (Nat×List D):=wG (glX te pe mx)
theorem glY_has (te:TypeId) (pe:Value) (mx:Int):Has (glY te pe mx) (glV te pe):=by
 intro g l hl
 rw[look_cons]
 split
 ·rename_i e;subst e;exact absurd hl (by rw[show Go.EYtfkjhfdpphfjhaaGreatDoor.look (glV te pe) 1=none from rfl];simp)
 ·rw[look_cons]
  split
  ·rename_i e;subst e;exact absurd hl (by rw[show Go.EYtfkjhfdpphfjhaaGreatDoor.look (glV te pe) 0=none from rfl];simp)
  ·rw[look_cons]
   split
   ·rename_i e;subst e;exact absurd hl (by rw[show Go.EYtfkjhfdpphfjhaaGreatDoor.look (glV te pe) 4=none from rfl];simp)
   ·exact hl
end Go.Proofs.YtfkjhfdpphfjhaaGreatDoor
end
section
namespace Go.Proofs.YtfkjhfdpphfjhaaGreatDoor
open Go Go.EYtfkjhfdpphfjhaaGreatDoor
set_option maxRecDepth 100000
theorem EvalFew_g (te:TypeId) (pe:Value) (mx:Int) (n:Nd) (on:okN n) (l:List Shw) (ll:l.length≤1048576) (hl:∀ x ∈ l,inV x.v) (k m:Int) (s:List UInt8) (hm:okI m):FnP Tryz.prog (glY te pe mx) 3 [.agg n.cs,.lst 7 (l.map shwD),vlD k m s] (.v (.bool true)) :=
 few_d te pe (glY_has te pe mx) rfl rfl n on l (fun x h=>(hl x h).1) ll ⟨k,m,s⟩ hm
end Go.Proofs.YtfkjhfdpphfjhaaGreatDoor
end
