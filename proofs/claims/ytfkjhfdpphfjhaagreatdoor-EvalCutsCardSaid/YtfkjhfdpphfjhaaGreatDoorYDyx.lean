/- Proved: a part of what the law is proved with (the reckoner, contracts of functions, plain laws). Conditions: as each says. -/
import Derived.ChangeArms
import Derived.Test.YtfkjhfdpphfjhaaGreatDoorYDj
import Derived.Test.YtfkjhfdpphfjhaaGreatDoorYDm
import Derived.Test.YtfkjhfdpphfjhaaGreatDoorYDu
import Derived.Test.YtfkjhfdpphfjhaaGreatDoorYMk
section
namespace Go.Proofs.YtfkjhfdpphfjhaaGreatDoor
open Go Go.RowKit Go.EYtfkjhfdpphfjhaaGreatDoor
set_option maxRecDepth 100000
set_option maxHeartbeats 4000000
variable {gl:List (Nat×List D)}
theorem itoa_1 {n:Int} (h:0≤n) (h':n<10):(Lib.itoa n).length≤1:=by
 unfold Lib.itoa
 rw[if_neg (by omega)]
 exact dec_len 0 n.toNat (by omega)
section
variable (te:TypeId) (pe:Value) (hV:Has (wG gl) (glV te pe)) {mx:Int} (hm':Go.EYtfkjhfdpphfjhaaGreatDoor.look (wG gl) 4=some [iD mx]) (hl':Go.EYtfkjhfdpphfjhaaGreatDoor.look (wG gl) 0=some lvAll)
include hV hm' hl'
end
end Go.Proofs.YtfkjhfdpphfjhaaGreatDoor
end
section
namespace Go.Proofs.YtfkjhfdpphfjhaaGreatDoor
open Go Go.RowKit Go.EYtfkjhfdpphfjhaaGreatDoor
set_option maxRecDepth 100000
set_option maxHeartbeats 4000000
variable {gl:List (Nat×List D)}
theorem le_refl2:∀ l:List D,All2 LeD l l
 | []=>trivial
 | _::r=>⟨LeD.rfl,le_refl2 r⟩
abbrev refR (c r:Int):List D:=rawR 5 0 [] c r
theorem ref_le (c r:Int):All2 LeD (refR c r) (refN (cR c r)).cs:=raw_le 5 0 [] c r
theorem cut_f0:evN (evF []) (callN nLEFT [txtN [97,98,99],numN 2])=⟨2,0,[97,98]⟩:=by
 rw[evN_call]
 exact call_left [97,98,99] 2 (by decide)
theorem cut_f1:FnP Tryz.prog (wG gl) 16 [.str nLEFT,.lst 12 [rawR 2 0 [97,98,99] 0 0,rawR 1 2 [] 0 0]] (.agg (callN nLEFT [txtN [97,98,99],numN 2]).cs) :=
 FnP.args (scall_d nLEFT [txtN [97,98,99],numN 2]) ⟨LeD.rfl,LeD.lst ⟨raw_le _ _ _ _ _,raw_le _ _ _ _ _,trivial⟩,trivial⟩
theorem cut_f2:Sm (callN nLEFT [txtN [97,98,99],numN 2]) False 18 1 3 :=
 sm_call (w:=5) (d:=0) (c:=1) False (by decide) fun x hx=>by
  rcases List.mem_cons.1 hx with rfl|hx
  ·exact sm_txt _ (by decide) (by decide)
  ·obtain rfl:=List.mem_singleton.1 hx
   exact sm_num _ (by decide) (by decide) (Nat.le_trans (itoa_1 (by decide) (by decide)) (by decide))
abbrev cA:Nd:=refN (cR 1 1)
abbrev cB:Nd:=refN (cR 2 1)
abbrev cC:Nd:=refN (cR 3 1)
abbrev cD:Nd:=refN (cR 4 1)
abbrev nL:Nd:=callN nLEFT [cA,cB]
abbrev nR:Nd:=callN nRIGHT [cA,cC]
abbrev nM:Nd:=callN nMID [cA,cD,cC]
theorem sm_L (p:Prop):Sm nL p 17 1 4:=(sm_call (w:=3) (d:=0) (c:=1) p (by decide) fun x hx=>by
 rcases List.mem_cons.1 hx with rfl|hx
 ·exact sm_ref True (by decide)
 ·obtain rfl:=List.mem_singleton.1 hx
  exact sm_ref True (by decide)).mono id (by decide) (by decide) (by decide)
theorem sm_R (p:Prop):Sm nR p 17 1 4:=(sm_call (w:=3) (d:=0) (c:=1) p (by decide) fun x hx=>by
 rcases List.mem_cons.1 hx with rfl|hx
 ·exact sm_ref True (by decide)
 ·obtain rfl:=List.mem_singleton.1 hx
  exact sm_ref True (by decide)).mono id (by decide) (by decide) (by decide)
theorem sm_M (p:Prop):Sm nM p 17 1 4:=(sm_call (w:=3) (d:=0) (c:=1) p (by decide) fun x hx=>by
 rcases List.mem_cons.1 hx with rfl|hx
 ·exact sm_ref True (by decide)
 rcases List.mem_cons.1 hx with rfl|hx
 ·exact sm_ref True (by decide)
 ·obtain rfl:=List.mem_singleton.1 hx
  exact sm_ref True (by decide)).mono id (by decide) (by decide) (by decide)
theorem sm_X:Sm (catN nL nR) False 40 2 9:=sm_cat False (sm_L False) (sm_R False)
theorem sm_E:Sm (callN nEXACT [nR,nM]) False 43 2 9:=sm_call (w:=17) (d:=1) (c:=4) False (by decide) fun x hx=>by
 rcases List.mem_cons.1 hx with rfl|hx
 ·exact sm_R True
 ·obtain rfl:=List.mem_singleton.1 hx
  exact sm_M True
theorem sm_N:Sm (callN nLEN [cA]) False 9 1 2:=sm_call (w:=3) (d:=0) (c:=1) False (by decide) fun x hx=>by
 obtain rfl:=List.mem_singleton.1 hx
 exact sm_ref True (by decide)
theorem sm_F:Sm (callN nFIND [nM,cA]) False 42 2 9:=sm_call (w:=17) (d:=1) (c:=4) False (by decide) fun x hx=>by
 rcases List.mem_cons.1 hx with rfl|hx
 ·exact sm_M True
 ·obtain rfl:=List.mem_singleton.1 hx
  exact (sm_ref True (by decide)).mono id (by decide) (by decide) (by decide)
abbrev cutL (t:List UInt8) (n:Int):List Shw:=[⟨1,1,txV t,0,0⟩,⟨2,1,nuV n,0,0⟩,⟨3,1,nuV ((t.length:Int) - n),0,0⟩,⟨4,1,nuV (n+1),0,0⟩]
section
variable (t:List UInt8) (n:Nat) (h:n≤t.length)
include h
theorem ev_L:evN (evF (cutL t n)) nL=txV (t.take n):=by rw[evN_call];exact call_left t n h
theorem ev_R:evN (evF (cutL t n)) nR=txV (t.drop n):=by rw[evN_call];exact call_right t n h
theorem ev_M:evN (evF (cutL t n)) nM=txV (t.drop n):=by rw[evN_call];exact call_mid t n h
theorem ev_X (h2:t.length≤200):evN (evF (cutL t n)) (catN nL nR)=txV t:=by rw[evN_cat,ev_L t n h,ev_R t n h];exact cat_cut t n h2
theorem ev_E:evN (evF (cutL t n)) (callN nEXACT [nR,nM])=⟨3,1,[]⟩:=by
 rw[evN_call]
 show callV nEXACT [evA _ nR,evA _ nM]=_
 rw[evA_call,evA_call,← evN_call,← evN_call,ev_R t n h,ev_M t n h,call_exact]
 unfold truD
 rw[if_pos rfl]
omit h in
theorem ev_N:evN (evF (cutL t n)) (callN nLEN [cA])=nuV t.length:=by rw[evN_call];exact call_len t
theorem ev_F:evN (evF (cutL t n)) (callN nFIND [nM,cA])=nuV (Lib.index t (t.drop n)+1):=by
 rw[evN_call]
 show callV nFIND [evA _ nM,.one (txV t)]=_
 rw[evA_call,← evN_call,ev_M t n h,call_find,if_neg (by have:=(find_drop h).1;omega)]
end
abbrev cutS (t:List UInt8) (n:Nat):Prop:=(t=nLEFT∧n=2)∨(t=nRIGHT∧n=2)∨(t=nMID∧n=3)∨(t=nEXACT∧n=2)∨(t=nLEN∧n=1)∨(t=nFIND∧n=2)
theorem in_ref (S:List UInt8→Nat→Prop) (a:Rf):InS S (refN a):=.leaf (by decide)
theorem in_call {S:List UInt8→Nat→Prop} {t:List UInt8} {ks:List Nd} (h:S t ks.length) (hk:∀ x ∈ ks,InS S x):InS S (callN t ks):=.of (fun _=>h) hk
theorem in_1 {S:List UInt8→Nat→Prop} {x:Nd} (hx:InS S x):∀ z ∈ [x],InS S z:=fun z hz=>by
 obtain rfl:=List.mem_singleton.1 hz
 exact hx
theorem in_2 {S:List UInt8→Nat→Prop} {x y:Nd} (hx:InS S x) (hy:InS S y):∀ z ∈ [x,y],InS S z:=fun z hz=>by
 rcases List.mem_cons.1 hz with rfl|hz
 ·exact hx
 ·exact in_1 hy z hz
theorem in_3 {S:List UInt8→Nat→Prop} {x y u:Nd} (hx:InS S x) (hy:InS S y) (hu:InS S u):∀ z ∈ [x,y,u],InS S z:=fun z hz=>by
 rcases List.mem_cons.1 hz with rfl|hz
 ·exact hx
 ·exact in_2 hy hu z hz
theorem in_L:InS cutS nL:=in_call (.inl ⟨rfl,rfl⟩) (in_2 (in_ref _ _) (in_ref _ _))
theorem in_R:InS cutS nR:=in_call (.inr (.inl ⟨rfl,rfl⟩)) (in_2 (in_ref _ _) (in_ref _ _))
theorem in_M:InS cutS nM:=in_call (.inr (.inr (.inl ⟨rfl,rfl⟩))) (in_3 (in_ref _ _) (in_ref _ _) (in_ref _ _))
theorem in_X:InS cutS (catN nL nR):=.of (fun h=>by cases h) (in_2 in_L in_R)
theorem in_E:InS cutS (callN nEXACT [nR,nM]):=in_call (.inr (.inr (.inr (.inl ⟨rfl,rfl⟩)))) (in_2 in_R in_M)
theorem in_N:InS cutS (callN nLEN [cA]):=in_call (.inr (.inr (.inr (.inr (.inl ⟨rfl,rfl⟩))))) (in_1 (in_ref _ _))
theorem in_F:InS cutS (callN nFIND [nM,cA]):=in_call (.inr (.inr (.inr (.inr (.inr ⟨rfl,rfl⟩))))) (in_2 in_M (in_ref _ _))
theorem in_0:InS cutS (callN nLEFT [txtN [97,98,99],numN 2]):=in_call (.inl ⟨rfl,rfl⟩) (in_2 (.leaf (by decide)) (.leaf (by decide)))
section
variable (te:TypeId) (pe:Value) (hV:Has (wG gl) (glV te pe)) {mx:Int} (hm':Go.EYtfkjhfdpphfjhaaGreatDoor.look (wG gl) 4=some [iD mx])
include hV hm'
theorem call_cut {mk:List (Int×Int)} {mv:List Vl} {ev:Int→Int→Vl}:CallOk gl cutS mk mv ev:=fun t ks hs hk hlk=>by
 rcases hs with ⟨rfl,hn⟩|⟨rfl,hn⟩|⟨rfl,hn⟩|⟨rfl,hn⟩|⟨rfl,hn⟩|⟨rfl,hn⟩
 ·obtain ⟨x,y,rfl⟩:=len_2 hn
  have hx:KdOk (wG gl) mk mv ev x:=hk 0 (by simp)
  have hy:KdOk (wG gl) mk mv ev y:=hk 1 (by simp)
  have hlen:=kid_len [x,y]
  exact call_gen (t:=nLEFT) (lo:=2) (hi:=2) (by decide) rfl (by decide) (by rw[hlen];simp) (by rw[hlen];simp) ⟨by decide,by decide,by decide,by decide,by decide,by decide,by decide,by decide,by decide,by decide,by decide,by decide,by decide,by decide⟩ hk hlk (r:=textV nLEFT [evN ev x,evN ev y]) fun _=>.inr ⟨by decide,text_left te pe hV hx.vok hy.vok⟩
 ·obtain ⟨x,y,rfl⟩:=len_2 hn
  have hx:KdOk (wG gl) mk mv ev x:=hk 0 (by simp)
  have hy:KdOk (wG gl) mk mv ev y:=hk 1 (by simp)
  have hlen:=kid_len [x,y]
  exact call_gen (t:=nRIGHT) (lo:=2) (hi:=2) (by decide) rfl (by decide) (by rw[hlen];simp) (by rw[hlen];simp) ⟨by decide,by decide,by decide,by decide,by decide,by decide,by decide,by decide,by decide,by decide,by decide,by decide,by decide,by decide⟩ hk hlk (r:=textV nRIGHT [evN ev x,evN ev y]) fun _=>.inr ⟨by decide,text_right te pe hV hx.vok hy.vok⟩
 ·obtain ⟨x,y,z,rfl⟩:=len_3 hn
  have hx:KdOk (wG gl) mk mv ev x:=hk 0 (by simp)
  have hy:KdOk (wG gl) mk mv ev y:=hk 1 (by simp)
  have hz:KdOk (wG gl) mk mv ev z:=hk 2 (by simp)
  have hlen:=kid_len [x,y,z]
  exact call_gen (t:=nMID) (lo:=3) (hi:=3) (by decide) rfl (by decide) (by rw[hlen];simp) (by rw[hlen];simp) ⟨by decide,by decide,by decide,by decide,by decide,by decide,by decide,by decide,by decide,by decide,by decide,by decide,by decide,by decide⟩ hk hlk (r:=textV nMID [evN ev x,evN ev y,evN ev z]) fun _=>.inr ⟨by decide,text_mid te pe hV hx.vok hy.vok hz.vok⟩
 ·obtain ⟨x,y,rfl⟩:=len_2 hn
  have hx:KdOk (wG gl) mk mv ev x:=hk 0 (by simp)
  have hy:KdOk (wG gl) mk mv ev y:=hk 1 (by simp)
  have hlen:=kid_len [x,y]
  exact call_gen (t:=nEXACT) (lo:=2) (hi:=2) (by decide) rfl (by decide) (by rw[hlen];simp) (by rw[hlen];simp) ⟨by decide,by decide,by decide,by decide,by decide,by decide,by decide,by decide,by decide,by decide,by decide,by decide,by decide,by decide⟩ hk hlk (r:=textV nEXACT [evN ev x,evN ev y]) fun _=>.inr ⟨by decide,text_exact te pe hV hx.vok hy.vok⟩
 ·obtain ⟨x,rfl⟩:=len_1 hn
  have hx:KdOk (wG gl) mk mv ev x:=hk 0 (by simp)
  have hlen:=kid_len [x]
  exact call_gen (t:=nLEN) (lo:=1) (hi:=1) (by decide) rfl (by decide) (by rw[hlen];simp) (by rw[hlen];simp) ⟨by decide,by decide,by decide,by decide,by decide,by decide,by decide,by decide,by decide,by decide,by decide,by decide,by decide,by decide⟩ hk hlk (r:=textV nLEN [evN ev x]) fun _=>.inr ⟨by decide,text_len te pe hV hx.vok⟩
 ·obtain ⟨x,y,rfl⟩:=len_2 hn
  have hx:KdOk (wG gl) mk mv ev x:=hk 0 (by simp)
  have hy:KdOk (wG gl) mk mv ev y:=hk 1 (by simp)
  have hlen:=kid_len [x,y]
  exact call_gen (t:=nFIND) (lo:=2) (hi:=2) (by decide) rfl (by decide) (by rw[hlen];simp) (by rw[hlen];simp) ⟨by decide,by decide,by decide,by decide,by decide,by decide,by decide,by decide,by decide,by decide,by decide,by decide,by decide,by decide⟩ hk hlk (r:=textV nFIND [evN ev x,evN ev y]) fun _=>.inr ⟨by decide,text_find te pe hV hm' hx.vok hy.vok⟩
end
section
variable (te:TypeId) (pe:Value) (hV:Has (wG gl) (glV te pe)) {mx:Int} (hm':Go.EYtfkjhfdpphfjhaaGreatDoor.look (wG gl) 4=some [iD mx]) (hl':Go.EYtfkjhfdpphfjhaaGreatDoor.look (wG gl) 0=some lvAll)
include hV hm' hl'
theorem cuts_n {t:List UInt8} {n:Int} (h:(100:Int)<(t.length:Nat)∨n<0∨((t.length:Nat):Int)<n):FnP Tryz.prog (wG gl) 5 [.str t,iD n] (.v (.bool true)):=by
 have f1:=cut_f1 (gl:=gl)
 have f2:=works_0 te pe hV hm' hl' cut_f2 (by decide) (by decide) (by decide) in_0 (fun _ _ _ _=>call_cut te pe hV hm') cut_f0
 have f3:=rTxt_d (gl:=wG gl) [97,98]
 by_cases h1:(100:Int)<(t.length:Nat)
 ·refine fnP_of_vc (nv:=9999) (cu:=[]) fits mixed Tryz.func5 rfl hoB rfl ?_
  ((repeat' ((conv=>whnf);first|exact .intro|refine G ?_|intro _|refine C1 f2 ?_|refine C1 f3 ?_|refine C2 f1 ?_|refine .mk ?_ ?_|refine H ?_|fail));all_goals conv=>whnf)
  all_goals first|exact LeD.rfl|(exfalso;simp_all;done)|skip
 by_cases h2:n<0
 ·refine fnP_of_vc (nv:=9999) (cu:=[]) fits mixed Tryz.func5 rfl hoB rfl ?_
  ((repeat' ((conv=>whnf);first|exact .intro|refine G ?_|intro _|refine C1 f2 ?_|refine C1 f3 ?_|refine C2 f1 ?_|refine .mk ?_ ?_|refine H ?_|fail));all_goals conv=>whnf)
  all_goals first|exact LeD.rfl|(exfalso;simp_all;done)|skip
 have h3:((t.length:Nat):Int)<n:=(h.resolve_left h1).resolve_left h2
 refine fnP_of_vc (nv:=9999) (cu:=[]) fits mixed Tryz.func5 rfl hoB rfl ?_
 ((repeat' ((conv=>whnf);first|exact .intro|refine G ?_|intro _|refine C1 f2 ?_|refine C1 f3 ?_|refine C2 f1 ?_|refine .mk ?_ ?_|refine H ?_|fail));all_goals conv=>whnf)
 all_goals first|exact LeD.rfl|(exfalso;simp_all;done)|skip
theorem cuts_y {t:List UInt8} {n:Nat} (h:t.length≤100) (hn:n≤t.length):FnP Tryz.prog (wG gl) 5 [.str t,iD (n:Int)] (.v (.bool true)):=by
 have f1:=cut_f1 (gl:=gl)
 have f2:=works_0 te pe hV hm' hl' cut_f2 (by decide) (by decide) (by decide) in_0 (fun _ _ _ _=>call_cut te pe hV hm') cut_f0
 have f3:=rTxt_d (gl:=wG gl) [97,98]
 have f4:=rTxt_d (gl:=wG gl) t
 have f5:=rNum_d (gl:=wG gl) (n:Int)
 have f6:=rNum_d (gl:=wG gl) ((t.length:Int) - n)
 have f7:=rNum_d (gl:=wG gl) ((n:Int)+1)
 have f8:=rNum_d (gl:=wG gl) (t.length:Int)
 have f9:FnP Tryz.prog (wG gl) 23 [.v (.bool true)] (vlD 3 1 []):=rTru_c true
 have a1:=at_d (gl:=wG gl) 1 1
 have a2:=at_d (gl:=wG gl) 2 1
 have a3:=at_d (gl:=wG gl) 3 1
 have a4:=at_d (gl:=wG gl) 4 1
 have hs:∀ x ∈ cutL t n,shOk x∧okI x.v.n:=fun x hx=>by
  rcases List.mem_cons.1 hx with rfl|hx
  ·exact ⟨⟨by show okP 1 1;decide,.inr (.inr (.inl ⟨rfl,rfl,by show t.length≤200;omega⟩))⟩,by show okI 0;decide⟩
  rcases List.mem_cons.1 hx with rfl|hx
  ·exact ⟨⟨by show okP 2 1;decide,.inr (.inl ⟨rfl,rfl⟩)⟩,by show okI (n:Int);omega⟩
  rcases List.mem_cons.1 hx with rfl|hx
  ·exact ⟨⟨by show okP 3 1;decide,.inr (.inl ⟨rfl,rfl⟩)⟩,by show okI ((t.length:Int) - n);omega⟩
  ·obtain rfl:=List.mem_singleton.1 hx
   exact ⟨⟨by show okP 4 1;decide,.inr (.inl ⟨rfl,rfl⟩)⟩,by show okI ((n:Int)+1);omega⟩
 have w1:=works_s te pe hV hm' hl' sm_X (by decide) (by decide) (by decide) in_X (fun x hx=>(hs x hx).1) (fun x hx=>(hs x hx).2) (by show 4≤1048576;decide) (fun _ _ _ _=>call_cut te pe hV hm') (ev_X t n hn (by omega))
 have w2:=works_s te pe hV hm' hl' sm_E (by decide) (by decide) (by decide) in_E (fun x hx=>(hs x hx).1) (fun x hx=>(hs x hx).2) (by show 4≤1048576;decide) (fun _ _ _ _=>call_cut te pe hV hm') (ev_E t n hn)
 have w3:=works_s te pe hV hm' hl' sm_N (by decide) (by decide) (by decide) in_N (fun x hx=>(hs x hx).1) (fun x hx=>(hs x hx).2) (by show 4≤1048576;decide) (fun _ _ _ _=>call_cut te pe hV hm') (ev_N t n)
 have w4:=works_s te pe hV hm' hl' sm_F (by decide) (by decide) (by decide) in_F (fun x hx=>(hs x hx).1) (fun x hx=>(hs x hx).2) (by show 4≤1048576;decide) (fun _ _ _ _=>call_cut te pe hV hm') (ev_F t n hn)
 have hfd:=find_drop hn
 generalize Lib.index t (t.drop n)=ix at *
 change FnP Tryz.prog (wG gl) 15 [_,_] (.tup [vlD 1 (ix+1) [],.v (.bool true)]) at w4
 have q4:1≤ix+1:=by omega
 have q5:ix+1≤(n:Int)+1:=by omega
 have k1:FnP Tryz.prog (wG gl) 16 [.str nLEFT,.lst 12 [refR 1 1,refR 2 1]] (.agg nL.cs):=FnP.args (scall_d nLEFT [cA,cB]) ⟨LeD.rfl,LeD.lst ⟨ref_le _ _,ref_le _ _,trivial⟩,trivial⟩
 have k2:FnP Tryz.prog (wG gl) 16 [.str nRIGHT,.lst 12 [refR 1 1,refR 3 1]] (.agg nR.cs):=FnP.args (scall_d nRIGHT [cA,cC]) ⟨LeD.rfl,LeD.lst ⟨ref_le _ _,ref_le _ _,trivial⟩,trivial⟩
 have k3:FnP Tryz.prog (wG gl) 16 [.str nMID,.lst 12 [refR 1 1,refR 4 1,refR 3 1]] (.agg nM.cs):=FnP.args (scall_d nMID [cA,cD,cC]) ⟨LeD.rfl,LeD.lst ⟨ref_le _ _,ref_le _ _,ref_le _ _,trivial⟩,trivial⟩
 have k4:FnP Tryz.prog (wG gl) 16 [.str nEXACT,.lst 12 [nR.cs,nM.cs]] (.agg (callN nEXACT [nR,nM]).cs):=scall_d nEXACT [nR,nM]
 have k5:FnP Tryz.prog (wG gl) 16 [.str nLEN,.lst 12 [refR 1 1]] (.agg (callN nLEN [cA]).cs):=FnP.args (scall_d nLEN [cA]) ⟨LeD.rfl,LeD.lst ⟨ref_le _ _,trivial⟩,trivial⟩
 have k6:FnP Tryz.prog (wG gl) 16 [.str nFIND,.lst 12 [nM.cs,refR 1 1]] (.agg (callN nFIND [nM,cA]).cs):=FnP.args (scall_d nFIND [nM,cA]) ⟨LeD.rfl,LeD.lst ⟨le_refl2 _,ref_le _ _,trivial⟩,trivial⟩
 have w1':FnP Tryz.prog (wG gl) 15 [.agg [iD 8,iD 7,.str [],iD 0,iD 0,.v (.bool false),.v (.bool false),iD 0,iD 0,.v (.bool false),.v (.bool false),.lst 12 [nL.cs,nR.cs]],shw7 (cutL t n)] (.tup [vlD 2 0 t,.v (.bool true)]) :=
  FnP.args w1 ⟨LeD.agg ⟨LeD.rfl,LeD.rfl,LeD.rfl,LeD.rfl,LeD.rfl,LeD.bf (by simp[z0]),LeD.bf (by simp[z0]),LeD.rfl,LeD.rfl,LeD.bf (by simp[z0]),LeD.bf (by simp[z0]),LeD.rfl,trivial⟩,LeD.rfl,trivial⟩
 have e0:=wx (x:=n) (by omega)
 have e1:IntKind.i64.wrap ((t.length:Int) - n)=(t.length:Int) - n:=wrapI (by omega)
 have e2:IntKind.i64.wrap ((n:Int)+1)=(n:Int)+1:=wrapI (by omega)
 have q1:¬ (100:Int)<(t.length:Nat):=by omega
 have q2:¬ (n:Int)<0:=by omega
 have q3:¬ ((t.length:Nat):Int)<(n:Int):=by omega
 refine fnP_of_vc (nv:=9999) (cu:=[]) fits mixed Tryz.func5 rfl hoB rfl ?_
 ((repeat' ((conv=>whnf);first|exact .intro|refine G ?_|intro _|refine C1 f2 ?_|refine C1 f3 ?_|refine C1 f4 ?_|refine C1 f5 ?_|refine C1 f6 ?_|refine C1 f7 ?_|refine C1 f8 ?_|refine C1 f9 ?_|refine C1 a1 ?_|refine C1 a2 ?_|refine C1 a3 ?_|refine C1 a4 ?_|refine C1 w1' ?_|refine C1 w2 ?_|refine C1 w3 ?_|refine C1 w4 ?_|refine C2 f1 ?_|refine C2 k1 ?_|refine C2 k2 ?_|refine C2 k3 ?_|refine C2 k4 ?_|refine C2 k5 ?_|refine C2 k6 ?_|(first|rw[e1]|rw[e2])|refine .mk ?_ ?_|refine H ?_|fail));all_goals conv=>whnf)
 all_goals first|exact LeD.rfl|exact LeD.vt (by simp;omega)|exact LeD.vt (by simp)|(exfalso;simp_all;done)|skip
theorem EvalCuts_d (t:List UInt8) (n:Int):FnP Tryz.prog (wG gl) 5 [.str t,iD n] (.v (.bool true)):=by
 by_cases h:(100:Int)<(t.length:Nat)∨n<0∨((t.length:Nat):Int)<n
 ·exact cuts_n te pe hV hm' hl' h
 ·obtain ⟨m,rfl⟩:∃ m:Nat,n=(m:Int):=⟨n.toNat,by omega⟩
  exact cuts_y te pe hV hm' hl' (by omega) (by omega)
end
end Go.Proofs.YtfkjhfdpphfjhaaGreatDoor
end
section
namespace Go.Proofs.YtfkjhfdpphfjhaaGreatDoor
open Go Go.ChangeShapes Go.WideShapes Go.ChangeAt Go.RowKit Go.EYtfkjhfdpphfjhaaGreatDoor
set_option linter.unusedVariables false
set_option maxRecDepth 100000
theorem var_wrong {w:World} (h1:Lib.VarReads Tryz.prog w "sccsettle/eval.wrong" Rows.laid_sccsettle_eval_wrong):Holds1 w 1 [iD 4,iD 2,.str []]:=by
 obtain ⟨g,t,cs,fuel,p,hg,ht,hv,hd⟩:=h1
 have e:(some g:Option Nat)=some 1:=hg.symm.trans (show Tryz.prog.globalNamed "sccsettle/eval.wrong" = some 1 by kernel_rfl)
 cases e
 have e:(some t:Option Nat)=some 31:=ht.symm.trans (by kernel_rfl)
 cases e
 obtain ⟨xs,n,_,hx,hcl,hlen,hi⟩:=DataW.trod_struct Tryz.underlying31 hd
 rw[show Tryz.prog.cellsOf 31=3 by kernel_rfl] at hcl
 have b1:=var_cells hg hv
 obtain ⟨csl⟩:=cs
 have c3:Tryz.prog.cellsOf 3=1:=by kernel_rfl
 have c9:Tryz.prog.cellsOf 9=1:=by kernel_rfl
 match csl,hcl with
 | [a,b,c],_ =>
  match xs,hlen with
  | [y0,y1,y2],_ =>
   have h0:=hi 0 _ rfl
   have h1:=hi 1 _ rfl
   have h2:=hi 2 _ rfl
   change DataW.trod _ Tryz.prog w _ _ _ n 3 (List.take (Tryz.prog.cellsOf 3) [a,b,c])=some y0 at h0
   change DataW.trod _ Tryz.prog w _ _ _ n 3 (List.take (Tryz.prog.cellsOf 3) [b,c])=some y1 at h1
   change DataW.trod _ Tryz.prog w _ _ _ n 9 (List.take (Tryz.prog.cellsOf 9) [c])=some y2 at h2
   rw[c3] at h0 h1
   rw[c9] at h2
   obtain ⟨k,e0,f0,_⟩:=DataW.trod_int Tryz.underlying3 h0
   obtain ⟨m,e1,f1,_⟩:=DataW.trod_int Tryz.underlying3 h1
   obtain ⟨s,e2,f2,_⟩:=DataW.trod_string Tryz.underlying9 h2
   cases e0;cases e1;cases e2
   subst f0;subst f1;subst f2
   have hq:=(Prod.mk.inj hx).1
   simp only[Rows.laid_sccsettle_eval_wrong,List.map,DataW.agg.injEq,List.cons.injEq,DataW.lit.injEq,Lit.int.injEq,Lit.string.injEq,true_and,and_true] at hq
   obtain ⟨rfl,rfl,hs⟩:=hq
   have es:s=⟨([]:List UInt8).toArray⟩:=by
    obtain ⟨⟨l⟩⟩:=s
    have:l=[]:=hs.symm
    subst this
    rfl
   subst es
   exact ⟨_,b1,.v _,.v _,.str _,trivial⟩
abbrev glX (te:TypeId) (pe:Value) (mx:Int):List (Nat×List D):=(0,lvAll)::(4,[iD mx])::glV te pe
abbrev glY (te:TypeId) (pe:Value) (mx:Int):List (Nat×List D):=wG (glX te pe mx)
theorem glY_has (te:TypeId) (pe:Value) (mx:Int):Has (glY te pe mx) (glV te pe):=by
 intro g l hl
 rw[look_cons]
 split
 ·rename_i e;subst e;exact absurd hl (by rw[show Go.EYtfkjhfdpphfjhaaGreatDoor.look (glV te pe) 1=none from rfl];simp)
 ·rw[look_cons]
  split
  ·rename_i e;subst e;exact absurd hl (by rw[show Go.EYtfkjhfdpphfjhaaGreatDoor.look (glV te pe) 0=none from rfl];simp)
  ·rw[look_cons]
   split
   ·rename_i e;subst e;exact absurd hl (by rw[show Go.EYtfkjhfdpphfjhaaGreatDoor.look (glV te pe) 4=none from rfl];simp)
   ·exact hl
end Go.Proofs.YtfkjhfdpphfjhaaGreatDoor
end
section
namespace Go.Proofs.YtfkjhfdpphfjhaaGreatDoor
open Go Go.EYtfkjhfdpphfjhaaGreatDoor
set_option maxRecDepth 100000
theorem EvalCuts_g (te:TypeId) (pe:Value) (mx:Int) (t:List UInt8) (n:Int):FnP Tryz.prog (glY te pe mx) 5 [.str t,iD n] (.v (.bool true)) :=
 EvalCuts_d te pe (glY_has te pe mx) rfl rfl t n
end Go.Proofs.YtfkjhfdpphfjhaaGreatDoor
end
