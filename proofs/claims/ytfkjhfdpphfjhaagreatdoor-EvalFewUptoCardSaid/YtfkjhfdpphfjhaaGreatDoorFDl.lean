/- Proved: a part of what the law is proved with (the reckoner, contracts of functions, plain laws). Conditions: as each says. -/
import Derived.Test.YtfkjhfdpphfjhaaGreatDoorFDk
namespace Go.Proofs.YtfkjhfdpphfjhaaGreatDoor
open Go Go.RowKit Go.EYtfkjhfdpphfjhaaGreatDoor
set_option maxRecDepth 100000
set_option maxHeartbeats 4000000
variable {gl:List (Nat×List D)}
abbrev ePt (ev:Int→Int→Vl) (p:Int×Int):Vl:=ev p.1 p.2
structure BxK (gl:List (Nat×List D)) (ev:Int→Int→Vl) (x:Nd) (x0 y0 x1 y1:Int) (cs:List (Int×Int)) (w h:Nat):Prop where
 run:FnP Tryz.prog gl 176 [.agg (Nd.cs x)] (.tup [boxD x0 y0 x1 y1,.lst 2 (cs.map rowC),.v (.bool true)])
 arg:evA ev x=.box (cs.map (ePt ev)) w
 len:cs.length=h * w
 w1:1≤w
 w2:w≤26
 h1:1≤h
 h2:h≤99
 ww:IntKind.i64.wrap (x1 - x0)=x1 - x0
 wh:IntKind.i64.wrap (y1 - y0)=y1 - y0
 ew:IntKind.i64.wrap (x1 - x0+1)=(w:Int)
 eh:IntKind.i64.wrap (y1 - y0+1)=(h:Int)
theorem bxK {mk:List (Int×Int)} {mv:List Vl} {ev:Int→Int→Vl} {m:Int} {t:List UInt8} {a b:Rf} {ks:List Nd} (hx:KdOk gl mk mv ev (.mk 6 m t a b ks)):∃ x0 y0 x1 y1 cs w h,BxK gl ev (.mk 6 m t a b ks) x0 y0 x1 y1 cs w h:=by
 obtain ⟨ha,hb⟩:=hx.bx rfl
 refine ⟨_,_,_,_,boxC a b,(max a.c b.c - min a.c b.c+1).toNat,(max a.r b.r - min a.r b.r+1).toNat,box_y ha hb,rfl,?_,?_,?_,?_,?_,?_,?_,?_,?_⟩
 ·unfold boxC;rw[pairsL_len]
 all_goals obtain ⟨q1,q2,q3,q4⟩:=ha
 all_goals obtain ⟨q5,q6,q7,q8⟩:=hb
 ·omega
 ·omega
 ·omega
 ·omega
 ·exact wrapI (by omega)
 ·exact wrapI (by omega)
 ·rw[wrapI (by omega)];omega
 ·rw[wrapI (by omega)];omega
theorem bx_none {ev:Int→Int→Vl} {k m:Int} {t:List UInt8} {a b:Rf} {ks:List Nd} (h:¬ k=6):evA ev (.mk k m t a b ks)=.one (evN ev (.mk k m t a b ks)):=by
 unfold evN
 rw[evA]
 unfold nodeA
 rw[if_neg h]
 rfl
theorem div_w {n h w:Nat} (hn:n=h * w) (hw:1≤w):n / w=h:=by rw[hn];exact Nat.mul_div_cancel _ (by omega)
theorem match_at (vs:List Vl) (v:Vl):((∀ (j:Nat) (h:j<vs.length),¬ alikeP vs[j] v)∧matchV vs v=⟨4,6,[]⟩)∨∃ (x:Nat) (h:x<vs.length),alikeP vs[x] v∧(∀ (j:Nat) (hj:j<x),¬ alikeP (vs[j]'(Nat.lt_trans hj h)) v)∧matchV vs v=⟨1,(x:Int)+1,[]⟩:=by
 rcases first_like vs v with ⟨h1,h2,_⟩|⟨x,h,h1,h2,h3,_⟩
 ·exact .inl ⟨fun j hj=>h1 _ (List.getElem_mem hj),h2⟩
 ·exact .inr ⟨x,h,h1,h2,h3⟩
theorem look_at (vs:List Vl) (w h:Nat) (v:Vl) (hl:vs.length=h * w) (hw:1≤w):((∀ r,r<h→¬ alikeP (vs.getD (r * w) wrV) v)∧lookR vs w v=none)∨∃ x,x<h∧alikeP (vs.getD (x * w) wrV) v∧(∀ r,r<x→¬ alikeP (vs.getD (r * w) wrV) v)∧lookR vs w v=some x:=by
 have hd:=div_w hl hw
 rcases fstOf (p:=fun r=>¬ alikeP (vs.getD (r * w) wrV) v) h with h1|⟨x,h1,h2,h3⟩
 ·refine .inl ⟨h1,?_⟩
  unfold lookR
  rw[hd,List.find?_eq_none]
  intro r hr
  simpa using h1 r (List.mem_range.1 hr)
 ·have h4:alikeP (vs.getD (x * w) wrV) v:=Classical.byContradiction fun hh=>h3 hh
  refine .inr ⟨x,h1,h4,h2,?_⟩
  unfold lookR
  rw[hd,List.find?_range_eq_some]
  exact ⟨by simpa using h4,List.mem_range.2 h1,fun j hj=>by simpa using h2 j hj⟩
theorem getD_map {ev:Int→Int→Vl} {cs:List (Int×Int)} {i:Nat} (h:i<cs.length):(cs.map (ePt ev)).getD i wrV=ePt ev cs[i]:=by
 rw[List.getD_eq_getElem?_getD,List.getElem?_map,List.getElem?_eq_getElem h]
 rfl
theorem badL_none {l:List Vl}:badL l=none↔∀ v ∈ l,¬ v.k=4:=by
 unfold badL
 rw[List.find?_eq_none]
 simp
theorem badL_at {l:List Vl} {k:Nat} (h:k<l.length) (hb:l[k].k=4) (hn:∀ (j:Nat) (hj:j<k),¬ (l[j]'(Nat.lt_trans hj h)).k=4):badL l=some l[k]:=by
 unfold badL
 rw[List.find?_eq_some_iff_getElem]
 exact ⟨by simpa using hb,k,h,rfl,fun j hj=>by simpa using hn j hj⟩
theorem mul_ltR {r h w:Nat} (hr:r<h) (hw:1≤w):r * w<h * w:=Nat.mul_lt_mul_of_pos_right hr hw
theorem mulLe99 {r h w:Nat} (hr:r≤h) (hh:h≤99) (hw:w≤26):r * w≤2574:=Nat.mul_le_mul (Nat.le_trans hr hh) hw
section
variable (te:TypeId) (pe:Value) (hV:Has (wG gl) (glV te pe))
theorem boxed_rows_n {mk:List (Int×Int)} {mv:List Vl} {ev:Int→Int→Vl} {k0 m0:Int} {t0:List UInt8} {a0 b0:Rf} {s0:List Nd} (_hx0:KdOk (wG gl) mk mv ev (.mk k0 m0 t0 a0 b0 s0)) (h6:¬ k0=6):FnP Tryz.prog (wG gl) 116 [mpE mk mv,.str nROWS,.lst 12 (Nd.csL [.mk k0 m0 t0 a0 b0 s0])] (boxedV nROWS [evA ev (.mk k0 m0 t0 a0 b0 s0)]).d:=by
 have c1:=box_n (gl:=wG gl) (m:=m0) (t:=t0) (a:=a0) (b:=b0) (ks:=s0) h6
 rw[show boxedV nROWS [evA ev (.mk k0 m0 t0 a0 b0 s0)]=wrV by unfold boxedV;rw[show (aI [evA ev (.mk k0 m0 t0 a0 b0 s0)] (if nROWS=nMATCH∨nROWS=nLOOKUP then 1 else 0)).bx=none by show (evA ev (.mk k0 m0 t0 a0 b0 s0)).bx=none;rw[bx_none h6];rfl]]
 have g0:(Nd.csL [.mk k0 m0 t0 a0 b0 s0])[(0:Int).toNat]?=some (ndR k0 m0 t0 a0 b0 s0):=rfl
 refine S0 Tryz.func116 rfl ?_
 ((repeat' ((conv=>whnf);first|exact .intro|refine G ?_|intro _|refine C1 c1 ?_|(first|refine ⟨Int.le_refl _,_,g0,?_⟩)|refine .mk ?_ ?_|refine H ?_|fail));all_goals conv=>whnf)
 all_goals exact LeD.rfl
theorem boxed_cols_n {mk:List (Int×Int)} {mv:List Vl} {ev:Int→Int→Vl} {k0 m0:Int} {t0:List UInt8} {a0 b0:Rf} {s0:List Nd} (_hx0:KdOk (wG gl) mk mv ev (.mk k0 m0 t0 a0 b0 s0)) (h6:¬ k0=6):FnP Tryz.prog (wG gl) 116 [mpE mk mv,.str nCOLS,.lst 12 (Nd.csL [.mk k0 m0 t0 a0 b0 s0])] (boxedV nCOLS [evA ev (.mk k0 m0 t0 a0 b0 s0)]).d:=by
 have c1:=box_n (gl:=wG gl) (m:=m0) (t:=t0) (a:=a0) (b:=b0) (ks:=s0) h6
 rw[show boxedV nCOLS [evA ev (.mk k0 m0 t0 a0 b0 s0)]=wrV by unfold boxedV;rw[show (aI [evA ev (.mk k0 m0 t0 a0 b0 s0)] (if nCOLS=nMATCH∨nCOLS=nLOOKUP then 1 else 0)).bx=none by show (evA ev (.mk k0 m0 t0 a0 b0 s0)).bx=none;rw[bx_none h6];rfl]]
 have g0:(Nd.csL [.mk k0 m0 t0 a0 b0 s0])[(0:Int).toNat]?=some (ndR k0 m0 t0 a0 b0 s0):=rfl
 refine S0 Tryz.func116 rfl ?_
 ((repeat' ((conv=>whnf);first|exact .intro|refine G ?_|intro _|refine C1 c1 ?_|(first|refine ⟨Int.le_refl _,_,g0,?_⟩)|refine .mk ?_ ?_|refine H ?_|fail));all_goals conv=>whnf)
 all_goals exact LeD.rfl
theorem boxed_index_n {mk:List (Int×Int)} {mv:List Vl} {ev:Int→Int→Vl} {k0 m0:Int} {t0:List UInt8} {a0 b0:Rf} {s0:List Nd} {k1 m1:Int} {t1:List UInt8} {a1 b1:Rf} {s1:List Nd} {k2 m2:Int} {t2:List UInt8} {a2 b2:Rf} {s2:List Nd} (_hx0:KdOk (wG gl) mk mv ev (.mk k0 m0 t0 a0 b0 s0)) (_hx1:KdOk (wG gl) mk mv ev (.mk k1 m1 t1 a1 b1 s1)) (_hx2:KdOk (wG gl) mk mv ev (.mk k2 m2 t2 a2 b2 s2)) (h6:¬ k0=6):FnP Tryz.prog (wG gl) 116 [mpE mk mv,.str nINDEX,.lst 12 (Nd.csL [.mk k0 m0 t0 a0 b0 s0,.mk k1 m1 t1 a1 b1 s1,.mk k2 m2 t2 a2 b2 s2])] (boxedV nINDEX [evA ev (.mk k0 m0 t0 a0 b0 s0),evA ev (.mk k1 m1 t1 a1 b1 s1),evA ev (.mk k2 m2 t2 a2 b2 s2)]).d:=by
 have c1:=box_n (gl:=wG gl) (m:=m0) (t:=t0) (a:=a0) (b:=b0) (ks:=s0) h6
 rw[show boxedV nINDEX [evA ev (.mk k0 m0 t0 a0 b0 s0),evA ev (.mk k1 m1 t1 a1 b1 s1),evA ev (.mk k2 m2 t2 a2 b2 s2)]=wrV by unfold boxedV;rw[show (aI [evA ev (.mk k0 m0 t0 a0 b0 s0),evA ev (.mk k1 m1 t1 a1 b1 s1),evA ev (.mk k2 m2 t2 a2 b2 s2)] (if nINDEX=nMATCH∨nINDEX=nLOOKUP then 1 else 0)).bx=none by show (evA ev (.mk k0 m0 t0 a0 b0 s0)).bx=none;rw[bx_none h6];rfl]]
 have g0:(Nd.csL [.mk k0 m0 t0 a0 b0 s0,.mk k1 m1 t1 a1 b1 s1,.mk k2 m2 t2 a2 b2 s2])[(0:Int).toNat]?=some (ndR k0 m0 t0 a0 b0 s0):=rfl
 have g1:(Nd.csL [.mk k0 m0 t0 a0 b0 s0,.mk k1 m1 t1 a1 b1 s1,.mk k2 m2 t2 a2 b2 s2])[(1:Int).toNat]?=some (ndR k1 m1 t1 a1 b1 s1):=rfl
 have g2:(Nd.csL [.mk k0 m0 t0 a0 b0 s0,.mk k1 m1 t1 a1 b1 s1,.mk k2 m2 t2 a2 b2 s2])[(2:Int).toNat]?=some (ndR k2 m2 t2 a2 b2 s2):=rfl
 refine S0 Tryz.func116 rfl ?_
 ((repeat' ((conv=>whnf);first|exact .intro|refine G ?_|intro _|refine C1 c1 ?_|(first|refine ⟨Int.le_refl _,_,g0,?_⟩|refine ⟨by decide,_,g1,?_⟩|refine ⟨by decide,_,g2,?_⟩)|refine .mk ?_ ?_|refine H ?_|fail));all_goals conv=>whnf)
 all_goals exact LeD.rfl
theorem boxed_match_n {mk:List (Int×Int)} {mv:List Vl} {ev:Int→Int→Vl} {k0 m0:Int} {t0:List UInt8} {a0 b0:Rf} {s0:List Nd} {k1 m1:Int} {t1:List UInt8} {a1 b1:Rf} {s1:List Nd} (_hx0:KdOk (wG gl) mk mv ev (.mk k0 m0 t0 a0 b0 s0)) (_hx1:KdOk (wG gl) mk mv ev (.mk k1 m1 t1 a1 b1 s1)) (h6:¬ k1=6):FnP Tryz.prog (wG gl) 116 [mpE mk mv,.str nMATCH,.lst 12 (Nd.csL [.mk k0 m0 t0 a0 b0 s0,.mk k1 m1 t1 a1 b1 s1])] (boxedV nMATCH [evA ev (.mk k0 m0 t0 a0 b0 s0),evA ev (.mk k1 m1 t1 a1 b1 s1)]).d:=by
 have c1:=box_n (gl:=wG gl) (m:=m1) (t:=t1) (a:=a1) (b:=b1) (ks:=s1) h6
 rw[show boxedV nMATCH [evA ev (.mk k0 m0 t0 a0 b0 s0),evA ev (.mk k1 m1 t1 a1 b1 s1)]=wrV by unfold boxedV;rw[show (aI [evA ev (.mk k0 m0 t0 a0 b0 s0),evA ev (.mk k1 m1 t1 a1 b1 s1)] (if nMATCH=nMATCH∨nMATCH=nLOOKUP then 1 else 0)).bx=none by show (evA ev (.mk k1 m1 t1 a1 b1 s1)).bx=none;rw[bx_none h6];rfl]]
 have g0:(Nd.csL [.mk k0 m0 t0 a0 b0 s0,.mk k1 m1 t1 a1 b1 s1])[(0:Int).toNat]?=some (ndR k0 m0 t0 a0 b0 s0):=rfl
 have g1:(Nd.csL [.mk k0 m0 t0 a0 b0 s0,.mk k1 m1 t1 a1 b1 s1])[(1:Int).toNat]?=some (ndR k1 m1 t1 a1 b1 s1):=rfl
 refine S0 Tryz.func116 rfl ?_
 ((repeat' ((conv=>whnf);first|exact .intro|refine G ?_|intro _|refine C1 c1 ?_|(first|refine ⟨Int.le_refl _,_,g0,?_⟩|refine ⟨by decide,_,g1,?_⟩)|refine .mk ?_ ?_|refine H ?_|fail));all_goals conv=>whnf)
 all_goals exact LeD.rfl
theorem boxed_lookup_n {mk:List (Int×Int)} {mv:List Vl} {ev:Int→Int→Vl} {k0 m0:Int} {t0:List UInt8} {a0 b0:Rf} {s0:List Nd} {k1 m1:Int} {t1:List UInt8} {a1 b1:Rf} {s1:List Nd} {k2 m2:Int} {t2:List UInt8} {a2 b2:Rf} {s2:List Nd} (_hx0:KdOk (wG gl) mk mv ev (.mk k0 m0 t0 a0 b0 s0)) (_hx1:KdOk (wG gl) mk mv ev (.mk k1 m1 t1 a1 b1 s1)) (_hx2:KdOk (wG gl) mk mv ev (.mk k2 m2 t2 a2 b2 s2)) (h6:¬ k1=6):FnP Tryz.prog (wG gl) 116 [mpE mk mv,.str nLOOKUP,.lst 12 (Nd.csL [.mk k0 m0 t0 a0 b0 s0,.mk k1 m1 t1 a1 b1 s1,.mk k2 m2 t2 a2 b2 s2])] (boxedV nLOOKUP [evA ev (.mk k0 m0 t0 a0 b0 s0),evA ev (.mk k1 m1 t1 a1 b1 s1),evA ev (.mk k2 m2 t2 a2 b2 s2)]).d:=by
 have c1:=box_n (gl:=wG gl) (m:=m1) (t:=t1) (a:=a1) (b:=b1) (ks:=s1) h6
 rw[show boxedV nLOOKUP [evA ev (.mk k0 m0 t0 a0 b0 s0),evA ev (.mk k1 m1 t1 a1 b1 s1),evA ev (.mk k2 m2 t2 a2 b2 s2)]=wrV by unfold boxedV;rw[show (aI [evA ev (.mk k0 m0 t0 a0 b0 s0),evA ev (.mk k1 m1 t1 a1 b1 s1),evA ev (.mk k2 m2 t2 a2 b2 s2)] (if nLOOKUP=nMATCH∨nLOOKUP=nLOOKUP then 1 else 0)).bx=none by show (evA ev (.mk k1 m1 t1 a1 b1 s1)).bx=none;rw[bx_none h6];rfl]]
 have g0:(Nd.csL [.mk k0 m0 t0 a0 b0 s0,.mk k1 m1 t1 a1 b1 s1,.mk k2 m2 t2 a2 b2 s2])[(0:Int).toNat]?=some (ndR k0 m0 t0 a0 b0 s0):=rfl
 have g1:(Nd.csL [.mk k0 m0 t0 a0 b0 s0,.mk k1 m1 t1 a1 b1 s1,.mk k2 m2 t2 a2 b2 s2])[(1:Int).toNat]?=some (ndR k1 m1 t1 a1 b1 s1):=rfl
 have g2:(Nd.csL [.mk k0 m0 t0 a0 b0 s0,.mk k1 m1 t1 a1 b1 s1,.mk k2 m2 t2 a2 b2 s2])[(2:Int).toNat]?=some (ndR k2 m2 t2 a2 b2 s2):=rfl
 refine S0 Tryz.func116 rfl ?_
 ((repeat' ((conv=>whnf);first|exact .intro|refine G ?_|intro _|refine C1 c1 ?_|(first|refine ⟨Int.le_refl _,_,g0,?_⟩|refine ⟨by decide,_,g1,?_⟩|refine ⟨by decide,_,g2,?_⟩)|refine .mk ?_ ?_|refine H ?_|fail));all_goals conv=>whnf)
 all_goals exact LeD.rfl
theorem boxed_countif_n {mk:List (Int×Int)} {mv:List Vl} {ev:Int→Int→Vl} {k0 m0:Int} {t0:List UInt8} {a0 b0:Rf} {s0:List Nd} {k1 m1:Int} {t1:List UInt8} {a1 b1:Rf} {s1:List Nd} (_hx0:KdOk (wG gl) mk mv ev (.mk k0 m0 t0 a0 b0 s0)) (_hx1:KdOk (wG gl) mk mv ev (.mk k1 m1 t1 a1 b1 s1)) (h6:¬ k0=6):FnP Tryz.prog (wG gl) 116 [mpE mk mv,.str nCOUNTIF,.lst 12 (Nd.csL [.mk k0 m0 t0 a0 b0 s0,.mk k1 m1 t1 a1 b1 s1])] (boxedV nCOUNTIF [evA ev (.mk k0 m0 t0 a0 b0 s0),evA ev (.mk k1 m1 t1 a1 b1 s1)]).d:=by
 have c1:=box_n (gl:=wG gl) (m:=m0) (t:=t0) (a:=a0) (b:=b0) (ks:=s0) h6
 rw[show boxedV nCOUNTIF [evA ev (.mk k0 m0 t0 a0 b0 s0),evA ev (.mk k1 m1 t1 a1 b1 s1)]=wrV by unfold boxedV;rw[show (aI [evA ev (.mk k0 m0 t0 a0 b0 s0),evA ev (.mk k1 m1 t1 a1 b1 s1)] (if nCOUNTIF=nMATCH∨nCOUNTIF=nLOOKUP then 1 else 0)).bx=none by show (evA ev (.mk k0 m0 t0 a0 b0 s0)).bx=none;rw[bx_none h6];rfl]]
 have g0:(Nd.csL [.mk k0 m0 t0 a0 b0 s0,.mk k1 m1 t1 a1 b1 s1])[(0:Int).toNat]?=some (ndR k0 m0 t0 a0 b0 s0):=rfl
 have g1:(Nd.csL [.mk k0 m0 t0 a0 b0 s0,.mk k1 m1 t1 a1 b1 s1])[(1:Int).toNat]?=some (ndR k1 m1 t1 a1 b1 s1):=rfl
 refine S0 Tryz.func116 rfl ?_
 ((repeat' ((conv=>whnf);first|exact .intro|refine G ?_|intro _|refine C1 c1 ?_|(first|refine ⟨Int.le_refl _,_,g0,?_⟩|refine ⟨by decide,_,g1,?_⟩)|refine .mk ?_ ?_|refine H ?_|fail));all_goals conv=>whnf)
 all_goals exact LeD.rfl
theorem boxed_sumif_n {mk:List (Int×Int)} {mv:List Vl} {ev:Int→Int→Vl} {k0 m0:Int} {t0:List UInt8} {a0 b0:Rf} {s0:List Nd} {k1 m1:Int} {t1:List UInt8} {a1 b1:Rf} {s1:List Nd} {k2 m2:Int} {t2:List UInt8} {a2 b2:Rf} {s2:List Nd} (_hx0:KdOk (wG gl) mk mv ev (.mk k0 m0 t0 a0 b0 s0)) (_hx1:KdOk (wG gl) mk mv ev (.mk k1 m1 t1 a1 b1 s1)) (_hx2:KdOk (wG gl) mk mv ev (.mk k2 m2 t2 a2 b2 s2)) (h6:¬ k0=6):FnP Tryz.prog (wG gl) 116 [mpE mk mv,.str nSUMIF,.lst 12 (Nd.csL [.mk k0 m0 t0 a0 b0 s0,.mk k1 m1 t1 a1 b1 s1,.mk k2 m2 t2 a2 b2 s2])] (boxedV nSUMIF [evA ev (.mk k0 m0 t0 a0 b0 s0),evA ev (.mk k1 m1 t1 a1 b1 s1),evA ev (.mk k2 m2 t2 a2 b2 s2)]).d:=by
 have c1:=box_n (gl:=wG gl) (m:=m0) (t:=t0) (a:=a0) (b:=b0) (ks:=s0) h6
 rw[show boxedV nSUMIF [evA ev (.mk k0 m0 t0 a0 b0 s0),evA ev (.mk k1 m1 t1 a1 b1 s1),evA ev (.mk k2 m2 t2 a2 b2 s2)]=wrV by unfold boxedV;rw[show (aI [evA ev (.mk k0 m0 t0 a0 b0 s0),evA ev (.mk k1 m1 t1 a1 b1 s1),evA ev (.mk k2 m2 t2 a2 b2 s2)] (if nSUMIF=nMATCH∨nSUMIF=nLOOKUP then 1 else 0)).bx=none by show (evA ev (.mk k0 m0 t0 a0 b0 s0)).bx=none;rw[bx_none h6];rfl]]
 have g0:(Nd.csL [.mk k0 m0 t0 a0 b0 s0,.mk k1 m1 t1 a1 b1 s1,.mk k2 m2 t2 a2 b2 s2])[(0:Int).toNat]?=some (ndR k0 m0 t0 a0 b0 s0):=rfl
 have g1:(Nd.csL [.mk k0 m0 t0 a0 b0 s0,.mk k1 m1 t1 a1 b1 s1,.mk k2 m2 t2 a2 b2 s2])[(1:Int).toNat]?=some (ndR k1 m1 t1 a1 b1 s1):=rfl
 have g2:(Nd.csL [.mk k0 m0 t0 a0 b0 s0,.mk k1 m1 t1 a1 b1 s1,.mk k2 m2 t2 a2 b2 s2])[(2:Int).toNat]?=some (ndR k2 m2 t2 a2 b2 s2):=rfl
 refine S0 Tryz.func116 rfl ?_
 ((repeat' ((conv=>whnf);first|exact .intro|refine G ?_|intro _|refine C1 c1 ?_|(first|refine ⟨Int.le_refl _,_,g0,?_⟩|refine ⟨by decide,_,g1,?_⟩|refine ⟨by decide,_,g2,?_⟩)|refine .mk ?_ ?_|refine H ?_|fail));all_goals conv=>whnf)
 all_goals exact LeD.rfl
theorem boxed_sumif_m {mk:List (Int×Int)} {mv:List Vl} {ev:Int→Int→Vl} {m0:Int} {t0:List UInt8} {a0 b0:Rf} {s0:List Nd} {k1 m1:Int} {t1:List UInt8} {a1 b1:Rf} {s1:List Nd} {k2 m2:Int} {t2:List UInt8} {a2 b2:Rf} {s2:List Nd} (hx0:KdOk (wG gl) mk mv ev (.mk 6 m0 t0 a0 b0 s0)) (_hx1:KdOk (wG gl) mk mv ev (.mk k1 m1 t1 a1 b1 s1)) (_hx2:KdOk (wG gl) mk mv ev (.mk k2 m2 t2 a2 b2 s2)) (h6:¬ k2=6):FnP Tryz.prog (wG gl) 116 [mpE mk mv,.str nSUMIF,.lst 12 (Nd.csL [.mk 6 m0 t0 a0 b0 s0,.mk k1 m1 t1 a1 b1 s1,.mk k2 m2 t2 a2 b2 s2])] (boxedV nSUMIF [evA ev (.mk 6 m0 t0 a0 b0 s0),evA ev (.mk k1 m1 t1 a1 b1 s1),evA ev (.mk k2 m2 t2 a2 b2 s2)]).d:=by
 obtain ⟨x0,y0,x1,y1,cs,w,h,hb⟩:=bxK hx0
 have c1:=hb.run
 have c2:=box_n (gl:=wG gl) (m:=m2) (t:=t2) (a:=a2) (b:=b2) (ks:=s2) h6
 rw[show boxedV nSUMIF [evA ev (.mk 6 m0 t0 a0 b0 s0),evA ev (.mk k1 m1 t1 a1 b1 s1),evA ev (.mk k2 m2 t2 a2 b2 s2)]=wrV by
  unfold boxedV
  rw[show (aI [evA ev (.mk 6 m0 t0 a0 b0 s0),evA ev (.mk k1 m1 t1 a1 b1 s1),evA ev (.mk k2 m2 t2 a2 b2 s2)] (if nSUMIF=nMATCH∨nSUMIF=nLOOKUP then 1 else 0)).bx=some (cs.map (ePt ev),w) by show (evA ev (.mk 6 m0 t0 a0 b0 s0)).bx=_;rw[hb.arg];rfl]
  show boxV nSUMIF [evA ev (.mk 6 m0 t0 a0 b0 s0),evA ev (.mk k1 m1 t1 a1 b1 s1),evA ev (.mk k2 m2 t2 a2 b2 s2)] (cs.map (ePt ev)) w=wrV
  unfold boxV
  rw[if_neg (by decide),if_neg (by decide),if_neg (by decide),if_neg (by decide),if_neg (by decide),if_neg (by decide),if_pos (by show (evA ev (.mk k2 m2 t2 a2 b2 s2)).bx=none;rw[bx_none h6];rfl)]]
 have g0:(Nd.csL [.mk 6 m0 t0 a0 b0 s0,.mk k1 m1 t1 a1 b1 s1,.mk k2 m2 t2 a2 b2 s2])[(0:Int).toNat]?=some (ndR 6 m0 t0 a0 b0 s0):=rfl
 have g1:(Nd.csL [.mk 6 m0 t0 a0 b0 s0,.mk k1 m1 t1 a1 b1 s1,.mk k2 m2 t2 a2 b2 s2])[(1:Int).toNat]?=some (ndR k1 m1 t1 a1 b1 s1):=rfl
 have g2:(Nd.csL [.mk 6 m0 t0 a0 b0 s0,.mk k1 m1 t1 a1 b1 s1,.mk k2 m2 t2 a2 b2 s2])[(2:Int).toNat]?=some (ndR k2 m2 t2 a2 b2 s2):=rfl
 refine S0 Tryz.func116 rfl ?_
 ((repeat' ((conv=>whnf);first|exact .intro|refine G ?_|intro _|refine C1 c1 ?_|refine C1 c2 ?_|(first|refine ⟨Int.le_refl _,_,g0,?_⟩|refine ⟨by decide,_,g1,?_⟩|refine ⟨by decide,_,g2,?_⟩)|refine .mk ?_ ?_|refine H ?_|fail));all_goals conv=>whnf)
 all_goals exact LeD.rfl
theorem boxed_rows_y {mk:List (Int×Int)} {mv:List Vl} {ev:Int→Int→Vl} {m0:Int} {t0:List UInt8} {a0 b0:Rf} {s0:List Nd} (hx0:KdOk (wG gl) mk mv ev (.mk 6 m0 t0 a0 b0 s0)):FnP Tryz.prog (wG gl) 116 [mpE mk mv,.str nROWS,.lst 12 (Nd.csL [.mk 6 m0 t0 a0 b0 s0])] (boxedV nROWS [evA ev (.mk 6 m0 t0 a0 b0 s0)]).d:=by
 obtain ⟨x0,y0,x1,y1,cs,w,h,hb⟩:=bxK hx0
 have c1:=hb.run
 have eb:boxedV nROWS [evA ev (.mk 6 m0 t0 a0 b0 s0)]=boxV nROWS [evA ev (.mk 6 m0 t0 a0 b0 s0)] (cs.map (ePt ev)) w:=by
  unfold boxedV
  rw[show (aI [evA ev (.mk 6 m0 t0 a0 b0 s0)] (if nROWS=nMATCH∨nROWS=nLOOKUP then 1 else 0)).bx=some (cs.map (ePt ev),w) by show (evA ev (.mk 6 m0 t0 a0 b0 s0)).bx=_;rw[hb.arg];rfl]
 have hd:=div_w (n:=(cs.map (ePt ev)).length) (by rw[List.length_map];exact hb.len) hb.w1
 rw[eb,show boxV nROWS [evA ev (.mk 6 m0 t0 a0 b0 s0)] (cs.map (ePt ev)) w=⟨1,(h:Int),[]⟩ by unfold boxV;rw[if_pos rfl,hd]]
 have w1:=hb.ww
 have w2:=hb.wh
 have w3:=hb.ew
 have w4:=hb.eh
 have c2:=Num_d (gl:=wG gl) (h:Int)
 clear hb eb hd
 have g0:(Nd.csL [.mk 6 m0 t0 a0 b0 s0])[(0:Int).toNat]?=some (ndR 6 m0 t0 a0 b0 s0):=rfl
 refine S0 Tryz.func116 rfl ?_
 ((repeat' ((conv=>whnf);first|exact .intro|refine G ?_|intro _|refine C1 c1 ?_|refine C1 c2 ?_|(first|rw[w1]|rw[w2]|rw[w3]|rw[w4]|refine ⟨Int.le_refl _,_,g0,?_⟩)|refine .mk ?_ ?_|refine H ?_|fail));all_goals conv=>whnf)
 all_goals exact LeD.rfl
theorem boxed_cols_y {mk:List (Int×Int)} {mv:List Vl} {ev:Int→Int→Vl} {m0:Int} {t0:List UInt8} {a0 b0:Rf} {s0:List Nd} (hx0:KdOk (wG gl) mk mv ev (.mk 6 m0 t0 a0 b0 s0)):FnP Tryz.prog (wG gl) 116 [mpE mk mv,.str nCOLS,.lst 12 (Nd.csL [.mk 6 m0 t0 a0 b0 s0])] (boxedV nCOLS [evA ev (.mk 6 m0 t0 a0 b0 s0)]).d:=by
 obtain ⟨x0,y0,x1,y1,cs,w,h,hb⟩:=bxK hx0
 have c1:=hb.run
 have eb:boxedV nCOLS [evA ev (.mk 6 m0 t0 a0 b0 s0)]=boxV nCOLS [evA ev (.mk 6 m0 t0 a0 b0 s0)] (cs.map (ePt ev)) w:=by
  unfold boxedV
  rw[show (aI [evA ev (.mk 6 m0 t0 a0 b0 s0)] (if nCOLS=nMATCH∨nCOLS=nLOOKUP then 1 else 0)).bx=some (cs.map (ePt ev),w) by show (evA ev (.mk 6 m0 t0 a0 b0 s0)).bx=_;rw[hb.arg];rfl]
 have hd:=div_w (n:=(cs.map (ePt ev)).length) (by rw[List.length_map];exact hb.len) hb.w1
 rw[eb,show boxV nCOLS [evA ev (.mk 6 m0 t0 a0 b0 s0)] (cs.map (ePt ev)) w=⟨1,(w:Int),[]⟩ by unfold boxV;rw[if_neg (by decide),if_pos rfl]]
 have w1:=hb.ww
 have w2:=hb.wh
 have w3:=hb.ew
 have w4:=hb.eh
 have c2:=Num_d (gl:=wG gl) (w:Int)
 clear hb eb hd
 have g0:(Nd.csL [.mk 6 m0 t0 a0 b0 s0])[(0:Int).toNat]?=some (ndR 6 m0 t0 a0 b0 s0):=rfl
 refine S0 Tryz.func116 rfl ?_
 ((repeat' ((conv=>whnf);first|exact .intro|refine G ?_|intro _|refine C1 c1 ?_|refine C1 c2 ?_|(first|rw[w1]|rw[w2]|rw[w3]|rw[w4]|refine ⟨Int.le_refl _,_,g0,?_⟩)|refine .mk ?_ ?_|refine H ?_|fail));all_goals conv=>whnf)
 all_goals exact LeD.rfl

include hV
theorem boxed_match_y {mk:List (Int×Int)} {mv:List Vl} {ev:Int→Int→Vl} {k0 m0:Int} {t0:List UInt8} {a0 b0:Rf} {s0:List Nd} {m1:Int} {t1:List UInt8} {a1 b1:Rf} {s1:List Nd} (hx0:KdOk (wG gl) mk mv ev (.mk k0 m0 t0 a0 b0 s0)) (hx1:KdOk (wG gl) mk mv ev (.mk 6 m1 t1 a1 b1 s1)) (hM:MapOk mk mv ev) (hev:∀ c r,(ev c r).ok):FnP Tryz.prog (wG gl) 116 [mpE mk mv,.str nMATCH,.lst 12 (Nd.csL [.mk k0 m0 t0 a0 b0 s0,.mk 6 m1 t1 a1 b1 s1])] (boxedV nMATCH [evA ev (.mk k0 m0 t0 a0 b0 s0),evA ev (.mk 6 m1 t1 a1 b1 s1)]).d:=by
 obtain ⟨x0,y0,x1,y1,cs,w,h,hb⟩:=bxK hx1
 have c1:=hb.run
 have c2:=hx0.run
 have hvo:=hx0.vok
 have eb:boxedV nMATCH [evA ev (.mk k0 m0 t0 a0 b0 s0),evA ev (.mk 6 m1 t1 a1 b1 s1)]=boxV nMATCH [evA ev (.mk k0 m0 t0 a0 b0 s0),evA ev (.mk 6 m1 t1 a1 b1 s1)] (cs.map (ePt ev)) w:=by
  unfold boxedV
  rw[show (aI [evA ev (.mk k0 m0 t0 a0 b0 s0),evA ev (.mk 6 m1 t1 a1 b1 s1)] (if nMATCH=nMATCH∨nMATCH=nLOOKUP then 1 else 0)).bx=some (cs.map (ePt ev),w) by show (evA ev (.mk 6 m1 t1 a1 b1 s1)).bx=_;rw[hb.arg];rfl]
 rw[eb,show boxV nMATCH [evA ev (.mk k0 m0 t0 a0 b0 s0),evA ev (.mk 6 m1 t1 a1 b1 s1)] (cs.map (ePt ev)) w=if (evN ev (.mk k0 m0 t0 a0 b0 s0)).k=4 then evN ev (.mk k0 m0 t0 a0 b0 s0) else matchV (cs.map (ePt ev)) (evN ev (.mk k0 m0 t0 a0 b0 s0)) from rfl]
 have w1:=hb.ww
 have w2:=hb.wh
 have w3:=hb.ew
 have w4:=hb.eh
 have hcl:cs.length≤2574:=by rw[hb.len];exact mulLe99 (Nat.le_refl _) hb.h2 hb.w2
 clear hb eb hx0 hx1
 have hrc:(cs.map rowC).length=cs.length:=List.length_map _
 generalize evN ev (.mk k0 m0 t0 a0 b0 s0)=v at *
 have c3:FnP Tryz.prog (wG gl) 107 [v.d] (.b (v.k=4) inferInstance):=bad_d
 have e1:IntKind.i64.wrap (1 - 1)=0:=by decide
 have g0:(Nd.csL [.mk k0 m0 t0 a0 b0 s0,.mk 6 m1 t1 a1 b1 s1])[(0:Int).toNat]?=some (ndR k0 m0 t0 a0 b0 s0):=rfl
 have g1:(Nd.csL [.mk k0 m0 t0 a0 b0 s0,.mk 6 m1 t1 a1 b1 s1])[(1:Int).toNat]?=some (ndR 6 m1 t1 a1 b1 s1):=rfl
 by_cases h4:v.k=4
 ·rw[if_pos h4]
  refine S0 Tryz.func116 rfl ?_
  ((repeat' ((conv=>whnf);first|exact .intro|refine G ?_|intro _|refine C1 c1 ?_|refine C1 c2 ?_|refine C1 c3 ?_|(first|rw[w1]|rw[w2]|rw[w3]|rw[w4]|rw[e1]|refine ⟨Int.le_refl _,_,g0,?_⟩|refine ⟨by decide,_,g1,?_⟩)|refine .mk ?_ ?_|refine H ?_|fail));all_goals conv=>whnf)
  all_goals exact LeD.rfl
 rw[if_neg h4]
 refine S0 Tryz.func116 rfl ?_
 ((repeat' ((conv=>whnf);first|exact .intro|refine G ?_|intro _|refine C1 c1 ?_|refine C1 c2 ?_|refine C1 c3 ?_|(first|rw[w1]|rw[w2]|rw[w3]|rw[w4]|rw[e1]|refine ⟨Int.le_refl _,_,g0,?_⟩|refine ⟨by decide,_,g1,?_⟩)|refine .mk ?_ ?_|refine H ?_|fail));all_goals conv=>whnf)
 have hma:=match_at (cs.map (ePt ev)) v
 generalize matchV (cs.map (ePt ev)) v=z at *
 refine ⟨{ σ:=Nat,fr:=fun k=>[(118,.c (.d (iD (k:Int))))],ks:=[],L:=fun k=>[],ex:=0,I:=fun k=>k≤cs.length∧∀ (j:Nat) (hj:j<cs.length),j<k→¬ alikeP (ePt ev cs[j]) v,μ:=fun k=>cs.length - k },⟨0,⟨Nat.zero_le _,fun j _ hj=>absurd hj (Nat.not_lt_zero j)⟩,?_⟩,fun (k:Nat) hk=>?_⟩
 ·((repeat' first|exact rfl|((conv=>whnf);first|done|exact suL|refine And.intro ?_ ?_|fail));all_goals conv=>whnf)
 ·obtain ⟨hk,hkn⟩:=hk
  by_cases hlt:k<cs.length
  ·have h2:(k:Int)<(((cs.map rowC).length:Nat):Int):=by omega
   have g5:=get_map (f:=rowC) hlt
   have e0:=wx (x:=k) (by omega)
   have c4:=alike_d te pe hV (hev (cs[k]).1 (cs[k]).2) hvo
   have hz:alikeP (ePt ev cs[k]) v→z=⟨1,(k:Int)+1,[]⟩:=fun ha=>by
    rcases hma with ⟨q1,_⟩|⟨x,qx,q1,q2,q3⟩
    ·exact absurd ha (by have:=q1 k (by rw[List.length_map];exact hlt);rwa [List.getElem_map] at this)
    ·rw[List.length_map] at qx
     have:x=k:=by
      rcases Nat.lt_trichotomy x k with hh|hh|hh
      ·rw[List.getElem_map] at q1
       exact absurd q1 (hkn x qx hh)
      ·exact hh
      ·have:=q2 k hh
       rw[List.getElem_map] at this
       exact absurd ha this
     rw[q3,this]
   have hkn1:¬ alikeP (ePt ev cs[k]) v→∀ (j:Nat) (hj:j<cs.length),j<k+1→¬ alikeP (ePt ev cs[j]) v:=fun hn j hj hjk=>by
    rcases Nat.lt_succ_iff_lt_or_eq.1 hjk with hh|rfl
    ·exact hkn j hj hh
    ·exact hn
   have hlk:=look_ev hM (cs[k]).1 (cs[k]).2
   have c5:=Num_d (gl:=wG gl) ((k:Int)+1)
   have e2:IntKind.i64.wrap ((k:Int)+1)=(k:Int)+1:=e0.trans (by omega)
   generalize cs[k]=p at *
   obtain ⟨pc,pr⟩:=p
   change alikeP (ev pc pr) v→_ at hz
   change ¬ alikeP (ev pc pr) v→_ at hkn1
   generalize ev pc pr=u at *
   rcases hlk with ⟨i,hi⟩|⟨hi,rfl⟩
   ·by_cases ha:alikeP u v
    ·rw[hz ha]
     ((repeat' ((conv=>whnf);first|exact .intro|refine G ?_|intro _|refine C1 c4 ?_|refine C1 c5 ?_|(first|refine ⟨Int.natCast_nonneg _,_,g5,?_⟩|refine ⟨3,⟨key_cell,rfl,keys_E _⟩,by kernel_rfl,.inl ⟨_,_,hi,?_⟩⟩|rw[e2])|refine .mk ?_ ?_|refine H ?_|fail));all_goals conv=>whnf)
     all_goals exact LeD.rfl
    ·((repeat' ((conv=>whnf);first|exact .intro|refine G ?_|intro _|refine C1 c4 ?_|(first|refine ⟨Int.natCast_nonneg _,_,g5,?_⟩|refine ⟨3,⟨key_cell,rfl,keys_E _⟩,by kernel_rfl,.inl ⟨_,_,hi,?_⟩⟩)|refine .mk ?_ ?_|refine H ?_|fail));all_goals conv=>whnf)
     all_goals refine ⟨k+1,⟨⟨hlt,hkn1 ha⟩,by show cs.length - (k+1)<cs.length - k;omega⟩,?_⟩
     all_goals ((repeat' first|exact rfl|((conv=>whnf);first|done|exact suL|refine And.intro ?_ ?_|fail));all_goals conv=>whnf)
     all_goals first|exact ceq e0|skip
   ·by_cases ha:alikeP ⟨0,0,[]⟩ v
    ·rw[hz ha]
     ((repeat' ((conv=>whnf);first|exact .intro|refine G ?_|intro _|refine C1 c4 ?_|refine C1 c5 ?_|(first|refine ⟨Int.natCast_nonneg _,_,g5,?_⟩|refine ⟨3,⟨key_cell,rfl,keys_E _⟩,by kernel_rfl,.inr ⟨hi,?_⟩⟩|rw[e2])|refine .mk ?_ ?_|refine H ?_|fail));all_goals conv=>whnf)
     all_goals exact LeD.rfl
    ·((repeat' ((conv=>whnf);first|exact .intro|refine G ?_|intro _|refine C1 c4 ?_|(first|refine ⟨Int.natCast_nonneg _,_,g5,?_⟩|refine ⟨3,⟨key_cell,rfl,keys_E _⟩,by kernel_rfl,.inr ⟨hi,?_⟩⟩)|refine .mk ?_ ?_|refine H ?_|fail));all_goals conv=>whnf)
     all_goals refine ⟨k+1,⟨⟨hlt,hkn1 ha⟩,by show cs.length - (k+1)<cs.length - k;omega⟩,?_⟩
     all_goals ((repeat' first|exact rfl|((conv=>whnf);first|done|exact suL|refine And.intro ?_ ?_|fail));all_goals conv=>whnf)
     all_goals first|exact ceq e0|skip
  ·have h2:¬ (k:Int)<(((cs.map rowC).length:Nat):Int):=by omega
   have hz:z=⟨4,6,[]⟩:=by
    rcases hma with ⟨_,q⟩|⟨x,qx,q1,_⟩
    ·exact q
    ·rw[List.length_map] at qx
     rw[List.getElem_map] at q1
     exact absurd q1 (hkn x qx (by omega))
   rw[hz]
   have c5:=Wrong_d (gl:=wG gl) 6
   ((repeat' ((conv=>whnf);first|exact .intro|refine G ?_|intro _|refine C1 c5 ?_|refine .mk ?_ ?_|refine H ?_|fail));all_goals conv=>whnf)
   all_goals exact LeD.rfl
end
end Go.Proofs.YtfkjhfdpphfjhaaGreatDoor
