/- Proved: a part of what the law is proved with (the reckoner, contracts of functions, plain laws). Conditions: as each says. -/
import Derived.Test.YtfkjhfdpphfjhaaGreatDoorFDl
namespace Go.Proofs.YtfkjhfdpphfjhaaGreatDoor
open Go Go.RowKit Go.EYtfkjhfdpphfjhaaGreatDoor
set_option maxRecDepth 100000
set_option maxHeartbeats 4000000
variable {gl:List (Nat×List D)}
theorem countP_snoc {α:Type} {p:α→Bool} {l:List α} {k:Nat} (h:k<l.length):(l.take (k+1)).countP p=(l.take k).countP p+(if p l[k]=true then 1 else 0):=by
 rw[List.take_succ_eq_append_getElem h,List.countP_append]
 simp
theorem sumif_step {v:Vl} {ps:List (Vl×Vl)} {j:Nat} (h:j<ps.length) (all:List Int):sumifL v (ps.drop j) all=if alikeP ps[j].1 v then (if ps[j].2.k=4 then ps[j].2 else if ps[j].2.k=1 then sumifL v (ps.drop (j+1)) (all++[ps[j].2.n]) else sumifL v (ps.drop (j+1)) all) else sumifL v (ps.drop (j+1)) all:=by
 rw[List.drop_eq_getElem_cons h]
 cases ps[j]
 rw[sumifL]
section
variable (te:TypeId) (pe:Value) (hV:Has (wG gl) (glV te pe))
include hV
theorem boxed_lookup_y {mk:List (Int×Int)} {mv:List Vl} {ev:Int→Int→Vl} {k0 m0:Int} {t0:List UInt8} {a0 b0:Rf} {s0:List Nd} {m1:Int} {t1:List UInt8} {a1 b1:Rf} {s1:List Nd} {k2 m2:Int} {t2:List UInt8} {a2 b2:Rf} {s2:List Nd} (hx0:KdOk (wG gl) mk mv ev (.mk k0 m0 t0 a0 b0 s0)) (hx1:KdOk (wG gl) mk mv ev (.mk 6 m1 t1 a1 b1 s1)) (hx2:KdOk (wG gl) mk mv ev (.mk k2 m2 t2 a2 b2 s2)) (hM:MapOk mk mv ev) (hev:∀ c r,(ev c r).ok):FnP Tryz.prog (wG gl) 116 [mpE mk mv,.str nLOOKUP,.lst 12 (Nd.csL [.mk k0 m0 t0 a0 b0 s0,.mk 6 m1 t1 a1 b1 s1,.mk k2 m2 t2 a2 b2 s2])] (boxedV nLOOKUP [evA ev (.mk k0 m0 t0 a0 b0 s0),evA ev (.mk 6 m1 t1 a1 b1 s1),evA ev (.mk k2 m2 t2 a2 b2 s2)]).d:=by
 obtain ⟨x0,y0,x1,y1,cs,w,h,hb⟩:=bxK hx1
 have c1:=hb.run
 have c2:=hx0.run
 have c6:=hx2.run
 have hvo:=hx0.vok
 have c7:=numC te pe hV hx2.vok
 have eb:boxedV nLOOKUP [evA ev (.mk k0 m0 t0 a0 b0 s0),evA ev (.mk 6 m1 t1 a1 b1 s1),evA ev (.mk k2 m2 t2 a2 b2 s2)]=boxV nLOOKUP [evA ev (.mk k0 m0 t0 a0 b0 s0),evA ev (.mk 6 m1 t1 a1 b1 s1),evA ev (.mk k2 m2 t2 a2 b2 s2)] (cs.map (ePt ev)) w:=by
  unfold boxedV
  rw[show (aI [evA ev (.mk k0 m0 t0 a0 b0 s0),evA ev (.mk 6 m1 t1 a1 b1 s1),evA ev (.mk k2 m2 t2 a2 b2 s2)] (if nLOOKUP=nMATCH∨nLOOKUP=nLOOKUP then 1 else 0)).bx=some (cs.map (ePt ev),w) by show (evA ev (.mk 6 m1 t1 a1 b1 s1)).bx=_;rw[hb.arg];rfl]
 rw[eb,show boxV nLOOKUP [evA ev (.mk k0 m0 t0 a0 b0 s0),evA ev (.mk 6 m1 t1 a1 b1 s1),evA ev (.mk k2 m2 t2 a2 b2 s2)] (cs.map (ePt ev)) w=if (evN ev (.mk k0 m0 t0 a0 b0 s0)).k=4 then evN ev (.mk k0 m0 t0 a0 b0 s0) else lookV (cs.map (ePt ev)) w (evN ev (.mk k0 m0 t0 a0 b0 s0)) (evN ev (.mk k2 m2 t2 a2 b2 s2)) from rfl]
 have w1:=hb.ww
 have w2:=hb.wh
 have w3:=hb.ew
 have w4:=hb.eh
 have hcn:=hb.len
 have hw1:=hb.w1
 have hw2:=hb.w2
 have hh2:=hb.h2
 have hcl:cs.length≤2574:=by rw[hb.len];exact mulLe99 (Nat.le_refl _) hb.h2 hb.w2
 have hla:=look_at (cs.map (ePt ev)) w h (evN ev (.mk k0 m0 t0 a0 b0 s0)) (by rw[List.length_map];exact hcn) hw1
 clear hb eb hx0 hx1 hx2
 have hrc:(cs.map rowC).length=cs.length:=List.length_map _
 have lv4:(numV (evN ev (.mk k2 m2 t2 a2 b2 s2))).k=4→lookV (cs.map (ePt ev)) w (evN ev (.mk k0 m0 t0 a0 b0 s0)) (evN ev (.mk k2 m2 t2 a2 b2 s2))=numV (evN ev (.mk k2 m2 t2 a2 b2 s2)):=fun hh=>by unfold lookV;rw[if_pos hh]
 have lv3:¬ (numV (evN ev (.mk k2 m2 t2 a2 b2 s2))).k=4→(numV (evN ev (.mk k2 m2 t2 a2 b2 s2))).n<1∨(w:Int)<(numV (evN ev (.mk k2 m2 t2 a2 b2 s2))).n→lookV (cs.map (ePt ev)) w (evN ev (.mk k0 m0 t0 a0 b0 s0)) (evN ev (.mk k2 m2 t2 a2 b2 s2))=⟨4,3,[]⟩:=fun hh h'=>by unfold lookV;rw[if_neg hh,if_pos h']
 have lvs:∀ r,¬ (numV (evN ev (.mk k2 m2 t2 a2 b2 s2))).k=4→¬ ((numV (evN ev (.mk k2 m2 t2 a2 b2 s2))).n<1∨(w:Int)<(numV (evN ev (.mk k2 m2 t2 a2 b2 s2))).n)→lookR (cs.map (ePt ev)) w (evN ev (.mk k0 m0 t0 a0 b0 s0))=some r→lookV (cs.map (ePt ev)) w (evN ev (.mk k0 m0 t0 a0 b0 s0)) (evN ev (.mk k2 m2 t2 a2 b2 s2))=(cs.map (ePt ev)).getD (r * w+(numV (evN ev (.mk k2 m2 t2 a2 b2 s2))).n.toNat - 1) wrV:=fun r hh h' hr=>by unfold lookV;rw[if_neg hh,if_neg h',hr]
 have lvn:¬ (numV (evN ev (.mk k2 m2 t2 a2 b2 s2))).k=4→¬ ((numV (evN ev (.mk k2 m2 t2 a2 b2 s2))).n<1∨(w:Int)<(numV (evN ev (.mk k2 m2 t2 a2 b2 s2))).n)→lookR (cs.map (ePt ev)) w (evN ev (.mk k0 m0 t0 a0 b0 s0))=none→lookV (cs.map (ePt ev)) w (evN ev (.mk k0 m0 t0 a0 b0 s0)) (evN ev (.mk k2 m2 t2 a2 b2 s2))=⟨4,6,[]⟩:=fun hh h' hr=>by unfold lookV;rw[if_neg hh,if_neg h',hr]
 generalize lookV (cs.map (ePt ev)) w (evN ev (.mk k0 m0 t0 a0 b0 s0)) (evN ev (.mk k2 m2 t2 a2 b2 s2))=z at *
 generalize evN ev (.mk k0 m0 t0 a0 b0 s0)=v at *
 generalize numV (evN ev (.mk k2 m2 t2 a2 b2 s2))=y at *
 generalize evN ev (.mk k2 m2 t2 a2 b2 s2)=v2 at *
 have c3:FnP Tryz.prog (wG gl) 107 [v.d] (.b (v.k=4) inferInstance):=bad_d
 have c8:FnP Tryz.prog (wG gl) 107 [y.d] (.b (y.k=4) inferInstance):=bad_d
 have c9:=Wrong_d (gl:=wG gl) 3
 have e1:IntKind.i64.wrap (1 - 1)=0:=by decide
 have g0:(Nd.csL [.mk k0 m0 t0 a0 b0 s0,.mk 6 m1 t1 a1 b1 s1,.mk k2 m2 t2 a2 b2 s2])[(0:Int).toNat]?=some (ndR k0 m0 t0 a0 b0 s0):=rfl
 have g1:(Nd.csL [.mk k0 m0 t0 a0 b0 s0,.mk 6 m1 t1 a1 b1 s1,.mk k2 m2 t2 a2 b2 s2])[(1:Int).toNat]?=some (ndR 6 m1 t1 a1 b1 s1):=rfl
 have g2:(Nd.csL [.mk k0 m0 t0 a0 b0 s0,.mk 6 m1 t1 a1 b1 s1,.mk k2 m2 t2 a2 b2 s2])[(2:Int).toNat]?=some (ndR k2 m2 t2 a2 b2 s2):=rfl
 by_cases h4:v.k=4
 ·rw[if_pos h4]
  refine S0 Tryz.func116 rfl ?_
  ((repeat' ((conv=>whnf);first|exact .intro|refine G ?_|intro _|refine C1 c1 ?_|refine C1 c2 ?_|refine C1 c3 ?_|(first|rw[w1]|rw[w2]|rw[w3]|rw[w4]|rw[e1]|refine ⟨Int.le_refl _,_,g0,?_⟩|refine ⟨by decide,_,g1,?_⟩|refine ⟨by decide,_,g2,?_⟩)|refine .mk ?_ ?_|refine H ?_|fail));all_goals conv=>whnf)
  all_goals exact LeD.rfl
 rw[if_neg h4]
 by_cases h5:y.k=4
 ·rw[lv4 h5]
  refine S0 Tryz.func116 rfl ?_
  ((repeat' ((conv=>whnf);first|exact .intro|refine G ?_|intro _|refine C1 c1 ?_|refine C1 c2 ?_|refine C1 c3 ?_|refine C1 c6 ?_|refine C1 c7 ?_|refine C1 c8 ?_|(first|rw[w1]|rw[w2]|rw[w3]|rw[w4]|rw[e1]|refine ⟨Int.le_refl _,_,g0,?_⟩|refine ⟨by decide,_,g1,?_⟩|refine ⟨by decide,_,g2,?_⟩)|refine .mk ?_ ?_|refine H ?_|fail));all_goals conv=>whnf)
  all_goals exact LeD.rfl
 by_cases h6:y.n<1
 ·rw[lv3 h5 (.inl h6)]
  refine S0 Tryz.func116 rfl ?_
  ((repeat' ((conv=>whnf);first|exact .intro|refine G ?_|intro _|refine C1 c1 ?_|refine C1 c2 ?_|refine C1 c3 ?_|refine C1 c6 ?_|refine C1 c7 ?_|refine C1 c8 ?_|refine C1 c9 ?_|(first|rw[w1]|rw[w2]|rw[w3]|rw[w4]|rw[e1]|refine ⟨Int.le_refl _,_,g0,?_⟩|refine ⟨by decide,_,g1,?_⟩|refine ⟨by decide,_,g2,?_⟩)|refine .mk ?_ ?_|refine H ?_|fail));all_goals conv=>whnf)
  all_goals exact LeD.rfl
 by_cases h7:(w:Int)<y.n
 ·rw[lv3 h5 (.inr h7)]
  refine S0 Tryz.func116 rfl ?_
  ((repeat' ((conv=>whnf);first|exact .intro|refine G ?_|intro _|refine C1 c1 ?_|refine C1 c2 ?_|refine C1 c3 ?_|refine C1 c6 ?_|refine C1 c7 ?_|refine C1 c8 ?_|refine C1 c9 ?_|(first|rw[w1]|rw[w2]|rw[w3]|rw[w4]|rw[e1]|refine ⟨Int.le_refl _,_,g0,?_⟩|refine ⟨by decide,_,g1,?_⟩|refine ⟨by decide,_,g2,?_⟩)|refine .mk ?_ ?_|refine H ?_|fail));all_goals conv=>whnf)
  all_goals exact LeD.rfl
 replace lvs:=fun r=>lvs r h5 fun hh=>hh.elim h6 h7
 replace lvn:=lvn h5 fun hh=>hh.elim h6 h7
 clear lv4 lv3
 obtain ⟨q,hq⟩:∃ q:Nat,y.n=((q+1:Nat):Int):=⟨(y.n - 1).toNat,by omega⟩
 have hqw:q<w:=by omega
 rw[show y.n.toNat=q+1 by omega] at lvs
 refine S0 Tryz.func116 rfl ?_
 ((repeat' ((conv=>whnf);first|exact .intro|refine G ?_|intro _|refine C1 c1 ?_|refine C1 c2 ?_|refine C1 c3 ?_|refine C1 c6 ?_|refine C1 c7 ?_|refine C1 c8 ?_|refine C1 c9 ?_|(first|rw[w1]|rw[w2]|rw[w3]|rw[w4]|rw[e1]|refine ⟨Int.le_refl _,_,g0,?_⟩|refine ⟨by decide,_,g1,?_⟩|refine ⟨by decide,_,g2,?_⟩)|refine .mk ?_ ?_|refine H ?_|fail));all_goals conv=>whnf)
 refine ⟨{ σ:=Nat,fr:=fun r=>[(19,.c (.d (iD ((r * w:Nat):Int))))],ks:=[],L:=fun r=>[],ex:=0,I:=fun r=>r≤h∧∀ (j:Nat),j<r→¬ alikeP ((cs.map (ePt ev)).getD (j * w) wrV) v,μ:=fun r=>h - r },⟨0,⟨Nat.zero_le _,fun j hj=>absurd hj (Nat.not_lt_zero j)⟩,?_⟩,fun (r:Nat) hr=>?_⟩
 ·((repeat' first|exact rfl|((conv=>whnf);first|done|exact suL|refine And.intro ?_ ?_|fail));all_goals conv=>whnf)
  all_goals first|exact ceq (by rw[Nat.zero_mul];rfl)|skip
 ·obtain ⟨hr,hrn⟩:=hr
  by_cases hlt:r<h
  ·have hi:r * w<cs.length:=by rw[hcn];exact mul_ltR hlt hw1
   have hi2:r * w+q<cs.length:=by
    have:=Nat.mul_le_mul_right w (show r+1≤h from hlt)
    rw[Nat.succ_mul,← hcn] at this
    omega
   have h2:((r * w:Nat):Int)<(((cs.map rowC).length:Nat):Int):=by omega
   have g5:=get_map (f:=rowC) hi
   have g6:=get_map (f:=rowC) hi2
   have e0:IntKind.i64.wrap (((r * w:Nat):Int)+(w:Int))=(((r+1) * w:Nat):Int):=by rw[wrapI (by omega),Nat.succ_mul];omega
   have e2:IntKind.i64.wrap (((r * w:Nat):Int)+y.n)=((r * w+q+1:Nat):Int):=by rw[hq,wrapI (by omega)];omega
   have e3:IntKind.i64.wrap (((r * w+q+1:Nat):Int) - 1)=((r * w+q:Nat):Int):=by rw[wrapI (by omega)];omega
   have hgd:=getD_map (ev:=ev) hi
   have hgd2:=getD_map (ev:=ev) hi2
   have c4:=alike_d te pe hV (hev (cs[r * w]).1 (cs[r * w]).2) hvo
   have hz:alikeP (ePt ev cs[r * w]) v→z=ePt ev cs[r * w+q]:=fun ha=>by
    rw[← hgd] at ha
    rcases hla with ⟨q1,_⟩|⟨x,qx,q1,q2,q3⟩
    ·exact absurd ha (q1 r hlt)
    ·have:x=r:=by
      rcases Nat.lt_trichotomy x r with hh|hh|hh
      ·exact absurd q1 (hrn x hh)
      ·exact hh
      ·exact absurd ha (q2 r hh)
     subst this
     rw[lvs _ q3,show x * w+(q+1) - 1=x * w+q by omega,hgd2]
   have hrn1:¬ alikeP (ePt ev cs[r * w]) v→∀ (j:Nat),j<r+1→¬ alikeP ((cs.map (ePt ev)).getD (j * w) wrV) v:=fun hn j hj=>by
    rcases Nat.lt_succ_iff_lt_or_eq.1 hj with hh|rfl
    ·exact hrn j hh
    ·rw[hgd];exact hn
   have hlk:=look_ev hM (cs[r * w]).1 (cs[r * w]).2
   have hlk2:=look_ev hM (cs[r * w+q]).1 (cs[r * w+q]).2
   clear hgd hgd2 hla
   generalize cs[r * w]=p at *
   generalize cs[r * w+q]=p2 at *
   obtain ⟨pc,pr⟩:=p
   obtain ⟨pc2,pr2⟩:=p2
   change alikeP (ev pc pr) v→z=ev pc2 pr2 at hz
   change ¬ alikeP (ev pc pr) v→_ at hrn1
   generalize ev pc pr=u at *
   generalize ev pc2 pr2=u2 at *
   rcases hlk with ⟨i,hi1⟩|⟨hi1,rfl⟩
   ·by_cases ha:alikeP u v
    ·rw[hz ha]
     rcases hlk2 with ⟨i2,hi2'⟩|⟨hi2',rfl⟩
     ·((repeat' ((conv=>whnf);first|exact .intro|refine G ?_|intro _|refine C1 c4 ?_|(first|refine ⟨Int.natCast_nonneg _,_,g5,?_⟩|refine ⟨Int.natCast_nonneg _,_,g6,?_⟩|refine ⟨3,⟨key_cell,rfl,keys_E _⟩,by kernel_rfl,.inl ⟨_,_,hi1,?_⟩⟩|refine ⟨3,⟨key_cell,rfl,keys_E _⟩,by kernel_rfl,.inl ⟨_,_,hi2',?_⟩⟩|rw[e2]|rw[e3])|refine .mk ?_ ?_|refine H ?_|fail));all_goals conv=>whnf)
      all_goals exact LeD.rfl
     ·((repeat' ((conv=>whnf);first|exact .intro|refine G ?_|intro _|refine C1 c4 ?_|(first|refine ⟨Int.natCast_nonneg _,_,g5,?_⟩|refine ⟨Int.natCast_nonneg _,_,g6,?_⟩|refine ⟨3,⟨key_cell,rfl,keys_E _⟩,by kernel_rfl,.inl ⟨_,_,hi1,?_⟩⟩|refine ⟨3,⟨key_cell,rfl,keys_E _⟩,by kernel_rfl,.inr ⟨hi2',?_⟩⟩|rw[e2]|rw[e3])|refine .mk ?_ ?_|refine H ?_|fail));all_goals conv=>whnf)
      all_goals exact LeD.rfl
    ·((repeat' ((conv=>whnf);first|exact .intro|refine G ?_|intro _|refine C1 c4 ?_|(first|refine ⟨Int.natCast_nonneg _,_,g5,?_⟩|refine ⟨3,⟨key_cell,rfl,keys_E _⟩,by kernel_rfl,.inl ⟨_,_,hi1,?_⟩⟩)|refine .mk ?_ ?_|refine H ?_|fail));all_goals conv=>whnf)
     all_goals refine ⟨r+1,⟨⟨hlt,hrn1 ha⟩,by show h - (r+1)<h - r;omega⟩,?_⟩
     all_goals ((repeat' first|exact rfl|((conv=>whnf);first|done|exact suL|refine And.intro ?_ ?_|fail));all_goals conv=>whnf)
     all_goals first|exact ceq e0|skip
   ·by_cases ha:alikeP ⟨0,0,[]⟩ v
    ·rw[hz ha]
     rcases hlk2 with ⟨i2,hi2'⟩|⟨hi2',rfl⟩
     ·((repeat' ((conv=>whnf);first|exact .intro|refine G ?_|intro _|refine C1 c4 ?_|(first|refine ⟨Int.natCast_nonneg _,_,g5,?_⟩|refine ⟨Int.natCast_nonneg _,_,g6,?_⟩|refine ⟨3,⟨key_cell,rfl,keys_E _⟩,by kernel_rfl,.inl ⟨_,_,hi2',?_⟩⟩|refine ⟨3,⟨key_cell,rfl,keys_E _⟩,by kernel_rfl,.inr ⟨hi1,?_⟩⟩|rw[e2]|rw[e3])|refine .mk ?_ ?_|refine H ?_|fail));all_goals conv=>whnf)
      all_goals exact LeD.rfl
     ·((repeat' ((conv=>whnf);first|exact .intro|refine G ?_|intro _|refine C1 c4 ?_|(first|refine ⟨Int.natCast_nonneg _,_,g5,?_⟩|refine ⟨Int.natCast_nonneg _,_,g6,?_⟩|refine ⟨3,⟨key_cell,rfl,keys_E _⟩,by kernel_rfl,.inr ⟨hi1,?_⟩⟩|refine ⟨3,⟨key_cell,rfl,keys_E _⟩,by kernel_rfl,.inr ⟨hi2',?_⟩⟩|rw[e2]|rw[e3])|refine .mk ?_ ?_|refine H ?_|fail));all_goals conv=>whnf)
      all_goals exact LeD.rfl
    ·((repeat' ((conv=>whnf);first|exact .intro|refine G ?_|intro _|refine C1 c4 ?_|(first|refine ⟨Int.natCast_nonneg _,_,g5,?_⟩|refine ⟨3,⟨key_cell,rfl,keys_E _⟩,by kernel_rfl,.inr ⟨hi1,?_⟩⟩)|refine .mk ?_ ?_|refine H ?_|fail));all_goals conv=>whnf)
     all_goals refine ⟨r+1,⟨⟨hlt,hrn1 ha⟩,by show h - (r+1)<h - r;omega⟩,?_⟩
     all_goals ((repeat' first|exact rfl|((conv=>whnf);first|done|exact suL|refine And.intro ?_ ?_|fail));all_goals conv=>whnf)
     all_goals first|exact ceq e0|skip
  ·obtain rfl:r=h:=by omega
   have h2:¬ ((r * w:Nat):Int)<(((cs.map rowC).length:Nat):Int):=by rw[hrc,hcn];omega
   have hz:z=⟨4,6,[]⟩:=by
    rcases hla with ⟨_,q1⟩|⟨x,qx,q1,_⟩
    ·exact lvn q1
    ·exact absurd q1 (hrn x qx)
   rw[hz]
   have c5:=Wrong_d (gl:=wG gl) 6
   ((repeat' ((conv=>whnf);first|exact .intro|refine G ?_|intro _|refine C1 c5 ?_|refine .mk ?_ ?_|refine H ?_|fail));all_goals conv=>whnf)
   all_goals exact LeD.rfl
theorem boxed_countif_y {mk:List (Int×Int)} {mv:List Vl} {ev:Int→Int→Vl} {m0:Int} {t0:List UInt8} {a0 b0:Rf} {s0:List Nd} {k1 m1:Int} {t1:List UInt8} {a1 b1:Rf} {s1:List Nd} (hx0:KdOk (wG gl) mk mv ev (.mk 6 m0 t0 a0 b0 s0)) (hx1:KdOk (wG gl) mk mv ev (.mk k1 m1 t1 a1 b1 s1)) (hM:MapOk mk mv ev) (hev:∀ c r,(ev c r).ok):FnP Tryz.prog (wG gl) 116 [mpE mk mv,.str nCOUNTIF,.lst 12 (Nd.csL [.mk 6 m0 t0 a0 b0 s0,.mk k1 m1 t1 a1 b1 s1])] (boxedV nCOUNTIF [evA ev (.mk 6 m0 t0 a0 b0 s0),evA ev (.mk k1 m1 t1 a1 b1 s1)]).d:=by
 obtain ⟨x0,y0,x1,y1,cs,w,h,hb⟩:=bxK hx0
 have c1:=hb.run
 have c2:=hx1.run
 have hvo:=hx1.vok
 have eb:boxedV nCOUNTIF [evA ev (.mk 6 m0 t0 a0 b0 s0),evA ev (.mk k1 m1 t1 a1 b1 s1)]=boxV nCOUNTIF [evA ev (.mk 6 m0 t0 a0 b0 s0),evA ev (.mk k1 m1 t1 a1 b1 s1)] (cs.map (ePt ev)) w:=by
  unfold boxedV
  rw[show (aI [evA ev (.mk 6 m0 t0 a0 b0 s0),evA ev (.mk k1 m1 t1 a1 b1 s1)] (if nCOUNTIF=nMATCH∨nCOUNTIF=nLOOKUP then 1 else 0)).bx=some (cs.map (ePt ev),w) by show (evA ev (.mk 6 m0 t0 a0 b0 s0)).bx=_;rw[hb.arg];rfl]
 rw[eb,show boxV nCOUNTIF [evA ev (.mk 6 m0 t0 a0 b0 s0),evA ev (.mk k1 m1 t1 a1 b1 s1)] (cs.map (ePt ev)) w=if (evN ev (.mk k1 m1 t1 a1 b1 s1)).k=4 then evN ev (.mk k1 m1 t1 a1 b1 s1) else ⟨1,(((cs.map (ePt ev)).countP fun x=>decide (alikeP x (evN ev (.mk k1 m1 t1 a1 b1 s1))):Nat):Int),[]⟩ from rfl]
 have w1:=hb.ww
 have w2:=hb.wh
 have w3:=hb.ew
 have w4:=hb.eh
 have hcl:cs.length≤2574:=by rw[hb.len];exact mulLe99 (Nat.le_refl _) hb.h2 hb.w2
 clear hb eb hx0 hx1
 have hrc:(cs.map rowC).length=cs.length:=List.length_map _
 generalize evN ev (.mk k1 m1 t1 a1 b1 s1)=v at *
 have c3:FnP Tryz.prog (wG gl) 107 [v.d] (.b (v.k=4) inferInstance):=bad_d
 have e1:IntKind.i64.wrap (1 - 0)=1:=by decide
 have g0:(Nd.csL [.mk 6 m0 t0 a0 b0 s0,.mk k1 m1 t1 a1 b1 s1])[(0:Int).toNat]?=some (ndR 6 m0 t0 a0 b0 s0):=rfl
 have g1:(Nd.csL [.mk 6 m0 t0 a0 b0 s0,.mk k1 m1 t1 a1 b1 s1])[(1:Int).toNat]?=some (ndR k1 m1 t1 a1 b1 s1):=rfl
 by_cases h4:v.k=4
 ·rw[if_pos h4]
  refine S0 Tryz.func116 rfl ?_
  ((repeat' ((conv=>whnf);first|exact .intro|refine G ?_|intro _|refine C1 c1 ?_|refine C1 c2 ?_|refine C1 c3 ?_|(first|rw[w1]|rw[w2]|rw[w3]|rw[w4]|rw[e1]|refine ⟨Int.le_refl _,_,g0,?_⟩|refine ⟨by decide,_,g1,?_⟩)|refine .mk ?_ ?_|refine H ?_|fail));all_goals conv=>whnf)
  all_goals exact LeD.rfl
 rw[if_neg h4]
 refine S0 Tryz.func116 rfl ?_
 ((repeat' ((conv=>whnf);first|exact .intro|refine G ?_|intro _|refine C1 c1 ?_|refine C1 c2 ?_|refine C1 c3 ?_|(first|rw[w1]|rw[w2]|rw[w3]|rw[w4]|rw[e1]|refine ⟨Int.le_refl _,_,g0,?_⟩|refine ⟨by decide,_,g1,?_⟩)|refine .mk ?_ ?_|refine H ?_|fail));all_goals conv=>whnf)
 refine ⟨{ σ:=Nat,fr:=fun k=>[(209,.c (.d (iD (k:Int)))),(20,.c (.d (iD ((((cs.map (ePt ev)).take k).countP fun x=>decide (alikeP x v):Nat):Int)))),(21,.c (.d (.v (.slice none 0 0))))],ks:=[],L:=fun k=>[],ex:=0,I:=fun k=>k≤cs.length,μ:=fun k=>cs.length - k },⟨0,Nat.zero_le _,?_⟩,fun (k:Nat) hk=>?_⟩
 ·((repeat' first|exact rfl|((conv=>whnf);first|done|exact suL|refine And.intro ?_ ?_|fail));all_goals conv=>whnf)
 ·replace hk:k≤cs.length:=hk
  by_cases hlt:k<cs.length
  ·have h2:(k:Int)<(((cs.map rowC).length:Nat):Int):=by omega
   have g5:=get_map (f:=rowC) hlt
   have e0:=wx (x:=k) (by omega)
   have c4:=alike_d te pe hV (hev (cs[k]).1 (cs[k]).2) hvo
   have hsn:=countP_snoc (p:=fun x=>decide (alikeP x v)) (l:=cs.map (ePt ev)) (k:=k) (by rw[List.length_map];exact hlt)
   rw[List.getElem_map] at hsn
   have hle:=List.countP_le_length (p:=fun x=>decide (alikeP x v)) (l:=(cs.map (ePt ev)).take k)
   rw[List.length_take] at hle
   have e2:=wx (x:=((cs.map (ePt ev)).take k).countP fun x=>decide (alikeP x v)) (by omega)
   have hlk:=look_ev hM (cs[k]).1 (cs[k]).2
   generalize cs[k]=p at *
   obtain ⟨pc,pr⟩:=p
   change _=_+(if decide (alikeP (ev pc pr) v)=true then 1 else 0) at hsn
   generalize ev pc pr=u at *
   rcases hlk with ⟨i,hi⟩|⟨hi,rfl⟩
   ·by_cases ha:alikeP u v
    ·rw[if_pos (by simpa using ha)] at hsn
     ((repeat' ((conv=>whnf);first|exact .intro|refine G ?_|intro _|refine C1 c4 ?_|(first|refine ⟨Int.natCast_nonneg _,_,g5,?_⟩|refine ⟨3,⟨key_cell,rfl,keys_E _⟩,by kernel_rfl,.inl ⟨_,_,hi,?_⟩⟩)|refine .mk ?_ ?_|refine H ?_|fail));all_goals conv=>whnf)
     all_goals refine ⟨k+1,⟨hlt,by show cs.length - (k+1)<cs.length - k;omega⟩,?_⟩
     all_goals ((repeat' first|exact rfl|((conv=>whnf);first|done|exact suL|refine And.intro ?_ ?_|fail));all_goals conv=>whnf)
     all_goals first|exact ceq e0|exact ceq (e2.trans (by rw[hsn]))|skip
    ·rw[if_neg (by simpa using ha)] at hsn
     ((repeat' ((conv=>whnf);first|exact .intro|refine G ?_|intro _|refine C1 c4 ?_|(first|refine ⟨Int.natCast_nonneg _,_,g5,?_⟩|refine ⟨3,⟨key_cell,rfl,keys_E _⟩,by kernel_rfl,.inl ⟨_,_,hi,?_⟩⟩)|refine .mk ?_ ?_|refine H ?_|fail));all_goals conv=>whnf)
     all_goals refine ⟨k+1,⟨hlt,by show cs.length - (k+1)<cs.length - k;omega⟩,?_⟩
     all_goals ((repeat' first|exact rfl|((conv=>whnf);first|done|exact suL|refine And.intro ?_ ?_|fail));all_goals conv=>whnf)
     all_goals first|exact ceq e0|exact ceq (by rw[hsn];rfl)|skip
   ·by_cases ha:alikeP ⟨0,0,[]⟩ v
    ·rw[if_pos (by simpa using ha)] at hsn
     ((repeat' ((conv=>whnf);first|exact .intro|refine G ?_|intro _|refine C1 c4 ?_|(first|refine ⟨Int.natCast_nonneg _,_,g5,?_⟩|refine ⟨3,⟨key_cell,rfl,keys_E _⟩,by kernel_rfl,.inr ⟨hi,?_⟩⟩)|refine .mk ?_ ?_|refine H ?_|fail));all_goals conv=>whnf)
     all_goals refine ⟨k+1,⟨hlt,by show cs.length - (k+1)<cs.length - k;omega⟩,?_⟩
     all_goals ((repeat' first|exact rfl|((conv=>whnf);first|done|exact suL|refine And.intro ?_ ?_|fail));all_goals conv=>whnf)
     all_goals first|exact ceq e0|exact ceq (e2.trans (by rw[hsn]))|skip
    ·rw[if_neg (by simpa using ha)] at hsn
     ((repeat' ((conv=>whnf);first|exact .intro|refine G ?_|intro _|refine C1 c4 ?_|(first|refine ⟨Int.natCast_nonneg _,_,g5,?_⟩|refine ⟨3,⟨key_cell,rfl,keys_E _⟩,by kernel_rfl,.inr ⟨hi,?_⟩⟩)|refine .mk ?_ ?_|refine H ?_|fail));all_goals conv=>whnf)
     all_goals refine ⟨k+1,⟨hlt,by show cs.length - (k+1)<cs.length - k;omega⟩,?_⟩
     all_goals ((repeat' first|exact rfl|((conv=>whnf);first|done|exact suL|refine And.intro ?_ ?_|fail));all_goals conv=>whnf)
     all_goals first|exact ceq e0|exact ceq (by rw[hsn];rfl)|skip
  ·have h2:¬ (k:Int)<(((cs.map rowC).length:Nat):Int):=by omega
   obtain rfl:k=cs.length:=by omega
   have c5:=Num_d (gl:=wG gl) ((((cs.map (ePt ev)).take cs.length).countP fun x=>decide (alikeP x v):Nat):Int)
   ((repeat' ((conv=>whnf);first|exact .intro|refine G ?_|intro _|refine C1 c5 ?_|refine .mk ?_ ?_|refine H ?_|fail));all_goals conv=>whnf)
   all_goals exact LeD.of (by rw[List.take_of_length_le (by rw[List.length_map];exact Nat.le_refl _)];rfl)
theorem boxed_sumif_y {mk:List (Int×Int)} {mv:List Vl} {ev:Int→Int→Vl} {m0:Int} {t0:List UInt8} {a0 b0:Rf} {s0:List Nd} {k1 m1:Int} {t1:List UInt8} {a1 b1:Rf} {s1:List Nd} {m2:Int} {t2:List UInt8} {a2 b2:Rf} {s2:List Nd} (hx0:KdOk (wG gl) mk mv ev (.mk 6 m0 t0 a0 b0 s0)) (hx1:KdOk (wG gl) mk mv ev (.mk k1 m1 t1 a1 b1 s1)) (hx2:KdOk (wG gl) mk mv ev (.mk 6 m2 t2 a2 b2 s2)) (hM:MapOk mk mv ev) (hev:∀ c r,(ev c r).ok):FnP Tryz.prog (wG gl) 116 [mpE mk mv,.str nSUMIF,.lst 12 (Nd.csL [.mk 6 m0 t0 a0 b0 s0,.mk k1 m1 t1 a1 b1 s1,.mk 6 m2 t2 a2 b2 s2])] (boxedV nSUMIF [evA ev (.mk 6 m0 t0 a0 b0 s0),evA ev (.mk k1 m1 t1 a1 b1 s1),evA ev (.mk 6 m2 t2 a2 b2 s2)]).d:=by
 obtain ⟨x0,y0,x1,y1,cs,w,h,hb⟩:=bxK hx0
 obtain ⟨x2,y2,x3,y3,ds,w',h',hd⟩:=bxK hx2
 have c1:=hb.run
 have c6:=hd.run
 have c2:=hx1.run
 have hvo:=hx1.vok
 have eb:boxedV nSUMIF [evA ev (.mk 6 m0 t0 a0 b0 s0),evA ev (.mk k1 m1 t1 a1 b1 s1),evA ev (.mk 6 m2 t2 a2 b2 s2)]=boxV nSUMIF [evA ev (.mk 6 m0 t0 a0 b0 s0),evA ev (.mk k1 m1 t1 a1 b1 s1),evA ev (.mk 6 m2 t2 a2 b2 s2)] (cs.map (ePt ev)) w:=by
  unfold boxedV
  rw[show (aI [evA ev (.mk 6 m0 t0 a0 b0 s0),evA ev (.mk k1 m1 t1 a1 b1 s1),evA ev (.mk 6 m2 t2 a2 b2 s2)] (if nSUMIF=nMATCH∨nSUMIF=nLOOKUP then 1 else 0)).bx=some (cs.map (ePt ev),w) by show (evA ev (.mk 6 m0 t0 a0 b0 s0)).bx=_;rw[hb.arg];rfl]
 rw[eb,show boxV nSUMIF [evA ev (.mk 6 m0 t0 a0 b0 s0),evA ev (.mk k1 m1 t1 a1 b1 s1),evA ev (.mk 6 m2 t2 a2 b2 s2)] (cs.map (ePt ev)) w=if (evN ev (.mk k1 m1 t1 a1 b1 s1)).k=4 then evN ev (.mk k1 m1 t1 a1 b1 s1) else sumifV (cs.map (ePt ev)) w (evN ev (.mk k1 m1 t1 a1 b1 s1)) (some (ds.map (ePt ev),w')) by
  unfold boxV
  rw[if_neg (by decide),if_neg (by decide),if_neg (by decide),if_neg (by decide),if_neg (by decide),if_neg (by decide),show (aI [evA ev (.mk 6 m0 t0 a0 b0 s0),evA ev (.mk k1 m1 t1 a1 b1 s1),evA ev (.mk 6 m2 t2 a2 b2 s2)] 2).bx=some (ds.map (ePt ev),w') by show (evA ev (.mk 6 m2 t2 a2 b2 s2)).bx=_;rw[hd.arg];rfl,if_neg (by simp)]
  rfl]
 have w1:=hb.ww
 have w2:=hb.wh
 have w3:=hb.ew
 have w4:=hb.eh
 have w5:=hd.ww
 have w6:=hd.wh
 have w7:=hd.ew
 have w8:=hd.eh
 have q7:IntKind.i64.wrap (IntKind.i64.wrap (x3 - x2)+1)=(w':Int):=by rw[w5,w7]
 have q8:IntKind.i64.wrap (IntKind.i64.wrap (y3 - y2)+1)=(h':Int):=by rw[w6,w8]
 have hcn:=hb.len
 have hdn:=hd.len
 have hw1:=hb.w1
 have hcl:cs.length≤2574:=by rw[hb.len];exact mulLe99 (Nat.le_refl _) hb.h2 hb.w2
 clear hb hd eb hx0 hx1 hx2
 have hrc:(cs.map rowC).length=cs.length:=List.length_map _
 have hrd:(ds.map rowC).length=ds.length:=List.length_map _
 generalize evN ev (.mk k1 m1 t1 a1 b1 s1)=v at *
 have c3:FnP Tryz.prog (wG gl) 107 [v.d] (.b (v.k=4) inferInstance):=bad_d
 have e1:IntKind.i64.wrap (1 - 0)=1:=by decide
 have g0:(Nd.csL [.mk 6 m0 t0 a0 b0 s0,.mk k1 m1 t1 a1 b1 s1,.mk 6 m2 t2 a2 b2 s2])[(0:Int).toNat]?=some (ndR 6 m0 t0 a0 b0 s0):=rfl
 have g1:(Nd.csL [.mk 6 m0 t0 a0 b0 s0,.mk k1 m1 t1 a1 b1 s1,.mk 6 m2 t2 a2 b2 s2])[(1:Int).toNat]?=some (ndR k1 m1 t1 a1 b1 s1):=rfl
 have g2:(Nd.csL [.mk 6 m0 t0 a0 b0 s0,.mk k1 m1 t1 a1 b1 s1,.mk 6 m2 t2 a2 b2 s2])[(2:Int).toNat]?=some (ndR 6 m2 t2 a2 b2 s2):=rfl
 by_cases h4:v.k=4
 ·rw[if_pos h4]
  refine S0 Tryz.func116 rfl ?_
  ((repeat' ((conv=>whnf);first|exact .intro|refine G ?_|intro _|refine C1 c1 ?_|refine C1 c2 ?_|refine C1 c3 ?_|refine C1 c6 ?_|(first|rw[w1]|rw[w2]|rw[w3]|rw[w4]|rw[w5]|rw[w6]|rw[w7]|rw[w8]|rw[e1]|refine ⟨Int.le_refl _,_,g0,?_⟩|refine ⟨by decide,_,g1,?_⟩|refine ⟨by decide,_,g2,?_⟩)|refine .mk ?_ ?_|refine H ?_|fail));all_goals conv=>whnf)
  all_goals exact LeD.rfl
 rw[if_neg h4]
 unfold sumifV
 simp only[List.length_map]
 by_cases h5:w'=w
 case neg =>
  rw[if_pos (.inl h5)]
  have h5':¬ IntKind.i64.wrap (IntKind.i64.wrap (x3 - x2)+1)=(w:Int):=by rw[q7];omega
  refine S0 Tryz.func116 rfl ?_
  ((repeat' ((conv=>whnf);first|exact .intro|refine G ?_|intro _|refine C1 c1 ?_|refine C1 c2 ?_|refine C1 c3 ?_|refine C1 c6 ?_|(first|rw[w1]|rw[w2]|rw[w3]|rw[w4]|rw[w5]|rw[w6]|rw[w7]|rw[w8]|rw[e1]|refine ⟨Int.le_refl _,_,g0,?_⟩|refine ⟨by decide,_,g1,?_⟩|refine ⟨by decide,_,g2,?_⟩)|refine .mk ?_ ?_|refine H ?_|fail));all_goals conv=>whnf)
  all_goals first|exact LeD.rfl|(exfalso;omega)
 subst h5
 by_cases h6:h'=h
 case neg =>
  rw[if_pos (.inr (by rw[hcn,hdn];exact fun hh=>h6 (Nat.eq_of_mul_eq_mul_right (by omega) hh)))]
  have h6':¬ IntKind.i64.wrap (IntKind.i64.wrap (y3 - y2)+1)=(h:Int):=by rw[q8];omega
  refine S0 Tryz.func116 rfl ?_
  ((repeat' ((conv=>whnf);first|exact .intro|refine G ?_|intro _|refine C1 c1 ?_|refine C1 c2 ?_|refine C1 c3 ?_|refine C1 c6 ?_|(first|rw[w1]|rw[w2]|rw[w3]|rw[w4]|rw[w5]|rw[w6]|rw[w7]|rw[w8]|rw[e1]|refine ⟨Int.le_refl _,_,g0,?_⟩|refine ⟨by decide,_,g1,?_⟩|refine ⟨by decide,_,g2,?_⟩)|refine .mk ?_ ?_|refine H ?_|fail));all_goals conv=>whnf)
  all_goals first|exact LeD.rfl|(exfalso;omega)
 subst h6
 have hcd:ds.length=cs.length:=by rw[hcn,hdn]
 rw[if_neg (by rintro (hh|hh);exact hh rfl;exact hh hcd)]
 obtain ⟨tot,ht⟩:∃ z,z=sumifL v ((cs.map (ePt ev)).zip (ds.map (ePt ev))) []:=⟨_,rfl⟩
 rw[← ht]
 have hzl:((cs.map (ePt ev)).zip (ds.map (ePt ev))).length=cs.length:=by rw[List.length_zip,List.length_map,List.length_map];omega
 refine S0 Tryz.func116 rfl ?_
 ((repeat' ((conv=>whnf);first|exact .intro|refine G ?_|intro _|refine C1 c1 ?_|refine C1 c2 ?_|refine C1 c3 ?_|refine C1 c6 ?_|(first|rw[w1]|rw[w2]|rw[w3]|rw[w4]|rw[w5]|rw[w6]|rw[w7]|rw[w8]|rw[e1]|refine ⟨Int.le_refl _,_,g0,?_⟩|refine ⟨by decide,_,g1,?_⟩|refine ⟨by decide,_,g2,?_⟩)|refine .mk ?_ ?_|refine H ?_|fail));all_goals conv=>whnf)
 refine ⟨{ σ:=Nat×List Int×Nat,fr:=fun s=>[(209,.c (.d (iD (s.1:Int)))),(20,.c (.d (iD (s.2.2:Int)))),(21,.c (.all 1 4))],ks:=[],L:=fun s=>[(4,.rows 1 (s.2.1.map iR) 3)],ex:=1,I:=fun s=>s.1≤cs.length∧sumifL v (((cs.map (ePt ev)).zip (ds.map (ePt ev))).drop s.1) s.2.1=tot∧s.2.1.length≤s.1∧(∀ n ∈ s.2.1,okI n)∧s.2.2≤s.1,μ:=fun s=>cs.length - s.1 },⟨(0,[],0),⟨Nat.zero_le _,ht.symm,Nat.le_refl _,(fun n hn=>nomatch hn),Nat.le_refl _⟩,?_⟩,fun (s:Nat×List Int×Nat) hs=>?_⟩
 ·((repeat' first|exact rfl|((conv=>whnf);first|done|exact suL|refine And.intro ?_ ?_|fail));all_goals conv=>whnf)
  all_goals first|exact .inr (.inr (.inl ⟨rfl,1,4,rfl,by decide⟩))|exact ⟨1,_,rfl,by decide,by decide⟩|skip
 ·obtain ⟨k,all,q⟩:=s
  obtain ⟨hk,htot,hal,hok,hq⟩:=hs
  simp only at hk htot hal hok hq
  have hral:(all.map iR).length=all.length:=List.length_map _
  by_cases hlt:k<cs.length
  ·have h2:(k:Int)<(((cs.map rowC).length:Nat):Int):=by omega
   have hltd:k<ds.length:=by omega
   have g5:=get_map (f:=rowC) hlt
   have g6:=get_map (f:=rowC) hltd
   have e0:=wx (x:=k) (by omega)
   have e2:=wx (x:=q) (by omega)
   have b1:((all.map iR).length+1) * 8≤140737488355328:=by omega
   have b2:(all.map iR).length+1≤maxLen:=by unfold maxLen;omega
   have hsn:=sumif_step (v:=v) (ps:=(cs.map (ePt ev)).zip (ds.map (ePt ev))) (j:=k) (by rw[hzl];exact hlt) all
   rw[List.getElem_zip,List.getElem_map,List.getElem_map] at hsn
   have hlk:=look_ev hM (cs[k]).1 (cs[k]).2
   have hlk2:=look_ev hM (ds[k]).1 (ds[k]).2
   have c4:=alike_d te pe hV (hev (cs[k]).1 (cs[k]).2) hvo
   have hu2:=hev (ds[k]).1 (ds[k]).2
   generalize cs[k]=p at *
   generalize ds[k]=p2 at *
   obtain ⟨pc,pr⟩:=p
   obtain ⟨pc2,pr2⟩:=p2
   change _=if alikeP (ev pc pr) v then (if (ev pc2 pr2).k=4 then ev pc2 pr2 else if (ev pc2 pr2).k=1 then sumifL v _ (all++[(ev pc2 pr2).n]) else sumifL v _ all) else sumifL v _ all at hsn
   generalize ev pc pr=u at *
   generalize ev pc2 pr2=u2 at *
   rcases hlk with ⟨i,hi1⟩|⟨hi1,rfl⟩ <;> rcases hlk2 with ⟨i2,hi2⟩|⟨hi2,rfl⟩
   ·by_cases ha:alikeP u v
    ·rw[if_pos ha] at hsn
     by_cases hk4:(u2).k=4
     ·rw[if_pos hk4] at hsn
      rw[← htot,hsn]
      ((repeat' ((conv=>whnf);first|exact .intro|refine G ?_|intro _|refine C1 c4 ?_|(first|refine ⟨Int.natCast_nonneg _,_,g5,?_⟩|refine ⟨Int.natCast_nonneg _,_,g6,?_⟩|refine ⟨3,⟨key_cell,rfl,keys_E _⟩,by kernel_rfl,.inl ⟨_,_,hi1,?_⟩⟩|refine ⟨3,⟨key_cell,rfl,keys_E _⟩,by kernel_rfl,.inl ⟨_,_,hi2,?_⟩⟩|refine ⟨⟨rfl,b1,b2⟩,?_⟩)|refine .mk ?_ ?_|refine H ?_|fail));all_goals conv=>whnf)
      all_goals exact LeD.rfl
     rw[if_neg hk4] at hsn
     by_cases hk1:(u2).k=1
     ·rw[if_pos hk1] at hsn
      ((repeat' ((conv=>whnf);first|exact .intro|refine G ?_|intro _|refine C1 c4 ?_|(first|refine ⟨Int.natCast_nonneg _,_,g5,?_⟩|refine ⟨Int.natCast_nonneg _,_,g6,?_⟩|refine ⟨3,⟨key_cell,rfl,keys_E _⟩,by kernel_rfl,.inl ⟨_,_,hi1,?_⟩⟩|refine ⟨3,⟨key_cell,rfl,keys_E _⟩,by kernel_rfl,.inl ⟨_,_,hi2,?_⟩⟩|refine ⟨⟨rfl,b1,b2⟩,?_⟩)|refine .mk ?_ ?_|refine H ?_|fail));all_goals conv=>whnf)
      all_goals refine ⟨(k+1,all++[(u2).n],q+1),⟨⟨hlt,by rw[← htot];exact hsn.symm,by show (all++[(u2).n]).length≤k+1;rw[List.length_append];simp;omega,fun n hn=>by rcases List.mem_append.1 hn with hn|hn;exact hok n hn;rw[List.mem_singleton.1 hn];exact hu2.2,by show q+1≤k+1;omega⟩,by show cs.length - (k+1)<cs.length - k;omega⟩,?_⟩
      all_goals ((repeat' first|exact rfl|((conv=>whnf);first|done|exact suL|refine And.intro ?_ ?_|fail));all_goals conv=>whnf)
      all_goals first|exact ceq e0|exact ceq e2|(rw[List.map_append];rfl)|skip
     ·rw[if_neg hk1] at hsn
      ((repeat' ((conv=>whnf);first|exact .intro|refine G ?_|intro _|refine C1 c4 ?_|(first|refine ⟨Int.natCast_nonneg _,_,g5,?_⟩|refine ⟨Int.natCast_nonneg _,_,g6,?_⟩|refine ⟨3,⟨key_cell,rfl,keys_E _⟩,by kernel_rfl,.inl ⟨_,_,hi1,?_⟩⟩|refine ⟨3,⟨key_cell,rfl,keys_E _⟩,by kernel_rfl,.inl ⟨_,_,hi2,?_⟩⟩|refine ⟨⟨rfl,b1,b2⟩,?_⟩)|refine .mk ?_ ?_|refine H ?_|fail));all_goals conv=>whnf)
      all_goals refine ⟨(k+1,all,q+1),⟨⟨hlt,by rw[← htot];exact hsn.symm,by show all.length≤k+1;omega,hok,by show q+1≤k+1;omega⟩,by show cs.length - (k+1)<cs.length - k;omega⟩,?_⟩
      all_goals ((repeat' first|exact rfl|((conv=>whnf);first|done|exact suL|refine And.intro ?_ ?_|fail));all_goals conv=>whnf)
      all_goals first|exact ceq e0|exact ceq e2|skip
    ·rw[if_neg ha] at hsn
     ((repeat' ((conv=>whnf);first|exact .intro|refine G ?_|intro _|refine C1 c4 ?_|(first|refine ⟨Int.natCast_nonneg _,_,g5,?_⟩|refine ⟨Int.natCast_nonneg _,_,g6,?_⟩|refine ⟨3,⟨key_cell,rfl,keys_E _⟩,by kernel_rfl,.inl ⟨_,_,hi1,?_⟩⟩|refine ⟨3,⟨key_cell,rfl,keys_E _⟩,by kernel_rfl,.inl ⟨_,_,hi2,?_⟩⟩|refine ⟨⟨rfl,b1,b2⟩,?_⟩)|refine .mk ?_ ?_|refine H ?_|fail));all_goals conv=>whnf)
     all_goals refine ⟨(k+1,all,q),⟨⟨hlt,by rw[← htot];exact hsn.symm,by show all.length≤k+1;omega,hok,by show q≤k+1;omega⟩,by show cs.length - (k+1)<cs.length - k;omega⟩,?_⟩
     all_goals ((repeat' first|exact rfl|((conv=>whnf);first|done|exact suL|refine And.intro ?_ ?_|fail));all_goals conv=>whnf)
     all_goals first|exact ceq e0|skip
   ·by_cases ha:alikeP u v
    ·rw[if_pos ha] at hsn
     by_cases hk4:((⟨0,0,[]⟩:Vl)).k=4
     ·rw[if_pos hk4] at hsn
      rw[← htot,hsn]
      ((repeat' ((conv=>whnf);first|exact .intro|refine G ?_|intro _|refine C1 c4 ?_|(first|refine ⟨Int.natCast_nonneg _,_,g5,?_⟩|refine ⟨Int.natCast_nonneg _,_,g6,?_⟩|refine ⟨3,⟨key_cell,rfl,keys_E _⟩,by kernel_rfl,.inl ⟨_,_,hi1,?_⟩⟩|refine ⟨3,⟨key_cell,rfl,keys_E _⟩,by kernel_rfl,.inr ⟨hi2,?_⟩⟩|refine ⟨⟨rfl,b1,b2⟩,?_⟩)|refine .mk ?_ ?_|refine H ?_|fail));all_goals conv=>whnf)
      all_goals exact LeD.rfl
     rw[if_neg hk4] at hsn
     by_cases hk1:((⟨0,0,[]⟩:Vl)).k=1
     ·rw[if_pos hk1] at hsn
      ((repeat' ((conv=>whnf);first|exact .intro|refine G ?_|intro _|refine C1 c4 ?_|(first|refine ⟨Int.natCast_nonneg _,_,g5,?_⟩|refine ⟨Int.natCast_nonneg _,_,g6,?_⟩|refine ⟨3,⟨key_cell,rfl,keys_E _⟩,by kernel_rfl,.inl ⟨_,_,hi1,?_⟩⟩|refine ⟨3,⟨key_cell,rfl,keys_E _⟩,by kernel_rfl,.inr ⟨hi2,?_⟩⟩|refine ⟨⟨rfl,b1,b2⟩,?_⟩)|refine .mk ?_ ?_|refine H ?_|fail));all_goals conv=>whnf)
      all_goals refine ⟨(k+1,all++[((⟨0,0,[]⟩:Vl)).n],q+1),⟨⟨hlt,by rw[← htot];exact hsn.symm,by show (all++[((⟨0,0,[]⟩:Vl)).n]).length≤k+1;rw[List.length_append];simp;omega,fun n hn=>by rcases List.mem_append.1 hn with hn|hn;exact hok n hn;rw[List.mem_singleton.1 hn];exact hu2.2,by show q+1≤k+1;omega⟩,by show cs.length - (k+1)<cs.length - k;omega⟩,?_⟩
      all_goals ((repeat' first|exact rfl|((conv=>whnf);first|done|exact suL|refine And.intro ?_ ?_|fail));all_goals conv=>whnf)
      all_goals first|exact ceq e0|exact ceq e2|(rw[List.map_append];rfl)|skip
     ·rw[if_neg hk1] at hsn
      ((repeat' ((conv=>whnf);first|exact .intro|refine G ?_|intro _|refine C1 c4 ?_|(first|refine ⟨Int.natCast_nonneg _,_,g5,?_⟩|refine ⟨Int.natCast_nonneg _,_,g6,?_⟩|refine ⟨3,⟨key_cell,rfl,keys_E _⟩,by kernel_rfl,.inl ⟨_,_,hi1,?_⟩⟩|refine ⟨3,⟨key_cell,rfl,keys_E _⟩,by kernel_rfl,.inr ⟨hi2,?_⟩⟩|refine ⟨⟨rfl,b1,b2⟩,?_⟩)|refine .mk ?_ ?_|refine H ?_|fail));all_goals conv=>whnf)
      all_goals refine ⟨(k+1,all,q+1),⟨⟨hlt,by rw[← htot];exact hsn.symm,by show all.length≤k+1;omega,hok,by show q+1≤k+1;omega⟩,by show cs.length - (k+1)<cs.length - k;omega⟩,?_⟩
      all_goals ((repeat' first|exact rfl|((conv=>whnf);first|done|exact suL|refine And.intro ?_ ?_|fail));all_goals conv=>whnf)
      all_goals first|exact ceq e0|exact ceq e2|skip
    ·rw[if_neg ha] at hsn
     ((repeat' ((conv=>whnf);first|exact .intro|refine G ?_|intro _|refine C1 c4 ?_|(first|refine ⟨Int.natCast_nonneg _,_,g5,?_⟩|refine ⟨Int.natCast_nonneg _,_,g6,?_⟩|refine ⟨3,⟨key_cell,rfl,keys_E _⟩,by kernel_rfl,.inl ⟨_,_,hi1,?_⟩⟩|refine ⟨3,⟨key_cell,rfl,keys_E _⟩,by kernel_rfl,.inr ⟨hi2,?_⟩⟩|refine ⟨⟨rfl,b1,b2⟩,?_⟩)|refine .mk ?_ ?_|refine H ?_|fail));all_goals conv=>whnf)
     all_goals refine ⟨(k+1,all,q),⟨⟨hlt,by rw[← htot];exact hsn.symm,by show all.length≤k+1;omega,hok,by show q≤k+1;omega⟩,by show cs.length - (k+1)<cs.length - k;omega⟩,?_⟩
     all_goals ((repeat' first|exact rfl|((conv=>whnf);first|done|exact suL|refine And.intro ?_ ?_|fail));all_goals conv=>whnf)
     all_goals first|exact ceq e0|skip
   ·by_cases ha:alikeP (⟨0,0,[]⟩:Vl) v
    ·rw[if_pos ha] at hsn
     by_cases hk4:(u2).k=4
     ·rw[if_pos hk4] at hsn
      rw[← htot,hsn]
      ((repeat' ((conv=>whnf);first|exact .intro|refine G ?_|intro _|refine C1 c4 ?_|(first|refine ⟨Int.natCast_nonneg _,_,g5,?_⟩|refine ⟨Int.natCast_nonneg _,_,g6,?_⟩|refine ⟨3,⟨key_cell,rfl,keys_E _⟩,by kernel_rfl,.inl ⟨_,_,hi2,?_⟩⟩|refine ⟨3,⟨key_cell,rfl,keys_E _⟩,by kernel_rfl,.inr ⟨hi1,?_⟩⟩|refine ⟨⟨rfl,b1,b2⟩,?_⟩)|refine .mk ?_ ?_|refine H ?_|fail));all_goals conv=>whnf)
      all_goals exact LeD.rfl
     rw[if_neg hk4] at hsn
     by_cases hk1:(u2).k=1
     ·rw[if_pos hk1] at hsn
      ((repeat' ((conv=>whnf);first|exact .intro|refine G ?_|intro _|refine C1 c4 ?_|(first|refine ⟨Int.natCast_nonneg _,_,g5,?_⟩|refine ⟨Int.natCast_nonneg _,_,g6,?_⟩|refine ⟨3,⟨key_cell,rfl,keys_E _⟩,by kernel_rfl,.inl ⟨_,_,hi2,?_⟩⟩|refine ⟨3,⟨key_cell,rfl,keys_E _⟩,by kernel_rfl,.inr ⟨hi1,?_⟩⟩|refine ⟨⟨rfl,b1,b2⟩,?_⟩)|refine .mk ?_ ?_|refine H ?_|fail));all_goals conv=>whnf)
      all_goals refine ⟨(k+1,all++[(u2).n],q+1),⟨⟨hlt,by rw[← htot];exact hsn.symm,by show (all++[(u2).n]).length≤k+1;rw[List.length_append];simp;omega,fun n hn=>by rcases List.mem_append.1 hn with hn|hn;exact hok n hn;rw[List.mem_singleton.1 hn];exact hu2.2,by show q+1≤k+1;omega⟩,by show cs.length - (k+1)<cs.length - k;omega⟩,?_⟩
      all_goals ((repeat' first|exact rfl|((conv=>whnf);first|done|exact suL|refine And.intro ?_ ?_|fail));all_goals conv=>whnf)
      all_goals first|exact ceq e0|exact ceq e2|(rw[List.map_append];rfl)|skip
     ·rw[if_neg hk1] at hsn
      ((repeat' ((conv=>whnf);first|exact .intro|refine G ?_|intro _|refine C1 c4 ?_|(first|refine ⟨Int.natCast_nonneg _,_,g5,?_⟩|refine ⟨Int.natCast_nonneg _,_,g6,?_⟩|refine ⟨3,⟨key_cell,rfl,keys_E _⟩,by kernel_rfl,.inl ⟨_,_,hi2,?_⟩⟩|refine ⟨3,⟨key_cell,rfl,keys_E _⟩,by kernel_rfl,.inr ⟨hi1,?_⟩⟩|refine ⟨⟨rfl,b1,b2⟩,?_⟩)|refine .mk ?_ ?_|refine H ?_|fail));all_goals conv=>whnf)
      all_goals refine ⟨(k+1,all,q+1),⟨⟨hlt,by rw[← htot];exact hsn.symm,by show all.length≤k+1;omega,hok,by show q+1≤k+1;omega⟩,by show cs.length - (k+1)<cs.length - k;omega⟩,?_⟩
      all_goals ((repeat' first|exact rfl|((conv=>whnf);first|done|exact suL|refine And.intro ?_ ?_|fail));all_goals conv=>whnf)
      all_goals first|exact ceq e0|exact ceq e2|skip
    ·rw[if_neg ha] at hsn
     ((repeat' ((conv=>whnf);first|exact .intro|refine G ?_|intro _|refine C1 c4 ?_|(first|refine ⟨Int.natCast_nonneg _,_,g5,?_⟩|refine ⟨Int.natCast_nonneg _,_,g6,?_⟩|refine ⟨3,⟨key_cell,rfl,keys_E _⟩,by kernel_rfl,.inl ⟨_,_,hi2,?_⟩⟩|refine ⟨3,⟨key_cell,rfl,keys_E _⟩,by kernel_rfl,.inr ⟨hi1,?_⟩⟩|refine ⟨⟨rfl,b1,b2⟩,?_⟩)|refine .mk ?_ ?_|refine H ?_|fail));all_goals conv=>whnf)
     all_goals refine ⟨(k+1,all,q),⟨⟨hlt,by rw[← htot];exact hsn.symm,by show all.length≤k+1;omega,hok,by show q≤k+1;omega⟩,by show cs.length - (k+1)<cs.length - k;omega⟩,?_⟩
     all_goals ((repeat' first|exact rfl|((conv=>whnf);first|done|exact suL|refine And.intro ?_ ?_|fail));all_goals conv=>whnf)
     all_goals first|exact ceq e0|skip
   ·by_cases ha:alikeP (⟨0,0,[]⟩:Vl) v
    ·rw[if_pos ha] at hsn
     by_cases hk4:((⟨0,0,[]⟩:Vl)).k=4
     ·rw[if_pos hk4] at hsn
      rw[← htot,hsn]
      ((repeat' ((conv=>whnf);first|exact .intro|refine G ?_|intro _|refine C1 c4 ?_|(first|refine ⟨Int.natCast_nonneg _,_,g5,?_⟩|refine ⟨Int.natCast_nonneg _,_,g6,?_⟩|refine ⟨3,⟨key_cell,rfl,keys_E _⟩,by kernel_rfl,.inr ⟨hi1,?_⟩⟩|refine ⟨3,⟨key_cell,rfl,keys_E _⟩,by kernel_rfl,.inr ⟨hi2,?_⟩⟩|refine ⟨⟨rfl,b1,b2⟩,?_⟩)|refine .mk ?_ ?_|refine H ?_|fail));all_goals conv=>whnf)
      all_goals exact LeD.rfl
     rw[if_neg hk4] at hsn
     by_cases hk1:((⟨0,0,[]⟩:Vl)).k=1
     ·rw[if_pos hk1] at hsn
      ((repeat' ((conv=>whnf);first|exact .intro|refine G ?_|intro _|refine C1 c4 ?_|(first|refine ⟨Int.natCast_nonneg _,_,g5,?_⟩|refine ⟨Int.natCast_nonneg _,_,g6,?_⟩|refine ⟨3,⟨key_cell,rfl,keys_E _⟩,by kernel_rfl,.inr ⟨hi1,?_⟩⟩|refine ⟨3,⟨key_cell,rfl,keys_E _⟩,by kernel_rfl,.inr ⟨hi2,?_⟩⟩|refine ⟨⟨rfl,b1,b2⟩,?_⟩)|refine .mk ?_ ?_|refine H ?_|fail));all_goals conv=>whnf)
      all_goals refine ⟨(k+1,all++[((⟨0,0,[]⟩:Vl)).n],q+1),⟨⟨hlt,by rw[← htot];exact hsn.symm,by show (all++[((⟨0,0,[]⟩:Vl)).n]).length≤k+1;rw[List.length_append];simp;omega,fun n hn=>by rcases List.mem_append.1 hn with hn|hn;exact hok n hn;rw[List.mem_singleton.1 hn];exact hu2.2,by show q+1≤k+1;omega⟩,by show cs.length - (k+1)<cs.length - k;omega⟩,?_⟩
      all_goals ((repeat' first|exact rfl|((conv=>whnf);first|done|exact suL|refine And.intro ?_ ?_|fail));all_goals conv=>whnf)
      all_goals first|exact ceq e0|exact ceq e2|(rw[List.map_append];rfl)|skip
     ·rw[if_neg hk1] at hsn
      ((repeat' ((conv=>whnf);first|exact .intro|refine G ?_|intro _|refine C1 c4 ?_|(first|refine ⟨Int.natCast_nonneg _,_,g5,?_⟩|refine ⟨Int.natCast_nonneg _,_,g6,?_⟩|refine ⟨3,⟨key_cell,rfl,keys_E _⟩,by kernel_rfl,.inr ⟨hi1,?_⟩⟩|refine ⟨3,⟨key_cell,rfl,keys_E _⟩,by kernel_rfl,.inr ⟨hi2,?_⟩⟩|refine ⟨⟨rfl,b1,b2⟩,?_⟩)|refine .mk ?_ ?_|refine H ?_|fail));all_goals conv=>whnf)
      all_goals refine ⟨(k+1,all,q+1),⟨⟨hlt,by rw[← htot];exact hsn.symm,by show all.length≤k+1;omega,hok,by show q+1≤k+1;omega⟩,by show cs.length - (k+1)<cs.length - k;omega⟩,?_⟩
      all_goals ((repeat' first|exact rfl|((conv=>whnf);first|done|exact suL|refine And.intro ?_ ?_|fail));all_goals conv=>whnf)
      all_goals first|exact ceq e0|exact ceq e2|skip
    ·rw[if_neg ha] at hsn
     ((repeat' ((conv=>whnf);first|exact .intro|refine G ?_|intro _|refine C1 c4 ?_|(first|refine ⟨Int.natCast_nonneg _,_,g5,?_⟩|refine ⟨Int.natCast_nonneg _,_,g6,?_⟩|refine ⟨3,⟨key_cell,rfl,keys_E _⟩,by kernel_rfl,.inr ⟨hi1,?_⟩⟩|refine ⟨3,⟨key_cell,rfl,keys_E _⟩,by kernel_rfl,.inr ⟨hi2,?_⟩⟩|refine ⟨⟨rfl,b1,b2⟩,?_⟩)|refine .mk ?_ ?_|refine H ?_|fail));all_goals conv=>whnf)
     all_goals refine ⟨(k+1,all,q),⟨⟨hlt,by rw[← htot];exact hsn.symm,by show all.length≤k+1;omega,hok,by show q≤k+1;omega⟩,by show cs.length - (k+1)<cs.length - k;omega⟩,?_⟩
     all_goals ((repeat' first|exact rfl|((conv=>whnf);first|done|exact suL|refine And.intro ?_ ?_|fail));all_goals conv=>whnf)
     all_goals first|exact ceq e0|skip
  ·have h2:¬ (k:Int)<(((cs.map rowC).length:Nat):Int):=by omega
   obtain rfl:k=cs.length:=by omega
   rw[List.drop_of_length_le (by rw[hzl];exact Nat.le_refl _),sumifL] at htot
   rw[← htot]
   have c5:=Sum_d te pe hV all hok (by omega)
   generalize sumL all=z at *
   ((repeat' ((conv=>whnf);first|exact .intro|refine G ?_|intro _|refine C2 c5 ?_|refine .mk ?_ ?_|refine H ?_|fail));all_goals conv=>whnf)
   all_goals exact LeD.rfl
end
end Go.Proofs.YtfkjhfdpphfjhaaGreatDoor
