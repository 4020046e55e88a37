/- Proved: a part of what the law is proved with (the reckoner, contracts of functions, plain laws). Conditions: as each says. -/
import Derived.Test.YtfkjhfdpphfjhaaGreatDoorFDp
namespace Go.Proofs.YtfkjhfdpphfjhaaGreatDoor
open Go Go.RowKit Go.EYtfkjhfdpphfjhaaGreatDoor
set_option maxRecDepth 100000
set_option maxHeartbeats 4000000
section
variable {gl:List (Nat×List D)}
theorem index_eq (vs:List Vl) (w:Nat) (a b:Vl):indexV vs w a b=if a.k=4 then a else if b.k=4 then b else if (numV a).k=4 then numV a else if (numV b).k=4 then numV b else
 if (numV a).n<1∨((vs.length / w:Nat):Int)<(numV a).n∨(numV b).n<1∨(w:Int)<(numV b).n then ⟨4,3,[]⟩ else vs.getD (((numV a).n - 1) * w+(numV b).n - 1).toNat wrV:=by
 unfold indexV
 rw[badL2,badL2]
 by_cases h1:a.k=4
 ·rw[if_pos h1,if_pos h1]
 rw[if_neg h1,if_neg h1]
 by_cases h2:b.k=4
 ·rw[if_pos h2,if_pos h2]
 rw[if_neg h2,if_neg h2]
 by_cases h3:(numV a).k=4
 ·simp only[h3,if_true]
 simp only[h3,if_false]
 by_cases h4:(numV b).k=4
 ·simp only[h4,if_true]
 simp only[h4,if_false]
section
variable (te:TypeId) (pe:Value) (hV:Has (wG gl) (glV te pe))
include hV
theorem index_d {mk:List (Int×Int)} {mv:List Vl} {ev:Int→Int→Vl} {k1 m1:Int} {t1:List UInt8} {a1 b1:Rf} {s1:List Nd} {k2 m2:Int} {t2:List UInt8} {a2 b2:Rf} {s2:List Nd} (hy:KdOk (wG gl) mk mv ev (.mk k1 m1 t1 a1 b1 s1)) (hz:KdOk (wG gl) mk mv ev (.mk k2 m2 t2 a2 b2 s2))
 (hM:MapOk mk mv ev) {cs:List (Int×Int)} {w h:Nat} (hcn:cs.length=h * w) (hw1:1≤w) (hw2:w≤26) (hh2:h≤99) :
 FnP Tryz.prog (wG gl) 177 [mpE mk mv,.lst 2 (cs.map rowC),iD (w:Int),iD (h:Int),.lst 12 (Nd.csL [.mk k1 m1 t1 a1 b1 s1,.mk k2 m2 t2 a2 b2 s2])] (indexV (cs.map (ePt ev)) w (evN ev (.mk k1 m1 t1 a1 b1 s1)) (evN ev (.mk k2 m2 t2 a2 b2 s2))).d:=by
 rw[index_eq,div_w (n:=(cs.map (ePt ev)).length) (by rw[List.length_map];exact hcn) hw1]
 have c1:=hy.run
 have c2:=hz.run
 have n1:=numC te pe hV hy.vok
 have n2:=numC te pe hV hz.vok
 have ox:=(numV_ok hy.vok).1.2
 have oy:=(numV_ok hz.vok).1.2
 have hrc:(cs.map rowC).length=cs.length:=List.length_map _
 clear hy hz
 generalize numV (evN ev (.mk k1 m1 t1 a1 b1 s1))=x at *
 generalize numV (evN ev (.mk k2 m2 t2 a2 b2 s2))=y at *
 generalize evN ev (.mk k1 m1 t1 a1 b1 s1)=a at *
 generalize evN ev (.mk k2 m2 t2 a2 b2 s2)=b at *
 have i1:FnP Tryz.prog (wG gl) 107 [a.d] (.b (a.k=4) inferInstance):=bad_d
 have i2:FnP Tryz.prog (wG gl) 107 [b.d] (.b (b.k=4) inferInstance):=bad_d
 have i3:FnP Tryz.prog (wG gl) 107 [x.d] (.b (x.k=4) inferInstance):=bad_d
 have i4:FnP Tryz.prog (wG gl) 107 [y.d] (.b (y.k=4) inferInstance):=bad_d
 have g1:(Nd.csL [.mk k1 m1 t1 a1 b1 s1,.mk k2 m2 t2 a2 b2 s2])[((0:Nat):Int).toNat]?=some (ndR k1 m1 t1 a1 b1 s1):=rfl
 have g2:(Nd.csL [.mk k1 m1 t1 a1 b1 s1,.mk k2 m2 t2 a2 b2 s2])[((1:Nat):Int).toNat]?=some (ndR k2 m2 t2 a2 b2 s2):=rfl
 have r1:(([vlR' a,vlR' b]:List (List D)).take 2)[((0:Nat):Int).toNat]?=some (vlR' a):=rfl
 have r2:(([vlR' a,vlR' b]:List (List D)).take 2)[((1:Nat):Int).toNat]?=some (vlR' b):=rfl
 have e0:=wx (x:=0) (by omega)
 have e1:=wx (x:=1) (by omega)
 have L0:((0:Nat):Int)<((2:Nat):Int):=by decide
 have L1:((1:Nat):Int)<((2:Nat):Int):=by decide
 have L2:¬ ((2:Nat):Int)<((2:Nat):Int):=by decide
 refine S0 Tryz.func177 rfl ?_
 ((repeat' ((conv=>whnf);first|exact .intro|refine G ?_|intro _|refine .mk ?_ ?_|refine H ?_|fail));all_goals conv=>whnf)
 refine ⟨{ σ:=Nat,fr:=fun k=>[(22,.c (.d (iD (k:Int)))),(12,.c (.all 3 1))],ks:=[],L:=fun k=>[(1,.rows 3 (([vlR' a,vlR' b]:List (List D)).take k) 31)],ex:=1,I:=fun k=>k≤2,μ:=fun k=>2 - k },⟨0,Nat.zero_le _,?_⟩,fun (k:Nat) hk=>?_⟩
 ·((repeat' first|exact rfl|((conv=>whnf);first|done|exact suL|refine And.intro ?_ ?_|fail));all_goals conv=>whnf)
  all_goals first|exact .inr (.inr (.inl ⟨rfl,3,1,rfl,by decide⟩))|exact ⟨3,_,rfl,by decide,by decide⟩|skip
 replace hk:k≤2:=hk
 by_cases hk0:k=0
 ·subst hk0
  have b1:(0+1) * 32≤140737488355328:=by decide
  have b2:0+1≤maxLen:=by unfold maxLen;omega
  ((repeat' ((conv=>whnf);first|exact .intro|refine G ?_|intro _|refine C1 c1 ?_|(first|refine ⟨Int.natCast_nonneg _,_,g1,?_⟩|refine ⟨⟨rfl,b1,b2⟩,?_⟩)|refine .mk ?_ ?_|refine H ?_|fail));all_goals conv=>whnf)
  all_goals refine ⟨1,⟨show 1≤2 by decide,show 2 - 1<2 - 0 by decide⟩,?_⟩
  all_goals ((repeat' first|exact rfl|((conv=>whnf);first|done|exact suL|refine And.intro ?_ ?_|fail));all_goals conv=>whnf)
  all_goals first|exact ceq e0|skip
 by_cases hk1:k=1
 ·subst hk1
  have b1:(1+1) * 32≤140737488355328:=by decide
  have b2:1+1≤maxLen:=by unfold maxLen;omega
  ((repeat' ((conv=>whnf);first|exact .intro|refine G ?_|intro _|refine C1 c2 ?_|(first|refine ⟨Int.natCast_nonneg _,_,g2,?_⟩|refine ⟨⟨rfl,b1,b2⟩,?_⟩)|refine .mk ?_ ?_|refine H ?_|fail));all_goals conv=>whnf)
  all_goals refine ⟨2,⟨show 2≤2 by decide,show 2 - 2<2 - 1 by decide⟩,?_⟩
  all_goals ((repeat' first|exact rfl|((conv=>whnf);first|done|exact suL|refine And.intro ?_ ?_|fail));all_goals conv=>whnf)
  all_goals first|exact ceq e1|skip
 obtain rfl:k=2:=by omega
 clear hk hk0 hk1
 ((repeat' ((conv=>whnf);first|exact .intro|refine G ?_|intro _|refine .mk ?_ ?_|refine H ?_|fail));all_goals conv=>whnf)
 refine ⟨{ σ:=Nat,fr:=fun k=>[(35,.c (.d (iD (k:Int))))],ks:=[],L:=fun k=>[],ex:=0,I:=fun k=>k≤2∧(0<k→¬ a.k=4)∧(1<k→¬ b.k=4),μ:=fun k=>2 - k },⟨0,⟨Nat.zero_le _,fun h=>absurd h (Nat.lt_irrefl 0),fun h=>absurd h (Nat.not_lt_zero 1)⟩,?_⟩,fun (k:Nat) hk=>?_⟩
 ·((repeat' first|exact rfl|((conv=>whnf);first|done|exact suL|refine And.intro ?_ ?_|fail));all_goals conv=>whnf)
 obtain ⟨hk,hka,hkb⟩:=hk
 by_cases hk0:k=0
 ·subst hk0
  by_cases h4:a.k=4
  ·rw[if_pos h4]
   ((repeat' ((conv=>whnf);first|exact .intro|refine G ?_|intro _|refine C1 i1 ?_|(first|refine ⟨⟨Int.natCast_nonneg _,L0⟩,?_⟩|refine ⟨_,r1,?_⟩)|refine .mk ?_ ?_|refine H ?_|fail));all_goals conv=>whnf)
   all_goals exact LeD.rfl
  ·((repeat' ((conv=>whnf);first|exact .intro|refine G ?_|intro _|refine C1 i1 ?_|(first|refine ⟨⟨Int.natCast_nonneg _,L0⟩,?_⟩|refine ⟨_,r1,?_⟩)|refine .mk ?_ ?_|refine H ?_|fail));all_goals conv=>whnf)
   all_goals refine ⟨1,⟨⟨show 1≤2 by decide,fun _=>h4,fun h=>absurd h (Nat.lt_irrefl 1)⟩,show 2 - 1<2 - 0 by decide⟩,?_⟩
   all_goals ((repeat' first|exact rfl|((conv=>whnf);first|done|exact suL|refine And.intro ?_ ?_|fail));all_goals conv=>whnf)
   all_goals first|exact ceq e0|skip
 have ha4:=hka (by omega)
 by_cases hk1:k=1
 ·subst hk1
  rw[if_neg ha4]
  by_cases h4:b.k=4
  ·rw[if_pos h4]
   ((repeat' ((conv=>whnf);first|exact .intro|refine G ?_|intro _|refine C1 i2 ?_|(first|refine ⟨⟨Int.natCast_nonneg _,L1⟩,?_⟩|refine ⟨_,r2,?_⟩)|refine .mk ?_ ?_|refine H ?_|fail));all_goals conv=>whnf)
   all_goals exact LeD.rfl
  ·((repeat' ((conv=>whnf);first|exact .intro|refine G ?_|intro _|refine C1 i2 ?_|(first|refine ⟨⟨Int.natCast_nonneg _,L1⟩,?_⟩|refine ⟨_,r2,?_⟩)|refine .mk ?_ ?_|refine H ?_|fail));all_goals conv=>whnf)
   all_goals refine ⟨2,⟨⟨show 2≤2 by decide,fun _=>ha4,fun _=>h4⟩,show 2 - 2<2 - 1 by decide⟩,?_⟩
   all_goals ((repeat' first|exact rfl|((conv=>whnf);first|done|exact suL|refine And.intro ?_ ?_|fail));all_goals conv=>whnf)
   all_goals first|exact ceq e1|skip
 obtain rfl:k=2:=by omega
 have hb4:=hkb (by decide)
 rw[if_neg ha4,if_neg hb4]
 clear hk hk0 hk1 hka hkb
 ((repeat' ((conv=>whnf);first|exact .intro|refine G ?_|intro _|refine .mk ?_ ?_|refine H ?_|fail));all_goals conv=>whnf)
 refine ⟨{ σ:=Nat,fr:=fun k=>[(45,.c (.d (iD (k:Int)))),(11,.c (.all 1 2))],ks:=[],L:=fun k=>[(2,.rows 1 (([iR x.n,iR y.n]:List (List D)).take k) 3)],ex:=1,I:=fun k=>k≤2∧(0<k→¬ x.k=4)∧(1<k→¬ y.k=4),μ:=fun k=>2 - k },⟨0,⟨Nat.zero_le _,fun h=>absurd h (Nat.lt_irrefl 0),fun h=>absurd h (Nat.not_lt_zero 1)⟩,?_⟩,fun (k:Nat) hk=>?_⟩
 ·((repeat' first|exact rfl|((conv=>whnf);first|done|exact suL|refine And.intro ?_ ?_|fail));all_goals conv=>whnf)
  all_goals first|exact .inr (.inr (.inl ⟨rfl,1,2,rfl,by decide⟩))|exact ⟨1,_,rfl,by decide,by decide⟩|skip
 obtain ⟨hk,hka,hkb⟩:=hk
 by_cases hk0:k=0
 ·subst hk0
  have b1:(0+1) * 8≤140737488355328:=by decide
  have b2:0+1≤maxLen:=by unfold maxLen;omega
  by_cases h4:x.k=4
  ·rw[if_pos h4]
   ((repeat' ((conv=>whnf);first|exact .intro|refine G ?_|intro _|refine C1 n1 ?_|refine C1 i3 ?_|(first|refine ⟨⟨Int.natCast_nonneg _,L0⟩,?_⟩|refine ⟨_,r1,?_⟩)|refine .mk ?_ ?_|refine H ?_|fail));all_goals conv=>whnf)
   all_goals exact LeD.rfl
  ·((repeat' ((conv=>whnf);first|exact .intro|refine G ?_|intro _|refine C1 n1 ?_|refine C1 i3 ?_|(first|refine ⟨⟨Int.natCast_nonneg _,L0⟩,?_⟩|refine ⟨_,r1,?_⟩|refine ⟨⟨rfl,b1,b2⟩,?_⟩)|refine .mk ?_ ?_|refine H ?_|fail));all_goals conv=>whnf)
   all_goals refine ⟨1,⟨⟨show 1≤2 by decide,fun _=>h4,fun h=>absurd h (Nat.lt_irrefl 1)⟩,show 2 - 1<2 - 0 by decide⟩,?_⟩
   all_goals ((repeat' first|exact rfl|((conv=>whnf);first|done|exact suL|refine And.intro ?_ ?_|fail));all_goals conv=>whnf)
   all_goals first|exact ceq e0|skip
 have hx4:=hka (by omega)
 by_cases hk1:k=1
 ·subst hk1
  rw[if_neg hx4]
  have b1:(1+1) * 8≤140737488355328:=by decide
  have b2:1+1≤maxLen:=by unfold maxLen;omega
  by_cases h4:y.k=4
  ·rw[if_pos h4]
   ((repeat' ((conv=>whnf);first|exact .intro|refine G ?_|intro _|refine C1 n2 ?_|refine C1 i4 ?_|(first|refine ⟨⟨Int.natCast_nonneg _,L1⟩,?_⟩|refine ⟨_,r2,?_⟩)|refine .mk ?_ ?_|refine H ?_|fail));all_goals conv=>whnf)
   all_goals exact LeD.rfl
  ·((repeat' ((conv=>whnf);first|exact .intro|refine G ?_|intro _|refine C1 n2 ?_|refine C1 i4 ?_|(first|refine ⟨⟨Int.natCast_nonneg _,L1⟩,?_⟩|refine ⟨_,r2,?_⟩|refine ⟨⟨rfl,b1,b2⟩,?_⟩)|refine .mk ?_ ?_|refine H ?_|fail));all_goals conv=>whnf)
   all_goals refine ⟨2,⟨⟨show 2≤2 by decide,fun _=>hx4,fun _=>h4⟩,show 2 - 2<2 - 1 by decide⟩,?_⟩
   all_goals ((repeat' first|exact rfl|((conv=>whnf);first|done|exact suL|refine And.intro ?_ ?_|fail));all_goals conv=>whnf)
   all_goals first|exact ceq e1|skip
 obtain rfl:k=2:=by omega
 have hy4:=hkb (by decide)
 rw[if_neg hx4,if_neg hy4]
 clear hk hk0 hk1 hka hkb
 have c9:=Wrong_d (gl:=wG gl) 3
 have q1:(([iR x.n,iR y.n]:List (List D)).take 2)[(0:Int).toNat]?=some [iD x.n]:=rfl
 have q2:(([iR x.n,iR y.n]:List (List D)).take 2)[(1:Int).toNat]?=some [iD y.n]:=rfl
 have D0:(0:Int)≤0∧(0:Int)<((2:Nat):Int):=by decide
 have D1:(0:Int)≤1∧(1:Int)<((2:Nat):Int):=by decide
 by_cases j1:x.n<1
 ·rw[if_pos (.inl j1)]
  ((repeat' ((conv=>whnf);first|exact .intro|refine G ?_|intro _|refine C1 c9 ?_|(first|refine ⟨D0,?_⟩|refine ⟨D1,?_⟩|refine ⟨_,q1,?_⟩|refine ⟨_,q2,?_⟩)|refine .mk ?_ ?_|refine H ?_|fail));all_goals conv=>whnf)
  all_goals exact LeD.rfl
 by_cases j2:(h:Int)<x.n
 ·rw[if_pos (.inr (.inl j2))]
  ((repeat' ((conv=>whnf);first|exact .intro|refine G ?_|intro _|refine C1 c9 ?_|(first|refine ⟨D0,?_⟩|refine ⟨D1,?_⟩|refine ⟨_,q1,?_⟩|refine ⟨_,q2,?_⟩)|refine .mk ?_ ?_|refine H ?_|fail));all_goals conv=>whnf)
  all_goals exact LeD.rfl
 by_cases j3:y.n<1
 ·rw[if_pos (.inr (.inr (.inl j3)))]
  ((repeat' ((conv=>whnf);first|exact .intro|refine G ?_|intro _|refine C1 c9 ?_|(first|refine ⟨D0,?_⟩|refine ⟨D1,?_⟩|refine ⟨_,q1,?_⟩|refine ⟨_,q2,?_⟩)|refine .mk ?_ ?_|refine H ?_|fail));all_goals conv=>whnf)
  all_goals exact LeD.rfl
 by_cases j4:(w:Int)<y.n
 ·rw[if_pos (.inr (.inr (.inr j4)))]
  ((repeat' ((conv=>whnf);first|exact .intro|refine G ?_|intro _|refine C1 c9 ?_|(first|refine ⟨D0,?_⟩|refine ⟨D1,?_⟩|refine ⟨_,q1,?_⟩|refine ⟨_,q2,?_⟩)|refine .mk ?_ ?_|refine H ?_|fail));all_goals conv=>whnf)
  all_goals exact LeD.rfl
 rw[if_neg (by rintro (hh|hh|hh|hh);exact j1 hh;exact j2 hh;exact j3 hh;exact j4 hh)]
 obtain ⟨p,hp⟩:∃ p:Nat,x.n=((p+1:Nat):Int):=⟨(x.n - 1).toNat,by omega⟩
 obtain ⟨q,hq⟩:∃ q:Nat,y.n=((q+1:Nat):Int):=⟨(y.n - 1).toNat,by omega⟩
 have hph:p<h:=by omega
 have hqw:q<w:=by omega
 have hpw:p * w≤2574:=mulLe99 (Nat.le_of_lt hph) hh2 hw2
 have hi:p * w+q<cs.length:=by
  have:=Nat.mul_le_mul_right w (show p+1≤h from hph)
  rw[Nat.succ_mul,← hcn] at this
  omega
 have u1:IntKind.i64.wrap (x.n - 1)=((p:Nat):Int):=by rw[hp,wrapI (by omega)];omega
 have u2:IntKind.i64.wrap (((p:Nat):Int) * (w:Int))=((p * w:Nat):Int):=by rw[← Int.natCast_mul];exact wrapI (by omega)
 have u3:IntKind.i64.wrap (((p * w:Nat):Int)+y.n)=((p * w+q+1:Nat):Int):=by rw[hq,wrapI (by omega)];omega
 have u4:IntKind.i64.wrap (((p * w+q+1:Nat):Int) - 1)=((p * w+q:Nat):Int):=by rw[wrapI (by omega)];omega
 have hidx:((x.n - 1) * (w:Int)+y.n - 1).toNat=p * w+q:=by
  rw[show x.n - 1=((p:Nat):Int) by omega,← Int.natCast_mul]
  omega
 rw[hidx,getD_map (ev:=ev) hi]
 have g5:=get_map (f:=rowC) hi
 have hlk:=look_ev hM (cs[p * w+q]).1 (cs[p * w+q]).2
 generalize cs[p * w+q]=pt at *
 obtain ⟨pc,pr⟩:=pt
 have hpt:(ePt ev (pc,pr))=ev pc pr:=rfl
 rw[hpt]
 clear hpt
 generalize ev pc pr=u at *
 rcases hlk with ⟨i,hi1⟩|⟨hi1,rfl⟩
 ·((repeat' ((conv=>whnf);first|exact .intro|refine G ?_|intro _|(first|refine ⟨D0,?_⟩|refine ⟨D1,?_⟩|refine ⟨_,q1,?_⟩|refine ⟨_,q2,?_⟩|rw[u1]|rw[u2]|rw[u3]|rw[u4]|refine ⟨Int.natCast_nonneg _,_,g5,?_⟩|refine ⟨3,⟨key_cell,rfl,keys_E _⟩,by kernel_rfl,.inl ⟨_,_,hi1,?_⟩⟩)|refine .mk ?_ ?_|refine H ?_|fail));all_goals conv=>whnf)
  all_goals exact LeD.rfl
 ·((repeat' ((conv=>whnf);first|exact .intro|refine G ?_|intro _|(first|refine ⟨D0,?_⟩|refine ⟨D1,?_⟩|refine ⟨_,q1,?_⟩|refine ⟨_,q2,?_⟩|rw[u1]|rw[u2]|rw[u3]|rw[u4]|refine ⟨Int.natCast_nonneg _,_,g5,?_⟩|refine ⟨3,⟨key_cell,rfl,keys_E _⟩,by kernel_rfl,.inr ⟨hi1,?_⟩⟩)|refine .mk ?_ ?_|refine H ?_|fail));all_goals conv=>whnf)
  all_goals exact LeD.rfl
theorem boxed_index_y {mk:List (Int×Int)} {mv:List Vl} {ev:Int→Int→Vl} {m0:Int} {t0:List UInt8} {a0 b0:Rf} {s0:List Nd} {k1 m1:Int} {t1:List UInt8} {a1 b1:Rf} {s1:List Nd} {k2 m2:Int} {t2:List UInt8} {a2 b2:Rf} {s2:List Nd}
 (hx0:KdOk (wG gl) mk mv ev (.mk 6 m0 t0 a0 b0 s0)) (hx1:KdOk (wG gl) mk mv ev (.mk k1 m1 t1 a1 b1 s1)) (hx2:KdOk (wG gl) mk mv ev (.mk k2 m2 t2 a2 b2 s2)) (hM:MapOk mk mv ev):FnP Tryz.prog (wG gl) 116 [mpE mk mv,.str nINDEX,.lst 12 (Nd.csL [.mk 6 m0 t0 a0 b0 s0,.mk k1 m1 t1 a1 b1 s1,.mk k2 m2 t2 a2 b2 s2])] (boxedV nINDEX [evA ev (.mk 6 m0 t0 a0 b0 s0),evA ev (.mk k1 m1 t1 a1 b1 s1),evA ev (.mk k2 m2 t2 a2 b2 s2)]).d:=by
 obtain ⟨x0,y0,x1,y1,cs,w,h,hb⟩:=bxK hx0
 have c1:=hb.run
 have c2:=index_d te pe hV hx1 hx2 hM hb.len hb.w1 hb.w2 hb.h2
 have eb:boxedV nINDEX [evA ev (.mk 6 m0 t0 a0 b0 s0),evA ev (.mk k1 m1 t1 a1 b1 s1),evA ev (.mk k2 m2 t2 a2 b2 s2)]=boxV nINDEX [evA ev (.mk 6 m0 t0 a0 b0 s0),evA ev (.mk k1 m1 t1 a1 b1 s1),evA ev (.mk k2 m2 t2 a2 b2 s2)] (cs.map (ePt ev)) w:=by
  unfold boxedV
  rw[show (aI [evA ev (.mk 6 m0 t0 a0 b0 s0),evA ev (.mk k1 m1 t1 a1 b1 s1),evA ev (.mk k2 m2 t2 a2 b2 s2)] (if nINDEX=nMATCH∨nINDEX=nLOOKUP then 1 else 0)).bx=some (cs.map (ePt ev),w) by show (evA ev (.mk 6 m0 t0 a0 b0 s0)).bx=_;rw[hb.arg];rfl]
 rw[eb,show boxV nINDEX [evA ev (.mk 6 m0 t0 a0 b0 s0),evA ev (.mk k1 m1 t1 a1 b1 s1),evA ev (.mk k2 m2 t2 a2 b2 s2)] (cs.map (ePt ev)) w=indexV (cs.map (ePt ev)) w (evN ev (.mk k1 m1 t1 a1 b1 s1)) (evN ev (.mk k2 m2 t2 a2 b2 s2)) by
  unfold boxV
  rw[if_neg (by decide),if_neg (by decide),if_pos rfl]
  rfl]
 have w1:=hb.ww
 have w2:=hb.wh
 have w3:=hb.ew
 have w4:=hb.eh
 clear hb eb hx0 hx1 hx2
 generalize indexV (cs.map (ePt ev)) w (evN ev (.mk k1 m1 t1 a1 b1 s1)) (evN ev (.mk k2 m2 t2 a2 b2 s2))=z at *
 have g0:(Nd.csL [.mk 6 m0 t0 a0 b0 s0,.mk k1 m1 t1 a1 b1 s1,.mk k2 m2 t2 a2 b2 s2])[(0:Int).toNat]?=some (ndR 6 m0 t0 a0 b0 s0):=rfl
 refine S0 Tryz.func116 rfl ?_
 ((repeat' ((conv=>whnf);first|exact .intro|refine G ?_|intro _|refine C1 c1 ?_|refine C1 c2 ?_|(first|rw[w1]|rw[w2]|rw[w3]|rw[w4]|refine ⟨Int.le_refl _,_,g0,?_⟩|refine ⟨⟨show (0:Int)≤1 by decide,show (1:Int)≤((3:Nat):Int) by decide,show ((3:Nat):Int)≤((3:Nat):Int) by decide⟩,?_⟩)|refine .mk ?_ ?_|refine H ?_|fail));all_goals conv=>whnf)
 all_goals exact LeD.rfl
end
end
section
variable {gl:List (Nat×List D)}
theorem call_wn {mk:List (Int×Int)} {mv:List Vl} {ks:List Nd} {t:List UInt8} (hm:¬ isMany t) {lo hi:Int} (hlh:argZ t=(lo,hi)) (h0:lo<0):FnP Tryz.prog (wG gl) 66 [mpE mk mv,.str t,.lst 12 (Nd.csL ks)] (vlD 4 4 []):=by
 have a1:=many_d (gl:=wG gl) t
 have a2:FnP Tryz.prog (wG gl) 114 [.str t] (.tup [iD lo,iD hi]):=by
  have:=arguments_d (gl:=wG gl) t
  rwa [hlh] at this
 have c1:=Wrong_d (gl:=wG gl) 4
 refine S0 Tryz.func66 rfl ?_
 ((repeat' ((conv=>whnf);first|exact .intro|refine G ?_|intro _|refine C1 a1 ?_|refine C1 a2 ?_|refine C1 c1 ?_|refine .mk ?_ ?_|refine H ?_|fail));all_goals conv=>whnf)
 all_goals exact LeD.rfl
theorem call_wa {mk:List (Int×Int)} {mv:List Vl} {ks:List Nd} {t:List UInt8} (hm:¬ isMany t) {lo hi:Int} (hlh:argZ t=(lo,hi)) (h0:¬ lo<0) (h1:(((Nd.csL ks).length:Nat):Int)<lo∨hi<(((Nd.csL ks).length:Nat):Int)):FnP Tryz.prog (wG gl) 66 [mpE mk mv,.str t,.lst 12 (Nd.csL ks)] wrV.d:=by
 have a1:=many_d (gl:=wG gl) t
 have a2:FnP Tryz.prog (wG gl) 114 [.str t] (.tup [iD lo,iD hi]):=by
  have:=arguments_d (gl:=wG gl) t
  rwa [hlh] at this
 by_cases h2:(((Nd.csL ks).length:Nat):Int)<lo
 ·refine S0 Tryz.func66 rfl ?_
  ((repeat' ((conv=>whnf);first|exact .intro|refine G ?_|intro _|refine C1 a1 ?_|refine C1 a2 ?_|refine .mk ?_ ?_|refine H ?_|fail));all_goals conv=>whnf)
  all_goals exact LeD.rfl
 ·have h3:=h1.resolve_left h2
  refine S0 Tryz.func66 rfl ?_
  ((repeat' ((conv=>whnf);first|exact .intro|refine G ?_|intro _|refine C1 a1 ?_|refine C1 a2 ?_|refine .mk ?_ ?_|refine H ?_|fail));all_goals conv=>whnf)
  all_goals exact LeD.rfl
theorem call_non {mk:List (Int×Int)} {mv:List Vl} {ks:List Nd} {t:List UInt8} (hm:¬ isMany t) {lo hi:Int} (hlh:argZ t=(lo,hi)) (h0:¬ lo<0) (h1:¬ (((Nd.csL ks).length:Nat):Int)<lo) (h2:¬ hi<(((Nd.csL ks).length:Nat):Int)) (q:t=nNONE):FnP Tryz.prog (wG gl) 66 [mpE mk mv,.str t,.lst 12 (Nd.csL ks)] (vlD 4 6 []):=by
 have a1:=many_d (gl:=wG gl) t
 have a2:FnP Tryz.prog (wG gl) 114 [.str t] (.tup [iD lo,iD hi]):=by
  have:=arguments_d (gl:=wG gl) t
  rwa [hlh] at this
 have c1:=Wrong_d (gl:=wG gl) 6
 refine S0 Tryz.func66 rfl ?_
 ((repeat' ((conv=>whnf);first|exact .intro|refine G ?_|intro _|refine C1 a1 ?_|refine C1 a2 ?_|refine C1 c1 ?_|refine .mk ?_ ?_|refine H ?_|fail));all_goals conv=>whnf)
 all_goals exact LeD.rfl
theorem call_m0 {mk:List (Int×Int)} {mv:List Vl} {ks:List Nd} {t:List UInt8} (hm:isMany t) (h0:(((Nd.csL ks).length:Nat):Int)=0):FnP Tryz.prog (wG gl) 66 [mpE mk mv,.str t,.lst 12 (Nd.csL ks)] wrV.d:=by
 have a1:=many_d (gl:=wG gl) t
 refine S0 Tryz.func66 rfl ?_
 ((repeat' ((conv=>whnf);first|exact .intro|refine G ?_|intro _|refine C1 a1 ?_|refine .mk ?_ ?_|refine H ?_|fail));all_goals conv=>whnf)
 all_goals exact LeD.rfl
theorem call_m {mk:List (Int×Int)} {mv:List Vl} {ks:List Nd} {t:List UInt8} (hm:isMany t) (h0:¬ (((Nd.csL ks).length:Nat):Int)=0) {r:Vl} (c:FnP Tryz.prog (wG gl) 113 [mpE mk mv,.str t,.lst 12 (Nd.csL ks)] r.d):FnP Tryz.prog (wG gl) 66 [mpE mk mv,.str t,.lst 12 (Nd.csL ks)] r.d:=by
 have a1:=many_d (gl:=wG gl) t
 refine S0 Tryz.func66 rfl ?_
 ((repeat' ((conv=>whnf);first|exact .intro|refine G ?_|intro _|refine C1 a1 ?_|refine C1 c ?_|refine .mk ?_ ?_|refine H ?_|fail));all_goals conv=>whnf)
 all_goals exact LeD.rfl
theorem call_cho {mk:List (Int×Int)} {mv:List Vl} {ks:List Nd} {t:List UInt8} (hm:¬ isMany t) {lo hi:Int} (hlh:argZ t=(lo,hi)) (h0:¬ lo<0) (h1:¬ (((Nd.csL ks).length:Nat):Int)<lo) (h2:¬ hi<(((Nd.csL ks).length:Nat):Int)) (hq:t=nIF∨t=nIFBAD∨t=nCHOOSE) {r:Vl} (c:FnP Tryz.prog (wG gl) 115 [mpE mk mv,.str t,.lst 12 (Nd.csL ks)] r.d):FnP Tryz.prog (wG gl) 66 [mpE mk mv,.str t,.lst 12 (Nd.csL ks)] r.d:=by
 have a1:=many_d (gl:=wG gl) t
 have a2:FnP Tryz.prog (wG gl) 114 [.str t] (.tup [iD lo,iD hi]):=by
  have:=arguments_d (gl:=wG gl) t
  rwa [hlh] at this
 rcases hq with q|q|q
 ·skip
  have qNONE:¬ t=nNONE:=by rw[q];decide
  refine S0 Tryz.func66 rfl ?_
  ((repeat' ((conv=>whnf);first|exact .intro|refine G ?_|intro _|refine C1 a1 ?_|refine C1 a2 ?_|refine C1 c ?_|refine .mk ?_ ?_|refine H ?_|fail));all_goals conv=>whnf)
  all_goals exact LeD.rfl
 ·skip
  have qNONE:¬ t=nNONE:=by rw[q];decide
  have qIF:¬ t=nIF:=by rw[q];decide
  refine S0 Tryz.func66 rfl ?_
  ((repeat' ((conv=>whnf);first|exact .intro|refine G ?_|intro _|refine C1 a1 ?_|refine C1 a2 ?_|refine C1 c ?_|refine .mk ?_ ?_|refine H ?_|fail));all_goals conv=>whnf)
  all_goals exact LeD.rfl
 ·skip
  have qNONE:¬ t=nNONE:=by rw[q];decide
  have qIF:¬ t=nIF:=by rw[q];decide
  have qIFBAD:¬ t=nIFBAD:=by rw[q];decide
  refine S0 Tryz.func66 rfl ?_
  ((repeat' ((conv=>whnf);first|exact .intro|refine G ?_|intro _|refine C1 a1 ?_|refine C1 a2 ?_|refine C1 c ?_|refine .mk ?_ ?_|refine H ?_|fail));all_goals conv=>whnf)
  all_goals exact LeD.rfl
theorem call_box {mk:List (Int×Int)} {mv:List Vl} {ks:List Nd} {t:List UInt8} (hm:¬ isMany t) {lo hi:Int} (hlh:argZ t=(lo,hi)) (h0:¬ lo<0) (h1:¬ (((Nd.csL ks).length:Nat):Int)<lo) (h2:¬ hi<(((Nd.csL ks).length:Nat):Int)) (hq:t=nROWS∨t=nCOLS∨t=nINDEX∨t=nMATCH∨t=nLOOKUP∨t=nCOUNTIF∨t=nSUMIF) {r:Vl} (c:FnP Tryz.prog (wG gl) 116 [mpE mk mv,.str t,.lst 12 (Nd.csL ks)] r.d):FnP Tryz.prog (wG gl) 66 [mpE mk mv,.str t,.lst 12 (Nd.csL ks)] r.d:=by
 have a1:=many_d (gl:=wG gl) t
 have a2:FnP Tryz.prog (wG gl) 114 [.str t] (.tup [iD lo,iD hi]):=by
  have:=arguments_d (gl:=wG gl) t
  rwa [hlh] at this
 rcases hq with q|q|q|q|q|q|q
 ·skip
  have qNONE:¬ t=nNONE:=by rw[q];decide
  have qIF:¬ t=nIF:=by rw[q];decide
  have qIFBAD:¬ t=nIFBAD:=by rw[q];decide
  have qCHOOSE:¬ t=nCHOOSE:=by rw[q];decide
  have qBADP:¬ t=nBADP:=by rw[q];decide
  have qBLANKP:¬ t=nBLANKP:=by rw[q];decide
  have qNUMP:¬ t=nNUMP:=by rw[q];decide
  refine S0 Tryz.func66 rfl ?_
  ((repeat' ((conv=>whnf);first|exact .intro|refine G ?_|intro _|refine C1 a1 ?_|refine C1 a2 ?_|refine C1 c ?_|refine .mk ?_ ?_|refine H ?_|fail));all_goals conv=>whnf)
  all_goals exact LeD.rfl
 ·skip
  have qNONE:¬ t=nNONE:=by rw[q];decide
  have qIF:¬ t=nIF:=by rw[q];decide
  have qIFBAD:¬ t=nIFBAD:=by rw[q];decide
  have qCHOOSE:¬ t=nCHOOSE:=by rw[q];decide
  have qBADP:¬ t=nBADP:=by rw[q];decide
  have qBLANKP:¬ t=nBLANKP:=by rw[q];decide
  have qNUMP:¬ t=nNUMP:=by rw[q];decide
  have qROWS:¬ t=nROWS:=by rw[q];decide
  refine S0 Tryz.func66 rfl ?_
  ((repeat' ((conv=>whnf);first|exact .intro|refine G ?_|intro _|refine C1 a1 ?_|refine C1 a2 ?_|refine C1 c ?_|refine .mk ?_ ?_|refine H ?_|fail));all_goals conv=>whnf)
  all_goals exact LeD.rfl
 ·skip
  have qNONE:¬ t=nNONE:=by rw[q];decide
  have qIF:¬ t=nIF:=by rw[q];decide
  have qIFBAD:¬ t=nIFBAD:=by rw[q];decide
  have qCHOOSE:¬ t=nCHOOSE:=by rw[q];decide
  have qBADP:¬ t=nBADP:=by rw[q];decide
  have qBLANKP:¬ t=nBLANKP:=by rw[q];decide
  have qNUMP:¬ t=nNUMP:=by rw[q];decide
  have qROWS:¬ t=nROWS:=by rw[q];decide
  have qCOLS:¬ t=nCOLS:=by rw[q];decide
  refine S0 Tryz.func66 rfl ?_
  ((repeat' ((conv=>whnf);first|exact .intro|refine G ?_|intro _|refine C1 a1 ?_|refine C1 a2 ?_|refine C1 c ?_|refine .mk ?_ ?_|refine H ?_|fail));all_goals conv=>whnf)
  all_goals exact LeD.rfl
 ·skip
  have qNONE:¬ t=nNONE:=by rw[q];decide
  have qIF:¬ t=nIF:=by rw[q];decide
  have qIFBAD:¬ t=nIFBAD:=by rw[q];decide
  have qCHOOSE:¬ t=nCHOOSE:=by rw[q];decide
  have qBADP:¬ t=nBADP:=by rw[q];decide
  have qBLANKP:¬ t=nBLANKP:=by rw[q];decide
  have qNUMP:¬ t=nNUMP:=by rw[q];decide
  have qROWS:¬ t=nROWS:=by rw[q];decide
  have qCOLS:¬ t=nCOLS:=by rw[q];decide
  have qINDEX:¬ t=nINDEX:=by rw[q];decide
  refine S0 Tryz.func66 rfl ?_
  ((repeat' ((conv=>whnf);first|exact .intro|refine G ?_|intro _|refine C1 a1 ?_|refine C1 a2 ?_|refine C1 c ?_|refine .mk ?_ ?_|refine H ?_|fail));all_goals conv=>whnf)
  all_goals exact LeD.rfl
 ·skip
  have qNONE:¬ t=nNONE:=by rw[q];decide
  have qIF:¬ t=nIF:=by rw[q];decide
  have qIFBAD:¬ t=nIFBAD:=by rw[q];decide
  have qCHOOSE:¬ t=nCHOOSE:=by rw[q];decide
  have qBADP:¬ t=nBADP:=by rw[q];decide
  have qBLANKP:¬ t=nBLANKP:=by rw[q];decide
  have qNUMP:¬ t=nNUMP:=by rw[q];decide
  have qROWS:¬ t=nROWS:=by rw[q];decide
  have qCOLS:¬ t=nCOLS:=by rw[q];decide
  have qINDEX:¬ t=nINDEX:=by rw[q];decide
  have qMATCH:¬ t=nMATCH:=by rw[q];decide
  refine S0 Tryz.func66 rfl ?_
  ((repeat' ((conv=>whnf);first|exact .intro|refine G ?_|intro _|refine C1 a1 ?_|refine C1 a2 ?_|refine C1 c ?_|refine .mk ?_ ?_|refine H ?_|fail));all_goals conv=>whnf)
  all_goals exact LeD.rfl
 ·skip
  have qNONE:¬ t=nNONE:=by rw[q];decide
  have qIF:¬ t=nIF:=by rw[q];decide
  have qIFBAD:¬ t=nIFBAD:=by rw[q];decide
  have qCHOOSE:¬ t=nCHOOSE:=by rw[q];decide
  have qBADP:¬ t=nBADP:=by rw[q];decide
  have qBLANKP:¬ t=nBLANKP:=by rw[q];decide
  have qNUMP:¬ t=nNUMP:=by rw[q];decide
  have qROWS:¬ t=nROWS:=by rw[q];decide
  have qCOLS:¬ t=nCOLS:=by rw[q];decide
  have qINDEX:¬ t=nINDEX:=by rw[q];decide
  have qMATCH:¬ t=nMATCH:=by rw[q];decide
  have qLOOKUP:¬ t=nLOOKUP:=by rw[q];decide
  refine S0 Tryz.func66 rfl ?_
  ((repeat' ((conv=>whnf);first|exact .intro|refine G ?_|intro _|refine C1 a1 ?_|refine C1 a2 ?_|refine C1 c ?_|refine .mk ?_ ?_|refine H ?_|fail));all_goals conv=>whnf)
  all_goals exact LeD.rfl
 ·skip
  have qNONE:¬ t=nNONE:=by rw[q];decide
  have qIF:¬ t=nIF:=by rw[q];decide
  have qIFBAD:¬ t=nIFBAD:=by rw[q];decide
  have qCHOOSE:¬ t=nCHOOSE:=by rw[q];decide
  have qBADP:¬ t=nBADP:=by rw[q];decide
  have qBLANKP:¬ t=nBLANKP:=by rw[q];decide
  have qNUMP:¬ t=nNUMP:=by rw[q];decide
  have qROWS:¬ t=nROWS:=by rw[q];decide
  have qCOLS:¬ t=nCOLS:=by rw[q];decide
  have qINDEX:¬ t=nINDEX:=by rw[q];decide
  have qMATCH:¬ t=nMATCH:=by rw[q];decide
  have qLOOKUP:¬ t=nLOOKUP:=by rw[q];decide
  have qCOUNTIF:¬ t=nCOUNTIF:=by rw[q];decide
  refine S0 Tryz.func66 rfl ?_
  ((repeat' ((conv=>whnf);first|exact .intro|refine G ?_|intro _|refine C1 a1 ?_|refine C1 a2 ?_|refine C1 c ?_|refine .mk ?_ ?_|refine H ?_|fail));all_goals conv=>whnf)
  all_goals exact LeD.rfl
theorem call_badp {mk:List (Int×Int)} {mv:List Vl} {ev:Int→Int→Vl} {x:Nd} (hx:KdOk (wG gl) mk mv ev x):FnP Tryz.prog (wG gl) 66 [mpE mk mv,.str nBADP,.lst 12 (Nd.csL [x])] (truD ((evN ev x).k=4)).d:=by
 have a1:FnP Tryz.prog (wG gl) 112 [.str nBADP] (.b (isMany nBADP) inferInstance):=many_d _
 have a2:FnP Tryz.prog (wG gl) 114 [.str nBADP] (.tup [iD 1,iD 1]):=arguments_d nBADP
 have hm:¬ isMany nBADP:=by decide
 have c1:=hx.run
 clear hx
 generalize evN ev x=v at *
 have c2:FnP Tryz.prog (wG gl) 107 [v.d] (.b (v.k=4) inferInstance):=bad_d
 have c3:FnP Tryz.prog (wG gl) 62 [.b (v.k=4) inferInstance] (vlD 3 (if v.k=4 then 1 else 0) []):=Is_b _
 obtain ⟨k1,m1,t1,a1',b1,s1⟩:=x
 have g1:(Nd.csL [.mk k1 m1 t1 a1' b1 s1])[(0:Int).toNat]?=some (ndR k1 m1 t1 a1' b1 s1):=rfl
 have h1:¬ (((Nd.csL [.mk k1 m1 t1 a1' b1 s1]).length:Nat):Int)<1:=by show ¬ ((1:Nat):Int)<1;decide
 have h2:¬ 1<(((Nd.csL [.mk k1 m1 t1 a1' b1 s1]).length:Nat):Int):=by show ¬ 1<((1:Nat):Int);decide
 refine S0 Tryz.func66 rfl ?_
 ((repeat' ((conv=>whnf);first|exact .intro|refine G ?_|intro _|refine C1 a1 ?_|refine C1 a2 ?_|refine C1 c1 ?_|refine C1 c2 ?_|refine C1 c3 ?_|(refine ⟨Int.le_refl _,_,g1,?_⟩)|refine .mk ?_ ?_|refine H ?_|fail));all_goals conv=>whnf)
 all_goals exact LeD.rfl
theorem call_blankp {mk:List (Int×Int)} {mv:List Vl} {ev:Int→Int→Vl} {x:Nd} (hx:KdOk (wG gl) mk mv ev x):FnP Tryz.prog (wG gl) 66 [mpE mk mv,.str nBLANKP,.lst 12 (Nd.csL [x])] (truD ((evN ev x).k=0)).d:=by
 have a1:FnP Tryz.prog (wG gl) 112 [.str nBLANKP] (.b (isMany nBLANKP) inferInstance):=many_d _
 have a2:FnP Tryz.prog (wG gl) 114 [.str nBLANKP] (.tup [iD 1,iD 1]):=arguments_d nBLANKP
 have hm:¬ isMany nBLANKP:=by decide
 have c1:=hx.run
 clear hx
 generalize evN ev x=v at *
 have c2:FnP Tryz.prog (wG gl) 107 [v.d] (.b (v.k=4) inferInstance):=bad_d
 have c3:FnP Tryz.prog (wG gl) 62 [.b (v.k=0) inferInstance] (vlD 3 (if v.k=0 then 1 else 0) []):=Is_b _
 obtain ⟨k1,m1,t1,a1',b1,s1⟩:=x
 have g1:(Nd.csL [.mk k1 m1 t1 a1' b1 s1])[(0:Int).toNat]?=some (ndR k1 m1 t1 a1' b1 s1):=rfl
 have h1:¬ (((Nd.csL [.mk k1 m1 t1 a1' b1 s1]).length:Nat):Int)<1:=by show ¬ ((1:Nat):Int)<1;decide
 have h2:¬ 1<(((Nd.csL [.mk k1 m1 t1 a1' b1 s1]).length:Nat):Int):=by show ¬ 1<((1:Nat):Int);decide
 refine S0 Tryz.func66 rfl ?_
 ((repeat' ((conv=>whnf);first|exact .intro|refine G ?_|intro _|refine C1 a1 ?_|refine C1 a2 ?_|refine C1 c1 ?_|refine C1 c2 ?_|refine C1 c3 ?_|(refine ⟨Int.le_refl _,_,g1,?_⟩)|refine .mk ?_ ?_|refine H ?_|fail));all_goals conv=>whnf)
 all_goals exact LeD.rfl
theorem call_nump {mk:List (Int×Int)} {mv:List Vl} {ev:Int→Int→Vl} {x:Nd} (hx:KdOk (wG gl) mk mv ev x):FnP Tryz.prog (wG gl) 66 [mpE mk mv,.str nNUMP,.lst 12 (Nd.csL [x])] (truD ((evN ev x).k=1)).d:=by
 have a1:FnP Tryz.prog (wG gl) 112 [.str nNUMP] (.b (isMany nNUMP) inferInstance):=many_d _
 have a2:FnP Tryz.prog (wG gl) 114 [.str nNUMP] (.tup [iD 1,iD 1]):=arguments_d nNUMP
 have hm:¬ isMany nNUMP:=by decide
 have c1:=hx.run
 clear hx
 generalize evN ev x=v at *
 have c2:FnP Tryz.prog (wG gl) 107 [v.d] (.b (v.k=4) inferInstance):=bad_d
 have c3:FnP Tryz.prog (wG gl) 62 [.b (v.k=1) inferInstance] (vlD 3 (if v.k=1 then 1 else 0) []):=Is_b _
 obtain ⟨k1,m1,t1,a1',b1,s1⟩:=x
 have g1:(Nd.csL [.mk k1 m1 t1 a1' b1 s1])[(0:Int).toNat]?=some (ndR k1 m1 t1 a1' b1 s1):=rfl
 have h1:¬ (((Nd.csL [.mk k1 m1 t1 a1' b1 s1]).length:Nat):Int)<1:=by show ¬ ((1:Nat):Int)<1;decide
 have h2:¬ 1<(((Nd.csL [.mk k1 m1 t1 a1' b1 s1]).length:Nat):Int):=by show ¬ 1<((1:Nat):Int);decide
 refine S0 Tryz.func66 rfl ?_
 ((repeat' ((conv=>whnf);first|exact .intro|refine G ?_|intro _|refine C1 a1 ?_|refine C1 a2 ?_|refine C1 c1 ?_|refine C1 c2 ?_|refine C1 c3 ?_|(refine ⟨Int.le_refl _,_,g1,?_⟩)|refine .mk ?_ ?_|refine H ?_|fail));all_goals conv=>whnf)
 all_goals exact LeD.rfl
theorem call_gen {mk:List (Int×Int)} {mv:List Vl} {ev:Int→Int→Vl} {ks:List Nd} {t:List UInt8} (hm:¬ isMany t) {lo hi:Int} (hlh:argZ t=(lo,hi)) (h0:¬ lo<0) (h1:¬ (((Nd.csL ks).length:Nat):Int)<lo) (h2:¬ hi<(((Nd.csL ks).length:Nat):Int)) (hT:¬ t=nNONE∧¬ t=nIF∧¬ t=nIFBAD∧¬ t=nCHOOSE∧¬ t=nBADP∧¬ t=nBLANKP∧¬ t=nNUMP∧¬ t=nROWS∧¬ t=nCOLS∧¬ t=nINDEX∧¬ t=nMATCH∧¬ t=nLOOKUP∧¬ t=nCOUNTIF∧¬ t=nSUMIF) (hk:∀ x (h:x<ks.length),KdOk (wG gl) mk mv ev ks[x]) (hlk:ks.length≤200) {r:Vl}
 (hr:badL (ks.map (evN ev))=none→(isReck t∧FnP Tryz.prog (wG gl) 117 [.str t,.lst 3 ((ks.map (evN ev)).map vlR')] r.d)∨(¬ isReck t∧FnP Tryz.prog (wG gl) 118 [.str t,.lst 3 ((ks.map (evN ev)).map vlR')] r.d)):FnP Tryz.prog (wG gl) 66 [mpE mk mv,.str t,.lst 12 (Nd.csL ks)] (match badL (ks.map (evN ev)) with|some b=>b|none=>r).d:=by
 have a1:=many_d (gl:=wG gl) t
 have a2:FnP Tryz.prog (wG gl) 114 [.str t] (.tup [iD lo,iD hi]):=by
  have:=arguments_d (gl:=wG gl) t
  rwa [hlh] at this
 have hlen:=kid_len ks
 have hml:(ks.map (evN ev)).length=ks.length:=List.length_map _
 obtain ⟨qNONE,qIF,qIFBAD,qCHOOSE,qBADP,qBLANKP,qNUMP,qROWS,qCOLS,qINDEX,qMATCH,qLOOKUP,qCOUNTIF,qSUMIF⟩:=hT
 refine S0 Tryz.func66 rfl ?_
 ((repeat' ((conv=>whnf);first|exact .intro|refine G ?_|intro _|refine C1 a1 ?_|refine C1 a2 ?_|refine .mk ?_ ?_|refine H ?_|fail));all_goals conv=>whnf)
 refine ⟨{ σ:=Nat,fr:=fun k=>[(100,.c (.d (iD (k:Int)))),(9,.c (.all 3 1))],ks:=[],L:=fun k=>[(1,.rows 3 (((ks.map (evN ev)).take k).map vlR') 31)],ex:=1,I:=fun k=>k≤ks.length,μ:=fun k=>ks.length - k },⟨0,Nat.zero_le _,?_⟩,fun (k:Nat) hk'=>?_⟩
 ·((repeat' first|exact rfl|((conv=>whnf);first|done|exact suL|refine And.intro ?_ ?_|fail));all_goals conv=>whnf)
  all_goals first|exact .inr (.inr (.inl ⟨rfl,3,1,rfl,by decide⟩))|exact ⟨3,_,rfl,by decide,by decide⟩|skip
 replace hk':k≤ks.length:=hk'
 by_cases hlt:k<ks.length
 ·have h3:(k:Int)<((Nd.csL ks).length:Nat):=by omega
  have g1:=kid_get hlt
  have c1:=(hk k hlt).run
  have e0:=wx (x:=k) (by omega)
  have hsn:((ks.map (evN ev)).take (k+1)).map vlR'=((ks.map (evN ev)).take k).map vlR'++[vlR' (evN ev ks[k])]:=by
   rw[List.take_succ_eq_append_getElem (by rw[hml];exact hlt),List.map_append,List.getElem_map]
   rfl
  have hrl:(((ks.map (evN ev)).take k).map vlR').length=k:=by rw[List.length_map,List.length_take,hml];omega
  have b1:((((ks.map (evN ev)).take k).map vlR').length+1) * 32≤140737488355328:=by omega
  have b2:(((ks.map (evN ev)).take k).map vlR').length+1≤maxLen:=by unfold maxLen;omega
  clear hr
  generalize evN ev ks[k]=v at *
  generalize ks[k]=q at *
  obtain ⟨k1,m1,t1,a1',b1',s1⟩:=q
  change (Nd.csL ks)[((k:Nat):Int).toNat]?=some (ndR k1 m1 t1 a1' b1' s1) at g1
  ((repeat' ((conv=>whnf);first|exact .intro|refine G ?_|intro _|refine C1 c1 ?_|(first|refine ⟨Int.natCast_nonneg _,_,g1,?_⟩|refine ⟨⟨rfl,b1,b2⟩,?_⟩)|refine .mk ?_ ?_|refine H ?_|fail));all_goals conv=>whnf)
  all_goals refine ⟨k+1,⟨hlt,by show ks.length - (k+1)<ks.length - k;omega⟩,?_⟩
  all_goals ((repeat' first|exact rfl|((conv=>whnf);first|done|exact suL|refine And.intro ?_ ?_|fail));all_goals conv=>whnf)
  all_goals first|exact ceq e0|(rw[hsn];first|done|rfl)|skip
 have h3:¬ (k:Int)<((Nd.csL ks).length:Nat):=by omega
 obtain rfl:k=ks.length:=by omega
 have hrl:(((ks.map (evN ev)).take ks.length).map vlR').length=ks.length:=by rw[List.length_map,List.length_take,hml];omega
 have htk:(ks.map (evN ev)).take ks.length=ks.map (evN ev):=List.take_of_length_le (by rw[hml];exact Nat.le_refl _)
 ((repeat' ((conv=>whnf);first|exact .intro|refine G ?_|intro _|refine .mk ?_ ?_|refine H ?_|fail));all_goals conv=>whnf)
 refine ⟨{ σ:=Nat,fr:=fun k=>[(113,.c (.d (iD (k:Int))))],ks:=[],L:=fun k=>[],ex:=0,I:=fun k=>k≤ks.length∧∀ (j:Nat) (h:j<(ks.map (evN ev)).length),j<k→¬ (ks.map (evN ev))[j].k=4,μ:=fun k=>ks.length - k },⟨0,⟨Nat.zero_le _,fun j _ h=>absurd h (Nat.not_lt_zero j)⟩,?_⟩,fun (k:Nat) hkk=>?_⟩
 ·((repeat' first|exact rfl|((conv=>whnf);first|done|exact suL|refine And.intro ?_ ?_|fail));all_goals conv=>whnf)
 obtain ⟨hkk,hnb⟩:=hkk
 by_cases hlt:k<ks.length
 ·have h4:(k:Int)<(((((ks.map (evN ev)).take ks.length).map vlR').length:Nat):Int):=by omega
  have hml':k<(ks.map (evN ev)).length:=by omega
  have g1:(((ks.map (evN ev)).take ks.length).map vlR')[((k:Nat):Int).toNat]?=some (vlR' ((ks.map (evN ev))[k])):=by
   rw[htk,Int.toNat_natCast,List.getElem?_map,List.getElem?_eq_getElem hml']
   rfl
  have e0:=wx (x:=k) (by omega)
  have hba:=fun hb:((ks.map (evN ev))[k]).k=4=>badL_at hml' hb fun j hj=>hnb j (Nat.lt_trans hj hml') hj
  have hnb1:=fun hb:¬ ((ks.map (evN ev))[k]).k=4=>fun (j:Nat) (h:j<(ks.map (evN ev)).length) (hj:j<k+1)=>show ¬ (ks.map (evN ev))[j].k=4 by
   rcases Nat.lt_succ_iff_lt_or_eq.1 hj with hh|rfl
   ·exact hnb j h hh
   ·exact hb
  clear hr
  generalize (ks.map (evN ev))[k]=v at *
  have c1:FnP Tryz.prog (wG gl) 107 [v.d] (.b (v.k=4) inferInstance):=bad_d
  by_cases hb:v.k=4
  ·rw[hba hb]
   ((repeat' ((conv=>whnf);first|exact .intro|refine G ?_|intro _|refine C1 c1 ?_|(first|refine ⟨⟨Int.natCast_nonneg _,h4⟩,?_⟩|refine ⟨_,g1,?_⟩)|refine .mk ?_ ?_|refine H ?_|fail));all_goals conv=>whnf)
   all_goals exact LeD.rfl
  ·((repeat' ((conv=>whnf);first|exact .intro|refine G ?_|intro _|refine C1 c1 ?_|(first|refine ⟨⟨Int.natCast_nonneg _,h4⟩,?_⟩|refine ⟨_,g1,?_⟩)|refine .mk ?_ ?_|refine H ?_|fail));all_goals conv=>whnf)
   all_goals refine ⟨k+1,⟨⟨hlt,hnb1 hb⟩,by show ks.length - (k+1)<ks.length - k;omega⟩,?_⟩
   all_goals ((repeat' first|exact rfl|((conv=>whnf);first|done|exact suL|refine And.intro ?_ ?_|fail));all_goals conv=>whnf)
   all_goals first|exact ceq e0|skip
 obtain rfl:k=ks.length:=by omega
 have h4:¬ ((ks.length:Nat):Int)<(((((ks.map (evN ev)).take ks.length).map vlR').length:Nat):Int):=by omega
 have hbn:badL (ks.map (evN ev))=none:=badL_none.2 fun v hv=>by
  obtain ⟨j,hj,rfl⟩:=List.getElem_of_mem hv
  exact hnb j hj (by omega)
 have hr':=hr hbn
 rw[← htk] at hr'
 rw[hbn]
 rcases hr' with ⟨hR,c1⟩|⟨hR,c1⟩
 ·((repeat' ((conv=>whnf);first|exact .intro|refine G ?_|intro _|refine C2 c1 ?_|refine .mk ?_ ?_|refine H ?_|fail));all_goals conv=>whnf)
  all_goals first|exact LeD.rfl|exact absurd hR (by simp[isReck, *])
 ·have n1:¬ t=nNOT:=fun h=>hR (.inl h)
  have n2:¬ t=nABS:=fun h=>hR (.inr (.inl h))
  have n3:¬ t=nSIGN:=fun h=>hR (.inr (.inr (.inl h)))
  have n4:¬ t=nMOD:=fun h=>hR (.inr (.inr (.inr (.inl h))))
  have n5:¬ t=nPOWER:=fun h=>hR (.inr (.inr (.inr (.inr (.inl h)))))
  have n6:¬ t=nVALUE:=fun h=>hR (.inr (.inr (.inr (.inr (.inr h)))))
  ((repeat' ((conv=>whnf);first|exact .intro|refine G ?_|intro _|refine C2 c1 ?_|refine .mk ?_ ?_|refine H ?_|fail));all_goals conv=>whnf)
  all_goals exact LeD.rfl
end
end Go.Proofs.YtfkjhfdpphfjhaaGreatDoor
