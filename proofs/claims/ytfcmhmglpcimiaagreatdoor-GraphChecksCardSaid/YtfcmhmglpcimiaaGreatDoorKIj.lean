/- Proved: a part of what the law is proved with (the reckoner, contracts of functions, plain laws). Conditions: as each says. -/
import Derived.Test.YtfcmhmglpcimiaaGreatDoorKIa
import Derived.Test.YtfcmhmglpcimiaaGreatDoorKIe
namespace Go.Proofs.YtfcmhmglpcimiaaGreatDoor
open Go Go.EYtfcmhmglpcimiaaGreatDoor
set_option maxRecDepth 100000
section
set_option maxHeartbeats 8000000
variable {gl:List (Nat×List D)}
theorem tok_op (s:List UInt8) (m:Nat):(∃ op len,opA s m=some (op,len)∧(tokZ s m).k=4∧signZ (tokZ s m).t=op∧(tokZ s m).e=skp s m+len∧1≤op∧op≤11)∨(opA s m=none∧((tokZ s m).k=4→signZ (tokZ s m).t=0)):=by
 unfold tokZ opA
 cases h:opT (s.drop (skp s m)) with
 | none=>exact .inr ⟨rfl,op_none h⟩
 | some q =>
  obtain ⟨op,len⟩:=q
  obtain ⟨t,h1,h2,h3,h4⟩:=op_some (j:=skp s m) h
  rw[h1]
  exact .inl ⟨op,len,rfl,rfl,h2,rfl,h3,h4⟩
def frmX (s:List UInt8) (sub:Nat→Nat→Rs Nd) (sel:Nat→Bool):Nat→Nat→Option (Nat×Nat)
 | 0,_=>none
 | f+1,j=>match opA s j with
  | some (op,len)=>if sel op=true then (match sub op (skp s j+len) with
   | .no _ _=>some (op,skp s j+len)
   | .ok _ k=>frmX s sub sel f k) else none
  | none=>none
theorem frmX_y {s:List UInt8} {sub:Nat→Nat→Rs Nd} {sel:Nat→Bool} {f j op len:Nat} (h:opA s j=some (op,len)) (hs:sel op=true):frmX s sub sel (f+1) j=(match sub op (skp s j+len) with
 | .no _ _=>some (op,skp s j+len)
 | .ok _ k=>frmX s sub sel f k):=by
 rw[frmX,h]
 simp only[]
 rw[if_pos hs]
theorem frmX_of {s:List UInt8} {sub:Nat→Nat→Rs Nd} {sel:Nat→Bool} (hs:∀ op,Fwd s (sub op)):∀ {f:Nat} {n:Nd} {j a:Nat} {e:Int},j≤s.length→frm s sub sel f n j=.no a e→∃ op pl,frmX s sub sel f j=some (op,pl)∧sub op pl=.no a e∧sel op=true∧pl≤s.length
 | 0,n,j,a,e,hj,h=>by cases h
 | f+1,n,j,a,e,hj,h=>by
  cases ho:opA s j with
  | none=>rw[frm_none fun op len hh=>(by rw[ho] at hh;cases hh)] at h;cases h
  | some q =>
   obtain ⟨op,len⟩:=q
   have hl:=opA_len ho
   by_cases hse:sel op=true
   ·rw[frm_y ho hse] at h
    rw[frmX_y ho hse]
    cases hx:sub op (skp s j+len) with
    | no a' e' =>
     rw[hx] at h
     cases h
     exact ⟨op,_,rfl,hx,hse,hl.2⟩
    | ok m k =>
     rw[hx] at h
     exact frmX_of hs (hs op _ _ _ hl.2 hx).2 h
   ·rw[frm_none fun op' len' hh=>(by rw[ho] at hh;cases hh;simpa using hse)] at h
    cases h
theorem loose_e {s:List UInt8} {least d i:Nat} {one:Nat→Rs Nd} {sub:Nat→Nat→Rs Nd} (_hd:d≤30) (_hs:s.length≤200) (_hf:Fwd s one) (_hf2:∀ op,Fwd s (sub op)) (hi:i≤s.length)
 (h1:∀ j,j≤s.length→GivesP gl 52 [.c (.ptr 0 0)] s j d d (one j))
 (_ht:∀ op j,least≤tgt op→j≤s.length→GivesP gl 34 [.c (.ptr 0 0),.c (.d (iD ((tgt op+1:Nat):Int)))] s j d d (sub op j)) {a:Nat} {e:Int} (hx:one i=.no a e):GivesP gl 34 [.c (.ptr 0 0),.c (.d (iD (least:Int)))] s i d d (.no a e):=by
 have hx0:=h1 i hi
 rw[hx] at hx0
 obtain ⟨m,j,x,hj,he,hx0⟩:=hx0
 refine ⟨n0,j,x,hj,he,?_⟩
 have he':¬ e=0:=he
 obtain ⟨k1,m1,t1,a1,b1,ks1⟩:=m
 refine S1 Tryz.func34 rfl ?_
 ((repeat' ((conv=>whnf);first|exact .intro|refine G ?_|intro _|refine C5 hx0 [0] ?_|refine .mk ?_ ?_|refine H ?_|fail));all_goals conv=>whnf)
 refine ⟨{ σ:=Unit,fr:=fun q=>[],ks:=[],L:=fun q=>[],ex:=0,I:=fun q=>True,μ:=fun q=>0 },⟨(),trivial,?_⟩,fun _ _=>?_⟩
 ·((repeat' first|exact rfl|((conv=>whnf);first|done|exact suL|refine And.intro ?_ ?_|fail));all_goals conv=>whnf)
 ·((repeat' ((conv=>whnf);first|exact .intro|refine G ?_|intro _|refine .mk ?_ ?_|refine H ?_|fail));all_goals conv=>whnf)
  ((repeat' first|exact rfl|((conv=>whnf);first|done|exact suL|refine And.intro ?_ ?_|fail));all_goals conv=>whnf)
  all_goals (refine .inr ?_;repeat' first|exact .intro|exact .inr (.inl rfl)|exact lf0|exact ln0|((conv=>whnf);first|exact .intro|exact .inr (.inl rfl)|exact lf0|exact ln0|refine And.intro ?_ ?_|fail))
theorem loose_o {s:List UInt8} {least d i:Nat} {one:Nat→Rs Nd} {sub:Nat→Nat→Rs Nd} (_hd:d≤30) (hs:s.length≤200) (hf:Fwd s one) (hf2:∀ op,Fwd s (sub op)) (hi:i≤s.length)
 (h1:∀ j,j≤s.length→GivesP gl 52 [.c (.ptr 0 0)] s j d d (one j))
 (ht:∀ op j,least≤tgt op→j≤s.length→GivesP gl 34 [.c (.ptr 0 0),.c (.d (iD ((tgt op+1:Nat):Int)))] s j d d (sub op j)) {n:Nd} {m:Nat} (hx:one i=.ok n m) {nn:Nd} {jj:Nat} (hR:frm s sub (fun op=>decide (least≤tgt op)) (s.length+1) n m=.ok nn jj) :
 GivesP gl 34 [.c (.ptr 0 0),.c (.d (iD (least:Int)))] s i d d (.ok nn jj):=by
 have hx0:=h1 i hi
 rw[hx] at hx0
 obtain ⟨hm0,hm1⟩:=hf i n m hi hx
 unfold GivesP at hx0
 clear hx
 unfold GivesP
 obtain ⟨k1,m1,t1,a1,b1,ks1⟩:=n
 refine fn_of_vc (nv:=9999) (cu:=[4]) fits mixed Tryz.func34 rfl hoB rfl rfl rfl rfl ?_
 ((repeat' ((conv=>whnf);first|exact .intro|refine G ?_|intro _|refine C5 hx0 [0] ?_|refine .mk ?_ ?_|refine H ?_|fail));all_goals conv=>whnf)
 refine ⟨{ σ:=Nat×Nd×Nat×Int×Int,fr:=fun q=>[],ks:=[0,2],L:=fun q=>[(0,pB s q.1 q.2.2.1 q.2.2.2.1 q.2.2.2.2),(2,.var (ndC q.2.1) 64)],ex:=0,fz:=[5],I:=fun q=>(q.2.2.2.1=0∧q.2.2.1=0∧q.2.2.2.2=(d:Int)∧q.1≤s.length∧∃ f,s.length - q.1<f∧frm s sub (fun op=>decide (least≤tgt op)) f q.2.1 q.1=.ok nn jj)∨(False),μ:=fun q=>if q.2.2.2.1=0 then s.length - q.1+1 else 0 },⟨(m,.mk k1 m1 t1 a1 b1 ks1,0,0,(d:Int)),.inl ⟨rfl,rfl,rfl,hm1,s.length+1,by show s.length - m<s.length+1;omega,hR⟩,?_⟩,?_⟩
 ·((repeat' first|exact rfl|((conv=>whnf);first|done|exact suL|refine And.intro ?_ ?_|fail));all_goals conv=>whnf)
 ·clear hm0 hm1 hx0 hR
  rintro ⟨m,n,wr,bd,dp⟩ hI
  simp only at hI
  obtain ⟨rfl,rfl,rfl,hm1,f,hm2,hm3⟩:bd=0∧wr=0∧dp=(d:Int)∧m≤s.length∧∃ f,s.length - m<f∧frm s sub (fun op=>decide (least≤tgt op)) f n m=.ok nn jj:=by simpa using hI
  obtain ⟨f,rfl⟩:∃ g,f=g+1:=⟨f - 1,by omega⟩
  have c1:=tok_d (gl:=gl) hm1 hs
  have hop:=tok_op s m
  have hje:=tok_e hm1
  obtain ⟨k0,m0,t0,a0,b0,ks0⟩:=n
  generalize htk:tokZ s m=tk at *
  obtain ⟨K,A,E,T⟩:=tk
  change FnP Tryz.prog gl 35 _ (.agg [iD (K:Int),iD ((A:Nat):Int),iD ((E:Nat):Int),.str T]) at c1
  have c2:=Sign_d (gl:=gl) T
  have c3:=Tight_d (gl:=gl) (signZ T)
  simp only at hop hje
  ((repeat' ((conv=>whnf);first|exact .intro|refine G ?_|intro _|refine C1 c1 ?_|refine .mk ?_ ?_|refine H ?_|fail));all_goals conv=>whnf)
  refine ⟨{ σ:=Unit,fr:=fun q=>[(6,.c (.ptr 3 0))],ks:=[],L:=fun q=>[(3,.var [.d (iD (K:Int)),.d (iD (A:Int)),.d (iD (E:Int)),.d (.str T)] 93)],ex:=1,I:=fun q=>True,μ:=fun q=>0 },?_,fun _ _=>?_⟩
  ·((repeat' ((conv=>whnf);first|exact .intro|refine G ?_|intro _|refine C1 c1 ?_|refine .mk ?_ ?_|refine H ?_|fail));all_goals conv=>whnf)
   all_goals
    refine ⟨(),trivial,?_⟩
    ((repeat' first|exact rfl|((conv=>whnf);first|done|exact suL|refine And.intro ?_ ?_|fail));all_goals conv=>whnf)
  ·rcases hop with ⟨op,len,ho,h4,hsg,hE,ho1,ho2⟩|⟨ho,h4⟩
   ·have h4':((K:Nat):Int)=4:=by omega
    have hz:¬ ((signZ T:Nat):Int)=0:=by omega
    by_cases hse:least≤tgt op
    ·have hse':¬ ((tgt (signZ T):Nat):Int)<((least:Nat):Int):=by rw[hsg];omega
     have hse2:(fun op=>decide (least≤tgt op)) op=true:=by simpa using hse
     have hl:=opA_len ho
     have hge:=le_skp s m
     rw[frm_y ho hse2] at hm3
     have hy0:=ht op (skp s m+len) hse hl.2
     rw[← hE] at hm3 hy0 hl
     have hcg:tgt op+1=tgt (signZ T)+1:=by rw[hsg]
     rw[hcg] at hy0
     have e2:IntKind.i64.wrap (((tgt (signZ T):Nat):Int)+1)=((tgt (signZ T)+1:Nat):Int):=by have:=tgt_le (signZ T);rw[wrapI (by omega)];rfl
     cases hy:sub op E with
     | no q0 e00 =>
      rw[hy] at hm3
      cases hm3
     | ok n2 k2 =>
      rw[hy] at hm3 hy0
      unfold GivesP at hy0
      simp only[Rs.bind_ok] at hm3
      obtain ⟨hk1,hk2⟩:=hf2 op _ _ _ hl.2 hy
      obtain ⟨k1,m1,t1,a1,b1,ks1⟩:=n2
      rw[← hsg] at hm3
      ((repeat' ((conv=>whnf);first|exact .intro|refine G ?_|intro _|refine C5 hy0 [0] ?_|refine C1 c2 ?_|refine C1 c3 ?_|(rw[e2])|refine .mk ?_ ?_|refine H ?_|fail));all_goals conv=>whnf)
      refine ⟨(k2,twoN (signZ T:Int) (.mk k0 m0 t0 a0 b0 ks0) (.mk k1 m1 t1 a1 b1 ks1),0,0,d),⟨.inl ⟨rfl,rfl,rfl,hk2,f,by show s.length - k2<f;omega,hm3⟩,by show (if (0:Int)=0 then s.length - k2+1 else 0)<(if (0:Int)=0 then s.length - m+1 else 0);rw[if_pos rfl,if_pos rfl];omega⟩,?_⟩
      ((repeat' first|exact rfl|((conv=>whnf);first|done|exact suL|refine And.intro ?_ ?_|fail));all_goals conv=>whnf)
      all_goals exact lf0
    ·have hse':((tgt (signZ T):Nat):Int)<((least:Nat):Int):=by rw[hsg];omega
     rw[frm_none fun op' len' ho'=>(by rw[ho] at ho';cases ho';simpa using hse)] at hm3
     obtain ⟨rfl,rfl⟩:=Rs.ok.inj hm3
     ((repeat' ((conv=>whnf);first|exact .intro|refine G ?_|intro _|refine C1 c2 ?_|refine C1 c3 ?_|refine .mk ?_ ?_|refine H ?_|fail));all_goals conv=>whnf)
     ((repeat' first|exact rfl|((conv=>whnf);first|done|exact suL|refine And.intro ?_ ?_|fail));all_goals conv=>whnf)
   ·rw[frm_none fun op' len' ho'=>(by rw[ho] at ho';cases ho')] at hm3
    obtain ⟨rfl,rfl⟩:=Rs.ok.inj hm3
    by_cases h5:K=4
    ·have h4':((K:Nat):Int)=4:=by omega
     have hz:((signZ T:Nat):Int)=0:=by have:=h4 h5;omega
     ((repeat' ((conv=>whnf);first|exact .intro|refine G ?_|intro _|refine C1 c2 ?_|refine C1 c3 ?_|refine .mk ?_ ?_|refine H ?_|fail));all_goals conv=>whnf)
     ((repeat' first|exact rfl|((conv=>whnf);first|done|exact suL|refine And.intro ?_ ?_|fail));all_goals conv=>whnf)
    ·have h4':¬ ((K:Nat):Int)=4:=by omega
     ((repeat' ((conv=>whnf);first|exact .intro|refine G ?_|intro _|refine C1 c2 ?_|refine C1 c3 ?_|refine .mk ?_ ?_|refine H ?_|fail));all_goals conv=>whnf)
     ((repeat' first|exact rfl|((conv=>whnf);first|done|exact suL|refine And.intro ?_ ?_|fail));all_goals conv=>whnf)
theorem loose_n {s:List UInt8} {least d i:Nat} {one:Nat→Rs Nd} {sub:Nat→Nat→Rs Nd} (_hd:d≤30) (hs:s.length≤200) (hf:Fwd s one) (hf2:∀ op,Fwd s (sub op)) (hi:i≤s.length)
 (h1:∀ j,j≤s.length→GivesP gl 52 [.c (.ptr 0 0)] s j d d (one j))
 (ht:∀ op j,least≤tgt op→j≤s.length→GivesP gl 34 [.c (.ptr 0 0),.c (.d (iD ((tgt op+1:Nat):Int)))] s j d d (sub op j)) {n:Nd} {m:Nat} (hx:one i=.ok n m) {aa:Nat} {ee:Int} (hR:frm s sub (fun op=>decide (least≤tgt op)) (s.length+1) n m=.no aa ee) :
 GivesP gl 34 [.c (.ptr 0 0),.c (.d (iD (least:Int)))] s i d d (.no aa ee):=by
 have hx0:=h1 i hi
 rw[hx] at hx0
 obtain ⟨hm0,hm1⟩:=hf i n m hi hx
 unfold GivesP at hx0
 clear hx
 obtain ⟨op0,pl0,hX,hJ,hse0,hpl⟩:=frmX_of hf2 hm1 hR
 have hJ:=hJ ▸ ht op0 pl0 (by simpa using hse0) hpl
 obtain ⟨mJ,J,X,hJl,heJ,hJ⟩:=hJ
 refine ⟨n0,J,X,hJl,heJ,?_⟩
 have heJ':¬ ee=0:=heJ
 obtain ⟨k1,m1,t1,a1,b1,ks1⟩:=n
 refine fn_of_vc (nv:=9999) (cu:=[4]) fits mixed Tryz.func34 rfl hoB rfl rfl rfl rfl ?_
 ((repeat' ((conv=>whnf);first|exact .intro|refine G ?_|intro _|refine C5 hx0 [0] ?_|refine .mk ?_ ?_|refine H ?_|fail));all_goals conv=>whnf)
 refine ⟨{ σ:=Nat×Nd×Nat×Int×Int,fr:=fun q=>[],ks:=[0,2],L:=fun q=>[(0,pB s q.1 q.2.2.1 q.2.2.2.1 q.2.2.2.2),(2,.var (ndC q.2.1) 64)],ex:=0,fz:=[5],I:=fun q=>(q.2.2.2.1=0∧q.2.2.1=0∧q.2.2.2.2=(d:Int)∧q.1≤s.length∧∃ f,s.length - q.1<f∧frm s sub (fun op=>decide (least≤tgt op)) f q.2.1 q.1=.no aa ee∧frmX s sub (fun op=>decide (least≤tgt op)) f q.1=some (op0,pl0))∨(q.2.2.2.1≠0∧q.1=J∧q.2.2.1=aa∧q.2.2.2.1=ee∧q.2.2.2.2=X),μ:=fun q=>if q.2.2.2.1=0 then s.length - q.1+1 else 0 },⟨(m,.mk k1 m1 t1 a1 b1 ks1,0,0,(d:Int)),.inl ⟨rfl,rfl,rfl,hm1,s.length+1,by show s.length - m<s.length+1;omega,hR,hX⟩,?_⟩,?_⟩
 ·((repeat' first|exact rfl|((conv=>whnf);first|done|exact suL|refine And.intro ?_ ?_|fail));all_goals conv=>whnf)
 ·clear hm0 hm1 hx0 hR hX
  rintro ⟨m,n,wr,bd,dp⟩ hI
  simp only at hI
  rcases hI with ⟨rfl,rfl,rfl,hm1,f,hm2,hm3,hX⟩|⟨_,rfl,rfl,rfl,rfl⟩
  ·clear hJl
   obtain ⟨f,rfl⟩:∃ g,f=g+1:=⟨f - 1,by omega⟩
   have c1:=tok_d (gl:=gl) hm1 hs
   have hop:=tok_op s m
   have hje:=tok_e hm1
   obtain ⟨k0,m0,t0,a0,b0,ks0⟩:=n
   generalize htk:tokZ s m=tk at *
   obtain ⟨K,A,E,T⟩:=tk
   change FnP Tryz.prog gl 35 _ (.agg [iD (K:Int),iD ((A:Nat):Int),iD ((E:Nat):Int),.str T]) at c1
   have c2:=Sign_d (gl:=gl) T
   have c3:=Tight_d (gl:=gl) (signZ T)
   simp only at hop hje
   ((repeat' ((conv=>whnf);first|exact .intro|refine G ?_|intro _|refine C1 c1 ?_|refine .mk ?_ ?_|refine H ?_|fail));all_goals conv=>whnf)
   refine ⟨{ σ:=Unit,fr:=fun q=>[(6,.c (.ptr 3 0))],ks:=[],L:=fun q=>[(3,.var [.d (iD (K:Int)),.d (iD (A:Int)),.d (iD (E:Int)),.d (.str T)] 93)],ex:=1,I:=fun q=>True,μ:=fun q=>0 },?_,fun _ _=>?_⟩
   ·((repeat' ((conv=>whnf);first|exact .intro|refine G ?_|intro _|refine C1 c1 ?_|refine .mk ?_ ?_|refine H ?_|fail));all_goals conv=>whnf)
    all_goals
     refine ⟨(),trivial,?_⟩
     ((repeat' first|exact rfl|((conv=>whnf);first|done|exact suL|refine And.intro ?_ ?_|fail));all_goals conv=>whnf)
   ·rcases hop with ⟨op,len,ho,h4,hsg,hE,ho1,ho2⟩|⟨ho,h4⟩
    ·have h4':((K:Nat):Int)=4:=by omega
     have hz:¬ ((signZ T:Nat):Int)=0:=by omega
     by_cases hse:least≤tgt op
     ·have hse':¬ ((tgt (signZ T):Nat):Int)<((least:Nat):Int):=by rw[hsg];omega
      have hse2:(fun op=>decide (least≤tgt op)) op=true:=by simpa using hse
      have hl:=opA_len ho
      have hge:=le_skp s m
      rw[frm_y ho hse2] at hm3
      have hy0:=ht op (skp s m+len) hse hl.2
      rw[← hE] at hm3 hy0 hl
      have hcg:tgt op+1=tgt (signZ T)+1:=by rw[hsg]
      rw[hcg] at hy0
      have e2:IntKind.i64.wrap (((tgt (signZ T):Nat):Int)+1)=((tgt (signZ T)+1:Nat):Int):=by have:=tgt_le (signZ T);rw[wrapI (by omega)];rfl
      cases hy:sub op E with
      | no q0 e00 =>
       rw[hy] at hm3 hy0
       rw[frmX_y ho hse2,← hE,hy] at hX
       cases hm3
       obtain ⟨rfl,rfl⟩:op=op0∧E=pl0:=by simpa using hX
       rw[hcg] at hJ
       clear hy0
       obtain ⟨k1,m1,t1,a1,b1,ks1⟩:=mJ
       ((repeat' ((conv=>whnf);first|exact .intro|refine G ?_|intro _|refine C5 hJ [0] ?_|refine C1 c2 ?_|refine C1 c3 ?_|(rw[e2])|refine .mk ?_ ?_|refine H ?_|fail));all_goals conv=>whnf)
       refine ⟨(J,twoN (signZ T:Int) (.mk k0 m0 t0 a0 b0 ks0) (.mk k1 m1 t1 a1 b1 ks1),aa,ee,X),⟨.inr ⟨heJ,rfl,rfl,rfl,rfl⟩,by show (if ee=0 then s.length - J+1 else 0)<(if (0:Int)=0 then s.length - m+1 else 0);rw[if_neg heJ,if_pos rfl];omega⟩,?_⟩
       ((repeat' first|exact rfl|((conv=>whnf);first|done|exact suL|refine And.intro ?_ ?_|fail));all_goals conv=>whnf)
       all_goals exact lf0
      | ok n2 k2 =>
       rw[hy] at hm3 hy0
       unfold GivesP at hy0
       simp only[Rs.bind_ok] at hm3
       obtain ⟨hk1,hk2⟩:=hf2 op _ _ _ hl.2 hy
       rw[frmX_y ho hse2,← hE,hy] at hX
       obtain ⟨k1,m1,t1,a1,b1,ks1⟩:=n2
       rw[← hsg] at hm3
       ((repeat' ((conv=>whnf);first|exact .intro|refine G ?_|intro _|refine C5 hy0 [0] ?_|refine C1 c2 ?_|refine C1 c3 ?_|(rw[e2])|refine .mk ?_ ?_|refine H ?_|fail));all_goals conv=>whnf)
       refine ⟨(k2,twoN (signZ T:Int) (.mk k0 m0 t0 a0 b0 ks0) (.mk k1 m1 t1 a1 b1 ks1),0,0,d),⟨.inl ⟨rfl,rfl,rfl,hk2,f,by show s.length - k2<f;omega,hm3,hX⟩,by show (if (0:Int)=0 then s.length - k2+1 else 0)<(if (0:Int)=0 then s.length - m+1 else 0);rw[if_pos rfl,if_pos rfl];omega⟩,?_⟩
       ((repeat' first|exact rfl|((conv=>whnf);first|done|exact suL|refine And.intro ?_ ?_|fail));all_goals conv=>whnf)
       all_goals exact lf0
     ·have hse':((tgt (signZ T):Nat):Int)<((least:Nat):Int):=by rw[hsg];omega
      rw[frm_none fun op' len' ho'=>(by rw[ho] at ho';cases ho';simpa using hse)] at hm3
      cases hm3
    ·rw[frm_none fun op' len' ho'=>(by rw[ho] at ho';cases ho')] at hm3
     cases hm3
  ·obtain ⟨k0,m0,t0,a0,b0,ks0⟩:=n
   ((repeat' ((conv=>whnf);first|exact .intro|refine G ?_|intro _|refine .mk ?_ ?_|refine H ?_|fail));all_goals conv=>whnf)
   ((repeat' first|exact rfl|((conv=>whnf);first|done|exact suL|refine And.intro ?_ ?_|fail));all_goals conv=>whnf)
   all_goals (refine .inr ?_;repeat' first|exact .intro|exact .inr (.inl rfl)|exact lf0|exact ln0|((conv=>whnf);first|exact .intro|exact .inr (.inl rfl)|exact lf0|exact ln0|refine And.intro ?_ ?_|fail))
theorem loose_l {s:List UInt8} {least d i:Nat} {one:Nat→Rs Nd} {sub:Nat→Nat→Rs Nd} (hd:d≤30) (hs:s.length≤200) (hf:Fwd s one) (hf2:∀ op,Fwd s (sub op)) (hi:i≤s.length)
 (h1:∀ j,j≤s.length→GivesP gl 52 [.c (.ptr 0 0)] s j d d (one j))
 (ht:∀ op j,least≤tgt op→j≤s.length→GivesP gl 34 [.c (.ptr 0 0),.c (.d (iD ((tgt op+1:Nat):Int)))] s j d d (sub op j)) {R:Rs Nd} (hR:((one i).bind fun n j=>frm s sub (fun op=>decide (least≤tgt op)) (s.length+1) n j)=R) :
 GivesP gl 34 [.c (.ptr 0 0),.c (.d (iD (least:Int)))] s i d d R:=by
 cases hx:one i with
 | no a e =>
  rw[hx] at hR
  subst hR
  exact loose_e hd hs hf hf2 hi h1 ht hx
 | ok n m =>
  rw[hx] at hR
  simp only[Rs.bind_ok] at hR
  cases R with
  | ok nn jj=>exact loose_o hd hs hf hf2 hi h1 ht hx hR
  | no aa ee=>exact loose_n hd hs hf hf2 hi h1 ht hx hR
end
section
variable {gl:List (Nat×List D)} {rf:List UInt8→Option Rf} {s:List UInt8}
def Box (rf:List UInt8→Option Rf) (s:List UInt8) (m:Nat) (r:Rf):Prop:=(tokZ s m).k=1∧rf (tokZ s m).t=some r∧s[(tokZ s m).e]?=some 58
theorem argF_box {tw:Nat→Rs Nd} {m:Nat} {r:Rf} (h:Box rf s m r):argF (parZ rf) s tw m=(match rf (wdAt s ((tokZ s m).e+1)) with
 | some b=>.ok (.mk 6 0 [] r b []) (wdE s ((tokZ s m).e+1))
 | none=>.no ((tokZ s m).e+1) 2):=by
 obtain ⟨h1,h2,h3⟩:=h
 obtain ⟨c,hc,hw⟩:=tok_word_of h1
 rw[tok_word hc hw] at h2 h3 ⊢
 unfold argF
 show (match rf (wdAt s (skp s m)) with|none=>_|some a=>_)=_
 rw[h2]
 simp only at h3 ⊢
 rw[if_pos h3]
 rfl
theorem argF_nobox {tw:Nat→Rs Nd} (hE:rf []=none) (htw:∀ i,tw (skp s i)=tw i) {m:Nat} (h:∀ r,¬ Box rf s m r):argF (parZ rf) s tw m=tw m:=by
 unfold argF
 show (match rf (wdAt s (skp s m)) with|none=>_|some a=>_)=_
 by_cases hw:∃ c,s[skp s m]?=some c∧wordlyP c
 ·obtain ⟨c,hc,hw⟩:=hw
  cases hr:rf (wdAt s (skp s m)) with
  | none=>exact htw m
  | some a =>
   simp only
   rw[if_neg fun h58=>h a ⟨by rw[tok_word hc hw],by rw[tok_word hc hw];exact hr,by rw[tok_word hc hw];exact h58⟩]
   exact htw m
 ·rw[wd_none fun c hc hw'=>hw ⟨c,hc,hw'⟩,hE]
  exact htw m
theorem box2 (hE:rf []=none) (i:Nat):(tokZ s i=⟨1,i,wdE s i,wdAt s i⟩)∨(rf (wdAt s i)=none∧((tokZ s i).k≠1∨(tokZ s i).a≠i)):=by
 by_cases hw:∃ c,s[i]?=some c∧wordlyP c
 ·obtain ⟨c,hc,hw⟩:=hw
  have hs:skp s i=i:=skp_n fun h=>by rw[hc] at h;cases h;exact absurd hw (by decide)
  left
  have:=tok_word (s:=s) (i:=i) (c:=c) (by rw[hs];exact hc) hw
  rw[hs] at this
  exact this
 ·right
  refine ⟨by rw[wd_none fun c hc hw'=>hw ⟨c,hc,hw'⟩];exact hE,?_⟩
  by_cases hk:(tokZ s i).k=1
  ·right
   obtain ⟨c,hc,hw'⟩:=tok_word_of hk
   rw[tok_a]
   intro e
   rw[e] at hc
   exact hw ⟨c,hc,hw'⟩
  ·exact .inl hk
def argsH (p:Par) (s:List UInt8) (tw:Nat→Rs Nd):Nat→List Nd→Nat→List Nd×Nat
 | 0,ks,i=>(ks,i)
 | f+1,ks,i=>match argF p s tw i with
  | .no _ _=>(ks,i)
  | .ok a j=>if s[skp s j]?=some 44 then argsH p s tw f (ks++[a]) (skp s j+1) else (ks,i)
theorem argsH_of {p:Par} {tw:Nat→Rs Nd} (hf:Fwd s tw):∀ {f:Nat} {ks:List Nd} {i a:Nat} {e:Int},i≤s.length→argsF p s tw f ks i=.no a e→(argsH p s tw f ks i).2≤s.length∧
 (argF p s tw (argsH p s tw f ks i).2=.no a e∨∃ n j,argF p s tw (argsH p s tw f ks i).2=.ok n j∧j≤s.length∧s[skp s j]?≠some 44∧s[skp s j]?≠some 41∧a=skp s j∧e=2)
 | 0,ks,i,a,e,hi,h=>by cases h
 | f+1,ks,i,a,e,hi,h=>by
  unfold argsF at h
  cases hx:argF p s tw i with
  | no a' e' =>
   rw[hx] at h
   have hH:argsH p s tw (f+1) ks i=(ks,i):=by rw[argsH,hx]
   rw[hH]
   exact ⟨hi,.inl (by rw[hx];cases h;rfl)⟩
  | ok n j =>
   rw[hx] at h
   simp only[Rs.bind_ok] at h
   have hj:=(argF_fwd hf hi hx).2
   by_cases hc:s[skp s j]?=some 44
   ·rw[if_pos hc] at h
    have hH:argsH p s tw (f+1) ks i=argsH p s tw f (ks++[n]) (skp s j+1):=by rw[argsH,hx];simp only[];rw[if_pos hc]
    rw[hH]
    exact argsH_of hf (show skp s j+1≤s.length from lt_of_get hc) h
   ·rw[if_neg hc] at h
    have hH:argsH p s tw (f+1) ks i=(ks,i):=by rw[argsH,hx];simp only[];rw[if_neg hc]
    rw[hH]
    by_cases h41:s[skp s j]?=some 41
    ·rw[if_pos h41] at h;cases h
    ·rw[if_neg h41] at h
     cases h
     exact ⟨hi,.inr ⟨n,j,hx,hj,hc,h41,rfl,rfl⟩⟩
theorem argsH_y {p:Par} {tw:Nat→Rs Nd} {f:Nat} {ks:List Nd} {i j:Nat} {n:Nd} (hx:argF p s tw i=.ok n j) (hc:s[skp s j]?=some 44):argsH p s tw (f+1) ks i=argsH p s tw f (ks++[n]) (skp s j+1):=by
 rw[argsH,hx];simp only[];rw[if_pos hc]
theorem argsH_n {p:Par} {tw:Nat→Rs Nd} {f:Nat} {ks:List Nd} {i j:Nat} {n:Nd} (hx:argF p s tw i=.ok n j) (hc:s[skp s j]?≠some 44):argsH p s tw (f+1) ks i=(ks,i):=by
 rw[argsH,hx];simp only[];rw[if_neg hc]
theorem argsH_e {p:Par} {tw:Nat→Rs Nd} {f:Nat} {ks:List Nd} {i a:Nat} {e:Int} (hx:argF p s tw i=.no a e):argsH p s tw (f+1) ks i=(ks,i):=by
 rw[argsH,hx]
def ArgNo (gl:List (Nat×List D)) (rf:List UInt8→Option Rf) (s:List UInt8) (tw:Nat→Rs Nd) (d m a:Nat) (e:Int) (nd:Nd) (pl:Nat) (dp:Int):Prop :=
 ((∀ r,¬ Box rf s m r)∧tw m=.no a e∧Go.EYtfcmhmglpcimiaaGreatDoor.Fn Tryz.prog gl 34 [.c (.ptr 0 0),.c (.d (iD 1))] [(0,pB s m 0 0 (d:Int))] 1 (.ret (.agg (ndC nd))) [(0,pB s pl a e dp)] 1 [])∨
 (∃ r,Box rf s m r∧a=(tokZ s m).e+1∧e=2∧pl=(tokZ s ((tokZ s m).e+1)).e∧nd=.mk 6 0 [] r ((rf (tokZ s ((tokZ s m).e+1)).t).getD z0) []∧dp=(d:Int))
theorem argNo_of {tw:Nat→Rs Nd} {d m a:Nat} {e:Int} (hE:rf []=none) (htw:∀ i,tw (skp s i)=tw i) (hm:m≤s.length)
 (ht:∀ j,j≤s.length→GivesP gl 34 [.c (.ptr 0 0),.c (.d (iD 1))] s j d d (tw j)) (h:argF (parZ rf) s tw m=.no a e):e≠0∧∃ nd pl dp,pl≤s.length∧ArgNo gl rf s tw d m a e nd pl dp:=by
 by_cases hb:∃ r,Box rf s m r
 ·obtain ⟨r,hb⟩:=hb
  rw[argF_box hb] at h
  have hl:=lt_of_get hb.2.2
  split at h
  ·cases h
  ·cases h
   exact ⟨by decide,_,_,_,(tok_e (show (tokZ s m).e+1≤s.length from hl)).2,.inr ⟨r,hb,rfl,rfl,rfl,rfl,rfl⟩⟩
 ·have hb':∀ r,¬ Box rf s m r:=fun r h=>hb ⟨r,h⟩
  rw[argF_nobox hE htw hb'] at h
  have h1:=ht m hm
  rw[h] at h1
  obtain ⟨nd,pl,dp,h2,h3,h4⟩:=h1
  exact ⟨h3,nd,pl,dp,h2,.inl ⟨hb',h,h4⟩⟩
theorem oneB_skp (p:Par) (d i:Nat):oneB p s d (skp s i)=oneB p s d i:=by
 cases d with
 | zero=>show negF _ _ _ _ _ _=negF _ _ _ _ _ _;unfold negF;rw[skp_skp]
 | succ d=>show negF _ _ _ _ _ _=negF _ _ _ _ _ _;unfold negF;rw[skp_skp]
theorem Lo_skp (p:Par) (d k least i:Nat):Lo s (oneB p s d) k least (skp s i)=Lo s (oneB p s d) k least i:=by
 cases k with
 | zero=>exact oneB_skp p d i
 | succ k=>unfold Lo;rw[oneB_skp]
end
end Go.Proofs.YtfcmhmglpcimiaaGreatDoor
