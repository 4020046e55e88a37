/- Proved: a part of what the law is proved with (the reckoner, contracts of functions, plain laws). Conditions: as each says. -/
import Derived.Test.YtdpigpahfiachaaGreatDoorZHf
import Derived.Test.YtdpigpahfiachaaGreatDoorZIe
section
namespace Go.Proofs.YtdpigpahfiachaaGreatDoor
open Go Go.EYtdpigpahfiachaaGreatDoor
set_option maxRecDepth 100000
set_option maxHeartbeats 8000000
variable {gl:List (Nat×List D)}
theorem tok_op (s:List UInt8) (m:Nat):(∃ op len,opA s m=some (op,len)∧(tokZ s m).k=4∧signZ (tokZ s m).t=op∧(tokZ s m).e=skp s m+len∧1≤op∧op≤11)∨(opA s m=none∧((tokZ s m).k=4→signZ (tokZ s m).t=0)):=by
 unfold tokZ opA
 cases h:opT (s.drop (skp s m)) with
 | none=>exact .inr ⟨rfl,op_none h⟩
 | some q =>
  obtain ⟨op,len⟩:=q
  obtain ⟨t,h1,h2,h3,h4⟩:=op_some (j:=skp s m) h
  rw[h1]
  exact .inl ⟨op,len,rfl,rfl,h2,rfl,h3,h4⟩
def frmX (s:List UInt8) (sub:Nat→Nat→Rs Nd) (sel:Nat→Bool):Nat→Nat→Option (Nat×Nat)
 | 0,_=>none
 | f+1,j=>match opA s j with
  | some (op,len)=>if sel op=true then (match sub op (skp s j+len) with
   | .no _ _=>some (op,skp s j+len)
   | .ok _ k=>frmX s sub sel f k) else none
  | none=>none
theorem frmX_y {s:List UInt8} {sub:Nat→Nat→Rs Nd} {sel:Nat→Bool} {f j op len:Nat} (h:opA s j=some (op,len)) (hs:sel op=true):frmX s sub sel (f+1) j=(match sub op (skp s j+len) with
 | .no _ _=>some (op,skp s j+len)
 | .ok _ k=>frmX s sub sel f k):=by
 rw[frmX,h]
 simp only[]
 rw[if_pos hs]
theorem frmX_of {s:List UInt8} {sub:Nat→Nat→Rs Nd} {sel:Nat→Bool} (hs:∀ op,Fwd s (sub op)):∀ {f:Nat} {n:Nd} {j a:Nat} {e:Int},j≤s.length→frm s sub sel f n j=.no a e→∃ op pl,frmX s sub sel f j=some (op,pl)∧sub op pl=.no a e∧sel op=true∧pl≤s.length
 | 0,n,j,a,e,hj,h=>by cases h
 | f+1,n,j,a,e,hj,h=>by
  cases ho:opA s j with
  | none=>rw[frm_none fun op len hh=>(by rw[ho] at hh;cases hh)] at h;cases h
  | some q =>
   obtain ⟨op,len⟩:=q
   have hl:=opA_len ho
   by_cases hse:sel op=true
   ·rw[frm_y ho hse] at h
    rw[frmX_y ho hse]
    cases hx:sub op (skp s j+len) with
    | no a' e' =>
     rw[hx] at h
     cases h
     exact ⟨op,_,rfl,hx,hse,hl.2⟩
    | ok m k =>
     rw[hx] at h
     exact frmX_of hs (hs op _ _ _ hl.2 hx).2 h
   ·rw[frm_none fun op' len' hh=>(by rw[ho] at hh;cases hh;simpa using hse)] at h
    cases h
theorem loose_e {s:List UInt8} {least d i:Nat} {one:Nat→Rs Nd} {sub:Nat→Nat→Rs Nd} (_hd:d≤30) (_hs:s.length≤200) (_hf:Fwd s one) (_hf2:∀ op,Fwd s (sub op)) (hi:i≤s.length)
 (h1:∀ j,j≤s.length→GivesP gl 90 [.c (.ptr 0 0)] s j d d (one j))
 (_ht:∀ op j,least≤tgt op→j≤s.length→GivesP gl 47 [.c (.ptr 0 0),.c (.d (iD ((tgt op+1:Nat):Int)))] s j d d (sub op j)) {a:Nat} {e:Int} (hx:one i=.no a e):GivesP gl 47 [.c (.ptr 0 0),.c (.d (iD (least:Int)))] s i d d (.no a e):=by
 have hx0:=h1 i hi
 rw[hx] at hx0
 obtain ⟨m,j,x,hj,he,hx0⟩:=hx0
 refine ⟨n0,j,x,hj,he,?_⟩
 have he':¬ e=0:=he
 obtain ⟨k1,m1,t1,a1,b1,ks1⟩:=m
 refine fn_of_vc (nv:=9999) (cu:=[]) fits mixed Tryz.func47 rfl hoB rfl rfl rfl rfl ?_
 ((repeat' ((conv=>whnf);first|exact .intro|refine .ya ?_|refine .na ?_|refine .ys ?_|refine .ns ?_|refine .neg (fun _=>?_) (fun _=>?_)|refine .mk (fun _=>?_) (fun _=>?_)|refine .inr (X5 (hx0.r [0] _) ?_)|refine .inl (.inr (X5 (hx0.r [0] _) ?_))|refine .inl (X5 (hx0.r [0] _) ?_)|refine .mk ?_ ?_|refine AK ?_|refine AT ?_|fail));all_goals conv=>whnf)
 refine ⟨{ σ:=Unit,fr:=fun q=>[],ks:=[],L:=fun q=>[],ex:=0,I:=fun q=>True,μ:=fun q=>0 },⟨(),trivial,?_⟩,fun _ _=>?_⟩
 ·((repeat' first|exact rfl|((conv=>whnf);first|done|exact suL|refine And.intro ?_ ?_|fail));all_goals conv=>whnf)
 ·((repeat' ((conv=>whnf);first|exact .intro|refine .ya ?_|refine .na ?_|refine .ys ?_|refine .ns ?_|refine .neg (fun _=>?_) (fun _=>?_)|refine .mk (fun _=>?_) (fun _=>?_)|refine .mk ?_ ?_|refine AK ?_|refine AT ?_|fail));all_goals conv=>whnf)
  ((repeat' first|exact rfl|((conv=>whnf);first|done|exact suL|refine And.intro ?_ ?_|fail));all_goals conv=>whnf)
  all_goals (refine .inr ?_;repeat' first|exact .intro|exact .inr (.inl rfl)|exact lf0|exact ln0|((conv=>whnf);first|exact .intro|exact .inr (.inl rfl)|exact lf0|exact ln0|refine And.intro ?_ ?_|fail))
theorem loose_o {s:List UInt8} {least d i:Nat} {one:Nat→Rs Nd} {sub:Nat→Nat→Rs Nd} (_hd:d≤30) (hs:s.length≤200) (hf:Fwd s one) (hf2:∀ op,Fwd s (sub op)) (hi:i≤s.length)
 (h1:∀ j,j≤s.length→GivesP gl 90 [.c (.ptr 0 0)] s j d d (one j))
 (ht:∀ op j,least≤tgt op→j≤s.length→GivesP gl 47 [.c (.ptr 0 0),.c (.d (iD ((tgt op+1:Nat):Int)))] s j d d (sub op j)) {n:Nd} {m:Nat} (hx:one i=.ok n m) {nn:Nd} {jj:Nat} (hR:frm s sub (fun op=>decide (least≤tgt op)) (s.length+1) n m=.ok nn jj) :
 GivesP gl 47 [.c (.ptr 0 0),.c (.d (iD (least:Int)))] s i d d (.ok nn jj):=by
 have hx0:=h1 i hi
 rw[hx] at hx0
 obtain ⟨hm0,hm1⟩:=hf i n m hi hx
 unfold GivesP at hx0
 clear hx
 unfold GivesP
 obtain ⟨k1,m1,t1,a1,b1,ks1⟩:=n
 refine fn_of_vc (nv:=9999) (cu:=[4]) fits mixed Tryz.func47 rfl hoB rfl rfl rfl rfl ?_
 ((repeat' ((conv=>whnf);first|exact .intro|refine .ya ?_|refine .na ?_|refine .ys ?_|refine .ns ?_|refine .neg (fun _=>?_) (fun _=>?_)|refine .mk (fun _=>?_) (fun _=>?_)|refine .inr (X5 (hx0.r [0] _) ?_)|refine .inl (.inr (X5 (hx0.r [0] _) ?_))|refine .inl (X5 (hx0.r [0] _) ?_)|refine .mk ?_ ?_|refine AK ?_|refine AT ?_|fail));all_goals conv=>whnf)
 refine ⟨{ σ:=Nat×Nd×Nat×Int×Int,fr:=fun q=>[],ks:=[0,2],L:=fun q=>[(0,pB s q.1 q.2.2.1 q.2.2.2.1 q.2.2.2.2),(2,.var (ndC q.2.1) 28)],ex:=0,fz:=[5],I:=fun q=>(q.2.2.2.1=0∧q.2.2.1=0∧q.2.2.2.2=(d:Int)∧q.1≤s.length∧∃ f,s.length - q.1<f∧frm s sub (fun op=>decide (least≤tgt op)) f q.2.1 q.1=.ok nn jj)∨(False),μ:=fun q=>if q.2.2.2.1=0 then s.length - q.1+1 else 0 },⟨(m,.mk k1 m1 t1 a1 b1 ks1,0,0,(d:Int)),.inl ⟨rfl,rfl,rfl,hm1,s.length+1,by show s.length - m<s.length+1;omega,hR⟩,?_⟩,?_⟩
 ·((repeat' first|exact rfl|((conv=>whnf);first|done|exact suL|refine And.intro ?_ ?_|fail));all_goals conv=>whnf)
 ·clear hm0 hm1 hx0 hR
  rintro ⟨m,n,wr,bd,dp⟩ hI
  simp only at hI
  obtain ⟨rfl,rfl,rfl,hm1,f,hm2,hm3⟩:bd=0∧wr=0∧dp=(d:Int)∧m≤s.length∧∃ f,s.length - m<f∧frm s sub (fun op=>decide (least≤tgt op)) f n m=.ok nn jj:=by simpa using hI
  obtain ⟨f,rfl⟩:∃ g,f=g+1:=⟨f - 1,by omega⟩
  have c1:=tok_d (gl:=gl) hm1 hs
  have hop:=tok_op s m
  have hje:=tok_e hm1
  obtain ⟨k0,m0,t0,a0,b0,ks0⟩:=n
  generalize htk:tokZ s m=tk at *
  obtain ⟨K,A,E,T⟩:=tk
  change FnP Tryz.prog gl 48 _ (.agg [iD (K:Int),iD ((A:Nat):Int),iD ((E:Nat):Int),.str T]) at c1
  have c2:=Sign_d (gl:=gl) T
  have c3:=Tight_d (gl:=gl) (signZ T)
  simp only at hop hje
  ((repeat' ((conv=>whnf);first|exact .intro|refine .ya ?_|refine .na ?_|refine .ys ?_|refine .ns ?_|refine .neg (fun _=>?_) (fun _=>?_)|refine .mk (fun _=>?_) (fun _=>?_)|refine .inl (.inl (X1 (c1) ?_))|refine .inl (X1 (c1) ?_)|refine X1 (c1) ?_|refine .mk ?_ ?_|refine AK ?_|refine AT ?_|fail));all_goals conv=>whnf)
  refine ⟨{ σ:=Unit,fr:=fun q=>[(6,.c (.ptr 3 0))],ks:=[],L:=fun q=>[(3,.var [.d (iD (K:Int)),.d (iD (A:Int)),.d (iD (E:Int)),.d (.str T)] 93)],ex:=1,I:=fun q=>True,μ:=fun q=>0 },?_,fun _ _=>?_⟩
  ·((repeat' ((conv=>whnf);first|exact .intro|refine .ya ?_|refine .na ?_|refine .ys ?_|refine .ns ?_|refine .neg (fun _=>?_) (fun _=>?_)|refine .mk (fun _=>?_) (fun _=>?_)|refine .inl (.inl (X1 (c1) ?_))|refine .inl (X1 (c1) ?_)|refine X1 (c1) ?_|refine .mk ?_ ?_|refine AK ?_|refine AT ?_|fail));all_goals conv=>whnf)
   all_goals
    refine ⟨(),trivial,?_⟩
    ((repeat' first|exact rfl|((conv=>whnf);first|done|exact suL|refine And.intro ?_ ?_|fail));all_goals conv=>whnf)
  ·rcases hop with ⟨op,len,ho,h4,hsg,hE,ho1,ho2⟩|⟨ho,h4⟩
   ·have h4':((K:Nat):Int)=4:=by omega
    have hz:¬ ((signZ T:Nat):Int)=0:=by omega
    by_cases hse:least≤tgt op
    ·have hse':¬ ((tgt (signZ T):Nat):Int)<((least:Nat):Int):=by rw[hsg];omega
     have hse2:(fun op=>decide (least≤tgt op)) op=true:=by simpa using hse
     have hl:=opA_len ho
     have hge:=le_skp s m
     rw[frm_y ho hse2] at hm3
     have hy0:=ht op (skp s m+len) hse hl.2
     rw[← hE] at hm3 hy0 hl
     have hcg:tgt op+1=tgt (signZ T)+1:=by rw[hsg]
     rw[hcg] at hy0
     have e2:IntKind.i64.wrap (((tgt (signZ T):Nat):Int)+1)=((tgt (signZ T)+1:Nat):Int):=by have:=tgt_le (signZ T);rw[wrapI (by omega)];rfl
     cases hy:sub op E with
     | no q0 e00 =>
      rw[hy] at hm3
      cases hm3
     | ok n2 k2 =>
      rw[hy] at hm3 hy0
      unfold GivesP at hy0
      simp only[Rs.bind_ok] at hm3
      obtain ⟨hk1,hk2⟩:=hf2 op _ _ _ hl.2 hy
      obtain ⟨k1,m1,t1,a1,b1,ks1⟩:=n2
      rw[← hsg] at hm3
      ((repeat' ((conv=>whnf);first|exact .intro|refine .ya ?_|refine .na ?_|refine .ys ?_|refine .ns ?_|refine .neg (fun _=>?_) (fun _=>?_)|refine .mk (fun _=>?_) (fun _=>?_)|refine .inr (X5 (hy0.r [0] _) ?_)|refine .inl (.inr (X5 (hy0.r [0] _) ?_))|refine .inl (X5 (hy0.r [0] _) ?_)|refine .inl (.inl (X1 (by first|exact c2|exact c3) ?_))|refine .inl (X1 (by first|exact c2|exact c3) ?_)|refine X1 (by first|exact c2|exact c3) ?_|(rw[e2])|refine .mk ?_ ?_|refine AK ?_|refine AT ?_|fail));all_goals conv=>whnf)
      refine ⟨(k2,twoN (signZ T:Int) (.mk k0 m0 t0 a0 b0 ks0) (.mk k1 m1 t1 a1 b1 ks1),0,0,d),⟨.inl ⟨rfl,rfl,rfl,hk2,f,by show s.length - k2<f;omega,hm3⟩,by show (if (0:Int)=0 then s.length - k2+1 else 0)<(if (0:Int)=0 then s.length - m+1 else 0);rw[if_pos rfl,if_pos rfl];omega⟩,?_⟩
      ((repeat' first|exact rfl|((conv=>whnf);first|done|exact suL|refine And.intro ?_ ?_|fail));all_goals conv=>whnf)
      all_goals exact lf0
    ·have hse':((tgt (signZ T):Nat):Int)<((least:Nat):Int):=by rw[hsg];omega
     rw[frm_none fun op' len' ho'=>(by rw[ho] at ho';cases ho';simpa using hse)] at hm3
     obtain ⟨rfl,rfl⟩:=Rs.ok.inj hm3
     ((repeat' ((conv=>whnf);first|exact .intro|refine .ya ?_|refine .na ?_|refine .ys ?_|refine .ns ?_|refine .neg (fun _=>?_) (fun _=>?_)|refine .mk (fun _=>?_) (fun _=>?_)|refine .inl (.inl (X1 (by first|exact c2|exact c3) ?_))|refine .inl (X1 (by first|exact c2|exact c3) ?_)|refine X1 (by first|exact c2|exact c3) ?_|refine .mk ?_ ?_|refine AK ?_|refine AT ?_|fail));all_goals conv=>whnf)
     ((repeat' first|exact rfl|((conv=>whnf);first|done|exact suL|refine And.intro ?_ ?_|fail));all_goals conv=>whnf)
   ·rw[frm_none fun op' len' ho'=>(by rw[ho] at ho';cases ho')] at hm3
    obtain ⟨rfl,rfl⟩:=Rs.ok.inj hm3
    by_cases h5:K=4
    ·have h4':((K:Nat):Int)=4:=by omega
     have hz:((signZ T:Nat):Int)=0:=by have:=h4 h5;omega
     ((repeat' ((conv=>whnf);first|exact .intro|refine .ya ?_|refine .na ?_|refine .ys ?_|refine .ns ?_|refine .neg (fun _=>?_) (fun _=>?_)|refine .mk (fun _=>?_) (fun _=>?_)|refine .inl (.inl (X1 (by first|exact c2|exact c3) ?_))|refine .inl (X1 (by first|exact c2|exact c3) ?_)|refine X1 (by first|exact c2|exact c3) ?_|refine .mk ?_ ?_|refine AK ?_|refine AT ?_|fail));all_goals conv=>whnf)
     ((repeat' first|exact rfl|((conv=>whnf);first|done|exact suL|refine And.intro ?_ ?_|fail));all_goals conv=>whnf)
    ·have h4':¬ ((K:Nat):Int)=4:=by omega
     ((repeat' ((conv=>whnf);first|exact .intro|refine .ya ?_|refine .na ?_|refine .ys ?_|refine .ns ?_|refine .neg (fun _=>?_) (fun _=>?_)|refine .mk (fun _=>?_) (fun _=>?_)|refine .inl (.inl (X1 (by first|exact c2|exact c3) ?_))|refine .inl (X1 (by first|exact c2|exact c3) ?_)|refine X1 (by first|exact c2|exact c3) ?_|refine .mk ?_ ?_|refine AK ?_|refine AT ?_|fail));all_goals conv=>whnf)
     ((repeat' first|exact rfl|((conv=>whnf);first|done|exact suL|refine And.intro ?_ ?_|fail));all_goals conv=>whnf)
theorem loose_n {s:List UInt8} {least d i:Nat} {one:Nat→Rs Nd} {sub:Nat→Nat→Rs Nd} (_hd:d≤30) (hs:s.length≤200) (hf:Fwd s one) (hf2:∀ op,Fwd s (sub op)) (hi:i≤s.length)
 (h1:∀ j,j≤s.length→GivesP gl 90 [.c (.ptr 0 0)] s j d d (one j))
 (ht:∀ op j,least≤tgt op→j≤s.length→GivesP gl 47 [.c (.ptr 0 0),.c (.d (iD ((tgt op+1:Nat):Int)))] s j d d (sub op j)) {n:Nd} {m:Nat} (hx:one i=.ok n m) {aa:Nat} {ee:Int} (hR:frm s sub (fun op=>decide (least≤tgt op)) (s.length+1) n m=.no aa ee) :
 GivesP gl 47 [.c (.ptr 0 0),.c (.d (iD (least:Int)))] s i d d (.no aa ee):=by
 have hx0:=h1 i hi
 rw[hx] at hx0
 obtain ⟨hm0,hm1⟩:=hf i n m hi hx
 unfold GivesP at hx0
 clear hx
 obtain ⟨op0,pl0,hX,hJ,hse0,hpl⟩:=frmX_of hf2 hm1 hR
 have hJ:=hJ ▸ ht op0 pl0 (by simpa using hse0) hpl
 obtain ⟨mJ,J,X,hJl,heJ,hJ⟩:=hJ
 refine ⟨n0,J,X,hJl,heJ,?_⟩
 have heJ':¬ ee=0:=heJ
 obtain ⟨k1,m1,t1,a1,b1,ks1⟩:=n
 refine fn_of_vc (nv:=9999) (cu:=[4]) fits mixed Tryz.func47 rfl hoB rfl rfl rfl rfl ?_
 ((repeat' ((conv=>whnf);first|exact .intro|refine .ya ?_|refine .na ?_|refine .ys ?_|refine .ns ?_|refine .neg (fun _=>?_) (fun _=>?_)|refine .mk (fun _=>?_) (fun _=>?_)|refine .inr (X5 (hx0.r [0] _) ?_)|refine .inl (.inr (X5 (hx0.r [0] _) ?_))|refine .inl (X5 (hx0.r [0] _) ?_)|refine .mk ?_ ?_|refine AK ?_|refine AT ?_|fail));all_goals conv=>whnf)
 refine ⟨{ σ:=Nat×Nd×Nat×Int×Int,fr:=fun q=>[],ks:=[0,2],L:=fun q=>[(0,pB s q.1 q.2.2.1 q.2.2.2.1 q.2.2.2.2),(2,.var (ndC q.2.1) 28)],ex:=0,fz:=[5],I:=fun q=>(q.2.2.2.1=0∧q.2.2.1=0∧q.2.2.2.2=(d:Int)∧q.1≤s.length∧∃ f,s.length - q.1<f∧frm s sub (fun op=>decide (least≤tgt op)) f q.2.1 q.1=.no aa ee∧frmX s sub (fun op=>decide (least≤tgt op)) f q.1=some (op0,pl0))∨(q.2.2.2.1≠0∧q.1=J∧q.2.2.1=aa∧q.2.2.2.1=ee∧q.2.2.2.2=X),μ:=fun q=>if q.2.2.2.1=0 then s.length - q.1+1 else 0 },⟨(m,.mk k1 m1 t1 a1 b1 ks1,0,0,(d:Int)),.inl ⟨rfl,rfl,rfl,hm1,s.length+1,by show s.length - m<s.length+1;omega,hR,hX⟩,?_⟩,?_⟩
 ·((repeat' first|exact rfl|((conv=>whnf);first|done|exact suL|refine And.intro ?_ ?_|fail));all_goals conv=>whnf)
 ·clear hm0 hm1 hx0 hR hX
  rintro ⟨m,n,wr,bd,dp⟩ hI
  simp only at hI
  rcases hI with ⟨rfl,rfl,rfl,hm1,f,hm2,hm3,hX⟩|⟨_,rfl,rfl,rfl,rfl⟩
  ·clear hJl
   obtain ⟨f,rfl⟩:∃ g,f=g+1:=⟨f - 1,by omega⟩
   have c1:=tok_d (gl:=gl) hm1 hs
   have hop:=tok_op s m
   have hje:=tok_e hm1
   obtain ⟨k0,m0,t0,a0,b0,ks0⟩:=n
   generalize htk:tokZ s m=tk at *
   obtain ⟨K,A,E,T⟩:=tk
   change FnP Tryz.prog gl 48 _ (.agg [iD (K:Int),iD ((A:Nat):Int),iD ((E:Nat):Int),.str T]) at c1
   have c2:=Sign_d (gl:=gl) T
   have c3:=Tight_d (gl:=gl) (signZ T)
   simp only at hop hje
   ((repeat' ((conv=>whnf);first|exact .intro|refine .ya ?_|refine .na ?_|refine .ys ?_|refine .ns ?_|refine .neg (fun _=>?_) (fun _=>?_)|refine .mk (fun _=>?_) (fun _=>?_)|refine .inl (.inl (X1 (c1) ?_))|refine .inl (X1 (c1) ?_)|refine X1 (c1) ?_|refine .mk ?_ ?_|refine AK ?_|refine AT ?_|fail));all_goals conv=>whnf)
   refine ⟨{ σ:=Unit,fr:=fun q=>[(6,.c (.ptr 3 0))],ks:=[],L:=fun q=>[(3,.var [.d (iD (K:Int)),.d (iD (A:Int)),.d (iD (E:Int)),.d (.str T)] 93)],ex:=1,I:=fun q=>True,μ:=fun q=>0 },?_,fun _ _=>?_⟩
   ·((repeat' ((conv=>whnf);first|exact .intro|refine .ya ?_|refine .na ?_|refine .ys ?_|refine .ns ?_|refine .neg (fun _=>?_) (fun _=>?_)|refine .mk (fun _=>?_) (fun _=>?_)|refine .inl (.inl (X1 (c1) ?_))|refine .inl (X1 (c1) ?_)|refine X1 (c1) ?_|refine .mk ?_ ?_|refine AK ?_|refine AT ?_|fail));all_goals conv=>whnf)
    all_goals
     refine ⟨(),trivial,?_⟩
     ((repeat' first|exact rfl|((conv=>whnf);first|done|exact suL|refine And.intro ?_ ?_|fail));all_goals conv=>whnf)
   ·rcases hop with ⟨op,len,ho,h4,hsg,hE,ho1,ho2⟩|⟨ho,h4⟩
    ·have h4':((K:Nat):Int)=4:=by omega
     have hz:¬ ((signZ T:Nat):Int)=0:=by omega
     by_cases hse:least≤tgt op
     ·have hse':¬ ((tgt (signZ T):Nat):Int)<((least:Nat):Int):=by rw[hsg];omega
      have hse2:(fun op=>decide (least≤tgt op)) op=true:=by simpa using hse
      have hl:=opA_len ho
      have hge:=le_skp s m
      rw[frm_y ho hse2] at hm3
      have hy0:=ht op (skp s m+len) hse hl.2
      rw[← hE] at hm3 hy0 hl
      have hcg:tgt op+1=tgt (signZ T)+1:=by rw[hsg]
      rw[hcg] at hy0
      have e2:IntKind.i64.wrap (((tgt (signZ T):Nat):Int)+1)=((tgt (signZ T)+1:Nat):Int):=by have:=tgt_le (signZ T);rw[wrapI (by omega)];rfl
      cases hy:sub op E with
      | no q0 e00 =>
       rw[hy] at hm3 hy0
       rw[frmX_y ho hse2,← hE,hy] at hX
       cases hm3
       obtain ⟨rfl,rfl⟩:op=op0∧E=pl0:=by simpa using hX
       rw[hcg] at hJ
       clear hy0
       obtain ⟨k1,m1,t1,a1,b1,ks1⟩:=mJ
       ((repeat' ((conv=>whnf);first|exact .intro|refine .ya ?_|refine .na ?_|refine .ys ?_|refine .ns ?_|refine .neg (fun _=>?_) (fun _=>?_)|refine .mk (fun _=>?_) (fun _=>?_)|refine .inr (X5 (hJ.r [0] _) ?_)|refine .inl (.inr (X5 (hJ.r [0] _) ?_))|refine .inl (X5 (hJ.r [0] _) ?_)|refine .inl (.inl (X1 (by first|exact c2|exact c3) ?_))|refine .inl (X1 (by first|exact c2|exact c3) ?_)|refine X1 (by first|exact c2|exact c3) ?_|(rw[e2])|refine .mk ?_ ?_|refine AK ?_|refine AT ?_|fail));all_goals conv=>whnf)
       refine ⟨(J,twoN (signZ T:Int) (.mk k0 m0 t0 a0 b0 ks0) (.mk k1 m1 t1 a1 b1 ks1),aa,ee,X),⟨.inr ⟨heJ,rfl,rfl,rfl,rfl⟩,by show (if ee=0 then s.length - J+1 else 0)<(if (0:Int)=0 then s.length - m+1 else 0);rw[if_neg heJ,if_pos rfl];omega⟩,?_⟩
       ((repeat' first|exact rfl|((conv=>whnf);first|done|exact suL|refine And.intro ?_ ?_|fail));all_goals conv=>whnf)
       all_goals exact lf0
      | ok n2 k2 =>
       rw[hy] at hm3 hy0
       unfold GivesP at hy0
       simp only[Rs.bind_ok] at hm3
       obtain ⟨hk1,hk2⟩:=hf2 op _ _ _ hl.2 hy
       rw[frmX_y ho hse2,← hE,hy] at hX
       obtain ⟨k1,m1,t1,a1,b1,ks1⟩:=n2
       rw[← hsg] at hm3
       ((repeat' ((conv=>whnf);first|exact .intro|refine .ya ?_|refine .na ?_|refine .ys ?_|refine .ns ?_|refine .neg (fun _=>?_) (fun _=>?_)|refine .mk (fun _=>?_) (fun _=>?_)|refine .inr (X5 (hy0.r [0] _) ?_)|refine .inl (.inr (X5 (hy0.r [0] _) ?_))|refine .inl (X5 (hy0.r [0] _) ?_)|refine .inl (.inl (X1 (by first|exact c2|exact c3) ?_))|refine .inl (X1 (by first|exact c2|exact c3) ?_)|refine X1 (by first|exact c2|exact c3) ?_|(rw[e2])|refine .mk ?_ ?_|refine AK ?_|refine AT ?_|fail));all_goals conv=>whnf)
       refine ⟨(k2,twoN (signZ T:Int) (.mk k0 m0 t0 a0 b0 ks0) (.mk k1 m1 t1 a1 b1 ks1),0,0,d),⟨.inl ⟨rfl,rfl,rfl,hk2,f,by show s.length - k2<f;omega,hm3,hX⟩,by show (if (0:Int)=0 then s.length - k2+1 else 0)<(if (0:Int)=0 then s.length - m+1 else 0);rw[if_pos rfl,if_pos rfl];omega⟩,?_⟩
       ((repeat' first|exact rfl|((conv=>whnf);first|done|exact suL|refine And.intro ?_ ?_|fail));all_goals conv=>whnf)
       all_goals exact lf0
     ·have hse':((tgt (signZ T):Nat):Int)<((least:Nat):Int):=by rw[hsg];omega
      rw[frm_none fun op' len' ho'=>(by rw[ho] at ho';cases ho';simpa using hse)] at hm3
      cases hm3
    ·rw[frm_none fun op' len' ho'=>(by rw[ho] at ho';cases ho')] at hm3
     cases hm3
  ·obtain ⟨k0,m0,t0,a0,b0,ks0⟩:=n
   ((repeat' ((conv=>whnf);first|exact .intro|refine .ya ?_|refine .na ?_|refine .ys ?_|refine .ns ?_|refine .neg (fun _=>?_) (fun _=>?_)|refine .mk (fun _=>?_) (fun _=>?_)|refine .mk ?_ ?_|refine AK ?_|refine AT ?_|fail));all_goals conv=>whnf)
   ((repeat' first|exact rfl|((conv=>whnf);first|done|exact suL|refine And.intro ?_ ?_|fail));all_goals conv=>whnf)
   all_goals (refine .inr ?_;repeat' first|exact .intro|exact .inr (.inl rfl)|exact lf0|exact ln0|((conv=>whnf);first|exact .intro|exact .inr (.inl rfl)|exact lf0|exact ln0|refine And.intro ?_ ?_|fail))
theorem loose_l {s:List UInt8} {least d i:Nat} {one:Nat→Rs Nd} {sub:Nat→Nat→Rs Nd} (hd:d≤30) (hs:s.length≤200) (hf:Fwd s one) (hf2:∀ op,Fwd s (sub op)) (hi:i≤s.length)
 (h1:∀ j,j≤s.length→GivesP gl 90 [.c (.ptr 0 0)] s j d d (one j))
 (ht:∀ op j,least≤tgt op→j≤s.length→GivesP gl 47 [.c (.ptr 0 0),.c (.d (iD ((tgt op+1:Nat):Int)))] s j d d (sub op j)) {R:Rs Nd} (hR:((one i).bind fun n j=>frm s sub (fun op=>decide (least≤tgt op)) (s.length+1) n j)=R) :
 GivesP gl 47 [.c (.ptr 0 0),.c (.d (iD (least:Int)))] s i d d R:=by
 cases hx:one i with
 | no a e =>
  rw[hx] at hR
  subst hR
  exact loose_e hd hs hf hf2 hi h1 ht hx
 | ok n m =>
  rw[hx] at hR
  simp only[Rs.bind_ok] at hR
  cases R with
  | ok nn jj=>exact loose_o hd hs hf hf2 hi h1 ht hx hR
  | no aa ee=>exact loose_n hd hs hf hf2 hi h1 ht hx hR
end Go.Proofs.YtdpigpahfiachaaGreatDoor
end
