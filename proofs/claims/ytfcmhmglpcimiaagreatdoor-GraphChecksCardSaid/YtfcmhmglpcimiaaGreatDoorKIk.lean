/- Proved: a part of what the law is proved with (the reckoner, contracts of functions, plain laws). Conditions: as each says. -/
import Derived.Test.YtfcmhmglpcimiaaGreatDoorKIj
namespace Go.Proofs.YtfcmhmglpcimiaaGreatDoor
open Go Go.EYtfcmhmglpcimiaaGreatDoor
set_option maxRecDepth 100000
set_option maxHeartbeats 16000000
variable {gl:List (Nat×List D)}
theorem rcall_none {s w:List UInt8} {k d:Nat} (hk:k<s.length) (hs:s.length≤200) (hd:d≤30) (h:s[skp s (k+1)]?=some 41) :
 GivesP gl 78 [.c (.ptr 0 0),.c (.d (.str w))] s k (d+1) d (.ok (.mk 9 0 w z0 z0 []) (skp s (k+1)+1)):=by
 have e1:IntKind.i64.wrap (((k:Nat):Int)+1)=((k+1:Nat):Int):=by rw[wrapI (by omega)];rfl
 have c1:=tok_d (gl:=gl) (show k+1≤s.length from hk) hs
 rw[tok_mark (by decide) h] at c1
 change FnP Tryz.prog gl 35 _ (.agg [iD 4,iD ((skp s (k+1):Nat):Int),iD ((skp s (k+1)+1:Nat):Int),.str [41]]) at c1
 have c2:=close_y (gl:=gl) (show k+1≤s.length from hk) hs hd h
 generalize skp s (k+1)=j at *
 unfold GivesP
 refine fn_of_vc (nv:=9999) (cu:=[4]) fits mixed Tryz.func78 rfl hoB rfl rfl rfl rfl ?_
 ((repeat' ((conv=>whnf);first|exact .intro|refine G ?_|intro _|refine C1 c1 ?_|(rw[e1])|refine .mk ?_ ?_|refine H ?_|fail));all_goals conv=>whnf)
 refine ⟨{ σ:=Unit,fr:=fun q=>[(6,.c (.ptr 3 0))],ks:=[],L:=fun q=>[(3,.var [.d (iD 4),.d (iD (j:Int)),.d (iD ((j+1:Nat):Int)),.d (.str [41])] 93)],ex:=1,I:=fun q=>True,μ:=fun q=>0 },?_,fun _ _=>?_⟩
 ·((repeat' ((conv=>whnf);first|exact .intro|refine G ?_|intro _|refine C1 c1 ?_|(rw[e1])|refine .mk ?_ ?_|refine H ?_|fail));all_goals conv=>whnf)
  all_goals
   refine ⟨(),trivial,?_⟩
   ((repeat' first|exact rfl|((conv=>whnf);first|done|exact suL|refine And.intro ?_ ?_|fail));all_goals conv=>whnf)
 ·((repeat' ((conv=>whnf);first|exact .intro|refine G ?_|intro _|refine C5 c2 [0] ?_|refine .mk ?_ ?_|refine H ?_|fail));all_goals conv=>whnf)
  ((repeat' first|exact rfl|((conv=>whnf);first|done|exact suL|refine And.intro ?_ ?_|fail));all_goals conv=>whnf)
  all_goals (refine .inr ?_;repeat' first|exact .intro|exact .inr (.inl rfl)|exact lf0|exact ln0|((conv=>whnf);first|exact .intro|exact .inr (.inl rfl)|exact lf0|exact ln0|refine And.intro ?_ ?_|fail))
theorem rcall_o {rf:List UInt8→Option Rf} (hR:RefsOk rf) (hE:rf []=none) {s w:List UInt8} {k d:Nat} (hk:k<s.length) (hs:s.length≤200) (hd:d<30) (h41:s[skp s (k+1)]?≠some 41) {tw:Nat→Rs Nd} (hf:Fwd s tw) (htw:∀ i,tw (skp s i)=tw i)
 (ht:∀ j,j≤s.length→GivesP gl 34 [.c (.ptr 0 0),.c (.d (iD 1))] s j (d+1) (d+1) (tw j)) {ls:List Nd} {jj:Nat} (hr:argsF (parZ rf) s tw (s.length+1) [] (k+1)=.ok ls jj) :
 GivesP gl 78 [.c (.ptr 0 0),.c (.d (.str w))] s k (d+1) d (.ok (.mk 9 0 w z0 z0 ls) jj):=by
 have e1:IntKind.i64.wrap (((k:Nat):Int)+1)=((k+1:Nat):Int):=by rw[wrapI (by omega)];rfl
 have hk1:k+1≤s.length:=hk
 have c1:=tok_d (gl:=gl) hk1 hs
 have hcl:¬ (((tokZ s (k+1)).k=4)∧(tokZ s (k+1)).t=[41]):=fun h=>h41 (tok_mark_of h.1 h.2)
 unfold GivesP
 have hgo:∀ {m:Nat} {ks:List Nd} {f:Nat} {a:Nat} {e:Int},argsF (parZ rf) s tw (f+1) ks m=.ok ls jj→argF (parZ rf) s tw m=.no a e→False:=by
  intro m ks f a e h1 h2
  unfold argsF at h1
  rw[h2] at h1
  cases h1
 generalize tokZ s (k+1)=tk at c1 hcl
 obtain ⟨K1,K2,K3,K4⟩:=tk
 simp only at hcl
 change FnP Tryz.prog gl 35 _ (.agg [iD (K1:Int),iD ((K2:Nat):Int),iD ((K3:Nat):Int),.str K4]) at c1
 refine fn_of_vc (nv:=9999) (cu:=[4,7,13,19]) fits mixed Tryz.func78 rfl hoB rfl rfl rfl rfl ?_
 ((repeat' ((conv=>whnf);first|exact .intro|refine G ?_|intro _|refine C1 c1 ?_|(rw[e1])|refine .mk ?_ ?_|refine H ?_|fail));all_goals conv=>whnf)
 refine ⟨{ σ:=Unit,fr:=fun q=>[(6,.c (.ptr 3 0))],ks:=[],L:=fun q=>[(3,.var [.d (iD (K1:Int)),.d (iD (K2:Int)),.d (iD (K3:Int)),.d (.str K4)] 93)],ex:=1,I:=fun q=>True,μ:=fun q=>0 },?_,fun _ _=>?_⟩
 ·((repeat' ((conv=>whnf);first|exact .intro|refine G ?_|intro _|refine C1 c1 ?_|(rw[e1])|refine .mk ?_ ?_|refine H ?_|fail));all_goals conv=>whnf)
  all_goals
   refine ⟨(),trivial,?_⟩
   ((repeat' first|exact rfl|((conv=>whnf);first|done|exact suL|refine And.intro ?_ ?_|fail));all_goals conv=>whnf)
 ·clear c1
  have hcl2:¬ ((K1:Nat):Int)=4∨(((K1:Nat):Int)=4∧¬ K4=[41]):=by
   by_cases q:K1=4
   ·exact .inr ⟨by omega,fun h=>hcl ⟨q,h⟩⟩
   ·exact .inl (by omega)
  clear hcl
  refine ⟨{ σ:=Unit,fr:=fun q=>[],ks:=[],L:=fun q=>[],ex:=0,I:=fun q=>True,μ:=fun q=>0 },?_,fun _ _=>?_⟩
  ·rcases hcl2 with hcl2|⟨hcl2,hcl3⟩
   all_goals
    ((repeat' ((conv=>whnf);first|exact .intro|refine G ?_|intro _|refine .mk ?_ ?_|refine H ?_|fail));all_goals conv=>whnf)
    refine ⟨(),trivial,?_⟩
    ((repeat' first|exact rfl|((conv=>whnf);first|done|exact suL|refine And.intro ?_ ?_|fail));all_goals conv=>whnf)
  ·((repeat' ((conv=>whnf);first|exact .intro|refine G ?_|intro _|refine .mk ?_ ?_|refine H ?_|fail));all_goals conv=>whnf)
   refine ⟨{ σ:=Nat×List Nd,fr:=fun q=>[],ks:=[0,2,3],L:=fun q=>[(0,pB s q.1 0 0 ((d+1:Nat):Int)),(2,.var [.d (iD 9),.d (iD 0),.d (.str w),.d (iD 0),.d (iD 0),.d (.v (.bool false)),.d (.v (.bool false)),.d (iD 0),.d (iD 0),.d (.v (.bool false)),.d (.v (.bool false)),.all 12 4] 64),(3,.var [.junk,.junk,.junk,.junk] 93),(4,.rows 12 (Nd.csL q.2) 64)],ex:=1,I:=fun q=>q.1≤s.length∧q.2.length≤q.1∧∃ f,s.length - q.1<f∧argsF (parZ rf) s tw f q.2 q.1=.ok ls jj,μ:=fun q=>s.length - q.1 },⟨(k+1,[]),⟨hk1,Nat.zero_le _,s.length+1,by show s.length - (k+1)<s.length+1;omega,hr⟩,?_⟩,?_⟩
   ·((repeat' first|exact rfl|((conv=>whnf);first|done|exact suL|refine And.intro ?_ ?_|fail));all_goals conv=>whnf)
    all_goals first
     | exact Or.inr (Or.inr (Or.inl ⟨rfl,12,4,rfl,by decide⟩))
     | exact ⟨12,_,rfl,by decide,Nat.le_refl _⟩
   ·clear hr e1
    rintro ⟨m,ks⟩ hI
    simp only at hI
    obtain ⟨hm1,hm2,f,hm3,hm4⟩:=hI
    obtain ⟨f,rfl⟩:∃ g,f=g+1:=⟨f - 1,by omega⟩
    have hgo:∀ {a:Nat} {e:Int},argF (parZ rf) s tw m=.no a e→1=0:=fun h=>(hgo hm4 h).elim
    unfold argsF at hm4
    have c1:=tok_d (gl:=gl) hm1 hs
    have htl:=tok_t hs (i:=m)
    have hbx:∀ r,Box rf s m r↔((tokZ s m).k=1∧rf (tokZ s m).t=some r∧s[(tokZ s m).e]?=some 58):=fun r=>Iff.rfl
    have hax:=fun r=>argF_box (rf:=rf) (s:=s) (tw:=tw) (m:=m) (r:=r)
    have han:=argF_nobox (rf:=rf) (s:=s) (tw:=tw) (m:=m) hE htw
    have hrf:=hR gl (tokZ s m).t htl
    have hje:=tok_e hm1
    generalize tokZ s m=tk at *
    obtain ⟨K1,K2,K3,K4⟩:=tk
    simp only at hje hrf hbx hax htl
    change FnP Tryz.prog gl 35 _ (.agg [iD (K1:Int),iD ((K2:Nat):Int),iD ((K3:Nat):Int),.str K4]) at c1
    obtain ⟨rr,ok,c2,hrr⟩:∃ (rr:Rf) (ok:Bool),FnP Tryz.prog gl 80 [.str K4] (.tup [refD rr.c rr.r rr.fc rr.fr,tD ok])∧((ok=true∧rf K4=some rr)∨(ok=false∧rf K4=none)):=by
     cases hq:rf K4 with
     | some r=>exact ⟨r,true,(hrf.1 r hq).2,.inl ⟨rfl,rfl⟩⟩
     | none=>exact ⟨z0,false,(hrf.2 hq).2,.inr ⟨rfl,rfl⟩⟩
    change FnP Tryz.prog gl 80 [.str K4] (.tup [.agg [iD rr.c,iD rr.r,tD rr.fc,tD rr.fr],tD ok]) at c2
    ((repeat' ((conv=>whnf);first|exact .intro|refine G ?_|intro _|refine C1 c1 ?_|refine C1 c2 ?_|refine .mk ?_ ?_|refine H ?_|fail));all_goals conv=>whnf)
    refine ⟨{ σ:=Nat×Nd×Nat×Int×Int,fr:=fun q=>[],ks:=[0,6],L:=fun q=>[(0,pB s q.1 q.2.2.1 q.2.2.2.1 q.2.2.2.2),(6,.var (ndC q.2.1) 64)],ex:=0,I:=fun q=>q.1≤s.length∧((argF (parZ rf) s tw m=.ok q.2.1 q.1∧q.2.2.1=0∧q.2.2.2.1=0∧q.2.2.2.2=((d+1:Nat):Int))∨(False)),μ:=fun q=>0 },?_,?_⟩
    ·by_cases hb:K1=1∧ok=true∧s[K3]?=some 58
     ·obtain ⟨g1,rfl,g3⟩:=hb
      have hl:=lt_of_get g3
      have hK:rf K4=some rr:=by
       rcases hrr with ⟨_,h⟩|⟨h,_⟩
       ·exact h
       ·cases h
      have hbox:Box rf s m rr:=(hbx rr).2 ⟨g1,hK,g3⟩
      have hag:=hax rr hbox
      have g1':((K1:Nat):Int)=1:=by omega
      have g2':((K3:Nat):Int)<((s.length:Nat):Int):=by omega
      have g3':(((s.getD ((K3:Nat):Int).toNat 0).toNat:Nat):Int)=58:=(byt 58 hl).2 g3
      have e1:IntKind.i64.wrap (((K3:Nat):Int)+1)=((K3+1:Nat):Int):=by rw[wrapI (by omega)];rfl
      have hl2:K3+1≤s.length:=hl
      have c5:=tok_d (gl:=gl) hl2 hs
      have htl2:=tok_t hs (i:=K3+1)
      have hrf2:=hR gl (tokZ s (K3+1)).t htl2
      have hje2:=(tok_e hl2).2
      have hb2:=box2 (s:=s) hE (K3+1)
      generalize hwq:wdAt s (K3+1)=wq at *
      generalize hwe:wdE s (K3+1)=we at *
      generalize htk2:tokZ s (K3+1)=tk2 at *
      obtain ⟨M1,M2,M3,M4⟩:=tk2
      simp only at hrf2 hje2 hb2 htl2
      change FnP Tryz.prog gl 35 _ (.agg [iD (M1:Int),iD ((M2:Nat):Int),iD ((M3:Nat):Int),.str M4]) at c5
      obtain ⟨tt2,ok2,c6,htt⟩:∃ (tt2:Rf) (ok2:Bool),FnP Tryz.prog gl 80 [.str M4] (.tup [refD tt2.c tt2.r tt2.fc tt2.fr,tD ok2])∧((ok2=true∧rf M4=some tt2)∨(ok2=false∧rf M4=none∧tt2=z0)):=by
       cases hq:rf M4 with
       | some r=>exact ⟨r,true,(hrf2.1 r hq).2,.inl ⟨rfl,rfl⟩⟩
       | none=>exact ⟨z0,false,(hrf2.2 hq).2,.inr ⟨rfl,rfl,rfl⟩⟩
      change FnP Tryz.prog gl 80 [.str M4] (.tup [.agg [iD tt2.c,iD tt2.r,tD tt2.fc,tD tt2.fr],tD ok2]) at c6
      have c7:=pfail_0 (gl:=gl) s m (K3+1) ((d+1:Nat):Int) 2
      ((repeat' ((conv=>whnf);first|exact .intro|refine G ?_|intro _|refine C1 c5 ?_|(rw[e1])|refine .mk ?_ ?_|refine H ?_|fail));all_goals conv=>whnf)
      refine ⟨{ σ:=Unit,fr:=fun q=>[(10,.c (.ptr 7 0))],ks:=[],L:=fun q=>[(7,.var [.d (iD (M1:Int)),.d (iD (M2:Int)),.d (iD (M3:Int)),.d (.str M4)] 93)],ex:=1,I:=fun q=>True,μ:=fun q=>0 },?_,fun _ _=>?_⟩
      ·((repeat' ((conv=>whnf);first|exact .intro|refine G ?_|intro _|refine C1 c5 ?_|(rw[e1])|refine .mk ?_ ?_|refine H ?_|fail));all_goals conv=>whnf)
       all_goals
        refine ⟨(),trivial,?_⟩
        ((repeat' first|exact rfl|((conv=>whnf);first|done|exact suL|refine And.intro ?_ ?_|fail));all_goals conv=>whnf)
      ·by_cases hgood:M1=1∧M2=K3+1∧ok2=true
       ·obtain ⟨rfl,rfl,rfl⟩:=hgood
        have hM:rf M4=some tt2:=by
         rcases htt with ⟨_,h⟩|⟨h,_⟩
         ·exact h
         ·cases h
        have hgd:argF (parZ rf) s tw m=.ok (.mk 6 0 [] rr tt2 []) M3:=by
         rcases hb2 with hb2|⟨hb2,hb3⟩
         ·cases hb2
          rw[hag,hM]
         ·rcases hb3 with hb3|hb3
          ·exact absurd rfl hb3
          ·exact absurd rfl hb3
        have q0:((K3+1:Nat):Int)=IntKind.i64.wrap (((K3:Nat):Int)+1):=e1.symm
        have q0':¬ ¬ ((K3+1:Nat):Int)=IntKind.i64.wrap (((K3:Nat):Int)+1):=fun h=>h q0
        ((repeat' ((conv=>whnf);first|exact .intro|refine G ?_|intro _|refine C5 c7 [0] ?_|refine C1 c6 ?_|(rw[e1])|refine .mk ?_ ?_|refine H ?_|fail));all_goals conv=>whnf)
        refine ⟨(M3,.mk 6 0 [] rr tt2 [],0,0,((d+1:Nat):Int)),⟨hje2,.inl ⟨hgd,rfl,rfl,rfl⟩⟩,?_⟩
        ((repeat' first|exact rfl|((conv=>whnf);first|done|exact suL|refine And.intro ?_ ?_|fail));all_goals conv=>whnf)
        all_goals first|exact lf0|exact ln0
       ·have hbd:argF (parZ rf) s tw m=.no (K3+1) 2:=by
         rcases hb2 with hb2|⟨hb2,hb3⟩
         ·cases hb2
          rcases htt with ⟨h,_⟩|⟨h,h2,_⟩
          ·exact absurd ⟨rfl,rfl,h⟩ hgood
          ·rw[hag,h2]
         ·rw[hag,hb2]
        exact absurd (hgo hbd) (by simp)
     ·have hnbx:∀ r,¬ Box rf s m r:=fun r h=>hb (by
       obtain ⟨q1,q2,q3⟩:=(hbx r).1 h
       refine ⟨q1,?_,q3⟩
       rcases hrr with ⟨h,_⟩|⟨_,h⟩
       ·exact h
       ·rw[h] at q2;cases q2)
      have hag:=han hnbx
      have hcase:¬ ((K1:Nat):Int)=1∨(((K1:Nat):Int)=1∧ok=false)∨(((K1:Nat):Int)=1∧ok=true∧¬ ((K3:Nat):Int)<((s.length:Nat):Int))∨(((K1:Nat):Int)=1∧ok=true∧((K3:Nat):Int)<((s.length:Nat):Int)∧¬ (((s.getD ((K3:Nat):Int).toNat 0).toNat:Nat):Int)=58):=by
       by_cases q1:K1=1
       ·cases ok with
        | false=>exact .inr (.inl ⟨by omega,rfl⟩)
        | true =>
         by_cases q3:K3<s.length
         ·exact .inr (.inr (.inr ⟨by omega,rfl,by omega,fun h=>hb ⟨q1,rfl,(byt 58 q3).1 h⟩⟩))
         ·exact .inr (.inr (.inl ⟨by omega,rfl,by omega⟩))
       ·exact .inl (by omega)
      have hx0:=ht m hm1
      clear hb hrr
      cases hx:tw m with
      | ok n j =>
       rw[hx] at hx0 hag
       unfold GivesP at hx0
       have hj:=(argF_fwd hf hm1 hag).2
       obtain ⟨k1,m1,t1,a1,b1,ks1⟩:=n
       rcases hcase with q1|⟨q1,rfl⟩|⟨q1,rfl,q3⟩|⟨q1,rfl,q3,q4⟩
       all_goals
        ((repeat' ((conv=>whnf);first|exact .intro|refine G ?_|intro _|refine C5 hx0 [0] ?_|refine .mk ?_ ?_|refine H ?_|fail));all_goals conv=>whnf)
        refine ⟨(j,.mk k1 m1 t1 a1 b1 ks1,0,0,((d+1:Nat):Int)),⟨hj,.inl ⟨hag,rfl,rfl,rfl⟩⟩,?_⟩
        ((repeat' first|exact rfl|((conv=>whnf);first|done|exact suL|refine And.intro ?_ ?_|fail));all_goals conv=>whnf)
      | no a0 e0 =>
       rw[hx] at hag
       exact absurd (hgo hag) (by simp)
    ·rintro ⟨pl,nd,wr,bd,dp⟩ ⟨hpl,hI⟩
     simp only at hpl hI
     have c5:=tok_d (gl:=gl) hpl hs
     have hta:=tok_a s pl
     have htm:=fun (h:s[skp s pl]?=some 44)=>tok_mark (s:=s) (i:=pl) (c:=44) (by decide) h
     have hto:=fun (h1:(tokZ s pl).k=4) (h2:(tokZ s pl).t=[44])=>tok_mark_of h1 h2
     rcases hI with ⟨hag,rfl,rfl,rfl⟩|hbad
     ·rw[hag] at hm4
      simp only[Rs.bind_ok] at hm4
      by_cases hc:s[skp s pl]?=some 44
      ·rw[if_pos hc] at hm4
       have hl:=lt_of_get hc
       have hge:=le_skp s pl
       have hgm:=(argF_fwd hf hm1 hag).1
       rw[htm hc] at c5
       change FnP Tryz.prog gl 35 _ (.agg [iD 4,iD ((skp s pl:Nat):Int),iD ((skp s pl+1:Nat):Int),.str [44]]) at c5
       clear hta htm hto
       generalize skp s pl=x at *
       obtain ⟨k1,m1,t1,a1,b1,ks1⟩:=nd
       ((repeat' ((conv=>whnf);first|exact .intro|refine G ?_|intro _|refine C1 c5 ?_|(refine ⟨⟨rfl,by show ((Nd.csL ks).length+1) * 104≤140737488355328;rw[csL_len];omega,by show (Nd.csL ks).length+1≤maxLen;rw[csL_len];unfold maxLen;omega⟩,?_⟩)|refine .mk ?_ ?_|refine H ?_|fail));all_goals conv=>whnf)
       refine ⟨(x+1,ks++[.mk k1 m1 t1 a1 b1 ks1]),⟨⟨hl,by show (ks++[_]).length≤x+1;rw[List.length_append];show ks.length+1≤x+1;omega,f,by show s.length - (x+1)<f;omega,hm4⟩,by show s.length - (x+1)<s.length - m;omega⟩,?_⟩
       ((repeat' first|exact rfl|((conv=>whnf);first|done|exact suL|refine And.intro ?_ ?_|fail));all_goals conv=>whnf)
       all_goals exact (csL_app ks [.mk k1 m1 t1 a1 b1 ks1]).symm
      ·rw[if_neg hc] at hm4
       by_cases h9:s[skp s pl]?=some 41
       ·rw[if_pos h9] at hm4
        obtain ⟨rfl,rfl⟩:ks++[nd]=ls∧skp s pl+1=jj:=by simpa using hm4
        have c8:=close_y (gl:=gl) (d:=d) hpl hs (by omega) h9
        rw[tok_mark (c:=41) (by decide) h9] at c5
        change FnP Tryz.prog gl 35 _ (.agg [iD 4,iD ((skp s pl:Nat):Int),iD ((skp s pl+1:Nat):Int),.str [41]]) at c5
        clear hta htm hto
        generalize skp s pl=x at *
        obtain ⟨k1,m1,t1,a1,b1,ks1⟩:=nd
        ((repeat' ((conv=>whnf);first|exact .intro|refine G ?_|intro _|refine C5 c8 [0] ?_|refine C1 c5 ?_|(refine ⟨⟨rfl,by show ((Nd.csL ks).length+1) * 104≤140737488355328;rw[csL_len];omega,by show (Nd.csL ks).length+1≤maxLen;rw[csL_len];unfold maxLen;omega⟩,?_⟩)|refine .mk ?_ ?_|refine H ?_|fail));all_goals conv=>whnf)
        ((repeat' first|exact rfl|((conv=>whnf);first|done|exact suL|refine And.intro ?_ ?_|fail));all_goals conv=>whnf)
        all_goals (refine .inr ?_;repeat' first|exact .intro|exact .inr (.inl rfl)|exact lf0|exact ln0|((conv=>whnf);first|exact .intro|exact .inr (.inl rfl)|exact lf0|exact ln0|refine And.intro ?_ ?_|fail))
        all_goals exact .inr (.inl (congrArg (fun z=>C.d (.lst 12 z)) (csL_app ks [.mk k1 m1 t1 a1 b1 ks1]).symm))
       ·rw[if_neg h9] at hm4;cases hm4
     ·exact hbad.elim
theorem rcall_n {rf:List UInt8→Option Rf} (hR:RefsOk rf) (hE:rf []=none) {s w:List UInt8} {k d:Nat} (hk:k<s.length) (hs:s.length≤200) (_hd:d<30) (h41:s[skp s (k+1)]?≠some 41) {tw:Nat→Rs Nd} (hf:Fwd s tw) (htw:∀ i,tw (skp s i)=tw i)
 (ht:∀ j,j≤s.length→GivesP gl 34 [.c (.ptr 0 0),.c (.d (iD 1))] s j (d+1) (d+1) (tw j)) {aa:Nat} {ee:Int} (hr:argsF (parZ rf) s tw (s.length+1) [] (k+1)=.no aa ee) :
 GivesP gl 78 [.c (.ptr 0 0),.c (.d (.str w))] s k (d+1) d (.no aa ee):=by
 have e1:IntKind.i64.wrap (((k:Nat):Int)+1)=((k+1:Nat):Int):=by rw[wrapI (by omega)];rfl
 have hk1:k+1≤s.length:=hk
 have c1:=tok_d (gl:=gl) hk1 hs
 have hcl:¬ (((tokZ s (k+1)).k=4)∧(tokZ s (k+1)).t=[41]):=fun h=>h41 (tok_mark_of h.1 h.2)
 obtain ⟨⟨ks0,i0⟩,hX⟩:∃ p,argsH (parZ rf) s tw (s.length+1) [] (k+1)=p:=⟨_,rfl⟩
 have hlast:=argsH_of hf hk1 hr
 rw[hX] at hlast
 obtain ⟨hi0,hlast⟩:=hlast
 simp only at hi0 hlast
 obtain ⟨nd1,pl1,dp1,hpll,hee,hL⟩:∃ (nd1:Nd) (pl1:Nat) (dp1:Int),pl1≤s.length∧ee≠0∧((argF (parZ rf) s tw i0=.no aa ee∧ArgNo gl rf s tw (d+1) i0 aa ee nd1 pl1 dp1)∨(argF (parZ rf) s tw i0=.ok nd1 pl1∧dp1=((d+1:Nat):Int)∧aa=skp s pl1∧ee=2)):=by
  rcases hlast with h|⟨n,j,h,hj,_,_,ha,he⟩
  ·obtain ⟨h1,nd,pl,dp,h2,h3⟩:=argNo_of (gl:=gl) (d:=d+1) hE htw hi0 ht h
   exact ⟨nd,pl,dp,h2,h1,.inl ⟨h,h3⟩⟩
  ·exact ⟨n,j,_,hj,by rw[he];decide,.inr ⟨h,rfl,ha,he⟩⟩
 refine ⟨.mk 9 0 w z0 z0 (ks0++[nd1]),(tokZ s pl1).e,IntKind.i64.wrap (dp1 - 1),(tok_e hpll).2,hee,?_⟩
 -- what the last round is, if an argument fails; if it is the last
 have hnb:∀ r,Box rf s i0 r→argF (parZ rf) s tw i0=.no ((tokZ s i0).e+1) 2→aa=(tokZ s i0).e+1∧ee=2∧pl1=(tokZ s ((tokZ s i0).e+1)).e∧nd1=.mk 6 0 [] r ((rf (tokZ s ((tokZ s i0).e+1)).t).getD z0) []∧dp1=((d+1:Nat):Int):=by
  intro r hb ha
  rcases hL with ⟨h1,h2⟩|⟨h1,_⟩
  ·rcases h2 with ⟨h2,_⟩|⟨r',h3,h4,h5,h6,h7,h8⟩
   ·exact absurd hb (h2 r)
   ·have:r'=r:=by
     have q1:=h3.2.1
     rw[hb.2.1] at q1
     exact (Option.some.inj q1).symm
    subst this
    exact ⟨h4,h5,h6,h7,h8⟩
  ·rw[ha] at h1;cases h1
 have hnl:(∀ r,¬ Box rf s i0 r)→∀ {a0:Nat} {e0:Int},argF (parZ rf) s tw i0=.no a0 e0→a0=aa∧e0=ee∧Go.EYtfcmhmglpcimiaaGreatDoor.Fn Tryz.prog gl 34 [.c (.ptr 0 0),.c (.d (iD 1))] [(0,pB s i0 0 0 ((d+1:Nat):Int))] 1 (.ret (.agg (ndC nd1))) [(0,pB s pl1 aa ee dp1)] 1 []:=by
  intro hb a0 e0 ha
  rcases hL with ⟨h1,h2⟩|⟨h1,_⟩
  ·rw[ha] at h1
   cases h1
   rcases h2 with ⟨_,_,h4⟩|⟨r',h3,_⟩
   ·exact ⟨rfl,rfl,h4⟩
   ·exact absurd h3 (hb r')
  ·rw[ha] at h1;cases h1
 have hlo:∀ nd pl,argF (parZ rf) s tw i0=.ok nd pl→nd=nd1∧pl=pl1∧dp1=((d+1:Nat):Int):=by
  intro nd pl ha
  rcases hL with ⟨h1,_⟩|⟨h1,h2,_⟩
  ·rw[ha] at h1;cases h1
  ·rw[ha] at h1
   cases h1
   exact ⟨rfl,rfl,h2⟩
 clear hL hlast
 generalize tokZ s (k+1)=tk at c1 hcl
 obtain ⟨K1,K2,K3,K4⟩:=tk
 simp only at hcl
 change FnP Tryz.prog gl 35 _ (.agg [iD (K1:Int),iD ((K2:Nat):Int),iD ((K3:Nat):Int),.str K4]) at c1
 refine fn_of_vc (nv:=9999) (cu:=[4,7,13,19]) fits mixed Tryz.func78 rfl hoB rfl rfl rfl rfl ?_
 ((repeat' ((conv=>whnf);first|exact .intro|refine G ?_|intro _|refine C1 c1 ?_|(rw[e1])|refine .mk ?_ ?_|refine H ?_|fail));all_goals conv=>whnf)
 refine ⟨{ σ:=Unit,fr:=fun q=>[(6,.c (.ptr 3 0))],ks:=[],L:=fun q=>[(3,.var [.d (iD (K1:Int)),.d (iD (K2:Int)),.d (iD (K3:Int)),.d (.str K4)] 93)],ex:=1,I:=fun q=>True,μ:=fun q=>0 },?_,fun _ _=>?_⟩
 ·((repeat' ((conv=>whnf);first|exact .intro|refine G ?_|intro _|refine C1 c1 ?_|(rw[e1])|refine .mk ?_ ?_|refine H ?_|fail));all_goals conv=>whnf)
  all_goals
   refine ⟨(),trivial,?_⟩
   ((repeat' first|exact rfl|((conv=>whnf);first|done|exact suL|refine And.intro ?_ ?_|fail));all_goals conv=>whnf)
 ·clear c1
  have hcl2:¬ ((K1:Nat):Int)=4∨(((K1:Nat):Int)=4∧¬ K4=[41]):=by
   by_cases q:K1=4
   ·exact .inr ⟨by omega,fun h=>hcl ⟨q,h⟩⟩
   ·exact .inl (by omega)
  clear hcl
  refine ⟨{ σ:=Unit,fr:=fun q=>[],ks:=[],L:=fun q=>[],ex:=0,I:=fun q=>True,μ:=fun q=>0 },?_,fun _ _=>?_⟩
  ·rcases hcl2 with hcl2|⟨hcl2,hcl3⟩
   all_goals
    ((repeat' ((conv=>whnf);first|exact .intro|refine G ?_|intro _|refine .mk ?_ ?_|refine H ?_|fail));all_goals conv=>whnf)
    refine ⟨(),trivial,?_⟩
    ((repeat' first|exact rfl|((conv=>whnf);first|done|exact suL|refine And.intro ?_ ?_|fail));all_goals conv=>whnf)
  ·((repeat' ((conv=>whnf);first|exact .intro|refine G ?_|intro _|refine .mk ?_ ?_|refine H ?_|fail));all_goals conv=>whnf)
   refine ⟨{ σ:=Nat×List Nd,fr:=fun q=>[],ks:=[0,2,3],L:=fun q=>[(0,pB s q.1 0 0 ((d+1:Nat):Int)),(2,.var [.d (iD 9),.d (iD 0),.d (.str w),.d (iD 0),.d (iD 0),.d (.v (.bool false)),.d (.v (.bool false)),.d (iD 0),.d (iD 0),.d (.v (.bool false)),.d (.v (.bool false)),.all 12 4] 64),(3,.var [.junk,.junk,.junk,.junk] 93),(4,.rows 12 (Nd.csL q.2) 64)],ex:=1,I:=fun q=>q.1≤s.length∧q.2.length≤q.1∧∃ f,s.length - q.1<f∧argsF (parZ rf) s tw f q.2 q.1=.no aa ee∧argsH (parZ rf) s tw f q.2 q.1=(ks0,i0),μ:=fun q=>s.length - q.1 },⟨(k+1,[]),⟨hk1,Nat.zero_le _,s.length+1,by show s.length - (k+1)<s.length+1;omega,hr,hX⟩,?_⟩,?_⟩
   ·((repeat' first|exact rfl|((conv=>whnf);first|done|exact suL|refine And.intro ?_ ?_|fail));all_goals conv=>whnf)
    all_goals first
     | exact Or.inr (Or.inr (Or.inl ⟨rfl,12,4,rfl,by decide⟩))
     | exact ⟨12,_,rfl,by decide,Nat.le_refl _⟩
   ·clear hr e1 hX
    rintro ⟨m,ks⟩ hI
    simp only at hI
    obtain ⟨hm1,hm2,f,hm3,hm4,hX⟩:=hI
    obtain ⟨f,rfl⟩:∃ g,f=g+1:=⟨f - 1,by omega⟩
    have hNo:∀ {a:Nat} {e:Int},argF (parZ rf) s tw m=.no a e→m=i0:=fun h=>by
     rw[argsH_e h] at hX
     exact (Prod.mk.inj hX).2
    have hnb:∀ r,Box rf s m r→argF (parZ rf) s tw m=.no ((tokZ s m).e+1) 2→aa=(tokZ s m).e+1∧ee=2∧pl1=(tokZ s ((tokZ s m).e+1)).e∧nd1=.mk 6 0 [] r ((rf (tokZ s ((tokZ s m).e+1)).t).getD z0) []∧dp1=((d+1:Nat):Int):=fun r hb h=>by
     have:=hNo h
     subst this
     exact hnb r hb h
    have hnl:(∀ r,¬ Box rf s m r)→∀ {a0:Nat} {e0:Int},argF (parZ rf) s tw m=.no a0 e0→a0=aa∧e0=ee∧Go.EYtfcmhmglpcimiaaGreatDoor.Fn Tryz.prog gl 34 [.c (.ptr 0 0),.c (.d (iD 1))] [(0,pB s m 0 0 ((d+1:Nat):Int))] 1 (.ret (.agg (ndC nd1))) [(0,pB s pl1 aa ee dp1)] 1 []:=fun hb a0 e0 h=>by
     have:=hNo h
     subst this
     exact hnl hb h
    unfold argsF at hm4
    have c1:=tok_d (gl:=gl) hm1 hs
    have htl:=tok_t hs (i:=m)
    have hbx:∀ r,Box rf s m r↔((tokZ s m).k=1∧rf (tokZ s m).t=some r∧s[(tokZ s m).e]?=some 58):=fun r=>Iff.rfl
    have hax:=fun r=>argF_box (rf:=rf) (s:=s) (tw:=tw) (m:=m) (r:=r)
    have han:=argF_nobox (rf:=rf) (s:=s) (tw:=tw) (m:=m) hE htw
    have hrf:=hR gl (tokZ s m).t htl
    have hje:=tok_e hm1
    generalize tokZ s m=tk at *
    obtain ⟨K1,K2,K3,K4⟩:=tk
    simp only at hje hrf hbx hax htl
    change FnP Tryz.prog gl 35 _ (.agg [iD (K1:Int),iD ((K2:Nat):Int),iD ((K3:Nat):Int),.str K4]) at c1
    obtain ⟨rr,ok,c2,hrr⟩:∃ (rr:Rf) (ok:Bool),FnP Tryz.prog gl 80 [.str K4] (.tup [refD rr.c rr.r rr.fc rr.fr,tD ok])∧((ok=true∧rf K4=some rr)∨(ok=false∧rf K4=none)):=by
     cases hq:rf K4 with
     | some r=>exact ⟨r,true,(hrf.1 r hq).2,.inl ⟨rfl,rfl⟩⟩
     | none=>exact ⟨z0,false,(hrf.2 hq).2,.inr ⟨rfl,rfl⟩⟩
    change FnP Tryz.prog gl 80 [.str K4] (.tup [.agg [iD rr.c,iD rr.r,tD rr.fc,tD rr.fr],tD ok]) at c2
    ((repeat' ((conv=>whnf);first|exact .intro|refine G ?_|intro _|refine C1 c1 ?_|refine C1 c2 ?_|refine .mk ?_ ?_|refine H ?_|fail));all_goals conv=>whnf)
    refine ⟨{ σ:=Nat×Nd×Nat×Int×Int,fr:=fun q=>[],ks:=[0,6],L:=fun q=>[(0,pB s q.1 q.2.2.1 q.2.2.2.1 q.2.2.2.2),(6,.var (ndC q.2.1) 64)],ex:=0,I:=fun q=>q.1≤s.length∧((argF (parZ rf) s tw m=.ok q.2.1 q.1∧q.2.2.1=0∧q.2.2.2.1=0∧q.2.2.2.2=((d+1:Nat):Int))∨(argF (parZ rf) s tw m=.no aa ee∧q.2.2.1=aa∧q.2.2.2.1=ee∧q.1=pl1∧q.2.1=nd1∧q.2.2.2.2=dp1)),μ:=fun q=>0 },?_,?_⟩
    ·by_cases hb:K1=1∧ok=true∧s[K3]?=some 58
     ·obtain ⟨g1,rfl,g3⟩:=hb
      have hl:=lt_of_get g3
      have hK:rf K4=some rr:=by
       rcases hrr with ⟨_,h⟩|⟨h,_⟩
       ·exact h
       ·cases h
      have hbox:Box rf s m rr:=(hbx rr).2 ⟨g1,hK,g3⟩
      have hag:=hax rr hbox
      have g1':((K1:Nat):Int)=1:=by omega
      have g2':((K3:Nat):Int)<((s.length:Nat):Int):=by omega
      have g3':(((s.getD ((K3:Nat):Int).toNat 0).toNat:Nat):Int)=58:=(byt 58 hl).2 g3
      have e1:IntKind.i64.wrap (((K3:Nat):Int)+1)=((K3+1:Nat):Int):=by rw[wrapI (by omega)];rfl
      have hl2:K3+1≤s.length:=hl
      have c5:=tok_d (gl:=gl) hl2 hs
      have htl2:=tok_t hs (i:=K3+1)
      have hrf2:=hR gl (tokZ s (K3+1)).t htl2
      have hje2:=(tok_e hl2).2
      have hb2:=box2 (s:=s) hE (K3+1)
      generalize hwq:wdAt s (K3+1)=wq at *
      generalize hwe:wdE s (K3+1)=we at *
      generalize htk2:tokZ s (K3+1)=tk2 at *
      obtain ⟨M1,M2,M3,M4⟩:=tk2
      simp only at hrf2 hje2 hb2 htl2
      change FnP Tryz.prog gl 35 _ (.agg [iD (M1:Int),iD ((M2:Nat):Int),iD ((M3:Nat):Int),.str M4]) at c5
      obtain ⟨tt2,ok2,c6,htt⟩:∃ (tt2:Rf) (ok2:Bool),FnP Tryz.prog gl 80 [.str M4] (.tup [refD tt2.c tt2.r tt2.fc tt2.fr,tD ok2])∧((ok2=true∧rf M4=some tt2)∨(ok2=false∧rf M4=none∧tt2=z0)):=by
       cases hq:rf M4 with
       | some r=>exact ⟨r,true,(hrf2.1 r hq).2,.inl ⟨rfl,rfl⟩⟩
       | none=>exact ⟨z0,false,(hrf2.2 hq).2,.inr ⟨rfl,rfl,rfl⟩⟩
      change FnP Tryz.prog gl 80 [.str M4] (.tup [.agg [iD tt2.c,iD tt2.r,tD tt2.fc,tD tt2.fr],tD ok2]) at c6
      have c7:=pfail_0 (gl:=gl) s m (K3+1) ((d+1:Nat):Int) 2
      ((repeat' ((conv=>whnf);first|exact .intro|refine G ?_|intro _|refine C1 c5 ?_|(rw[e1])|refine .mk ?_ ?_|refine H ?_|fail));all_goals conv=>whnf)
      refine ⟨{ σ:=Unit,fr:=fun q=>[(10,.c (.ptr 7 0))],ks:=[],L:=fun q=>[(7,.var [.d (iD (M1:Int)),.d (iD (M2:Int)),.d (iD (M3:Int)),.d (.str M4)] 93)],ex:=1,I:=fun q=>True,μ:=fun q=>0 },?_,fun _ _=>?_⟩
      ·((repeat' ((conv=>whnf);first|exact .intro|refine G ?_|intro _|refine C1 c5 ?_|(rw[e1])|refine .mk ?_ ?_|refine H ?_|fail));all_goals conv=>whnf)
       all_goals
        refine ⟨(),trivial,?_⟩
        ((repeat' first|exact rfl|((conv=>whnf);first|done|exact suL|refine And.intro ?_ ?_|fail));all_goals conv=>whnf)
      ·by_cases hgood:M1=1∧M2=K3+1∧ok2=true
       ·obtain ⟨rfl,rfl,rfl⟩:=hgood
        have hM:rf M4=some tt2:=by
         rcases htt with ⟨_,h⟩|⟨h,_⟩
         ·exact h
         ·cases h
        have hgd:argF (parZ rf) s tw m=.ok (.mk 6 0 [] rr tt2 []) M3:=by
         rcases hb2 with hb2|⟨hb2,hb3⟩
         ·cases hb2
          rw[hag,hM]
         ·rcases hb3 with hb3|hb3
          ·exact absurd rfl hb3
          ·exact absurd rfl hb3
        have q0:((K3+1:Nat):Int)=IntKind.i64.wrap (((K3:Nat):Int)+1):=e1.symm
        have q0':¬ ¬ ((K3+1:Nat):Int)=IntKind.i64.wrap (((K3:Nat):Int)+1):=fun h=>h q0
        ((repeat' ((conv=>whnf);first|exact .intro|refine G ?_|intro _|refine C5 c7 [0] ?_|refine C1 c6 ?_|(rw[e1])|refine .mk ?_ ?_|refine H ?_|fail));all_goals conv=>whnf)
        refine ⟨(M3,.mk 6 0 [] rr tt2 [],0,0,((d+1:Nat):Int)),⟨hje2,.inl ⟨hgd,rfl,rfl,rfl⟩⟩,?_⟩
        ((repeat' first|exact rfl|((conv=>whnf);first|done|exact suL|refine And.intro ?_ ?_|fail));all_goals conv=>whnf)
        all_goals first|exact lf0|exact ln0
       ·have hbd:argF (parZ rf) s tw m=.no (K3+1) 2:=by
         rcases hb2 with hb2|⟨hb2,hb3⟩
         ·cases hb2
          rcases htt with ⟨h,_⟩|⟨h,h2,_⟩
          ·exact absurd ⟨rfl,rfl,h⟩ hgood
          ·rw[hag,h2]
         ·rw[hag,hb2]
        obtain ⟨haa,hee,hpl,hnd,hdp⟩:=hnb rr hbox hbd
        simp only at hpl hnd
        have htt2:(rf M4).getD z0=tt2:=by
         rcases htt with ⟨_,h⟩|⟨_,h,h2⟩
         ·rw[h];rfl
         ·rw[h,h2];rfl
        rw[htt2] at hnd
        have hfin:(m,0)=(m,0):=rfl
        by_cases q2:((M2:Nat):Int)=IntKind.i64.wrap (((K3:Nat):Int)+1)
        ·have q2':¬ ¬ ((M2:Nat):Int)=IntKind.i64.wrap (((K3:Nat):Int)+1):=fun h=>h q2
         have q2n:M2=K3+1:=by rw[e1] at q2;omega
         by_cases q1:((M1:Nat):Int)=1
         ·have q1':¬ ¬ ((M1:Nat):Int)=1:=fun h=>h q1
          have q3:ok2=false:=by
           cases ok2 with
           | false=>rfl
           | true=>exact absurd ⟨by omega,q2n,rfl⟩ hgood
          subst q3
          ((repeat' ((conv=>whnf);first|exact .intro|refine G ?_|intro _|refine C5 c7 [0] ?_|refine C1 c6 ?_|(rw[e1])|refine .mk ?_ ?_|refine H ?_|fail));all_goals conv=>whnf)
          refine ⟨(M3,.mk 6 0 [] rr tt2 [],aa,ee,dp1),⟨hje2,.inr ⟨by rw[haa,hee];exact hbd,rfl,rfl,hpl.symm,hnd.symm,rfl⟩⟩,?_⟩
          rw[haa,hee,hdp]
          ((repeat' first|exact rfl|((conv=>whnf);first|done|exact suL|refine And.intro ?_ ?_|fail));all_goals conv=>whnf)
          all_goals first|exact lf0|exact ln0
         ·((repeat' ((conv=>whnf);first|exact .intro|refine G ?_|intro _|refine C5 c7 [0] ?_|refine C1 c6 ?_|(rw[e1])|refine .mk ?_ ?_|refine H ?_|fail));all_goals conv=>whnf)
          refine ⟨(M3,.mk 6 0 [] rr tt2 [],aa,ee,dp1),⟨hje2,.inr ⟨by rw[haa,hee];exact hbd,rfl,rfl,hpl.symm,hnd.symm,rfl⟩⟩,?_⟩
          rw[haa,hee,hdp]
          ((repeat' first|exact rfl|((conv=>whnf);first|done|exact suL|refine And.intro ?_ ?_|fail));all_goals conv=>whnf)
          all_goals first|exact lf0|exact ln0
        ·((repeat' ((conv=>whnf);first|exact .intro|refine G ?_|intro _|refine C5 c7 [0] ?_|refine C1 c6 ?_|(rw[e1])|refine .mk ?_ ?_|refine H ?_|fail));all_goals conv=>whnf)
         refine ⟨(M3,.mk 6 0 [] rr tt2 [],aa,ee,dp1),⟨hje2,.inr ⟨by rw[haa,hee];exact hbd,rfl,rfl,hpl.symm,hnd.symm,rfl⟩⟩,?_⟩
         rw[haa,hee,hdp]
         ((repeat' first|exact rfl|((conv=>whnf);first|done|exact suL|refine And.intro ?_ ?_|fail));all_goals conv=>whnf)
         all_goals first|exact lf0|exact ln0
     ·have hnbx:∀ r,¬ Box rf s m r:=fun r h=>hb (by
       obtain ⟨q1,q2,q3⟩:=(hbx r).1 h
       refine ⟨q1,?_,q3⟩
       rcases hrr with ⟨h,_⟩|⟨_,h⟩
       ·exact h
       ·rw[h] at q2;cases q2)
      have hag:=han hnbx
      have hcase:¬ ((K1:Nat):Int)=1∨(((K1:Nat):Int)=1∧ok=false)∨(((K1:Nat):Int)=1∧ok=true∧¬ ((K3:Nat):Int)<((s.length:Nat):Int))∨(((K1:Nat):Int)=1∧ok=true∧((K3:Nat):Int)<((s.length:Nat):Int)∧¬ (((s.getD ((K3:Nat):Int).toNat 0).toNat:Nat):Int)=58):=by
       by_cases q1:K1=1
       ·cases ok with
        | false=>exact .inr (.inl ⟨by omega,rfl⟩)
        | true =>
         by_cases q3:K3<s.length
         ·exact .inr (.inr (.inr ⟨by omega,rfl,by omega,fun h=>hb ⟨q1,rfl,(byt 58 q3).1 h⟩⟩))
         ·exact .inr (.inr (.inl ⟨by omega,rfl,by omega⟩))
       ·exact .inl (by omega)
      have hx0:=ht m hm1
      clear hb hrr
      cases hx:tw m with
      | ok n j =>
       rw[hx] at hx0 hag
       unfold GivesP at hx0
       have hj:=(argF_fwd hf hm1 hag).2
       obtain ⟨k1,m1,t1,a1,b1,ks1⟩:=n
       rcases hcase with q1|⟨q1,rfl⟩|⟨q1,rfl,q3⟩|⟨q1,rfl,q3,q4⟩
       all_goals
        ((repeat' ((conv=>whnf);first|exact .intro|refine G ?_|intro _|refine C5 hx0 [0] ?_|refine .mk ?_ ?_|refine H ?_|fail));all_goals conv=>whnf)
        refine ⟨(j,.mk k1 m1 t1 a1 b1 ks1,0,0,((d+1:Nat):Int)),⟨hj,.inl ⟨hag,rfl,rfl,rfl⟩⟩,?_⟩
        ((repeat' first|exact rfl|((conv=>whnf);first|done|exact suL|refine And.intro ?_ ?_|fail));all_goals conv=>whnf)
      | no a0 e0 =>
       rw[hx] at hag
       obtain ⟨rfl,rfl,hj1⟩:=hnl hnbx hag
       obtain ⟨k1,m1,t1,a1,b1,ks1⟩:=nd1
       clear hx0
       rcases hcase with q1|⟨q1,rfl⟩|⟨q1,rfl,q3⟩|⟨q1,rfl,q3,q4⟩
       all_goals
        ((repeat' ((conv=>whnf);first|exact .intro|refine G ?_|intro _|refine C5 hj1 [0] ?_|refine .mk ?_ ?_|refine H ?_|fail));all_goals conv=>whnf)
        refine ⟨(pl1,.mk k1 m1 t1 a1 b1 ks1,a0,e0,dp1),⟨hpll,.inr ⟨hag,rfl,rfl,rfl,rfl,rfl⟩⟩,?_⟩
        ((repeat' first|exact rfl|((conv=>whnf);first|done|exact suL|refine And.intro ?_ ?_|fail));all_goals conv=>whnf)
    ·rintro ⟨pl,nd,wr,bd,dp⟩ ⟨hpl,hI⟩
     simp only at hpl hI
     have c5:=tok_d (gl:=gl) hpl hs
     have hta:=tok_a s pl
     have htm:=fun (h:s[skp s pl]?=some 44)=>tok_mark (s:=s) (i:=pl) (c:=44) (by decide) h
     have hto:=fun (h1:(tokZ s pl).k=4) (h2:(tokZ s pl).t=[44])=>tok_mark_of h1 h2
     rcases hI with ⟨hag,rfl,rfl,rfl⟩|hbad
     ·rw[hag] at hm4
      simp only[Rs.bind_ok] at hm4
      by_cases hc:s[skp s pl]?=some 44
      ·rw[if_pos hc] at hm4
       have hl:=lt_of_get hc
       have hge:=le_skp s pl
       have hgm:=(argF_fwd hf hm1 hag).1
       rw[argsH_y hag hc] at hX
       rw[htm hc] at c5
       change FnP Tryz.prog gl 35 _ (.agg [iD 4,iD ((skp s pl:Nat):Int),iD ((skp s pl+1:Nat):Int),.str [44]]) at c5
       clear hta htm hto
       generalize skp s pl=x at *
       obtain ⟨k1,m1,t1,a1,b1,ks1⟩:=nd
       ((repeat' ((conv=>whnf);first|exact .intro|refine G ?_|intro _|refine C1 c5 ?_|(refine ⟨⟨rfl,by show ((Nd.csL ks).length+1) * 104≤140737488355328;rw[csL_len];omega,by show (Nd.csL ks).length+1≤maxLen;rw[csL_len];unfold maxLen;omega⟩,?_⟩)|refine .mk ?_ ?_|refine H ?_|fail));all_goals conv=>whnf)
       refine ⟨(x+1,ks++[.mk k1 m1 t1 a1 b1 ks1]),⟨⟨hl,by show (ks++[_]).length≤x+1;rw[List.length_append];show ks.length+1≤x+1;omega,f,by show s.length - (x+1)<f;omega,hm4,hX⟩,by show s.length - (x+1)<s.length - m;omega⟩,?_⟩
       ((repeat' first|exact rfl|((conv=>whnf);first|done|exact suL|refine And.intro ?_ ?_|fail));all_goals conv=>whnf)
       all_goals exact (csL_app ks [.mk k1 m1 t1 a1 b1 ks1]).symm
      ·rw[if_neg hc] at hm4
       rw[argsH_n hag hc] at hX
       by_cases h9:s[skp s pl]?=some 41
       ·rw[if_pos h9] at hm4
        cases hm4
       ·rw[if_neg h9] at hm4
        have hm4':skp s pl=aa∧(2:Int)=ee:=by simpa using hm4
        obtain ⟨h7,h8⟩:=hm4'
        have hX':ks=ks0∧m=i0:=by simpa using hX
        obtain ⟨rfl,rfl⟩:=hX'
        obtain ⟨rfl,rfl,rfl⟩:=hlo nd pl hag
        have c8:=close_n (gl:=gl) (d:=((d+1:Nat):Int)) hpl hs h9
        rw[h7,h8] at c8
        clear htm
        have hcm:¬ ((tokZ s pl).k=4∧(tokZ s pl).t=[44]):=fun hh=>hc (hto hh.1 hh.2)
        clear hto hta
        generalize tokZ s pl=tk3 at *
        obtain ⟨Q1,Q2,Q3,Q4⟩:=tk3
        simp only at hcm c8 ⊢
        change FnP Tryz.prog gl 35 _ (.agg [iD (Q1:Int),iD ((Q2:Nat):Int),iD ((Q3:Nat):Int),.str Q4]) at c5
        obtain ⟨k1,m1,t1,a1,b1,ks1⟩:=nd
        by_cases q1:((Q1:Nat):Int)=4
        ·have q2:¬ Q4=[44]:=fun h=>hcm ⟨by omega,h⟩
         ((repeat' ((conv=>whnf);first|exact .intro|refine G ?_|intro _|refine C5 c8 [0] ?_|refine C1 c5 ?_|(refine ⟨⟨rfl,by show ((Nd.csL ks).length+1) * 104≤140737488355328;rw[csL_len];omega,by show (Nd.csL ks).length+1≤maxLen;rw[csL_len];unfold maxLen;omega⟩,?_⟩)|refine .mk ?_ ?_|refine H ?_|fail));all_goals conv=>whnf)
         ((repeat' first|exact rfl|((conv=>whnf);first|done|exact suL|refine And.intro ?_ ?_|fail));all_goals conv=>whnf)
         all_goals (refine .inr ?_;repeat' first|exact .intro|exact .inr (.inl rfl)|exact lf0|exact ln0|((conv=>whnf);first|exact .intro|exact .inr (.inl rfl)|exact lf0|exact ln0|refine And.intro ?_ ?_|fail))
         all_goals exact .inr (.inl (congrArg (fun z=>C.d (.lst 12 z)) (csL_app ks [.mk k1 m1 t1 a1 b1 ks1]).symm))
        ·((repeat' ((conv=>whnf);first|exact .intro|refine G ?_|intro _|refine C5 c8 [0] ?_|refine C1 c5 ?_|(refine ⟨⟨rfl,by show ((Nd.csL ks).length+1) * 104≤140737488355328;rw[csL_len];omega,by show (Nd.csL ks).length+1≤maxLen;rw[csL_len];unfold maxLen;omega⟩,?_⟩)|refine .mk ?_ ?_|refine H ?_|fail));all_goals conv=>whnf)
         ((repeat' first|exact rfl|((conv=>whnf);first|done|exact suL|refine And.intro ?_ ?_|fail));all_goals conv=>whnf)
         all_goals (refine .inr ?_;repeat' first|exact .intro|exact .inr (.inl rfl)|exact lf0|exact ln0|((conv=>whnf);first|exact .intro|exact .inr (.inl rfl)|exact lf0|exact ln0|refine And.intro ?_ ?_|fail))
         all_goals exact .inr (.inl (congrArg (fun z=>C.d (.lst 12 z)) (csL_app ks [.mk k1 m1 t1 a1 b1 ks1]).symm))
     ·obtain ⟨hag,rfl,rfl,rfl,rfl,rfl⟩:=hbad
      rw[argsH_e hag] at hX
      have hX':ks=ks0∧m=i0:=by simpa using hX
      obtain ⟨rfl,rfl⟩:=hX'
      have c8:=close_b (gl:=gl) (w:=wr) (b:=bd) (d:=dp) hpl hs hee
      have hb0:¬ bd=0:=hee
      clear htm hto hta
      generalize tokZ s pl=tk3 at *
      obtain ⟨Q1,Q2,Q3,Q4⟩:=tk3
      simp only at c8 ⊢
      change FnP Tryz.prog gl 35 _ (.agg [iD (Q1:Int),iD ((Q2:Nat):Int),iD ((Q3:Nat):Int),.str Q4]) at c5
      obtain ⟨k1,m1,t1,a1,b1,ks1⟩:=nd
      ((repeat' ((conv=>whnf);first|exact .intro|refine G ?_|intro _|refine C5 c8 [0] ?_|refine C1 c5 ?_|(refine ⟨⟨rfl,by show ((Nd.csL ks).length+1) * 104≤140737488355328;rw[csL_len];omega,by show (Nd.csL ks).length+1≤maxLen;rw[csL_len];unfold maxLen;omega⟩,?_⟩)|refine .mk ?_ ?_|refine H ?_|fail));all_goals conv=>whnf)
      ((repeat' first|exact rfl|((conv=>whnf);first|done|exact suL|refine And.intro ?_ ?_|fail));all_goals conv=>whnf)
      all_goals (refine .inr ?_;repeat' first|exact .intro|exact .inr (.inl rfl)|exact lf0|exact ln0|((conv=>whnf);first|exact .intro|exact .inr (.inl rfl)|exact lf0|exact ln0|refine And.intro ?_ ?_|fail))
      all_goals exact .inr (.inl (congrArg (fun z=>C.d (.lst 12 z)) (csL_app ks [.mk k1 m1 t1 a1 b1 ks1]).symm))
theorem rcall_d {rf:List UInt8→Option Rf} (hR:RefsOk rf) (hE:rf []=none) {s w:List UInt8} {k d:Nat} (hk:k<s.length) (hs:s.length≤200) (hd:d<30) {tw:Nat→Rs Nd} (hf:Fwd s tw) (htw:∀ i,tw (skp s i)=tw i)
 (ht:∀ j,j≤s.length→GivesP gl 34 [.c (.ptr 0 0),.c (.d (iD 1))] s j (d+1) (d+1) (tw j)):GivesP gl 78 [.c (.ptr 0 0),.c (.d (.str w))] s k (d+1) d (callF (parZ rf) s tw w k):=by
 unfold callF
 by_cases h:s[skp s (k+1)]?=some 41
 ·rw[if_pos h];exact rcall_none hk hs (by omega) h
 ·rw[if_neg h]
  cases hr:argsF (parZ rf) s tw (s.length+1) [] (k+1) with
  | ok ls jj=>exact rcall_o hR hE hk hs hd h hf htw ht hr
  | no aa ee=>exact rcall_n hR hE hk hs hd h hf htw ht hr
end Go.Proofs.YtfcmhmglpcimiaaGreatDoor
