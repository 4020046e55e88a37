/- Proved: a part of what the law is proved with (the reckoner, contracts of functions, plain laws). Conditions: as each says. -/
import Derived.Test.YtfcmhmglpcimiaaGreatDoorKGm
import Derived.Test.YtfcmhmglpcimiaaGreatDoorKHd
namespace Go.Proofs.YtfcmhmglpcimiaaGreatDoor
open Go Go.EYtfcmhmglpcimiaaGreatDoor
set_option maxRecDepth 100000
section
set_option maxHeartbeats 4000000
variable {gl:List (Nat×List D)}
theorem one_callf {s:List UInt8} {i:Nat} {c:UInt8} (hi:i≤s.length) (hs:s.length≤200) (h:s[skp s i]?=some c) (hw:wordlyP c) (hq:s[wdE s (skp s i)]?=some 40) (hc:clZ (wdAt s (skp s i))=true) :
 GivesP gl 52 [.c (.ptr 0 0)] s i 30 30 (.no (skp s i) 4):=by
 have c1:=tok_d (gl:=gl) hi hs
 rw[tok_word h hw] at c1
 change FnP Tryz.prog gl 35 _ (.agg [iD 1,iD ((skp s i:Nat):Int),iD ((wdE s (skp s i):Nat):Int),.str (wdAt s (skp s i))]) at c1
 have c3:=rcalled_y (gl:=gl) (wd_len hs) hc
 have hl2:=lt_of_get hq
 have h6:((wdE s (skp s i):Nat):Int)<((s.length:Nat):Int):=by omega
 have h7:(((s.getD ((wdE s (skp s i):Nat):Int).toNat 0).toNat:Nat):Int)=40:=(byt 40 hl2).2 hq
 have c2:=deeper_n (gl:=gl) s (wdE s (skp s i)) (skp s i)
 generalize wdAt s (skp s i)=w at *
 generalize wdE s (skp s i)=e at *
 generalize skp s i=j at *
 refine ⟨n0,e,30,by omega,by decide,?_⟩
 refine S1 Tryz.func52 rfl ?_
 ((repeat' ((conv=>whnf);first|exact .intro|refine G ?_|intro _|refine C5 c2 [0] ?_|refine C1 c1 ?_|refine C1 c3 ?_|refine .mk ?_ ?_|refine H ?_|fail));all_goals conv=>whnf)
 ((repeat' first|exact rfl|((conv=>whnf);first|done|exact suL|refine And.intro ?_ ?_|fail));all_goals conv=>whnf)
 all_goals (refine .inr ?_;repeat' first|exact .intro|exact .inr (.inl rfl)|exact lf0|exact ln0|((conv=>whnf);first|exact .intro|exact .inr (.inl rfl)|exact lf0|exact ln0|refine And.intro ?_ ?_|fail))
theorem one_call {s:List UInt8} {i d:Nat} {c:UInt8} (hi:i≤s.length) (hs:s.length≤200) (hd:d<30) (h:s[skp s i]?=some c) (hw:wordlyP c) (hq:s[wdE s (skp s i)]?=some 40) (hc:clZ (wdAt s (skp s i))=true)
 {r:Rs Nd} (hp:GivesP gl 78 [.c (.ptr 0 0),.c (.d (.str (wdAt s (skp s i))))] s (wdE s (skp s i)) (d+1) d r) :
 GivesP gl 52 [.c (.ptr 0 0)] s i d d r:=by
 have c1:=tok_d (gl:=gl) hi hs
 rw[tok_word h hw] at c1
 change FnP Tryz.prog gl 35 _ (.agg [iD 1,iD ((skp s i:Nat):Int),iD ((wdE s (skp s i):Nat):Int),.str (wdAt s (skp s i))]) at c1
 have c3:=rcalled_y (gl:=gl) (wd_len hs) hc
 have hl2:=lt_of_get hq
 have h6:((wdE s (skp s i):Nat):Int)<((s.length:Nat):Int):=by omega
 have h7:(((s.getD ((wdE s (skp s i):Nat):Int).toNat 0).toNat:Nat):Int)=40:=(byt 40 hl2).2 hq
 have c2:=deeper_y (gl:=gl) s (wdE s (skp s i)) (skp s i) d hd
 generalize wdAt s (skp s i)=w at *
 generalize wdE s (skp s i)=e at *
 generalize skp s i=j at *
 cases r with
 | ok n k =>
  unfold GivesP at hp ⊢
  obtain ⟨k0,m,t,a,b,ks⟩:=n
  refine S1 Tryz.func52 rfl ?_
  ((repeat' ((conv=>whnf);first|exact .intro|refine G ?_|intro _|refine C5 c2 [0] ?_|refine C5 hp [0] ?_|refine C1 c1 ?_|refine C1 c3 ?_|refine .mk ?_ ?_|refine H ?_|fail));all_goals conv=>whnf)
  ((repeat' first|exact rfl|((conv=>whnf);first|done|exact suL|refine And.intro ?_ ?_|fail));all_goals conv=>whnf)
 | no q e1 =>
  obtain ⟨m,k,x,hk,he,hp⟩:=hp
  refine ⟨m,k,x,hk,he,?_⟩
  obtain ⟨k0,m,t,a,b,ks⟩:=m
  refine S1 Tryz.func52 rfl ?_
  ((repeat' ((conv=>whnf);first|exact .intro|refine G ?_|intro _|refine C5 c2 [0] ?_|refine C5 hp [0] ?_|refine C1 c1 ?_|refine C1 c3 ?_|refine .mk ?_ ?_|refine H ?_|fail));all_goals conv=>whnf)
  ((repeat' first|exact rfl|((conv=>whnf);first|done|exact suL|refine And.intro ?_ ?_|fail));all_goals conv=>whnf)
theorem one_word {rf:List UInt8→Option Rf} (hR:RefsOk rf) {s:List UInt8} {i d:Nat} {c:UInt8} (hi:i≤s.length) (hs:s.length≤200) (h:s[skp s i]?=some c) (hw:wordlyP c) (hq:¬ (s[wdE s (skp s i)]?=some 40∧clZ (wdAt s (skp s i))=true)) :
 GivesP gl 52 [.c (.ptr 0 0)] s i d d (match plZ rf (wdAt s (skp s i)) with
  | some n=>.ok n (wdE s (skp s i))
  | none=>.no (skp s i) 2):=by
 have c1:=tok_d (gl:=gl) hi hs
 rw[tok_word h hw] at c1
 change FnP Tryz.prog gl 35 _ (.agg [iD 1,iD ((skp s i:Nat):Int),iD ((wdE s (skp s i):Nat):Int),.str (wdAt s (skp s i))]) at c1
 have hwl:=wd_len (i:=skp s i) hs
 have hh:=wd_head h hw
 have h45:(wdAt s (skp s i)).head?≠some 45:=by rw[hh];intro e;cases e;exact absurd hw (by decide)
 have hle:=wdE_le (skp_le hi)
 have hlit:=litZ_word hh hw
 have c4:=pfail_0 (gl:=gl) s (wdE s (skp s i)) (skp s i) (d:Int) 2
 -- not a call
 have hcall:∃ b:Bool,FnP Tryz.prog gl 76 [.str (wdAt s (skp s i))] (.v (.bool b))∧(b=true→((wdE s (skp s i):Nat):Int)<((s.length:Nat):Int)→¬ (((s.getD ((wdE s (skp s i):Nat):Int).toNat 0).toNat:Nat):Int)=40):=by
  cases hc:clZ (wdAt s (skp s i)) with
  | true=>exact ⟨true,rcalled_y hwl hc,fun _ hlt e=>hq ⟨(byt 40 (by omega)).1 e,hc⟩⟩
  | false=>exact ⟨false,rcalled_n hwl hc,fun hb=>by cases hb⟩
 obtain ⟨b,c2,h2⟩:=hcall
 have hcase:b=false∨(b=true∧¬ ((wdE s (skp s i):Nat):Int)<((s.length:Nat):Int))∨(b=true∧((wdE s (skp s i):Nat):Int)<((s.length:Nat):Int)∧¬ (((s.getD ((wdE s (skp s i):Nat):Int).toNat 0).toNat:Nat):Int)=40):=by
  cases b with
  | false=>exact .inl rfl
  | true =>
   by_cases hlt:((wdE s (skp s i):Nat):Int)<((s.length:Nat):Int)
   ·exact .inr (.inr ⟨rfl,hlt,h2 rfl hlt⟩)
   ·exact .inr (.inl ⟨rfl,hlt⟩)
 clear h2
 unfold plZ
 cases hwz:wholeZ (wdAt s (skp s i)) with
 | some v =>
  have c3:=wWhole_some (gl:=gl) h45 (by omega) hwz
  show GivesP _ _ _ _ _ _ _ (.ok _ _)
  unfold GivesP
  generalize wdAt s (skp s i)=w at *
  generalize wdE s (skp s i)=e at *
  generalize skp s i=j at *
  rcases hcase with rfl|⟨rfl,g1⟩|⟨rfl,g1,g2⟩
  all_goals
   refine S1 Tryz.func52 rfl ?_
   ((repeat' ((conv=>whnf);first|exact .intro|refine G ?_|intro _|refine C1 c1 ?_|refine C1 c2 ?_|refine C1 c3 ?_|refine .mk ?_ ?_|refine H ?_|fail));all_goals conv=>whnf)
   ((repeat' first|exact rfl|((conv=>whnf);first|done|exact suL|refine And.intro ?_ ?_|fail));all_goals conv=>whnf)
   all_goals (refine .inr ?_;repeat' first|exact .intro|exact .inr (.inl rfl)|exact lf0|exact ln0|((conv=>whnf);first|exact .intro|exact .inr (.inl rfl)|exact lf0|exact ln0|refine And.intro ?_ ?_|fail))
 | none =>
  have c3:=wWhole_none (gl:=gl) h45 (by omega) hwz
  rw[hlit]
  by_cases hT:wdAt s (skp s i)=tT
  ·rw[if_pos hT]
   show GivesP _ _ _ _ _ _ _ (.ok _ _)
   unfold GivesP
   rw[hT] at c1 c2 c3
   generalize wdE s (skp s i)=e at *
   generalize skp s i=j at *
   rcases hcase with rfl|⟨rfl,g1⟩|⟨rfl,g1,g2⟩
   all_goals
    refine S1 Tryz.func52 rfl ?_
    ((repeat' ((conv=>whnf);first|exact .intro|refine G ?_|intro _|refine C1 c1 ?_|refine C1 c2 ?_|refine C1 c3 ?_|refine .mk ?_ ?_|refine H ?_|fail));all_goals conv=>whnf)
    ((repeat' first|exact rfl|((conv=>whnf);first|done|exact suL|refine And.intro ?_ ?_|fail));all_goals conv=>whnf)
    all_goals (refine .inr ?_;repeat' first|exact .intro|exact .inr (.inl rfl)|exact lf0|exact ln0|((conv=>whnf);first|exact .intro|exact .inr (.inl rfl)|exact lf0|exact ln0|refine And.intro ?_ ?_|fail))
  ·rw[if_neg hT]
   by_cases hF:wdAt s (skp s i)=tF
   ·rw[if_pos hF]
    show GivesP _ _ _ _ _ _ _ (.ok _ _)
    unfold GivesP
    rw[hF] at c1 c2 c3
    generalize wdE s (skp s i)=e at *
    generalize skp s i=j at *
    rcases hcase with rfl|⟨rfl,g1⟩|⟨rfl,g1,g2⟩
    all_goals
     refine S1 Tryz.func52 rfl ?_
     ((repeat' ((conv=>whnf);first|exact .intro|refine G ?_|intro _|refine C1 c1 ?_|refine C1 c2 ?_|refine C1 c3 ?_|refine .mk ?_ ?_|refine H ?_|fail));all_goals conv=>whnf)
     ((repeat' first|exact rfl|((conv=>whnf);first|done|exact suL|refine And.intro ?_ ?_|fail));all_goals conv=>whnf)
     all_goals (refine .inr ?_;repeat' first|exact .intro|exact .inr (.inl rfl)|exact lf0|exact ln0|((conv=>whnf);first|exact .intro|exact .inr (.inl rfl)|exact lf0|exact ln0|refine And.intro ?_ ?_|fail))
   ·rw[if_neg hF]
    simp only
    have hr:=hR gl (wdAt s (skp s i)) hwl
    cases hrf:rf (wdAt s (skp s i)) with
    | some a =>
     have c5:=(hr.1 a hrf).2
     show GivesP _ _ _ _ _ _ _ (.ok _ _)
     unfold GivesP
     generalize wdAt s (skp s i)=w at *
     generalize wdE s (skp s i)=e at *
     generalize skp s i=j at *
     rcases hcase with rfl|⟨rfl,g1⟩|⟨rfl,g1,g2⟩
     all_goals
      refine S1 Tryz.func52 rfl ?_
      ((repeat' ((conv=>whnf);first|exact .intro|refine G ?_|intro _|refine C1 c1 ?_|refine C1 c2 ?_|refine C1 c3 ?_|refine C1 c5 ?_|refine .mk ?_ ?_|refine H ?_|fail));all_goals conv=>whnf)
      ((repeat' first|exact rfl|((conv=>whnf);first|done|exact suL|refine And.intro ?_ ?_|fail));all_goals conv=>whnf)
      all_goals (refine .inr ?_;repeat' first|exact .intro|exact .inr (.inl rfl)|exact lf0|exact ln0|((conv=>whnf);first|exact .intro|exact .inr (.inl rfl)|exact lf0|exact ln0|refine And.intro ?_ ?_|fail))
    | none =>
     have c5:=(hr.2 hrf).2
     refine ⟨n0,wdE s (skp s i),d,hle,by decide,?_⟩
     generalize wdAt s (skp s i)=w at *
     generalize wdE s (skp s i)=e at *
     generalize skp s i=j at *
     rcases hcase with rfl|⟨rfl,g1⟩|⟨rfl,g1,g2⟩
     all_goals
      refine S1 Tryz.func52 rfl ?_
      ((repeat' ((conv=>whnf);first|exact .intro|refine G ?_|intro _|refine C5 c4 [0] ?_|refine C1 c1 ?_|refine C1 c2 ?_|refine C1 c3 ?_|refine C1 c5 ?_|refine .mk ?_ ?_|refine H ?_|fail));all_goals conv=>whnf)
      ((repeat' first|exact rfl|((conv=>whnf);first|done|exact suL|refine And.intro ?_ ?_|fail));all_goals conv=>whnf)
      all_goals (refine .inr ?_;repeat' first|exact .intro|exact .inr (.inl rfl)|exact lf0|exact ln0|((conv=>whnf);first|exact .intro|exact .inr (.inl rfl)|exact lf0|exact ln0|refine And.intro ?_ ?_|fail))
end
section
variable {gl:List (Nat×List D)}
theorem tok_34 {s:List UInt8} {i:Nat} (h:s[skp s i]?=some 34):tokZ s i=(match txtF (s.drop (skp s i+1)) with
 | some (b,l)=>⟨2,skp s i,skp s i+1+l,b⟩
 | none=>⟨9,skp s i,skp s i,[]⟩):=by
 unfold tokZ
 rw[drop_get h,tokU,if_neg (by decide),if_pos rfl]
 cases txtF (s.drop (skp s i+1)) <;> rfl
theorem tok_35 {s:List UInt8} {i:Nat} (h:s[skp s i]?=some 35):tokZ s i=(match bdI (s.drop (skp s i)) 6 with
 | some m=>⟨3,skp s i,skp s i+(tx.getD m []).length,tx.getD m []⟩
 | none=>⟨9,skp s i,skp s i,[]⟩):=by
 unfold tokZ
 rw[drop_get h,tokU,if_neg (by decide),if_neg (by decide),if_pos rfl]
 cases bdI (35::s.drop (skp s i+1)) 6 <;> rfl
theorem one_d {rf:List UInt8→Option Rf} (hR:RefsOk rf) {s:List UInt8} {i d:Nat} (hs:s.length≤200) (hd:d≤30) (hi:i≤s.length) {tw ng:Nat→Rs Nd} (hf:Fwd s tw)
 (hn:d<30→∀ j,j≤s.length→GivesP gl 52 [.c (.ptr 0 0)] s j (d+1) (d+1) (ng j))
 (ht:d<30→∀ j,j≤s.length→GivesP gl 34 [.c (.ptr 0 0),.c (.d (iD 1))] s j (d+1) (d+1) (tw j))
 (hc:d<30→∀ w k,k<s.length→GivesP gl 78 [.c (.ptr 0 0),.c (.d (.str w))] s k (d+1) d (callF (parZ rf) s tw w k)) :
 GivesP gl 52 [.c (.ptr 0 0)] s i d d (negF (parZ rf) s (decide (d=30)) ng tw i):=by
 unfold negF
 by_cases h:s[skp s i]?=some 45
 ·rw[if_pos h]
  have hl:=lt_of_get h
  by_cases hd3:d=30
  ·subst hd3
   rw[if_pos (by decide)]
   exact one_minus_full hi hs h
  ·rw[if_neg (by simp[hd3])]
   have h1:=hn (by omega) (skp s i+1) hl
   cases hx:ng (skp s i+1) with
   | no q e=>rw[hx] at h1;exact one_minus_no hi hs (by omega) h h1
   | ok n k=>rw[hx] at h1;exact one_minus hi hs (by omega) h h1
 ·rw[if_neg h]
  unfold primF
  cases hg:s[skp s i]? with
  | none =>
   have h0:(tokZ s i).k=0:=(tok_end hi).2 (by have:=List.getElem?_eq_none_iff.1 hg;have:=skp_le hi;omega)
   exact one_none hi hs (by omega) (by omega) (by omega) (fun h4=>by omega)
  | some c =>
   have hl:=lt_of_get hg
   simp only
   by_cases h40:c=40
   ·subst h40
    rw[if_pos rfl]
    by_cases hd3:d=30
    ·subst hd3
     rw[if_pos (by decide)]
     exact one_par_full hi hs hg
    ·rw[if_neg (by simp[hd3])]
     have hd':d<30:=by omega
     have h1:=ht hd' (skp s i+1) hl
     unfold parF
     cases hx:tw (skp s i+1) with
     | no q e=>rw[hx] at h1;exact one_par_no hi hs hd' hg h1
     | ok n j =>
      rw[hx] at h1
      have hj:=(hf _ _ _ hl hx).2
      simp only[Rs.bind_ok]
      by_cases hq:s[skp s j]?=some 41
      ·rw[if_pos hq];exact one_par hi hs hd' hg hj h1 hq
      ·rw[if_neg hq];exact one_par_n hi hs hd' hg hj h1 hq
   ·rw[if_neg h40]
    by_cases h34:c=34
    ·subst h34
     rw[if_pos rfl]
     have ht:=tok_34 hg
     cases hx:txtF (s.drop (skp s i+1)) with
     | none =>
      rw[hx] at ht
      have h0:(tokZ s i).k=9:=by rw[ht]
      exact one_none hi hs (by omega) (by omega) (by omega) (fun h4=>by omega)
     | some q =>
      obtain ⟨b,l⟩:=q
      rw[hx] at ht
      exact one_text hi hs ht
    ·rw[if_neg h34]
     by_cases h35:c=35
     ·subst h35
      rw[if_pos rfl]
      have ht:=tok_35 hg
      have hh:(s.drop (skp s i)).head?=some 35:=by rw[List.head?_drop];exact hg
      show GivesP _ _ _ _ _ _ _ (match litF (s.drop (skp s i)) with|some (n,l)=>_|none=>_)
      rw[lit_bd hh]
      cases hx:bdI (s.drop (skp s i)) 6 with
      | none =>
       rw[hx] at ht
       have h0:(tokZ s i).k=9:=by rw[ht]
       exact one_none hi hs (by omega) (by omega) (by omega) (fun h4=>by omega)
      | some m =>
       rw[hx] at ht
       obtain ⟨_,h1,h2⟩:=bdI_some hx (Nat.le_refl _)
       exact one_bad hi hs ht (lit_tx h1 h2)
     ·rw[if_neg h35]
      by_cases hw:wordlyP c
      ·rw[if_pos hw]
       unfold wordF
       by_cases hq:s[wdE s (skp s i)]?=some 40∧clZ (wdAt s (skp s i))=true
       ·rw[if_pos (show _∧(parZ rf).cl (wdAt s (skp s i))=true from hq)]
        by_cases hd3:d=30
        ·subst hd3
         rw[if_pos (by decide)]
         exact one_callf hi hs hg hw hq.1 hq.2
        ·rw[if_neg (by simp[hd3])]
         exact one_call hi hs (by omega) hg hw hq.1 hq.2 (hc (by omega) _ _ (lt_of_get hq.1))
       ·rw[if_neg (show ¬ (_∧(parZ rf).cl (wdAt s (skp s i))=true) from hq)]
        exact one_word hR hi hs hg hw hq
      ·rw[if_neg hw]
       have hk:(tokZ s i).k=4:=by
        unfold tokZ
        rw[drop_get hg,tokU,if_neg hw,if_neg h34,if_neg h35]
        split <;> rfl
       refine one_none hi hs (by omega) (by omega) (by omega) (fun _=>⟨fun e=>?_,fun e=>?_⟩)
       ·exact h (tok_mark_of hk e)
       ·have:=tok_mark_of hk e
        rw[hg] at this
        exact h40 (Option.some.inj this)
end
section
variable {gl:List (Nat×List D)}
theorem within_2f (s w:List UInt8) (i p g:Nat):Go.EYtfcmhmglpcimiaaGreatDoor.Fn Tryz.prog gl 87 [.c (.ptr 0 0),.c (.d (iD (p:Int))),.c (.fn g [(1,0),(2,0)])] [(0,rdB s i 30),(1,rpB),(2,txB w)] 3 (.panic (.d (fltD p 4))) [] 3 []:=by
 have c1:=fail_d (gl:=gl) s i 30 p 4
 refine S1 Tryz.func87 rfl ?_
 ((repeat' ((conv=>whnf);first|exact .intro|refine G ?_|intro _|refine C5 c1 [0] ?_|refine .mk ?_ ?_|refine H ?_|fail));all_goals conv=>whnf)
 ((repeat' first|exact rfl|((conv=>whnf);first|done|exact suL|refine And.intro ?_ ?_|fail));all_goals conv=>whnf)
theorem prim_callf {s:List UInt8} {i:Nat} {c:UInt8} (hs:s.length≤200) (h:s[i]?=some c) (hw:wordlyP c) (hq:s[wdE s i]?=some 40) (hc:clZ (wdAt s i)=true) :
 Gives1 gl 89 [.c (.ptr 0 0)] s i 30 (.no i 4):=by
 have hi:=lt_of_get h
 have hwl:=wd_len (i:=i) hs
 have hl2:=lt_of_get hq
 rw[← getD_of h] at hw
 have c0:=wordly_y (gl:=gl) ((wdly_iff _).2 hw)
 have h2:¬ ((i:Nat):Int)=((s.length:Nat):Int):=by omega
 have h3:¬ (((s.getD ((i:Nat):Int).toNat 0).toNat:Nat):Int)=40:=nw hi hw 40 (by decide)
 have h4:¬ (((s.getD ((i:Nat):Int).toNat 0).toNat:Nat):Int)=34:=nw hi hw 34 (by decide)
 have h5:¬ (((s.getD ((i:Nat):Int).toNat 0).toNat:Nat):Int)=35:=nw hi hw 35 (by decide)
 have c1:=word_d (gl:=gl) s i 30 (by omega) hs
 have c3:=called_y (gl:=gl) hwl hc
 have h6:((wdE s i:Nat):Int)<((s.length:Nat):Int):=by omega
 have h7:(((s.getD ((wdE s i:Nat):Int).toNat 0).toNat:Nat):Int)=40:=(byt 40 hl2).2 hq
 have c4:=within_2f (gl:=gl) s (wdAt s i) (wdE s i) i 123
 generalize wdE s i=j at *
 generalize wdAt s i=w at *
 unfold Gives1
 refine S1 Tryz.func89 rfl ?_
 ((repeat' ((conv=>whnf);first|exact .intro|refine G ?_|intro _|refine C5 c1 [0] ?_|refine C5 c4 [0,1,3] ?_|refine C1 c0 ?_|refine C1 c3 ?_|refine .mk ?_ ?_|refine H ?_|fail));all_goals conv=>whnf)
 ((repeat' first|exact rfl|((conv=>whnf);first|done|exact suL|refine And.intro ?_ ?_|fail));all_goals conv=>whnf)
theorem prim_call {s:List UInt8} {i d:Nat} {c:UInt8} (hs:s.length≤200) (hd:d<30) (h:s[i]?=some c) (hw:wordlyP c) (hq:s[wdE s i]?=some 40) (hc:clZ (wdAt s i)=true)
 {r:Rs Nd} (hp:Gives1 gl 124 [.c (.ptr 0 0),.c (.d (.str (wdAt s i)))] s (wdE s i) (d+1) r) :
 Gives1 gl 89 [.c (.ptr 0 0)] s i d r:=by
 have hi:=lt_of_get h
 have hwl:=wd_len (i:=i) hs
 have hl2:=lt_of_get hq
 rw[← getD_of h] at hw
 have c0:=wordly_y (gl:=gl) ((wdly_iff _).2 hw)
 have h2:¬ ((i:Nat):Int)=((s.length:Nat):Int):=by omega
 have h3:¬ (((s.getD ((i:Nat):Int).toNat 0).toNat:Nat):Int)=40:=nw hi hw 40 (by decide)
 have h4:¬ (((s.getD ((i:Nat):Int).toNat 0).toNat:Nat):Int)=34:=nw hi hw 34 (by decide)
 have h5:¬ (((s.getD ((i:Nat):Int).toNat 0).toNat:Nat):Int)=35:=nw hi hw 35 (by decide)
 have c1:=word_d (gl:=gl) s i d (by omega) hs
 have c3:=called_y (gl:=gl) hwl hc
 have h6:((wdE s i:Nat):Int)<((s.length:Nat):Int):=by omega
 have h7:(((s.getD ((wdE s i:Nat):Int).toNat 0).toNat:Nat):Int)=40:=(byt 40 hl2).2 hq
 generalize wdE s i=j at *
 generalize wdAt s i=w at *
 cases r with
 | ok n l =>
  have c4:=within_2 (gl:=gl) (p:=i) hd (prim2_ok hp)
  obtain ⟨k,m,t,a,b,ks⟩:=n
  unfold Gives1
  refine S1 Tryz.func89 rfl ?_
  ((repeat' ((conv=>whnf);first|exact .intro|refine G ?_|intro _|refine C5 c1 [0] ?_|refine C5 c4 [0,1,3] ?_|refine C1 c0 ?_|refine C1 c3 ?_|refine .mk ?_ ?_|refine H ?_|fail));all_goals conv=>whnf)
  ((repeat' first|exact rfl|((conv=>whnf);first|done|exact suL|refine And.intro ?_ ?_|fail));all_goals conv=>whnf)
 | no q e =>
  have c4:=within_2n (gl:=gl) (p:=i) hd (prim2_no hp)
  unfold Gives1
  refine S1 Tryz.func89 rfl ?_
  ((repeat' ((conv=>whnf);first|exact .intro|refine G ?_|intro _|refine C5 c1 [0] ?_|refine C5 c4 [0,1,3] ?_|refine C1 c0 ?_|refine C1 c3 ?_|refine .mk ?_ ?_|refine H ?_|fail));all_goals conv=>whnf)
  ((repeat' first|exact rfl|((conv=>whnf);first|done|exact suL|refine And.intro ?_ ?_|fail));all_goals conv=>whnf)
theorem prim_d (te:TypeId) (pe:Value) (hV:Has gl (glV te pe)) {rf:List UInt8→Option Rf} (hR:RefsOk rf) {s:List UInt8} {i d:Nat} (hs:s.length≤200) (hd:d≤30) (hi:i≤s.length) {tw:Nat→Rs Nd} (hf:Fwd s tw)
 (ht:d<30→∀ j,j≤s.length→Gives1 gl 46 [.c (.ptr 0 0),.c (.d (iD 0))] s j (d+1) (tw j))
 (hc:d<30→∀ w k,k<s.length→Gives1 gl 124 [.c (.ptr 0 0),.c (.d (.str w))] s k (d+1) (callF (parZ rf) s tw w k)) :
 Gives1 gl 89 [.c (.ptr 0 0)] s i d (primF (parZ rf) s (decide (d=30)) tw i):=by
 unfold primF
 cases h:s[i]? with
 | none =>
  have:i=s.length:=by have:=List.getElem?_eq_none_iff.1 h;omega
  subst this
  exact prim_end hs
 | some c =>
  have hl:=lt_of_get h
  simp only
  by_cases h40:c=40
  ·subst h40
   rw[if_pos rfl]
   by_cases hd3:d=30
   ·subst hd3
    rw[if_pos (by decide)]
    exact prim_full hs h
   ·rw[if_neg (by simp[hd3])]
    have hd':d<30:=by omega
    have h1:=ht hd' (i+1) hl
    unfold parF
    cases hx:tw (i+1) with
    | no q e=>rw[hx] at h1;exact prim_pare hs hd' h h1
    | ok n j =>
     rw[hx] at h1
     have hj:=(hf _ _ _ hl hx).2
     simp only[Rs.bind_ok]
     by_cases hq:s[skp s j]?=some 41
     ·rw[if_pos hq];exact prim_par hs hd' h hj h1 hq
     ·rw[if_neg hq];exact prim_parn hs hd' h hj h1 hq
  ·rw[if_neg h40]
   by_cases h34:c=34
   ·subst h34
    rw[if_pos rfl]
    cases hx:txtF (s.drop (i+1)) with
    | none=>exact prim_textn hs h hx
    | some q=>obtain ⟨b,l⟩:=q;exact prim_text hs h hx
   ·rw[if_neg h34]
    by_cases h35:c=35
    ·subst h35
     rw[if_pos rfl]
     show Gives1 _ _ _ _ _ _ (match litF (s.drop i) with|some (n,l)=>_|none=>_)
     cases hx:litF (s.drop i) with
     | none=>exact prim_litn te pe hV hs h hx
     | some q=>obtain ⟨m,l⟩:=q;exact prim_lit te pe hV hs h hx
    ·rw[if_neg h35]
     by_cases hw:wordlyP c
     ·rw[if_pos hw]
      unfold wordF
      by_cases hq:s[wdE s i]?=some 40∧clZ (wdAt s i)=true
      ·rw[if_pos (show _∧(parZ rf).cl (wdAt s i)=true from hq)]
       by_cases hd3:d=30
       ·subst hd3
        rw[if_pos (by decide)]
        exact prim_callf hs h hw hq.1 hq.2
       ·rw[if_neg (by simp[hd3])]
        exact prim_call hs (by omega) h hw hq.1 hq.2 (hc (by omega) _ _ (lt_of_get hq.1))
      ·rw[if_neg (show ¬ (_∧(parZ rf).cl (wdAt s i)=true) from hq)]
       show Gives1 _ _ _ _ _ _ (match plZ rf (wdAt s i) with|some n=>_|none=>_)
       cases hx:plZ rf (wdAt s i) with
       | none=>exact prim_plainn te pe hV hR hs h hw hq hx
       | some n=>exact prim_plain te pe hV hR hs h hw hq hx
     ·rw[if_neg hw]
      exact prim_other hs h h40 h34 h35 hw
theorem neg_d (te:TypeId) (pe:Value) (hV:Has gl (glV te pe)) {rf:List UInt8→Option Rf} (hR:RefsOk rf) {s:List UInt8} {i d:Nat} (hs:s.length≤200) (hd:d≤30) (hi:i≤s.length) {tw ng:Nat→Rs Nd} (hf:Fwd s tw)
 (hn:d<30→∀ j,j≤s.length→Gives1 gl 71 [.c (.ptr 0 0)] s j (d+1) (ng j))
 (ht:d<30→∀ j,j≤s.length→Gives1 gl 46 [.c (.ptr 0 0),.c (.d (iD 0))] s j (d+1) (tw j))
 (hc:d<30→∀ w k,k<s.length→Gives1 gl 124 [.c (.ptr 0 0),.c (.d (.str w))] s k (d+1) (callF (parZ rf) s tw w k)) :
 Gives1 gl 71 [.c (.ptr 0 0)] s i d (negF (parZ rf) s (decide (d=30)) ng tw i):=by
 unfold negF
 by_cases h:s[skp s i]?=some 45
 ·rw[if_pos h]
  have hl:=lt_of_get h
  by_cases hd3:d=30
  ·subst hd3
   rw[if_pos (by decide)]
   exact neg_full hi hs h
  ·rw[if_neg (by simp[hd3])]
   have h1:=hn (by omega) (skp s i+1) hl
   cases hx:ng (skp s i+1) with
   | no q e=>rw[hx] at h1;exact neg_ine hi hs (by omega) h h1
   | ok n k=>rw[hx] at h1;exact neg_in hi hs (by omega) h h1
 ·rw[if_neg h]
  exact neg_prim hi hs h (prim_d te pe hV hR hs hd (skp_le hi) hf ht hc)
end
section
set_option maxHeartbeats 2000000
variable {gl:List (Nat×List D)}
theorem arg_two {rf:List UInt8→Option Rf} (hR:RefsOk rf) {s:List UInt8} {i d:Nat} (hi:i≤s.length) (hs:s.length≤200) (h:rf (wdAt s (skp s i))=none∨s[wdE s (skp s i)]?≠some 58) {r:Rs Nd}
 (hp:Gives1 gl 46 [.c (.ptr 0 0),.c (.d (iD 0))] s (skp s i) d r):Gives1 gl 144 [.c (.ptr 0 0)] s i d r:=by
 have c0:=blanks_d (gl:=gl) s i d hi hs
 have hj:=skp_le hi
 have c1:=word_d (gl:=gl) s (skp s i) d hj hs
 have hwl:=wd_len (i:=skp s i) hs
 have he:=wdE_le hj
 have hr:=hR gl (wdAt s (skp s i)) hwl
 generalize wdE s (skp s i)=e at *
 generalize wdAt s (skp s i)=w at *
 generalize skp s i=j at *
 cases hrf:rf w with
 | none =>
  have c2:=(hr.2 hrf).1
  cases r with
  | ok n k =>
   obtain ⟨k0,m,t,a,b,ks⟩:=n
   unfold Gives1 at hp ⊢
   refine S1 Tryz.func144 rfl ?_
   ((repeat' ((conv=>whnf);first|exact .intro|refine G ?_|intro _|refine C5 c0 [0] ?_|refine C5 c1 [0] ?_|refine C5 hp [0] ?_|refine C1 c2 ?_|refine .mk ?_ ?_|refine H ?_|fail));all_goals conv=>whnf)
   ((repeat' first|exact rfl|((conv=>whnf);first|done|exact suL|refine And.intro ?_ ?_|fail));all_goals conv=>whnf)
  | no q f =>
   unfold Gives1 at hp ⊢
   refine S1 Tryz.func144 rfl ?_
   ((repeat' ((conv=>whnf);first|exact .intro|refine G ?_|intro _|refine C5 c0 [0] ?_|refine C5 c1 [0] ?_|refine C5 hp [0] ?_|refine C1 c2 ?_|refine .mk ?_ ?_|refine H ?_|fail));all_goals conv=>whnf)
   ((repeat' first|exact rfl|((conv=>whnf);first|done|exact suL|refine And.intro ?_ ?_|fail));all_goals conv=>whnf)
 | some a =>
  have c2:=(hr.1 a hrf).1
  have h58:s[e]?≠some 58:=by
   rcases h with h|h
   ·rw[hrf] at h;cases h
   ·exact h
  rcases Nat.lt_or_ge e s.length with hl|hl
  ·have h1:¬ ((e:Nat):Int)=((s.length:Nat):Int):=by omega
   have h2:¬ (((s.getD ((e:Nat):Int).toNat 0).toNat:Nat):Int)=58:=fun hh=>h58 ((byt 58 hl).1 hh)
   cases r with
   | ok n k =>
    obtain ⟨k0,m,t,a,b,ks⟩:=n
    unfold Gives1 at hp ⊢
    refine S1 Tryz.func144 rfl ?_
    ((repeat' ((conv=>whnf);first|exact .intro|refine G ?_|intro _|refine C5 c0 [0] ?_|refine C5 c1 [0] ?_|refine C5 hp [0] ?_|refine C1 c2 ?_|refine .mk ?_ ?_|refine H ?_|fail));all_goals conv=>whnf)
    ((repeat' first|exact rfl|((conv=>whnf);first|done|exact suL|refine And.intro ?_ ?_|fail));all_goals conv=>whnf)
   | no q f =>
    unfold Gives1 at hp ⊢
    refine S1 Tryz.func144 rfl ?_
    ((repeat' ((conv=>whnf);first|exact .intro|refine G ?_|intro _|refine C5 c0 [0] ?_|refine C5 c1 [0] ?_|refine C5 hp [0] ?_|refine C1 c2 ?_|refine .mk ?_ ?_|refine H ?_|fail));all_goals conv=>whnf)
    ((repeat' first|exact rfl|((conv=>whnf);first|done|exact suL|refine And.intro ?_ ?_|fail));all_goals conv=>whnf)
  ·have h1:((e:Nat):Int)=((s.length:Nat):Int):=by omega
   cases r with
   | ok n k =>
    obtain ⟨k0,m,t,a,b,ks⟩:=n
    unfold Gives1 at hp ⊢
    refine S1 Tryz.func144 rfl ?_
    ((repeat' ((conv=>whnf);first|exact .intro|refine G ?_|intro _|refine C5 c0 [0] ?_|refine C5 c1 [0] ?_|refine C5 hp [0] ?_|refine C1 c2 ?_|refine .mk ?_ ?_|refine H ?_|fail));all_goals conv=>whnf)
    ((repeat' first|exact rfl|((conv=>whnf);first|done|exact suL|refine And.intro ?_ ?_|fail));all_goals conv=>whnf)
   | no q f =>
    unfold Gives1 at hp ⊢
    refine S1 Tryz.func144 rfl ?_
    ((repeat' ((conv=>whnf);first|exact .intro|refine G ?_|intro _|refine C5 c0 [0] ?_|refine C5 c1 [0] ?_|refine C5 hp [0] ?_|refine C1 c2 ?_|refine .mk ?_ ?_|refine H ?_|fail));all_goals conv=>whnf)
    ((repeat' first|exact rfl|((conv=>whnf);first|done|exact suL|refine And.intro ?_ ?_|fail));all_goals conv=>whnf)
theorem arg_box {rf:List UInt8→Option Rf} (hR:RefsOk rf) {s:List UInt8} {i d:Nat} (hi:i≤s.length) (hs:s.length≤200) {a:Rf} (ha:rf (wdAt s (skp s i))=some a) (h:s[wdE s (skp s i)]?=some 58) :
 Gives1 gl 144 [.c (.ptr 0 0)] s i d (match rf (wdAt s (wdE s (skp s i)+1)) with
 | some b=>.ok (.mk 6 0 [] a b []) (wdE s (wdE s (skp s i)+1))
 | none=>.no (wdE s (skp s i)+1) 2):=by
 have c0:=blanks_d (gl:=gl) s i d hi hs
 have hj:=skp_le hi
 have c1:=word_d (gl:=gl) s (skp s i) d hj hs
 have hwl:=wd_len (i:=skp s i) hs
 have c2:=((hR gl (wdAt s (skp s i)) hwl).1 a ha).1
 clear ha
 generalize wdE s (skp s i)=e at *
 generalize wdAt s (skp s i)=w at *
 generalize skp s i=j at *
 have hl:=lt_of_get h
 have c3:=word_d (gl:=gl) s (e+1) d hl hs
 have hwl2:=wd_len (i:=e+1) hs
 have hr:=hR gl (wdAt s (e+1)) hwl2
 have he2:=wdE_le (show e+1≤s.length from hl)
 have h1:¬ ((e:Nat):Int)=((s.length:Nat):Int):=by omega
 have h2:(((s.getD ((e:Nat):Int).toNat 0).toNat:Nat):Int)=58:=(byt 58 hl).2 h
 have h3:¬ ¬ (((s.getD ((e:Nat):Int).toNat 0).toNat:Nat):Int)=58:=fun hh=>hh h2
 have e1:IntKind.i64.wrap (((e:Nat):Int)+1)=((e+1:Nat):Int):=by rw[wrapI (by omega)];rfl
 have c6:=fail_d (gl:=gl) s (wdE s (e+1)) d (e+1) 2
 generalize wdE s (e+1)=e2 at *
 generalize wdAt s (e+1)=w2 at *
 cases hrf:rf w2 with
 | some b =>
  have c4:=(hr.1 b hrf).1
  simp only
  unfold Gives1
  refine S1 Tryz.func144 rfl ?_
  ((repeat' ((conv=>whnf);first|exact .intro|refine G ?_|intro _|refine C5 c0 [0] ?_|refine C5 c1 [0] ?_|refine C5 c3 [0] ?_|refine C1 c2 ?_|refine C1 c4 ?_|(rw[e1])|refine .mk ?_ ?_|refine H ?_|fail));all_goals conv=>whnf)
  ((repeat' first|exact rfl|((conv=>whnf);first|done|exact suL|refine And.intro ?_ ?_|fail));all_goals conv=>whnf)
  all_goals (refine .inr ?_;repeat' first|exact .intro|exact .inr (.inl rfl)|exact lf0|exact ln0|((conv=>whnf);first|exact .intro|exact .inr (.inl rfl)|exact lf0|exact ln0|refine And.intro ?_ ?_|fail))
 | none =>
  have c4:=(hr.2 hrf).1
  simp only
  unfold Gives1
  refine S1 Tryz.func144 rfl ?_
  ((repeat' ((conv=>whnf);first|exact .intro|refine G ?_|intro _|refine C5 c0 [0] ?_|refine C5 c1 [0] ?_|refine C5 c3 [0] ?_|refine C5 c6 [0] ?_|refine C1 c2 ?_|refine C1 c4 ?_|(rw[e1])|refine .mk ?_ ?_|refine H ?_|fail));all_goals conv=>whnf)
  ((repeat' first|exact rfl|((conv=>whnf);first|done|exact suL|refine And.intro ?_ ?_|fail));all_goals conv=>whnf)
theorem arg_d {rf:List UInt8→Option Rf} (hR:RefsOk rf) {s:List UInt8} {i d:Nat} (hi:i≤s.length) (hs:s.length≤200) {tw:Nat→Rs Nd}
 (ht:∀ j,j≤s.length→Gives1 gl 46 [.c (.ptr 0 0),.c (.d (iD 0))] s j d (tw j)) :
 Gives1 gl 144 [.c (.ptr 0 0)] s i d (argF (parZ rf) s tw i):=by
 unfold argF
 show Gives1 _ _ _ _ _ _ (match rf (wdAt s (skp s i)) with|none=>_|some a=>_)
 cases hrf:rf (wdAt s (skp s i)) with
 | none=>exact arg_two hR hi hs (.inl hrf) (ht _ (skp_le hi))
 | some a =>
  simp only
  by_cases h:s[wdE s (skp s i)]?=some 58
  ·rw[if_pos h]
   exact arg_box hR hi hs hrf h
  ·rw[if_neg h]
   exact arg_two hR hi hs (.inr h) (ht _ (skp_le hi))
end
end Go.Proofs.YtfcmhmglpcimiaaGreatDoor
