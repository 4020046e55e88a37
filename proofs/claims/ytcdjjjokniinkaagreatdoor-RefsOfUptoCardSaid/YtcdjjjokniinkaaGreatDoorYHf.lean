/- Proved: a part of what the law is proved with (the reckoner, contracts of functions, plain laws). Conditions: as each says. -/
import Derived.Test.YtcdjjjokniinkaaGreatDoorYHd
section
namespace Go.Proofs.YtcdjjjokniinkaaGreatDoor
open Go Go.EYtcdjjjokniinkaaGreatDoor
set_option maxRecDepth 100000
set_option maxHeartbeats 4000000
variable {gl:List (Nat×List D)}
theorem one_callf {s:List UInt8} {i:Nat} {c:UInt8} (hi:i≤s.length) (hs:s.length≤200) (h:s[skp s i]?=some c) (hw:wordlyP c) (hq:s[wdE s (skp s i)]?=some 40) (hc:clZ (wdAt s (skp s i))=true) :
 GivesP gl 76 [.c (.ptr 0 0)] s i 30 30 (.no (skp s i) 4):=by
 have c1:=tok_d (gl:=gl) hi hs
 rw[tok_word h hw] at c1
 change FnP Tryz.prog gl 53 _ (.agg [iD 1,iD ((skp s i:Nat):Int),iD ((wdE s (skp s i):Nat):Int),.str (wdAt s (skp s i))]) at c1
 have c3:=rcalled_y (gl:=gl) (wd_len hs) hc
 have hl2:=lt_of_get hq
 have h6:((wdE s (skp s i):Nat):Int)<((s.length:Nat):Int):=by omega
 have h7:(((s.getD ((wdE s (skp s i):Nat):Int).toNat 0).toNat:Nat):Int)=40:=(byt 40 hl2).2 hq
 have c2:=deeper_n (gl:=gl) s (wdE s (skp s i)) (skp s i)
 generalize wdAt s (skp s i)=w at *
 generalize wdE s (skp s i)=e at *
 generalize skp s i=j at *
 refine ⟨n0,e,30,by omega,by decide,?_⟩
 refine fn_of_vc (nv:=9999) (cu:=[]) fits mixed Tryz.func76 rfl hoB rfl rfl rfl rfl ?_
 ((repeat' ((conv=>whnf);first|exact .intro|refine .ya ?_|refine .na ?_|refine .ys ?_|refine .ns ?_|refine .neg (fun _=>?_) (fun _=>?_)|refine .mk (fun _=>?_) (fun _=>?_)|refine .inr (X5 (c2.r [0] _) ?_)|refine .inl (.inr (X5 (c2.r [0] _) ?_))|refine .inl (X5 (c2.r [0] _) ?_)|refine .inl (.inl (X1 (by first|exact c1|exact c3) ?_))|refine .inl (X1 (by first|exact c1|exact c3) ?_)|refine X1 (by first|exact c1|exact c3) ?_|refine .mk ?_ ?_|refine AK ?_|refine AT ?_|fail));all_goals conv=>whnf)
 ((repeat' first|exact rfl|((conv=>whnf);first|done|exact suL|refine And.intro ?_ ?_|fail));all_goals conv=>whnf)
 all_goals (refine .inr ?_;repeat' first|exact .intro|exact .inr (.inl rfl)|exact lf0|exact ln0|((conv=>whnf);first|exact .intro|exact .inr (.inl rfl)|exact lf0|exact ln0|refine And.intro ?_ ?_|fail))
theorem one_call {s:List UInt8} {i d:Nat} {c:UInt8} (hi:i≤s.length) (hs:s.length≤200) (hd:d<30) (h:s[skp s i]?=some c) (hw:wordlyP c) (hq:s[wdE s (skp s i)]?=some 40) (hc:clZ (wdAt s (skp s i))=true)
 {r:Rs Nd} (hp:GivesP gl 107 [.c (.ptr 0 0),.c (.d (.str (wdAt s (skp s i))))] s (wdE s (skp s i)) (d+1) d r) :
 GivesP gl 76 [.c (.ptr 0 0)] s i d d r:=by
 have c1:=tok_d (gl:=gl) hi hs
 rw[tok_word h hw] at c1
 change FnP Tryz.prog gl 53 _ (.agg [iD 1,iD ((skp s i:Nat):Int),iD ((wdE s (skp s i):Nat):Int),.str (wdAt s (skp s i))]) at c1
 have c3:=rcalled_y (gl:=gl) (wd_len hs) hc
 have hl2:=lt_of_get hq
 have h6:((wdE s (skp s i):Nat):Int)<((s.length:Nat):Int):=by omega
 have h7:(((s.getD ((wdE s (skp s i):Nat):Int).toNat 0).toNat:Nat):Int)=40:=(byt 40 hl2).2 hq
 have c2:=deeper_y (gl:=gl) s (wdE s (skp s i)) (skp s i) d hd
 generalize wdAt s (skp s i)=w at *
 generalize wdE s (skp s i)=e at *
 generalize skp s i=j at *
 cases r with
 | ok n k =>
  unfold GivesP at hp ⊢
  obtain ⟨k0,m,t,a,b,ks⟩:=n
  refine fn_of_vc (nv:=9999) (cu:=[]) fits mixed Tryz.func76 rfl hoB rfl rfl rfl rfl ?_
  ((repeat' ((conv=>whnf);first|exact .intro|refine .ya ?_|refine .na ?_|refine .ys ?_|refine .ns ?_|refine .neg (fun _=>?_) (fun _=>?_)|refine .mk (fun _=>?_) (fun _=>?_)|refine .inr (X5 (c2.r [0] _) ?_)|refine .inl (.inr (X5 (c2.r [0] _) ?_))|refine .inl (X5 (c2.r [0] _) ?_)|refine .inr (X5 (hp.r [0] _) ?_)|refine .inl (.inr (X5 (hp.r [0] _) ?_))|refine .inl (X5 (hp.r [0] _) ?_)|refine .inl (.inl (X1 (by first|exact c1|exact c3) ?_))|refine .inl (X1 (by first|exact c1|exact c3) ?_)|refine X1 (by first|exact c1|exact c3) ?_|refine .mk ?_ ?_|refine AK ?_|refine AT ?_|fail));all_goals conv=>whnf)
  ((repeat' first|exact rfl|((conv=>whnf);first|done|exact suL|refine And.intro ?_ ?_|fail));all_goals conv=>whnf)
 | no q e1 =>
  obtain ⟨m,k,x,hk,he,hp⟩:=hp
  refine ⟨m,k,x,hk,he,?_⟩
  obtain ⟨k0,m,t,a,b,ks⟩:=m
  refine fn_of_vc (nv:=9999) (cu:=[]) fits mixed Tryz.func76 rfl hoB rfl rfl rfl rfl ?_
  ((repeat' ((conv=>whnf);first|exact .intro|refine .ya ?_|refine .na ?_|refine .ys ?_|refine .ns ?_|refine .neg (fun _=>?_) (fun _=>?_)|refine .mk (fun _=>?_) (fun _=>?_)|refine .inr (X5 (c2.r [0] _) ?_)|refine .inl (.inr (X5 (c2.r [0] _) ?_))|refine .inl (X5 (c2.r [0] _) ?_)|refine .inr (X5 (hp.r [0] _) ?_)|refine .inl (.inr (X5 (hp.r [0] _) ?_))|refine .inl (X5 (hp.r [0] _) ?_)|refine .inl (.inl (X1 (by first|exact c1|exact c3) ?_))|refine .inl (X1 (by first|exact c1|exact c3) ?_)|refine X1 (by first|exact c1|exact c3) ?_|refine .mk ?_ ?_|refine AK ?_|refine AT ?_|fail));all_goals conv=>whnf)
  ((repeat' first|exact rfl|((conv=>whnf);first|done|exact suL|refine And.intro ?_ ?_|fail));all_goals conv=>whnf)
theorem one_word {rf:List UInt8→Option Rf} (hR:RefsOk rf) {s:List UInt8} {i d:Nat} {c:UInt8} (hi:i≤s.length) (hs:s.length≤200) (h:s[skp s i]?=some c) (hw:wordlyP c) (hq:¬ (s[wdE s (skp s i)]?=some 40∧clZ (wdAt s (skp s i))=true)) :
 GivesP gl 76 [.c (.ptr 0 0)] s i d d (match plZ rf (wdAt s (skp s i)) with
  | some n=>.ok n (wdE s (skp s i))
  | none=>.no (skp s i) 2):=by
 have c1:=tok_d (gl:=gl) hi hs
 rw[tok_word h hw] at c1
 change FnP Tryz.prog gl 53 _ (.agg [iD 1,iD ((skp s i:Nat):Int),iD ((wdE s (skp s i):Nat):Int),.str (wdAt s (skp s i))]) at c1
 have hwl:=wd_len (i:=skp s i) hs
 have hh:=wd_head h hw
 have h45:(wdAt s (skp s i)).head?≠some 45:=by rw[hh];intro e;cases e;exact absurd hw (by decide)
 have hle:=wdE_le (skp_le hi)
 have hlit:=litZ_word hh hw
 have c4:=pfail_0 (gl:=gl) s (wdE s (skp s i)) (skp s i) (d:Int) 2
 -- not a call
 have hcall:∃ b:Bool,FnP Tryz.prog gl 42 [.str (wdAt s (skp s i))] (.v (.bool b))∧(b=true→((wdE s (skp s i):Nat):Int)<((s.length:Nat):Int)→¬ (((s.getD ((wdE s (skp s i):Nat):Int).toNat 0).toNat:Nat):Int)=40):=by
  cases hc:clZ (wdAt s (skp s i)) with
  | true=>exact ⟨true,rcalled_y hwl hc,fun _ hlt e=>hq ⟨(byt 40 (by omega)).1 e,hc⟩⟩
  | false=>exact ⟨false,rcalled_n hwl hc,fun hb=>by cases hb⟩
 obtain ⟨b,c2,h2⟩:=hcall
 have hcase:b=false∨(b=true∧¬ ((wdE s (skp s i):Nat):Int)<((s.length:Nat):Int))∨(b=true∧((wdE s (skp s i):Nat):Int)<((s.length:Nat):Int)∧¬ (((s.getD ((wdE s (skp s i):Nat):Int).toNat 0).toNat:Nat):Int)=40):=by
  cases b with
  | false=>exact .inl rfl
  | true =>
   by_cases hlt:((wdE s (skp s i):Nat):Int)<((s.length:Nat):Int)
   ·exact .inr (.inr ⟨rfl,hlt,h2 rfl hlt⟩)
   ·exact .inr (.inl ⟨rfl,hlt⟩)
 clear h2
 unfold plZ
 cases hwz:wholeZ (wdAt s (skp s i)) with
 | some v =>
  have c3:=wWhole_some (gl:=gl) h45 (by omega) hwz
  show GivesP _ _ _ _ _ _ _ (.ok _ _)
  unfold GivesP
  generalize wdAt s (skp s i)=w at *
  generalize wdE s (skp s i)=e at *
  generalize skp s i=j at *
  rcases hcase with rfl|⟨rfl,g1⟩|⟨rfl,g1,g2⟩
  all_goals
   refine fn_of_vc (nv:=9999) (cu:=[]) fits mixed Tryz.func76 rfl hoB rfl rfl rfl rfl ?_
   ((repeat' ((conv=>whnf);first|exact .intro|refine .ya ?_|refine .na ?_|refine .ys ?_|refine .ns ?_|refine .neg (fun _=>?_) (fun _=>?_)|refine .mk (fun _=>?_) (fun _=>?_)|refine .inl (.inl (X1 (by first|exact c1|exact c2|exact c3) ?_))|refine .inl (X1 (by first|exact c1|exact c2|exact c3) ?_)|refine X1 (by first|exact c1|exact c2|exact c3) ?_|refine .mk ?_ ?_|refine AK ?_|refine AT ?_|fail));all_goals conv=>whnf)
   ((repeat' first|exact rfl|((conv=>whnf);first|done|exact suL|refine And.intro ?_ ?_|fail));all_goals conv=>whnf)
   all_goals (refine .inr ?_;repeat' first|exact .intro|exact .inr (.inl rfl)|exact lf0|exact ln0|((conv=>whnf);first|exact .intro|exact .inr (.inl rfl)|exact lf0|exact ln0|refine And.intro ?_ ?_|fail))
 | none =>
  have c3:=wWhole_none (gl:=gl) h45 (by omega) hwz
  rw[hlit]
  by_cases hT:wdAt s (skp s i)=tT
  ·rw[if_pos hT]
   show GivesP _ _ _ _ _ _ _ (.ok _ _)
   unfold GivesP
   rw[hT] at c1 c2 c3
   generalize wdE s (skp s i)=e at *
   generalize skp s i=j at *
   rcases hcase with rfl|⟨rfl,g1⟩|⟨rfl,g1,g2⟩
   all_goals
    refine fn_of_vc (nv:=9999) (cu:=[]) fits mixed Tryz.func76 rfl hoB rfl rfl rfl rfl ?_
    ((repeat' ((conv=>whnf);first|exact .intro|refine .ya ?_|refine .na ?_|refine .ys ?_|refine .ns ?_|refine .neg (fun _=>?_) (fun _=>?_)|refine .mk (fun _=>?_) (fun _=>?_)|refine .inl (.inl (X1 (by first|exact c1|exact c2|exact c3) ?_))|refine .inl (X1 (by first|exact c1|exact c2|exact c3) ?_)|refine X1 (by first|exact c1|exact c2|exact c3) ?_|refine .mk ?_ ?_|refine AK ?_|refine AT ?_|fail));all_goals conv=>whnf)
    ((repeat' first|exact rfl|((conv=>whnf);first|done|exact suL|refine And.intro ?_ ?_|fail));all_goals conv=>whnf)
    all_goals (refine .inr ?_;repeat' first|exact .intro|exact .inr (.inl rfl)|exact lf0|exact ln0|((conv=>whnf);first|exact .intro|exact .inr (.inl rfl)|exact lf0|exact ln0|refine And.intro ?_ ?_|fail))
  ·rw[if_neg hT]
   by_cases hF:wdAt s (skp s i)=tF
   ·rw[if_pos hF]
    show GivesP _ _ _ _ _ _ _ (.ok _ _)
    unfold GivesP
    rw[hF] at c1 c2 c3
    generalize wdE s (skp s i)=e at *
    generalize skp s i=j at *
    rcases hcase with rfl|⟨rfl,g1⟩|⟨rfl,g1,g2⟩
    all_goals
     refine fn_of_vc (nv:=9999) (cu:=[]) fits mixed Tryz.func76 rfl hoB rfl rfl rfl rfl ?_
     ((repeat' ((conv=>whnf);first|exact .intro|refine .ya ?_|refine .na ?_|refine .ys ?_|refine .ns ?_|refine .neg (fun _=>?_) (fun _=>?_)|refine .mk (fun _=>?_) (fun _=>?_)|refine .inl (.inl (X1 (by first|exact c1|exact c2|exact c3) ?_))|refine .inl (X1 (by first|exact c1|exact c2|exact c3) ?_)|refine X1 (by first|exact c1|exact c2|exact c3) ?_|refine .mk ?_ ?_|refine AK ?_|refine AT ?_|fail));all_goals conv=>whnf)
     ((repeat' first|exact rfl|((conv=>whnf);first|done|exact suL|refine And.intro ?_ ?_|fail));all_goals conv=>whnf)
     all_goals (refine .inr ?_;repeat' first|exact .intro|exact .inr (.inl rfl)|exact lf0|exact ln0|((conv=>whnf);first|exact .intro|exact .inr (.inl rfl)|exact lf0|exact ln0|refine And.intro ?_ ?_|fail))
   ·rw[if_neg hF]
    simp only
    have hr:=hR gl (wdAt s (skp s i)) hwl
    cases hrf:rf (wdAt s (skp s i)) with
    | some a =>
     have c5:=(hr.1 a hrf).2
     show GivesP _ _ _ _ _ _ _ (.ok _ _)
     unfold GivesP
     generalize wdAt s (skp s i)=w at *
     generalize wdE s (skp s i)=e at *
     generalize skp s i=j at *
     rcases hcase with rfl|⟨rfl,g1⟩|⟨rfl,g1,g2⟩
     all_goals
      refine fn_of_vc (nv:=9999) (cu:=[]) fits mixed Tryz.func76 rfl hoB rfl rfl rfl rfl ?_
      ((repeat' ((conv=>whnf);first|exact .intro|refine .ya ?_|refine .na ?_|refine .ys ?_|refine .ns ?_|refine .neg (fun _=>?_) (fun _=>?_)|refine .mk (fun _=>?_) (fun _=>?_)|refine .inl (.inl (X1 (by first|exact c1|exact c2|exact c3|exact c5) ?_))|refine .inl (X1 (by first|exact c1|exact c2|exact c3|exact c5) ?_)|refine X1 (by first|exact c1|exact c2|exact c3|exact c5) ?_|refine .mk ?_ ?_|refine AK ?_|refine AT ?_|fail));all_goals conv=>whnf)
      ((repeat' first|exact rfl|((conv=>whnf);first|done|exact suL|refine And.intro ?_ ?_|fail));all_goals conv=>whnf)
      all_goals (refine .inr ?_;repeat' first|exact .intro|exact .inr (.inl rfl)|exact lf0|exact ln0|((conv=>whnf);first|exact .intro|exact .inr (.inl rfl)|exact lf0|exact ln0|refine And.intro ?_ ?_|fail))
    | none =>
     have c5:=(hr.2 hrf).2
     refine ⟨n0,wdE s (skp s i),d,hle,by decide,?_⟩
     generalize wdAt s (skp s i)=w at *
     generalize wdE s (skp s i)=e at *
     generalize skp s i=j at *
     rcases hcase with rfl|⟨rfl,g1⟩|⟨rfl,g1,g2⟩
     all_goals
      refine fn_of_vc (nv:=9999) (cu:=[]) fits mixed Tryz.func76 rfl hoB rfl rfl rfl rfl ?_
      ((repeat' ((conv=>whnf);first|exact .intro|refine .ya ?_|refine .na ?_|refine .ys ?_|refine .ns ?_|refine .neg (fun _=>?_) (fun _=>?_)|refine .mk (fun _=>?_) (fun _=>?_)|refine .inr (X5 (c4.r [0] _) ?_)|refine .inl (.inr (X5 (c4.r [0] _) ?_))|refine .inl (X5 (c4.r [0] _) ?_)|refine .inl (.inl (X1 (by first|exact c1|exact c2|exact c3|exact c5) ?_))|refine .inl (X1 (by first|exact c1|exact c2|exact c3|exact c5) ?_)|refine X1 (by first|exact c1|exact c2|exact c3|exact c5) ?_|refine .mk ?_ ?_|refine AK ?_|refine AT ?_|fail));all_goals conv=>whnf)
      ((repeat' first|exact rfl|((conv=>whnf);first|done|exact suL|refine And.intro ?_ ?_|fail));all_goals conv=>whnf)
      all_goals (refine .inr ?_;repeat' first|exact .intro|exact .inr (.inl rfl)|exact lf0|exact ln0|((conv=>whnf);first|exact .intro|exact .inr (.inl rfl)|exact lf0|exact ln0|refine And.intro ?_ ?_|fail))
end Go.Proofs.YtcdjjjokniinkaaGreatDoor
end
section
namespace Go.Proofs.YtcdjjjokniinkaaGreatDoor
open Go Go.EYtcdjjjokniinkaaGreatDoor
set_option maxRecDepth 100000
variable {gl:List (Nat×List D)}
theorem tok_34 {s:List UInt8} {i:Nat} (h:s[skp s i]?=some 34):tokZ s i=(match txtF (s.drop (skp s i+1)) with
 | some (b,l)=>⟨2,skp s i,skp s i+1+l,b⟩
 | none=>⟨9,skp s i,skp s i,[]⟩):=by
 unfold tokZ
 rw[drop_get h,tokU,if_neg (by decide),if_pos rfl]
 cases txtF (s.drop (skp s i+1)) <;> rfl
theorem tok_35 {s:List UInt8} {i:Nat} (h:s[skp s i]?=some 35):tokZ s i=(match bdI (s.drop (skp s i)) 6 with
 | some m=>⟨3,skp s i,skp s i+(tx.getD m []).length,tx.getD m []⟩
 | none=>⟨9,skp s i,skp s i,[]⟩):=by
 unfold tokZ
 rw[drop_get h,tokU,if_neg (by decide),if_neg (by decide),if_pos rfl]
 cases bdI (35::s.drop (skp s i+1)) 6 <;> rfl
theorem one_d {rf:List UInt8→Option Rf} (hR:RefsOk rf) {s:List UInt8} {i d:Nat} (hs:s.length≤200) (hd:d≤30) (hi:i≤s.length) {tw ng:Nat→Rs Nd} (hf:Fwd s tw)
 (hn:d<30→∀ j,j≤s.length→GivesP gl 76 [.c (.ptr 0 0)] s j (d+1) (d+1) (ng j))
 (ht:d<30→∀ j,j≤s.length→GivesP gl 52 [.c (.ptr 0 0),.c (.d (iD 1))] s j (d+1) (d+1) (tw j))
 (hc:d<30→∀ w k,k<s.length→GivesP gl 107 [.c (.ptr 0 0),.c (.d (.str w))] s k (d+1) d (callF (parZ rf) s tw w k)) :
 GivesP gl 76 [.c (.ptr 0 0)] s i d d (negF (parZ rf) s (decide (d=30)) ng tw i):=by
 unfold negF
 by_cases h:s[skp s i]?=some 45
 ·rw[if_pos h]
  have hl:=lt_of_get h
  by_cases hd3:d=30
  ·subst hd3
   rw[if_pos (by decide)]
   exact one_minus_full hi hs h
  ·rw[if_neg (by simp[hd3])]
   have h1:=hn (by omega) (skp s i+1) hl
   cases hx:ng (skp s i+1) with
   | no q e=>rw[hx] at h1;exact one_minus_no hi hs (by omega) h h1
   | ok n k=>rw[hx] at h1;exact one_minus hi hs (by omega) h h1
 ·rw[if_neg h]
  unfold primF
  cases hg:s[skp s i]? with
  | none =>
   have h0:(tokZ s i).k=0:=(tok_end hi).2 (by have:=List.getElem?_eq_none_iff.1 hg;have:=skp_le hi;omega)
   exact one_none hi hs (by omega) (by omega) (by omega) (fun h4=>by omega)
  | some c =>
   have hl:=lt_of_get hg
   simp only
   by_cases h40:c=40
   ·subst h40
    rw[if_pos rfl]
    by_cases hd3:d=30
    ·subst hd3
     rw[if_pos (by decide)]
     exact one_par_full hi hs hg
    ·rw[if_neg (by simp[hd3])]
     have hd':d<30:=by omega
     have h1:=ht hd' (skp s i+1) hl
     unfold parF
     cases hx:tw (skp s i+1) with
     | no q e=>rw[hx] at h1;exact one_par_no hi hs hd' hg h1
     | ok n j =>
      rw[hx] at h1
      have hj:=(hf _ _ _ hl hx).2
      simp only[Rs.bind_ok]
      by_cases hq:s[skp s j]?=some 41
      ·rw[if_pos hq];exact one_par hi hs hd' hg hj h1 hq
      ·rw[if_neg hq];exact one_par_n hi hs hd' hg hj h1 hq
   ·rw[if_neg h40]
    by_cases h34:c=34
    ·subst h34
     rw[if_pos rfl]
     have ht:=tok_34 hg
     cases hx:txtF (s.drop (skp s i+1)) with
     | none =>
      rw[hx] at ht
      have h0:(tokZ s i).k=9:=by rw[ht]
      exact one_none hi hs (by omega) (by omega) (by omega) (fun h4=>by omega)
     | some q =>
      obtain ⟨b,l⟩:=q
      rw[hx] at ht
      exact one_text hi hs ht
    ·rw[if_neg h34]
     by_cases h35:c=35
     ·subst h35
      rw[if_pos rfl]
      have ht:=tok_35 hg
      have hh:(s.drop (skp s i)).head?=some 35:=by rw[List.head?_drop];exact hg
      show GivesP _ _ _ _ _ _ _ (match litF (s.drop (skp s i)) with|some (n,l)=>_|none=>_)
      rw[lit_bd hh]
      cases hx:bdI (s.drop (skp s i)) 6 with
      | none =>
       rw[hx] at ht
       have h0:(tokZ s i).k=9:=by rw[ht]
       exact one_none hi hs (by omega) (by omega) (by omega) (fun h4=>by omega)
      | some m =>
       rw[hx] at ht
       obtain ⟨_,h1,h2⟩:=bdI_some hx (Nat.le_refl _)
       exact one_bad hi hs ht (lit_tx h1 h2)
     ·rw[if_neg h35]
      by_cases hw:wordlyP c
      ·rw[if_pos hw]
       unfold wordF
       by_cases hq:s[wdE s (skp s i)]?=some 40∧clZ (wdAt s (skp s i))=true
       ·rw[if_pos (show _∧(parZ rf).cl (wdAt s (skp s i))=true from hq)]
        by_cases hd3:d=30
        ·subst hd3
         rw[if_pos (by decide)]
         exact one_callf hi hs hg hw hq.1 hq.2
        ·rw[if_neg (by simp[hd3])]
         exact one_call hi hs (by omega) hg hw hq.1 hq.2 (hc (by omega) _ _ (lt_of_get hq.1))
       ·rw[if_neg (show ¬ (_∧(parZ rf).cl (wdAt s (skp s i))=true) from hq)]
        exact one_word hR hi hs hg hw hq
      ·rw[if_neg hw]
       have hk:(tokZ s i).k=4:=by
        unfold tokZ
        rw[drop_get hg,tokU,if_neg hw,if_neg h34,if_neg h35]
        split <;> rfl
       refine one_none hi hs (by omega) (by omega) (by omega) (fun _=>⟨fun e=>?_,fun e=>?_⟩)
       ·exact h (tok_mark_of hk e)
       ·have:=tok_mark_of hk e
        rw[hg] at this
        exact h40 (Option.some.inj this)
end Go.Proofs.YtcdjjjokniinkaaGreatDoor
end
