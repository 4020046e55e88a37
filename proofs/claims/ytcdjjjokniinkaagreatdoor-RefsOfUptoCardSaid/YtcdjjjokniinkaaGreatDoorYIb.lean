/- Proved: a part of what the law is proved with (the reckoner, contracts of functions, plain laws). Conditions: as each says. -/
import Derived.Test.YtcdjjjokniinkaaGreatDoorYGm
section
namespace Go.Proofs.YtcdjjjokniinkaaGreatDoor
open Go Go.EYtcdjjjokniinkaaGreatDoor
set_option maxRecDepth 100000
variable {gl:List (Nat×List D)}
theorem within_2f (s w:List UInt8) (i p g:Nat):Go.EYtcdjjjokniinkaaGreatDoor.Fn Tryz.prog gl 128 [.c (.ptr 0 0),.c (.d (iD (p:Int))),.c (.fn g [(1,0),(2,0)])] [(0,rdB s i 30),(1,rpB),(2,txB w)] 3 (.panic (.d (fltD p 4))) [] 3 []:=by
 have c1:=fail_d (gl:=gl) s i 30 p 4
 refine fn_of_vc (nv:=9999) (cu:=[]) fits mixed Tryz.func128 rfl hoB rfl rfl rfl rfl ?_
 ((repeat' ((conv=>whnf);first|exact .intro|refine .ya ?_|refine .na ?_|refine .ys ?_|refine .ns ?_|refine .neg (fun _=>?_) (fun _=>?_)|refine .mk (fun _=>?_) (fun _=>?_)|refine .inr (X5 (c1.r [0] _) ?_)|refine .inl (.inr (X5 (c1.r [0] _) ?_))|refine .inl (X5 (c1.r [0] _) ?_)|refine .mk ?_ ?_|refine AK ?_|refine AT ?_|fail));all_goals conv=>whnf)
 ((repeat' first|exact rfl|((conv=>whnf);first|done|exact suL|refine And.intro ?_ ?_|fail));all_goals conv=>whnf)
theorem prim_callf {s:List UInt8} {i:Nat} {c:UInt8} (hs:s.length≤200) (h:s[i]?=some c) (hw:wordlyP c) (hq:s[wdE s i]?=some 40) (hc:clZ (wdAt s i)=true) :
 Gives1 gl 130 [.c (.ptr 0 0)] s i 30 (.no i 4):=by
 have hi:=lt_of_get h
 have hwl:=wd_len (i:=i) hs
 have hl2:=lt_of_get hq
 rw[← getD_of h] at hw
 have c0:=wordly_y (gl:=gl) ((wdly_iff _).2 hw)
 have h2:¬ ((i:Nat):Int)=((s.length:Nat):Int):=by omega
 have h3:¬ (((s.getD ((i:Nat):Int).toNat 0).toNat:Nat):Int)=40:=nw hi hw 40 (by decide)
 have h4:¬ (((s.getD ((i:Nat):Int).toNat 0).toNat:Nat):Int)=34:=nw hi hw 34 (by decide)
 have h5:¬ (((s.getD ((i:Nat):Int).toNat 0).toNat:Nat):Int)=35:=nw hi hw 35 (by decide)
 have c1:=word_d (gl:=gl) s i 30 (by omega) hs
 have c3:=called_y (gl:=gl) hwl hc
 have h6:((wdE s i:Nat):Int)<((s.length:Nat):Int):=by omega
 have h7:(((s.getD ((wdE s i:Nat):Int).toNat 0).toNat:Nat):Int)=40:=(byt 40 hl2).2 hq
 have c4:=within_2f (gl:=gl) s (wdAt s i) (wdE s i) i 156
 generalize wdE s i=j at *
 generalize wdAt s i=w at *
 unfold Gives1
 refine fn_of_vc (nv:=9999) (cu:=[]) fits mixed Tryz.func130 rfl hoB rfl rfl rfl rfl ?_
 ((repeat' ((conv=>whnf);first|exact .intro|refine .ya ?_|refine .na ?_|refine .ys ?_|refine .ns ?_|refine .neg (fun _=>?_) (fun _=>?_)|refine .mk (fun _=>?_) (fun _=>?_)|refine .inr (X5 (c1.r [0] _) ?_)|refine .inl (.inr (X5 (c1.r [0] _) ?_))|refine .inl (X5 (c1.r [0] _) ?_)|refine .inr (X5 (c4.r [0,1,3] _) ?_)|refine .inl (.inr (X5 (c4.r [0,1,3] _) ?_))|refine .inl (X5 (c4.r [0,1,3] _) ?_)|refine .inl (.inl (X1 (by first|exact c0|exact c3) ?_))|refine .inl (X1 (by first|exact c0|exact c3) ?_)|refine X1 (by first|exact c0|exact c3) ?_|refine .mk ?_ ?_|refine AK ?_|refine AT ?_|fail));all_goals conv=>whnf)
 ((repeat' first|exact rfl|((conv=>whnf);first|done|exact suL|refine And.intro ?_ ?_|fail));all_goals conv=>whnf)
theorem prim_call {s:List UInt8} {i d:Nat} {c:UInt8} (hs:s.length≤200) (hd:d<30) (h:s[i]?=some c) (hw:wordlyP c) (hq:s[wdE s i]?=some 40) (hc:clZ (wdAt s i)=true)
 {r:Rs Nd} (hp:Gives1 gl 157 [.c (.ptr 0 0),.c (.d (.str (wdAt s i)))] s (wdE s i) (d+1) r) :
 Gives1 gl 130 [.c (.ptr 0 0)] s i d r:=by
 have hi:=lt_of_get h
 have hwl:=wd_len (i:=i) hs
 have hl2:=lt_of_get hq
 rw[← getD_of h] at hw
 have c0:=wordly_y (gl:=gl) ((wdly_iff _).2 hw)
 have h2:¬ ((i:Nat):Int)=((s.length:Nat):Int):=by omega
 have h3:¬ (((s.getD ((i:Nat):Int).toNat 0).toNat:Nat):Int)=40:=nw hi hw 40 (by decide)
 have h4:¬ (((s.getD ((i:Nat):Int).toNat 0).toNat:Nat):Int)=34:=nw hi hw 34 (by decide)
 have h5:¬ (((s.getD ((i:Nat):Int).toNat 0).toNat:Nat):Int)=35:=nw hi hw 35 (by decide)
 have c1:=word_d (gl:=gl) s i d (by omega) hs
 have c3:=called_y (gl:=gl) hwl hc
 have h6:((wdE s i:Nat):Int)<((s.length:Nat):Int):=by omega
 have h7:(((s.getD ((wdE s i:Nat):Int).toNat 0).toNat:Nat):Int)=40:=(byt 40 hl2).2 hq
 generalize wdE s i=j at *
 generalize wdAt s i=w at *
 cases r with
 | ok n l =>
  have c4:=within_2 (gl:=gl) (p:=i) hd (prim2_ok hp)
  obtain ⟨k,m,t,a,b,ks⟩:=n
  unfold Gives1
  refine fn_of_vc (nv:=9999) (cu:=[]) fits mixed Tryz.func130 rfl hoB rfl rfl rfl rfl ?_
  ((repeat' ((conv=>whnf);first|exact .intro|refine .ya ?_|refine .na ?_|refine .ys ?_|refine .ns ?_|refine .neg (fun _=>?_) (fun _=>?_)|refine .mk (fun _=>?_) (fun _=>?_)|refine .inr (X5 (c1.r [0] _) ?_)|refine .inl (.inr (X5 (c1.r [0] _) ?_))|refine .inl (X5 (c1.r [0] _) ?_)|refine .inr (X5 (c4.r [0,1,3] _) ?_)|refine .inl (.inr (X5 (c4.r [0,1,3] _) ?_))|refine .inl (X5 (c4.r [0,1,3] _) ?_)|refine .inl (.inl (X1 (by first|exact c0|exact c3) ?_))|refine .inl (X1 (by first|exact c0|exact c3) ?_)|refine X1 (by first|exact c0|exact c3) ?_|refine .mk ?_ ?_|refine AK ?_|refine AT ?_|fail));all_goals conv=>whnf)
  ((repeat' first|exact rfl|((conv=>whnf);first|done|exact suL|refine And.intro ?_ ?_|fail));all_goals conv=>whnf)
 | no q e =>
  have c4:=within_2n (gl:=gl) (p:=i) hd (prim2_no hp)
  unfold Gives1
  refine fn_of_vc (nv:=9999) (cu:=[]) fits mixed Tryz.func130 rfl hoB rfl rfl rfl rfl ?_
  ((repeat' ((conv=>whnf);first|exact .intro|refine .ya ?_|refine .na ?_|refine .ys ?_|refine .ns ?_|refine .neg (fun _=>?_) (fun _=>?_)|refine .mk (fun _=>?_) (fun _=>?_)|refine .inr (X5 (c1.r [0] _) ?_)|refine .inl (.inr (X5 (c1.r [0] _) ?_))|refine .inl (X5 (c1.r [0] _) ?_)|refine .inr (X5 (c4.r [0,1,3] _) ?_)|refine .inl (.inr (X5 (c4.r [0,1,3] _) ?_))|refine .inl (X5 (c4.r [0,1,3] _) ?_)|refine .inl (.inl (X1 (by first|exact c0|exact c3) ?_))|refine .inl (X1 (by first|exact c0|exact c3) ?_)|refine X1 (by first|exact c0|exact c3) ?_|refine .mk ?_ ?_|refine AK ?_|refine AT ?_|fail));all_goals conv=>whnf)
  ((repeat' first|exact rfl|((conv=>whnf);first|done|exact suL|refine And.intro ?_ ?_|fail));all_goals conv=>whnf)
theorem prim_d (te:TypeId) (pe:Value) (hV:Has gl (glV te pe)) {rf:List UInt8→Option Rf} (hR:RefsOk rf) {s:List UInt8} {i d:Nat} (hs:s.length≤200) (hd:d≤30) (hi:i≤s.length) {tw:Nat→Rs Nd} (hf:Fwd s tw)
 (ht:d<30→∀ j,j≤s.length→Gives1 gl 67 [.c (.ptr 0 0),.c (.d (iD 0))] s j (d+1) (tw j))
 (hc:d<30→∀ w k,k<s.length→Gives1 gl 157 [.c (.ptr 0 0),.c (.d (.str w))] s k (d+1) (callF (parZ rf) s tw w k)) :
 Gives1 gl 130 [.c (.ptr 0 0)] s i d (primF (parZ rf) s (decide (d=30)) tw i):=by
 unfold primF
 cases h:s[i]? with
 | none =>
  have:i=s.length:=by have:=List.getElem?_eq_none_iff.1 h;omega
  subst this
  exact prim_end hs
 | some c =>
  have hl:=lt_of_get h
  simp only
  by_cases h40:c=40
  ·subst h40
   rw[if_pos rfl]
   by_cases hd3:d=30
   ·subst hd3
    rw[if_pos (by decide)]
    exact prim_full hs h
   ·rw[if_neg (by simp[hd3])]
    have hd':d<30:=by omega
    have h1:=ht hd' (i+1) hl
    unfold parF
    cases hx:tw (i+1) with
    | no q e=>rw[hx] at h1;exact prim_pare hs hd' h h1
    | ok n j =>
     rw[hx] at h1
     have hj:=(hf _ _ _ hl hx).2
     simp only[Rs.bind_ok]
     by_cases hq:s[skp s j]?=some 41
     ·rw[if_pos hq];exact prim_par hs hd' h hj h1 hq
     ·rw[if_neg hq];exact prim_parn hs hd' h hj h1 hq
  ·rw[if_neg h40]
   by_cases h34:c=34
   ·subst h34
    rw[if_pos rfl]
    cases hx:txtF (s.drop (i+1)) with
    | none=>exact prim_textn hs h hx
    | some q=>obtain ⟨b,l⟩:=q;exact prim_text hs h hx
   ·rw[if_neg h34]
    by_cases h35:c=35
    ·subst h35
     rw[if_pos rfl]
     show Gives1 _ _ _ _ _ _ (match litF (s.drop i) with|some (n,l)=>_|none=>_)
     cases hx:litF (s.drop i) with
     | none=>exact prim_litn te pe hV hs h hx
     | some q=>obtain ⟨m,l⟩:=q;exact prim_lit te pe hV hs h hx
    ·rw[if_neg h35]
     by_cases hw:wordlyP c
     ·rw[if_pos hw]
      unfold wordF
      by_cases hq:s[wdE s i]?=some 40∧clZ (wdAt s i)=true
      ·rw[if_pos (show _∧(parZ rf).cl (wdAt s i)=true from hq)]
       by_cases hd3:d=30
       ·subst hd3
        rw[if_pos (by decide)]
        exact prim_callf hs h hw hq.1 hq.2
       ·rw[if_neg (by simp[hd3])]
        exact prim_call hs (by omega) h hw hq.1 hq.2 (hc (by omega) _ _ (lt_of_get hq.1))
      ·rw[if_neg (show ¬ (_∧(parZ rf).cl (wdAt s i)=true) from hq)]
       show Gives1 _ _ _ _ _ _ (match plZ rf (wdAt s i) with|some n=>_|none=>_)
       cases hx:plZ rf (wdAt s i) with
       | none=>exact prim_plainn te pe hV hR hs h hw hq hx
       | some n=>exact prim_plain te pe hV hR hs h hw hq hx
     ·rw[if_neg hw]
      exact prim_other hs h h40 h34 h35 hw
theorem neg_d (te:TypeId) (pe:Value) (hV:Has gl (glV te pe)) {rf:List UInt8→Option Rf} (hR:RefsOk rf) {s:List UInt8} {i d:Nat} (hs:s.length≤200) (hd:d≤30) (hi:i≤s.length) {tw ng:Nat→Rs Nd} (hf:Fwd s tw)
 (hn:d<30→∀ j,j≤s.length→Gives1 gl 91 [.c (.ptr 0 0)] s j (d+1) (ng j))
 (ht:d<30→∀ j,j≤s.length→Gives1 gl 67 [.c (.ptr 0 0),.c (.d (iD 0))] s j (d+1) (tw j))
 (hc:d<30→∀ w k,k<s.length→Gives1 gl 157 [.c (.ptr 0 0),.c (.d (.str w))] s k (d+1) (callF (parZ rf) s tw w k)) :
 Gives1 gl 91 [.c (.ptr 0 0)] s i d (negF (parZ rf) s (decide (d=30)) ng tw i):=by
 unfold negF
 by_cases h:s[skp s i]?=some 45
 ·rw[if_pos h]
  have hl:=lt_of_get h
  by_cases hd3:d=30
  ·subst hd3
   rw[if_pos (by decide)]
   exact neg_full hi hs h
  ·rw[if_neg (by simp[hd3])]
   have h1:=hn (by omega) (skp s i+1) hl
   cases hx:ng (skp s i+1) with
   | no q e=>rw[hx] at h1;exact neg_ine hi hs (by omega) h h1
   | ok n k=>rw[hx] at h1;exact neg_in hi hs (by omega) h h1
 ·rw[if_neg h]
  exact neg_prim hi hs h (prim_d te pe hV hR hs hd (skp_le hi) hf ht hc)
end Go.Proofs.YtcdjjjokniinkaaGreatDoor
end
section
namespace Go.Proofs.YtcdjjjokniinkaaGreatDoor
open Go Go.EYtcdjjjokniinkaaGreatDoor
set_option maxRecDepth 100000
set_option maxHeartbeats 2000000
variable {gl:List (Nat×List D)}
theorem arg_two {rf:List UInt8→Option Rf} (hR:RefsOk rf) {s:List UInt8} {i d:Nat} (hi:i≤s.length) (hs:s.length≤200) (h:rf (wdAt s (skp s i))=none∨s[wdE s (skp s i)]?≠some 58) {r:Rs Nd}
 (hp:Gives1 gl 67 [.c (.ptr 0 0),.c (.d (iD 0))] s (skp s i) d r):Gives1 gl 177 [.c (.ptr 0 0)] s i d r:=by
 have c0:=blanks_d (gl:=gl) s i d hi hs
 have hj:=skp_le hi
 have c1:=word_d (gl:=gl) s (skp s i) d hj hs
 have hwl:=wd_len (i:=skp s i) hs
 have he:=wdE_le hj
 have hr:=hR gl (wdAt s (skp s i)) hwl
 generalize wdE s (skp s i)=e at *
 generalize wdAt s (skp s i)=w at *
 generalize skp s i=j at *
 cases hrf:rf w with
 | none =>
  have c2:=(hr.2 hrf).1
  cases r with
  | ok n k =>
   obtain ⟨k0,m,t,a,b,ks⟩:=n
   unfold Gives1 at hp ⊢
   refine fn_of_vc (nv:=9999) (cu:=[]) fits mixed Tryz.func177 rfl hoB rfl rfl rfl rfl ?_
   ((repeat' ((conv=>whnf);first|exact .intro|refine .ya ?_|refine .na ?_|refine .ys ?_|refine .ns ?_|refine .neg (fun _=>?_) (fun _=>?_)|refine .mk (fun _=>?_) (fun _=>?_)|refine .inr (X5 (c0.r [0] _) ?_)|refine .inl (.inr (X5 (c0.r [0] _) ?_))|refine .inl (X5 (c0.r [0] _) ?_)|refine .inr (X5 (c1.r [0] _) ?_)|refine .inl (.inr (X5 (c1.r [0] _) ?_))|refine .inl (X5 (c1.r [0] _) ?_)|refine .inr (X5 (hp.r [0] _) ?_)|refine .inl (.inr (X5 (hp.r [0] _) ?_))|refine .inl (X5 (hp.r [0] _) ?_)|refine .inl (.inl (X1 (c2) ?_))|refine .inl (X1 (c2) ?_)|refine X1 (c2) ?_|refine .mk ?_ ?_|refine AK ?_|refine AT ?_|fail));all_goals conv=>whnf)
   ((repeat' first|exact rfl|((conv=>whnf);first|done|exact suL|refine And.intro ?_ ?_|fail));all_goals conv=>whnf)
  | no q f =>
   unfold Gives1 at hp ⊢
   refine fn_of_vc (nv:=9999) (cu:=[]) fits mixed Tryz.func177 rfl hoB rfl rfl rfl rfl ?_
   ((repeat' ((conv=>whnf);first|exact .intro|refine .ya ?_|refine .na ?_|refine .ys ?_|refine .ns ?_|refine .neg (fun _=>?_) (fun _=>?_)|refine .mk (fun _=>?_) (fun _=>?_)|refine .inr (X5 (c0.r [0] _) ?_)|refine .inl (.inr (X5 (c0.r [0] _) ?_))|refine .inl (X5 (c0.r [0] _) ?_)|refine .inr (X5 (c1.r [0] _) ?_)|refine .inl (.inr (X5 (c1.r [0] _) ?_))|refine .inl (X5 (c1.r [0] _) ?_)|refine .inr (X5 (hp.r [0] _) ?_)|refine .inl (.inr (X5 (hp.r [0] _) ?_))|refine .inl (X5 (hp.r [0] _) ?_)|refine .inl (.inl (X1 (c2) ?_))|refine .inl (X1 (c2) ?_)|refine X1 (c2) ?_|refine .mk ?_ ?_|refine AK ?_|refine AT ?_|fail));all_goals conv=>whnf)
   ((repeat' first|exact rfl|((conv=>whnf);first|done|exact suL|refine And.intro ?_ ?_|fail));all_goals conv=>whnf)
 | some a =>
  have c2:=(hr.1 a hrf).1
  have h58:s[e]?≠some 58:=by
   rcases h with h|h
   ·rw[hrf] at h;cases h
   ·exact h
  rcases Nat.lt_or_ge e s.length with hl|hl
  ·have h1:¬ ((e:Nat):Int)=((s.length:Nat):Int):=by omega
   have h2:¬ (((s.getD ((e:Nat):Int).toNat 0).toNat:Nat):Int)=58:=fun hh=>h58 ((byt 58 hl).1 hh)
   cases r with
   | ok n k =>
    obtain ⟨k0,m,t,a,b,ks⟩:=n
    unfold Gives1 at hp ⊢
    refine fn_of_vc (nv:=9999) (cu:=[]) fits mixed Tryz.func177 rfl hoB rfl rfl rfl rfl ?_
    ((repeat' ((conv=>whnf);first|exact .intro|refine .ya ?_|refine .na ?_|refine .ys ?_|refine .ns ?_|refine .neg (fun _=>?_) (fun _=>?_)|refine .mk (fun _=>?_) (fun _=>?_)|refine .inr (X5 (c0.r [0] _) ?_)|refine .inl (.inr (X5 (c0.r [0] _) ?_))|refine .inl (X5 (c0.r [0] _) ?_)|refine .inr (X5 (c1.r [0] _) ?_)|refine .inl (.inr (X5 (c1.r [0] _) ?_))|refine .inl (X5 (c1.r [0] _) ?_)|refine .inr (X5 (hp.r [0] _) ?_)|refine .inl (.inr (X5 (hp.r [0] _) ?_))|refine .inl (X5 (hp.r [0] _) ?_)|refine .inl (.inl (X1 (c2) ?_))|refine .inl (X1 (c2) ?_)|refine X1 (c2) ?_|refine .mk ?_ ?_|refine AK ?_|refine AT ?_|fail));all_goals conv=>whnf)
    ((repeat' first|exact rfl|((conv=>whnf);first|done|exact suL|refine And.intro ?_ ?_|fail));all_goals conv=>whnf)
   | no q f =>
    unfold Gives1 at hp ⊢
    refine fn_of_vc (nv:=9999) (cu:=[]) fits mixed Tryz.func177 rfl hoB rfl rfl rfl rfl ?_
    ((repeat' ((conv=>whnf);first|exact .intro|refine .ya ?_|refine .na ?_|refine .ys ?_|refine .ns ?_|refine .neg (fun _=>?_) (fun _=>?_)|refine .mk (fun _=>?_) (fun _=>?_)|refine .inr (X5 (c0.r [0] _) ?_)|refine .inl (.inr (X5 (c0.r [0] _) ?_))|refine .inl (X5 (c0.r [0] _) ?_)|refine .inr (X5 (c1.r [0] _) ?_)|refine .inl (.inr (X5 (c1.r [0] _) ?_))|refine .inl (X5 (c1.r [0] _) ?_)|refine .inr (X5 (hp.r [0] _) ?_)|refine .inl (.inr (X5 (hp.r [0] _) ?_))|refine .inl (X5 (hp.r [0] _) ?_)|refine .inl (.inl (X1 (c2) ?_))|refine .inl (X1 (c2) ?_)|refine X1 (c2) ?_|refine .mk ?_ ?_|refine AK ?_|refine AT ?_|fail));all_goals conv=>whnf)
    ((repeat' first|exact rfl|((conv=>whnf);first|done|exact suL|refine And.intro ?_ ?_|fail));all_goals conv=>whnf)
  ·have h1:((e:Nat):Int)=((s.length:Nat):Int):=by omega
   cases r with
   | ok n k =>
    obtain ⟨k0,m,t,a,b,ks⟩:=n
    unfold Gives1 at hp ⊢
    refine fn_of_vc (nv:=9999) (cu:=[]) fits mixed Tryz.func177 rfl hoB rfl rfl rfl rfl ?_
    ((repeat' ((conv=>whnf);first|exact .intro|refine .ya ?_|refine .na ?_|refine .ys ?_|refine .ns ?_|refine .neg (fun _=>?_) (fun _=>?_)|refine .mk (fun _=>?_) (fun _=>?_)|refine .inr (X5 (c0.r [0] _) ?_)|refine .inl (.inr (X5 (c0.r [0] _) ?_))|refine .inl (X5 (c0.r [0] _) ?_)|refine .inr (X5 (c1.r [0] _) ?_)|refine .inl (.inr (X5 (c1.r [0] _) ?_))|refine .inl (X5 (c1.r [0] _) ?_)|refine .inr (X5 (hp.r [0] _) ?_)|refine .inl (.inr (X5 (hp.r [0] _) ?_))|refine .inl (X5 (hp.r [0] _) ?_)|refine .inl (.inl (X1 (c2) ?_))|refine .inl (X1 (c2) ?_)|refine X1 (c2) ?_|refine .mk ?_ ?_|refine AK ?_|refine AT ?_|fail));all_goals conv=>whnf)
    ((repeat' first|exact rfl|((conv=>whnf);first|done|exact suL|refine And.intro ?_ ?_|fail));all_goals conv=>whnf)
   | no q f =>
    unfold Gives1 at hp ⊢
    refine fn_of_vc (nv:=9999) (cu:=[]) fits mixed Tryz.func177 rfl hoB rfl rfl rfl rfl ?_
    ((repeat' ((conv=>whnf);first|exact .intro|refine .ya ?_|refine .na ?_|refine .ys ?_|refine .ns ?_|refine .neg (fun _=>?_) (fun _=>?_)|refine .mk (fun _=>?_) (fun _=>?_)|refine .inr (X5 (c0.r [0] _) ?_)|refine .inl (.inr (X5 (c0.r [0] _) ?_))|refine .inl (X5 (c0.r [0] _) ?_)|refine .inr (X5 (c1.r [0] _) ?_)|refine .inl (.inr (X5 (c1.r [0] _) ?_))|refine .inl (X5 (c1.r [0] _) ?_)|refine .inr (X5 (hp.r [0] _) ?_)|refine .inl (.inr (X5 (hp.r [0] _) ?_))|refine .inl (X5 (hp.r [0] _) ?_)|refine .inl (.inl (X1 (c2) ?_))|refine .inl (X1 (c2) ?_)|refine X1 (c2) ?_|refine .mk ?_ ?_|refine AK ?_|refine AT ?_|fail));all_goals conv=>whnf)
    ((repeat' first|exact rfl|((conv=>whnf);first|done|exact suL|refine And.intro ?_ ?_|fail));all_goals conv=>whnf)
theorem arg_box {rf:List UInt8→Option Rf} (hR:RefsOk rf) {s:List UInt8} {i d:Nat} (hi:i≤s.length) (hs:s.length≤200) {a:Rf} (ha:rf (wdAt s (skp s i))=some a) (h:s[wdE s (skp s i)]?=some 58) :
 Gives1 gl 177 [.c (.ptr 0 0)] s i d (match rf (wdAt s (wdE s (skp s i)+1)) with
 | some b=>.ok (.mk 6 0 [] a b []) (wdE s (wdE s (skp s i)+1))
 | none=>.no (wdE s (skp s i)+1) 2):=by
 have c0:=blanks_d (gl:=gl) s i d hi hs
 have hj:=skp_le hi
 have c1:=word_d (gl:=gl) s (skp s i) d hj hs
 have hwl:=wd_len (i:=skp s i) hs
 have c2:=((hR gl (wdAt s (skp s i)) hwl).1 a ha).1
 clear ha
 generalize wdE s (skp s i)=e at *
 generalize wdAt s (skp s i)=w at *
 generalize skp s i=j at *
 have hl:=lt_of_get h
 have c3:=word_d (gl:=gl) s (e+1) d hl hs
 have hwl2:=wd_len (i:=e+1) hs
 have hr:=hR gl (wdAt s (e+1)) hwl2
 have he2:=wdE_le (show e+1≤s.length from hl)
 have h1:¬ ((e:Nat):Int)=((s.length:Nat):Int):=by omega
 have h2:(((s.getD ((e:Nat):Int).toNat 0).toNat:Nat):Int)=58:=(byt 58 hl).2 h
 have h3:¬ ¬ (((s.getD ((e:Nat):Int).toNat 0).toNat:Nat):Int)=58:=fun hh=>hh h2
 have e1:IntKind.i64.wrap (((e:Nat):Int)+1)=((e+1:Nat):Int):=by rw[wrapI (by omega)];rfl
 have c6:=fail_d (gl:=gl) s (wdE s (e+1)) d (e+1) 2
 generalize wdE s (e+1)=e2 at *
 generalize wdAt s (e+1)=w2 at *
 cases hrf:rf w2 with
 | some b =>
  have c4:=(hr.1 b hrf).1
  simp only
  unfold Gives1
  refine fn_of_vc (nv:=9999) (cu:=[]) fits mixed Tryz.func177 rfl hoB rfl rfl rfl rfl ?_
  ((repeat' ((conv=>whnf);first|exact .intro|refine .ya ?_|refine .na ?_|refine .ys ?_|refine .ns ?_|refine .neg (fun _=>?_) (fun _=>?_)|refine .mk (fun _=>?_) (fun _=>?_)|refine .inr (X5 (c0.r [0] _) ?_)|refine .inl (.inr (X5 (c0.r [0] _) ?_))|refine .inl (X5 (c0.r [0] _) ?_)|refine .inr (X5 (c1.r [0] _) ?_)|refine .inl (.inr (X5 (c1.r [0] _) ?_))|refine .inl (X5 (c1.r [0] _) ?_)|refine .inr (X5 (c3.r [0] _) ?_)|refine .inl (.inr (X5 (c3.r [0] _) ?_))|refine .inl (X5 (c3.r [0] _) ?_)|refine .inl (.inl (X1 (by first|exact c2|exact c4) ?_))|refine .inl (X1 (by first|exact c2|exact c4) ?_)|refine X1 (by first|exact c2|exact c4) ?_|(rw[e1])|refine .mk ?_ ?_|refine AK ?_|refine AT ?_|fail));all_goals conv=>whnf)
  ((repeat' first|exact rfl|((conv=>whnf);first|done|exact suL|refine And.intro ?_ ?_|fail));all_goals conv=>whnf)
  all_goals (refine .inr ?_;repeat' first|exact .intro|exact .inr (.inl rfl)|exact lf0|exact ln0|((conv=>whnf);first|exact .intro|exact .inr (.inl rfl)|exact lf0|exact ln0|refine And.intro ?_ ?_|fail))
 | none =>
  have c4:=(hr.2 hrf).1
  simp only
  unfold Gives1
  refine fn_of_vc (nv:=9999) (cu:=[]) fits mixed Tryz.func177 rfl hoB rfl rfl rfl rfl ?_
  ((repeat' ((conv=>whnf);first|exact .intro|refine .ya ?_|refine .na ?_|refine .ys ?_|refine .ns ?_|refine .neg (fun _=>?_) (fun _=>?_)|refine .mk (fun _=>?_) (fun _=>?_)|refine .inr (X5 (c0.r [0] _) ?_)|refine .inl (.inr (X5 (c0.r [0] _) ?_))|refine .inl (X5 (c0.r [0] _) ?_)|refine .inr (X5 (c1.r [0] _) ?_)|refine .inl (.inr (X5 (c1.r [0] _) ?_))|refine .inl (X5 (c1.r [0] _) ?_)|refine .inr (X5 (c3.r [0] _) ?_)|refine .inl (.inr (X5 (c3.r [0] _) ?_))|refine .inl (X5 (c3.r [0] _) ?_)|refine .inr (X5 (c6.r [0] _) ?_)|refine .inl (.inr (X5 (c6.r [0] _) ?_))|refine .inl (X5 (c6.r [0] _) ?_)|refine .inl (.inl (X1 (by first|exact c2|exact c4) ?_))|refine .inl (X1 (by first|exact c2|exact c4) ?_)|refine X1 (by first|exact c2|exact c4) ?_|(rw[e1])|refine .mk ?_ ?_|refine AK ?_|refine AT ?_|fail));all_goals conv=>whnf)
  ((repeat' first|exact rfl|((conv=>whnf);first|done|exact suL|refine And.intro ?_ ?_|fail));all_goals conv=>whnf)
theorem arg_d {rf:List UInt8→Option Rf} (hR:RefsOk rf) {s:List UInt8} {i d:Nat} (hi:i≤s.length) (hs:s.length≤200) {tw:Nat→Rs Nd}
 (ht:∀ j,j≤s.length→Gives1 gl 67 [.c (.ptr 0 0),.c (.d (iD 0))] s j d (tw j)) :
 Gives1 gl 177 [.c (.ptr 0 0)] s i d (argF (parZ rf) s tw i):=by
 unfold argF
 show Gives1 _ _ _ _ _ _ (match rf (wdAt s (skp s i)) with|none=>_|some a=>_)
 cases hrf:rf (wdAt s (skp s i)) with
 | none=>exact arg_two hR hi hs (.inl hrf) (ht _ (skp_le hi))
 | some a =>
  simp only
  by_cases h:s[wdE s (skp s i)]?=some 58
  ·rw[if_pos h]
   exact arg_box hR hi hs hrf h
  ·rw[if_neg h]
   exact arg_two hR hi hs (.inr h) (ht _ (skp_le hi))
end Go.Proofs.YtcdjjjokniinkaaGreatDoor
end
section
namespace Go.Proofs.YtcdjjjokniinkaaGreatDoor
open Go Go.EYtcdjjjokniinkaaGreatDoor
set_option maxRecDepth 100000
set_option maxHeartbeats 2000000
variable {gl:List (Nat×List D)}
theorem csL_app:∀ (a b:List Nd),Nd.csL (a++b)=Nd.csL a++Nd.csL b
 | [],b=>rfl
 | x::a,b=>by show x.cs::Nd.csL (a++b)=x.cs::(Nd.csL a++Nd.csL b);rw[csL_app a b]
theorem csL_len:∀ (a:List Nd),(Nd.csL a).length=a.length
 | []=>rfl
 | x::a=>by show (Nd.csL a).length+1=_;rw[csL_len a];rfl
theorem call_none {s w:List UInt8} {k d:Nat} (hk:k<s.length) (hs:s.length≤200) (h:s[skp s (k+1)]?=some 41) :
 Gives1 gl 157 [.c (.ptr 0 0),.c (.d (.str w))] s k d (.ok (.mk 9 0 w z0 z0 []) (skp s (k+1)+1)):=by
 have hl:=lt_of_get h
 have e1:IntKind.i64.wrap (((k:Nat):Int)+1)=((k+1:Nat):Int):=by rw[wrapI (by omega)];rfl
 have c0:=blanks_d (gl:=gl) s (k+1) d hk hs
 have h1:=(byt 41 hl).2 h
 have h2:((skp s (k+1):Nat):Int)<((s.length:Nat):Int):=by omega
 generalize skp s (k+1)=j at *
 unfold Gives1
 refine fn_of_vc (nv:=9999) (cu:=[]) fits mixed Tryz.func157 rfl hoB rfl rfl rfl rfl ?_
 ((repeat' ((conv=>whnf);first|exact .intro|refine .ya ?_|refine .na ?_|refine .ys ?_|refine .ns ?_|refine .neg (fun _=>?_) (fun _=>?_)|refine .mk (fun _=>?_) (fun _=>?_)|refine .inr (X5 (c0.r [0] _) ?_)|refine .inl (.inr (X5 (c0.r [0] _) ?_))|refine .inl (X5 (c0.r [0] _) ?_)|(rw[e1])|refine .mk ?_ ?_|refine AK ?_|refine AT ?_|fail));all_goals conv=>whnf)
 ((repeat' first|exact rfl|((conv=>whnf);first|done|exact suL|refine And.intro ?_ ?_|fail));all_goals conv=>whnf)
 all_goals first
  | exact ceq (by rw[wrapI (by omega)];rfl)
  | (refine .inr ?_;repeat' first|exact .intro|exact .inr (.inl rfl)|exact lf0|exact ln0|((conv=>whnf);first|exact .intro|exact .inr (.inl rfl)|exact lf0|exact ln0|refine And.intro ?_ ?_|fail))
theorem call_args {p:Par} {s w:List UInt8} {k d:Nat} (hk:k<s.length) (hs:s.length≤200) (h:s[skp s (k+1)]?≠some 41) {tw:Nat→Rs Nd} (hf:Fwd s tw)
 (ha:∀ i,i≤s.length→Gives1 gl 177 [.c (.ptr 0 0)] s i d (argF p s tw i)) {r:Rs (List Nd)} (hr:argsF p s tw (s.length+1) [] (skp s (k+1))=r) :
 Gives1 gl 157 [.c (.ptr 0 0),.c (.d (.str w))] s k d (r.bind fun ks j=>.ok (.mk 9 0 w z0 z0 ks) j):=by
 have e1:IntKind.i64.wrap (((k:Nat):Int)+1)=((k+1:Nat):Int):=by rw[wrapI (by omega)];rfl
 have c0:=blanks_d (gl:=gl) s (k+1) d hk hs
 have hj:=skp_le (show k+1≤s.length from hk)
 have h1:¬ ((skp s (k+1):Nat):Int)<((s.length:Nat):Int)∨(((skp s (k+1):Nat):Int)<((s.length:Nat):Int)∧¬ (((s.getD ((skp s (k+1):Nat):Int).toNat 0).toNat:Nat):Int)=41):=by
  rcases Nat.lt_or_ge (skp s (k+1)) s.length with hl|hl
  ·exact .inr ⟨by omega,fun hh=>h ((byt 41 hl).1 hh)⟩
  ·exact .inl (by omega)
 generalize skp s (k+1)=j at *
 cases r with
 | ok ls jj =>
  unfold Gives1
  simp only[Rs.bind_ok]
  rcases h1 with h1|⟨h1,h2⟩
  all_goals
   refine fn_of_vc (nv:=9999) (cu:=[100007]) fits mixed Tryz.func157 rfl hoB rfl rfl rfl rfl ?_
   ((repeat' ((conv=>whnf);first|exact .intro|refine .ya ?_|refine .na ?_|refine .ys ?_|refine .ns ?_|refine .neg (fun _=>?_) (fun _=>?_)|refine .mk (fun _=>?_) (fun _=>?_)|refine .inr (X5 (c0.r [0] _) ?_)|refine .inl (.inr (X5 (c0.r [0] _) ?_))|refine .inl (X5 (c0.r [0] _) ?_)|(rw[e1])|refine .mk ?_ ?_|refine AK ?_|refine AT ?_|fail));all_goals conv=>whnf)
   refine ⟨{ σ:=Nat×List Nd,fr:=fun q=>[],ks:=[0,2],L:=fun q=>[(0,rdB s q.1 d),(2,.var [.d (iD 9),.d (iD 0),.d (.str w),.d (iD 0),.d (iD 0),.d (.v (.bool false)),.d (.v (.bool false)),.d (iD 0),.d (iD 0),.d (.v (.bool false)),.d (.v (.bool false)),.all 12 3] 38),(3,.rows 12 (Nd.csL q.2) 38)],ex:=1,I:=fun q=>q.1≤s.length∧q.2.length≤q.1∧∃ f,s.length - q.1<f∧argsF p s tw f q.2 q.1=.ok ls jj,μ:=fun q=>s.length - q.1 },⟨(j,[]),⟨hj,Nat.zero_le _,s.length+1,by omega,hr⟩,?_⟩,?_⟩
   ·((repeat' first|exact rfl|((conv=>whnf);first|done|exact suL|refine And.intro ?_ ?_|fail));all_goals conv=>whnf)
    all_goals exact ⟨12,_,rfl,by decide,Nat.le_refl _⟩
   ·rintro ⟨m,ks⟩ ⟨hm1,hm2,f,hm3,hm4⟩
    simp only at hm1 hm2 hm3 hm4
    obtain ⟨f,rfl⟩:∃ g,f=g+1:=⟨f - 1,by omega⟩
    unfold argsF at hm4
    have hax:=ha m hm1
    cases hx:argF p s tw m with
    | no q e=>rw[hx] at hm4;cases hm4
    | ok n i =>
     rw[hx] at hm4 hax
     simp only[Rs.bind_ok] at hm4
     obtain ⟨hi1,hi2⟩:=argF_fwd hf hm1 hx
     unfold Gives1 at hax
     have b1:=blanks_d (gl:=gl) s i d hi2 hs
     have hj2:=skp_le hi2
     have hsk:=skp_skp s i
     by_cases hc:s[skp s i]?=some 44
     ·rw[if_pos hc] at hm4
      have hl:=lt_of_get hc
      have g1:=(byt 44 hl).2 hc
      have g2:((skp s i:Nat):Int)<((s.length:Nat):Int):=by omega
      have hge:=le_skp s i
      generalize skp s i=x at *
      obtain ⟨k0,m0,t,a,b,ks0⟩:=n
      ((repeat' ((conv=>whnf);first|exact .intro|refine .ya ?_|refine .na ?_|refine .ys ?_|refine .ns ?_|refine .neg (fun _=>?_) (fun _=>?_)|refine .mk (fun _=>?_) (fun _=>?_)|refine .inr (X5 (hax.r [0] _) ?_)|refine .inl (.inr (X5 (hax.r [0] _) ?_))|refine .inl (X5 (hax.r [0] _) ?_)|refine .inr (X5 (b1.r [0] _) ?_)|refine .inl (.inr (X5 (b1.r [0] _) ?_))|refine .inl (X5 (b1.r [0] _) ?_)|(refine ⟨⟨rfl,by show ((Nd.csL ks).length+1) * 104≤140737488355328;rw[csL_len];omega,by show (Nd.csL ks).length+1≤maxLen;rw[csL_len];unfold maxLen;omega⟩,?_⟩)|refine .mk ?_ ?_|refine AK ?_|refine AT ?_|fail));all_goals conv=>whnf)
      all_goals
       refine ⟨(x+1,ks++[.mk k0 m0 t a b ks0]),⟨⟨hl,by show (ks++[_]).length≤x+1;rw[List.length_append];show ks.length+1≤x+1;omega,f,by show s.length - (x+1)<f;omega,hm4⟩,by show s.length - (x+1)<s.length - m;omega⟩,?_⟩
       ((repeat' first|exact rfl|((conv=>whnf);first|done|exact suL|refine And.intro ?_ ?_|fail));all_goals conv=>whnf)
       all_goals first
        | exact (csL_app ks [.mk k0 m0 t a b ks0]).symm
        | exact ceq (by rw[wrapI (by omega)];rfl)
     ·rw[if_neg hc] at hm4
      have g3:¬ ((skp s i:Nat):Int)<((s.length:Nat):Int)∨(((skp s i:Nat):Int)<((s.length:Nat):Int)∧¬ (((s.getD ((skp s i:Nat):Int).toNat 0).toNat:Nat):Int)=44):=by
       rcases Nat.lt_or_ge (skp s i) s.length with hl|hl
       ·exact .inr ⟨by omega,fun hh=>hc ((byt 44 hl).1 hh)⟩
       ·exact .inl (by omega)
      by_cases h41:s[skp s i]?=some 41
      ·rw[if_pos h41] at hm4
       have b2:=want_y (gl:=gl) (d:=d) hj2 hs (by rw[hsk];exact h41)
       rw[hsk] at b2
       obtain ⟨rfl,rfl⟩:ks++[n]=ls∧skp s i+1=jj:=by simpa using hm4
       generalize skp s i=x at *
       obtain ⟨k0,m0,t,a,b,ks0⟩:=n
       rcases g3 with g3|⟨g3,g4⟩
       all_goals
        ((repeat' ((conv=>whnf);first|exact .intro|refine .ya ?_|refine .na ?_|refine .ys ?_|refine .ns ?_|refine .neg (fun _=>?_) (fun _=>?_)|refine .mk (fun _=>?_) (fun _=>?_)|refine .inr (X5 (hax.r [0] _) ?_)|refine .inl (.inr (X5 (hax.r [0] _) ?_))|refine .inl (X5 (hax.r [0] _) ?_)|refine .inr (X5 (b1.r [0] _) ?_)|refine .inl (.inr (X5 (b1.r [0] _) ?_))|refine .inl (X5 (b1.r [0] _) ?_)|refine .inr (X5 (b2.r [0] _) ?_)|refine .inl (.inr (X5 (b2.r [0] _) ?_))|refine .inl (X5 (b2.r [0] _) ?_)|(refine ⟨⟨rfl,by show ((Nd.csL ks).length+1) * 104≤140737488355328;rw[csL_len];omega,by show (Nd.csL ks).length+1≤maxLen;rw[csL_len];unfold maxLen;omega⟩,?_⟩)|refine .mk ?_ ?_|refine AK ?_|refine AT ?_|fail));all_goals conv=>whnf)
        ((repeat' first|exact rfl|((conv=>whnf);first|done|exact suL|refine And.intro ?_ ?_|fail));all_goals conv=>whnf)
        all_goals (refine .inr ?_;repeat' first|exact .intro|exact .inr (.inl rfl)|exact lf0|exact ln0|((conv=>whnf);first|exact .intro|exact .inr (.inl rfl)|exact lf0|exact ln0|refine And.intro ?_ ?_|fail))
        all_goals exact .inr (.inl (congrArg (fun z=>C.d (.lst 12 z)) (csL_app ks [.mk k0 m0 t a b ks0]).symm))
      ·rw[if_neg h41] at hm4;cases hm4
 | no v e =>
  unfold Gives1
  simp only[Rs.bind_no]
  rcases h1 with h1|⟨h1,h2⟩
  all_goals
   refine fn_of_vc (nv:=9999) (cu:=[100007]) fits mixed Tryz.func157 rfl hoB rfl rfl rfl rfl ?_
   ((repeat' ((conv=>whnf);first|exact .intro|refine .ya ?_|refine .na ?_|refine .ys ?_|refine .ns ?_|refine .neg (fun _=>?_) (fun _=>?_)|refine .mk (fun _=>?_) (fun _=>?_)|refine .inr (X5 (c0.r [0] _) ?_)|refine .inl (.inr (X5 (c0.r [0] _) ?_))|refine .inl (X5 (c0.r [0] _) ?_)|(rw[e1])|refine .mk ?_ ?_|refine AK ?_|refine AT ?_|fail));all_goals conv=>whnf)
   refine ⟨{ σ:=Nat×List Nd,fr:=fun q=>[],ks:=[0,2],L:=fun q=>[(0,rdB s q.1 d),(2,.var [.d (iD 9),.d (iD 0),.d (.str w),.d (iD 0),.d (iD 0),.d (.v (.bool false)),.d (.v (.bool false)),.d (iD 0),.d (iD 0),.d (.v (.bool false)),.d (.v (.bool false)),.all 12 3] 38),(3,.rows 12 (Nd.csL q.2) 38)],ex:=1,I:=fun q=>q.1≤s.length∧q.2.length≤q.1∧∃ f,s.length - q.1<f∧argsF p s tw f q.2 q.1=.no v e,μ:=fun q=>s.length - q.1 },⟨(j,[]),⟨hj,Nat.zero_le _,s.length+1,by omega,hr⟩,?_⟩,?_⟩
   ·((repeat' first|exact rfl|((conv=>whnf);first|done|exact suL|refine And.intro ?_ ?_|fail));all_goals conv=>whnf)
    all_goals exact ⟨12,_,rfl,by decide,Nat.le_refl _⟩
   ·rintro ⟨m,ks⟩ ⟨hm1,hm2,f,hm3,hm4⟩
    simp only at hm1 hm2 hm3 hm4
    obtain ⟨f,rfl⟩:∃ g,f=g+1:=⟨f - 1,by omega⟩
    unfold argsF at hm4
    have hax:=ha m hm1
    cases hx:argF p s tw m with
    | no q0 e0 =>
     rw[hx] at hm4 hax
     cases hm4
     unfold Gives1 at hax
     ((repeat' ((conv=>whnf);first|exact .intro|refine .ya ?_|refine .na ?_|refine .ys ?_|refine .ns ?_|refine .neg (fun _=>?_) (fun _=>?_)|refine .mk (fun _=>?_) (fun _=>?_)|refine .inr (X5 (hax.r [0] _) ?_)|refine .inl (.inr (X5 (hax.r [0] _) ?_))|refine .inl (X5 (hax.r [0] _) ?_)|refine .mk ?_ ?_|refine AK ?_|refine AT ?_|fail));all_goals conv=>whnf)
     ((repeat' first|exact rfl|((conv=>whnf);first|done|exact suL|refine And.intro ?_ ?_|fail));all_goals conv=>whnf)
    | ok n i =>
     rw[hx] at hm4 hax
     simp only[Rs.bind_ok] at hm4
     obtain ⟨hi1,hi2⟩:=argF_fwd hf hm1 hx
     unfold Gives1 at hax
     have b1:=blanks_d (gl:=gl) s i d hi2 hs
     have hj2:=skp_le hi2
     have hsk:=skp_skp s i
     by_cases hc:s[skp s i]?=some 44
     ·rw[if_pos hc] at hm4
      have hl:=lt_of_get hc
      have g1:=(byt 44 hl).2 hc
      have g2:((skp s i:Nat):Int)<((s.length:Nat):Int):=by omega
      have hge:=le_skp s i
      generalize skp s i=x at *
      obtain ⟨k0,m0,t,a,b,ks0⟩:=n
      ((repeat' ((conv=>whnf);first|exact .intro|refine .ya ?_|refine .na ?_|refine .ys ?_|refine .ns ?_|refine .neg (fun _=>?_) (fun _=>?_)|refine .mk (fun _=>?_) (fun _=>?_)|refine .inr (X5 (hax.r [0] _) ?_)|refine .inl (.inr (X5 (hax.r [0] _) ?_))|refine .inl (X5 (hax.r [0] _) ?_)|refine .inr (X5 (b1.r [0] _) ?_)|refine .inl (.inr (X5 (b1.r [0] _) ?_))|refine .inl (X5 (b1.r [0] _) ?_)|(refine ⟨⟨rfl,by show ((Nd.csL ks).length+1) * 104≤140737488355328;rw[csL_len];omega,by show (Nd.csL ks).length+1≤maxLen;rw[csL_len];unfold maxLen;omega⟩,?_⟩)|refine .mk ?_ ?_|refine AK ?_|refine AT ?_|fail));all_goals conv=>whnf)
      all_goals
       refine ⟨(x+1,ks++[.mk k0 m0 t a b ks0]),⟨⟨hl,by show (ks++[_]).length≤x+1;rw[List.length_append];show ks.length+1≤x+1;omega,f,by show s.length - (x+1)<f;omega,hm4⟩,by show s.length - (x+1)<s.length - m;omega⟩,?_⟩
       ((repeat' first|exact rfl|((conv=>whnf);first|done|exact suL|refine And.intro ?_ ?_|fail));all_goals conv=>whnf)
       all_goals first
        | exact (csL_app ks [.mk k0 m0 t a b ks0]).symm
        | exact ceq (by rw[wrapI (by omega)];rfl)
     ·rw[if_neg hc] at hm4
      have g3:¬ ((skp s i:Nat):Int)<((s.length:Nat):Int)∨(((skp s i:Nat):Int)<((s.length:Nat):Int)∧¬ (((s.getD ((skp s i:Nat):Int).toNat 0).toNat:Nat):Int)=44):=by
       rcases Nat.lt_or_ge (skp s i) s.length with hl|hl
       ·exact .inr ⟨by omega,fun hh=>hc ((byt 44 hl).1 hh)⟩
       ·exact .inl (by omega)
      by_cases h41:s[skp s i]?=some 41
      ·rw[if_pos h41] at hm4
       cases hm4
      ·rw[if_neg h41] at hm4
       cases hm4
       have b2:=want_n (gl:=gl) (d:=d) hj2 hs (by rw[hsk];exact h41)
       rw[hsk] at b2
       generalize skp s i=x at *
       obtain ⟨k0,m0,t,a,b,ks0⟩:=n
       rcases g3 with g3|⟨g3,g4⟩
       all_goals
        ((repeat' ((conv=>whnf);first|exact .intro|refine .ya ?_|refine .na ?_|refine .ys ?_|refine .ns ?_|refine .neg (fun _=>?_) (fun _=>?_)|refine .mk (fun _=>?_) (fun _=>?_)|refine .inr (X5 (hax.r [0] _) ?_)|refine .inl (.inr (X5 (hax.r [0] _) ?_))|refine .inl (X5 (hax.r [0] _) ?_)|refine .inr (X5 (b1.r [0] _) ?_)|refine .inl (.inr (X5 (b1.r [0] _) ?_))|refine .inl (X5 (b1.r [0] _) ?_)|refine .inr (X5 (b2.r [0] _) ?_)|refine .inl (.inr (X5 (b2.r [0] _) ?_))|refine .inl (X5 (b2.r [0] _) ?_)|(refine ⟨⟨rfl,by show ((Nd.csL ks).length+1) * 104≤140737488355328;rw[csL_len];omega,by show (Nd.csL ks).length+1≤maxLen;rw[csL_len];unfold maxLen;omega⟩,?_⟩)|refine .mk ?_ ?_|refine AK ?_|refine AT ?_|fail));all_goals conv=>whnf)
        ((repeat' first|exact rfl|((conv=>whnf);first|done|exact suL|refine And.intro ?_ ?_|fail));all_goals conv=>whnf)
end Go.Proofs.YtcdjjjokniinkaaGreatDoor
end
