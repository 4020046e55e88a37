/- Proved: a part of what the law is proved with (the reckoner, contracts of functions, plain laws). Conditions: as each says. -/
import Derived.Test.YtaheflnnigocgaaGreatDoorHCb
import Derived.Test.YtaheflnnigocgaaGreatDoorHCf
import Derived.Test.YtaheflnnigocgaaGreatDoorHFp
import Derived.Test.YtaheflnnigocgaaGreatDoorHIn
import Derived.Test.YtaheflnnigocgaaGreatDoorHOg
import Derived.Test.YtaheflnnigocgaaGreatDoorHPe
import Derived.Test.YtaheflnnigocgaaGreatDoorHTjh
import Derived.Test.YtaheflnnigocgaaGreatDoorHTji
import Derived.Test.YtaheflnnigocgaaGreatDoorHTjs
section
namespace Go.Proofs.YtaheflnnigocgaaGreatDoor
open Go Go.EYtaheflnnigocgaaGreatDoor
set_option maxRecDepth 100000
set_option maxHeartbeats 4000000
variable {gl:List (Nat×List D)}
def textZ (rf:List UInt8→Option Rf) (s:List UInt8):Int:=if 200<s.length then 4 else if s.head?=some 61 then (match parseZ rf s with|.ok _ _=>0|.no _ _=>2) else 0
theorem gText_k (s:List UInt8) (h:200<s.length):FnP Tryz.prog gl 33 [.str s] (erD 4):=by
 have h1:((s.length:Nat):Int)>200:=by omega
 refine fnP_of_vc (nv:=9999) (cu:=[]) fits mixed Tryz.func33 rfl hoB rfl ?_
 ((repeat' ((conv=>whnf);first|exact .intro|refine .ya ?_|refine .na ?_|refine .ys ?_|refine .ns ?_|refine .neg (fun _=>?_) (fun _=>?_)|refine .mk (fun _=>?_) (fun _=>?_)|refine .mk ?_ ?_|refine AK ?_|refine AT ?_|fail));all_goals conv=>whnf)
 exact LeD.rfl
theorem gText_c (s:List UInt8) (h:¬ 200<s.length) (h6:s.head?≠some 61):FnP Tryz.prog gl 33 [.str s] (.v .nilIface):=by
 have h1:¬ ((s.length:Nat):Int)>200:=by omega
 have c0:=Constant_d (gl:=gl) s (b:=true) (by simp[h6])
 refine fnP_of_vc (nv:=9999) (cu:=[]) fits mixed Tryz.func33 rfl hoB rfl ?_
 ((repeat' ((conv=>whnf);first|exact .intro|refine .ya ?_|refine .na ?_|refine .ys ?_|refine .ns ?_|refine .neg (fun _=>?_) (fun _=>?_)|refine .mk (fun _=>?_) (fun _=>?_)|refine .inl (.inl (X1 (c0) ?_))|refine .inl (X1 (c0) ?_)|refine X1 (c0) ?_|refine .mk ?_ ?_|refine AK ?_|refine AT ?_|fail));all_goals conv=>whnf)
 exact LeD.rfl
theorem gText_p (te:TypeId) (pe:Value) (hV:Has gl (glV te pe)) (hl:Go.EYtaheflnnigocgaaGreatDoor.look gl 0=some lvAll) {rf:List UInt8→Option Rf} (hR:RefsOk rf) (s:List UInt8) (h:¬ 200<s.length) (h6:s.head?=some 61) {n:Nd} {k:Nat} (hp:parseZ rf s=.ok n k):FnP Tryz.prog gl 33 [.str s] (.v .nilIface):=by
 have h1:¬ ((s.length:Nat):Int)>200:=by omega
 have c0:=Constant_d (gl:=gl) s (b:=false) (by simp[h6])
 have c1:=Parse_d te pe hV hl hR s
 rw[hp] at c1
 unfold parseD at c1
 obtain ⟨k0,m0,t0,a0,b0,ks0⟩:=n
 refine fnP_of_vc (nv:=9999) (cu:=[]) fits mixed Tryz.func33 rfl hoB rfl ?_
 ((repeat' ((conv=>whnf);first|exact .intro|refine .ya ?_|refine .na ?_|refine .ys ?_|refine .ns ?_|refine .neg (fun _=>?_) (fun _=>?_)|refine .mk (fun _=>?_) (fun _=>?_)|refine .inl (.inl (X1 (by first|exact c0|exact c1) ?_))|refine .inl (X1 (by first|exact c0|exact c1) ?_)|refine X1 (by first|exact c0|exact c1) ?_|refine .mk ?_ ?_|refine AK ?_|refine AT ?_|fail));all_goals conv=>whnf)
 exact LeD.rfl
theorem gText_q (te:TypeId) (pe:Value) (hV:Has gl (glV te pe)) (hl:Go.EYtaheflnnigocgaaGreatDoor.look gl 0=some lvAll) {rf:List UInt8→Option Rf} (hR:RefsOk rf) (s:List UInt8) (h:¬ 200<s.length) (h6:s.head?=some 61) {a:Nat} {e:Int} (hp:parseZ rf s=.no a e):FnP Tryz.prog gl 33 [.str s] (erD 2):=by
 have h1:¬ ((s.length:Nat):Int)>200:=by omega
 have c0:=Constant_d (gl:=gl) s (b:=false) (by simp[h6])
 have c1:=Parse_d te pe hV hl hR s
 rw[hp] at c1
 unfold parseD at c1
 refine fnP_of_vc (nv:=9999) (cu:=[]) fits mixed Tryz.func33 rfl hoB rfl ?_
 ((repeat' ((conv=>whnf);first|exact .intro|refine .ya ?_|refine .na ?_|refine .ys ?_|refine .ns ?_|refine .neg (fun _=>?_) (fun _=>?_)|refine .mk (fun _=>?_) (fun _=>?_)|refine .inl (.inl (X1 (by first|exact c0|exact c1) ?_))|refine .inl (X1 (by first|exact c0|exact c1) ?_)|refine X1 (by first|exact c0|exact c1) ?_|refine .mk ?_ ?_|refine AK ?_|refine AT ?_|fail));all_goals conv=>whnf)
 exact LeD.rfl
theorem gText_d (te:TypeId) (pe:Value) (hV:Has gl (glV te pe)) (hl:Go.EYtaheflnnigocgaaGreatDoor.look gl 0=some lvAll) {rf:List UInt8→Option Rf} (hR:RefsOk rf) (s:List UInt8) :
 (textZ rf s=0∧FnP Tryz.prog gl 33 [.str s] (.v .nilIface))∨∃ e,e≠0∧textZ rf s=e∧FnP Tryz.prog gl 33 [.str s] (erD e):=by
 unfold textZ
 by_cases h:200<s.length
 ·rw[if_pos h];exact .inr ⟨4,by decide,rfl,gText_k s h⟩
 ·rw[if_neg h]
  by_cases h6:s.head?=some 61
  ·rw[if_pos h6]
   cases hp:parseZ rf s with
   | ok n k=>exact .inl ⟨rfl,gText_p te pe hV hl hR s h h6 hp⟩
   | no a e=>exact .inr ⟨2,by decide,rfl,gText_q te pe hV hl hR s h h6 hp⟩
  ·rw[if_neg h6];exact .inl ⟨rfl,gText_c s h h6⟩
end Go.Proofs.YtaheflnnigocgaaGreatDoor
end
section
namespace Go.Proofs.YtaheflnnigocgaaGreatDoor
open Go Go.EYtaheflnnigocgaaGreatDoor
set_option maxRecDepth 100000
set_option maxHeartbeats 4000000
variable {gl:List (Nat×List D)}
def stepZ (rf:List UInt8→Option Rf) (l:List Fl) (k:Nat):Int:=match l[k]? with
 | none=>0
 | some f=>if okP f.c f.r then if (match l[k - 1]? with|some g=>decide (0<k→lessF g f)|none=>true)=true then if f.t=[] then 3 else textZ rf f.t else 5 else 1
theorem stepZ_at {rf:List UInt8→Option Rf} {l:List Fl} {k:Nat} (hlt:k<l.length):stepZ rf l k=if okP l[k].c l[k].r then if 0<k→lessF (l[k - 1]'(by omega)) l[k] then if l[k].t=[] then 3 else textZ rf l[k].t else 5 else 1:=by
 unfold stepZ
 rw[List.getElem?_eq_getElem hlt]
 simp only[]
 rw[List.getElem?_eq_getElem (show k - 1<l.length by omega)]
 simp only[decide_eq_true_eq]
theorem gCheck_m (te:TypeId) (pe:Value) (hV:Has gl (glV te pe)) (hl:Go.EYtaheflnnigocgaaGreatDoor.look gl 0=some lvAll) {rf:List UInt8→Option Rf} (hR:RefsOk rf) (l:List Fl) (h:l.length≤200) (m:Nat) (r:D)
 (hm:m≤l.length) (h0:∀ k,k<m→stepZ rf l k=0) (hr:(m=l.length∧r=.v .nilIface)∨(m<l.length∧∃ e,e≠0∧stepZ rf l m=e∧r=erD e)):FnP Tryz.prog gl 23 [.lst 3 (l.map flD)] r:=by
 have h1:¬ (((l.map flD).length:Nat):Int)>200:=by rw[List.length_map];omega
 refine fnP_of_vc (nv:=9999) (cu:=[]) fits mixed Tryz.func23 rfl hoB rfl ?_
 ((repeat' ((conv=>whnf);first|exact .intro|refine .ya ?_|refine .na ?_|refine .ys ?_|refine .ns ?_|refine .neg (fun _=>?_) (fun _=>?_)|refine .mk (fun _=>?_) (fun _=>?_)|refine .mk ?_ ?_|refine AK ?_|refine AT ?_|fail));all_goals conv=>whnf)
 refine ⟨{ σ:=Nat,fr:=fun k=>[(12,.c (.d (iD (k:Int))))],ks:=[],L:=fun k=>[],ex:=0,I:=fun k=>k≤m,μ:=fun k=>l.length - k },⟨0,Nat.zero_le _,?_⟩,fun (k:Nat) hk=>?_⟩
 ·((repeat' first|exact rfl|((conv=>whnf);first|done|exact suL|refine And.intro ?_ ?_|fail));all_goals conv=>whnf)
 ·replace hk:k≤m:=hk
  have e0:IntKind.i64.wrap ((k:Int)+1)=((k+1:Nat):Int):=by rw[wrapI (by omega)];rfl
  by_cases hlt:k<l.length
  ·have h2:(k:Int)<((l.map flD).length:Nat):=by rw[List.length_map];omega
   have hs:=stepZ_at (rf:=rf) hlt
   have hk1:k - 1<l.length:=by omega
   by_cases ho:okP l[k].c l[k].r
   ·have c1:=Check_s (gl:=gl) ho
    rw[if_pos ho] at hs
    have c3:=Less_d (gl:=gl) (l[k - 1]'hk1).c (l[k - 1]'hk1).r l[k].c l[k].r
    have g1:=get_map (f:=flD) hlt
    have g2:=get_map (f:=flD) (show k - 1<l.length by omega)
    have e1:0<k→IntKind.i64.wrap ((k:Int) - 1)=((k - 1:Nat):Int):=fun _=>by rw[wrapI (by omega)];omega
    have stop:stepZ rf l k≠0→∃ e,e≠0∧stepZ rf l k=e∧r=erD e:=fun hn=>by
     have hkm:k=m:=Classical.byContradiction fun hh=>hn (h0 k (by omega))
     subst hkm
     rcases hr with ⟨hr,_⟩|⟨_,hr⟩
     ·omega
     ·exact hr
    by_cases hb:0<k→lessF (l[k - 1]'hk1) l[k]
    ·rw[if_pos hb] at hs
     have hcase:((k:Int)>0∧lessF (l[k - 1]'hk1) l[k])∨¬ (k:Int)>0:=by
      by_cases hp:(k:Int)>0
      ·exact .inl ⟨hp,hb (by omega)⟩
      ·exact .inr hp
     by_cases ht:l[k].t=[]
     ·rw[if_pos ht] at hs
      obtain ⟨e,_,he,rfl⟩:=stop (by omega)
      obtain rfl:e=3:=by omega
      clear hs h0 hr hm stop hb
      rcases hcase with ⟨hp,hls⟩|hp
      ·replace e1:=e1 (by omega)
       ((repeat' ((conv=>whnf);first|exact .intro|refine .ya ?_|refine .na ?_|refine .ys ?_|refine .ns ?_|refine .neg (fun _=>?_) (fun _=>?_)|refine .mk (fun _=>?_) (fun _=>?_)|refine .inl (.inl (X1 (by first|exact c1|exact c3) ?_))|refine .inl (X1 (by first|exact c1|exact c3) ?_)|refine X1 (by first|exact c1|exact c3) ?_|(first|rw[e1]|refine ⟨Int.natCast_nonneg _,_,g1,?_⟩|refine ⟨Int.natCast_nonneg _,_,g2,?_⟩)|refine .mk ?_ ?_|refine AK ?_|refine AT ?_|fail));all_goals conv=>whnf)
       exact LeD.rfl
      ·clear e1
       ((repeat' ((conv=>whnf);first|exact .intro|refine .ya ?_|refine .na ?_|refine .ys ?_|refine .ns ?_|refine .neg (fun _=>?_) (fun _=>?_)|refine .mk (fun _=>?_) (fun _=>?_)|refine .inl (.inl (X1 (by first|exact c1|exact c3) ?_))|refine .inl (X1 (by first|exact c1|exact c3) ?_)|refine X1 (by first|exact c1|exact c3) ?_|(first|refine ⟨Int.natCast_nonneg _,_,g1,?_⟩|refine ⟨Int.natCast_nonneg _,_,g2,?_⟩)|refine .mk ?_ ?_|refine AK ?_|refine AT ?_|fail));all_goals conv=>whnf)
       exact LeD.rfl
     ·rw[if_neg ht] at hs
      rcases gText_d te pe hV hl hR l[k].t with ⟨hz,c4⟩|⟨e,he,hz,c4⟩
      ·have hkm:k<m:=by
        rcases hr with ⟨hr,_⟩|⟨_,e,he,hr,_⟩
        ·omega
        ·refine Nat.lt_of_le_of_ne hk fun hh=>?_
         subst hh
         omega
       clear hs h0 hr hm stop hb
       rcases hcase with ⟨hp,hls⟩|hp
       ·replace e1:=e1 (by omega)
        ((repeat' ((conv=>whnf);first|exact .intro|refine .ya ?_|refine .na ?_|refine .ys ?_|refine .ns ?_|refine .neg (fun _=>?_) (fun _=>?_)|refine .mk (fun _=>?_) (fun _=>?_)|refine .inl (.inl (X1 (by first|exact c1|exact c3|exact c4) ?_))|refine .inl (X1 (by first|exact c1|exact c3|exact c4) ?_)|refine X1 (by first|exact c1|exact c3|exact c4) ?_|(first|rw[e1]|refine ⟨Int.natCast_nonneg _,_,g1,?_⟩|refine ⟨Int.natCast_nonneg _,_,g2,?_⟩)|refine .mk ?_ ?_|refine AK ?_|refine AT ?_|fail));all_goals conv=>whnf)
        refine ⟨k+1,⟨hkm,by show l.length - (k+1)<l.length - k;omega⟩,?_⟩
        ((repeat' first|exact rfl|((conv=>whnf);first|done|exact suL|refine And.intro ?_ ?_|fail));all_goals conv=>whnf)
        exact ceq e0
       ·clear e1
        ((repeat' ((conv=>whnf);first|exact .intro|refine .ya ?_|refine .na ?_|refine .ys ?_|refine .ns ?_|refine .neg (fun _=>?_) (fun _=>?_)|refine .mk (fun _=>?_) (fun _=>?_)|refine .inl (.inl (X1 (by first|exact c1|exact c3|exact c4) ?_))|refine .inl (X1 (by first|exact c1|exact c3|exact c4) ?_)|refine X1 (by first|exact c1|exact c3|exact c4) ?_|(first|refine ⟨Int.natCast_nonneg _,_,g1,?_⟩|refine ⟨Int.natCast_nonneg _,_,g2,?_⟩)|refine .mk ?_ ?_|refine AK ?_|refine AT ?_|fail));all_goals conv=>whnf)
        refine ⟨k+1,⟨hkm,by show l.length - (k+1)<l.length - k;omega⟩,?_⟩
        ((repeat' first|exact rfl|((conv=>whnf);first|done|exact suL|refine And.intro ?_ ?_|fail));all_goals conv=>whnf)
        exact ceq e0
      ·obtain ⟨e',_,he',rfl⟩:=stop (by omega)
       obtain rfl:e'=e:=by omega
       clear hs h0 hr hm stop hb
       rcases hcase with ⟨hp,hls⟩|hp
       ·replace e1:=e1 (by omega)
        ((repeat' ((conv=>whnf);first|exact .intro|refine .ya ?_|refine .na ?_|refine .ys ?_|refine .ns ?_|refine .neg (fun _=>?_) (fun _=>?_)|refine .mk (fun _=>?_) (fun _=>?_)|refine .inl (.inl (X1 (by first|exact c1|exact c3|exact c4) ?_))|refine .inl (X1 (by first|exact c1|exact c3|exact c4) ?_)|refine X1 (by first|exact c1|exact c3|exact c4) ?_|(first|rw[e1]|refine ⟨Int.natCast_nonneg _,_,g1,?_⟩|refine ⟨Int.natCast_nonneg _,_,g2,?_⟩)|refine .mk ?_ ?_|refine AK ?_|refine AT ?_|fail));all_goals conv=>whnf)
        exact LeD.rfl
       ·clear e1
        ((repeat' ((conv=>whnf);first|exact .intro|refine .ya ?_|refine .na ?_|refine .ys ?_|refine .ns ?_|refine .neg (fun _=>?_) (fun _=>?_)|refine .mk (fun _=>?_) (fun _=>?_)|refine .inl (.inl (X1 (by first|exact c1|exact c3|exact c4) ?_))|refine .inl (X1 (by first|exact c1|exact c3|exact c4) ?_)|refine X1 (by first|exact c1|exact c3|exact c4) ?_|(first|refine ⟨Int.natCast_nonneg _,_,g1,?_⟩|refine ⟨Int.natCast_nonneg _,_,g2,?_⟩)|refine .mk ?_ ?_|refine AK ?_|refine AT ?_|fail));all_goals conv=>whnf)
        exact LeD.rfl
    ·rw[if_neg hb] at hs
     obtain ⟨e,_,he,rfl⟩:=stop (by omega)
     obtain rfl:e=5:=by omega
     have hp:(k:Int)>0:=Classical.byContradiction fun hh=>hb fun h=>by omega
     have hls:¬ lessF (l[k - 1]'hk1) l[k]:=fun hh=>hb fun _=>hh
     replace e1:=e1 (by omega)
     clear hs h0 hr hk hm stop hb
     ((repeat' ((conv=>whnf);first|exact .intro|refine .ya ?_|refine .na ?_|refine .ys ?_|refine .ns ?_|refine .neg (fun _=>?_) (fun _=>?_)|refine .mk (fun _=>?_) (fun _=>?_)|refine .inl (.inl (X1 (by first|exact c1|exact c3) ?_))|refine .inl (X1 (by first|exact c1|exact c3) ?_)|refine X1 (by first|exact c1|exact c3) ?_|(first|rw[e1]|refine ⟨Int.natCast_nonneg _,_,g1,?_⟩|refine ⟨Int.natCast_nonneg _,_,g2,?_⟩)|refine .mk ?_ ?_|refine AK ?_|refine AT ?_|fail));all_goals conv=>whnf)
     exact LeD.rfl
   ·have c1:=Check_n (gl:=gl) ho
    rw[if_neg ho] at hs
    have hkm:k=m:=Classical.byContradiction fun hn=>by have:=h0 k (by omega);omega
    subst hkm
    obtain ⟨e,_,he,rfl⟩:∃ e,e≠0∧stepZ rf l k=e∧r=erD e:=by
     rcases hr with ⟨hr,_⟩|⟨_,hr⟩
     ·omega
     ·exact hr
    obtain rfl:e=1:=by omega
    ((repeat' ((conv=>whnf);first|exact .intro|refine .ya ?_|refine .na ?_|refine .ys ?_|refine .ns ?_|refine .neg (fun _=>?_) (fun _=>?_)|refine .mk (fun _=>?_) (fun _=>?_)|refine .inl (.inl (X1 (c1) ?_))|refine .inl (X1 (c1) ?_)|refine X1 (c1) ?_|(refine ⟨Int.natCast_nonneg _,_,get_map hlt,?_⟩)|refine .mk ?_ ?_|refine AK ?_|refine AT ?_|fail));all_goals conv=>whnf)
    exact LeD.rfl
  ·have h2:¬ (k:Int)<((l.map flD).length:Nat):=by rw[List.length_map];omega
   have hkl:k=l.length:=by omega
   obtain rfl:r=.v .nilIface:=by
    rcases hr with ⟨_,hr⟩|⟨hr,_⟩
    ·exact hr
    ·omega
   ((repeat' ((conv=>whnf);first|exact .intro|refine .ya ?_|refine .na ?_|refine .ys ?_|refine .ns ?_|refine .neg (fun _=>?_) (fun _=>?_)|refine .mk (fun _=>?_) (fun _=>?_)|refine .mk ?_ ?_|refine AK ?_|refine AT ?_|fail));all_goals conv=>whnf)
   exact LeD.rfl
def goodZ (rf:List UInt8→Option Rf) (l:List Fl):Prop:=l.length≤200∧∀ k,k<l.length→stepZ rf l k=0
theorem gCheck_k (l:List Fl) (h:200<l.length):FnP Tryz.prog gl 23 [.lst 3 (l.map flD)] (erD 4):=by
 have h1:(((l.map flD).length:Nat):Int)>200:=by rw[List.length_map];omega
 refine fnP_of_vc (nv:=9999) (cu:=[]) fits mixed Tryz.func23 rfl hoB rfl ?_
 ((repeat' ((conv=>whnf);first|exact .intro|refine .ya ?_|refine .na ?_|refine .ys ?_|refine .ns ?_|refine .neg (fun _=>?_) (fun _=>?_)|refine .mk (fun _=>?_) (fun _=>?_)|refine .mk ?_ ?_|refine AK ?_|refine AT ?_|fail));all_goals conv=>whnf)
 exact LeD.rfl
theorem first_of {p:Nat→Prop} [DecidablePred p]:∀ n:Nat,(∀ k,k<n→p k)∨∃ m,m<n∧(∀ k,k<m→p k)∧¬ p m
 | 0=>.inl fun k h=>by omega
 | n+1=>by
  rcases first_of (p:=p) n with h|⟨m,h1,h2,h3⟩
  ·by_cases hn:p n
   ·exact .inl fun k hk=>by rcases Nat.lt_succ_iff_lt_or_eq.1 hk with hk|rfl;exact h k hk;exact hn
   ·exact .inr ⟨n,Nat.lt_succ_self n,h,hn⟩
  ·exact .inr ⟨m,by omega,h2,h3⟩
theorem gCheck_d (te:TypeId) (pe:Value) (hV:Has gl (glV te pe)) (hl:Go.EYtaheflnnigocgaaGreatDoor.look gl 0=some lvAll) {rf:List UInt8→Option Rf} (hR:RefsOk rf) (l:List Fl) :
 (goodZ rf l∧FnP Tryz.prog gl 23 [.lst 3 (l.map flD)] (.v .nilIface))∨(¬ goodZ rf l∧∃ e,e≠0∧FnP Tryz.prog gl 23 [.lst 3 (l.map flD)] (erD e)):=by
 by_cases h:l.length≤200
 ·rcases first_of (p:=fun k=>stepZ rf l k=0) l.length with h0|⟨m,h1,h2,h3⟩
  ·exact .inl ⟨⟨h,h0⟩,gCheck_m te pe hV hl hR l h l.length _ (Nat.le_refl _) h0 (.inl ⟨rfl,rfl⟩)⟩
  ·exact .inr ⟨fun hg=>h3 (hg.2 m h1),_,h3,gCheck_m te pe hV hl hR l h m _ (Nat.le_of_lt h1) h2 (.inr ⟨h1,_,h3,rfl,rfl⟩)⟩
 ·exact .inr ⟨fun hg=>h hg.1,4,by decide,gCheck_k l (by omega)⟩
end Go.Proofs.YtaheflnnigocgaaGreatDoor
end
section
namespace Go.Proofs.YtaheflnnigocgaaGreatDoor
open Go Go.RowKit Go.EYtaheflnnigocgaaGreatDoor
set_option maxRecDepth 100000
set_option maxHeartbeats 40000000
variable {gl:List (Nat×List D)}
def gridC:List Cl:=(List.range 26).flatMap fun i=>(List.range 99).map fun j=>(((i+1:Nat):Int),((j+1:Nat):Int))
theorem gridC_len:gridC.length=2574:=by decide +kernel
theorem gridC_mem {c:Cl} (h:okP c.1 c.2):c ∈ gridC:=by
 obtain ⟨a,b⟩:=c
 unfold okP at h
 simp only at h
 exact List.mem_flatMap.2 ⟨(a - 1).toNat,List.mem_range.2 (by omega),List.mem_map.2 ⟨(b - 1).toNat,List.mem_range.2 (by omega),Prod.ext (by show (((a - 1).toNat+1:Nat):Int)=a;omega) (by show (((b - 1).toNat+1:Nat):Int)=b;omega)⟩⟩
theorem refsZ_in {n:Nd} {box:Prop} (hf:frmN n box):∀ p ∈ refsZ n,okP p.1 p.2:=fun p hp=>(cellsN_few n hf).2 p (sortC_mem.1 (dedC_mem.1 hp))
theorem refsZ_up (n:Nd):(refsZ n).Pairwise lesP:=dedC_rise (sortC_sorted _)
theorem refsZ_few {n:Nd} {box:Prop} (hf:frmN n box):(refsZ n).length≤2574:=by
 rw[← gridC_len]
 refine nodup_len ((refsZ_up n).imp fun {a b} hab e=>?_) fun x hx=>gridC_mem (refsZ_in hf x hx)
 subst e
 unfold lesP at hab
 omega
def rdZ:Rd:=⟨fun t=>decide (t.head?=some 61),fun t=>match parseZ rfZ t with
 | .ok n _=>n
 | .no _ _=>n00,fun t=>match parseZ rfZ t with
 | .ok n _=>refsZ n
 | .no _ _=>[]⟩
abbrev gZ (l:List Fl):Prop:=goodZ rfZ l
theorem gT {l:List Fl} (h:gZ l) {f:Fl} (hf:f ∈ l):f.t≠[]∧textZ rfZ f.t=0∧okP f.c f.r:=by
 obtain ⟨k,hk,rfl⟩:=List.getElem_of_mem hf
 have h1:=h.2 k hk
 rw[stepZ_at hk] at h1
 split at h1
 ·rename_i h0
  split at h1
  ·split at h1
   ·omega
   ·rename_i h2
    exact ⟨h2,h1,h0⟩
  ·omega
 ·omega
theorem gUp {l:List Fl} (h:gZ l):(l.map clF).Pairwise les:=by
 rw[List.pairwise_iff_getElem]
 have key:∀ (j i:Nat) (hi:i<j) (hj:j<l.length),lessF (l[i]'(by omega)) l[j]:=by
  intro j
  induction j with
  | zero=>intro i hi;omega
  | succ j ih =>
   intro i hi hj
   have h1:=h.2 (j+1) hj
   rw[stepZ_at hj] at h1
   have h2:lessF (l[j]'(by omega)) l[j+1]:=by
    split at h1
    ·split at h1
     ·rename_i h3;exact h3 (by omega)
     ·omega
    ·omega
   rcases Nat.lt_succ_iff_lt_or_eq.1 hi with h3|rfl
   ·have h4:=ih i h3 (by omega)
    unfold lessF at *
    omega
   ·exact h2
 intro i j hi hj hij
 rw[List.length_map] at hi hj
 have h1:=key j i hij hj
 rw[List.getElem_map,List.getElem_map]
 unfold lessF at h1
 unfold les
 exact h1
theorem gNd {l:List Fl} (h:gZ l):(l.map clF).Nodup:=(gUp h).imp fun {a b} (hab:les a b) (e:a=b)=>les_irr b (by rwa [e] at hab)
theorem gRead {t:List UInt8} (h:textZ rfZ t=0):t.head?=some 61→∃ n i,parseZ rfZ t=.ok n i∧frmN n False∧cntN n≤200:=fun h61=>by
 unfold textZ at h
 by_cases h200:200<t.length
 ·rw[if_pos h200] at h;omega
 ·simp only[if_neg h200,h61] at h
  cases hp:parseZ rfZ t with
  | no a e=>rw[hp] at h;exact absurd h (by rw[if_pos trivial];show (2:Int)≠0;decide)
  | ok n i =>
   obtain ⟨h1,_,h2,_⟩:=parse_short hp
   exact ⟨n,i,rfl,h1,h2⟩
abbrev ntZ (l:List Fl):Nt:=ntL rdZ l
theorem on_few (l:List Fl) (c:Cl):((ntZ l).on c).length≤2700∧∀ y ∈ (ntZ l).on c,okP y.1 y.2:=by
 show (match (fsL rdZ l).find? fun f=>decide (clF f=c) with
  | some f=>rdZ.on f.t
  | none=>[]).length≤2700∧∀ y ∈ (match (fsL rdZ l).find? fun f=>decide (clF f=c) with
  | some f=>rdZ.on f.t
  | none=>[]),okP y.1 y.2
 cases (fsL rdZ l).find? (fun f=>decide (clF f=c)) with
 | none=>exact ⟨Nat.zero_le _,fun _ h=>nomatch h⟩
 | some f =>
  show (match parseZ rfZ f.t with
   | .ok n _=>refsZ n
   | .no _ _=>[]).length≤2700∧∀ y ∈ (match parseZ rfZ f.t with
   | .ok n _=>refsZ n
   | .no _ _=>[]),okP y.1 y.2
  cases hp:parseZ rfZ f.t with
  | no a e=>exact ⟨Nat.zero_le _,fun _ h=>nomatch h⟩
  | ok n i =>
   obtain ⟨h1,_⟩:=parse_short hp
   exact ⟨Nat.le_trans (refsZ_few h1) (by decide),refsZ_in h1⟩
theorem on_out (l:List Fl) {c:Cl} (hc:c ∉ (ntZ l).oK):(ntZ l).on c=[]:=by
 show (match (fsL rdZ l).find? fun f=>decide (clF f=c) with
  | some f=>rdZ.on f.t
  | none=>[])=[]
 cases hx:(fsL rdZ l).find? (fun g=>decide (clF g=c)) with
 | none=>rfl
 | some g =>
  have h1:=List.find?_some hx
  simp only[decide_eq_true_eq] at h1
  exact absurd (List.mem_map.2 ⟨g,List.mem_of_find?_eq_some hx,h1⟩) hc
theorem ntZ_ok {l:List Fl} (h:gZ l):NtOk (ntZ l):=⟨gNd h,by show (l.map clF).length≤200;rw[List.length_map];exact h.1,by show (l.map (·.t)).length=(l.map clF).length;rw[List.length_map,List.length_map],fun c hc=>on_out l hc,fun c=>(on_few l c).1⟩
theorem on_sub {l:List Fl} {c:Cl} (hc:c ∉ l.map clF):(ntZ l).on c=[]:=on_out l fun h=>by
 obtain ⟨f,hf,he⟩:=List.mem_map.1 h
 exact hc (List.mem_map.2 ⟨f,(List.mem_filter.1 hf).1,he⟩)
theorem New_ok (te:TypeId) (pe:Value) (hV:Has gl (glV te pe)) (hl:Go.EYtaheflnnigocgaaGreatDoor.look gl 0=some lvAll) {l:List Fl} (h:gZ l) (c1:FnP Tryz.prog gl 23 [.lst 3 (l.map flD)] (.v .nilIface)):Go.EYtaheflnnigocgaaGreatDoor.Fn Tryz.prog gl 18 [.c (.d (.lst 3 (l.map flD)))] [] 0 (.ret (.tup [(false,[.ptr 4 0]),(false,[.d (.v .nilIface)])])) (newR rdZ l (partsZ (ntZ l).g (l.map clF))) 15 []:=by
 refine New_y rdZ l h.1 (gNd h) c1 (fun f hf=>?_) (fun f hf hF=>?_) (fun f hf hF=>?_) ?_
 ·exact Constant_d f.t (b:=!rdZ.isF f.t) rfl
 ·obtain ⟨n,i,hp,_⟩:=gRead (gT h hf).2.1 (of_decide_eq_true hF)
  have c:=Parse_d te pe hV hl rfZ_ok f.t
  have e:rdZ.nd f.t=n:=by show (match parseZ rfZ f.t with|.ok n _=>n|.no _ _=>n00)=n;rw[hp]
  rw[hp] at c
  rw[e]
  exact ⟨0,c⟩
 ·obtain ⟨n,i,hp,hf',hc⟩:=gRead (gT h hf).2.1 (of_decide_eq_true hF)
  have e:rdZ.nd f.t=n:=by show (match parseZ rfZ f.t with|.ok n _=>n|.no _ _=>n00)=n;rw[hp]
  have e2:rdZ.on f.t=refsZ n:=by show (match parseZ rfZ f.t with|.ok n _=>refsZ n|.no _ _=>[])=refsZ n;rw[hp]
  rw[e,e2]
  exact rCells_d n hf' hc
 ·exact part_h (ntZ l) (ntZ_ok h) sortC (fun l c=>sortC_mem) (fun l hn=>sortC_up l hn) sr2 sr2_perm sr2_row Index_d Clone_o (fun m hm=>Sort_x m (by omega)) Sort2_x
theorem New_e (l:List Fl) (e:Int) (c1:FnP Tryz.prog gl 23 [.lst 3 (l.map flD)] (erD e)):Go.EYtaheflnnigocgaaGreatDoor.Fn Tryz.prog gl 18 [.c (.d (.lst 3 (l.map flD)))] [] 0 (.ret (.tup [(false,[.d (.v (.pointer none))]),(false,[.d (erD e)])])) [] 0 []:=by
 refine fn_of_vc (nv:=9999) (cu:=[]) fits mixed Tryz.func18 rfl hoB rfl rfl rfl rfl ?_
 ((repeat' ((conv=>whnf);first|exact .intro|refine .ya ?_|refine .na ?_|refine .ys ?_|refine .ns ?_|refine .neg (fun _=>?_) (fun _=>?_)|refine .mk (fun _=>?_) (fun _=>?_)|refine .inl (.inl (X1 (c1) ?_))|refine .inl (X1 (c1) ?_)|refine X1 (c1) ?_|refine .mk ?_ ?_|refine AK ?_|refine AT ?_|fail));all_goals conv=>whnf)
 all_goals ((repeat' first|exact rfl|((conv=>whnf);first|done|exact suL|refine And.intro ?_ ?_|fail));all_goals conv=>whnf)
theorem New_d (te:TypeId) (pe:Value) (hV:Has gl (glV te pe)) (hl:Go.EYtaheflnnigocgaaGreatDoor.look gl 0=some lvAll) (l:List Fl) :
 (gZ l∧Go.EYtaheflnnigocgaaGreatDoor.Fn Tryz.prog gl 18 [.c (.d (.lst 3 (l.map flD)))] [] 0 (.ret (.tup [(false,[.ptr 4 0]),(false,[.d (.v .nilIface)])])) (newR rdZ l (partsZ (ntZ l).g (l.map clF))) 15 [])∨
 (¬ gZ l∧∃ e:Int,e≠0∧Go.EYtaheflnnigocgaaGreatDoor.Fn Tryz.prog gl 18 [.c (.d (.lst 3 (l.map flD)))] [] 0 (.ret (.tup [(false,[.d (.v (.pointer none))]),(false,[.d (erD e)])])) [] 0 []):=by
 rcases gCheck_d te pe hV hl rfZ_ok l with ⟨h,c⟩|⟨h,e,he,c⟩
 ·exact .inl ⟨h,New_ok te pe hV hl h c⟩
 ·exact .inr ⟨h,e,he,New_e l e c⟩
end Go.Proofs.YtaheflnnigocgaaGreatDoor
end
