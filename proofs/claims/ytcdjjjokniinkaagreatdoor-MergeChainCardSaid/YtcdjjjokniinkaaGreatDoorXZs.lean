/- Proved: a part of what the law is proved with (the reckoner, contracts of functions, plain laws). Conditions: as each says. -/
import Derived.Test.YtcdjjjokniinkaaGreatDoorXBase
import Derived.Test.YtcdjjjokniinkaaGreatDoorXIg
import Derived.Test.YtcdjjjokniinkaaGreatDoorXJr
import Derived.Test.YtcdjjjokniinkaaGreatDoorXZk
section
namespace Go.Proofs.YtcdjjjokniinkaaGreatDoor
open Go Go.EYtcdjjjokniinkaaGreatDoor
set_option maxRecDepth 100000
set_option maxHeartbeats 4000000
variable {gl:List (Nat×List D)}
def textZ (rf:List UInt8→Option Rf) (s:List UInt8):Int:=if 200<s.length then 4 else if s.head?=some 61 then (match parseZ rf s with|.ok _ _=>0|.no _ _=>2) else 0
theorem gText_k (s:List UInt8) (h:200<s.length):FnP Tryz.prog gl 17 [.str s] (erD 4):=by
 have h1:((s.length:Nat):Int)>200:=by omega
 refine fnP_of_vc (nv:=9999) (cu:=[]) fits mixed Tryz.func17 rfl hoB rfl ?_
 ((repeat' ((conv=>whnf);first|exact .intro|refine .ya ?_|refine .na ?_|refine .ys ?_|refine .ns ?_|refine .neg (fun _=>?_) (fun _=>?_)|refine .mk (fun _=>?_) (fun _=>?_)|refine .mk ?_ ?_|refine AK ?_|refine AT ?_|fail));all_goals conv=>whnf)
 exact LeD.rfl
theorem gText_c (s:List UInt8) (h:¬ 200<s.length) (h6:s.head?≠some 61):FnP Tryz.prog gl 17 [.str s] (.v .nilIface):=by
 have h1:¬ ((s.length:Nat):Int)>200:=by omega
 have c0:=Constant_d (gl:=gl) s (b:=true) (by simp[h6])
 refine fnP_of_vc (nv:=9999) (cu:=[]) fits mixed Tryz.func17 rfl hoB rfl ?_
 ((repeat' ((conv=>whnf);first|exact .intro|refine .ya ?_|refine .na ?_|refine .ys ?_|refine .ns ?_|refine .neg (fun _=>?_) (fun _=>?_)|refine .mk (fun _=>?_) (fun _=>?_)|refine .inl (.inl (X1 (c0) ?_))|refine .inl (X1 (c0) ?_)|refine X1 (c0) ?_|refine .mk ?_ ?_|refine AK ?_|refine AT ?_|fail));all_goals conv=>whnf)
 exact LeD.rfl
theorem gText_p (te:TypeId) (pe:Value) (hV:Has gl (glV te pe)) (hl:Go.EYtcdjjjokniinkaaGreatDoor.look gl 1=some lvAll) {rf:List UInt8→Option Rf} (hR:RefsOk rf) (s:List UInt8) (h:¬ 200<s.length) (h6:s.head?=some 61) {n:Nd} {k:Nat} (hp:parseZ rf s=.ok n k):FnP Tryz.prog gl 17 [.str s] (.v .nilIface):=by
 have h1:¬ ((s.length:Nat):Int)>200:=by omega
 have c0:=Constant_d (gl:=gl) s (b:=false) (by simp[h6])
 have c1:=Parse_d te pe hV hl hR s
 rw[hp] at c1
 unfold parseD at c1
 obtain ⟨k0,m0,t0,a0,b0,ks0⟩:=n
 refine fnP_of_vc (nv:=9999) (cu:=[]) fits mixed Tryz.func17 rfl hoB rfl ?_
 ((repeat' ((conv=>whnf);first|exact .intro|refine .ya ?_|refine .na ?_|refine .ys ?_|refine .ns ?_|refine .neg (fun _=>?_) (fun _=>?_)|refine .mk (fun _=>?_) (fun _=>?_)|refine .inl (.inl (X1 (by first|exact c0|exact c1) ?_))|refine .inl (X1 (by first|exact c0|exact c1) ?_)|refine X1 (by first|exact c0|exact c1) ?_|refine .mk ?_ ?_|refine AK ?_|refine AT ?_|fail));all_goals conv=>whnf)
 exact LeD.rfl
theorem gText_q (te:TypeId) (pe:Value) (hV:Has gl (glV te pe)) (hl:Go.EYtcdjjjokniinkaaGreatDoor.look gl 1=some lvAll) {rf:List UInt8→Option Rf} (hR:RefsOk rf) (s:List UInt8) (h:¬ 200<s.length) (h6:s.head?=some 61) {a:Nat} {e:Int} (hp:parseZ rf s=.no a e):FnP Tryz.prog gl 17 [.str s] (erD 2):=by
 have h1:¬ ((s.length:Nat):Int)>200:=by omega
 have c0:=Constant_d (gl:=gl) s (b:=false) (by simp[h6])
 have c1:=Parse_d te pe hV hl hR s
 rw[hp] at c1
 unfold parseD at c1
 refine fnP_of_vc (nv:=9999) (cu:=[]) fits mixed Tryz.func17 rfl hoB rfl ?_
 ((repeat' ((conv=>whnf);first|exact .intro|refine .ya ?_|refine .na ?_|refine .ys ?_|refine .ns ?_|refine .neg (fun _=>?_) (fun _=>?_)|refine .mk (fun _=>?_) (fun _=>?_)|refine .inl (.inl (X1 (by first|exact c0|exact c1) ?_))|refine .inl (X1 (by first|exact c0|exact c1) ?_)|refine X1 (by first|exact c0|exact c1) ?_|refine .mk ?_ ?_|refine AK ?_|refine AT ?_|fail));all_goals conv=>whnf)
 exact LeD.rfl
theorem gText_d (te:TypeId) (pe:Value) (hV:Has gl (glV te pe)) (hl:Go.EYtcdjjjokniinkaaGreatDoor.look gl 1=some lvAll) {rf:List UInt8→Option Rf} (hR:RefsOk rf) (s:List UInt8) :
 (textZ rf s=0∧FnP Tryz.prog gl 17 [.str s] (.v .nilIface))∨∃ e,e≠0∧textZ rf s=e∧FnP Tryz.prog gl 17 [.str s] (erD e):=by
 unfold textZ
 by_cases h:200<s.length
 ·rw[if_pos h];exact .inr ⟨4,by decide,rfl,gText_k s h⟩
 ·rw[if_neg h]
  by_cases h6:s.head?=some 61
  ·rw[if_pos h6]
   cases hp:parseZ rf s with
   | ok n k=>exact .inl ⟨rfl,gText_p te pe hV hl hR s h h6 hp⟩
   | no a e=>exact .inr ⟨2,by decide,rfl,gText_q te pe hV hl hR s h h6 hp⟩
  ·rw[if_neg h6];exact .inl ⟨rfl,gText_c s h h6⟩
end Go.Proofs.YtcdjjjokniinkaaGreatDoor
end
section
namespace Go.Proofs.YtcdjjjokniinkaaGreatDoor
open Go Go.EYtcdjjjokniinkaaGreatDoor
set_option maxRecDepth 100000
set_option maxHeartbeats 4000000
variable {gl:List (Nat×List D)}
def stepZ (rf:List UInt8→Option Rf) (l:List Fl) (k:Nat):Int:=match l[k]? with
 | none=>0
 | some f=>if okP f.c f.r then if (match l[k - 1]? with|some g=>decide (0<k→lessF g f)|none=>true)=true then if f.t=[] then 3 else textZ rf f.t else 5 else 1
theorem stepZ_at {rf:List UInt8→Option Rf} {l:List Fl} {k:Nat} (hlt:k<l.length):stepZ rf l k=if okP l[k].c l[k].r then if 0<k→lessF (l[k - 1]'(by omega)) l[k] then if l[k].t=[] then 3 else textZ rf l[k].t else 5 else 1:=by
 unfold stepZ
 rw[List.getElem?_eq_getElem hlt]
 simp only[]
 rw[List.getElem?_eq_getElem (show k - 1<l.length by omega)]
 simp only[decide_eq_true_eq]
theorem gCheck_m (te:TypeId) (pe:Value) (hV:Has gl (glV te pe)) (hl:Go.EYtcdjjjokniinkaaGreatDoor.look gl 1=some lvAll) {rf:List UInt8→Option Rf} (hR:RefsOk rf) (l:List Fl) (h:l.length≤200) (m:Nat) (r:D)
 (hm:m≤l.length) (h0:∀ k,k<m→stepZ rf l k=0) (hr:(m=l.length∧r=.v .nilIface)∨(m<l.length∧∃ e,e≠0∧stepZ rf l m=e∧r=erD e)):FnP Tryz.prog gl 30 [.lst 3 (l.map flD)] r:=by
 have h1:¬ (((l.map flD).length:Nat):Int)>200:=by rw[List.length_map];omega
 refine fnP_of_vc (nv:=9999) (cu:=[]) fits mixed Tryz.func30 rfl hoB rfl ?_
 ((repeat' ((conv=>whnf);first|exact .intro|refine .ya ?_|refine .na ?_|refine .ys ?_|refine .ns ?_|refine .neg (fun _=>?_) (fun _=>?_)|refine .mk (fun _=>?_) (fun _=>?_)|refine .mk ?_ ?_|refine AK ?_|refine AT ?_|fail));all_goals conv=>whnf)
 refine ⟨{ σ:=Nat,fr:=fun k=>[(12,.c (.d (iD (k:Int))))],ks:=[],L:=fun k=>[],ex:=0,I:=fun k=>k≤m,μ:=fun k=>l.length - k },⟨0,Nat.zero_le _,?_⟩,fun (k:Nat) hk=>?_⟩
 ·((repeat' first|exact rfl|((conv=>whnf);first|done|exact suL|refine And.intro ?_ ?_|fail));all_goals conv=>whnf)
 ·replace hk:k≤m:=hk
  have e0:IntKind.i64.wrap ((k:Int)+1)=((k+1:Nat):Int):=by rw[wrapI (by omega)];rfl
  by_cases hlt:k<l.length
  ·have h2:(k:Int)<((l.map flD).length:Nat):=by rw[List.length_map];omega
   have hs:=stepZ_at (rf:=rf) hlt
   have hk1:k - 1<l.length:=by omega
   by_cases ho:okP l[k].c l[k].r
   ·have c1:=Check_s (gl:=gl) ho
    rw[if_pos ho] at hs
    have c3:=Less_d (gl:=gl) (l[k - 1]'hk1).c (l[k - 1]'hk1).r l[k].c l[k].r
    have g1:=get_map (f:=flD) hlt
    have g2:=get_map (f:=flD) (show k - 1<l.length by omega)
    have e1:0<k→IntKind.i64.wrap ((k:Int) - 1)=((k - 1:Nat):Int):=fun _=>by rw[wrapI (by omega)];omega
    have stop:stepZ rf l k≠0→∃ e,e≠0∧stepZ rf l k=e∧r=erD e:=fun hn=>by
     have hkm:k=m:=Classical.byContradiction fun hh=>hn (h0 k (by omega))
     subst hkm
     rcases hr with ⟨hr,_⟩|⟨_,hr⟩
     ·omega
     ·exact hr
    by_cases hb:0<k→lessF (l[k - 1]'hk1) l[k]
    ·rw[if_pos hb] at hs
     have hcase:((k:Int)>0∧lessF (l[k - 1]'hk1) l[k])∨¬ (k:Int)>0:=by
      by_cases hp:(k:Int)>0
      ·exact .inl ⟨hp,hb (by omega)⟩
      ·exact .inr hp
     by_cases ht:l[k].t=[]
     ·rw[if_pos ht] at hs
      obtain ⟨e,_,he,rfl⟩:=stop (by omega)
      obtain rfl:e=3:=by omega
      clear hs h0 hr hm stop hb
      rcases hcase with ⟨hp,hls⟩|hp
      ·replace e1:=e1 (by omega)
       ((repeat' ((conv=>whnf);first|exact .intro|refine .ya ?_|refine .na ?_|refine .ys ?_|refine .ns ?_|refine .neg (fun _=>?_) (fun _=>?_)|refine .mk (fun _=>?_) (fun _=>?_)|refine .inl (.inl (X1 (by first|exact c1|exact c3) ?_))|refine .inl (X1 (by first|exact c1|exact c3) ?_)|refine X1 (by first|exact c1|exact c3) ?_|(first|rw[e1]|refine ⟨Int.natCast_nonneg _,_,g1,?_⟩|refine ⟨Int.natCast_nonneg _,_,g2,?_⟩)|refine .mk ?_ ?_|refine AK ?_|refine AT ?_|fail));all_goals conv=>whnf)
       exact LeD.rfl
      ·clear e1
       ((repeat' ((conv=>whnf);first|exact .intro|refine .ya ?_|refine .na ?_|refine .ys ?_|refine .ns ?_|refine .neg (fun _=>?_) (fun _=>?_)|refine .mk (fun _=>?_) (fun _=>?_)|refine .inl (.inl (X1 (by first|exact c1|exact c3) ?_))|refine .inl (X1 (by first|exact c1|exact c3) ?_)|refine X1 (by first|exact c1|exact c3) ?_|(first|refine ⟨Int.natCast_nonneg _,_,g1,?_⟩|refine ⟨Int.natCast_nonneg _,_,g2,?_⟩)|refine .mk ?_ ?_|refine AK ?_|refine AT ?_|fail));all_goals conv=>whnf)
       exact LeD.rfl
     ·rw[if_neg ht] at hs
      rcases gText_d te pe hV hl hR l[k].t with ⟨hz,c4⟩|⟨e,he,hz,c4⟩
      ·have hkm:k<m:=by
        rcases hr with ⟨hr,_⟩|⟨_,e,he,hr,_⟩
        ·omega
        ·refine Nat.lt_of_le_of_ne hk fun hh=>?_
         subst hh
         omega
       clear hs h0 hr hm stop hb
       rcases hcase with ⟨hp,hls⟩|hp
       ·replace e1:=e1 (by omega)
        ((repeat' ((conv=>whnf);first|exact .intro|refine .ya ?_|refine .na ?_|refine .ys ?_|refine .ns ?_|refine .neg (fun _=>?_) (fun _=>?_)|refine .mk (fun _=>?_) (fun _=>?_)|refine .inl (.inl (X1 (by first|exact c1|exact c3|exact c4) ?_))|refine .inl (X1 (by first|exact c1|exact c3|exact c4) ?_)|refine X1 (by first|exact c1|exact c3|exact c4) ?_|(first|rw[e1]|refine ⟨Int.natCast_nonneg _,_,g1,?_⟩|refine ⟨Int.natCast_nonneg _,_,g2,?_⟩)|refine .mk ?_ ?_|refine AK ?_|refine AT ?_|fail));all_goals conv=>whnf)
        refine ⟨k+1,⟨hkm,by show l.length - (k+1)<l.length - k;omega⟩,?_⟩
        ((repeat' first|exact rfl|((conv=>whnf);first|done|exact suL|refine And.intro ?_ ?_|fail));all_goals conv=>whnf)
        exact ceq e0
       ·clear e1
        ((repeat' ((conv=>whnf);first|exact .intro|refine .ya ?_|refine .na ?_|refine .ys ?_|refine .ns ?_|refine .neg (fun _=>?_) (fun _=>?_)|refine .mk (fun _=>?_) (fun _=>?_)|refine .inl (.inl (X1 (by first|exact c1|exact c3|exact c4) ?_))|refine .inl (X1 (by first|exact c1|exact c3|exact c4) ?_)|refine X1 (by first|exact c1|exact c3|exact c4) ?_|(first|refine ⟨Int.natCast_nonneg _,_,g1,?_⟩|refine ⟨Int.natCast_nonneg _,_,g2,?_⟩)|refine .mk ?_ ?_|refine AK ?_|refine AT ?_|fail));all_goals conv=>whnf)
        refine ⟨k+1,⟨hkm,by show l.length - (k+1)<l.length - k;omega⟩,?_⟩
        ((repeat' first|exact rfl|((conv=>whnf);first|done|exact suL|refine And.intro ?_ ?_|fail));all_goals conv=>whnf)
        exact ceq e0
      ·obtain ⟨e',_,he',rfl⟩:=stop (by omega)
       obtain rfl:e'=e:=by omega
       clear hs h0 hr hm stop hb
       rcases hcase with ⟨hp,hls⟩|hp
       ·replace e1:=e1 (by omega)
        ((repeat' ((conv=>whnf);first|exact .intro|refine .ya ?_|refine .na ?_|refine .ys ?_|refine .ns ?_|refine .neg (fun _=>?_) (fun _=>?_)|refine .mk (fun _=>?_) (fun _=>?_)|refine .inl (.inl (X1 (by first|exact c1|exact c3|exact c4) ?_))|refine .inl (X1 (by first|exact c1|exact c3|exact c4) ?_)|refine X1 (by first|exact c1|exact c3|exact c4) ?_|(first|rw[e1]|refine ⟨Int.natCast_nonneg _,_,g1,?_⟩|refine ⟨Int.natCast_nonneg _,_,g2,?_⟩)|refine .mk ?_ ?_|refine AK ?_|refine AT ?_|fail));all_goals conv=>whnf)
        exact LeD.rfl
       ·clear e1
        ((repeat' ((conv=>whnf);first|exact .intro|refine .ya ?_|refine .na ?_|refine .ys ?_|refine .ns ?_|refine .neg (fun _=>?_) (fun _=>?_)|refine .mk (fun _=>?_) (fun _=>?_)|refine .inl (.inl (X1 (by first|exact c1|exact c3|exact c4) ?_))|refine .inl (X1 (by first|exact c1|exact c3|exact c4) ?_)|refine X1 (by first|exact c1|exact c3|exact c4) ?_|(first|refine ⟨Int.natCast_nonneg _,_,g1,?_⟩|refine ⟨Int.natCast_nonneg _,_,g2,?_⟩)|refine .mk ?_ ?_|refine AK ?_|refine AT ?_|fail));all_goals conv=>whnf)
        exact LeD.rfl
    ·rw[if_neg hb] at hs
     obtain ⟨e,_,he,rfl⟩:=stop (by omega)
     obtain rfl:e=5:=by omega
     have hp:(k:Int)>0:=Classical.byContradiction fun hh=>hb fun h=>by omega
     have hls:¬ lessF (l[k - 1]'hk1) l[k]:=fun hh=>hb fun _=>hh
     replace e1:=e1 (by omega)
     clear hs h0 hr hk hm stop hb
     ((repeat' ((conv=>whnf);first|exact .intro|refine .ya ?_|refine .na ?_|refine .ys ?_|refine .ns ?_|refine .neg (fun _=>?_) (fun _=>?_)|refine .mk (fun _=>?_) (fun _=>?_)|refine .inl (.inl (X1 (by first|exact c1|exact c3) ?_))|refine .inl (X1 (by first|exact c1|exact c3) ?_)|refine X1 (by first|exact c1|exact c3) ?_|(first|rw[e1]|refine ⟨Int.natCast_nonneg _,_,g1,?_⟩|refine ⟨Int.natCast_nonneg _,_,g2,?_⟩)|refine .mk ?_ ?_|refine AK ?_|refine AT ?_|fail));all_goals conv=>whnf)
     exact LeD.rfl
   ·have c1:=Check_n (gl:=gl) ho
    rw[if_neg ho] at hs
    have hkm:k=m:=Classical.byContradiction fun hn=>by have:=h0 k (by omega);omega
    subst hkm
    obtain ⟨e,_,he,rfl⟩:∃ e,e≠0∧stepZ rf l k=e∧r=erD e:=by
     rcases hr with ⟨hr,_⟩|⟨_,hr⟩
     ·omega
     ·exact hr
    obtain rfl:e=1:=by omega
    ((repeat' ((conv=>whnf);first|exact .intro|refine .ya ?_|refine .na ?_|refine .ys ?_|refine .ns ?_|refine .neg (fun _=>?_) (fun _=>?_)|refine .mk (fun _=>?_) (fun _=>?_)|refine .inl (.inl (X1 (c1) ?_))|refine .inl (X1 (c1) ?_)|refine X1 (c1) ?_|(refine ⟨Int.natCast_nonneg _,_,get_map hlt,?_⟩)|refine .mk ?_ ?_|refine AK ?_|refine AT ?_|fail));all_goals conv=>whnf)
    exact LeD.rfl
  ·have h2:¬ (k:Int)<((l.map flD).length:Nat):=by rw[List.length_map];omega
   have hkl:k=l.length:=by omega
   obtain rfl:r=.v .nilIface:=by
    rcases hr with ⟨_,hr⟩|⟨hr,_⟩
    ·exact hr
    ·omega
   ((repeat' ((conv=>whnf);first|exact .intro|refine .ya ?_|refine .na ?_|refine .ys ?_|refine .ns ?_|refine .neg (fun _=>?_) (fun _=>?_)|refine .mk (fun _=>?_) (fun _=>?_)|refine .mk ?_ ?_|refine AK ?_|refine AT ?_|fail));all_goals conv=>whnf)
   exact LeD.rfl
def goodZ (rf:List UInt8→Option Rf) (l:List Fl):Prop:=l.length≤200∧∀ k,k<l.length→stepZ rf l k=0
theorem gCheck_k (l:List Fl) (h:200<l.length):FnP Tryz.prog gl 30 [.lst 3 (l.map flD)] (erD 4):=by
 have h1:(((l.map flD).length:Nat):Int)>200:=by rw[List.length_map];omega
 refine fnP_of_vc (nv:=9999) (cu:=[]) fits mixed Tryz.func30 rfl hoB rfl ?_
 ((repeat' ((conv=>whnf);first|exact .intro|refine .ya ?_|refine .na ?_|refine .ys ?_|refine .ns ?_|refine .neg (fun _=>?_) (fun _=>?_)|refine .mk (fun _=>?_) (fun _=>?_)|refine .mk ?_ ?_|refine AK ?_|refine AT ?_|fail));all_goals conv=>whnf)
 exact LeD.rfl
theorem first_of {p:Nat→Prop} [DecidablePred p]:∀ n:Nat,(∀ k,k<n→p k)∨∃ m,m<n∧(∀ k,k<m→p k)∧¬ p m
 | 0=>.inl fun k h=>by omega
 | n+1=>by
  rcases first_of (p:=p) n with h|⟨m,h1,h2,h3⟩
  ·by_cases hn:p n
   ·exact .inl fun k hk=>by rcases Nat.lt_succ_iff_lt_or_eq.1 hk with hk|rfl;exact h k hk;exact hn
   ·exact .inr ⟨n,Nat.lt_succ_self n,h,hn⟩
  ·exact .inr ⟨m,by omega,h2,h3⟩
theorem gCheck_d (te:TypeId) (pe:Value) (hV:Has gl (glV te pe)) (hl:Go.EYtcdjjjokniinkaaGreatDoor.look gl 1=some lvAll) {rf:List UInt8→Option Rf} (hR:RefsOk rf) (l:List Fl) :
 (goodZ rf l∧FnP Tryz.prog gl 30 [.lst 3 (l.map flD)] (.v .nilIface))∨(¬ goodZ rf l∧∃ e,e≠0∧FnP Tryz.prog gl 30 [.lst 3 (l.map flD)] (erD e)):=by
 by_cases h:l.length≤200
 ·rcases first_of (p:=fun k=>stepZ rf l k=0) l.length with h0|⟨m,h1,h2,h3⟩
  ·exact .inl ⟨⟨h,h0⟩,gCheck_m te pe hV hl hR l h l.length _ (Nat.le_refl _) h0 (.inl ⟨rfl,rfl⟩)⟩
  ·exact .inr ⟨fun hg=>h3 (hg.2 m h1),_,h3,gCheck_m te pe hV hl hR l h m _ (Nat.le_of_lt h1) h2 (.inr ⟨h1,_,h3,rfl,rfl⟩)⟩
 ·exact .inr ⟨fun hg=>h hg.1,4,by decide,gCheck_k l (by omega)⟩
end Go.Proofs.YtcdjjjokniinkaaGreatDoor
end
section
namespace Go.Proofs.YtcdjjjokniinkaaGreatDoor
open Go Go.EYtcdjjjokniinkaaGreatDoor
set_option maxRecDepth 100000
set_option maxHeartbeats 4000000
variable {gl:List (Nat×List D)}
abbrev lesC (f:Fl) (c r:Int):Prop:=f.r<r∨f.r=r∧f.c<c
def skF (c r:Int):List Fl→Nat
 | []=>0
 | f::t=>if lesC f c r then skF c r t+1 else 0
theorem skF_le (c r:Int):∀ l:List Fl,skF c r l≤l.length
 | []=>Nat.le_refl _
 | f::t=>by
  unfold skF
  split
  ·exact Nat.succ_le_succ (skF_le c r t)
  ·exact Nat.zero_le _
theorem skF_lt {c r:Int}:∀ {l:List Fl} {i:Nat} (_:i<skF c r l) (h:i<l.length),lesC l[i] c r
 | f::t,0,h,_=>by
  unfold skF at h
  split at h
  ·assumption
  ·omega
 | f::t,i+1,h,hl=>by
  unfold skF at h
  split at h
  ·exact skF_lt (l:=t) (i:=i) (by omega) (by simpa using hl)
  ·omega
theorem skF_at {c r:Int}:∀ {l:List Fl} (h:skF c r l<l.length),¬ lesC l[skF c r l] c r
 | f::t,h=>by
  by_cases hf:lesC f c r
  ·have e:skF c r (f::t)=skF c r t+1:=if_pos hf
   have h':skF c r t<t.length:=by rw[e] at h;simpa using h
   have:=skF_at h'
   simp only[e,List.getElem_cons_succ]
   exact this
  ·have e:skF c r (f::t)=0:=if_neg hf
   simp only[e,List.getElem_cons_zero]
   exact hf
theorem skF_eq {c r:Int} {l:List Fl} {k:Nat} (hk:k≤l.length) (h1:∀ i (h:i<l.length),i<k→lesC l[i] c r) (h2:∀ i (h:i<l.length),k≤i→¬ lesC l[i] c r):k=skF c r l:=by
 rcases Nat.lt_trichotomy k (skF c r l) with h|h|h
 ·have hl:=skF_le c r l
  exact absurd (skF_lt h (by omega)) (h2 k (by omega) (Nat.le_refl _))
 ·exact h
 ·exact absurd (h1 _ (by omega) h) (skF_at (by omega))
def isF (c r:Int) (l:List Fl):Bool:=match l[skF c r l]? with
 | some f=>decide (f.c=c∧f.r=r)
 | none=>false
theorem wcmp_d (f:Fl) (c r:Int):FnP Tryz.prog gl 36 [.agg (flD f),cellD c r] (iD (orZ (cmpZ f.r r) (cmpZ f.c c))):=by
 have c1:=Compare_d (gl:=gl) f.c f.r c r
 refine fnP_of_vc (nv:=9999) (cu:=[]) fits mixed Tryz.func36 rfl hoB rfl ?_
 ((repeat' ((conv=>whnf);first|exact .intro|refine .ya ?_|refine .na ?_|refine .ys ?_|refine .ns ?_|refine .neg (fun _=>?_) (fun _=>?_)|refine .mk (fun _=>?_) (fun _=>?_)|refine .inl (.inl (X1 (c1) ?_))|refine .inl (X1 (c1) ?_)|refine X1 (c1) ?_|refine .mk ?_ ?_|refine AK ?_|refine AT ?_|fail));all_goals conv=>whnf)
 exact LeD.rfl
theorem wcmp_lt (f:Fl) (c r:Int):orZ (cmpZ f.r r) (cmpZ f.c c)<0↔lesC f c r:=by
 unfold orZ cmpZ lesC
 (repeat' split) <;> omega
theorem wcmp_eq (f:Fl) (c r:Int):orZ (cmpZ f.r r) (cmpZ f.c c)=0↔(f.c=c∧f.r=r):=by
 unfold orZ cmpZ
 (repeat' split) <;> omega
theorem half {i j:Nat} (h:i+j<4611686018427387904):IntKind.i64.wrap ((IntKind.u64.wrap (IntKind.i64.wrap ((i:Int)+(j:Int)))).fdiv (2 ^ min (Int.toNat 1) IntKind.u64.bits))=(((i+j) / 2:Nat):Int):=by
 rw[wrapI (n:=(i:Int)+j) (by omega),show IntKind.u64.wrap ((i:Int)+(j:Int))=(i:Int)+j from IntWalk.u64_in _ (by omega)]
 have e:(2:Int) ^ min (Int.toNat 1) IntKind.u64.bits=2:=by decide
 rw[e,wrapI (by rw[Int.fdiv_eq_ediv_of_nonneg _ (by omega)];omega),Int.fdiv_eq_ediv_of_nonneg _ (by omega)]
 omega
abbrev fnC:D:=.v (.func (.func 36) #[] #[])
theorem Bin_d (l:List Fl) (c r:Int) (hl:l.length≤1099511627776) (hs:∀ i j (hi:i<j) (hj:j<l.length),lessF (l[i]'(by omega)) l[j]):FnP Tryz.prog gl 35 [.lst 3 (l.map flD),cellD c r,fnC] (.tup [iD (skF c r l:Nat),tD (isF c r l)]):=by
 have hlen:(l.map flD).length=l.length:=List.length_map _
 refine fnP_of_vc (nv:=9999) (cu:=[]) fits mixed Tryz.func35 rfl hoB rfl ?_
 ((repeat' ((conv=>whnf);first|exact .intro|refine .ya ?_|refine .na ?_|refine .ys ?_|refine .ns ?_|refine .neg (fun _=>?_) (fun _=>?_)|refine .mk (fun _=>?_) (fun _=>?_)|refine .mk ?_ ?_|refine AK ?_|refine AT ?_|fail));all_goals conv=>whnf)
 refine ⟨{ σ:=Nat×Nat,fr:=fun q=>[(9,.c (.d (iD (q.1:Int)))),(10,.c (.d (iD (q.2:Int))))],ks:=[],L:=fun _=>[],ex:=0,I:=fun q=>q.1≤q.2∧q.2≤l.length∧(∀ i (h:i<l.length),i<q.1→lesC l[i] c r)∧∀ i (h:i<l.length),q.2≤i→¬ lesC l[i] c r,μ:=fun q=>q.2 - q.1 },⟨(0,l.length),⟨Nat.zero_le _,Nat.le_refl _,fun i h h0=>absurd h0 (Nat.not_lt_zero _),fun i h h0=>by omega⟩,?_⟩,fun q hq=>?_⟩
 ·((repeat' first|exact rfl|((conv=>whnf);first|done|exact suL|refine And.intro ?_ ?_|fail));all_goals conv=>whnf)
  all_goals first|exact ceq (by rw[hlen])|exact ceq rfl
 ·obtain ⟨i,j⟩:=q
  obtain ⟨h1,h2,h3,h4⟩:=hq
  simp only at h1 h2 h3 h4
  by_cases hij:i<j
  ·have h5:(i:Int)<(j:Int):=by omega
   have em:=half (i:=i) (j:=j) (by omega)
   have hm:(i+j) / 2<l.length:=by omega
   have hm1:i≤(i+j) / 2∧(i+j) / 2<j:=by omega
   generalize (i+j) / 2=m at *
   have g1:=get_map (f:=flD) hm
   have c1:=wcmp_d (gl:=gl) l[m] c r
   have e0:IntKind.i64.wrap ((m:Int)+1)=((m+1:Nat):Int):=by rw[wrapI (by omega)];rfl
   have hlt:=wcmp_lt l[m] c r
   by_cases hc:lesC l[m] c r
   ·have h6:orZ (cmpZ l[m].r r) (cmpZ l[m].c c)<0:=hlt.2 hc
    have key:∀ a (h:a<l.length),a<m+1→lesC l[a] c r:=fun a ha hb=>by
     rcases Nat.lt_succ_iff_lt_or_eq.1 hb with h|rfl
     ·have:=hs a m h hm
      unfold lessF at this
      unfold lesC at *
      omega
     ·exact hc
    clear hlt hc h3
    generalize orZ (cmpZ l[m].r r) (cmpZ l[m].c c)=z at *
    generalize l[m]=f at *
    obtain ⟨fc,fr,ft⟩:=f
    ((repeat' ((conv=>whnf);first|exact .intro|refine .ya ?_|refine .na ?_|refine .ys ?_|refine .ns ?_|refine .neg (fun _=>?_) (fun _=>?_)|refine .mk (fun _=>?_) (fun _=>?_)|refine .inl (.inl (X1 (c1) ?_))|refine .inl (X1 (c1) ?_)|refine X1 (c1) ?_|(first|rw[em]|refine ⟨Int.natCast_nonneg _,_,g1,?_⟩)|refine .mk ?_ ?_|refine AK ?_|refine AT ?_|fail));all_goals conv=>whnf)
    all_goals refine ⟨(m+1,j),⟨⟨by show m+1≤j;omega,h2,key,h4⟩,by show j - (m+1)<j - i;omega⟩,?_⟩
    all_goals ((repeat' first|exact rfl|((conv=>whnf);first|done|exact suL|refine And.intro ?_ ?_|fail));all_goals conv=>whnf)
    all_goals first|exact ceq e0|exact ceq em
   ·have h6:¬ orZ (cmpZ l[m].r r) (cmpZ l[m].c c)<0:=fun h=>hc (hlt.1 h)
    have key:∀ a (h:a<l.length),m≤a→¬ lesC l[a] c r:=fun a ha hb=>by
     rcases Nat.lt_or_eq_of_le hb with h|rfl
     ·have:=hs m a h ha
      unfold lessF at this
      unfold lesC at *
      omega
     ·exact hc
    clear hlt hc h4
    generalize orZ (cmpZ l[m].r r) (cmpZ l[m].c c)=z at *
    generalize l[m]=f at *
    obtain ⟨fc,fr,ft⟩:=f
    ((repeat' ((conv=>whnf);first|exact .intro|refine .ya ?_|refine .na ?_|refine .ys ?_|refine .ns ?_|refine .neg (fun _=>?_) (fun _=>?_)|refine .mk (fun _=>?_) (fun _=>?_)|refine .inl (.inl (X1 (c1) ?_))|refine .inl (X1 (c1) ?_)|refine X1 (c1) ?_|(first|rw[em]|refine ⟨Int.natCast_nonneg _,_,g1,?_⟩)|refine .mk ?_ ?_|refine AK ?_|refine AT ?_|fail));all_goals conv=>whnf)
    all_goals refine ⟨(i,m),⟨⟨hm1.1,by show m≤l.length;omega,h3,key⟩,by show m - i<j - i;omega⟩,?_⟩
    all_goals ((repeat' first|exact rfl|((conv=>whnf);first|done|exact suL|refine And.intro ?_ ?_|fail));all_goals conv=>whnf)
    all_goals first|exact ceq e0|exact ceq em
  ·have h5:¬ (i:Int)<(j:Int):=by omega
   obtain rfl:i=j:=by omega
   have hk:=skF_eq h2 h3 h4
   by_cases hi:i<l.length
   ·have h6:(i:Int)<((l.map flD).length:Nat):=by omega
    have g1:=get_map (f:=flD) hi
    have c1:=wcmp_d (gl:=gl) l[i] c r
    have he:=wcmp_eq l[i] c r
    have hF:isF c r l=decide (l[i].c=c∧l[i].r=r):=by
     unfold isF
     rw[← hk,List.getElem?_eq_getElem hi]
    rw[hF,← hk]
    clear hF h3 h4 hk
    generalize orZ (cmpZ l[i].r r) (cmpZ l[i].c c)=z at *
    generalize l[i]=f at *
    obtain ⟨fc,fr,ft⟩:=f
    ((repeat' ((conv=>whnf);first|exact .intro|refine .ya ?_|refine .na ?_|refine .ys ?_|refine .ns ?_|refine .neg (fun _=>?_) (fun _=>?_)|refine .mk (fun _=>?_) (fun _=>?_)|refine .inl (.inl (X1 (c1) ?_))|refine .inl (X1 (c1) ?_)|refine X1 (c1) ?_|(refine ⟨Int.natCast_nonneg _,_,g1,?_⟩)|refine .mk ?_ ?_|refine AK ?_|refine AT ?_|fail));all_goals conv=>whnf)
    all_goals exact LeD.tup (LeD.cons LeD.rfl (LeD.cons (LeD.b (by rw[he];simp)) LeD.nil))
   ·have h6:¬ (i:Int)<((l.map flD).length:Nat):=by omega
    have hF:isF c r l=false:=by
     unfold isF
     rw[← hk,List.getElem?_eq_none (by omega)]
    rw[hF,← hk]
    ((repeat' ((conv=>whnf);first|exact .intro|refine .ya ?_|refine .na ?_|refine .ys ?_|refine .ns ?_|refine .neg (fun _=>?_) (fun _=>?_)|refine .mk (fun _=>?_) (fun _=>?_)|refine .mk ?_ ?_|refine AK ?_|refine AT ?_|fail));all_goals conv=>whnf)
    all_goals exact LeD.tup (LeD.cons LeD.rfl (LeD.cons (LeD.bf (by simp)) LeD.nil))
end Go.Proofs.YtcdjjjokniinkaaGreatDoor
end
section
namespace Go.Proofs.YtcdjjjokniinkaaGreatDoor
open Go Go.EYtcdjjjokniinkaaGreatDoor
set_option maxRecDepth 100000
def ordL:List Fl→Prop
 | []=>True
 | f::l=>(∀ g ∈ l,lessF f g)∧ordL l
theorem ordL_at:∀ {l:List Fl} (_:ordL l) {i j:Nat} (hi:i<j) (hj:j<l.length),lessF (l[i]'(by omega)) l[j]
 | f::l,h,0,j+1,_,hj=>h.1 _ (List.getElem_mem _)
 | f::l,h,i+1,j+1,hi,hj=>ordL_at (l:=l) h.2 (by omega) (by simpa using hj)
theorem ordL_of:∀ {l:List Fl} (_:∀ i j (hi:i<j) (hj:j<l.length),lessF (l[i]'(by omega)) l[j]),ordL l
 | [],_=>trivial
 | f::l,h=>⟨fun g hg=>by
  obtain ⟨j,hj,rfl⟩:=List.getElem_of_mem hg
  exact h 0 (j+1) (by omega) (by simpa using hj),ordL_of fun i j hi hj=>h (i+1) (j+1) (by omega) (by simpa using hj)⟩
def withL (c r:Int) (t:List UInt8) (l:List Fl):List Fl :=
 if isF c r l=true then (if t=[] then l.eraseIdx (skF c r l) else l.set (skF c r l) ⟨c,r,t⟩) else (if t=[] then l else l.insertIdx (skF c r l) ⟨c,r,t⟩)
abbrev sameC (f:Fl) (c r:Int):Prop:=f.c=c∧f.r=r
theorem les_not {f:Fl} {c r:Int} (h:lesC f c r):¬ sameC f c r:=by unfold lesC sameC at *;omega
theorem skF_cons {c r:Int} {f:Fl} {l:List Fl} (h:lesC f c r):skF c r (f::l)=skF c r l+1:=if_pos h
theorem skF_zero {c r:Int} {f:Fl} {l:List Fl} (h:¬ lesC f c r):skF c r (f::l)=0:=if_neg h
theorem isF_cons {c r:Int} {f:Fl} {l:List Fl} (h:lesC f c r):isF c r (f::l)=isF c r l:=by
 unfold isF
 rw[skF_cons h,List.getElem?_cons_succ]
theorem isF_zero {c r:Int} {f:Fl} {l:List Fl} (h:¬ lesC f c r):isF c r (f::l)=decide (sameC f c r):=by
 unfold isF
 rw[skF_zero h]
 rfl
theorem withL_cons {c r:Int} {t:List UInt8} {f:Fl} {l:List Fl} (h:lesC f c r):withL c r t (f::l)=f::withL c r t l:=by
 unfold withL
 rw[isF_cons h,skF_cons h]
 split
 ·split <;> simp
 ·split <;> simp
theorem later {c r:Int} {f:Fl} {l:List Fl} (h:¬ lesC f c r) (ho:∀ g ∈ l,lessF f g):∀ g ∈ l,¬ sameC g c r∧¬ lesC g c r:=fun g hg=>by
 have:=ho g hg
 unfold lessF at this
 unfold lesC sameC at *
 omega
theorem mem_withL {c r:Int} {t:List UInt8}:∀ {l:List Fl} {g:Fl},g ∈ withL c r t l→g ∈ l∨g=⟨c,r,t⟩
 | [],g,h=>by
  unfold withL isF at h
  simp[skF] at h
  exact .inr h.2
 | f::l,g,h=>by
  by_cases hl:lesC f c r
  ·rw[withL_cons hl] at h
   rcases List.mem_cons.1 h with rfl|h
   ·exact .inl (by simp)
   ·rcases mem_withL h with h|h
    ·exact .inl (by simp[h])
    ·exact .inr h
  ·unfold withL at h
   rw[skF_zero hl] at h
   split at h
   ·split at h
    ·simp at h;exact .inl (by simp[h])
    ·simp at h
     rcases h with h|h
     ·exact .inr h
     ·exact .inl (by simp[h])
   ·split at h
    ·exact .inl h
    ·simp at h
     rcases h with h|h|h
     ·exact .inr h
     ·exact .inl (by simp[h])
     ·exact .inl (by simp[h])
theorem ordL_with {c r:Int} {t:List UInt8}:∀ {l:List Fl},ordL l→ordL (withL c r t l)
 | [],_=>by
  unfold withL isF
  simp[skF]
  split
  ·trivial
  ·exact ⟨fun g hg=>by simp at hg,trivial⟩
 | f::l,h=>by
  by_cases hl:lesC f c r
  ·rw[withL_cons hl]
   refine ⟨fun g hg=>?_,ordL_with h.2⟩
   rcases mem_withL hg with hg|rfl
   ·exact h.1 g hg
   ·exact hl
  ·unfold withL
   rw[isF_zero hl,skF_zero hl]
   by_cases hs:sameC f c r
   ·rw[decide_eq_true hs,if_pos rfl]
    split
    ·exact h.2
    ·refine ⟨fun g hg=>?_,h.2⟩
     have:=h.1 g hg
     unfold lessF at *
     unfold sameC at hs
     simp only
     omega
   ·rw[decide_eq_false hs,if_neg (by simp)]
    split
    ·exact h
    ·refine ⟨fun g hg=>?_,h⟩
     rcases List.mem_cons.1 hg with rfl|hg
     ·unfold lessF
      unfold lesC sameC at *
      simp only
      omega
     ·have:=h.1 g hg
      unfold lessF at *
      unfold lesC sameC at *
      simp only
      omega
end Go.Proofs.YtcdjjjokniinkaaGreatDoor
end
section
namespace Go.Proofs.YtcdjjjokniinkaaGreatDoor
open Go Go.RowKit Go.EYtcdjjjokniinkaaGreatDoor
set_option maxRecDepth 100000
set_option maxHeartbeats 4000000
variable {gl:List (Nat×List D)}
theorem With_no (l:List Fl) (c r:Int) (ho:ordL l) (hl:l.length≤65536) (hb:¬ isF c r l=true):FnP Tryz.prog gl 18 [.lst 3 (l.map flD),cellD c r,.str []] (.lst 3 (l.map flD)):=by
 have c0:=Bin_d (gl:=gl) l c r (by omega) (fun i j hi hj=>ordL_at ho hi hj)
 have c1:=FClone_d (gl:=gl) l hl
 have hlen:(l.map flD).length=l.length:=List.length_map _
 have hs:=skF_le c r l
 refine fnP_of_vc (nv:=9999) (cu:=[]) fits mixed Tryz.func18 rfl hoB rfl ?_
 ((repeat' ((conv=>whnf);first|exact .intro|refine .ya ?_|refine .na ?_|refine .ys ?_|refine .ns ?_|refine .neg (fun _=>?_) (fun _=>?_)|refine .mk (fun _=>?_) (fun _=>?_)|refine .inl (.inl (X1 (by first|exact c0|exact c1) ?_))|refine .inl (X1 (by first|exact c0|exact c1) ?_)|refine X1 (by first|exact c0|exact c1) ?_|refine .mk ?_ ?_|refine AK ?_|refine AT ?_|fail));all_goals conv=>whnf)
 all_goals exact LeD.rfl
theorem With_del (l:List Fl) (c r:Int) (ho:ordL l) (hl:l.length≤65536) (hb:isF c r l=true) (i:Nat) (he:skF c r l=i) (hi:i<l.length) (h0:l≠[]):FnP Tryz.prog gl 18 [.lst 3 (l.map flD),cellD c r,.str []] (.lst 3 ((l.eraseIdx i).map flD)):=by
 have c0:=Bin_d (gl:=gl) l c r (by omega) (fun i j hi hj=>ordL_at ho hi hj)
 rw[he] at c0
 have c1:=FClone_x (gl:=gl) l h0 hl
 have hlen:(l.map flD).length=l.length:=List.length_map _
 have c2:=Del_x (gl:=gl) l i (i+1) rfl hi hl
 have ew:IntKind.i64.wrap ((i:Int)+1)=((i+1:Nat):Int):=wrapI (by omega)
 refine fnP_of_vc (nv:=9999) (cu:=[]) fits mixed Tryz.func18 rfl hoB rfl ?_
 ((repeat' ((conv=>whnf);first|exact .intro|refine .ya ?_|refine .na ?_|refine .ys ?_|refine .ns ?_|refine .neg (fun _=>?_) (fun _=>?_)|refine .mk (fun _=>?_) (fun _=>?_)|refine .inr (X5 (c1.r [] _) ?_)|refine .inl (.inr (X5 (c1.r [] _) ?_))|refine .inl (X5 (c1.r [] _) ?_)|refine .inr (X5 (c2.r [1] _) ?_)|refine .inl (.inr (X5 (c2.r [1] _) ?_))|refine .inl (X5 (c2.r [1] _) ?_)|refine .inl (.inl (X1 (c0) ?_))|refine .inl (X1 (c0) ?_)|refine X1 (c0) ?_|(rw[ew])|refine .mk ?_ ?_|refine AK ?_|refine AT ?_|fail));all_goals conv=>whnf)
 all_goals exact LeD.rfl
theorem With_set (l:List Fl) (c r:Int) (t:List UInt8) (ht:t≠[]) (ho:ordL l) (hl:l.length≤65536) (hb:isF c r l=true) (i:Nat) (he:skF c r l=i) (hi:i<l.length) (h0:l≠[]):FnP Tryz.prog gl 18 [.lst 3 (l.map flD),cellD c r,.str t] (.lst 3 ((l.set i ⟨l[i].c,l[i].r,t⟩).map flD)):=by
 have c0:=Bin_d (gl:=gl) l c r (by omega) (fun i j hi hj=>ordL_at ho hi hj)
 rw[he] at c0
 have c1:=FClone_x (gl:=gl) l h0 hl
 have hlen:(l.map flD).length=l.length:=List.length_map _
 have ew:(l.map flD)[i]?=some (flD l[i]):=by simp[hi]
 refine fnP_of_vc (nv:=9999) (cu:=[]) fits mixed Tryz.func18 rfl hoB rfl ?_
 ((repeat' ((conv=>whnf);first|exact .intro|refine .ya ?_|refine .na ?_|refine .ys ?_|refine .ns ?_|refine .neg (fun _=>?_) (fun _=>?_)|refine .mk (fun _=>?_) (fun _=>?_)|refine .inr (X5 (c1.r [] _) ?_)|refine .inl (.inr (X5 (c1.r [] _) ?_))|refine .inl (X5 (c1.r [] _) ?_)|refine .inl (.inl (X1 (c0) ?_))|refine .inl (X1 (c0) ?_)|refine X1 (c0) ?_|(refine ⟨_,ew,?_⟩)|refine .mk ?_ ?_|refine AK ?_|refine AT ?_|fail));all_goals conv=>whnf)
 all_goals
  rw[List.map_set]
  exact LeD.rfl
theorem With_ins (l:List Fl) (c r:Int) (t:List UInt8) (ht:t≠[]) (ho:ordL l) (hl:l.length≤65536) (hb:¬ isF c r l=true) (i:Nat) (he:skF c r l=i) (hi:i≤l.length) (c1:Go.EYtcdjjjokniinkaaGreatDoor.Fn Tryz.prog gl 19 [.c (.d (.lst 3 (l.map flD)))] [] 0 (.ret (.c (.all 3 0))) [(0,.rows 3 (l.map flD) 31)] 1 []):FnP Tryz.prog gl 18 [.lst 3 (l.map flD),cellD c r,.str t] (.lst 3 ((l.insertIdx i ⟨c,r,t⟩).map flD)):=by
 have c0:=Bin_d (gl:=gl) l c r (by omega) (fun i j hi hj=>ordL_at ho hi hj)
 rw[he] at c0
 have hlen:(l.map flD).length=l.length:=List.length_map _
 have c2:=Ins_x (gl:=gl) l ⟨c,r,t⟩ i hi hl
 refine fnP_of_vc (nv:=9999) (cu:=[]) fits mixed Tryz.func18 rfl hoB rfl ?_
 ((repeat' ((conv=>whnf);first|exact .intro|refine .ya ?_|refine .na ?_|refine .ys ?_|refine .ns ?_|refine .neg (fun _=>?_) (fun _=>?_)|refine .mk (fun _=>?_) (fun _=>?_)|refine .inr (X5 (c1.r [] _) ?_)|refine .inl (.inr (X5 (c1.r [] _) ?_))|refine .inl (X5 (c1.r [] _) ?_)|refine .inr (X5 (c2.r [1,2] _) ?_)|refine .inl (.inr (X5 (c2.r [1,2] _) ?_))|refine .inl (X5 (c2.r [1,2] _) ?_)|refine .inl (.inl (X1 (c0) ?_))|refine .inl (X1 (c0) ?_)|refine X1 (c0) ?_|refine .mk ?_ ?_|refine AK ?_|refine AT ?_|fail));all_goals conv=>whnf)
 all_goals exact LeD.rfl
theorem isF_some {c r:Int} {l:List Fl} (h:isF c r l=true):∃ hi:skF c r l<l.length,l[skF c r l].c=c∧l[skF c r l].r=r:=by
 unfold isF at h
 split at h
 ·rename_i f hf
  obtain ⟨hi,rfl⟩:=List.getElem?_eq_some_iff.1 hf
  exact ⟨hi,by simpa using h⟩
 ·cases h
theorem With_d (l:List Fl) (c r:Int) (t:List UInt8) (ho:ordL l) (hl:l.length≤65536):FnP Tryz.prog gl 18 [.lst 3 (l.map flD),cellD c r,.str t] (.lst 3 ((withL c r t l).map flD)):=by
 unfold withL
 by_cases hb:isF c r l=true
 ·obtain ⟨hi,e1,e2⟩:=isF_some hb
  have h0:l≠[]:=by rintro rfl;simp at hi
  rw[if_pos hb]
  by_cases ht:t=[]
  ·subst ht
   rw[if_pos rfl]
   exact With_del l c r ho hl hb _ rfl hi h0
  ·rw[if_neg ht]
   have:=With_set (gl:=gl) l c r t ht ho hl hb _ rfl hi h0
   rw[e1,e2] at this
   exact this
 ·rw[if_neg hb]
  by_cases ht:t=[]
  ·subst ht
   rw[if_pos rfl]
   exact With_no l c r ho hl hb
  ·rw[if_neg ht]
   by_cases h0:l=[]
   ·subst h0
    exact With_ins [] c r t ht ho hl hb _ rfl (skF_le c r []) FClone_e
   ·exact With_ins l c r t ht ho hl hb _ rfl (skF_le c r l) (FClone_x l h0 hl)
end Go.Proofs.YtcdjjjokniinkaaGreatDoor
end
section
namespace Go.Proofs.YtcdjjjokniinkaaGreatDoor
open Go Go.RowKit Go.EYtcdjjjokniinkaaGreatDoor
set_option maxRecDepth 100000
set_option maxHeartbeats 4000000
variable {gl:List (Nat×List D)}
abbrev shR (l:List Fl):List D:=[.lst 3 (l.map flD)]
end Go.Proofs.YtcdjjjokniinkaaGreatDoor
end
