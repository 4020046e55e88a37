/- Proved: a part of what the law is proved with (the reckoner, contracts of functions, plain laws). Conditions: as each says. -/
import Derived.Test.YtdpigpahfiachaaGreatDoorZIn
import Derived.Test.YtdpigpahfiachaaGreatDoorZZab
section
namespace Go.Proofs.YtdpigpahfiachaaGreatDoor
open Go Go.RowKit Go.EYtdpigpahfiachaaGreatDoor
set_option maxRecDepth 100000
set_option maxHeartbeats 4000000
variable {gl:List (Nat×List D)}
theorem grpZ_zero {rf:List UInt8→Option Rf} {s l:List Fl}:grpZ rf s l=0↔maysZ rf l=0∧(wsL s l l.length).length≤200:=by
 unfold grpZ
 by_cases h:maysZ rf l=0
 ·rw[if_pos h]
  by_cases h2:200<(wsL s l l.length).length
  ·rw[if_pos h2]
   constructor
   ·intro h;omega
   ·intro h;omega
  ·rw[if_neg h2]
   exact ⟨fun _=>⟨h,by omega⟩,fun _=>rfl⟩
 ·rw[if_neg h]
  exact ⟨fun h1=>absurd h1 h,fun h1=>absurd h1.1 h⟩
abbrev x1:Fl:=⟨1,1,[120]⟩
section
variable (te:TypeId) (pe:Value) (hV:Has gl (glV te pe)) (hl:Go.EYtdpigpahfiachaaGreatDoor.look gl 0=some lvAll) {rf:List UInt8→Option Rf} (hR:RefsOk rf)
include hV hl hR
end
end Go.Proofs.YtdpigpahfiachaaGreatDoor
end
section
namespace Go.Proofs.YtdpigpahfiachaaGreatDoor
open Go Go.EYtdpigpahfiachaaGreatDoor
set_option maxRecDepth 100000
set_option maxHeartbeats 4000000
variable {gl:List (Nat×List D)}
theorem rText_d {rf:List UInt8→Option Rf} (hR:RefsOk rf) (hE:rf []=none) (s:List UInt8):FnP Tryz.prog gl 34 [.str s] (iD (textZ rf s)):=by
 unfold textZ
 by_cases h:200<s.length
 ·rw[if_pos h]
  have h1:((s.length:Nat):Int)>200:=by omega
  refine fnP_of_vc (nv:=9999) (cu:=[]) fits mixed Tryz.func34 rfl hoB rfl ?_
  ((repeat' ((conv=>whnf);first|exact .intro|refine .ya ?_|refine .na ?_|refine .ys ?_|refine .ns ?_|refine .neg (fun _=>?_) (fun _=>?_)|refine .mk (fun _=>?_) (fun _=>?_)|refine .mk ?_ ?_|refine AK ?_|refine AT ?_|fail));all_goals conv=>whnf)
  all_goals exact LeD.rfl
 ·rw[if_neg h]
  have h1:¬ ((s.length:Nat):Int)>200:=by omega
  cases s with
  | nil =>
   rw[if_neg (by simp)]
   refine fnP_of_vc (nv:=9999) (cu:=[]) fits mixed Tryz.func34 rfl hoB rfl ?_
   ((repeat' ((conv=>whnf);first|exact .intro|refine .ya ?_|refine .na ?_|refine .ys ?_|refine .ns ?_|refine .neg (fun _=>?_) (fun _=>?_)|refine .mk (fun _=>?_) (fun _=>?_)|refine .mk ?_ ?_|refine AK ?_|refine AT ?_|fail));all_goals conv=>whnf)
   all_goals exact LeD.rfl
  | cons c r =>
   have hn:¬ c::r=(⟨#[]⟩:ByteArray).data.toList:=by simp
   have hl0:(0:Int)<(((c::r).length:Nat):Int):=Int.natCast_pos.2 (Nat.succ_pos _)
   by_cases h61:(c::r).head?=some 61
   ·rw[if_pos h61]
    have hc:c=61:=by simpa using h61
    have h2:((((c::r).getD (0:Int).toNat 0).toNat:Nat):Int)=61:=by subst hc;rfl
    have c1:=rParse_d (gl:=gl) hR hE (c::r)
    cases hp:parseZ rf (c::r) with
    | ok n k =>
     rw[hp] at c1
     unfold rparseD at c1
     obtain ⟨k0,m0,t0,a0,b0,ks0⟩:=n
     refine fnP_of_vc (nv:=9999) (cu:=[]) fits mixed Tryz.func34 rfl hoB rfl ?_
     ((repeat' ((conv=>whnf);first|exact .intro|refine .ya ?_|refine .na ?_|refine .ys ?_|refine .ns ?_|refine .neg (fun _=>?_) (fun _=>?_)|refine .mk (fun _=>?_) (fun _=>?_)|refine .inl (.inl (X1 (c1) ?_))|refine .inl (X1 (c1) ?_)|refine X1 (c1) ?_|refine .mk ?_ ?_|refine AK ?_|refine AT ?_|fail));all_goals conv=>whnf)
     all_goals exact LeD.rfl
    | no a e =>
     have he:=parseZ_ne hR hE hp
     rw[hp] at c1
     unfold rparseD at c1
     refine fnP_of_vc (nv:=9999) (cu:=[]) fits mixed Tryz.func34 rfl hoB rfl ?_
     ((repeat' ((conv=>whnf);first|exact .intro|refine .ya ?_|refine .na ?_|refine .ys ?_|refine .ns ?_|refine .neg (fun _=>?_) (fun _=>?_)|refine .mk (fun _=>?_) (fun _=>?_)|refine .inl (.inl (X1 (c1) ?_))|refine .inl (X1 (c1) ?_)|refine X1 (c1) ?_|refine .mk ?_ ?_|refine AK ?_|refine AT ?_|fail));all_goals conv=>whnf)
     all_goals exact LeD.rfl
   ·rw[if_neg h61]
    have h2:¬ ((((c::r).getD (0:Int).toNat 0).toNat:Nat):Int)=61:=fun hh=>h61 (by
     have:c=61:=by
      have hh':((c.toNat:Nat):Int)=61:=hh
      apply UInt8.toNat_inj.1
      show c.toNat=61
      omega
     rw[this];rfl)
    refine fnP_of_vc (nv:=9999) (cu:=[]) fits mixed Tryz.func34 rfl hoB rfl ?_
    ((repeat' ((conv=>whnf);first|exact .intro|refine .ya ?_|refine .na ?_|refine .ys ?_|refine .ns ?_|refine .neg (fun _=>?_) (fun _=>?_)|refine .mk (fun _=>?_) (fun _=>?_)|refine .mk ?_ ?_|refine AK ?_|refine AT ?_|fail));all_goals conv=>whnf)
    all_goals exact LeD.rfl
theorem rCheck_k (l:List Fl) (h:200<l.length):FnP Tryz.prog gl 32 [.lst 3 (l.map flD)] (iD 4):=by
 have h1:(((l.map flD).length:Nat):Int)>200:=by rw[List.length_map];omega
 refine fnP_of_vc (nv:=9999) (cu:=[]) fits mixed Tryz.func32 rfl hoB rfl ?_
 ((repeat' ((conv=>whnf);first|exact .intro|refine .ya ?_|refine .na ?_|refine .ys ?_|refine .ns ?_|refine .neg (fun _=>?_) (fun _=>?_)|refine .mk (fun _=>?_) (fun _=>?_)|refine .mk ?_ ?_|refine AK ?_|refine AT ?_|fail));all_goals conv=>whnf)
 exact LeD.rfl
theorem rCheck_m {rf:List UInt8→Option Rf} (hR:RefsOk rf) (hE:rf []=none) (l:List Fl) (h:l.length≤200) (m:Nat) (r:Int)
 (hm:m≤l.length) (h0:∀ k,k<m→stepZ rf l k=0) (hr:(m=l.length∧r=0)∨(m<l.length∧r≠0∧stepZ rf l m=r)):FnP Tryz.prog gl 32 [.lst 3 (l.map flD)] (iD r):=by
 have h1:¬ (((l.map flD).length:Nat):Int)>200:=by rw[List.length_map];omega
 refine fnP_of_vc (nv:=9999) (cu:=[]) fits mixed Tryz.func32 rfl hoB rfl ?_
 ((repeat' ((conv=>whnf);first|exact .intro|refine .ya ?_|refine .na ?_|refine .ys ?_|refine .ns ?_|refine .neg (fun _=>?_) (fun _=>?_)|refine .mk (fun _=>?_) (fun _=>?_)|refine .mk ?_ ?_|refine AK ?_|refine AT ?_|fail));all_goals conv=>whnf)
 refine ⟨{ σ:=Nat,fr:=fun k=>[(3,.c (.d (iD (k:Int))))],ks:=[],L:=fun k=>[],ex:=0,I:=fun k=>k≤m,μ:=fun k=>l.length - k },⟨0,Nat.zero_le _,?_⟩,fun (k:Nat) hk=>?_⟩
 ·((repeat' first|exact rfl|((conv=>whnf);first|done|exact suL|refine And.intro ?_ ?_|fail));all_goals conv=>whnf)
 ·replace hk:k≤m:=hk
  have e0:IntKind.i64.wrap ((k:Int)+1)=((k+1:Nat):Int):=by rw[wrapI (by omega)];rfl
  by_cases hlt:k<l.length
  ·have h2:(k:Int)<((l.map flD).length:Nat):=by rw[List.length_map];omega
   have hs:=stepZ_at (rf:=rf) hlt
   have hk1:k - 1<l.length:=by omega
   have c1:=In_d (gl:=gl) l[k].c l[k].r
   have c3:=Ahead_d (gl:=gl) (l[k - 1]'hk1).c (l[k - 1]'hk1).r l[k].c l[k].r
   have c4:=rText_d (gl:=gl) hR hE l[k].t
   have g1:=get_map (f:=flD) hlt
   have g2:=get_map (f:=flD) (show k - 1<l.length by omega)
   have e1:0<k→IntKind.i64.wrap ((k:Int) - 1)=((k - 1:Nat):Int):=fun _=>by rw[wrapI (by omega)];omega
   have stop:stepZ rf l k≠0→stepZ rf l k=r:=fun hn=>by
    have hkm:k=m:=Classical.byContradiction fun hh=>hn (h0 k (by omega))
    subst hkm
    rcases hr with ⟨hr,_⟩|⟨_,_,hr⟩
    ·omega
    ·exact hr
   have goon:stepZ rf l k=0→k<m:=fun hz=>by
    rcases hr with ⟨hr,_⟩|⟨_,he,hr⟩
    ·omega
    ·refine Nat.lt_of_le_of_ne hk fun hh=>?_
     subst hh
     omega
   by_cases ho:okP l[k].c l[k].r
   ·rw[if_pos ho] at hs
    by_cases hb:0<k→lessF (l[k - 1]'hk1) l[k]
    ·rw[if_pos hb] at hs
     have hcase:((k:Int)>0∧lessF (l[k - 1]'hk1) l[k])∨¬ (k:Int)>0:=by
      by_cases hp:(k:Int)>0
      ·exact .inl ⟨hp,hb (by omega)⟩
      ·exact .inr hp
     by_cases ht:l[k].t=[]
     ·rw[if_pos ht] at hs
      have he:=stop (by omega)
      obtain rfl:r=3:=by omega
      clear hs h0 hr hm stop goon hb
      rcases hcase with ⟨hp,hls⟩|hp
      ·replace e1:=e1 (by omega)
       ((repeat' ((conv=>whnf);first|exact .intro|refine .ya ?_|refine .na ?_|refine .ys ?_|refine .ns ?_|refine .neg (fun _=>?_) (fun _=>?_)|refine .mk (fun _=>?_) (fun _=>?_)|refine .inl (.inl (X1 (by first|exact c1|exact c3) ?_))|refine .inl (X1 (by first|exact c1|exact c3) ?_)|refine X1 (by first|exact c1|exact c3) ?_|(first|rw[e1]|refine ⟨Int.natCast_nonneg _,_,g1,?_⟩|refine ⟨Int.natCast_nonneg _,_,g2,?_⟩)|refine .mk ?_ ?_|refine AK ?_|refine AT ?_|fail));all_goals conv=>whnf)
       all_goals exact LeD.rfl
      ·clear e1
       ((repeat' ((conv=>whnf);first|exact .intro|refine .ya ?_|refine .na ?_|refine .ys ?_|refine .ns ?_|refine .neg (fun _=>?_) (fun _=>?_)|refine .mk (fun _=>?_) (fun _=>?_)|refine .inl (.inl (X1 (by first|exact c1|exact c3) ?_))|refine .inl (X1 (by first|exact c1|exact c3) ?_)|refine X1 (by first|exact c1|exact c3) ?_|(first|refine ⟨Int.natCast_nonneg _,_,g1,?_⟩|refine ⟨Int.natCast_nonneg _,_,g2,?_⟩)|refine .mk ?_ ?_|refine AK ?_|refine AT ?_|fail));all_goals conv=>whnf)
       all_goals exact LeD.rfl
     ·rw[if_neg ht] at hs
      by_cases hz:textZ rf l[k].t=0
      ·have hkm:k<m:=goon (by omega)
       rw[hz] at c4
       clear hs h0 hr hm stop goon hb
       rcases hcase with ⟨hp,hls⟩|hp
       ·replace e1:=e1 (by omega)
        ((repeat' ((conv=>whnf);first|exact .intro|refine .ya ?_|refine .na ?_|refine .ys ?_|refine .ns ?_|refine .neg (fun _=>?_) (fun _=>?_)|refine .mk (fun _=>?_) (fun _=>?_)|refine .inl (.inl (X1 (by first|exact c1|exact c3|exact c4) ?_))|refine .inl (X1 (by first|exact c1|exact c3|exact c4) ?_)|refine X1 (by first|exact c1|exact c3|exact c4) ?_|(first|rw[e1]|refine ⟨Int.natCast_nonneg _,_,g1,?_⟩|refine ⟨Int.natCast_nonneg _,_,g2,?_⟩)|refine .mk ?_ ?_|refine AK ?_|refine AT ?_|fail));all_goals conv=>whnf)
        all_goals refine ⟨k+1,⟨hkm,by show l.length - (k+1)<l.length - k;omega⟩,?_⟩
        all_goals ((repeat' first|exact rfl|((conv=>whnf);first|done|exact suL|refine And.intro ?_ ?_|fail));all_goals conv=>whnf)
        all_goals exact ceq e0
       ·clear e1
        ((repeat' ((conv=>whnf);first|exact .intro|refine .ya ?_|refine .na ?_|refine .ys ?_|refine .ns ?_|refine .neg (fun _=>?_) (fun _=>?_)|refine .mk (fun _=>?_) (fun _=>?_)|refine .inl (.inl (X1 (by first|exact c1|exact c3|exact c4) ?_))|refine .inl (X1 (by first|exact c1|exact c3|exact c4) ?_)|refine X1 (by first|exact c1|exact c3|exact c4) ?_|(first|refine ⟨Int.natCast_nonneg _,_,g1,?_⟩|refine ⟨Int.natCast_nonneg _,_,g2,?_⟩)|refine .mk ?_ ?_|refine AK ?_|refine AT ?_|fail));all_goals conv=>whnf)
        all_goals refine ⟨k+1,⟨hkm,by show l.length - (k+1)<l.length - k;omega⟩,?_⟩
        all_goals ((repeat' first|exact rfl|((conv=>whnf);first|done|exact suL|refine And.intro ?_ ?_|fail));all_goals conv=>whnf)
        all_goals exact ceq e0
      ·have he:=stop (by omega)
       have hr':textZ rf l[k].t=r:=by omega
       rw[hr'] at c4 hz
       clear hs h0 hr hm stop goon hb
       rcases hcase with ⟨hp,hls⟩|hp
       ·replace e1:=e1 (by omega)
        ((repeat' ((conv=>whnf);first|exact .intro|refine .ya ?_|refine .na ?_|refine .ys ?_|refine .ns ?_|refine .neg (fun _=>?_) (fun _=>?_)|refine .mk (fun _=>?_) (fun _=>?_)|refine .inl (.inl (X1 (by first|exact c1|exact c3|exact c4) ?_))|refine .inl (X1 (by first|exact c1|exact c3|exact c4) ?_)|refine X1 (by first|exact c1|exact c3|exact c4) ?_|(first|rw[e1]|refine ⟨Int.natCast_nonneg _,_,g1,?_⟩|refine ⟨Int.natCast_nonneg _,_,g2,?_⟩)|refine .mk ?_ ?_|refine AK ?_|refine AT ?_|fail));all_goals conv=>whnf)
        all_goals exact LeD.rfl
       ·clear e1
        ((repeat' ((conv=>whnf);first|exact .intro|refine .ya ?_|refine .na ?_|refine .ys ?_|refine .ns ?_|refine .neg (fun _=>?_) (fun _=>?_)|refine .mk (fun _=>?_) (fun _=>?_)|refine .inl (.inl (X1 (by first|exact c1|exact c3|exact c4) ?_))|refine .inl (X1 (by first|exact c1|exact c3|exact c4) ?_)|refine X1 (by first|exact c1|exact c3|exact c4) ?_|(first|refine ⟨Int.natCast_nonneg _,_,g1,?_⟩|refine ⟨Int.natCast_nonneg _,_,g2,?_⟩)|refine .mk ?_ ?_|refine AK ?_|refine AT ?_|fail));all_goals conv=>whnf)
        all_goals exact LeD.rfl
    ·rw[if_neg hb] at hs
     have he:=stop (by omega)
     obtain rfl:r=5:=by omega
     have hp:(k:Int)>0:=Classical.byContradiction fun hh=>hb fun h=>by omega
     have hls:¬ lessF (l[k - 1]'hk1) l[k]:=fun hh=>hb fun _=>hh
     replace e1:=e1 (by omega)
     clear hs h0 hr hk hm stop goon hb
     ((repeat' ((conv=>whnf);first|exact .intro|refine .ya ?_|refine .na ?_|refine .ys ?_|refine .ns ?_|refine .neg (fun _=>?_) (fun _=>?_)|refine .mk (fun _=>?_) (fun _=>?_)|refine .inl (.inl (X1 (by first|exact c1|exact c3) ?_))|refine .inl (X1 (by first|exact c1|exact c3) ?_)|refine X1 (by first|exact c1|exact c3) ?_|(first|rw[e1]|refine ⟨Int.natCast_nonneg _,_,g1,?_⟩|refine ⟨Int.natCast_nonneg _,_,g2,?_⟩)|refine .mk ?_ ?_|refine AK ?_|refine AT ?_|fail));all_goals conv=>whnf)
     all_goals exact LeD.rfl
   ·rw[if_neg ho] at hs
    have he:=stop (by omega)
    obtain rfl:r=1:=by omega
    clear hs h0 hr hm stop goon
    ((repeat' ((conv=>whnf);first|exact .intro|refine .ya ?_|refine .na ?_|refine .ys ?_|refine .ns ?_|refine .neg (fun _=>?_) (fun _=>?_)|refine .mk (fun _=>?_) (fun _=>?_)|refine .inl (.inl (X1 (c1) ?_))|refine .inl (X1 (c1) ?_)|refine X1 (c1) ?_|(refine ⟨Int.natCast_nonneg _,_,g1,?_⟩)|refine .mk ?_ ?_|refine AK ?_|refine AT ?_|fail));all_goals conv=>whnf)
    all_goals exact LeD.rfl
  ·have h2:¬ (k:Int)<((l.map flD).length:Nat):=by rw[List.length_map];omega
   have hkl:k=l.length:=by omega
   obtain rfl:r=0:=by
    rcases hr with ⟨_,hr⟩|⟨hr,_⟩
    ·exact hr
    ·omega
   ((repeat' ((conv=>whnf);first|exact .intro|refine .ya ?_|refine .na ?_|refine .ys ?_|refine .ns ?_|refine .neg (fun _=>?_) (fun _=>?_)|refine .mk (fun _=>?_) (fun _=>?_)|refine .mk ?_ ?_|refine AK ?_|refine AT ?_|fail));all_goals conv=>whnf)
   all_goals exact LeD.rfl
theorem checks_d (te:TypeId) (pe:Value) (hV:Has gl (glV te pe)) (hl:Go.EYtdpigpahfiachaaGreatDoor.look gl 0=some lvAll) {rf:List UInt8→Option Rf} (hR:RefsOk rf) (hE:rf []=none) (l:List Fl) :
 (goodZ rf l∧FnP Tryz.prog gl 56 [.lst 3 (l.map flD)] (.v .nilIface)∧FnP Tryz.prog gl 32 [.lst 3 (l.map flD)] (iD 0))∨∃ e,e≠0∧FnP Tryz.prog gl 56 [.lst 3 (l.map flD)] (erD e)∧FnP Tryz.prog gl 32 [.lst 3 (l.map flD)] (iD e):=by
 by_cases h:l.length≤200
 ·rcases first_of (p:=fun k=>stepZ rf l k=0) l.length with h0|⟨m,h1,h2,h3⟩
  ·exact .inl ⟨⟨h,h0⟩,gCheck_m te pe hV hl hR l h l.length _ (Nat.le_refl _) h0 (.inl ⟨rfl,rfl⟩),rCheck_m hR hE l h l.length _ (Nat.le_refl _) h0 (.inl ⟨rfl,rfl⟩)⟩
  ·exact .inr ⟨_,h3,gCheck_m te pe hV hl hR l h m _ (Nat.le_of_lt h1) h2 (.inr ⟨h1,_,h3,rfl,rfl⟩),rCheck_m hR hE l h m _ (Nat.le_of_lt h1) h2 (.inr ⟨h1,h3,rfl⟩)⟩
 ·exact .inr ⟨4,by decide,gCheck_k l (by omega),rCheck_k l (by omega)⟩
end Go.Proofs.YtdpigpahfiachaaGreatDoor
end
