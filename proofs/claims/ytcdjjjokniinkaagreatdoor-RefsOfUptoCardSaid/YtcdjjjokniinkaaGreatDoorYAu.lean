/- Proved: a part of what the law is proved with (the reckoner, contracts of functions, plain laws). Conditions: as each says. -/
import Derived.Shelf.SlGeneric
import Derived.Shelf.SlSortCmp.NoneTotal
import Derived.Shelf.SlicesG.Cmp
import Derived.Test.YtcdjjjokniinkaaGreatDoorProg
import Derived.Shelf.RegionOpenPlain
import Derived.WalkKit
import Derived.Deep.QuietTactic
import Derived.RegionTactic
import Derived.Shelf.SlSortCmp.QuietGrown
import Derived.Test.YtcdjjjokniinkaaGreatDoorYBase
import Derived.Test.YtcdjjjokniinkaaGreatDoorYET
import Derived.Test.YtcdjjjokniinkaaGreatDoorYEs
section
namespace Go.Proofs.YtcdjjjokniinkaaGreatDoor
open Go Go.RowKit Go.EYtcdjjjokniinkaaGreatDoor
set_option maxRecDepth 100000
set_option maxHeartbeats 4000000
variable {gl:List (Nat×List D)}
theorem dedC_upto {m:List (Int×Int)}:∀ {k:Nat},k≤m.length→(∀ j (h0:0<j) (h:j<m.length),j<k→m[j - 1]≠m[j])→dedC (m.take k)=m.take k
 | 0,_,_=>rfl
 | k+1,hk,h=>by
  have ih:=dedC_upto (m:=m) (k:=k) (by omega) fun j h0 h' hj=>h j h0 h' (by omega)
  rcases Nat.eq_zero_or_pos k with rfl|h0
  ·match m,hk with
   | p::m,_=>rfl
  ·rw[dedC_take h0 (by omega),if_neg (h k h0 (by omega) (by omega)),ih]
   exact (List.take_succ_eq_append_getElem (by omega)).symm
theorem Compact_n (m:List (Int×Int)) (hl:m.length≤1099511627776) (hn:∀ j (h0:0<j) (h:j<m.length),m[j - 1]≠m[j]):Go.EYtcdjjjokniinkaaGreatDoor.Fn Tryz.prog gl 40 [.c (.all 2 0)] [(0,.rows 2 (m.map rowC) 28)] 1 (.ret (.c (.all 2 0))) [(0,.rows 2 (m.map rowC) 28)] 1 []:=by
 have hlen:(m.map rowC).length=m.length:=List.length_map _
 by_cases h2:m.length<2
 ·have h3:(((m.map rowC).length:Nat):Int)<2:=by omega
  refine fn_of_vc (nv:=9999) (cu:=[]) fits mixed Tryz.func40 rfl hoB rfl rfl rfl rfl ?_
  ((repeat' ((conv=>whnf);first|exact .intro|refine .ya ?_|refine .na ?_|refine .ys ?_|refine .ns ?_|refine .neg (fun _=>?_) (fun _=>?_)|refine .mk (fun _=>?_) (fun _=>?_)|refine .mk ?_ ?_|refine AK ?_|refine AT ?_|fail));all_goals conv=>whnf)
  all_goals ((repeat' first|exact rfl|((conv=>whnf);first|done|exact suL|refine And.intro ?_ ?_|fail));all_goals conv=>whnf)
 ·have h3:¬ (((m.map rowC).length:Nat):Int)<2:=by omega
  refine fn_of_vc (nv:=9999) (cu:=[]) fits mixed Tryz.func40 rfl hoB rfl rfl rfl rfl ?_
  ((repeat' ((conv=>whnf);first|exact .intro|refine .ya ?_|refine .na ?_|refine .ys ?_|refine .ns ?_|refine .neg (fun _=>?_) (fun _=>?_)|refine .mk (fun _=>?_) (fun _=>?_)|refine .mk ?_ ?_|refine AK ?_|refine AT ?_|fail));all_goals conv=>whnf)
  refine ⟨{ σ:=Nat,fr:=fun k=>[(3,.c (.d (iD (k:Int))))],ks:=[],L:=fun _=>[],ex:=0,I:=fun k=>0<k∧k≤m.length,μ:=fun k=>m.length - k },⟨1,⟨Nat.one_pos,by omega⟩,?_⟩,fun (k:Nat) hk=>?_⟩
  ·((repeat' first|exact rfl|((conv=>whnf);first|done|exact suL|refine And.intro ?_ ?_|fail));all_goals conv=>whnf)
  ·obtain ⟨h0,hk⟩:=hk
   have e0:IntKind.i64.wrap ((k:Int)+1)=((k+1:Nat):Int):=by rw[wrapI (by omega)];rfl
   have e1:IntKind.i64.wrap ((k:Int) - 1)=((k - 1:Nat):Int):=by rw[wrapI (by omega)];omega
   by_cases hlt:k<m.length
   ·have h4:(k:Int)<(((m.map rowC).length:Nat):Int):=by omega
    have h5:((k - 1:Nat):Int)<(((m.map rowC).length:Nat):Int):=by omega
    have g1:=get_map (f:=rowC) hlt
    have g2:=get_map (f:=rowC) (show k - 1<m.length by omega)
    have hne:=hn k h0 hlt
    generalize m[k]=p at g1 hne
    generalize m[k - 1]=q at g2 hne
    obtain ⟨p1,p2⟩:=p
    obtain ⟨q1,q2⟩:=q
    ((repeat' ((conv=>whnf);first|exact .intro|refine .ya ?_|refine .na ?_|refine .ys ?_|refine .ns ?_|refine .neg (fun _=>?_) (fun _=>?_)|refine .mk (fun _=>?_) (fun _=>?_)|(first|rw[e1]|refine ⟨⟨Int.natCast_nonneg _,h4⟩,?_⟩|refine ⟨⟨Int.natCast_nonneg _,h5⟩,?_⟩|refine ⟨_,g1,?_⟩|refine ⟨_,g2,?_⟩)|refine .mk ?_ ?_|refine AK ?_|refine AT ?_|fail));all_goals conv=>whnf)
    all_goals first
     | (exfalso;rename_i hx;exact hne (Prod.ext hx.1.symm hx.2.1.symm))
     | skip
    all_goals refine ⟨k+1,⟨⟨Nat.succ_pos k,hlt⟩,by show m.length - (k+1)<m.length - k;omega⟩,?_⟩
    all_goals ((repeat' first|exact rfl|((conv=>whnf);first|done|exact suL|refine And.intro ?_ ?_|fail));all_goals conv=>whnf)
    all_goals exact ceq e0
   ·have h4:¬ (k:Int)<(((m.map rowC).length:Nat):Int):=by omega
    ((repeat' ((conv=>whnf);first|exact .intro|refine .ya ?_|refine .na ?_|refine .ys ?_|refine .ns ?_|refine .neg (fun _=>?_) (fun _=>?_)|refine .mk (fun _=>?_) (fun _=>?_)|refine .mk ?_ ?_|refine AK ?_|refine AT ?_|fail));all_goals conv=>whnf)
    all_goals ((repeat' first|exact rfl|((conv=>whnf);first|done|exact suL|refine And.intro ?_ ?_|fail));all_goals conv=>whnf)
theorem shift_get {m d:List (Int×Int)} {i:Nat} (hd:d.length≤i):(d++m.drop d.length)[i]?=m[i]?:=by
 rw[List.getElem?_append_right hd,List.getElem?_drop,show d.length+(i - d.length)=i by omega]
theorem shift_len {m d:List (Int×Int)} (hd:d.length≤m.length):((d++m.drop d.length).map rowC).length=m.length:=by
 rw[List.length_map,List.length_append,List.length_drop];omega
theorem Compact_s (m:List (Int×Int)) (hl:m.length≤1099511627776) (j0:Nat) (h0:0<j0) (hj:j0<m.length) (hn:∀ j (h0:0<j) (h:j<m.length),j<j0→m[j - 1]≠m[j]) (he:m[j0 - 1]=m[j0]) :
 Go.EYtcdjjjokniinkaaGreatDoor.Fn Tryz.prog gl 40 [.c (.all 2 0)] [(0,.rows 2 (m.map rowC) 28)] 1 (.ret (.c (.own 2 0 0 (dedC m).length))) [(0,.rows 2 ((dedC m++List.replicate (m.length - (dedC m).length) (0,0)).map rowC) 28)] 1 []:=by
 have hlen:(m.map rowC).length=m.length:=List.length_map _
 have h3:¬ (((m.map rowC).length:Nat):Int)<2:=by omega
 have hd0:dedC (m.take (j0+1))=m.take j0:=by rw[dedC_take h0 hj,if_pos he,dedC_upto (by omega) fun j a b c=>hn j a b c]
 refine fn_of_vc (nv:=9999) (cu:=[]) fits mixed Tryz.func40 rfl hoB rfl rfl rfl rfl ?_
 ((repeat' ((conv=>whnf);first|exact .intro|refine .ya ?_|refine .na ?_|refine .ys ?_|refine .ns ?_|refine .neg (fun _=>?_) (fun _=>?_)|refine .mk (fun _=>?_) (fun _=>?_)|refine .mk ?_ ?_|refine AK ?_|refine AT ?_|fail));all_goals conv=>whnf)
 refine ⟨{ σ:=Nat,fr:=fun k=>[(3,.c (.d (iD (k:Int))))],ks:=[],L:=fun _=>[],ex:=0,I:=fun k=>0<k∧k≤j0,μ:=fun k=>m.length - k },⟨1,⟨Nat.one_pos,h0⟩,?_⟩,fun (k:Nat) hk=>?_⟩
 ·((repeat' first|exact rfl|((conv=>whnf);first|done|exact suL|refine And.intro ?_ ?_|fail));all_goals conv=>whnf)
 ·obtain ⟨hk0,hk⟩:=hk
  have hlt:k<m.length:=by omega
  have e0:IntKind.i64.wrap ((k:Int)+1)=((k+1:Nat):Int):=by rw[wrapI (by omega)];rfl
  have e1:IntKind.i64.wrap ((k:Int) - 1)=((k - 1:Nat):Int):=by rw[wrapI (by omega)];omega
  have h4:(k:Int)<(((m.map rowC).length:Nat):Int):=by omega
  have h5:((k - 1:Nat):Int)<(((m.map rowC).length:Nat):Int):=by omega
  have g1:=get_map (f:=rowC) hlt
  have g2:=get_map (f:=rowC) (show k - 1<m.length by omega)
  by_cases hkj:k<j0
  ·have hne:=hn k hk0 hlt hkj
   generalize m[k]=p at g1 hne
   generalize m[k - 1]=q at g2 hne
   obtain ⟨p1,p2⟩:=p
   obtain ⟨q1,q2⟩:=q
   ((repeat' ((conv=>whnf);first|exact .intro|refine .ya ?_|refine .na ?_|refine .ys ?_|refine .ns ?_|refine .neg (fun _=>?_) (fun _=>?_)|refine .mk (fun _=>?_) (fun _=>?_)|(first|rw[e1]|refine ⟨⟨Int.natCast_nonneg _,h4⟩,?_⟩|refine ⟨⟨Int.natCast_nonneg _,h5⟩,?_⟩|refine ⟨_,g1,?_⟩|refine ⟨_,g2,?_⟩)|refine .mk ?_ ?_|refine AK ?_|refine AT ?_|fail));all_goals conv=>whnf)
   all_goals first
    | (exfalso;rename_i hx;exact hne (Prod.ext hx.1.symm hx.2.1.symm))
    | skip
   all_goals refine ⟨k+1,⟨⟨Nat.succ_pos k,hkj⟩,by show m.length - (k+1)<m.length - k;omega⟩,?_⟩
   all_goals ((repeat' first|exact rfl|((conv=>whnf);first|done|exact suL|refine And.intro ?_ ?_|fail));all_goals conv=>whnf)
   all_goals exact ceq e0
  ·obtain rfl:k=j0:=by omega
   rw[he] at g2
   generalize m[k]=p at g1 g2 he
   obtain ⟨p1,p2⟩:=p
   have hsl:(k:Int)≤(((m.map rowC).length:Nat):Int):=by omega
   ((repeat' ((conv=>whnf);first|exact .intro|refine .ya ?_|refine .na ?_|refine .ys ?_|refine .ns ?_|refine .neg (fun _=>?_) (fun _=>?_)|refine .mk (fun _=>?_) (fun _=>?_)|(first|rw[e1]|refine ⟨⟨Int.natCast_nonneg _,h4⟩,?_⟩|refine ⟨⟨Int.natCast_nonneg _,h5⟩,?_⟩|refine ⟨_,g1,?_⟩|refine ⟨_,g2,?_⟩|refine ⟨⟨Int.natCast_nonneg _,hsl,Int.le_refl _⟩,?_⟩)|refine .mk ?_ ?_|refine AK ?_|refine AT ?_|fail));all_goals conv=>whnf)
   refine ⟨{ σ:=Nat×List (Int×Int),fr:=fun q=>[(3,.c (.d (iD (q.2.length:Int)))),(5,.c (.d (iD (q.1:Int))))],ks:=[0],L:=fun q=>[(0,.rows 2 ((q.2++m.drop q.2.length).map rowC) 28)],ex:=0,I:=fun q=>0<q.1∧k+q.1≤m.length∧q.2=dedC (m.take (k+q.1))∧q.2.length<k+q.1,μ:=fun q=>m.length - q.1 },⟨(1,m.take k),⟨Nat.one_pos,by show k+1≤m.length;omega,hd0.symm,by show (m.take k).length<k+1;rw[List.length_take];omega⟩,?_⟩,fun q hq=>?_⟩
   ·((repeat' first|exact rfl|((conv=>whnf);first|done|exact suL|refine And.intro ?_ ?_|fail));all_goals conv=>whnf)
    ·exact ceq (show (k:Int)=((m.take k).length:Nat) by rw[List.length_take];omega)
    ·show m.map rowC=(m.take k++m.drop (m.take k).length).map rowC
     rw[List.length_take,Nat.min_eq_left (by omega),List.take_append_drop]
   ·obtain ⟨i,d⟩:=q
    obtain ⟨hi0,hi,hd,hdl⟩:=hq
    simp only at hi0 hi hd hdl
    have hrl:=shift_len (m:=m) (d:=d) (by omega)
    have e2:IntKind.i64.wrap ((i:Int)+1)=((i+1:Nat):Int):=by rw[wrapI (by omega)];rfl
    have e3:IntKind.i64.wrap ((i:Int) - 1)=((i - 1:Nat):Int):=by rw[wrapI (by omega)];omega
    have e4:IntKind.i64.wrap ((d.length:Int)+1)=((d.length+1:Nat):Int):=by rw[wrapI (by omega)];rfl
    by_cases hlt2:k+i<m.length
    ·have h6:(i:Int)<(((((m.map rowC).length:Nat):Int).toNat - ((k:Nat):Int).toNat:Nat):Int):=by omega
     have h7:((i - 1:Nat):Int)<(((((m.map rowC).length:Nat):Int).toNat - ((k:Nat):Int).toNat:Nat):Int):=by omega
     have at_:∀ x,d.length≤x→(h:x<m.length)→((d++m.drop d.length).map rowC)[x]?=some (rowC m[x]):=fun x h1 h2=>by
      rw[List.getElem?_map,shift_get h1,List.getElem?_eq_getElem h2]
      rfl
     have g3:((d++m.drop d.length).map rowC)[((k:Nat):Int).toNat+((i:Nat):Int).toNat]?=some (rowC m[k+i]):=by
      rw[Int.toNat_natCast,Int.toNat_natCast]
      exact at_ (k+i) (by omega) hlt2
     have g4:((d++m.drop d.length).map rowC)[((k:Nat):Int).toNat+((i - 1:Nat):Int).toNat]?=some (rowC (m[k+i - 1]'(by omega))):=by
      rw[Int.toNat_natCast,Int.toNat_natCast,show k+(i - 1)=k+i - 1 by omega]
      exact at_ (k+i - 1) (by omega) (by omega)
     have g5:((d++m.drop d.length).map rowC)[((d.length:Nat):Int).toNat]?=some (rowC (m[d.length]'(by omega))):=by
      rw[Int.toNat_natCast]
      exact at_ d.length (Nat.le_refl _) (by omega)
     have h8:((d.length:Nat):Int)<((((d++m.drop d.length).map rowC).length:Nat):Int):=by omega
     have hdt:=dedC_take (m:=m) (j:=k+i) (by omega) hlt2
     rw[← hd] at hdt
     have hset:∀ x y:Int×Int,((d++m.drop d.length).map rowC).set ((d.length:Nat):Int).toNat (over (rowC y) 0 [iD x.1,iD x.2])=((d++[x])++m.drop (d++[x]).length).map rowC:=fun x y=>by
      have hdl2:d.length<m.length:=by omega
      rw[Int.toNat_natCast,List.drop_eq_getElem_cons hdl2,List.map_append,List.map_cons,List.set_append_right _ _ (by simp)]
      simp[over]
     generalize hx:m[k+i]=x at g3 hdt
     generalize hy:m[k+i - 1]'(by omega)=y at g4 hdt
     generalize m[d.length]'(by omega)=z at g5
     obtain ⟨x1,x2⟩:=x
     obtain ⟨y1,y2⟩:=y
     obtain ⟨z1,z2⟩:=z
     by_cases hxy:(y1,y2)=(x1,x2)
     ·rw[if_pos hxy] at hdt
      obtain ⟨rfl,rfl⟩:=Prod.mk.inj hxy
      ((repeat' ((conv=>whnf);first|exact .intro|refine .ya ?_|refine .na ?_|refine .ys ?_|refine .ns ?_|refine .neg (fun _=>?_) (fun _=>?_)|refine .mk (fun _=>?_) (fun _=>?_)|(first|rw[e3]|refine ⟨⟨Int.natCast_nonneg _,h6⟩,?_⟩|refine ⟨⟨Int.natCast_nonneg _,h7⟩,?_⟩|refine ⟨_,g3,?_⟩|refine ⟨_,g4,?_⟩)|refine .mk ?_ ?_|refine AK ?_|refine AT ?_|fail));all_goals conv=>whnf)
      all_goals refine ⟨(i+1,d),⟨⟨Nat.succ_pos i,by show k+(i+1)≤m.length;omega,hdt.symm,by show d.length<k+(i+1);omega⟩,by show m.length - (i+1)<m.length - i;omega⟩,?_⟩
      all_goals ((repeat' first|exact rfl|((conv=>whnf);first|done|exact suL|refine And.intro ?_ ?_|fail));all_goals conv=>whnf)
      all_goals exact ceq e2
     ·rw[if_neg hxy] at hdt
      ((repeat' ((conv=>whnf);first|exact .intro|refine .ya ?_|refine .na ?_|refine .ys ?_|refine .ns ?_|refine .neg (fun _=>?_) (fun _=>?_)|refine .mk (fun _=>?_) (fun _=>?_)|(first|rw[e3]|refine ⟨⟨Int.natCast_nonneg _,h6⟩,?_⟩|refine ⟨⟨Int.natCast_nonneg _,h7⟩,?_⟩|refine ⟨⟨Int.natCast_nonneg _,h8⟩,?_⟩|refine ⟨_,g3,?_⟩|refine ⟨_,g4,?_⟩|refine ⟨_,g5,?_⟩)|refine .mk ?_ ?_|refine AK ?_|refine AT ?_|fail));all_goals conv=>whnf)
      all_goals first
       | (exfalso;rename_i hh;exact hh (fun hc=>hxy (Prod.ext hc.1.symm hc.2.1.symm)))
       | (exfalso;rename_i hh;exact hxy (Prod.ext hh.1.symm hh.2.1.symm))
       | skip
      all_goals refine ⟨(i+1,d++[(x1,x2)]),⟨⟨Nat.succ_pos i,by show k+(i+1)≤m.length;omega,hdt.symm,by show (d++[(x1,x2)]).length<k+(i+1);rw[List.length_append];simp;omega⟩,by show m.length - (i+1)<m.length - i;omega⟩,?_⟩
      all_goals ((repeat' first|exact rfl|((conv=>whnf);first|done|exact suL|refine And.intro ?_ ?_|fail));all_goals conv=>whnf)
      all_goals first|exact ceq e2|exact ceq (e4.trans (by simp))|exact hset (x1,x2) _|skip
    ·have h6:¬ (i:Int)<(((((m.map rowC).length:Nat):Int).toNat - ((k:Nat):Int).toNat:Nat):Int):=by omega
     have hm:dedC m=d:=by rw[hd,List.take_of_length_le (by omega)]
     have h9:((d.length:Nat):Int)≤((((d++m.drop d.length).map rowC).length:Nat):Int):=by omega
     have hq0:((d.length:Nat):Int).toNat+(((((d++m.drop d.length).map rowC).length:Nat):Int).toNat - ((d.length:Nat):Int).toNat)≤((d++m.drop d.length).map rowC).length:=by omega
     have hZ:over ((d++m.drop d.length).map rowC) ((d.length:Nat):Int).toNat (List.replicate (((((d++m.drop d.length).map rowC).length:Nat):Int).toNat - ((d.length:Nat):Int).toNat) ([iD 0,iD 0]:List D))=(d++List.replicate (m.length - d.length) (0,0)).map rowC:=by
      rw[Int.toNat_natCast,Int.toNat_natCast,hrl]
      unfold over
      rw[List.map_append,List.map_append,List.take_left' (List.length_map _),List.length_replicate,List.drop_eq_nil_of_le (by rw[List.length_append,List.length_map,List.length_map,List.length_drop];omega),List.append_nil,List.map_replicate]
     have h10:((d.length:Nat):Int)≤((((over ((d++m.drop d.length).map rowC) ((d.length:Nat):Int).toNat (List.replicate (((((d++m.drop d.length).map rowC).length:Nat):Int).toNat - ((d.length:Nat):Int).toNat) ([iD 0,iD 0]:List D))).length:Nat)):Int):=by
      rw[hZ,List.length_map,List.length_append,List.length_replicate]
      omega
     rw[hm]
     ((repeat' ((conv=>whnf);first|exact .intro|refine .ya ?_|refine .na ?_|refine .ys ?_|refine .ns ?_|refine .neg (fun _=>?_) (fun _=>?_)|refine .mk (fun _=>?_) (fun _=>?_)|(first|refine ⟨⟨Int.natCast_nonneg _,h9,Int.le_refl _⟩,?_⟩|refine ⟨⟨hq0,rfl⟩,?_⟩|refine ⟨⟨Int.le_refl _,Int.natCast_nonneg _,h10⟩,?_⟩)|refine .mk ?_ ?_|refine AK ?_|refine AT ?_|fail));all_goals conv=>whnf)
     all_goals ((repeat' first|exact rfl|((conv=>whnf);first|done|exact suL|refine And.intro ?_ ?_|fail));all_goals conv=>whnf)
     all_goals first|exact hZ|skip
end Go.Proofs.YtcdjjjokniinkaaGreatDoor
end
section
namespace Go.Proofs
open Go.Shelf
def Tryz.sortCells_ren:Go.Shelf.Ren:=⟨fun|6=>39|15=>72|14=>71|28=>102|29=>103|20=>94|21=>95|22=>96|23=>97|24=>98|25=>99|26=>100|27=>101|46=>132|47=>133|48=>134|49=>135|50=>136|57=>159|n=>n,fun|22=>41|24=>28|25=>71|3=>3|39=>123|0=>0|53=>167|55=>169|4=>4|46=>161|45=>160|50=>75|5=>5|9=>9|66=>201|70=>136|76=>223|77=>224|n=>n,fun|n=>n⟩
theorem Tryz.sortCells:Go.Proofs.SlLaysF0.n6 Tryz.prog Tryz.sortCells_ren:={
 mixed:=by kernel_rfl
 f6:=⟨Tryz.f39.name,by decide,Tryz.func39.trans (congrArg some (by kernel_rfl))⟩
 f14:=⟨Tryz.f71.name,by decide,Tryz.func71.trans (congrArg some (by kernel_rfl))⟩
 f15:=Tryz.func72.trans (congrArg some (by kernel_rfl))
 f20:=⟨Tryz.f94.name,by decide,Tryz.func94.trans (congrArg some (by kernel_rfl))⟩
 f21:=⟨Tryz.f95.name,by decide,Tryz.func95.trans (congrArg some (by kernel_rfl))⟩
 f22:=⟨Tryz.f96.name,by decide,Tryz.func96.trans (congrArg some (by kernel_rfl))⟩
 f23:=⟨Tryz.f97.name,by decide,Tryz.func97.trans (congrArg some (by kernel_rfl))⟩
 f24:=⟨Tryz.f98.name,by decide,Tryz.func98.trans (congrArg some (by kernel_rfl))⟩
 f25:=⟨Tryz.f99.name,by decide,Tryz.func99.trans (congrArg some (by kernel_rfl))⟩
 f26:=⟨Tryz.f100.name,by decide,Tryz.func100.trans (congrArg some (by kernel_rfl))⟩
 f27:=⟨Tryz.f101.name,by decide,Tryz.func101.trans (congrArg some (by kernel_rfl))⟩
 f28:=Tryz.func102.trans (congrArg some (by kernel_rfl))
 f29:=Tryz.func103.trans (congrArg some (by kernel_rfl))
 f46:=⟨Tryz.f132.name,by decide,Tryz.func132.trans (congrArg some (by kernel_rfl))⟩
 f47:=Tryz.func133.trans (congrArg some (by kernel_rfl))
 f48:=Tryz.func134.trans (congrArg some (by kernel_rfl))
 f49:=⟨Tryz.f135.name,by decide,Tryz.func135.trans (congrArg some (by kernel_rfl))⟩
 f50:=⟨Tryz.f136.name,by decide,Tryz.func136.trans (congrArg some (by kernel_rfl))⟩
 f57:=⟨Tryz.f159.name,by decide,Tryz.func159.trans (congrArg some (by kernel_rfl))⟩
 t0:=Tryz.underlying0
 a0:=Tryz.isAgg0
 z0:=Tryz.sizeOf0
 v0:=Tryz.zeroValue0
 t3:=Tryz.underlying3
 a3:=Tryz.isAgg3
 z3:=Tryz.sizeOf3
 v3:=Tryz.zeroValue3
 t4:=Tryz.underlying4
 a4:=Tryz.isAgg4
 z4:=Tryz.sizeOf4
 v4:=Tryz.zeroValue4
 t5:=Tryz.underlying5
 a5:=Tryz.isAgg5
 z5:=Tryz.sizeOf5
 v5:=Tryz.zeroValue5
 t9:=Tryz.underlying9
 a9:=Tryz.isAgg9
 z9:=Tryz.sizeOf9
 v9:=Tryz.zeroValue9
 t22:=Tryz.underlying41
 a22:=Tryz.isAgg41
 z22:=Tryz.sizeOf41
 v22:=Tryz.zeroValue41
 t25:=Tryz.underlying71
 a25:=Tryz.isAgg71
 z25:=Tryz.sizeOf71
 v25:=Tryz.zeroValue71
 t39:=Tryz.underlying123
 a39:=Tryz.isAgg123
 z39:=Tryz.sizeOf123
 v39:=Tryz.zeroValue123
 t45:=Tryz.underlying160
 a45:=Tryz.isAgg160
 z45:=Tryz.sizeOf160
 v45:=Tryz.zeroValue160
 t46:=Tryz.underlying161
 a46:=Tryz.isAgg161
 z46:=Tryz.sizeOf161
 v46:=Tryz.zeroValue161
 t50:=Tryz.underlying75
 a50:=Tryz.isAgg75
 z50:=Tryz.sizeOf75
 v50:=Tryz.zeroValue75
 t53:=Tryz.underlying167
 a53:=Tryz.isAgg167
 z53:=Tryz.sizeOf167
 v53:=Tryz.zeroValue167
 t55:=Tryz.underlying169
 a55:=Tryz.isAgg169
 z55:=Tryz.sizeOf169
 v55:=Tryz.zeroValue169
 t66:=Tryz.underlying201
 a66:=Tryz.isAgg201
 z66:=Tryz.sizeOf201
 v66:=Tryz.zeroValue201
 t70:=Tryz.underlying136
 a70:=Tryz.isAgg136
 z70:=Tryz.sizeOf136
 v70:=Tryz.zeroValue136
 t76:=Tryz.underlying223
 a76:=Tryz.isAgg223
 z76:=Tryz.sizeOf223
 v76:=Tryz.zeroValue223
 t77:=Tryz.underlying224
 a77:=Tryz.isAgg224
 z77:=Tryz.sizeOf224
 v77:=Tryz.zeroValue224 }
def Tryz.cmpInt_ren:Go.Shelf.Ren:=⟨fun|5=>63|7=>89|n=>n,fun|22=>3|3=>3|4=>4|n=>n,fun|n=>n⟩
theorem Tryz.cmpInt:Go.Proofs.SlLaysC2.n5 Tryz.prog Tryz.cmpInt_ren:={
 mixed:=by kernel_rfl
 f5:=⟨Tryz.f63.name,by decide,Tryz.func63.trans (congrArg some (by kernel_rfl))⟩
 f7:=⟨Tryz.f89.name,by decide,Tryz.func89.trans (congrArg some (by kernel_rfl))⟩
 t3:=Tryz.underlying3
 a3:=Tryz.isAgg3
 z3:=Tryz.sizeOf3
 v3:=Tryz.zeroValue3
 t4:=Tryz.underlying4
 a4:=Tryz.isAgg4
 z4:=Tryz.sizeOf4
 v4:=Tryz.zeroValue4
 t22:=Tryz.underlying3
 a22:=Tryz.isAgg3
 z22:=Tryz.sizeOf3
 v22:=Tryz.zeroValue3 }
end Go.Proofs
end
section
namespace Go.Proofs.YtcdjjjokniinkaaGreatDoor
open Go Go.RowKit Go.Sort Go.EYtcdjjjokniinkaaGreatDoor
set_option maxRecDepth 100000
set_option maxHeartbeats 4000000
theorem or_calls (b:Nat) (x y:Int) (c:Nat) (w:World) (h0:w.cell? ⟨b,0,none⟩=some (.int .i64 x)) (h1:w.cell? ⟨b,1,none⟩=some (.int .i64 y)) :
 Calls Tryz.prog 62 #[.slice (some ⟨b,0,none⟩) 2 c] w fun e w'=>e=.returned (.int .i64 (orZ x y))∧w'=w:=by
 by_cases hx:x=0
 ·subst hx
  have hr:orZ 0 y=y:=rfl
  rw[hr]
  clear hr
  by_cases hy:y=0
  ·subst hy
   go_enter Tryz.func62,Tryz.ntmps62
   go_wp2
   refine wp_loop_rounds 3 ?_
   rw[rounds_succ]
   go_wp2
   rw[rounds_succ]
   go_wp2
   rw[rounds_succ]
   go_wp2
   go_ret
   exact ⟨rfl,rfl⟩
  ·go_enter Tryz.func62,Tryz.ntmps62
   go_wp2
   refine wp_loop_rounds 3 ?_
   rw[rounds_succ]
   go_wp2
   rw[rounds_succ]
   go_wp2
   go_ret
   exact ⟨rfl,rfl⟩
 ·have hr:orZ x y=x:=if_neg hx
  rw[hr]
  clear hr
  go_enter Tryz.func62,Tryz.ntmps62
  go_wp2
  refine wp_loop_rounds 3 ?_
  rw[rounds_succ]
  go_wp2
  go_ret
  exact ⟨rfl,rfl⟩
end Go.Proofs.YtcdjjjokniinkaaGreatDoor
end
section
namespace Go.Proofs.YtcdjjjokniinkaaGreatDoor
open Go
set_option maxRecDepth 100000
def frontL (ops':Array Oper):Nat→List (List Bool)→List (List Bool)
 | 0,ms=>ms
 | k+1,ms=>ms++frontL ops' k ((ms.flatMap fun l=>(Region.ready .any ops' l.toArray).map fun i=>l.set i true).foldl (fun acc l=>if acc.contains l then acc else l::acc) [])
def frontM (ops':Array Oper) (m:Nat):List (List Bool):=frontL ops' m [List.replicate m false]
def frontB (ops ops':Array Oper) (m r:Nat) (ms:List (List Bool)):Bool :=
 ms.all fun l=>(l.all id || Region.ready .any ops (l++List.replicate r false).toArray==Region.ready .any ops' l.toArray) && (l.length==m) && ((Region.ready .any ops' l.toArray).isEmpty==l.all id) &&
  (Region.ready .any ops' l.toArray).all fun i=>decide (i<m) && ms.contains (l.set i true) && ((l.set i true).count false+1==l.count false)
theorem wpOp_front {P:Program} {ops ops':Array Oper} {Q:Exit→Act→World→Prop} {i:Nat} {K:Act→World→Prop} {a:Act} {w:World} (h1:ops'[i]?=ops[i]?) (hg:∀ o,ops'[i]?=some o→o.guard=none) (h:wpOp P ops' Q i K a w):wpOp P ops Q i K a w:=by
 unfold wpOp at *
 rw[← h1]
 cases ho:ops'[i]? with
 | none=>rw[ho] at h;exact h
 | some o =>
  rw[ho] at h
  have hw:∀ y,Region.wanted o y=true:=fun y=>by unfold Region.wanted;rw[hg o ho]
  simp only[hw,if_true] at h ⊢
  exact h
theorem wpAny_front {P:Program} {ops ops':Array Oper} {C:World→Prop} {Q:Exit→Act→World→Prop} {Qn:Act→Prop} {m r:Nat} {ms:List (List Bool)} (hB:frontB ops ops' m r ms=true) (hop:∀ i,i<m→ops'[i]?=ops[i]?) (hg:∀ (i:Nat) (o:Oper),ops'[i]?=some o→o.guard=none)
 (hend:∀ a w,C w→Qn a→wpAny P .any ops Q r (List.replicate m true++List.replicate r false).toArray a w) :
 ∀ (fuel:Nat) (l:List Bool) (a:Act) (w:World),l ∈ ms→l.count false=fuel→C w→wpAnyQ P .any ops' C Qn fuel l.toArray a→wpAny P .any ops Q (fuel+r) (l++List.replicate r false).toArray a w:=by
 intro fuel
 induction fuel with
 | zero =>
  intro l a w hl hc hw h
  have hb:=List.all_eq_true.1 hB l hl
  simp only[Bool.and_eq_true,beq_iff_eq] at hb
  have e:l=List.replicate m true:=by
   refine List.eq_replicate_iff.2 ⟨hb.1.1.2,fun b hb'=>?_⟩
   cases b with
   | true=>rfl
   | false=>exact absurd hb' (List.count_eq_zero.1 hc)
  rw[e,Nat.zero_add]
  exact hend a w hw h.2
 | succ fuel ih =>
  intro l a w hl hc hw h
  have hb:=List.all_eq_true.1 hB l hl
  simp only[Bool.and_eq_true,beq_iff_eq] at hb
  obtain ⟨⟨⟨hb1,hb2⟩,hb3⟩,hb4⟩:=hb
  rw[show fuel+1+r=(fuel+r)+1 by omega]
  have hna:l.all id=false:=by
   cases hx:l.all id with
   | false=>rfl
   | true =>
    have:l.count false=0:=List.count_eq_zero.2 fun hm=>by
     have:=List.all_eq_true.1 hx false hm
     simp at this
    omega
  rw[hna,Bool.false_or,beq_iff_eq] at hb1
  refine ⟨fun h0=>?_,fun i hi=>?_⟩
  ·rw[hb1] at h0
   rw[h0,hna] at hb3
   simp at hb3
  ·rw[hb1] at hi
   have h4:=List.all_eq_true.1 hb4 i hi
   simp only[Bool.and_eq_true,beq_iff_eq,decide_eq_true_eq] at h4
   obtain ⟨⟨hlt,hmem⟩,hcnt⟩:=h4
   have hmem':l.set i true ∈ ms:=by simpa using hmem
   have es:(l++List.replicate r false).toArray.setIfInBounds i true=(l.set i true++List.replicate r false).toArray:=by
    rw[List.setIfInBounds_toArray,List.set_append_left _ _ (by rw[hb2];exact hlt)]
   refine wpOp_front (hop i hlt) (hg i) (wpOp_of_qOp hw (fun a' w' hw' hk=>?_) (h.2 i hi))
   rw[es]
   rw[List.setIfInBounds_toArray] at hk
   exact ih (l.set i true) a' w' hmem' (by omega) hw' hk
theorem wp_region_front {P:Program} {C:World→Prop} {id:Nat} {Q:Exit→Act→World→Prop} {a:Act} {w:World} {l:List Oper} (m r:Nat) (hm:P.follows .mixedOrders=true) (hC:C { w with drawn:=w.drawn+1 })
 (hl:l.length=m+r) (hB:(frontB l.toArray (l.take m).toArray m r (frontM (l.take m).toArray m) && Region.noSelect (l.take m).toArray && Region.lexFrom .any (l.take m).toArray (l.take m).length 0 (Array.replicate m false) && (l.take m).all (fun o=>o.guard.isNone) && (frontM (l.take m).toArray m).contains (List.replicate m false))=true)
 (h:wpQuiet P (l.take m).toArray C (fun a'=>∀ w',C w'→wpAny P .any l.toArray Q r (List.replicate m true++List.replicate r false).toArray a' w') (l.take m) a):(Code.region id l.toArray true).wp P Q a w:=by
 simp only[Bool.and_eq_true] at hB
 obtain ⟨⟨⟨⟨h1,h2⟩,h3⟩,h4⟩,h5⟩:=hB
 have hlen:(l.take m).length=m:=by rw[List.length_take];omega
 have hq:=wpAnyQ_lex (C:=C) (md:=.any) (ops:=(l.take m).toArray) h2 (l.take m) 0 (Array.replicate m false) a (by simp) h3 h
 rw[hlen] at hq
 refine wp_region_any hm ?_
 have hf:=wpAny_front (P:=P) (C:=C) (Q:=Q) (Qn:=fun a'=>∀ w',C w'→wpAny P .any l.toArray Q r (List.replicate m true++List.replicate r false).toArray a' w') h1 (fun i hi=>by simp[hi]) (fun i o ho=>by
  have hmem:o ∈ l.take m:=List.mem_of_getElem? (by simpa using ho)
  simpa using List.all_eq_true.1 h4 o hmem) (fun a' w' hw' hQ=>hQ w' hw') m (List.replicate m false) a _ (by simpa using h5) (by simp) hC (by
   rw[List.toArray_replicate]
   exact hq)
 rw[List.replicate_append_replicate,List.toArray_replicate] at hf
 rw[show l.toArray.size=m+r by simpa using hl]
 exact hf
end Go.Proofs.YtcdjjjokniinkaaGreatDoor
end
section
namespace Go.Proofs.YtcdjjjokniinkaaGreatDoor
open Go Go.RowKit Go.Sort Go.EYtcdjjjokniinkaaGreatDoor
set_option maxRecDepth 100000
set_option maxHeartbeats 4000000
theorem comp_calls (p q:Int×Int) (W:World):Calls Tryz.prog 32 #[.agg (encC p).toArray,.agg (encC q).toArray] W fun e w'=>e=.returned (.int .i64 (cfC p q))∧∃ k os',w'=grow (W.drewN k) os':=by
 have hc:∀ (x y:Int) W',Calls Tryz.prog 63 #[.int .i64 x,.int .i64 y] W' fun e w'=>e=.returned (.int .i64 (cmpZ x y))∧w'=W':=fun x y W'=>by
  have h:=AnyG.cmp_Compare_int Tryz.cmpInt x y W'
  have e:Lib.compareInt x y=cmpZ x y:=by unfold Lib.compareInt cmpZ;(repeat' split) <;> omega
  rw[e] at h
  exact h
 have hg:∀ (x y:Int) (w:World) (n:Nat) (os:Array Obj),Calls Tryz.prog 63 #[.int .i64 x,.int .i64 y] (grow (w.drewN n) os) fun e w''=>e=.returned (.int .i64 (cmpZ x y))∧∃ p:GrownBy,w''=grow (w.drewN p.n) p.os :=
  fun x y w n os=>(hc x y _).mono fun e w' ⟨h1,h2⟩=>⟨h1,⟨n,os⟩,h2⟩
 obtain ⟨p1,p2⟩:=p
 obtain ⟨q1,q2⟩:=q
 show Calls _ _ #[.agg #[.int .i64 p1,.int .i64 p2],.agg #[.int .i64 q1,.int .i64 q2]] W fun e w'=>e=.returned (.int .i64 (orZ (cmpZ p2 q2) (cmpZ p1 q1)))∧_
 have c1:=hg p2 q2
 have c2:=hg p1 q1
 generalize cmpZ p2 q2=x at c1 ⊢
 generalize cmpZ p1 q1=y at c2 ⊢
 clear hc hg
 go_enter Tryz.func32,Tryz.ntmps32
 go_wp2_with fail
 obtain ⟨W1,hW1⟩:∃ W1:World,W1=(W.alloc (.cells #[.int .i64 p1,.int .i64 p2] 28)).alloc (.cells #[.int .i64 q1,.int .i64 q2] 28):=⟨_,rfl⟩
 rw[← hW1]
 have z1:(W.heap.push (.cells #[.int .i64 p1,.int .i64 p2] 28)).size=W.heap.size+1:=Array.size_push _
 have g2:W1.heap[W.heap.size+1]?=some (.cells #[.int .i64 q1,.int .i64 q2] 28 (0,0)):=by
  rw[hW1,← z1]
  exact Array.getElem?_push_size
 have g1:W1.heap[W.heap.size]?=some (.cells #[.int .i64 p1,.int .i64 p2] 28 (0,0)):=by
  rw[hW1]
  show ((W.heap.push _).push _)[W.heap.size]?=_
  rw[Array.getElem?_push,if_neg (by rw[z1];omega)]
  exact Array.getElem?_push_size
 have l1:W.heap.size<W1.heap.size:=(Array.getElem?_eq_some_iff.1 g1).1
 have l2:W.heap.size+1<W1.heap.size:=(Array.getElem?_eq_some_iff.1 g2).1
 have f1:=fun n os=>cell_grown (w:=W1) (a:=⟨W.heap.size,0,none⟩) (v:=.int .i64 p1) l1 (by simp[World.cell?,g1]) n os
 have f2:=fun n os=>cell_grown (w:=W1) (a:=⟨W.heap.size,1,none⟩) (v:=.int .i64 p2) l1 (by simp[World.cell?,g1]) n os
 have f3:=fun n os=>cell_grown (w:=W1) (a:=⟨W.heap.size+1,0,none⟩) (v:=.int .i64 q1) l2 (by simp[World.cell?,g2]) n os
 have f4:=fun n os=>cell_grown (w:=W1) (a:=⟨W.heap.size+1,1,none⟩) (v:=.int .i64 q2) l2 (by simp[World.cell?,g2]) n os
 have hWW:∀ n os,∃ k os',grow (W1.drewN n) os=grow (W.drewN k) os':=fun n os=>by
  refine ⟨n,(#[Obj.cells #[.int .i64 p1,.int .i64 p2] 28]++#[Obj.cells #[.int .i64 q1,.int .i64 q2] 28])++os,?_⟩
  rw[hW1,alloc_eq_grow,alloc_eq_grow,grow_grow]
  exact grow_grow (W.drewN n) _ os
 have hX:Aside (∀ n os,∃ k os',grow (W1.drewN n) os=grow (W.drewN k) os'):=hWW
 clear hWW hW1 g1 g2 l1 l2 z1
 refine wp_region_front 10 3 (C:=fun w'=>∃ p:GrownBy,w'=grow (W1.drewN p.n) p.os) (by kernel_rfl) ⟨⟨1,#[]⟩,by rw[grow_empty];rfl⟩ rfl (by decide +kernel) ?_
 simp only[List.take_succ_cons,List.take_zero]
 quiet_step (fail)
 quiet_step (fail)
 quiet_step (fail)
 quiet_step (fail)
 refine wpQuiet_step (fun K hK=>?_)
 go_simp
 refine ⟨_,fun pp=>c1 W1 pp.n pp.os,hK _ ?_⟩
 clear hK K
 quiet_step (fail)
 quiet_step (fail)
 quiet_step (fail)
 quiet_step (fail)
 refine wpQuiet_step (fun K hK=>?_)
 go_simp
 refine ⟨_,fun pp=>c2 W1 pp.n pp.os,hK _ ?_⟩
 clear hK K
 refine wpQuiet_nil ?_
 rintro _ ⟨⟨nq,osq⟩,rfl⟩
 have hY:=hX.out nq osq
 clear f1 f2 f3 f4 c1 c2 hX
 generalize grow (W1.drewN nq) osq=w2 at hY ⊢
 have hZ:Aside (∃ k os',w2=grow (W.drewN k) os'):=hY
 clear hY
 refine wpAny_ready (rs:=[10]) (by kernel_rfl) (by simp) ?_
 refine AllReady.cons rfl (fun K hK=>?_) AllReady.nil
 go_simp
 refine hK _ _ ?_
 clear hK K
 refine wpAny_ready (rs:=[11]) (by kernel_rfl) (by simp) ?_
 refine AllReady.cons rfl (fun K hK=>?_) AllReady.nil
 go_simp
 have ha:∀ o:Obj,(w2.alloc o).heap[w2.heap.size]?=some o:=fun o=>Array.getElem?_push_size
 refine (or_calls w2.heap.size x y 2 _ (by unfold World.cell?;simp only[ha];rfl) (by unfold World.cell?;simp only[ha];rfl)).mono ?_
 rintro e w' ⟨rfl,rfl⟩
 refine hK _ _ ?_
 clear hK K
 refine wpAny_ready (rs:=[12]) (by kernel_rfl) (by simp) ?_
 refine AllReady.cons rfl (fun K hK=>?_) AllReady.nil
 go_simp
 refine hK _ _ ?_
 clear hK K
 refine wpAny_done (by kernel_rfl) ?_ _
 go_wp2
 go_ret
 obtain ⟨k,os',hw⟩:=hZ.out
 refine ⟨rfl,k,os'++#[Obj.cells #[.int .i64 x,.int .i64 y] 3],?_⟩
 rw[hw,alloc_eq_grow,grow_grow]
end Go.Proofs.YtcdjjjokniinkaaGreatDoor
end
section
namespace Go.Proofs.YtcdjjjokniinkaaGreatDoor
open Go Go.RowKit Go.EYtcdjjjokniinkaaGreatDoor Go.Sort
set_option maxRecDepth 100000
set_option maxHeartbeats 4000000
variable {gl:List (Nat×List D)}
theorem rowC_2 {m:List (Int×Int)}:∀ r ∈ m.map rowC,r.length=2:=fun r hr=>by
 obtain ⟨p,_,rfl⟩:=List.mem_map.1 hr
 rfl
theorem encC_one (p:Int×Int):∀ v ∈ encC p,v.oneCell'=true:=fun v hv=>by
 simp[encC] at hv
 rcases hv with rfl|rfl <;> rfl
theorem Sort_x (m:List (Int×Int)) (hl:m.length≤1099511627776):Go.EYtcdjjjokniinkaaGreatDoor.Fn Tryz.prog gl 39 [.c (.all 2 0),.c (.fn 32 [])] [(0,.rows 2 (m.map rowC) 28)] 1 (.ret (.tup [])) [(0,.rows 2 ((sortC m).map rowC) 28)] 1 []:=by
 refine ⟨Nat.le_refl _,fun k B h hk=>?_,fun k hk=>(by cases hk),fun w M0 adr xs hW hG hd=>?_⟩
 ·match k,h with
  | 0,_=>rfl
 match xs,hd with
 | [x,y],⟨hx,hy,_⟩ =>
  obtain ⟨cs,rfl,hcs⟩:=hy
  match cs,hcs with
  | [],_ =>
  have hloc:=hW.loc 0 _ rfl
  rcases hx with ⟨h5,rfl⟩|⟨b,q,cp,cur,ee,f,h5,h6,h7,h8,h9,rfl⟩
  ·rw[h5] at hloc
   obtain ⟨_,h6,_⟩:=hloc
   have hm:m=[]:=List.map_eq_nil_iff.1 h6
   subst hm
   have hs:sortC []=[]:=by unfold sortC;simp
   rw[hs]
   refine .inl ⟨by unfold HasBody;kernel_rfl,(AnyF.slices_SortFunc_none Tryz.sortCells none 0 (.func (.func 32) #[] #[]) w).mono ?_⟩
   rintro e w' ⟨rfl,rfl⟩
   exact ⟨adr,Evo.refl _ _,hW,fun _ _ _=>rfl,fun k B b' mm h he=>.inl ⟨k,B,mm,h,he⟩,_,rfl,[],rfl,trivial⟩
  ·rw[h5] at hloc
   obtain ⟨g1,g2,g3,cur',cp',g4,g5,g6,g7,g8⟩:=hloc
   rw[h6] at g4
   cases g4
   obtain rfl:cp=cp':=by omega
   have hlen:(m.map rowC).length=m.length:=List.length_map _
   have hq:q=m.length:=by rw[← g2,hlen]
   subst hq
   rw[hlen] at g8
   have hv:=rowsC_val g8
   have hF:(flatK encC 2 m.toArray).size=m.length * 2:=by simp[flatK]
   have hH:HoldsK encC 2 w b 0 m.toArray:=fun j hj=>by
    rw[hF] at hj
    have e1:(flatK encC 2 m.toArray)[j]! = (flatK encC 2 m.toArray)[j]'(by rw[hF];exact hj):=getElem!_pos _ _ _
    have e2:(flatK encC 2 m.toArray)[j]'(by rw[hF];exact hj)=cur[j]'(by omega):=by
     have h1:(flatK encC 2 m.toArray).toList[j]?=(cur.toList.take (m.length * 2))[j]?:=by rw[flatC,hv]
     rw[List.getElem?_take,if_pos hj,Array.getElem?_toList,Array.getElem?_toList,Array.getElem?_eq_getElem (by rw[hF];exact hj),Array.getElem?_eq_getElem (by omega)] at h1
     exact Option.some.inj h1
    rw[e1,e2]
    refine ⟨?_,by simp[World.frozen?,h6]⟩
    simp[World.cell?,h6]
   have eg:∀ args W,(callFunc 32 args).run Tryz.prog W=.ok (.enter 32 args) W:=enters_of Tryz.func32 (by kernel_rfl) rfl
   have hcmp:CmpLays Tryz.prog 32 #[] encC 2 cfC b 0 m.toArray.size w:=fun n os dk _ p p'=>comp_calls p p' _
   have hbl:b<w.heap.size:=(Array.getElem?_eq_some_iff.1 h6).1
   have c1:=AnyQ.slices_SortFunc_total Tryz.sortCells 2 Tryz.isAgg28 Tryz.sizeOf28 encC (fun _=>rfl) encC_one cfC swoC 32 #[] b 0 cp m.toArray w eg hcmp hH hbl (by simp;omega) totC
   refine .inl ⟨by unfold HasBody;kernel_rfl,c1.mono ?_⟩
   rintro e w' ⟨rfl,n,os,hw⟩
   have hse:(m.toArray.toList.mergeSort fun x y=>!(ltOf cfC) y x)=sortC m:=by unfold sortC;simp
   rw[hse] at hw
   obtain ⟨k1,k2⟩:=sort_world (w:=w) (n:=n) (sortC m).toArray os h6
   rw[← hw] at k1 k2
   have hF2:(flatK encC 2 (sortC m).toArray).size=m.length * 2:=by simp[flatK,sortC_len]
   have hpt:=put_take (F:=flatK encC 2 (sortC m).toArray) (cur:=cur) (by rw[hF2];omega)
   have hln:((sortC m).map rowC).length=m.length:=by rw[List.length_map,sortC_len]
   exact rows_keep hW h5 k2 k1 (by rw[hpt.2];exact h7) g1 rowC_2 hln h8 h9 (by
    rw[hln,← hF2,hpt.1,flatC]
    exact rowsC_den _) ⟨[],rfl,trivial⟩
end Go.Proofs.YtcdjjjokniinkaaGreatDoor
end
