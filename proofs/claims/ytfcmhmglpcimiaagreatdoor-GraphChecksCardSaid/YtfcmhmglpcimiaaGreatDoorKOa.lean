/- Proved: a part of what the law is proved with (the reckoner, contracts of functions, plain laws). Conditions: as each says. -/
import Derived.Test.YtfcmhmglpcimiaaGreatDoorKCd
import Derived.Test.YtfcmhmglpcimiaaGreatDoorKCe
import Derived.Test.YtfcmhmglpcimiaaGreatDoorKErrAs
import Derived.Test.YtfcmhmglpcimiaaGreatDoorKGb
import Derived.Test.YtfcmhmglpcimiaaGreatDoorKIg
import Derived.Test.YtfcmhmglpcimiaaGreatDoorKJk
namespace Go.Proofs.YtfcmhmglpcimiaaGreatDoor
set_option maxRecDepth 100000
section
open Go Go.RowKit Go.EYtfcmhmglpcimiaaGreatDoor
set_option maxHeartbeats 4000000
variable {gl:List (Nat×List D)}
theorem dedC_upto {m:List (Int×Int)}:∀ {k:Nat},k≤m.length→(∀ j (h0:0<j) (h:j<m.length),j<k→m[j - 1]≠m[j])→dedC (m.take k)=m.take k
 | 0,_,_=>rfl
 | k+1,hk,h=>by
  have ih:=dedC_upto (m:=m) (k:=k) (by omega) fun j h0 h' hj=>h j h0 h' (by omega)
  rcases Nat.eq_zero_or_pos k with rfl|h0
  ·match m,hk with
   | p::m,_=>rfl
  ·rw[dedC_take h0 (by omega),if_neg (h k h0 (by omega) (by omega)),ih]
   exact (List.take_succ_eq_append_getElem (by omega)).symm
theorem Compact_n (m:List (Int×Int)) (hl:m.length≤1099511627776) (hn:∀ j (h0:0<j) (h:j<m.length),m[j - 1]≠m[j]):Go.EYtfcmhmglpcimiaaGreatDoor.Fn Tryz.prog gl 63 [.c (.all 2 0)] [(0,.rows 2 (m.map rowC) 39)] 1 (.ret (.c (.all 2 0))) [(0,.rows 2 (m.map rowC) 39)] 1 []:=by
 have hlen:(m.map rowC).length=m.length:=List.length_map _
 by_cases h2:m.length<2
 ·have h3:(((m.map rowC).length:Nat):Int)<2:=by omega
  refine S1 Tryz.func63 rfl ?_
  ((repeat' ((conv=>whnf);first|exact .intro|refine G ?_|intro _|refine .mk ?_ ?_|refine H ?_|fail));all_goals conv=>whnf)
  all_goals ((repeat' first|exact rfl|((conv=>whnf);first|done|exact suL|refine And.intro ?_ ?_|fail));all_goals conv=>whnf)
 ·have h3:¬ (((m.map rowC).length:Nat):Int)<2:=by omega
  refine S1 Tryz.func63 rfl ?_
  ((repeat' ((conv=>whnf);first|exact .intro|refine G ?_|intro _|refine .mk ?_ ?_|refine H ?_|fail));all_goals conv=>whnf)
  refine ⟨{ σ:=Nat,fr:=fun k=>[(3,.c (.d (iD (k:Int))))],ks:=[],L:=fun _=>[],ex:=0,I:=fun k=>0<k∧k≤m.length,μ:=fun k=>m.length - k },⟨1,⟨Nat.one_pos,by omega⟩,?_⟩,fun (k:Nat) hk=>?_⟩
  ·((repeat' first|exact rfl|((conv=>whnf);first|done|exact suL|refine And.intro ?_ ?_|fail));all_goals conv=>whnf)
  ·obtain ⟨h0,hk⟩:=hk
   have e0:IntKind.i64.wrap ((k:Int)+1)=((k+1:Nat):Int):=by rw[wrapI (by omega)];rfl
   have e1:IntKind.i64.wrap ((k:Int) - 1)=((k - 1:Nat):Int):=by rw[wrapI (by omega)];omega
   by_cases hlt:k<m.length
   ·have h4:(k:Int)<(((m.map rowC).length:Nat):Int):=by omega
    have h5:((k - 1:Nat):Int)<(((m.map rowC).length:Nat):Int):=by omega
    have g1:=get_map (f:=rowC) hlt
    have g2:=get_map (f:=rowC) (show k - 1<m.length by omega)
    have hne:=hn k h0 hlt
    generalize m[k]=p at g1 hne
    generalize m[k - 1]=q at g2 hne
    obtain ⟨p1,p2⟩:=p
    obtain ⟨q1,q2⟩:=q
    ((repeat' ((conv=>whnf);first|exact .intro|refine G ?_|intro _|(first|rw[e1]|refine ⟨⟨Int.natCast_nonneg _,h4⟩,?_⟩|refine ⟨⟨Int.natCast_nonneg _,h5⟩,?_⟩|refine ⟨_,g1,?_⟩|refine ⟨_,g2,?_⟩)|refine .mk ?_ ?_|refine H ?_|fail));all_goals conv=>whnf)
    all_goals first
     | (exfalso;rename_i hx;exact hne (Prod.ext hx.1.symm hx.2.1.symm))
     | skip
    all_goals refine ⟨k+1,⟨⟨Nat.succ_pos k,hlt⟩,by show m.length - (k+1)<m.length - k;omega⟩,?_⟩
    all_goals ((repeat' first|exact rfl|((conv=>whnf);first|done|exact suL|refine And.intro ?_ ?_|fail));all_goals conv=>whnf)
    all_goals exact ceq e0
   ·have h4:¬ (k:Int)<(((m.map rowC).length:Nat):Int):=by omega
    ((repeat' ((conv=>whnf);first|exact .intro|refine G ?_|intro _|refine .mk ?_ ?_|refine H ?_|fail));all_goals conv=>whnf)
    all_goals ((repeat' first|exact rfl|((conv=>whnf);first|done|exact suL|refine And.intro ?_ ?_|fail));all_goals conv=>whnf)
theorem shift_get {m d:List (Int×Int)} {i:Nat} (hd:d.length≤i):(d++m.drop d.length)[i]?=m[i]?:=by
 rw[List.getElem?_append_right hd,List.getElem?_drop,show d.length+(i - d.length)=i by omega]
theorem shift_len {m d:List (Int×Int)} (hd:d.length≤m.length):((d++m.drop d.length).map rowC).length=m.length:=by
 rw[List.length_map,List.length_append,List.length_drop];omega
theorem Compact_s (m:List (Int×Int)) (hl:m.length≤1099511627776) (j0:Nat) (h0:0<j0) (hj:j0<m.length) (hn:∀ j (h0:0<j) (h:j<m.length),j<j0→m[j - 1]≠m[j]) (he:m[j0 - 1]=m[j0]) :
 Go.EYtfcmhmglpcimiaaGreatDoor.Fn Tryz.prog gl 63 [.c (.all 2 0)] [(0,.rows 2 (m.map rowC) 39)] 1 (.ret (.c (.own 2 0 0 (dedC m).length))) [(0,.rows 2 ((dedC m++List.replicate (m.length - (dedC m).length) (0,0)).map rowC) 39)] 1 []:=by
 have hlen:(m.map rowC).length=m.length:=List.length_map _
 have h3:¬ (((m.map rowC).length:Nat):Int)<2:=by omega
 have hd0:dedC (m.take (j0+1))=m.take j0:=by rw[dedC_take h0 hj,if_pos he,dedC_upto (by omega) fun j a b c=>hn j a b c]
 refine S1 Tryz.func63 rfl ?_
 ((repeat' ((conv=>whnf);first|exact .intro|refine G ?_|intro _|refine .mk ?_ ?_|refine H ?_|fail));all_goals conv=>whnf)
 refine ⟨{ σ:=Nat,fr:=fun k=>[(3,.c (.d (iD (k:Int))))],ks:=[],L:=fun _=>[],ex:=0,I:=fun k=>0<k∧k≤j0,μ:=fun k=>m.length - k },⟨1,⟨Nat.one_pos,h0⟩,?_⟩,fun (k:Nat) hk=>?_⟩
 ·((repeat' first|exact rfl|((conv=>whnf);first|done|exact suL|refine And.intro ?_ ?_|fail));all_goals conv=>whnf)
 ·obtain ⟨hk0,hk⟩:=hk
  have hlt:k<m.length:=by omega
  have e0:IntKind.i64.wrap ((k:Int)+1)=((k+1:Nat):Int):=by rw[wrapI (by omega)];rfl
  have e1:IntKind.i64.wrap ((k:Int) - 1)=((k - 1:Nat):Int):=by rw[wrapI (by omega)];omega
  have h4:(k:Int)<(((m.map rowC).length:Nat):Int):=by omega
  have h5:((k - 1:Nat):Int)<(((m.map rowC).length:Nat):Int):=by omega
  have g1:=get_map (f:=rowC) hlt
  have g2:=get_map (f:=rowC) (show k - 1<m.length by omega)
  by_cases hkj:k<j0
  ·have hne:=hn k hk0 hlt hkj
   generalize m[k]=p at g1 hne
   generalize m[k - 1]=q at g2 hne
   obtain ⟨p1,p2⟩:=p
   obtain ⟨q1,q2⟩:=q
   ((repeat' ((conv=>whnf);first|exact .intro|refine G ?_|intro _|(first|rw[e1]|refine ⟨⟨Int.natCast_nonneg _,h4⟩,?_⟩|refine ⟨⟨Int.natCast_nonneg _,h5⟩,?_⟩|refine ⟨_,g1,?_⟩|refine ⟨_,g2,?_⟩)|refine .mk ?_ ?_|refine H ?_|fail));all_goals conv=>whnf)
   all_goals first
    | (exfalso;rename_i hx;exact hne (Prod.ext hx.1.symm hx.2.1.symm))
    | skip
   all_goals refine ⟨k+1,⟨⟨Nat.succ_pos k,hkj⟩,by show m.length - (k+1)<m.length - k;omega⟩,?_⟩
   all_goals ((repeat' first|exact rfl|((conv=>whnf);first|done|exact suL|refine And.intro ?_ ?_|fail));all_goals conv=>whnf)
   all_goals exact ceq e0
  ·obtain rfl:k=j0:=by omega
   rw[he] at g2
   generalize m[k]=p at g1 g2 he
   obtain ⟨p1,p2⟩:=p
   have hsl:(k:Int)≤(((m.map rowC).length:Nat):Int):=by omega
   ((repeat' ((conv=>whnf);first|exact .intro|refine G ?_|intro _|(first|rw[e1]|refine ⟨⟨Int.natCast_nonneg _,h4⟩,?_⟩|refine ⟨⟨Int.natCast_nonneg _,h5⟩,?_⟩|refine ⟨_,g1,?_⟩|refine ⟨_,g2,?_⟩|refine ⟨⟨Int.natCast_nonneg _,hsl,Int.le_refl _⟩,?_⟩)|refine .mk ?_ ?_|refine H ?_|fail));all_goals conv=>whnf)
   refine ⟨{ σ:=Nat×List (Int×Int),fr:=fun q=>[(3,.c (.d (iD (q.2.length:Int)))),(5,.c (.d (iD (q.1:Int))))],ks:=[0],L:=fun q=>[(0,.rows 2 ((q.2++m.drop q.2.length).map rowC) 39)],ex:=0,I:=fun q=>0<q.1∧k+q.1≤m.length∧q.2=dedC (m.take (k+q.1))∧q.2.length<k+q.1,μ:=fun q=>m.length - q.1 },⟨(1,m.take k),⟨Nat.one_pos,by show k+1≤m.length;omega,hd0.symm,by show (m.take k).length<k+1;rw[List.length_take];omega⟩,?_⟩,fun q hq=>?_⟩
   ·((repeat' first|exact rfl|((conv=>whnf);first|done|exact suL|refine And.intro ?_ ?_|fail));all_goals conv=>whnf)
    ·exact ceq (show (k:Int)=((m.take k).length:Nat) by rw[List.length_take];omega)
    ·show m.map rowC=(m.take k++m.drop (m.take k).length).map rowC
     rw[List.length_take,Nat.min_eq_left (by omega),List.take_append_drop]
   ·obtain ⟨i,d⟩:=q
    obtain ⟨hi0,hi,hd,hdl⟩:=hq
    simp only at hi0 hi hd hdl
    have hrl:=shift_len (m:=m) (d:=d) (by omega)
    have e2:IntKind.i64.wrap ((i:Int)+1)=((i+1:Nat):Int):=by rw[wrapI (by omega)];rfl
    have e3:IntKind.i64.wrap ((i:Int) - 1)=((i - 1:Nat):Int):=by rw[wrapI (by omega)];omega
    have e4:IntKind.i64.wrap ((d.length:Int)+1)=((d.length+1:Nat):Int):=by rw[wrapI (by omega)];rfl
    by_cases hlt2:k+i<m.length
    ·have h6:(i:Int)<(((((m.map rowC).length:Nat):Int).toNat - ((k:Nat):Int).toNat:Nat):Int):=by omega
     have h7:((i - 1:Nat):Int)<(((((m.map rowC).length:Nat):Int).toNat - ((k:Nat):Int).toNat:Nat):Int):=by omega
     have at_:∀ x,d.length≤x→(h:x<m.length)→((d++m.drop d.length).map rowC)[x]?=some (rowC m[x]):=fun x h1 h2=>by
      rw[List.getElem?_map,shift_get h1,List.getElem?_eq_getElem h2]
      rfl
     have g3:((d++m.drop d.length).map rowC)[((k:Nat):Int).toNat+((i:Nat):Int).toNat]?=some (rowC m[k+i]):=by
      rw[Int.toNat_natCast,Int.toNat_natCast]
      exact at_ (k+i) (by omega) hlt2
     have g4:((d++m.drop d.length).map rowC)[((k:Nat):Int).toNat+((i - 1:Nat):Int).toNat]?=some (rowC (m[k+i - 1]'(by omega))):=by
      rw[Int.toNat_natCast,Int.toNat_natCast,show k+(i - 1)=k+i - 1 by omega]
      exact at_ (k+i - 1) (by omega) (by omega)
     have g5:((d++m.drop d.length).map rowC)[((d.length:Nat):Int).toNat]?=some (rowC (m[d.length]'(by omega))):=by
      rw[Int.toNat_natCast]
      exact at_ d.length (Nat.le_refl _) (by omega)
     have h8:((d.length:Nat):Int)<((((d++m.drop d.length).map rowC).length:Nat):Int):=by omega
     have hdt:=dedC_take (m:=m) (j:=k+i) (by omega) hlt2
     rw[← hd] at hdt
     have hset:∀ x y:Int×Int,((d++m.drop d.length).map rowC).set ((d.length:Nat):Int).toNat (over (rowC y) 0 [iD x.1,iD x.2])=((d++[x])++m.drop (d++[x]).length).map rowC:=fun x y=>by
      have hdl2:d.length<m.length:=by omega
      rw[Int.toNat_natCast,List.drop_eq_getElem_cons hdl2,List.map_append,List.map_cons,List.set_append_right _ _ (by simp)]
      simp[over]
     generalize hx:m[k+i]=x at g3 hdt
     generalize hy:m[k+i - 1]'(by omega)=y at g4 hdt
     generalize m[d.length]'(by omega)=z at g5
     obtain ⟨x1,x2⟩:=x
     obtain ⟨y1,y2⟩:=y
     obtain ⟨z1,z2⟩:=z
     by_cases hxy:(y1,y2)=(x1,x2)
     ·rw[if_pos hxy] at hdt
      obtain ⟨rfl,rfl⟩:=Prod.mk.inj hxy
      ((repeat' ((conv=>whnf);first|exact .intro|refine G ?_|intro _|(first|rw[e3]|refine ⟨⟨Int.natCast_nonneg _,h6⟩,?_⟩|refine ⟨⟨Int.natCast_nonneg _,h7⟩,?_⟩|refine ⟨_,g3,?_⟩|refine ⟨_,g4,?_⟩)|refine .mk ?_ ?_|refine H ?_|fail));all_goals conv=>whnf)
      all_goals refine ⟨(i+1,d),⟨⟨Nat.succ_pos i,by show k+(i+1)≤m.length;omega,hdt.symm,by show d.length<k+(i+1);omega⟩,by show m.length - (i+1)<m.length - i;omega⟩,?_⟩
      all_goals ((repeat' first|exact rfl|((conv=>whnf);first|done|exact suL|refine And.intro ?_ ?_|fail));all_goals conv=>whnf)
      all_goals exact ceq e2
     ·rw[if_neg hxy] at hdt
      ((repeat' ((conv=>whnf);first|exact .intro|refine G ?_|intro _|(first|rw[e3]|refine ⟨⟨Int.natCast_nonneg _,h6⟩,?_⟩|refine ⟨⟨Int.natCast_nonneg _,h7⟩,?_⟩|refine ⟨⟨Int.natCast_nonneg _,h8⟩,?_⟩|refine ⟨_,g3,?_⟩|refine ⟨_,g4,?_⟩|refine ⟨_,g5,?_⟩)|refine .mk ?_ ?_|refine H ?_|fail));all_goals conv=>whnf)
      all_goals first
       | (exfalso;rename_i hh;exact hh (fun hc=>hxy (Prod.ext hc.1.symm hc.2.1.symm)))
       | (exfalso;rename_i hh;exact hxy (Prod.ext hh.1.symm hh.2.1.symm))
       | skip
      all_goals refine ⟨(i+1,d++[(x1,x2)]),⟨⟨Nat.succ_pos i,by show k+(i+1)≤m.length;omega,hdt.symm,by show (d++[(x1,x2)]).length<k+(i+1);rw[List.length_append];simp;omega⟩,by show m.length - (i+1)<m.length - i;omega⟩,?_⟩
      all_goals ((repeat' first|exact rfl|((conv=>whnf);first|done|exact suL|refine And.intro ?_ ?_|fail));all_goals conv=>whnf)
      all_goals first|exact ceq e2|exact ceq (e4.trans (by simp))|exact hset (x1,x2) _|skip
    ·have h6:¬ (i:Int)<(((((m.map rowC).length:Nat):Int).toNat - ((k:Nat):Int).toNat:Nat):Int):=by omega
     have hm:dedC m=d:=by rw[hd,List.take_of_length_le (by omega)]
     have h9:((d.length:Nat):Int)≤((((d++m.drop d.length).map rowC).length:Nat):Int):=by omega
     have hq0:((d.length:Nat):Int).toNat+(((((d++m.drop d.length).map rowC).length:Nat):Int).toNat - ((d.length:Nat):Int).toNat)≤((d++m.drop d.length).map rowC).length:=by omega
     have hZ:over ((d++m.drop d.length).map rowC) ((d.length:Nat):Int).toNat (List.replicate (((((d++m.drop d.length).map rowC).length:Nat):Int).toNat - ((d.length:Nat):Int).toNat) ([iD 0,iD 0]:List D))=(d++List.replicate (m.length - d.length) (0,0)).map rowC:=by
      rw[Int.toNat_natCast,Int.toNat_natCast,hrl]
      unfold over
      rw[List.map_append,List.map_append,List.take_left' (List.length_map _),List.length_replicate,List.drop_eq_nil_of_le (by rw[List.length_append,List.length_map,List.length_map,List.length_drop];omega),List.append_nil,List.map_replicate]
     have h10:((d.length:Nat):Int)≤((((over ((d++m.drop d.length).map rowC) ((d.length:Nat):Int).toNat (List.replicate (((((d++m.drop d.length).map rowC).length:Nat):Int).toNat - ((d.length:Nat):Int).toNat) ([iD 0,iD 0]:List D))).length:Nat)):Int):=by
      rw[hZ,List.length_map,List.length_append,List.length_replicate]
      omega
     rw[hm]
     ((repeat' ((conv=>whnf);first|exact .intro|refine G ?_|intro _|(first|refine ⟨⟨Int.natCast_nonneg _,h9,Int.le_refl _⟩,?_⟩|refine ⟨⟨hq0,rfl⟩,?_⟩|refine ⟨⟨Int.le_refl _,Int.natCast_nonneg _,h10⟩,?_⟩)|refine .mk ?_ ?_|refine H ?_|fail));all_goals conv=>whnf)
     all_goals ((repeat' first|exact rfl|((conv=>whnf);first|done|exact suL|refine And.intro ?_ ?_|fail));all_goals conv=>whnf)
     all_goals first|exact hZ|skip
end
section
open Go Go.EYtfcmhmglpcimiaaGreatDoor
set_option maxHeartbeats 4000000
variable {gl:List (Nat×List D)}
theorem firstOf {p:Nat→Prop} (n:Nat):(∀ k,k<n→p k)∨∃ m,m<n∧(∀ k,k<m→p k)∧¬ p m:=by
 induction n with
 | zero=>exact .inl fun k h=>absurd h (Nat.not_lt_zero k)
 | succ n ih =>
  rcases ih with h|⟨m,h1,h2,h3⟩
  ·by_cases hn:p n
   ·exact .inl fun k hk=>by
     rcases Nat.lt_succ_iff_lt_or_eq.1 hk with hk|rfl
     ·exact h k hk
     ·exact hn
   ·exact .inr ⟨n,Nat.lt_succ_self n,h,hn⟩
  ·exact .inr ⟨m,by omega,h2,h3⟩
theorem Compact_c (m:List (Int×Int)) (hl:m.length≤1099511627776):(Go.EYtfcmhmglpcimiaaGreatDoor.Fn Tryz.prog gl 63 [.c (.all 2 0)] [(0,.rows 2 (m.map rowC) 39)] 1 (.ret (.c (.all 2 0))) [(0,.rows 2 (m.map rowC) 39)] 1 []∧dedC m=m)∨
 Go.EYtfcmhmglpcimiaaGreatDoor.Fn Tryz.prog gl 63 [.c (.all 2 0)] [(0,.rows 2 (m.map rowC) 39)] 1 (.ret (.c (.own 2 0 0 (dedC m).length))) [(0,.rows 2 ((dedC m++List.replicate (m.length - (dedC m).length) (0,0)).map rowC) 39)] 1 []:=by
 rcases firstOf (p:=fun j=>∀ (h0:0<j) (h:j<m.length),m[j - 1]≠m[j]) m.length with h0|⟨j0,hj,h0,hx⟩
 ·refine .inl ⟨Compact_n (gl:=gl) m hl fun j a b=>h0 j b a b,?_⟩
  have hd:=dedC_upto (m:=m) (Nat.le_refl _) fun j a b _=>h0 j b a b
  rwa [List.take_length] at hd
 ·have hne:∃ (a:0<j0) (b:j0<m.length),m[j0 - 1]'(Nat.lt_of_le_of_lt (Nat.sub_le _ _) b)=m[j0]:=by
   refine Classical.byContradiction fun hh=>hx fun a b e=>hh ⟨a,b,e⟩
  obtain ⟨a,b,e⟩:=hne
  exact .inr (Compact_s (gl:=gl) m hl j0 a b (fun j a' b' h=>h0 j h a' b') e)
def refsZ (n:Nd):List (Int×Int):=dedC (sortC (cellsN n))
theorem rCells_d (n:Nd) {box:Prop} (hf:frmN n box) (hc:cntN n≤200):FnP Tryz.prog gl 38 [.agg n.cs] (.lst 2 ((refsZ n).map rowC)):=by
 have c0:=look_h (gl:=gl) n hf hc [] (by simp;omega)
 rw[List.nil_append] at c0
 have hl:=(cellsN_few n hf).1
 have c1:=Sort_x (gl:=gl) (cellsN n) (by omega)
 have hsl:(sortC (cellsN n)).length≤1048576:=by rw[sortC_len];omega
 unfold refsZ
 generalize cellsN n=cs at *
 have c2:=Compact_c (gl:=gl) (sortC cs) (by omega)
 obtain ⟨k,m,t,a,b,ks⟩:=n
 rcases c2 with ⟨c2,hd⟩|c2
 ·rw[hd]
  refine fnP_of_vc (nv:=9999) (cu:=[4]) fitsG mixed Tryz.func38 rfl hoB rfl ?_
  refine ⟨{ σ:=Unit,fr:=fun _=>[],ks:=[1,2],L:=fun _=>[(1,.var [.all 2 3] 31),(3,.rows 2 (([]:List (Int×Int)).map rowC) 39),(2,.var [.fn 59 [(1,0),(2,0)]] 131)],ex:=1,I:=fun _=>True,μ:=fun _=>0 },?_,fun _ _=>?_⟩
  ·((repeat' ((conv=>whnf);first|exact .intro|refine G ?_|intro _|refine .mk ?_ ?_|refine H ?_|fail));all_goals conv=>whnf)
   refine ⟨(),trivial,?_⟩
   ((repeat' first|exact rfl|((conv=>whnf);first|done|exact suL|refine And.intro ?_ ?_|fail));all_goals conv=>whnf)
   all_goals first|exact .inr (.inr (.inl ⟨rfl,2,3,rfl,by decide⟩))|exact ⟨2,_,rfl,by decide,by decide⟩|skip
  ((repeat' ((conv=>whnf);first|exact .intro|refine G ?_|intro _|refine C5 c0 [1,3,2] ?_|refine C5 c1 [3] ?_|refine C5 c2 [3] ?_|refine .mk ?_ ?_|refine H ?_|fail));all_goals conv=>whnf)
  all_goals exact LeD.rfl
 ·refine fnP_of_vc (nv:=9999) (cu:=[4]) fitsG mixed Tryz.func38 rfl hoB rfl ?_
  refine ⟨{ σ:=Unit,fr:=fun _=>[],ks:=[1,2],L:=fun _=>[(1,.var [.all 2 3] 31),(3,.rows 2 (([]:List (Int×Int)).map rowC) 39),(2,.var [.fn 59 [(1,0),(2,0)]] 131)],ex:=1,I:=fun _=>True,μ:=fun _=>0 },?_,fun _ _=>?_⟩
  ·((repeat' ((conv=>whnf);first|exact .intro|refine G ?_|intro _|refine .mk ?_ ?_|refine H ?_|fail));all_goals conv=>whnf)
   refine ⟨(),trivial,?_⟩
   ((repeat' first|exact rfl|((conv=>whnf);first|done|exact suL|refine And.intro ?_ ?_|fail));all_goals conv=>whnf)
   all_goals first|exact .inr (.inr (.inl ⟨rfl,2,3,rfl,by decide⟩))|exact ⟨2,_,rfl,by decide,by decide⟩|skip
  ((repeat' ((conv=>whnf);first|exact .intro|refine G ?_|intro _|refine C5 c0 [1,3,2] ?_|refine C5 c1 [3] ?_|refine C5 c2 [3] ?_|refine .mk ?_ ?_|refine H ?_|fail));all_goals conv=>whnf)
  all_goals refine LeD.of (congrArg (D.lst 2) ?_)
  all_goals rw[List.drop_zero,List.map_append,List.take_left' (List.length_map _)]
end
section
open Go Go.EYtfcmhmglpcimiaaGreatDoor
structure PB (p:Par):Prop where
 num:∀ m:Int,0≤m→okI m→p.pl (Lib.itoa m)=some (.mk 1 m [] z0 z0 [])
 numW:∀ m:Int,0≤m→Lib.itoa m≠[]∧∀ c ∈ Lib.itoa m,wordlyP c
 tru:p.pl tT=some (.mk 3 1 [] z0 z0 [])
 fal:p.pl tF=some (.mk 3 0 [] z0 z0 [])
 ref:∀ a:Rf,okP a.c a.r→p.pl (nmR a)=some (.mk 5 0 [] a z0 [])∧p.rf (nmR a)=some a
 refW:∀ a:Rf,okP a.c a.r→nmR a≠[]∧∀ c ∈ nmR a,wordlyP c
 lit:∀ (m:Int) (post:List UInt8),1≤m→m≤6→p.lit (tx.getD m.toNat []++post)=some (m,(tx.getD m.toNat []).length)
 cl:p.cl=clZ
def brD (x:Nd) (g:Int) (dx:Nat):Nat:=if tgtN x<g then dx+1 else dx
def dp7:List Nd→List Nat→Nat
 | x::_,d::_=>brD x 5 d+1
 | _,_=>0
def dp8 (tg:Int):List Nd→List Nat→Nat
 | x::y::_,d::e::_=>max (brD x tg d) (brD y (tg+1) e)
 | _,_=>0
def mxL:List Nat→Nat
 | []=>0
 | d::r=>max d (mxL r)
mutual
def depN:Nd→Nat
 | .mk k m t a b ks=>if k=7 then dp7 ks (depL ks) else if k=8 then dp8 (tgtN (.mk k m t a b ks)) ks (depL ks) else if k=9 then mxL (depL ks)+1 else 0
def depL:List Nd→List Nat
 | []=>[]
 | x::r=>depN x::depL r
end
def Gd {α:Type} (D:Prop) (x y:Rs α):Prop:=(D→x=y)∧(x=y∨∃ a e,x=.no a e)
section
variable {α β:Type} {D E F:Prop}
theorem Gd.same (x:Rs α):Gd D x x:=⟨fun _=>rfl,.inl rfl⟩
theorem Gd.of {x y:Rs α} (h:x=y):Gd D x y:=⟨fun _=>h,.inl h⟩
theorem Gd.fail {a:Nat} {e:Int} {y:Rs α} (h:¬ D):Gd D (.no a e) y:=⟨fun hd=>absurd hd h,.inr ⟨_,_,rfl⟩⟩
theorem Gd.imp {x y:Rs α} (h:Gd D x y) (hd:E→D):Gd E x y:=⟨fun he=>h.1 (hd he),h.2⟩
theorem Gd.trans {x y z:Rs α} (h:Gd D x y) (h':Gd D y z):Gd D x z:=by
 refine ⟨fun hd=>(h.1 hd).trans (h'.1 hd),?_⟩
 rcases h.2 with rfl|hn
 ·exact h'.2
 ·exact .inr hn
theorem Gd.bind {x:Rs α} {v:α} {i:Nat} {f:α→Nat→Rs β} {y:Rs β} (h:Gd D x (.ok v i)) (h':Gd E (f v i) y) (hd:F→D∧E):Gd F (x.bind f) y:=by
 refine ⟨fun hf=>?_,?_⟩
 ·rw[h.1 (hd hf).1];exact h'.1 (hd hf).2
 ·rcases h.2 with hx|⟨a,e,hx⟩
  ·rw[hx];exact h'.2
  ·rw[hx];exact .inr ⟨a,e,rfl⟩
end
def okQ (l:List UInt8):Prop:=l=[]∨∃ c r,l=c::r∧(c=41∨c=44∨c=61∨c=60∨c=62∨c=38∨c=43∨c=45∨c=42∨c=47)
theorem okQ.ne {l:List UInt8} (h:okQ l) {c:UInt8} (hc:l.head?=some c):¬ wordlyP c∧c≠32∧c≠34∧c≠58∧c≠40:=by
 rcases h with rfl|⟨d,r,rfl,h⟩
 ·cases hc
 ·cases hc
  rcases h with rfl|rfl|rfl|rfl|rfl|rfl|rfl|rfl|rfl|rfl <;> decide
theorem okQ.c {c:UInt8} {r:List UInt8} (h:c=41∨c=44):okQ (c::r):=.inr ⟨c,r,rfl,by rcases h with h|h <;> simp[h]⟩
section
variable {s:List UInt8}
theorem drop_app {w post:List UInt8} {i:Nat} (h:s.drop i=w++post):s.drop (i+w.length)=post:=by rw[← List.drop_drop,h,List.drop_left]
theorem drop_one {c:UInt8} {l:List UInt8} {i:Nat} (h:s.drop i=c::l):s.drop (i+1)=l:=drop_app (w:=[c]) h
theorem get_at {l:List UInt8} {i:Nat} (h:s.drop i=l):s[i]?=l.head?:=by rw[← List.head?_drop,h]
theorem skp_of {l:List UInt8} {i:Nat} (h:s.drop i=l) (hl:l.head?≠some 32):skp s i=i:=by
 unfold skp
 rw[h]
 cases l with
 | nil=>rfl
 | cons c r =>
  unfold blk
  rw[if_neg (fun hc=>hl (by rw[hc];rfl))]
  rfl
theorem opA_of {l:List UInt8} {i:Nat} (h:s.drop i=l) (hl:l.head?≠some 32):opA s i=opT l:=by
 unfold opA
 rw[skp_of h hl,h]
theorem okQ.b {l:List UInt8} (h:okQ l):l.head?≠some 32:=fun hc=>(h.ne hc).2.1 rfl
theorem wdl_word {w post:List UInt8} (hw:∀ c ∈ w,wordlyP c) (hp:∀ c,post.head?=some c→¬ wordlyP c):wdl (w++post)=w.length:=by
 induction w with
 | nil =>
  cases post with
  | nil=>rfl
  | cons c r =>
   show wdl (c::r)=0
   unfold wdl
   rw[if_neg (hp c rfl)]
 | cons c r ih =>
  show wdl (c::(r++post))=_
  unfold wdl
  rw[if_pos (hw c (by simp)),ih (fun d hd=>hw d (by simp[hd]))]
  rfl
theorem wdAt_of {w post:List UInt8} {i:Nat} (h:s.drop i=w++post) (hw:∀ c ∈ w,wordlyP c) (hp:∀ c,post.head?=some c→¬ wordlyP c):wdAt s i=w∧wdE s i=i+w.length:=by
 unfold wdAt wdE
 rw[h,wdl_word hw hp]
 exact ⟨List.take_left,rfl⟩
theorem wordly_ne {c:UInt8} (h:wordlyP c):c≠45∧c≠40∧c≠34∧c≠35∧c≠32∧c≠61∧c≠62∧c≠58:=by
 refine ⟨?_,?_,?_,?_,?_,?_,?_,?_⟩ <;> rintro rfl <;> revert h <;> decide
theorem oneB_neg (p:Par) (d:Nat):∃ full ng tw,oneB p s d=negF p s full ng tw:=by
 cases d with
 | zero=>exact ⟨_,_,_,rfl⟩
 | succ d=>exact ⟨_,_,_,rfl⟩
theorem negF_prim {p:Par} {full:Bool} {ng tw:Nat→Rs Nd} {c:UInt8} {r:List UInt8} {i:Nat} (h:s.drop i=c::r) (h1:c≠32) (h2:c≠45):negF p s full ng tw i=primF p s full tw i:=by
 unfold negF
 rw[skp_of h (by simpa using h1),get_at h,if_neg (by simpa using h2)]
theorem oneB_word {p:Par} {w post:List UInt8} {n:Nd} {i:Nat} (h:s.drop i=w++post) (h0:w≠[]) (hw:∀ c ∈ w,wordlyP c) (hq:okQ post) (hn:p.pl w=some n) (d:Nat):oneB p s d i=.ok n (i+w.length):=by
 obtain ⟨full,ng,tw,e⟩:=oneB_neg (s:=s) p d
 obtain ⟨e1,e2⟩:=wdAt_of h hw (fun c hc=>(hq.ne hc).1)
 have e3:=get_at (drop_app h)
 rw[e]
 cases w with
 | nil=>exact absurd rfl h0
 | cons c r =>
  have hc:=wordly_ne (hw c (by simp))
  rw[negF_prim h hc.2.2.2.2.1 hc.1]
  unfold primF
  rw[get_at h]
  show (if c=40 then _ else _)=_
  rw[if_neg hc.2.1,if_neg hc.2.2.1,if_neg hc.2.2.2.1,if_pos (hw c (by simp))]
  unfold wordF
  rw[e2,e3,if_neg (fun hh=>(hq.ne hh.1).2.2.2.2 rfl),e1,hn]
theorem txtF_dq:∀ (t post:List UInt8),post.head?≠some 34→txtF (dqN t++34::post)=some (t,(dqN t).length+1)
 | [],[],_=>rfl
 | [],d::r,h=>by
  show txtF (34::d::r)=some ([],1)
  unfold txtF
  rw[if_pos rfl,if_neg (by simpa using h)]
 | c::t,post,h=>by
  have ih:=txtF_dq t post h
  unfold dqN
  by_cases hc:c=34
  ·rw[if_pos hc]
   show txtF (34::34::(dqN t++34::post))=_
   unfold txtF
   rw[if_pos rfl,if_pos rfl,ih,hc]
   simp
  ·rw[if_neg hc]
   show txtF (c::(dqN t++34::post))=_
   have hne:∃ d r,dqN t++34::post=d::r:=by
    cases hd:dqN t with
    | nil=>exact ⟨_,_,rfl⟩
    | cons d r=>exact ⟨_,_,rfl⟩
   obtain ⟨d,r,hd⟩:=hne
   rw[hd] at ih ⊢
   unfold txtF
   rw[if_neg hc,ih]
   simp
theorem opT_sgn {m:Int} (h1:1≤m) (h2:m≤11) {c:UInt8} {r:List UInt8} (hc:c≠61) (hc2:c≠62):opT (sgnN m++c::r)=some (m.toNat,(sgnN m).length):=by
 have h:m=1∨m=2∨m=3∨m=4∨m=5∨m=6∨m=7∨m=8∨m=9∨m=10∨m=11:=by omega
 rcases h with rfl|rfl|rfl|rfl|rfl|rfl|rfl|rfl|rfl|rfl|rfl
 ·rfl
 ·rfl
 ·show opT (60::c::r)=some (3,1)
  unfold opT
  split <;> simp_all
 ·rfl
 ·show opT (62::c::r)=some (5,1)
  unfold opT
  split <;> simp_all
 all_goals rfl
theorem sgn_hd {m:Int} (h1:1≤m) (h2:m≤11):∃ c r,sgnN m=c::r∧(c=61∨c=60∨c=62∨c=38∨c=43∨c=45∨c=42∨c=47):=by
 have h:m=1∨m=2∨m=3∨m=4∨m=5∨m=6∨m=7∨m=8∨m=9∨m=10∨m=11:=by omega
 rcases h with rfl|rfl|rfl|rfl|rfl|rfl|rfl|rfl|rfl|rfl|rfl
 all_goals exact ⟨_,_,rfl,by decide⟩
theorem okQ_sgn {m:Int} (h1:1≤m) (h2:m≤11) (r:List UInt8):okQ (sgnN m++r):=by
 obtain ⟨c,l,e,hc⟩:=sgn_hd h1 h2
 rw[e]
 exact .inr ⟨c,l++r,rfl,by grind⟩
theorem tgt_tgtN {m:Int} (h1:1≤m) (h2:m≤11) (t:List UInt8) (a b:Rf) (ks:List Nd):tgtN (.mk 8 m t a b ks)=(tgt m.toNat:Nat):=by
 show (if (8:Int)=8 then (if m≤6 then (1:Int) else if m=7 then 2 else if m≤9 then 3 else 4) else 5)=_
 unfold tgt
 rw[if_pos rfl]
 (repeat' split) <;> omega
theorem frm_fuel {sub:Nat→Nat→Rs Nd} {sel:Nat→Bool} (hs:∀ op,Fwd s (sub op)):∀ {F F':Nat} {n:Nd} {j:Nat},j≤s.length→s.length - j<F→s.length - j<F'→frm s sub sel F n j=frm s sub sel F' n j
 | 0,F',n,j,hj,h,_=>by omega
 | F+1,0,n,j,hj,_,h=>by omega
 | F+1,F'+1,n,j,hj,h,h'=>by
  unfold frm
  split
  ·rename_i op len ho
   have hl:=opA_len ho
   have hk:=le_skp s j
   split
   ·cases hx:sub op (skp s j+len) with
    | no a e=>rfl
    | ok m k =>
     have h1:=hs op _ _ _ hl.2 hx
     simp only[Rs.bind_ok]
     exact frm_fuel hs h1.2 (by omega) (by omega)
   ·rfl
  ·rfl
theorem oneBF_fwd (p:Par) (d:Nat):Fwd s (oneB p s d):=by
 have e:oneB p s d=oneA p s d:=by funext i;exact (one_eq d i).symm
 rw[e]
 exact oneA_fwd d
end
def hdP (c:UInt8):Prop:=c=40∨c=34∨c=35∨c=45∨wordlyP c
theorem hdP.ne {c:UInt8} (h:hdP c):c≠32∧c≠61∧c≠62∧c≠41:=by
 refine ⟨?_,?_,?_,?_⟩ <;> rintro rfl <;> revert h <;> unfold hdP <;> decide
theorem tx_hd {m:Int} (h1:1≤m) (h2:m≤6):∃ r,tx.getD m.toNat []=35::r:=by
 have h:m=1∨m=2∨m=3∨m=4∨m=5∨m=6:=by omega
 rcases h with rfl|rfl|rfl|rfl|rfl|rfl
 all_goals exact ⟨_,rfl⟩
theorem cl_word {t:List UInt8} (h:clZ t=true):t≠[]∧∀ c ∈ t,wordlyP c:=by
 unfold clZ at h
 simp only[Bool.and_eq_true,decide_eq_true_eq,List.all_eq_true] at h
 refine ⟨fun e=>by rw[e] at h;simp at h,fun c hc=>?_⟩
 have:=h.2 c hc
 refine .inr (.inr (.inl ⟨?_,?_⟩))
 ·exact UInt8.le_iff_toNat_le.2 this.1
 ·exact UInt8.le_iff_toNat_le.2 this.2
end
end Go.Proofs.YtfcmhmglpcimiaaGreatDoor
