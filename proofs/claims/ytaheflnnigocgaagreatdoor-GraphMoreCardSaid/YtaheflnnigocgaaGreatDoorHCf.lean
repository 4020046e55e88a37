/- Proved: a part of what the law is proved with (the reckoner, contracts of functions, plain laws). Conditions: as each says. -/
import Derived.Test.YtaheflnnigocgaaGreatDoorHAu
import Derived.Test.YtaheflnnigocgaaGreatDoorHCb
import Derived.Test.YtaheflnnigocgaaGreatDoorHEr
import Derived.Test.YtaheflnnigocgaaGreatDoorHFp
import Derived.Test.YtaheflnnigocgaaGreatDoorHFz
import Derived.Test.YtaheflnnigocgaaGreatDoorHPe
import Derived.Test.YtaheflnnigocgaaGreatDoorHTjs
section
namespace Go.Proofs.YtaheflnnigocgaaGreatDoor
open Go Go.RowKit Go.EYtaheflnnigocgaaGreatDoor
set_option maxRecDepth 100000
def dedC:List (Int×Int)→List (Int×Int)
 | []=>[]
 | [p]=>[p]
 | p::q::l=>if p=q then dedC (q::l) else p::dedC (q::l)
theorem dedC_snoc:∀ {l:List (Int×Int)} {p q:Int×Int},dedC (l++[p,q])=if p=q then dedC (l++[p]) else dedC (l++[p])++[q]
 | [],p,q=>by
  show (if p=q then dedC [q] else p::dedC [q])=_
  by_cases h:p=q
  ·rw[if_pos h,if_pos h,h];rfl
  ·rw[if_neg h,if_neg h];rfl
 | [a],p,q=>by
  show (if a=p then dedC [p,q] else a::dedC [p,q])=if p=q then (if a=p then dedC [p] else a::dedC [p]) else (if a=p then dedC [p] else a::dedC [p])++[q]
  have h:=dedC_snoc (l:=[]) (p:=p) (q:=q)
  simp only[List.nil_append] at h
  rw[h]
  by_cases h1:p=q <;> by_cases h2:a=p <;> simp[h1,h2]
 | a::b::l,p,q=>by
  show (if a=b then dedC (b::(l++[p,q])) else a::dedC (b::(l++[p,q])))=if p=q then (if a=b then dedC (b::(l++[p])) else a::dedC (b::(l++[p]))) else (if a=b then dedC (b::(l++[p])) else a::dedC (b::(l++[p])))++[q]
  have h:=dedC_snoc (l:=b::l) (p:=p) (q:=q)
  simp only[List.cons_append] at h
  rw[h]
  by_cases h1:p=q <;> by_cases h2:a=b <;> simp[h1,h2]
theorem dedC_take {m:List (Int×Int)} {j:Nat} (h0:0<j) (hj:j<m.length):dedC (m.take (j+1))=if m[j - 1]=m[j] then dedC (m.take j) else dedC (m.take j)++[m[j]]:=by
 obtain ⟨i,rfl⟩:∃ i,j=i+1:=⟨j - 1,by omega⟩
 have e0:m.take (i+1+1)=m.take (i+1)++[m[i+1]]:=List.take_succ_eq_append_getElem hj
 have e2':m.take (i+1)=m.take i++[m[i]'(by omega)]:=List.take_succ_eq_append_getElem (by omega)
 have e1:m.take (i+1+1)=m.take i++[m[i]'(by omega),m[i+1]]:=by
  rw[e0,e2',List.append_assoc]
  rfl
 have e2:m.take (i+1)=m.take i++[m[i]]:=List.take_succ_eq_append_getElem (by omega)
 rw[e1,e2,dedC_snoc]
 rfl
theorem dedC_mem:∀ {m:List (Int×Int)} {x:Int×Int},x ∈ dedC m↔x ∈ m
 | [],_=>Iff.rfl
 | [_],_=>Iff.rfl
 | p::q::l,x=>by
  have ih:=dedC_mem (m:=q::l) (x:=x)
  unfold dedC
  split
  ·rename_i h
   rw[ih,h]
   simp
  ·rw[List.mem_cons,ih,List.mem_cons (a:=x) (b:=p)]
theorem dedC_rise:∀ {m:List (Int×Int)},m.Pairwise (fun x y=>¬ lesP y x)→(dedC m).Pairwise lesP
 | [],_=>List.Pairwise.nil
 | [p],_=>List.pairwise_singleton _ _
 | p::q::l,h=>by
  obtain ⟨h1,h2⟩:=List.pairwise_cons.1 h
  have ih:=dedC_rise h2
  unfold dedC
  split
  ·exact ih
  ·rename_i hne
   refine List.pairwise_cons.2 ⟨fun x hx=>?_,ih⟩
   rw[dedC_mem] at hx
   have h3:=h1 q (by simp)
   have hpq:lesP p q:=by
    unfold lesP at *
    have:¬ (p.1=q.1∧p.2=q.2):=fun hh=>hne (Prod.ext hh.1 hh.2)
    omega
   rcases List.mem_cons.1 hx with rfl|hx
   ·exact hpq
   ·have h4:=(List.pairwise_cons.1 h2).1 x hx
    unfold lesP at *
    omega
end Go.Proofs.YtaheflnnigocgaaGreatDoor
end
section
namespace Go.Proofs.YtaheflnnigocgaaGreatDoor
open Go Go.RowKit Go.EYtaheflnnigocgaaGreatDoor
set_option maxRecDepth 100000
set_option maxHeartbeats 4000000
variable {gl:List (Nat×List D)}
theorem dedC_upto {m:List (Int×Int)}:∀ {k:Nat},k≤m.length→(∀ j (h0:0<j) (h:j<m.length),j<k→m[j - 1]≠m[j])→dedC (m.take k)=m.take k
 | 0,_,_=>rfl
 | k+1,hk,h=>by
  have ih:=dedC_upto (m:=m) (k:=k) (by omega) fun j h0 h' hj=>h j h0 h' (by omega)
  rcases Nat.eq_zero_or_pos k with rfl|h0
  ·match m,hk with
   | p::m,_=>rfl
  ·rw[dedC_take h0 (by omega),if_neg (h k h0 (by omega) (by omega)),ih]
   exact (List.take_succ_eq_append_getElem (by omega)).symm
theorem Compact_n (m:List (Int×Int)) (hl:m.length≤1099511627776) (hn:∀ j (h0:0<j) (h:j<m.length),m[j - 1]≠m[j]):Go.EYtaheflnnigocgaaGreatDoor.Fn Tryz.prog gl 44 [.c (.all 2 0)] [(0,.rows 2 (m.map rowC) 24)] 1 (.ret (.c (.all 2 0))) [(0,.rows 2 (m.map rowC) 24)] 1 []:=by
 have hlen:(m.map rowC).length=m.length:=List.length_map _
 by_cases h2:m.length<2
 ·have h3:(((m.map rowC).length:Nat):Int)<2:=by omega
  refine fn_of_vc (nv:=9999) (cu:=[]) fits mixed Tryz.func44 rfl hoB rfl rfl rfl rfl ?_
  ((repeat' ((conv=>whnf);first|exact .intro|refine .ya ?_|refine .na ?_|refine .ys ?_|refine .ns ?_|refine .neg (fun _=>?_) (fun _=>?_)|refine .mk (fun _=>?_) (fun _=>?_)|refine .mk ?_ ?_|refine AK ?_|refine AT ?_|fail));all_goals conv=>whnf)
  all_goals ((repeat' first|exact rfl|((conv=>whnf);first|done|exact suL|refine And.intro ?_ ?_|fail));all_goals conv=>whnf)
 ·have h3:¬ (((m.map rowC).length:Nat):Int)<2:=by omega
  refine fn_of_vc (nv:=9999) (cu:=[]) fits mixed Tryz.func44 rfl hoB rfl rfl rfl rfl ?_
  ((repeat' ((conv=>whnf);first|exact .intro|refine .ya ?_|refine .na ?_|refine .ys ?_|refine .ns ?_|refine .neg (fun _=>?_) (fun _=>?_)|refine .mk (fun _=>?_) (fun _=>?_)|refine .mk ?_ ?_|refine AK ?_|refine AT ?_|fail));all_goals conv=>whnf)
  refine ⟨{ σ:=Nat,fr:=fun k=>[(3,.c (.d (iD (k:Int))))],ks:=[],L:=fun _=>[],ex:=0,I:=fun k=>0<k∧k≤m.length,μ:=fun k=>m.length - k },⟨1,⟨Nat.one_pos,by omega⟩,?_⟩,fun (k:Nat) hk=>?_⟩
  ·((repeat' first|exact rfl|((conv=>whnf);first|done|exact suL|refine And.intro ?_ ?_|fail));all_goals conv=>whnf)
  ·obtain ⟨h0,hk⟩:=hk
   have e0:IntKind.i64.wrap ((k:Int)+1)=((k+1:Nat):Int):=by rw[wrapI (by omega)];rfl
   have e1:IntKind.i64.wrap ((k:Int) - 1)=((k - 1:Nat):Int):=by rw[wrapI (by omega)];omega
   by_cases hlt:k<m.length
   ·have h4:(k:Int)<(((m.map rowC).length:Nat):Int):=by omega
    have h5:((k - 1:Nat):Int)<(((m.map rowC).length:Nat):Int):=by omega
    have g1:=get_map (f:=rowC) hlt
    have g2:=get_map (f:=rowC) (show k - 1<m.length by omega)
    have hne:=hn k h0 hlt
    generalize m[k]=p at g1 hne
    generalize m[k - 1]=q at g2 hne
    obtain ⟨p1,p2⟩:=p
    obtain ⟨q1,q2⟩:=q
    ((repeat' ((conv=>whnf);first|exact .intro|refine .ya ?_|refine .na ?_|refine .ys ?_|refine .ns ?_|refine .neg (fun _=>?_) (fun _=>?_)|refine .mk (fun _=>?_) (fun _=>?_)|(first|rw[e1]|refine ⟨⟨Int.natCast_nonneg _,h4⟩,?_⟩|refine ⟨⟨Int.natCast_nonneg _,h5⟩,?_⟩|refine ⟨_,g1,?_⟩|refine ⟨_,g2,?_⟩)|refine .mk ?_ ?_|refine AK ?_|refine AT ?_|fail));all_goals conv=>whnf)
    all_goals first
     | (exfalso;rename_i hx;exact hne (Prod.ext hx.1.symm hx.2.1.symm))
     | skip
    all_goals refine ⟨k+1,⟨⟨Nat.succ_pos k,hlt⟩,by show m.length - (k+1)<m.length - k;omega⟩,?_⟩
    all_goals ((repeat' first|exact rfl|((conv=>whnf);first|done|exact suL|refine And.intro ?_ ?_|fail));all_goals conv=>whnf)
    all_goals exact ceq e0
   ·have h4:¬ (k:Int)<(((m.map rowC).length:Nat):Int):=by omega
    ((repeat' ((conv=>whnf);first|exact .intro|refine .ya ?_|refine .na ?_|refine .ys ?_|refine .ns ?_|refine .neg (fun _=>?_) (fun _=>?_)|refine .mk (fun _=>?_) (fun _=>?_)|refine .mk ?_ ?_|refine AK ?_|refine AT ?_|fail));all_goals conv=>whnf)
    all_goals ((repeat' first|exact rfl|((conv=>whnf);first|done|exact suL|refine And.intro ?_ ?_|fail));all_goals conv=>whnf)
theorem shift_get {m d:List (Int×Int)} {i:Nat} (hd:d.length≤i):(d++m.drop d.length)[i]?=m[i]?:=by
 rw[List.getElem?_append_right hd,List.getElem?_drop,show d.length+(i - d.length)=i by omega]
theorem shift_len {m d:List (Int×Int)} (hd:d.length≤m.length):((d++m.drop d.length).map rowC).length=m.length:=by
 rw[List.length_map,List.length_append,List.length_drop];omega
theorem Compact_s (m:List (Int×Int)) (hl:m.length≤1099511627776) (j0:Nat) (h0:0<j0) (hj:j0<m.length) (hn:∀ j (h0:0<j) (h:j<m.length),j<j0→m[j - 1]≠m[j]) (he:m[j0 - 1]=m[j0]) :
 Go.EYtaheflnnigocgaaGreatDoor.Fn Tryz.prog gl 44 [.c (.all 2 0)] [(0,.rows 2 (m.map rowC) 24)] 1 (.ret (.c (.own 2 0 0 (dedC m).length))) [(0,.rows 2 ((dedC m++List.replicate (m.length - (dedC m).length) (0,0)).map rowC) 24)] 1 []:=by
 have hlen:(m.map rowC).length=m.length:=List.length_map _
 have h3:¬ (((m.map rowC).length:Nat):Int)<2:=by omega
 have hd0:dedC (m.take (j0+1))=m.take j0:=by rw[dedC_take h0 hj,if_pos he,dedC_upto (by omega) fun j a b c=>hn j a b c]
 refine fn_of_vc (nv:=9999) (cu:=[]) fits mixed Tryz.func44 rfl hoB rfl rfl rfl rfl ?_
 ((repeat' ((conv=>whnf);first|exact .intro|refine .ya ?_|refine .na ?_|refine .ys ?_|refine .ns ?_|refine .neg (fun _=>?_) (fun _=>?_)|refine .mk (fun _=>?_) (fun _=>?_)|refine .mk ?_ ?_|refine AK ?_|refine AT ?_|fail));all_goals conv=>whnf)
 refine ⟨{ σ:=Nat,fr:=fun k=>[(3,.c (.d (iD (k:Int))))],ks:=[],L:=fun _=>[],ex:=0,I:=fun k=>0<k∧k≤j0,μ:=fun k=>m.length - k },⟨1,⟨Nat.one_pos,h0⟩,?_⟩,fun (k:Nat) hk=>?_⟩
 ·((repeat' first|exact rfl|((conv=>whnf);first|done|exact suL|refine And.intro ?_ ?_|fail));all_goals conv=>whnf)
 ·obtain ⟨hk0,hk⟩:=hk
  have hlt:k<m.length:=by omega
  have e0:IntKind.i64.wrap ((k:Int)+1)=((k+1:Nat):Int):=by rw[wrapI (by omega)];rfl
  have e1:IntKind.i64.wrap ((k:Int) - 1)=((k - 1:Nat):Int):=by rw[wrapI (by omega)];omega
  have h4:(k:Int)<(((m.map rowC).length:Nat):Int):=by omega
  have h5:((k - 1:Nat):Int)<(((m.map rowC).length:Nat):Int):=by omega
  have g1:=get_map (f:=rowC) hlt
  have g2:=get_map (f:=rowC) (show k - 1<m.length by omega)
  by_cases hkj:k<j0
  ·have hne:=hn k hk0 hlt hkj
   generalize m[k]=p at g1 hne
   generalize m[k - 1]=q at g2 hne
   obtain ⟨p1,p2⟩:=p
   obtain ⟨q1,q2⟩:=q
   ((repeat' ((conv=>whnf);first|exact .intro|refine .ya ?_|refine .na ?_|refine .ys ?_|refine .ns ?_|refine .neg (fun _=>?_) (fun _=>?_)|refine .mk (fun _=>?_) (fun _=>?_)|(first|rw[e1]|refine ⟨⟨Int.natCast_nonneg _,h4⟩,?_⟩|refine ⟨⟨Int.natCast_nonneg _,h5⟩,?_⟩|refine ⟨_,g1,?_⟩|refine ⟨_,g2,?_⟩)|refine .mk ?_ ?_|refine AK ?_|refine AT ?_|fail));all_goals conv=>whnf)
   all_goals first
    | (exfalso;rename_i hx;exact hne (Prod.ext hx.1.symm hx.2.1.symm))
    | skip
   all_goals refine ⟨k+1,⟨⟨Nat.succ_pos k,hkj⟩,by show m.length - (k+1)<m.length - k;omega⟩,?_⟩
   all_goals ((repeat' first|exact rfl|((conv=>whnf);first|done|exact suL|refine And.intro ?_ ?_|fail));all_goals conv=>whnf)
   all_goals exact ceq e0
  ·obtain rfl:k=j0:=by omega
   rw[he] at g2
   generalize m[k]=p at g1 g2 he
   obtain ⟨p1,p2⟩:=p
   have hsl:(k:Int)≤(((m.map rowC).length:Nat):Int):=by omega
   ((repeat' ((conv=>whnf);first|exact .intro|refine .ya ?_|refine .na ?_|refine .ys ?_|refine .ns ?_|refine .neg (fun _=>?_) (fun _=>?_)|refine .mk (fun _=>?_) (fun _=>?_)|(first|rw[e1]|refine ⟨⟨Int.natCast_nonneg _,h4⟩,?_⟩|refine ⟨⟨Int.natCast_nonneg _,h5⟩,?_⟩|refine ⟨_,g1,?_⟩|refine ⟨_,g2,?_⟩|refine ⟨⟨Int.natCast_nonneg _,hsl,Int.le_refl _⟩,?_⟩)|refine .mk ?_ ?_|refine AK ?_|refine AT ?_|fail));all_goals conv=>whnf)
   refine ⟨{ σ:=Nat×List (Int×Int),fr:=fun q=>[(3,.c (.d (iD (q.2.length:Int)))),(5,.c (.d (iD (q.1:Int))))],ks:=[0],L:=fun q=>[(0,.rows 2 ((q.2++m.drop q.2.length).map rowC) 24)],ex:=0,I:=fun q=>0<q.1∧k+q.1≤m.length∧q.2=dedC (m.take (k+q.1))∧q.2.length<k+q.1,μ:=fun q=>m.length - q.1 },⟨(1,m.take k),⟨Nat.one_pos,by show k+1≤m.length;omega,hd0.symm,by show (m.take k).length<k+1;rw[List.length_take];omega⟩,?_⟩,fun q hq=>?_⟩
   ·((repeat' first|exact rfl|((conv=>whnf);first|done|exact suL|refine And.intro ?_ ?_|fail));all_goals conv=>whnf)
    ·exact ceq (show (k:Int)=((m.take k).length:Nat) by rw[List.length_take];omega)
    ·show m.map rowC=(m.take k++m.drop (m.take k).length).map rowC
     rw[List.length_take,Nat.min_eq_left (by omega),List.take_append_drop]
   ·obtain ⟨i,d⟩:=q
    obtain ⟨hi0,hi,hd,hdl⟩:=hq
    simp only at hi0 hi hd hdl
    have hrl:=shift_len (m:=m) (d:=d) (by omega)
    have e2:IntKind.i64.wrap ((i:Int)+1)=((i+1:Nat):Int):=by rw[wrapI (by omega)];rfl
    have e3:IntKind.i64.wrap ((i:Int) - 1)=((i - 1:Nat):Int):=by rw[wrapI (by omega)];omega
    have e4:IntKind.i64.wrap ((d.length:Int)+1)=((d.length+1:Nat):Int):=by rw[wrapI (by omega)];rfl
    by_cases hlt2:k+i<m.length
    ·have h6:(i:Int)<(((((m.map rowC).length:Nat):Int).toNat - ((k:Nat):Int).toNat:Nat):Int):=by omega
     have h7:((i - 1:Nat):Int)<(((((m.map rowC).length:Nat):Int).toNat - ((k:Nat):Int).toNat:Nat):Int):=by omega
     have at_:∀ x,d.length≤x→(h:x<m.length)→((d++m.drop d.length).map rowC)[x]?=some (rowC m[x]):=fun x h1 h2=>by
      rw[List.getElem?_map,shift_get h1,List.getElem?_eq_getElem h2]
      rfl
     have g3:((d++m.drop d.length).map rowC)[((k:Nat):Int).toNat+((i:Nat):Int).toNat]?=some (rowC m[k+i]):=by
      rw[Int.toNat_natCast,Int.toNat_natCast]
      exact at_ (k+i) (by omega) hlt2
     have g4:((d++m.drop d.length).map rowC)[((k:Nat):Int).toNat+((i - 1:Nat):Int).toNat]?=some (rowC (m[k+i - 1]'(by omega))):=by
      rw[Int.toNat_natCast,Int.toNat_natCast,show k+(i - 1)=k+i - 1 by omega]
      exact at_ (k+i - 1) (by omega) (by omega)
     have g5:((d++m.drop d.length).map rowC)[((d.length:Nat):Int).toNat]?=some (rowC (m[d.length]'(by omega))):=by
      rw[Int.toNat_natCast]
      exact at_ d.length (Nat.le_refl _) (by omega)
     have h8:((d.length:Nat):Int)<((((d++m.drop d.length).map rowC).length:Nat):Int):=by omega
     have hdt:=dedC_take (m:=m) (j:=k+i) (by omega) hlt2
     rw[← hd] at hdt
     have hset:∀ x y:Int×Int,((d++m.drop d.length).map rowC).set ((d.length:Nat):Int).toNat (over (rowC y) 0 [iD x.1,iD x.2])=((d++[x])++m.drop (d++[x]).length).map rowC:=fun x y=>by
      have hdl2:d.length<m.length:=by omega
      rw[Int.toNat_natCast,List.drop_eq_getElem_cons hdl2,List.map_append,List.map_cons,List.set_append_right _ _ (by simp)]
      simp[over]
     generalize hx:m[k+i]=x at g3 hdt
     generalize hy:m[k+i - 1]'(by omega)=y at g4 hdt
     generalize m[d.length]'(by omega)=z at g5
     obtain ⟨x1,x2⟩:=x
     obtain ⟨y1,y2⟩:=y
     obtain ⟨z1,z2⟩:=z
     by_cases hxy:(y1,y2)=(x1,x2)
     ·rw[if_pos hxy] at hdt
      obtain ⟨rfl,rfl⟩:=Prod.mk.inj hxy
      ((repeat' ((conv=>whnf);first|exact .intro|refine .ya ?_|refine .na ?_|refine .ys ?_|refine .ns ?_|refine .neg (fun _=>?_) (fun _=>?_)|refine .mk (fun _=>?_) (fun _=>?_)|(first|rw[e3]|refine ⟨⟨Int.natCast_nonneg _,h6⟩,?_⟩|refine ⟨⟨Int.natCast_nonneg _,h7⟩,?_⟩|refine ⟨_,g3,?_⟩|refine ⟨_,g4,?_⟩)|refine .mk ?_ ?_|refine AK ?_|refine AT ?_|fail));all_goals conv=>whnf)
      all_goals refine ⟨(i+1,d),⟨⟨Nat.succ_pos i,by show k+(i+1)≤m.length;omega,hdt.symm,by show d.length<k+(i+1);omega⟩,by show m.length - (i+1)<m.length - i;omega⟩,?_⟩
      all_goals ((repeat' first|exact rfl|((conv=>whnf);first|done|exact suL|refine And.intro ?_ ?_|fail));all_goals conv=>whnf)
      all_goals exact ceq e2
     ·rw[if_neg hxy] at hdt
      ((repeat' ((conv=>whnf);first|exact .intro|refine .ya ?_|refine .na ?_|refine .ys ?_|refine .ns ?_|refine .neg (fun _=>?_) (fun _=>?_)|refine .mk (fun _=>?_) (fun _=>?_)|(first|rw[e3]|refine ⟨⟨Int.natCast_nonneg _,h6⟩,?_⟩|refine ⟨⟨Int.natCast_nonneg _,h7⟩,?_⟩|refine ⟨⟨Int.natCast_nonneg _,h8⟩,?_⟩|refine ⟨_,g3,?_⟩|refine ⟨_,g4,?_⟩|refine ⟨_,g5,?_⟩)|refine .mk ?_ ?_|refine AK ?_|refine AT ?_|fail));all_goals conv=>whnf)
      all_goals first
       | (exfalso;rename_i hh;exact hh (fun hc=>hxy (Prod.ext hc.1.symm hc.2.1.symm)))
       | (exfalso;rename_i hh;exact hxy (Prod.ext hh.1.symm hh.2.1.symm))
       | skip
      all_goals refine ⟨(i+1,d++[(x1,x2)]),⟨⟨Nat.succ_pos i,by show k+(i+1)≤m.length;omega,hdt.symm,by show (d++[(x1,x2)]).length<k+(i+1);rw[List.length_append];simp;omega⟩,by show m.length - (i+1)<m.length - i;omega⟩,?_⟩
      all_goals ((repeat' first|exact rfl|((conv=>whnf);first|done|exact suL|refine And.intro ?_ ?_|fail));all_goals conv=>whnf)
      all_goals first|exact ceq e2|exact ceq (e4.trans (by simp))|exact hset (x1,x2) _|skip
    ·have h6:¬ (i:Int)<(((((m.map rowC).length:Nat):Int).toNat - ((k:Nat):Int).toNat:Nat):Int):=by omega
     have hm:dedC m=d:=by rw[hd,List.take_of_length_le (by omega)]
     have h9:((d.length:Nat):Int)≤((((d++m.drop d.length).map rowC).length:Nat):Int):=by omega
     have hq0:((d.length:Nat):Int).toNat+(((((d++m.drop d.length).map rowC).length:Nat):Int).toNat - ((d.length:Nat):Int).toNat)≤((d++m.drop d.length).map rowC).length:=by omega
     have hZ:over ((d++m.drop d.length).map rowC) ((d.length:Nat):Int).toNat (List.replicate (((((d++m.drop d.length).map rowC).length:Nat):Int).toNat - ((d.length:Nat):Int).toNat) ([iD 0,iD 0]:List D))=(d++List.replicate (m.length - d.length) (0,0)).map rowC:=by
      rw[Int.toNat_natCast,Int.toNat_natCast,hrl]
      unfold over
      rw[List.map_append,List.map_append,List.take_left' (List.length_map _),List.length_replicate,List.drop_eq_nil_of_le (by rw[List.length_append,List.length_map,List.length_map,List.length_drop];omega),List.append_nil,List.map_replicate]
     have h10:((d.length:Nat):Int)≤((((over ((d++m.drop d.length).map rowC) ((d.length:Nat):Int).toNat (List.replicate (((((d++m.drop d.length).map rowC).length:Nat):Int).toNat - ((d.length:Nat):Int).toNat) ([iD 0,iD 0]:List D))).length:Nat)):Int):=by
      rw[hZ,List.length_map,List.length_append,List.length_replicate]
      omega
     rw[hm]
     ((repeat' ((conv=>whnf);first|exact .intro|refine .ya ?_|refine .na ?_|refine .ys ?_|refine .ns ?_|refine .neg (fun _=>?_) (fun _=>?_)|refine .mk (fun _=>?_) (fun _=>?_)|(first|refine ⟨⟨Int.natCast_nonneg _,h9,Int.le_refl _⟩,?_⟩|refine ⟨⟨hq0,rfl⟩,?_⟩|refine ⟨⟨Int.le_refl _,Int.natCast_nonneg _,h10⟩,?_⟩)|refine .mk ?_ ?_|refine AK ?_|refine AT ?_|fail));all_goals conv=>whnf)
     all_goals ((repeat' first|exact rfl|((conv=>whnf);first|done|exact suL|refine And.intro ?_ ?_|fail));all_goals conv=>whnf)
     all_goals first|exact hZ|skip
end Go.Proofs.YtaheflnnigocgaaGreatDoor
end
section
namespace Go.Proofs.YtaheflnnigocgaaGreatDoor
open Go Go.EYtaheflnnigocgaaGreatDoor
set_option maxRecDepth 100000
set_option maxHeartbeats 4000000
variable {gl:List (Nat×List D)}
theorem firstOf {p:Nat→Prop} (n:Nat):(∀ k,k<n→p k)∨∃ m,m<n∧(∀ k,k<m→p k)∧¬ p m:=by
 induction n with
 | zero=>exact .inl fun k h=>absurd h (Nat.not_lt_zero k)
 | succ n ih =>
  rcases ih with h|⟨m,h1,h2,h3⟩
  ·by_cases hn:p n
   ·exact .inl fun k hk=>by
     rcases Nat.lt_succ_iff_lt_or_eq.1 hk with hk|rfl
     ·exact h k hk
     ·exact hn
   ·exact .inr ⟨n,Nat.lt_succ_self n,h,hn⟩
  ·exact .inr ⟨m,by omega,h2,h3⟩
theorem Compact_c (m:List (Int×Int)) (hl:m.length≤1099511627776):(Go.EYtaheflnnigocgaaGreatDoor.Fn Tryz.prog gl 44 [.c (.all 2 0)] [(0,.rows 2 (m.map rowC) 24)] 1 (.ret (.c (.all 2 0))) [(0,.rows 2 (m.map rowC) 24)] 1 []∧dedC m=m)∨
 Go.EYtaheflnnigocgaaGreatDoor.Fn Tryz.prog gl 44 [.c (.all 2 0)] [(0,.rows 2 (m.map rowC) 24)] 1 (.ret (.c (.own 2 0 0 (dedC m).length))) [(0,.rows 2 ((dedC m++List.replicate (m.length - (dedC m).length) (0,0)).map rowC) 24)] 1 []:=by
 rcases firstOf (p:=fun j=>∀ (h0:0<j) (h:j<m.length),m[j - 1]≠m[j]) m.length with h0|⟨j0,hj,h0,hx⟩
 ·refine .inl ⟨Compact_n (gl:=gl) m hl fun j a b=>h0 j b a b,?_⟩
  have hd:=dedC_upto (m:=m) (Nat.le_refl _) fun j a b _=>h0 j b a b
  rwa [List.take_length] at hd
 ·have hne:∃ (a:0<j0) (b:j0<m.length),m[j0 - 1]'(Nat.lt_of_le_of_lt (Nat.sub_le _ _) b)=m[j0]:=by
   refine Classical.byContradiction fun hh=>hx fun a b e=>hh ⟨a,b,e⟩
  obtain ⟨a,b,e⟩:=hne
  exact .inr (Compact_s (gl:=gl) m hl j0 a b (fun j a' b' h=>h0 j h a' b') e)
def refsZ (n:Nd):List (Int×Int):=dedC (sortC (cellsN n))
theorem rCells_d (n:Nd) {box:Prop} (hf:frmN n box) (hc:cntN n≤200):FnP Tryz.prog gl 26 [.agg n.cs] (.lst 2 ((refsZ n).map rowC)):=by
 have c0:=look_h (gl:=gl) n hf hc [] (by simp;omega)
 rw[List.nil_append] at c0
 have hl:=(cellsN_few n hf).1
 have c1:=Sort_x (gl:=gl) (cellsN n) (by omega)
 have hsl:(sortC (cellsN n)).length≤1048576:=by rw[sortC_len];omega
 unfold refsZ
 generalize cellsN n=cs at *
 have c2:=Compact_c (gl:=gl) (sortC cs) (by omega)
 obtain ⟨k,m,t,a,b,ks⟩:=n
 rcases c2 with ⟨c2,hd⟩|c2
 ·rw[hd]
  refine fnP_of_vc (nv:=9999) (cu:=[4]) fitsG mixed Tryz.func26 rfl hoB rfl ?_
  refine ⟨{ σ:=Unit,fr:=fun _=>[],ks:=[1,2],L:=fun _=>[(1,.var [.all 2 3] 39),(3,.rows 2 (([]:List (Int×Int)).map rowC) 24),(2,.var [.fn 39 [(1,0),(2,0)]] 91)],ex:=1,I:=fun _=>True,μ:=fun _=>0 },?_,fun _ _=>?_⟩
  ·((repeat' ((conv=>whnf);first|exact .intro|refine .ya ?_|refine .na ?_|refine .ys ?_|refine .ns ?_|refine .neg (fun _=>?_) (fun _=>?_)|refine .mk (fun _=>?_) (fun _=>?_)|refine .mk ?_ ?_|refine AK ?_|refine AT ?_|fail));all_goals conv=>whnf)
   refine ⟨(),trivial,?_⟩
   ((repeat' first|exact rfl|((conv=>whnf);first|done|exact suL|refine And.intro ?_ ?_|fail));all_goals conv=>whnf)
   all_goals first|exact .inr (.inr (.inl ⟨rfl,2,3,rfl,by decide⟩))|exact ⟨2,_,rfl,by decide,by decide⟩|skip
  ((repeat' ((conv=>whnf);first|exact .intro|refine .ya ?_|refine .na ?_|refine .ys ?_|refine .ns ?_|refine .neg (fun _=>?_) (fun _=>?_)|refine .mk (fun _=>?_) (fun _=>?_)|refine .inr (X5 (c0.r [1,3,2] _) ?_)|refine .inl (.inr (X5 (c0.r [1,3,2] _) ?_))|refine .inl (X5 (c0.r [1,3,2] _) ?_)|refine .inr (X5 (c1.r [3] _) ?_)|refine .inl (.inr (X5 (c1.r [3] _) ?_))|refine .inl (X5 (c1.r [3] _) ?_)|refine .inr (X5 (c2.r [3] _) ?_)|refine .inl (.inr (X5 (c2.r [3] _) ?_))|refine .inl (X5 (c2.r [3] _) ?_)|refine .mk ?_ ?_|refine AK ?_|refine AT ?_|fail));all_goals conv=>whnf)
  all_goals exact LeD.rfl
 ·refine fnP_of_vc (nv:=9999) (cu:=[4]) fitsG mixed Tryz.func26 rfl hoB rfl ?_
  refine ⟨{ σ:=Unit,fr:=fun _=>[],ks:=[1,2],L:=fun _=>[(1,.var [.all 2 3] 39),(3,.rows 2 (([]:List (Int×Int)).map rowC) 24),(2,.var [.fn 39 [(1,0),(2,0)]] 91)],ex:=1,I:=fun _=>True,μ:=fun _=>0 },?_,fun _ _=>?_⟩
  ·((repeat' ((conv=>whnf);first|exact .intro|refine .ya ?_|refine .na ?_|refine .ys ?_|refine .ns ?_|refine .neg (fun _=>?_) (fun _=>?_)|refine .mk (fun _=>?_) (fun _=>?_)|refine .mk ?_ ?_|refine AK ?_|refine AT ?_|fail));all_goals conv=>whnf)
   refine ⟨(),trivial,?_⟩
   ((repeat' first|exact rfl|((conv=>whnf);first|done|exact suL|refine And.intro ?_ ?_|fail));all_goals conv=>whnf)
   all_goals first|exact .inr (.inr (.inl ⟨rfl,2,3,rfl,by decide⟩))|exact ⟨2,_,rfl,by decide,by decide⟩|skip
  ((repeat' ((conv=>whnf);first|exact .intro|refine .ya ?_|refine .na ?_|refine .ys ?_|refine .ns ?_|refine .neg (fun _=>?_) (fun _=>?_)|refine .mk (fun _=>?_) (fun _=>?_)|refine .inr (X5 (c0.r [1,3,2] _) ?_)|refine .inl (.inr (X5 (c0.r [1,3,2] _) ?_))|refine .inl (X5 (c0.r [1,3,2] _) ?_)|refine .inr (X5 (c1.r [3] _) ?_)|refine .inl (.inr (X5 (c1.r [3] _) ?_))|refine .inl (X5 (c1.r [3] _) ?_)|refine .inr (X5 (c2.r [3] _) ?_)|refine .inl (.inr (X5 (c2.r [3] _) ?_))|refine .inl (X5 (c2.r [3] _) ?_)|refine .mk ?_ ?_|refine AK ?_|refine AT ?_|fail));all_goals conv=>whnf)
  all_goals refine LeD.of (congrArg (D.lst 2) ?_)
  all_goals rw[List.drop_zero,List.map_append,List.take_left' (List.length_map _)]
end Go.Proofs.YtaheflnnigocgaaGreatDoor
end
