/- Proved: a part of what the law is proved with (the reckoner, contracts of functions, plain laws). Conditions: as each says. -/
import Derived.Test.YtdpigpahfiachaaGreatDoorXIg
import Derived.Test.YtdpigpahfiachaaGreatDoorXQNf
import Derived.Test.YtdpigpahfiachaaGreatDoorXQQa
import Derived.Test.YtdpigpahfiachaaGreatDoorXQQd
section
namespace Go.Proofs.YtdpigpahfiachaaGreatDoor
open Go Go.EYtdpigpahfiachaaGreatDoor
set_option maxRecDepth 100000
set_option maxHeartbeats 4000000
variable {gl:List (Nat×List D)}
abbrev cDe (row:Bool) (p q:Int):Cg:=⟨3,row,p,q,0,0,0,0,0,0⟩
theorem most_le (row:Bool):mostZ row≤99:=by cases row <;> decide
theorem spn_s {row:Bool} {p q:Int} (hs:spnP row p q):IntKind.i64.wrap (p+q)=p+q:=by
 have:=most_le row
 exact wrapI (by omega)
theorem key_ok {row:Bool} {a:Rf} (h:okP a.c a.r):1≤keyZ row a∧keyZ row a≤99:=by
 cases row
 ·show 1≤a.c∧a.c≤99;omega
 ·show 1≤a.r∧a.r≤99;omega
theorem rref_de (row:Bool) (p q:Int) (hs:spnP row p q) (a:Rf) (h1:1≤keyZ row a) (h2:keyZ row a≤1000):FnP Tryz.prog gl 83 [cG (cDe row p q),rfD a] (rf2 (delZ row p q a)):=by
 obtain ⟨c,r,f,g⟩:=a
 have hw:=spn_s hs
 unfold delZ
 cases row
 ·change 1≤c at h1
  change c≤1000 at h2
  change FnP _ _ _ _ (rf2 (if gonP p q c then _ else (⟨bakI p q c,r,f,g⟩,true)))
  by_cases h:gonP p q c
  ·rw[if_pos h]
   obtain ⟨ha,hb⟩:=h
   refine fnP_of_vc (nv:=9999) (cu:=[]) fits mixed Tryz.func83 rfl hoB rfl ?_
   ((repeat' ((conv=>whnf);first|exact .intro|refine .ya ?_|refine .na ?_|refine .ys ?_|refine .ns ?_|refine .neg (fun _=>?_) (fun _=>?_)|refine .mk (fun _=>?_) (fun _=>?_)|refine .mk ?_ ?_|refine AK ?_|refine AT ?_|fail));all_goals conv=>whnf)
   all_goals exact LeD.tup (LeD.cons LeD.rfl (LeD.cons (le_t0 (by simp)) LeD.nil))
  ·rw[if_neg h]
   by_cases h3:c≥p
   ·have h4:¬ c<IntKind.i64.wrap (p+q):=fun hh=>h ⟨h3,hh⟩
    clear h
    rw[show bakI p q c=IntKind.i64.wrap (c - q) from if_pos (by omega)]
    refine fnP_of_vc (nv:=9999) (cu:=[]) fits mixed Tryz.func83 rfl hoB rfl ?_
    ((repeat' ((conv=>whnf);first|exact .intro|refine .ya ?_|refine .na ?_|refine .ys ?_|refine .ns ?_|refine .neg (fun _=>?_) (fun _=>?_)|refine .mk (fun _=>?_) (fun _=>?_)|refine .mk ?_ ?_|refine AK ?_|refine AT ?_|fail));all_goals conv=>whnf)
    all_goals exact LeD.tup (LeD.cons LeD.rfl (LeD.cons (le_t1 (by simp)) LeD.nil))
   ·clear h
    rw[show bakI p q c=c from if_neg (by omega)]
    refine fnP_of_vc (nv:=9999) (cu:=[]) fits mixed Tryz.func83 rfl hoB rfl ?_
    ((repeat' ((conv=>whnf);first|exact .intro|refine .ya ?_|refine .na ?_|refine .ys ?_|refine .ns ?_|refine .neg (fun _=>?_) (fun _=>?_)|refine .mk (fun _=>?_) (fun _=>?_)|refine .mk ?_ ?_|refine AK ?_|refine AT ?_|fail));all_goals conv=>whnf)
    all_goals exact LeD.tup (LeD.cons LeD.rfl (LeD.cons (le_t1 (by simp)) LeD.nil))
 ·change 1≤r at h1
  change r≤1000 at h2
  change FnP _ _ _ _ (rf2 (if gonP p q r then _ else (⟨c,bakI p q r,f,g⟩,true)))
  by_cases h:gonP p q r
  ·rw[if_pos h]
   obtain ⟨ha,hb⟩:=h
   refine fnP_of_vc (nv:=9999) (cu:=[]) fits mixed Tryz.func83 rfl hoB rfl ?_
   ((repeat' ((conv=>whnf);first|exact .intro|refine .ya ?_|refine .na ?_|refine .ys ?_|refine .ns ?_|refine .neg (fun _=>?_) (fun _=>?_)|refine .mk (fun _=>?_) (fun _=>?_)|refine .mk ?_ ?_|refine AK ?_|refine AT ?_|fail));all_goals conv=>whnf)
   all_goals exact LeD.tup (LeD.cons LeD.rfl (LeD.cons (le_t0 (by simp)) LeD.nil))
  ·rw[if_neg h]
   by_cases h3:r≥p
   ·have h4:¬ r<IntKind.i64.wrap (p+q):=fun hh=>h ⟨h3,hh⟩
    clear h
    rw[show bakI p q r=IntKind.i64.wrap (r - q) from if_pos (by omega)]
    refine fnP_of_vc (nv:=9999) (cu:=[]) fits mixed Tryz.func83 rfl hoB rfl ?_
    ((repeat' ((conv=>whnf);first|exact .intro|refine .ya ?_|refine .na ?_|refine .ys ?_|refine .ns ?_|refine .neg (fun _=>?_) (fun _=>?_)|refine .mk (fun _=>?_) (fun _=>?_)|refine .mk ?_ ?_|refine AK ?_|refine AT ?_|fail));all_goals conv=>whnf)
    all_goals exact LeD.tup (LeD.cons LeD.rfl (LeD.cons (le_t1 (by simp)) LeD.nil))
   ·clear h
    rw[show bakI p q r=r from if_neg (by omega)]
    refine fnP_of_vc (nv:=9999) (cu:=[]) fits mixed Tryz.func83 rfl hoB rfl ?_
    ((repeat' ((conv=>whnf);first|exact .intro|refine .ya ?_|refine .na ?_|refine .ys ?_|refine .ns ?_|refine .neg (fun _=>?_) (fun _=>?_)|refine .mk (fun _=>?_) (fun _=>?_)|refine .mk ?_ ?_|refine AK ?_|refine AT ?_|fail));all_goals conv=>whnf)
    all_goals exact LeD.tup (LeD.cons LeD.rfl (LeD.cons (le_t1 (by simp)) LeD.nil))
theorem left_l (row:Bool) (p q x:Int) (n:Nat) (hx:1≤x) (hn:x+n≤200):FnP Tryz.prog gl 136 [cG (cDe row p q),iD x,iD (x+n - 1)] (.tup [iD (lefN p q x n).1,iD (lefN p q x n).2,.b ((lefN p q x n).1>0) inferInstance]):=by
 refine fnP_of_vc (nv:=9999) (cu:=[]) fits mixed Tryz.func136 rfl hoB rfl ?_
 ((repeat' ((conv=>whnf);first|exact .intro|refine .ya ?_|refine .na ?_|refine .ys ?_|refine .ns ?_|refine .neg (fun _=>?_) (fun _=>?_)|refine .mk (fun _=>?_) (fun _=>?_)|refine .mk ?_ ?_|refine AK ?_|refine AT ?_|fail));all_goals conv=>whnf)
 refine ⟨{ σ:=Nat,fr:=fun k=>[(9,.c (.d (iD (lefN p q x k).1))),(10,.c (.d (iD (lefN p q x k).2))),(11,.c (.d (iD (x+(k:Int)))))],ks:=[],L:=fun _=>[],ex:=0,I:=fun k=>k≤n,μ:=fun k=>n - k },⟨0,Nat.zero_le _,?_⟩,fun (k:Nat) hk=>?_⟩
 ·((repeat' first|exact rfl|((conv=>whnf);first|done|exact suL|refine And.intro ?_ ?_|fail));all_goals conv=>whnf)
  all_goals exact ceq (by simp)
 ·replace hk:k≤n:=hk
  by_cases hlt:k<n
  ·have h2:x+(k:Int)≤x+n - 1:=by omega
   have e0:IntKind.i64.wrap (x+(k:Int)+1)=x+((k+1:Nat):Int):=by rw[wrapI (by omega)];omega
   have e1:lefN p q x (k+1)=if gonP p q (x+k) then lefN p q x k else (if (lefN p q x k).1=0 then x+k else (lefN p q x k).1,x+k):=rfl
   rcases (show (x+(k:Int)≥p∧x+(k:Int)<IntKind.i64.wrap (p+q))∨(x+(k:Int)≥p∧¬ x+(k:Int)<IntKind.i64.wrap (p+q))∨¬ x+(k:Int)≥p by omega) with ⟨h3,h4⟩|⟨h3,h4⟩|h3
   rw[if_pos ⟨h3,h4⟩] at e1
   rotate_left
   rw[if_neg (fun h=>h4 h.2)] at e1
   rotate_left
   rw[if_neg (fun h=>h3 h.1)] at e1
   rotate_left
   all_goals by_cases h5:(lefN p q x k).1=0
   all_goals try simp only[h5,if_true,if_false] at e1
   all_goals
    ((repeat' ((conv=>whnf);first|exact .intro|refine .ya ?_|refine .na ?_|refine .ys ?_|refine .ns ?_|refine .neg (fun _=>?_) (fun _=>?_)|refine .mk (fun _=>?_) (fun _=>?_)|refine .mk ?_ ?_|refine AK ?_|refine AT ?_|fail));all_goals conv=>whnf)
    all_goals refine ⟨k+1,⟨hlt,by show n - (k+1)<n - k;omega⟩,?_⟩
    all_goals ((repeat' first|exact rfl|((conv=>whnf);first|done|exact suL|refine And.intro ?_ ?_|fail));all_goals conv=>whnf)
    all_goals first|exact ceq e0|exact ceq (congrArg Prod.fst e1).symm|exact ceq (congrArg Prod.snd e1).symm
  ·have h2:¬ x+(k:Int)≤x+n - 1:=by omega
   obtain rfl:k=n:=by omega
   ((repeat' ((conv=>whnf);first|exact .intro|refine .ya ?_|refine .na ?_|refine .ys ?_|refine .ns ?_|refine .neg (fun _=>?_) (fun _=>?_)|refine .mk (fun _=>?_) (fun _=>?_)|refine .mk ?_ ?_|refine AK ?_|refine AT ?_|fail));all_goals conv=>whnf)
   all_goals exact LeD.rfl
theorem left_n (row:Bool) (p q x y:Int) (hs:spnP row p q) (hx:1≤x) (hxy:x≤y) (hy:y≤99) (hg:gonP p q x∧gonP p q y):FnP Tryz.prog gl 136 [cG (cDe row p q),iD x,iD y] (.tup [iD 0,iD 0,tD false]):=by
 have hw:=spn_s hs
 obtain ⟨n,hn⟩:∃ n:Nat,y=x+n:=⟨(y - x).toNat,by omega⟩
 have h:=left_l (gl:=gl) row p q x (n+1) hx (by omega)
 rw[show x+((n+1:Nat):Int) - 1=y by omega,lefN_all hw (by have:=hg.1;unfold gonP at this;omega) (by have:=hg.2;unfold gonP at this;omega)] at h
 exact FnP.le h (LeD.tup (LeD.cons LeD.rfl (LeD.cons LeD.rfl (LeD.cons (LeD.b (by simp)) LeD.nil))))
theorem left_y (row:Bool) (p q x y:Int) (hs:spnP row p q) (hx:1≤x) (hxy:x≤y) (hy:y≤99) (hg:¬ (gonP p q x∧gonP p q y)):FnP Tryz.prog gl 136 [cG (cDe row p q),iD x,iD y] (.tup [iD (loN p q x),iD (hiN p q y),tD true]):=by
 have hw:=spn_s hs
 have hm:=most_le row
 have hw2:IntKind.i64.wrap (p - 1)=p - 1:=wrapI (by omega)
 obtain ⟨n,hn⟩:∃ n:Nat,y=x+n:=⟨(y - x).toNat,by omega⟩
 have h:=left_l (gl:=gl) row p q x (n+1) hx (by omega)
 rw[show x+((n+1:Nat):Int) - 1=y by omega,lefN_some hw hx (by omega) (by omega) (by rw[← hn];exact hg),← hn] at h
 have e1:loN p q x=if gonP p q x then p+q else x:=by unfold loN;split;exact hw;rfl
 have e2:hiN p q y=if gonP p q y then p - 1 else y:=by unfold hiN;split;exact hw2;rfl
 rw[e1,e2]
 refine FnP.le h (LeD.tup (LeD.cons LeD.rfl (LeD.cons LeD.rfl (LeD.cons (LeD.b ?_) LeD.nil))))
 simp only[iff_true]
 show (if gonP p q x then p+q else x)>0
 split <;> omega
theorem set_key (row:Bool) (a:Rf) (k:Int):keyZ row (setZ row a k)=k:=by cases row <;> rfl
theorem set_set (row:Bool) (a:Rf) (k k':Int):setZ row (setZ row a k) k'=setZ row a k':=by cases row <;> rfl
theorem ref_lo (row:Bool) (p q:Int) (hs:spnP row p q) (a:Rf) (k:Int) (h1:1≤k) (h2:k≤99):FnP Tryz.prog gl 83 [cG (cDe row p q),rfD (setZ row a (loN p q k))] (.tup [rfD (setZ row a (loI p q k)),tD true]):=by
 have hw:=spn_s hs
 have hm:=most_le row
 have hk:keyZ row (setZ row a (loN p q k))=loN p q k:=set_key _ _ _
 have hl:1≤loN p q k∧loN p q k≤1000∧¬ gonP p q (loN p q k):=by
  unfold loN
  split
  ·rw[hw];refine ⟨by omega,by omega,fun h=>?_⟩;unfold gonP at h;omega
  ·rename_i h;exact ⟨h1,by omega,h⟩
 have h:=rref_de (gl:=gl) row p q hs (setZ row a (loN p q k)) (by rw[hk];exact hl.1) (by rw[hk];exact hl.2.1)
 unfold delZ at h
 rw[hk,if_neg hl.2.2,set_set] at h
 exact h
theorem ref_hi (row:Bool) (p q:Int) (hs:spnP row p q) (a:Rf) (k:Int) (h1:1≤k) (h2:k≤99) (h3:p≠1∨¬ gonP p q k):FnP Tryz.prog gl 83 [cG (cDe row p q),rfD (setZ row a (hiN p q k))] (.tup [rfD (setZ row a (hiI p q k)),tD true]):=by
 have hw:=spn_s hs
 have hm:=most_le row
 have hw2:IntKind.i64.wrap (p - 1)=p - 1:=wrapI (by omega)
 have hk:keyZ row (setZ row a (hiN p q k))=hiN p q k:=set_key _ _ _
 have hl:1≤hiN p q k∧hiN p q k≤1000∧¬ gonP p q (hiN p q k):=by
  unfold hiN
  split
  ·rename_i h;rw[hw2];refine ⟨by rcases h3 with h3|h3;omega;exact absurd h h3,by omega,fun h=>?_⟩;unfold gonP at h;omega
  ·rename_i h;exact ⟨h1,by omega,h⟩
 have h:=rref_de (gl:=gl) row p q hs (setZ row a (hiN p q k)) (by rw[hk];exact hl.1) (by rw[hk];exact hl.2.1)
 unfold delZ at h
 rw[hk,if_neg hl.2.2,set_set] at h
 exact h
end Go.Proofs.YtdpigpahfiachaaGreatDoor
end
section
namespace Go.Proofs.YtdpigpahfiachaaGreatDoor
open Go Go.EYtdpigpahfiachaaGreatDoor
set_option maxRecDepth 100000
set_option maxHeartbeats 4000000
variable {gl:List (Nat×List D)}
theorem hi_p {row:Bool} {p q x y:Int} (hs:spnP row p q) (hx:1≤x) (hxy:x≤y) (hg:¬ (gonP p q x∧gonP p q y)):p≠1∨¬ gonP p q y:=by
 have hw:=spn_s hs
 by_cases h:gonP p q y
 ·left
  intro h1
  refine hg ⟨?_,h⟩
  unfold gonP at *
  omega
 ·exact .inr h
abbrev BoxDe (gl:List (Nat×List D)) (row:Bool) (p q:Int) (a b:Rf) (z:Rf×Rf×Bool):Prop:=FnP Tryz.prog gl 84 [cG (cDe row p q),rfD a,rfD b] (rf3 z)
theorem rbox_c (p q:Int) (hs:spnP false p q) (a b:Rf) (ha:okP a.c a.r) (hb:okP b.c b.r):BoxDe gl false p q a b (delB false p q a b):=by
 obtain ⟨ac,ar,af,ag⟩:=a
 obtain ⟨bc,br,bf,bg⟩:=b
 simp only at ha hb
 by_cases h:ac>bc
 all_goals by_cases hg:gonP p q (min ac bc)∧gonP p q (max ac bc)
 rw[show min ac bc=bc by omega,show max ac bc=ac by omega] at hg
 have c1:=left_n (gl:=gl) false p q bc ac hs (by omega) (by omega) (by omega) hg
 rw[delB_tn (row:=false) (a:=⟨ac,ar,af,ag⟩) (b:=⟨bc,br,bf,bg⟩) h hg]
 rotate_left
 rw[show min ac bc=bc by omega,show max ac bc=ac by omega] at hg
 have c1:=left_y (gl:=gl) false p q bc ac hs (by omega) (by omega) (by omega) hg
 have c2:=ref_lo (gl:=gl) false p q hs ⟨bc,br,bf,bg⟩ bc (by omega) (by omega)
 have c3:=ref_hi (gl:=gl) false p q hs ⟨ac,ar,af,ag⟩ ac (by omega) (by omega) (hi_p hs (x:=bc) (by omega) (by omega) hg)
 rw[delB_ty (row:=false) (a:=⟨ac,ar,af,ag⟩) (b:=⟨bc,br,bf,bg⟩) h hg]
 change BoxDe gl false p q _ _ (⟨hiI p q ac,ar,af,ag⟩,⟨loI p q bc,br,bf,bg⟩,true)
 change FnP Tryz.prog gl 83 [_,rfD ⟨loN p q bc,br,bf,bg⟩] (.tup [rfD ⟨loI p q bc,br,bf,bg⟩,tD true]) at c2
 change FnP Tryz.prog gl 83 [_,rfD ⟨hiN p q ac,ar,af,ag⟩] (.tup [rfD ⟨hiI p q ac,ar,af,ag⟩,tD true]) at c3
 generalize loN p q bc=l1 at *
 generalize loI p q bc=l2 at *
 generalize hiN p q ac=h1 at *
 generalize hiI p q ac=h2 at *
 rotate_left
 rw[show min ac bc=ac by omega,show max ac bc=bc by omega] at hg
 have c1:=left_n (gl:=gl) false p q ac bc hs (by omega) (by omega) (by omega) hg
 rw[delB_n (row:=false) (a:=⟨ac,ar,af,ag⟩) (b:=⟨bc,br,bf,bg⟩) h hg]
 rotate_left
 rw[show min ac bc=ac by omega,show max ac bc=bc by omega] at hg
 have c1:=left_y (gl:=gl) false p q ac bc hs (by omega) (by omega) (by omega) hg
 have c2:=ref_lo (gl:=gl) false p q hs ⟨ac,ar,af,ag⟩ ac (by omega) (by omega)
 have c3:=ref_hi (gl:=gl) false p q hs ⟨bc,br,bf,bg⟩ bc (by omega) (by omega) (hi_p hs (x:=ac) (by omega) (by omega) hg)
 rw[delB_y (row:=false) (a:=⟨ac,ar,af,ag⟩) (b:=⟨bc,br,bf,bg⟩) h hg]
 change BoxDe gl false p q _ _ (⟨loI p q ac,ar,af,ag⟩,⟨hiI p q bc,br,bf,bg⟩,true)
 change FnP Tryz.prog gl 83 [_,rfD ⟨loN p q ac,ar,af,ag⟩] (.tup [rfD ⟨loI p q ac,ar,af,ag⟩,tD true]) at c2
 change FnP Tryz.prog gl 83 [_,rfD ⟨hiN p q bc,br,bf,bg⟩] (.tup [rfD ⟨hiI p q bc,br,bf,bg⟩,tD true]) at c3
 generalize loN p q ac=l1 at *
 generalize loI p q ac=l2 at *
 generalize hiN p q bc=h1 at *
 generalize hiI p q bc=h2 at *
 rotate_left
 all_goals refine fnP_of_vc (nv:=9999) (cu:=[]) fits mixed Tryz.func84 rfl hoB rfl ?_
 all_goals ((repeat' ((conv=>whnf);first|exact .intro|refine .ya ?_|refine .na ?_|refine .ys ?_|refine .ns ?_|refine .neg (fun _=>?_) (fun _=>?_)|refine .mk (fun _=>?_) (fun _=>?_)|refine .inl (.inl (X1 (by first|exact c1|exact c2|exact c3) ?_))|refine .inl (X1 (by first|exact c1|exact c2|exact c3) ?_)|refine X1 (by first|exact c1|exact c2|exact c3) ?_|refine .mk ?_ ?_|refine AK ?_|refine AT ?_|fail));all_goals conv=>whnf)
 all_goals first|exact LeD.tup (LeD.cons LeD.rfl (LeD.cons LeD.rfl (LeD.cons (le_t1 rfl) LeD.nil)))|exact LeD.tup (LeD.cons LeD.rfl (LeD.cons LeD.rfl (LeD.cons (le_t0 (by simp)) LeD.nil)))
theorem rbox_r (p q:Int) (hs:spnP true p q) (a b:Rf) (ha:okP a.c a.r) (hb:okP b.c b.r):BoxDe gl true p q a b (delB true p q a b):=by
 obtain ⟨ac,ar,af,ag⟩:=a
 obtain ⟨bc,br,bf,bg⟩:=b
 simp only at ha hb
 by_cases h:ar>br
 all_goals by_cases hg:gonP p q (min ar br)∧gonP p q (max ar br)
 rw[show min ar br=br by omega,show max ar br=ar by omega] at hg
 have c1:=left_n (gl:=gl) true p q br ar hs (by omega) (by omega) (by omega) hg
 rw[delB_tn (row:=true) (a:=⟨ac,ar,af,ag⟩) (b:=⟨bc,br,bf,bg⟩) h hg]
 rotate_left
 rw[show min ar br=br by omega,show max ar br=ar by omega] at hg
 have c1:=left_y (gl:=gl) true p q br ar hs (by omega) (by omega) (by omega) hg
 have c2:=ref_lo (gl:=gl) true p q hs ⟨bc,br,bf,bg⟩ br (by omega) (by omega)
 have c3:=ref_hi (gl:=gl) true p q hs ⟨ac,ar,af,ag⟩ ar (by omega) (by omega) (hi_p hs (x:=br) (by omega) (by omega) hg)
 rw[delB_ty (row:=true) (a:=⟨ac,ar,af,ag⟩) (b:=⟨bc,br,bf,bg⟩) h hg]
 change BoxDe gl true p q _ _ (⟨ac,hiI p q ar,af,ag⟩,⟨bc,loI p q br,bf,bg⟩,true)
 change FnP Tryz.prog gl 83 [_,rfD ⟨bc,loN p q br,bf,bg⟩] (.tup [rfD ⟨bc,loI p q br,bf,bg⟩,tD true]) at c2
 change FnP Tryz.prog gl 83 [_,rfD ⟨ac,hiN p q ar,af,ag⟩] (.tup [rfD ⟨ac,hiI p q ar,af,ag⟩,tD true]) at c3
 generalize loN p q br=l1 at *
 generalize loI p q br=l2 at *
 generalize hiN p q ar=h1 at *
 generalize hiI p q ar=h2 at *
 rotate_left
 rw[show min ar br=ar by omega,show max ar br=br by omega] at hg
 have c1:=left_n (gl:=gl) true p q ar br hs (by omega) (by omega) (by omega) hg
 rw[delB_n (row:=true) (a:=⟨ac,ar,af,ag⟩) (b:=⟨bc,br,bf,bg⟩) h hg]
 rotate_left
 rw[show min ar br=ar by omega,show max ar br=br by omega] at hg
 have c1:=left_y (gl:=gl) true p q ar br hs (by omega) (by omega) (by omega) hg
 have c2:=ref_lo (gl:=gl) true p q hs ⟨ac,ar,af,ag⟩ ar (by omega) (by omega)
 have c3:=ref_hi (gl:=gl) true p q hs ⟨bc,br,bf,bg⟩ br (by omega) (by omega) (hi_p hs (x:=ar) (by omega) (by omega) hg)
 rw[delB_y (row:=true) (a:=⟨ac,ar,af,ag⟩) (b:=⟨bc,br,bf,bg⟩) h hg]
 change BoxDe gl true p q _ _ (⟨ac,loI p q ar,af,ag⟩,⟨bc,hiI p q br,bf,bg⟩,true)
 change FnP Tryz.prog gl 83 [_,rfD ⟨ac,loN p q ar,af,ag⟩] (.tup [rfD ⟨ac,loI p q ar,af,ag⟩,tD true]) at c2
 change FnP Tryz.prog gl 83 [_,rfD ⟨bc,hiN p q br,bf,bg⟩] (.tup [rfD ⟨bc,hiI p q br,bf,bg⟩,tD true]) at c3
 generalize loN p q ar=l1 at *
 generalize loI p q ar=l2 at *
 generalize hiN p q br=h1 at *
 generalize hiI p q br=h2 at *
 rotate_left
 all_goals refine fnP_of_vc (nv:=9999) (cu:=[]) fits mixed Tryz.func84 rfl hoB rfl ?_
 all_goals ((repeat' ((conv=>whnf);first|exact .intro|refine .ya ?_|refine .na ?_|refine .ys ?_|refine .ns ?_|refine .neg (fun _=>?_) (fun _=>?_)|refine .mk (fun _=>?_) (fun _=>?_)|refine .inl (.inl (X1 (by first|exact c1|exact c2|exact c3) ?_))|refine .inl (X1 (by first|exact c1|exact c2|exact c3) ?_)|refine X1 (by first|exact c1|exact c2|exact c3) ?_|refine .mk ?_ ?_|refine AK ?_|refine AT ?_|fail));all_goals conv=>whnf)
 all_goals first|exact LeD.tup (LeD.cons LeD.rfl (LeD.cons LeD.rfl (LeD.cons (le_t1 rfl) LeD.nil)))|exact LeD.tup (LeD.cons LeD.rfl (LeD.cons LeD.rfl (LeD.cons (le_t0 (by simp)) LeD.nil)))
theorem refG_de (row:Bool) (p q:Int) (hs:spnP row p q):RefG gl (cDe row p q) (delZ row p q) (delB row p q):=⟨fun a ha=>rref_de row p q hs a (key_ok ha).1 (by have:=(key_ok (row:=row) ha).2;omega),fun a b ha hb=>by
 cases row
 ·exact rbox_c p q hs a b ha hb
 ·exact rbox_r p q hs a b ha hb⟩
end Go.Proofs.YtdpigpahfiachaaGreatDoor
end
section
namespace Go.Proofs.YtdpigpahfiachaaGreatDoor
open Go Go.EYtdpigpahfiachaaGreatDoor
set_option maxRecDepth 100000
set_option maxHeartbeats 4000000
variable {gl:List (Nat×List D)}
theorem RefsDeleted_d (te:TypeId) (pe:Value) (hV:Has gl (glV te pe)) (hl:Go.EYtdpigpahfiachaaGreatDoor.look gl 0=some lvAll) (he:Go.EYtdpigpahfiachaaGreatDoor.look gl 1=some errT) {mx:Int} (hm:Go.EYtdpigpahfiachaaGreatDoor.look gl 3=some [iD mx]) (n:Nd) (ho:okN n) (row:Bool) (p q:Int):FnP Tryz.prog gl 14 [.agg n.cs,.v (.bool row),iD p,iD q] (.v (.bool true)):=by
 obtain ⟨rf,hR,hE⟩:=refs_ok
 have c1:=rPrint_d (gl:=gl) hR hE n ho
 have c2:=fCheck_d te pe hV hl hR hm n ho
 have c0:=rSpan_d (gl:=gl) row p q
 by_cases h0:(prZ rf n).2=0
 ·obtain ⟨hc,hf⟩:=prZ_ok h0
  rw[h0] at c1 c2
  change FnP Tryz.prog gl 37 [_] (.v .nilIface) at c2
  by_cases hs:spnP row p q
  ·have c3:=ong (gl:=gl) (refG_de row p q hs) n hf hc
   have c4:=Deleted_y (gl:=gl) n row p q hs hc hf c2
   unfold OnG at c3
   generalize chN (delZ row p q) (delB row p q) n=nq at *
   have c5:=node_y (gl:=gl) nq he
   generalize (prZ rf n).1=s at *
   obtain ⟨k,m,t,a,b,ks⟩:=n
   obtain ⟨k',m',t',a',b',ks'⟩:=nq
   refine fnP_of_vc (nv:=9999) (cu:=[]) fits mixed Tryz.func14 rfl hoB rfl ?_
   ((repeat' ((conv=>whnf);first|exact .intro|refine .ya ?_|refine .na ?_|refine .ys ?_|refine .ns ?_|refine .neg (fun _=>?_) (fun _=>?_)|refine .mk (fun _=>?_) (fun _=>?_)|refine .inl (.inl (X1 (by first|exact c1|exact c0|exact c3|exact c4|exact c5) ?_))|refine .inl (X1 (by first|exact c1|exact c0|exact c3|exact c4|exact c5) ?_)|refine X1 (by first|exact c1|exact c0|exact c3|exact c4|exact c5) ?_|refine .mk ?_ ?_|refine AK ?_|refine AT ?_|fail));all_goals conv=>whnf)
   all_goals first|exact LeD.rfl|exact LeD.vt rfl|exact LeD.vt (by simp)
  ·have c4:=Deleted_s (gl:=gl) n row p q hs c2
   have c5:=node_n (gl:=gl) 1 (by decide) he
   generalize (prZ rf n).1=s at *
   generalize n00=nq at *
   obtain ⟨k,m,t,a,b,ks⟩:=n
   obtain ⟨k',m',t',a',b',ks'⟩:=nq
   refine fnP_of_vc (nv:=9999) (cu:=[]) fits mixed Tryz.func14 rfl hoB rfl ?_
   ((repeat' ((conv=>whnf);first|exact .intro|refine .ya ?_|refine .na ?_|refine .ys ?_|refine .ns ?_|refine .neg (fun _=>?_) (fun _=>?_)|refine .mk (fun _=>?_) (fun _=>?_)|refine .inl (.inl (X1 (by first|exact c1|exact c0|exact c4|exact c5) ?_))|refine .inl (X1 (by first|exact c1|exact c0|exact c4|exact c5) ?_)|refine X1 (by first|exact c1|exact c0|exact c4|exact c5) ?_|refine .mk ?_ ?_|refine AK ?_|refine AT ?_|fail));all_goals conv=>whnf)
   all_goals first|exact LeD.rfl|exact LeD.vt rfl|exact LeD.vt (by simp)
 ·have c5:=node_n (gl:=gl) (prZ rf n).2 h0 he
  simp only[errD,if_neg h0] at c2
  have c4:=Deleted_n (gl:=gl) n row p q _ c2
  generalize prZ rf n=z at *
  obtain ⟨s,e⟩:=z
  simp only at h0 c1 c2 c4 c5
  generalize n00=nq at *
  obtain ⟨k,m,t,a,b,ks⟩:=n
  obtain ⟨k',m',t',a',b',ks'⟩:=nq
  refine fnP_of_vc (nv:=9999) (cu:=[]) fits mixed Tryz.func14 rfl hoB rfl ?_
  ((repeat' ((conv=>whnf);first|exact .intro|refine .ya ?_|refine .na ?_|refine .ys ?_|refine .ns ?_|refine .neg (fun _=>?_) (fun _=>?_)|refine .mk (fun _=>?_) (fun _=>?_)|refine .inl (.inl (X1 (by first|exact c1|exact c0|exact c4|exact c5) ?_))|refine .inl (X1 (by first|exact c1|exact c0|exact c4|exact c5) ?_)|refine X1 (by first|exact c1|exact c0|exact c4|exact c5) ?_|refine .mk ?_ ?_|refine AK ?_|refine AT ?_|fail));all_goals conv=>whnf)
  all_goals first|exact LeD.rfl|exact LeD.vt rfl|exact LeD.vt (by simp)
theorem RefsDeleted_g (te:TypeId) (pe:Value) (mx:Int) (n:Nd) (ho:okN n) (row:Bool) (p q:Int):FnP Tryz.prog (glU te pe mx) 14 [.agg n.cs,.v (.bool row),iD p,iD q] (.v (.bool true)) :=
 RefsDeleted_d te pe (glU_has te pe mx) rfl rfl rfl n ho row p q
end Go.Proofs.YtdpigpahfiachaaGreatDoor
end
