/- Proved: a part of what the law is proved with (the reckoner, contracts of functions, plain laws). Conditions: as each says. -/
import Derived.Test.YtaheflnnigocgaaGreatDoorGCa
import Derived.Test.YtaheflnnigocgaaGreatDoorGTji
import Derived.Test.YtaheflnnigocgaaGreatDoorGTjl
section
namespace Go.Proofs.YtaheflnnigocgaaGreatDoor
open Go Go.RowKit Go.EYtaheflnnigocgaaGreatDoor
set_option maxRecDepth 100000
set_option maxHeartbeats 400000000
variable {gl:List (Nat×List D)}
abbrev netR (t:Nt) (Q:List (List Cl)):List (Nat×Blk):=[(4,.var [.all 2 5,.mref 0,.mref 1,.mref 2,.all 1 14,.mref 3] 60),(5,.rows 2 (cellsR t.V) 24),(0,.mp (ksD t.V) (t.tx.map Go.EYtaheflnnigocgaaGreatDoor.D.str)),(1,.mp t.nK t.nV),(2,.mp (ksD t.oK) (onV t)),(3,.mp (ksD Q.flatten) (ofT Q Q.length)),(14,.rows 1 (Q.map partR) 39)]
abbrev NetOk (gl:List (Nat×List D)) (l:List Fl) (t:Nt) (Q:List (List Cl)):Prop:=Go.EYtaheflnnigocgaaGreatDoor.Fn Tryz.prog gl 18 [.c (.d (.lst 3 (l.map flD)))] [] 0 (.ret (.tup [(false,[.ptr 4 0]),(false,[.d (.v .nilIface)])])) (netR t Q) 15 []
theorem ofT_len {Q:List (List Cl)}:∀ {a:Nat},a≤Q.length→(ofT Q a).length=(Q.take a).flatten.length
 | 0,_=>by simp[ofT]
 | a+1,h=>by
  rw[ofT_s (by omega),List.take_succ_eq_append_getElem (by omega),List.flatten_append,List.length_append,List.length_append,ofT_len (by omega),List.length_map]
  simp
theorem ofT_get {Q:List (List Cl)} {p:Nat} (hp:p<Q.length) {c:Cl} (hc:c ∈ Q[p]) (hd:∀ j,(hj:j<Q.length)→c ∈ Q[j]→j=p):∀ {a:Nat},p<a→a≤Q.length→c ∈ (Q.take a).flatten∧(ofT Q a)[(Q.take a).flatten.idxOf c]?=some (nD p)
 | 0,h,_=>by omega
 | a+1,h,ha=>by
  have ha':a<Q.length:=by omega
  have e:(Q.take (a+1)).flatten=(Q.take a).flatten++Q[a]:=by rw[List.take_succ_eq_append_getElem ha',List.flatten_append];simp
  rw[ofT_s ha',e]
  by_cases hpa:p<a
  ·obtain ⟨h1,h2⟩:=ofT_get hp hc hd hpa (by omega)
   refine ⟨List.mem_append_left _ h1,?_⟩
   rw[List.idxOf_append,if_pos h1,List.getElem?_append_left (by rw[ofT_len (by omega)];exact List.idxOf_lt_length_iff.2 h1)]
   exact h2
  ·obtain rfl:p=a:=by omega
   have hn:c ∉ (Q.take p).flatten:=fun hh=>by
    obtain ⟨q,hq,h1⟩:=List.mem_flatten.1 hh
    obtain ⟨j,hj,rfl⟩:=List.getElem_of_mem hq
    rw[List.getElem_take] at h1
    rw[List.length_take] at hj
    have:=hd j (by omega) h1
    omega
   refine ⟨List.mem_append_right _ hc,?_⟩
   rw[List.idxOf_append,if_neg hn,List.getElem?_append_right (by rw[ofT_len (by omega)];omega),ofT_len (by omega),Nat.add_sub_cancel,List.getElem?_map,List.getElem?_eq_getElem (List.idxOf_lt_length_iff.2 hc)]
   rfl
theorem put_in {s:FS} {x:Cl} {v:Nat} (hx:x ∈ s.K):(s.put x v).K=s.K:=if_pos hx
theorem put_out {s:FS} {x:Cl} {v:Nat} (hx:x ∉ s.K):(s.put x v).K=s.K++[x]:=if_neg hx
abbrev farB (s:FS):Blk:=.mp (ksD s.K) (lowD s.K s.val)
def bestZ (s:FS):Option Cl→Int
 | none=>-1
 | some w=>(s.val w:Int)
def nxtZ:Option Cl→Cl
 | none=>(0,0)
 | some w=>w
section
variable (t:Nt) (Q:List (List Cl)) (l:List Fl) (cN:NetOk gl l t Q) (c:Cl)
include cN
theorem Circle_b (ho:¬ okP c.1 c.2):FnP Tryz.prog gl 13 [.lst 3 (l.map flD),kC c] (.tup [.v (.slice none 0 0),erD 1]):=by
 have c0:=Check_n (gl:=gl) ho
 refine fnP_of_vc (nv:=9999) (cu:=[]) fits mixed Tryz.func13 rfl hoB rfl ?_
 ((repeat' ((conv=>whnf);first|exact .intro|refine .ya ?_|refine .na ?_|refine .ys ?_|refine .ns ?_|refine .neg (fun _=>?_) (fun _=>?_)|refine .mk (fun _=>?_) (fun _=>?_)|refine .inr (X5 (cN.r [] _) ?_)|refine .inl (.inr (X5 (cN.r [] _) ?_))|refine .inl (X5 (cN.r [] _) ?_)|refine .inl (.inl (X1 (c0) ?_))|refine .inl (X1 (c0) ?_)|refine X1 (c0) ?_|refine .mk ?_ ?_|refine AK ?_|refine AT ?_|fail));all_goals conv=>whnf)
 all_goals exact LeD.rfl
theorem Circle_0 (ho:okP c.1 c.2) (hc:c ∉ Q.flatten):FnP Tryz.prog gl 13 [.lst 3 (l.map flD),kC c] (.tup [.v (.slice none 0 0),erD 6]):=by
 have c0:=Check_s (gl:=gl) ho
 have hk:kC c ∉ ksD Q.flatten:=fun h=>hc (kC_mem.1 h)
 refine fnP_of_vc (nv:=9999) (cu:=[]) fits mixed Tryz.func13 rfl hoB rfl ?_
 ((repeat' ((conv=>whnf);first|exact .intro|refine .ya ?_|refine .na ?_|refine .ys ?_|refine .ns ?_|refine .neg (fun _=>?_) (fun _=>?_)|refine .mk (fun _=>?_) (fun _=>?_)|refine .inr (X5 (cN.r [] _) ?_)|refine .inl (.inr (X5 (cN.r [] _) ?_))|refine .inl (X5 (cN.r [] _) ?_)|refine .inl (.inl (X1 (c0) ?_))|refine .inl (X1 (c0) ?_)|refine X1 (c0) ?_|(refine ⟨3,⟨key_cell,rfl,keys_T _⟩,by kernel_rfl,.inr ⟨hk,?_⟩⟩)|refine .mk ?_ ?_|refine AK ?_|refine AT ?_|fail));all_goals conv=>whnf)
 all_goals exact LeD.rfl
theorem Circle_n (ht:NtOk t) (ho:okP c.1 c.2) (p:Nat) (hp:p<Q.length) (hq:Q[p]=[c]) (hd:∀ j,(hj:j<Q.length)→c ∈ Q[j]→j=p) (hcc:c ∉ t.on c):FnP Tryz.prog gl 13 [.lst 3 (l.map flD),kC c] (.tup [.v (.slice none 0 0),erD 6]):=by
 have c0:=Check_s (gl:=gl) ho
 have c1:=Circular_h (gl:=gl) t ht Q p hp c [] hq (by rw[hq];simp)
 rw[show decide (([]:List Cl)≠[]∨c ∈ t.on c)=false by simp[hcc]] at c1
 obtain ⟨hcf,hof⟩:=ofT_get hp (c:=c) (by rw[hq];simp) hd hp (Nat.le_refl _)
 rw[List.take_length] at hcf hof
 have gk:=ksD_get hcf
 refine fnP_of_vc (nv:=9999) (cu:=[]) fits mixed Tryz.func13 rfl hoB rfl ?_
 ((repeat' ((conv=>whnf);first|exact .intro|refine .ya ?_|refine .na ?_|refine .ys ?_|refine .ns ?_|refine .neg (fun _=>?_) (fun _=>?_)|refine .mk (fun _=>?_) (fun _=>?_)|refine .inr (X5 (cN.r [] _) ?_)|refine .inl (.inr (X5 (cN.r [] _) ?_))|refine .inl (X5 (cN.r [] _) ?_)|refine .inr (X5 (c1.r [5,6,1,2,3,4,15] _) ?_)|refine .inl (.inr (X5 (c1.r [5,6,1,2,3,4,15] _) ?_))|refine .inl (X5 (c1.r [5,6,1,2,3,4,15] _) ?_)|refine .inl (.inl (X1 (c0) ?_))|refine .inl (X1 (c0) ?_)|refine X1 (c0) ?_|(refine ⟨3,⟨key_cell,rfl,keys_T _⟩,by kernel_rfl,.inl ⟨_,_,⟨gk,hof⟩,?_⟩⟩)|refine .mk ?_ ?_|refine AK ?_|refine AT ?_|fail));all_goals conv=>whnf)
 all_goals exact LeD.rfl
theorem Circle_y (ht:NtOk t) (hR:Row t.g t.V Q) (ho:okP c.1 c.2) (p:Nat) (hp:p<Q.length) (hcp:c ∈ Q[p]) (d:Cl) (r:List Cl) (hq:Q[p]=d::r) (hcc:r≠[]∨d ∈ t.on d) (hat:∀ y ∈ Q[p],∀ j,(hj:j<Q.length)→y ∈ Q[j]→j=p):FnP Tryz.prog gl 13 [.lst 3 (l.map flD),kC c] (.tup [.lst 2 (cellsR (circZ t.g Q[p] c)),.v .nilIface]):=by
 have hQm:(Q.map partR).length=Q.length:=List.length_map _
 have h1:(p:Int)<(((Q.map partR).length:Nat):Int):=by omega
 have g1:=get_map (f:=partR) hp
 have hpart:=hR.ps.part _ (List.getElem_mem hp)
 have hup:=hR.ps.up _ (List.getElem_mem hp)
 have hhas:=hR.ps.sub _ (List.getElem_mem hp)
 have hPl:Q[p].length≤200:=Nat.le_trans (nodup_len (p:=t.V) (hup.imp fun {a b} (hab:les a b) (e:a=b)=>les_irr b (by rwa [e] at hab)) fun c hc=>by simpa using hhas c hc) ht.len
 have c1:=Circular_h (gl:=gl) t ht Q p hp d r hq hPl
 rw[decide_eq_true hcc] at c1
 have c0:=Check_s (gl:=gl) ho
 have hon:=Part.on hpart hup hcp hhas hq hcc
 have hofs:∀ y ∈ Q[p],(ksD Q.flatten)[Q.flatten.idxOf y]?=some (kC y)∧(ofT Q Q.length)[Q.flatten.idxOf y]?=some (nD p):=fun y hy=>by
  obtain ⟨hcf,hof⟩:=ofT_get hp hy (hat y hy) hp (Nat.le_refl _)
  rw[List.take_length] at hcf hof
  exact ⟨ksD_get hcf,hof⟩
 clear hat hup hhas hcc hq hR
 generalize Q[p]=P at *
 have hPm:(cellsR P).length=P.length:=List.length_map _
 obtain ⟨gc1,gc2⟩:=hofs c hcp
 have hk0:kC c ∉ ([]:List Go.EYtaheflnnigocgaaGreatDoor.D):=by simp
 refine fnP_of_vc (nv:=115) (cu:=[]) fits mixed Tryz.func13 rfl hoB rfl ?_
 ((repeat' ((conv=>whnf);first|exact .intro|refine .ya ?_|refine .na ?_|refine .ys ?_|refine .ns ?_|refine .neg (fun _=>?_) (fun _=>?_)|refine .mk (fun _=>?_) (fun _=>?_)|refine .inr (X5 (cN.r [] _) ?_)|refine .inl (.inr (X5 (cN.r [] _) ?_))|refine .inl (X5 (cN.r [] _) ?_)|refine .inr (X5 (c1.r [5,6,1,2,3,4,15] _) ?_)|refine .inl (.inr (X5 (c1.r [5,6,1,2,3,4,15] _) ?_))|refine .inl (X5 (c1.r [5,6,1,2,3,4,15] _) ?_)|refine .inl (.inl (X1 (c0) ?_))|refine .inl (X1 (c0) ?_)|refine X1 (c0) ?_|(first|refine ⟨3,⟨key_cell,rfl,keys_T _⟩,by kernel_rfl,.inl ⟨_,_,⟨gc1,gc2⟩,?_⟩⟩|refine ⟨3,⟨key_cell,rfl,fun _ h=>nomatch h⟩,.inl ⟨hk0,?_⟩⟩)|refine .mk ?_ ?_|refine AK ?_|refine AT ?_|fail));all_goals conv=>whnf)
 refine ⟨{ σ:=FS×Bool,fr:=fun q=>[(11,.c (.d (.v (.bool q.2))))],ks:=[16],L:=fun q=>[(16,farB q.1)],ex:=0,I:=fun q=>FInv t.g P c q.1∧(q.2=false→Fix t.g P q.1),μ:=fun q=>2 * fmeas P q.1+(if q.2=true then 1 else 0) },⟨(⟨[c],fun _=>0⟩,true),⟨FInv.init hcp _ rfl,fun h=>nomatch h⟩,?_⟩,fun (q:FS×Bool) hq=>?_⟩
 ·((repeat' first|exact rfl|((conv=>whnf);first|done|exact suL|refine And.intro ?_ ?_|fail));all_goals conv=>whnf)
 obtain ⟨s,b⟩:=q
 obtain ⟨hI,hf⟩:=hq
 replace hI:FInv t.g P c s:=hI
 replace hf:b=false→Fix t.g P s:=hf
 cases b with
 | true =>
  clear hf
  ((repeat' ((conv=>whnf);first|exact .intro|refine .ya ?_|refine .na ?_|refine .ys ?_|refine .ns ?_|refine .neg (fun _=>?_) (fun _=>?_)|refine .mk (fun _=>?_) (fun _=>?_)|(first|refine ⟨_,g1,?_⟩|refine ⟨Int.natCast_nonneg _,_,g1,?_⟩)|refine .mk ?_ ?_|refine AK ?_|refine AT ?_|fail));all_goals conv=>whnf)
  refine ⟨{ σ:=Nat×FS×Bool,fr:=fun q=>[(70,.c (.d (nD q.1))),(11,.c (.d (.v (.bool q.2.2))))],ks:=[16],L:=fun q=>[(16,farB q.2.1)],ex:=0,I:=fun q=>q.1≤P.length∧Pas t.g P c (fmeas P s) q.2.1 q.2.2 (FixP t.g q.2.1 (P.take q.1)),μ:=fun q=>P.length - q.1 },⟨(0,s,false),⟨Nat.zero_le _,⟨hI,Nat.le_refl _,(fun h=>nomatch h),(fun _ x hx=>nomatch hx)⟩⟩,?_⟩,fun (q:Nat×FS×Bool) hq=>?_⟩
  ·((repeat' first|exact rfl|((conv=>whnf);first|done|exact suL|refine And.intro ?_ ?_|fail));all_goals conv=>whnf)
  obtain ⟨i,s1,b1⟩:=q
  obtain ⟨hi,hp1⟩:=hq
  replace hi:i≤P.length:=hi
  replace hp1:Pas t.g P c (fmeas P s) s1 b1 (FixP t.g s1 (P.take i)):=hp1
  by_cases hlt:i<P.length
  ·have h3:(i:Int)<(((cellsR P).length:Nat):Int):=by omega
   have g2:=get_map (f:=rowC) hlt
   have e0:=wN (i:=i) (by omega)
   have hx:P[i] ∈ P:=List.getElem_mem hlt
   have hfp:∀ s':FS,FixP t.g s' (P.take i)→FixA s' P[i] (t.on P[i])→FixP t.g s' (P.take (i+1)):=fun s' h k=>fixP_s hlt h k
   generalize P[i]=x at g2 hx hfp
   by_cases hxo:x ∈ t.oK
   ·have g3:=ksD_get hxo
    have g4:(onV t)[t.oK.idxOf x]?=some (.lst 2 (cellsR (t.on x))):=get_key hxo _
    have hol:=ht.ol x
    have hom:(cellsR (t.on x)).length=(t.on x).length:=List.length_map _
    ((repeat' ((conv=>whnf);first|exact .intro|refine .ya ?_|refine .na ?_|refine .ys ?_|refine .ns ?_|refine .neg (fun _=>?_) (fun _=>?_)|refine .mk (fun _=>?_) (fun _=>?_)|(first|refine ⟨_,g2,?_⟩|refine ⟨Int.natCast_nonneg _,_,g2,?_⟩|refine ⟨3,⟨key_cell,rfl,keys_T _⟩,by kernel_rfl,.inl ⟨_,_,⟨g3,g4⟩,?_⟩⟩)|refine .mk ?_ ?_|refine AK ?_|refine AT ?_|fail));all_goals conv=>whnf)
    refine ⟨{ σ:=Nat×FS×Bool,fr:=fun q=>[(81,.c (.d (nD q.1))),(11,.c (.d (.v (.bool q.2.2))))],ks:=[16],L:=fun q=>[(16,farB q.2.1)],ex:=0,I:=fun q=>q.1≤(t.on x).length∧Pas t.g P c (fmeas P s) q.2.1 q.2.2 (FixP t.g q.2.1 (P.take i)∧FixA q.2.1 x ((t.on x).take q.1)),μ:=fun q=>(t.on x).length - q.1 },⟨(0,s1,b1),⟨Nat.zero_le _,hp1.mono fun h=>⟨h,(fun y hy=>nomatch hy)⟩⟩,?_⟩,fun (q:Nat×FS×Bool) hq=>?_⟩
    ·((repeat' first|exact rfl|((conv=>whnf);first|done|exact suL|refine And.intro ?_ ?_|fail));all_goals conv=>whnf)
    clear hp1
    obtain ⟨j,s2,b2⟩:=q
    obtain ⟨hj,hp2⟩:=hq
    replace hj:j≤(t.on x).length:=hj
    replace hp2:Pas t.g P c (fmeas P s) s2 b2 (FixP t.g s2 (P.take i)∧FixA s2 x ((t.on x).take j)):=hp2
    have hKl:=hp2.inv.len
    by_cases hlj:j<(t.on x).length
    ·have h4:(j:Int)<(((cellsR (t.on x)).length:Nat):Int):=by omega
     have g5:=get_map (f:=rowC) hlj
     have e1:=wN (i:=j) (by omega)
     have hy:(t.on x)[j] ∈ t.on x:=List.getElem_mem hlj
     have hfa:((t.on x)[j] ∈ s2.K→x ∈ s2.K∧s2.val x≤s2.val (t.on x)[j]+1)→FixA s2 x ((t.on x).take j)→FixA s2 x ((t.on x).take (j+1)):=fun h k=>fixA_s hlj k h
     generalize (t.on x)[j]=y at g5 hy hfa
     by_cases hyK:y ∈ s2.K
     ·have gy1:=ksD_get hyK
      have gy2:=lowD_get hyK s2.val
      have hvy:=hp2.inv.lt y hyK
      have e2:=wN (i:=s2.val y) (by omega)
      by_cases hxK:x ∈ s2.K
      ·have gx1:=ksD_get hxK
       have gx2:=lowD_get hxK s2.val
       have hvx:=hp2.inv.lt x hxK
       by_cases hl2:s2.val y+1<s2.val x
       ·have h5:IntKind.i64.wrap (((s2.val y:Nat):Int)+1)<((s2.val x:Nat):Int):=by rw[e2];omega
        have hk1:ksD (s2.put x (s2.val y+1)).K=ksD s2.K:=by rw[put_in hxK]
        have hk2:lowD (s2.put x (s2.val y+1)).K (s2.put x (s2.val y+1)).val=(lowD s2.K s2.val).set (s2.K.idxOf x) (iD (IntKind.i64.wrap (((s2.val y:Nat):Int)+1))):=by
         rw[e2,put_in hxK,lowD_upd hp2.inv.nd hxK]
         rfl
        ((repeat' ((conv=>whnf);first|exact .intro|refine .ya ?_|refine .na ?_|refine .ys ?_|refine .ns ?_|refine .neg (fun _=>?_) (fun _=>?_)|refine .mk (fun _=>?_) (fun _=>?_)|(first|refine ⟨_,g5,?_⟩|refine ⟨Int.natCast_nonneg _,_,g5,?_⟩|refine ⟨3,⟨key_cell,rfl,keys_T _⟩,by kernel_rfl,.inl ⟨_,_,⟨gy1,gy2⟩,?_⟩⟩|refine ⟨3,⟨key_cell,rfl,keys_T _⟩,by kernel_rfl,.inl ⟨_,_,⟨gx1,gx2⟩,?_⟩⟩|refine ⟨3,⟨key_cell,rfl,keys_T _⟩,.inr ⟨_,gx1,?_⟩⟩)|refine .mk ?_ ?_|refine AK ?_|refine AT ?_|fail));all_goals conv=>whnf)
        all_goals refine ⟨(j+1,s2.put x (s2.val y+1),true),⟨⟨hlj,hp2.set hx hy hyK (.inr hl2)⟩,by show (t.on x).length - (j+1)<(t.on x).length - j;omega⟩,?_⟩
        all_goals ((repeat' first|exact rfl|((conv=>whnf);first|done|exact suL|refine And.intro ?_ ?_|fail));all_goals conv=>whnf)
        all_goals first|exact cqN e1|exact hk1.symm|exact hk2.symm|skip
       ·have h5:¬ IntKind.i64.wrap (((s2.val y:Nat):Int)+1)<((s2.val x:Nat):Int):=by rw[e2];omega
        ((repeat' ((conv=>whnf);first|exact .intro|refine .ya ?_|refine .na ?_|refine .ys ?_|refine .ns ?_|refine .neg (fun _=>?_) (fun _=>?_)|refine .mk (fun _=>?_) (fun _=>?_)|(first|refine ⟨_,g5,?_⟩|refine ⟨Int.natCast_nonneg _,_,g5,?_⟩|refine ⟨3,⟨key_cell,rfl,keys_T _⟩,by kernel_rfl,.inl ⟨_,_,⟨gy1,gy2⟩,?_⟩⟩|refine ⟨3,⟨key_cell,rfl,keys_T _⟩,by kernel_rfl,.inl ⟨_,_,⟨gx1,gx2⟩,?_⟩⟩)|refine .mk ?_ ?_|refine AK ?_|refine AT ?_|fail));all_goals conv=>whnf)
        all_goals refine ⟨(j+1,s2,b2),⟨⟨hlj,hp2.mono fun h=>⟨h.1,hfa (fun _=>⟨hxK,by omega⟩) h.2⟩⟩,by show (t.on x).length - (j+1)<(t.on x).length - j;omega⟩,?_⟩
        all_goals ((repeat' first|exact rfl|((conv=>whnf);first|done|exact suL|refine And.intro ?_ ?_|fail));all_goals conv=>whnf)
        all_goals first|exact cqN e1|skip
      ·have kx:kC x ∉ ksD s2.K:=fun h=>hxK (kC_mem.1 h)
       have hk1:ksD (s2.put x (s2.val y+1)).K=ksD s2.K++[kC x]:=by rw[put_out hxK];exact List.map_append
       have hk2:lowD (s2.put x (s2.val y+1)).K (s2.put x (s2.val y+1)).val=lowD s2.K s2.val++[iD (IntKind.i64.wrap (((s2.val y:Nat):Int)+1))]:=by
        rw[e2,put_out hxK]
        exact lowD_new hxK _ _
       ((repeat' ((conv=>whnf);first|exact .intro|refine .ya ?_|refine .na ?_|refine .ys ?_|refine .ns ?_|refine .neg (fun _=>?_) (fun _=>?_)|refine .mk (fun _=>?_) (fun _=>?_)|(first|refine ⟨_,g5,?_⟩|refine ⟨Int.natCast_nonneg _,_,g5,?_⟩|refine ⟨3,⟨key_cell,rfl,keys_T _⟩,by kernel_rfl,.inl ⟨_,_,⟨gy1,gy2⟩,?_⟩⟩|refine ⟨3,⟨key_cell,rfl,keys_T _⟩,by kernel_rfl,.inr ⟨kx,?_⟩⟩|refine ⟨3,⟨key_cell,rfl,keys_T _⟩,.inl ⟨kx,?_⟩⟩)|refine .mk ?_ ?_|refine AK ?_|refine AT ?_|fail));all_goals conv=>whnf)
       all_goals refine ⟨(j+1,s2.put x (s2.val y+1),true),⟨⟨hlj,hp2.set hx hy hyK (.inl hxK)⟩,by show (t.on x).length - (j+1)<(t.on x).length - j;omega⟩,?_⟩
       all_goals ((repeat' first|exact rfl|((conv=>whnf);first|done|exact suL|refine And.intro ?_ ?_|fail));all_goals conv=>whnf)
       all_goals first|exact cqN e1|exact hk1.symm|exact hk2.symm|skip
     ·have ky:kC y ∉ ksD s2.K:=fun h=>hyK (kC_mem.1 h)
      by_cases hxK:x ∈ s2.K
      ·have gx1:=ksD_get hxK
       have gx2:=lowD_get hxK s2.val
       ((repeat' ((conv=>whnf);first|exact .intro|refine .ya ?_|refine .na ?_|refine .ys ?_|refine .ns ?_|refine .neg (fun _=>?_) (fun _=>?_)|refine .mk (fun _=>?_) (fun _=>?_)|(first|refine ⟨_,g5,?_⟩|refine ⟨Int.natCast_nonneg _,_,g5,?_⟩|refine ⟨3,⟨key_cell,rfl,keys_T _⟩,by kernel_rfl,.inr ⟨ky,?_⟩⟩|refine ⟨3,⟨key_cell,rfl,keys_T _⟩,by kernel_rfl,.inl ⟨_,_,⟨gx1,gx2⟩,?_⟩⟩)|refine .mk ?_ ?_|refine AK ?_|refine AT ?_|fail));all_goals conv=>whnf)
       all_goals refine ⟨(j+1,s2,b2),⟨⟨hlj,hp2.mono fun h=>⟨h.1,hfa (fun h=>absurd h hyK) h.2⟩⟩,by show (t.on x).length - (j+1)<(t.on x).length - j;omega⟩,?_⟩
       all_goals ((repeat' first|exact rfl|((conv=>whnf);first|done|exact suL|refine And.intro ?_ ?_|fail));all_goals conv=>whnf)
       all_goals first|exact cqN e1|skip
      ·have kx:kC x ∉ ksD s2.K:=fun h=>hxK (kC_mem.1 h)
       ((repeat' ((conv=>whnf);first|exact .intro|refine .ya ?_|refine .na ?_|refine .ys ?_|refine .ns ?_|refine .neg (fun _=>?_) (fun _=>?_)|refine .mk (fun _=>?_) (fun _=>?_)|(first|refine ⟨_,g5,?_⟩|refine ⟨Int.natCast_nonneg _,_,g5,?_⟩|refine ⟨3,⟨key_cell,rfl,keys_T _⟩,by kernel_rfl,.inr ⟨ky,?_⟩⟩|refine ⟨3,⟨key_cell,rfl,keys_T _⟩,by kernel_rfl,.inr ⟨kx,?_⟩⟩)|refine .mk ?_ ?_|refine AK ?_|refine AT ?_|fail));all_goals conv=>whnf)
       all_goals refine ⟨(j+1,s2,b2),⟨⟨hlj,hp2.mono fun h=>⟨h.1,hfa (fun h=>absurd h hyK) h.2⟩⟩,by show (t.on x).length - (j+1)<(t.on x).length - j;omega⟩,?_⟩
       all_goals ((repeat' first|exact rfl|((conv=>whnf);first|done|exact suL|refine And.intro ?_ ?_|fail));all_goals conv=>whnf)
       all_goals first|exact cqN e1|skip
    ·obtain rfl:j=(t.on x).length:=by omega
     have h4:¬ (((t.on x).length:Nat):Int)<(((cellsR (t.on x)).length:Nat):Int):=by omega
     rw[List.take_length] at hp2
     ((repeat' ((conv=>whnf);first|exact .intro|refine .ya ?_|refine .na ?_|refine .ys ?_|refine .ns ?_|refine .neg (fun _=>?_) (fun _=>?_)|refine .mk (fun _=>?_) (fun _=>?_)|refine .mk ?_ ?_|refine AK ?_|refine AT ?_|fail));all_goals conv=>whnf)
     all_goals refine ⟨(i+1,s2,b2),⟨⟨hlt,hp2.mono fun h=>hfp _ h.1 h.2⟩,by show P.length - (i+1)<P.length - i;omega⟩,?_⟩
     all_goals ((repeat' first|exact rfl|((conv=>whnf);first|done|exact suL|refine And.intro ?_ ?_|fail));all_goals conv=>whnf)
     all_goals first|exact cqN e0|skip
   ·have kx:kC x ∉ ksD t.oK:=fun h=>hxo (kC_mem.1 h)
    have hox:=ht.on x hxo
    ((repeat' ((conv=>whnf);first|exact .intro|refine .ya ?_|refine .na ?_|refine .ys ?_|refine .ns ?_|refine .neg (fun _=>?_) (fun _=>?_)|refine .mk (fun _=>?_) (fun _=>?_)|(first|refine ⟨_,g2,?_⟩|refine ⟨Int.natCast_nonneg _,_,g2,?_⟩|refine ⟨3,⟨key_cell,rfl,keys_T _⟩,by kernel_rfl,.inr ⟨kx,?_⟩⟩)|refine .mk ?_ ?_|refine AK ?_|refine AT ?_|fail));all_goals conv=>whnf)
    refine ⟨{ σ:=Nat,fr:=fun j=>[(81,.c (.d (nD j))),(11,.c (.d (.v (.bool b1))))],ks:=[],L:=fun j=>[],ex:=0,I:=fun j=>j=0,μ:=fun j=>0 },⟨0,rfl,?_⟩,fun (j:Nat) hj=>?_⟩
    ·((repeat' first|exact rfl|((conv=>whnf);first|done|exact suL|refine And.intro ?_ ?_|fail));all_goals conv=>whnf)
    obtain rfl:j=0:=hj
    ((repeat' ((conv=>whnf);first|exact .intro|refine .ya ?_|refine .na ?_|refine .ys ?_|refine .ns ?_|refine .neg (fun _=>?_) (fun _=>?_)|refine .mk (fun _=>?_) (fun _=>?_)|refine .mk ?_ ?_|refine AK ?_|refine AT ?_|fail));all_goals conv=>whnf)
    all_goals refine ⟨(i+1,s1,b1),⟨⟨hlt,hp1.mono fun h=>hfp _ h (by rw[hox];exact fun y hy=>nomatch hy)⟩,by show P.length - (i+1)<P.length - i;omega⟩,?_⟩
    all_goals ((repeat' first|exact rfl|((conv=>whnf);first|done|exact suL|refine And.intro ?_ ?_|fail));all_goals conv=>whnf)
    all_goals first|exact cqN e0|skip
  ·obtain rfl:i=P.length:=by omega
   have h3:¬ ((P.length:Nat):Int)<(((cellsR P).length:Nat):Int):=by omega
   rw[List.take_length] at hp1
   ((repeat' ((conv=>whnf);first|exact .intro|refine .ya ?_|refine .na ?_|refine .ys ?_|refine .ns ?_|refine .neg (fun _=>?_) (fun _=>?_)|refine .mk (fun _=>?_) (fun _=>?_)|refine .mk ?_ ?_|refine AK ?_|refine AT ?_|fail));all_goals conv=>whnf)
   all_goals refine ⟨(s1,b1),⟨⟨hp1.inv,fun hb=>hp1.fx hb⟩,?_⟩,?_⟩
   ·show 2 * fmeas P s1+(if b1=true then 1 else 0)<2 * fmeas P s+1
    have k1:=hp1.le
    cases b1 with
    | true=>have:=hp1.lt rfl;simp;omega
    | false=>simp;omega
   all_goals ((repeat' first|exact rfl|((conv=>whnf);first|done|exact suL|refine And.intro ?_ ?_|fail));all_goals conv=>whnf)
 | false =>
  have hfx:=hf rfl
  clear hf
  have hall:=hI.all hfx hpart hcp
  ((repeat' ((conv=>whnf);first|exact .intro|refine .ya ?_|refine .na ?_|refine .ys ?_|refine .ns ?_|refine .neg (fun _=>?_) (fun _=>?_)|refine .mk (fun _=>?_) (fun _=>?_)|refine .mk ?_ ?_|refine AK ?_|refine AT ?_|fail));all_goals conv=>whnf)
  refine ⟨{ σ:=List Cl×Cl,fr:=fun q=>[(20,.c (.all 2 17)),(21,.c (.ptr 18 0))],ks:=[17,18],L:=fun q=>[(17,.rows 2 (cellsR (q.1++[q.2])) 24),(18,.var [.d (iD q.2.1),.d (iD q.2.2)] 24)],ex:=0,rn:=[(18,21)],I:=fun q=>Way t.g P c s q.1 q.2,μ:=fun q=>wayM P c s q.2 },⟨([],c),Way.init hcp,?_⟩,fun (q:List Cl×Cl) hw=>?_⟩
  ·((repeat' first|exact rfl|((conv=>whnf);first|done|exact suL|refine And.intro ?_ ?_|fail));all_goals conv=>whnf)
  obtain ⟨b,x⟩:=q
  replace hw:Way t.g P c s b x:=hw
  obtain ⟨w,hw1,hw2,hw3⟩:=hw.next hI hfx hpart hcp hon
  have hxo:x ∈ t.oK:=Classical.byContradiction fun h=>by rw[show t.g.on x=t.on x from rfl,ht.on x h] at hw1;cases hw1
  have g3:=ksD_get hxo
  have g4:(onV t)[t.oK.idxOf x]?=some (.lst 2 (cellsR (t.on x))):=get_key hxo _
  have hol:=ht.ol x
  have hom:(cellsR (t.on x)).length=(t.on x).length:=List.length_map _
  have hbl:(b++[x]).length≤P.length:=nodup_len hw.nd hw.sub
  ((repeat' ((conv=>whnf);first|exact .intro|refine .ya ?_|refine .na ?_|refine .ys ?_|refine .ns ?_|refine .neg (fun _=>?_) (fun _=>?_)|refine .mk (fun _=>?_) (fun _=>?_)|(first|refine ⟨3,⟨key_cell,rfl,keys_T _⟩,by kernel_rfl,.inl ⟨_,_,⟨g3,g4⟩,?_⟩⟩)|refine .mk ?_ ?_|refine AK ?_|refine AT ?_|fail));all_goals conv=>whnf)
  refine ⟨{ σ:=Nat×Option Cl,fr:=fun q=>[(124,.c (.d (nD q.1))),(123,.c (.d (nD (cellsR (t.on x)).length))),(122,.c (.d (.lst 2 (cellsR (t.on x))))),(22,.c (.d (iD (bestZ s q.2))))],ks:=[19],L:=fun q=>[(19,.var [.d (iD (nxtZ q.2).1),.d (iD (nxtZ q.2).2)] 24)],ex:=0,I:=fun q=>q.1≤(t.on x).length∧near s P ((t.on x).take q.1) none=q.2,μ:=fun q=>(t.on x).length - q.1 },⟨(0,none),⟨Nat.zero_le _,rfl⟩,?_⟩,fun (q:Nat×Option Cl) hq=>?_⟩
  ·((repeat' first|exact rfl|((conv=>whnf);first|done|exact suL|refine And.intro ?_ ?_|fail));all_goals conv=>whnf)
  obtain ⟨j,o⟩:=q
  obtain ⟨hj,ho⟩:=hq
  replace hj:j≤(t.on x).length:=hj
  replace ho:near s P ((t.on x).take j) none=o:=ho
  by_cases hlj:j<(t.on x).length
  ·have h4:(j:Int)<(((cellsR (t.on x)).length:Nat):Int):=by omega
   have g5:=get_map (f:=rowC) hlj
   have e1:=wN (i:=j) (by omega)
   have hstep:near s P ((t.on x).take (j+1)) none=if (t.on x)[j] ∈ s.K∧(t.on x)[j] ∈ P∧(∀ z,o=some z→s.val (t.on x)[j]<s.val z) then some (t.on x)[j] else o:=by
    rw[List.take_succ_eq_append_getElem hlj,near_snoc,ho]
   clear ho
   generalize (t.on x)[j]=y at g5 hstep
   by_cases hyK:y ∈ s.K
   ·have hyP:=hI.sub y hyK
    have gy1:=ksD_get hyK
    have gy2:=lowD_get hyK s.val
    obtain ⟨gp1,gp2⟩:=hofs y hyP
    cases o with
    | none =>
     have h6:bestZ s (j,(none:Option Cl)).snd<0:=by show (-1:Int)<0;decide
     rw[if_pos ⟨hyK,hyP,(fun z hz=>nomatch hz)⟩] at hstep
     ((repeat' ((conv=>whnf);first|exact .intro|refine .ya ?_|refine .na ?_|refine .ys ?_|refine .ns ?_|refine .neg (fun _=>?_) (fun _=>?_)|refine .mk (fun _=>?_) (fun _=>?_)|(first|refine ⟨_,g5,?_⟩|refine ⟨Int.natCast_nonneg _,_,g5,?_⟩|refine ⟨3,⟨key_cell,rfl,keys_T _⟩,by kernel_rfl,.inl ⟨_,_,⟨gy1,gy2⟩,?_⟩⟩|refine ⟨3,⟨key_cell,rfl,keys_T _⟩,by kernel_rfl,.inl ⟨_,_,⟨gp1,gp2⟩,?_⟩⟩)|refine .mk ?_ ?_|refine AK ?_|refine AT ?_|fail));all_goals conv=>whnf)
     all_goals refine ⟨(j+1,some y),⟨⟨hlj,hstep⟩,by show (t.on x).length - (j+1)<(t.on x).length - j;omega⟩,?_⟩
     all_goals ((repeat' first|exact rfl|((conv=>whnf);first|done|exact suL|refine And.intro ?_ ?_|fail));all_goals conv=>whnf)
     all_goals first|exact cqN e1|skip
    | some z =>
     have h6:¬ bestZ s (j,some z).snd<0:=by show ¬ ((s.val z:Nat):Int)<0;omega
     by_cases hlt2:s.val y<s.val z
     ·have h7:((s.val y:Nat):Int)<bestZ s (j,some z).snd:=by show ((s.val y:Nat):Int)<((s.val z:Nat):Int);omega
      rw[if_pos ⟨hyK,hyP,fun z' hz=>by cases hz;exact hlt2⟩] at hstep
      ((repeat' ((conv=>whnf);first|exact .intro|refine .ya ?_|refine .na ?_|refine .ys ?_|refine .ns ?_|refine .neg (fun _=>?_) (fun _=>?_)|refine .mk (fun _=>?_) (fun _=>?_)|(first|refine ⟨_,g5,?_⟩|refine ⟨Int.natCast_nonneg _,_,g5,?_⟩|refine ⟨3,⟨key_cell,rfl,keys_T _⟩,by kernel_rfl,.inl ⟨_,_,⟨gy1,gy2⟩,?_⟩⟩|refine ⟨3,⟨key_cell,rfl,keys_T _⟩,by kernel_rfl,.inl ⟨_,_,⟨gp1,gp2⟩,?_⟩⟩)|refine .mk ?_ ?_|refine AK ?_|refine AT ?_|fail));all_goals conv=>whnf)
      all_goals refine ⟨(j+1,some y),⟨⟨hlj,hstep⟩,by show (t.on x).length - (j+1)<(t.on x).length - j;omega⟩,?_⟩
      all_goals ((repeat' first|exact rfl|((conv=>whnf);first|done|exact suL|refine And.intro ?_ ?_|fail));all_goals conv=>whnf)
      all_goals first|exact cqN e1|skip
     ·have h7:¬ ((s.val y:Nat):Int)<bestZ s (j,some z).snd:=by show ¬ ((s.val y:Nat):Int)<((s.val z:Nat):Int);omega
      rw[if_neg fun hh=>hlt2 (hh.2.2 z rfl)] at hstep
      ((repeat' ((conv=>whnf);first|exact .intro|refine .ya ?_|refine .na ?_|refine .ys ?_|refine .ns ?_|refine .neg (fun _=>?_) (fun _=>?_)|refine .mk (fun _=>?_) (fun _=>?_)|(first|refine ⟨_,g5,?_⟩|refine ⟨Int.natCast_nonneg _,_,g5,?_⟩|refine ⟨3,⟨key_cell,rfl,keys_T _⟩,by kernel_rfl,.inl ⟨_,_,⟨gy1,gy2⟩,?_⟩⟩|refine ⟨3,⟨key_cell,rfl,keys_T _⟩,by kernel_rfl,.inl ⟨_,_,⟨gp1,gp2⟩,?_⟩⟩)|refine .mk ?_ ?_|refine AK ?_|refine AT ?_|fail));all_goals conv=>whnf)
      all_goals refine ⟨(j+1,some z),⟨⟨hlj,hstep⟩,by show (t.on x).length - (j+1)<(t.on x).length - j;omega⟩,?_⟩
      all_goals ((repeat' first|exact rfl|((conv=>whnf);first|done|exact suL|refine And.intro ?_ ?_|fail));all_goals conv=>whnf)
      all_goals first|exact cqN e1|skip
   ·have ky:kC y ∉ ksD s.K:=fun h=>hyK (kC_mem.1 h)
    rw[if_neg fun hh=>hyK hh.1] at hstep
    ((repeat' ((conv=>whnf);first|exact .intro|refine .ya ?_|refine .na ?_|refine .ys ?_|refine .ns ?_|refine .neg (fun _=>?_) (fun _=>?_)|refine .mk (fun _=>?_) (fun _=>?_)|(first|refine ⟨_,g5,?_⟩|refine ⟨Int.natCast_nonneg _,_,g5,?_⟩|refine ⟨3,⟨key_cell,rfl,keys_T _⟩,by kernel_rfl,.inr ⟨ky,?_⟩⟩)|refine .mk ?_ ?_|refine AK ?_|refine AT ?_|fail));all_goals conv=>whnf)
    all_goals refine ⟨(j+1,o),⟨⟨hlj,hstep⟩,by show (t.on x).length - (j+1)<(t.on x).length - j;omega⟩,?_⟩
    all_goals ((repeat' first|exact rfl|((conv=>whnf);first|done|exact suL|refine And.intro ?_ ?_|fail));all_goals conv=>whnf)
    all_goals first|exact cqN e1|skip
  ·obtain rfl:j=(t.on x).length:=by omega
   have h4:¬ (((t.on x).length:Nat):Int)<(((cellsR (t.on x)).length:Nat):Int):=by omega
   rw[List.take_length] at ho
   obtain rfl:o=some w:=ho.symm.trans hw1
   by_cases hwc:w=c
   ·have h8:(nxtZ ((t.on x).length,some w).snd).1=c.1∧(nxtZ ((t.on x).length,some w).snd).2=c.2∧True:=by show w.1=c.1∧w.2=c.2∧True;rw[hwc];exact ⟨rfl,rfl,trivial⟩
    have hce:=circ_eq hpart hcp hI hfx (hw2 hwc)
    rw[← hce]
    ((repeat' ((conv=>whnf);first|exact .intro|refine .ya ?_|refine .na ?_|refine .ys ?_|refine .ns ?_|refine .neg (fun _=>?_) (fun _=>?_)|refine .mk (fun _=>?_) (fun _=>?_)|refine .mk ?_ ?_|refine AK ?_|refine AT ?_|fail));all_goals conv=>whnf)
    all_goals exact LeD.rfl
   ·have h8:¬ ((nxtZ ((t.on x).length,some w).snd).1=c.1∧(nxtZ ((t.on x).length,some w).snd).2=c.2∧True):=fun h=>hwc (Prod.ext h.1 h.2.1)
    obtain ⟨hw4,hw5⟩:=hw3 hwc
    have hrl:(cellsR (b++[x])).length=(b++[x]).length:=List.length_map _
    have b1:((cellsR (b++[x])).length+1) * 16≤140737488355328:=by omega
    have b2:(cellsR (b++[x])).length+1≤maxLen:=by unfold maxLen;omega
    have hcs:cellsR (b++[x]++[w])=cellsR (b++[x])++[[iD w.1,iD w.2]]:=List.map_append
    ((repeat' ((conv=>whnf);first|exact .intro|refine .ya ?_|refine .na ?_|refine .ys ?_|refine .ns ?_|refine .neg (fun _=>?_) (fun _=>?_)|refine .mk (fun _=>?_) (fun _=>?_)|(refine ⟨⟨rfl,b1,b2⟩,?_⟩)|refine .mk ?_ ?_|refine AK ?_|refine AT ?_|fail));all_goals conv=>whnf)
    all_goals refine ⟨(b++[x],w),⟨hw4,hw5⟩,?_⟩
    all_goals ((repeat' first|exact rfl|((conv=>whnf);first|done|exact suL|refine And.intro ?_ ?_|fail));all_goals conv=>whnf)
    all_goals first|exact hcs.symm|skip
end
end Go.Proofs.YtaheflnnigocgaaGreatDoor
end
