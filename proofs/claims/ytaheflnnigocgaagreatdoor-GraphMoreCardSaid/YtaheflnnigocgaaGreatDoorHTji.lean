/- Proved: a part of what the law is proved with (the reckoner, contracts of functions, plain laws). Conditions: as each says. -/
import Derived.OwnWalk
import Derived.Lib.SliceRun
import Derived.Lib.Walk
import Derived.Test.YtaheflnnigocgaaGreatDoorHTjh
import Derived.Test.YtaheflnnigocgaaGreatDoorHTjs
import Derived.Test.YtaheflnnigocgaaGreatDoorHTjw
section
namespace Go.Proofs.YtaheflnnigocgaaGreatDoor
open Go Go.RowKit Go.EYtaheflnnigocgaaGreatDoor
set_option maxRecDepth 100000
set_option maxHeartbeats 400000000
variable {gl:List (Nat×List D)}
abbrev httD:Go.EYtaheflnnigocgaaGreatDoor.D:=.v (.bool true)
structure HPas (g:Gr) (V:List Cl) (d:Cl) (n:Nat) (K:List Cl) (b:Bool) (F:Prop):Prop where
 inv:HInv g V d K
 le:n≤K.length
 lt:b=true→n<K.length
 fx:b=false→F
def HOut (d:Cl) (K:List Cl) (x:Cl) (l:List Cl):Prop:=∀ y ∈ l,(y=d∨y ∈ K)→x ∈ K
theorem HPas.mono {g:Gr} {V:List Cl} {d:Cl} {n:Nat} {K:List Cl} {b:Bool} {F G:Prop} (h:HPas g V d n K b F) (k:F→G):HPas g V d n K b G:=⟨h.inv,h.le,h.lt,fun hb=>k (h.fx hb)⟩
theorem HPas.put {g:Gr} {V:List Cl} {d:Cl} {n:Nat} {K:List Cl} {b:Bool} {F G:Prop} (h:HPas g V d n K b F) (hV:∀ x ∈ V,g.has x=true) {x y:Cl} (hx:x ∈ V) (hn:x ∉ K) (hy:y ∈ g.on x) (hc:y=d∨y ∈ K):HPas g V d n (K++[x]) true G:=by
 have:=h.le
 refine ⟨h.inv.put hV hx hn hy hc,?_,fun _=>?_,fun hb=>nomatch hb⟩
 ·rw[List.length_append];omega
 ·rw[List.length_append,List.length_singleton];omega
theorem hout_s {d:Cl} {K:List Cl} {x:Cl} {l:List Cl} {j:Nat} (hj:j<l.length) (h:HOut d K x (l.take j)) (hy:¬ (l[j]=d∨l[j] ∈ K)):HOut d K x (l.take (j+1)):=fun y hm hK=>by
 rw[List.take_succ_eq_append_getElem hj] at hm
 rcases List.mem_append.1 hm with h1|h1
 ·exact h y h1 hK
 ·obtain rfl:=List.mem_singleton.1 h1
  exact absurd hK hy
def HOuts (g:Gr) (d:Cl) (K:List Cl) (l:List Cl):Prop:=∀ x ∈ l,HOut d K x (g.on x)
theorem houts_s {g:Gr} {d:Cl} {K:List Cl} {l:List Cl} {i:Nat} (hi:i<l.length) (h:HOuts g d K (l.take i)) (hx:HOut d K l[i] (g.on l[i])):HOuts g d K (l.take (i+1)):=fun y hm=>by
 rw[List.take_succ_eq_append_getElem hi] at hm
 rcases List.mem_append.1 hm with h1|h1
 ·exact h y h1
 ·obtain rfl:=List.mem_singleton.1 h1
  exact hx
theorem hangs_eq {g:Gr} {V:List Cl} {d:Cl} {K:List Cl} (h:HInv g V d K) (hV:∀ x,g.has x=true→x ∈ V) (hf:HOuts g d K V):V.filter (fun x=>decide (x ∈ K))=hangsZ g V d:=by
 classical
 unfold hangsZ
 refine List.filter_congr fun x hx=>?_
 have h1:x ∈ K↔Hng g d x:=⟨fun hh=>h.ok x hh,fun hh=>h.all hV (fun x hx y hy hc=>hf x hx y hy hc) x hh hx⟩
 by_cases hk:x ∈ K
 ·rw[decide_eq_true hk,decide_eq_true (h1.1 hk)]
 ·rw[decide_eq_false hk,decide_eq_false fun hh=>hk (h1.2 hh)]
abbrev hinB (K:List Cl):Blk:=.mp (ksD K) (K.map fun _=>httD)
section
variable (t:Nt) (Q:List (List Cl)) (l:List Fl) (cN:NetOk gl l t Q) (d:Cl)
include cN
theorem Hangs_b (ho:¬ okP d.1 d.2):FnP Tryz.prog gl 11 [.lst 3 (l.map flD),kC d] (.tup [.v (.slice none 0 0),erD 1]):=by
 have c0:=Check_n (gl:=gl) ho
 refine fnP_of_vc (nv:=9999) (cu:=[]) fits mixed Tryz.func11 rfl hoB rfl ?_
 ((repeat' ((conv=>whnf);first|exact .intro|refine .ya ?_|refine .na ?_|refine .ys ?_|refine .ns ?_|refine .neg (fun _=>?_) (fun _=>?_)|refine .mk (fun _=>?_) (fun _=>?_)|refine .inr (X5 (cN.r [] _) ?_)|refine .inl (.inr (X5 (cN.r [] _) ?_))|refine .inl (X5 (cN.r [] _) ?_)|refine .inl (.inl (X1 (c0) ?_))|refine .inl (X1 (c0) ?_)|refine X1 (c0) ?_|refine .mk ?_ ?_|refine AK ?_|refine AT ?_|fail));all_goals conv=>whnf)
 all_goals exact LeD.rfl
theorem Hangs_d (ht:NtOk t) (ho:okP d.1 d.2):FnP Tryz.prog gl 11 [.lst 3 (l.map flD),kC d] (.tup [.lst 2 (cellsR (hangsZ t.g t.V d)),.v .nilIface]):=by
 have c0:=Check_s (gl:=gl) ho
 have hVm:(cellsR t.V).length=t.V.length:=List.length_map _
 have hVl:=ht.len
 have hhas:∀ x ∈ t.V,t.g.has x=true:=fun x hx=>decide_eq_true hx
 refine fnP_of_vc (nv:=9999) (cu:=[]) fits mixed Tryz.func11 rfl hoB rfl ?_
 ((repeat' ((conv=>whnf);first|exact .intro|refine .ya ?_|refine .na ?_|refine .ys ?_|refine .ns ?_|refine .neg (fun _=>?_) (fun _=>?_)|refine .mk (fun _=>?_) (fun _=>?_)|refine .inr (X5 (cN.r [] _) ?_)|refine .inl (.inr (X5 (cN.r [] _) ?_))|refine .inl (X5 (cN.r [] _) ?_)|refine .inl (.inl (X1 (c0) ?_))|refine .inl (X1 (c0) ?_)|refine X1 (c0) ?_|refine .mk ?_ ?_|refine AK ?_|refine AT ?_|fail));all_goals conv=>whnf)
 refine ⟨{ σ:=List Cl×Bool,fr:=fun q=>[(9,.c (.d (.v (.bool q.2))))],ks:=[16],L:=fun q=>[(16,hinB q.1)],ex:=0,I:=fun q=>HInv t.g t.V d q.1∧(q.2=false→HOuts t.g d q.1 t.V),μ:=fun q=>2 * (t.V.length - q.1.length)+(if q.2=true then 1 else 0) },⟨([],true),⟨HInv.init,fun h=>nomatch h⟩,?_⟩,fun (q:List Cl×Bool) hq=>?_⟩
 ·((repeat' first|exact rfl|((conv=>whnf);first|done|exact suL|refine And.intro ?_ ?_|fail));all_goals conv=>whnf)
 obtain ⟨K,b⟩:=q
 obtain ⟨hI,hf⟩:=hq
 replace hI:HInv t.g t.V d K:=hI
 replace hf:b=false→HOuts t.g d K t.V:=hf
 cases b with
 | true =>
  clear hf
  ((repeat' ((conv=>whnf);first|exact .intro|refine .ya ?_|refine .na ?_|refine .ys ?_|refine .ns ?_|refine .neg (fun _=>?_) (fun _=>?_)|refine .mk (fun _=>?_) (fun _=>?_)|refine .mk ?_ ?_|refine AK ?_|refine AT ?_|fail));all_goals conv=>whnf)
  refine ⟨{ σ:=Nat×List Cl×Bool,fr:=fun q=>[(36,.c (.d (nD q.1))),(9,.c (.d (.v (.bool q.2.2))))],ks:=[16],L:=fun q=>[(16,hinB q.2.1)],ex:=0,I:=fun q=>q.1≤t.V.length∧HPas t.g t.V d K.length q.2.1 q.2.2 (HOuts t.g d q.2.1 (t.V.take q.1)),μ:=fun q=>t.V.length - q.1 },⟨(0,K,false),⟨Nat.zero_le _,⟨hI,Nat.le_refl _,(fun h=>nomatch h),(fun _ x hx=>nomatch hx)⟩⟩,?_⟩,fun (q:Nat×List Cl×Bool) hq=>?_⟩
  ·((repeat' first|exact rfl|((conv=>whnf);first|done|exact suL|refine And.intro ?_ ?_|fail));all_goals conv=>whnf)
  obtain ⟨i,K1,b1⟩:=q
  obtain ⟨hi,hp1⟩:=hq
  replace hi:i≤t.V.length:=hi
  replace hp1:HPas t.g t.V d K.length K1 b1 (HOuts t.g d K1 (t.V.take i)):=hp1
  by_cases hlt:i<t.V.length
  ·have h3:(i:Int)<(((cellsR t.V).length:Nat):Int):=by omega
   have g2:=get_map (f:=rowC) hlt
   have e0:=wN (i:=i) (by omega)
   have hx:t.V[i] ∈ t.V:=List.getElem_mem hlt
   have hfp:∀ K':List Cl,HOuts t.g d K' (t.V.take i)→HOut d K' t.V[i] (t.on t.V[i])→HOuts t.g d K' (t.V.take (i+1)):=fun K' h k=>houts_s hlt h k
   generalize t.V[i]=x at g2 hx hfp
   by_cases hxK:x ∈ K1
   ·have gx1:=ksD_get hxK
    have gx2:(K1.map fun _=>httD)[K1.idxOf x]?=some httD:=get_key hxK _
    ((repeat' ((conv=>whnf);first|exact .intro|refine .ya ?_|refine .na ?_|refine .ys ?_|refine .ns ?_|refine .neg (fun _=>?_) (fun _=>?_)|refine .mk (fun _=>?_) (fun _=>?_)|(first|refine ⟨_,g2,?_⟩|refine ⟨Int.natCast_nonneg _,_,g2,?_⟩|refine ⟨3,⟨key_cell,rfl,keys_T _⟩,by kernel_rfl,.inl ⟨_,_,⟨gx1,gx2⟩,?_⟩⟩)|refine .mk ?_ ?_|refine AK ?_|refine AT ?_|fail));all_goals conv=>whnf)
    all_goals refine ⟨(i+1,K1,b1),⟨⟨hlt,hp1.mono fun h=>hfp _ h fun y hy hc=>hxK⟩,by show t.V.length - (i+1)<t.V.length - i;omega⟩,?_⟩
    all_goals ((repeat' first|exact rfl|((conv=>whnf);first|done|exact suL|refine And.intro ?_ ?_|fail));all_goals conv=>whnf)
    all_goals first|exact cqN e0|skip
   ·have kx:kC x ∉ ksD K1:=fun h=>hxK (kC_mem.1 h)
    by_cases hxo:x ∈ t.oK
    ·have g3:=ksD_get hxo
     have g4:(onV t)[t.oK.idxOf x]?=some (.lst 2 (cellsR (t.on x))):=get_key hxo _
     have hol:=ht.ol x
     have hom:(cellsR (t.on x)).length=(t.on x).length:=List.length_map _
     ((repeat' ((conv=>whnf);first|exact .intro|refine .ya ?_|refine .na ?_|refine .ys ?_|refine .ns ?_|refine .neg (fun _=>?_) (fun _=>?_)|refine .mk (fun _=>?_) (fun _=>?_)|(first|refine ⟨_,g2,?_⟩|refine ⟨Int.natCast_nonneg _,_,g2,?_⟩|refine ⟨3,⟨key_cell,rfl,keys_T _⟩,by kernel_rfl,.inl ⟨_,_,⟨g3,g4⟩,?_⟩⟩|refine ⟨3,⟨key_cell,rfl,keys_T _⟩,by kernel_rfl,.inr ⟨kx,?_⟩⟩)|refine .mk ?_ ?_|refine AK ?_|refine AT ?_|fail));all_goals conv=>whnf)
     refine ⟨{ σ:=Nat,fr:=fun j=>[(50,.c (.d (nD j))),(9,.c (.d (.v (.bool b1))))],ks:=[16],L:=fun j=>[(16,hinB K1)],ex:=0,I:=fun j=>j≤(t.on x).length∧HOut d K1 x ((t.on x).take j),μ:=fun j=>(t.on x).length - j },⟨0,⟨Nat.zero_le _,(fun y hy=>nomatch hy)⟩,?_⟩,fun (j:Nat) hj=>?_⟩
     ·((repeat' first|exact rfl|((conv=>whnf);first|done|exact suL|refine And.intro ?_ ?_|fail));all_goals conv=>whnf)
     obtain ⟨hj,hH⟩:=hj
     replace hj:j≤(t.on x).length:=hj
     by_cases hlj:j<(t.on x).length
     ·have h4:(j:Int)<(((cellsR (t.on x)).length:Nat):Int):=by omega
      have g5:=get_map (f:=rowC) hlj
      have e1:=wN (i:=j) (by omega)
      have hy:(t.on x)[j] ∈ t.on x:=List.getElem_mem hlj
      have hfa:¬ ((t.on x)[j]=d∨(t.on x)[j] ∈ K1)→HOut d K1 x ((t.on x).take (j+1)):=fun k=>hout_s hlj hH k
      generalize (t.on x)[j]=y at g5 hy hfa
      have hk1:ksD (K1++[x])=ksD K1++[kC x]:=List.map_append
      have hk2:(K1++[x]).map (fun _=>httD)=K1.map (fun _=>httD)++[httD]:=List.map_append
      by_cases hyd:y=d
      ·have h5:y.1=d.1∧y.2=d.2∧True:=by rw[hyd];exact ⟨rfl,rfl,trivial⟩
       ((repeat' ((conv=>whnf);first|exact .intro|refine .ya ?_|refine .na ?_|refine .ys ?_|refine .ns ?_|refine .neg (fun _=>?_) (fun _=>?_)|refine .mk (fun _=>?_) (fun _=>?_)|(first|refine ⟨_,g5,?_⟩|refine ⟨Int.natCast_nonneg _,_,g5,?_⟩|refine ⟨3,⟨key_cell,rfl,keys_T _⟩,.inl ⟨kx,?_⟩⟩)|refine .mk ?_ ?_|refine AK ?_|refine AT ?_|fail));all_goals conv=>whnf)
       all_goals refine ⟨(i+1,K1++[x],true),⟨⟨hlt,hp1.put hhas hx hxK hy (.inl hyd)⟩,by show t.V.length - (i+1)<t.V.length - i;omega⟩,?_⟩
       all_goals ((repeat' first|exact rfl|((conv=>whnf);first|done|exact suL|refine And.intro ?_ ?_|fail));all_goals conv=>whnf)
       all_goals first|exact cqN e0|exact hk1.symm|exact hk2.symm|skip
      ·have h5:¬ (y.1=d.1∧y.2=d.2∧True):=fun h=>hyd (Prod.ext h.1 h.2.1)
       by_cases hyK:y ∈ K1
       ·have gy1:=ksD_get hyK
        have gy2:(K1.map fun _=>httD)[K1.idxOf y]?=some httD:=get_key hyK _
        ((repeat' ((conv=>whnf);first|exact .intro|refine .ya ?_|refine .na ?_|refine .ys ?_|refine .ns ?_|refine .neg (fun _=>?_) (fun _=>?_)|refine .mk (fun _=>?_) (fun _=>?_)|(first|refine ⟨_,g5,?_⟩|refine ⟨Int.natCast_nonneg _,_,g5,?_⟩|refine ⟨3,⟨key_cell,rfl,keys_T _⟩,by kernel_rfl,.inl ⟨_,_,⟨gy1,gy2⟩,?_⟩⟩|refine ⟨3,⟨key_cell,rfl,keys_T _⟩,.inl ⟨kx,?_⟩⟩)|refine .mk ?_ ?_|refine AK ?_|refine AT ?_|fail));all_goals conv=>whnf)
        all_goals refine ⟨(i+1,K1++[x],true),⟨⟨hlt,hp1.put hhas hx hxK hy (.inr hyK)⟩,by show t.V.length - (i+1)<t.V.length - i;omega⟩,?_⟩
        all_goals ((repeat' first|exact rfl|((conv=>whnf);first|done|exact suL|refine And.intro ?_ ?_|fail));all_goals conv=>whnf)
        all_goals first|exact cqN e0|exact hk1.symm|exact hk2.symm|skip
       ·have ky:kC y ∉ ksD K1:=fun h=>hyK (kC_mem.1 h)
        ((repeat' ((conv=>whnf);first|exact .intro|refine .ya ?_|refine .na ?_|refine .ys ?_|refine .ns ?_|refine .neg (fun _=>?_) (fun _=>?_)|refine .mk (fun _=>?_) (fun _=>?_)|(first|refine ⟨_,g5,?_⟩|refine ⟨Int.natCast_nonneg _,_,g5,?_⟩|refine ⟨3,⟨key_cell,rfl,keys_T _⟩,by kernel_rfl,.inr ⟨ky,?_⟩⟩)|refine .mk ?_ ?_|refine AK ?_|refine AT ?_|fail));all_goals conv=>whnf)
        all_goals refine ⟨j+1,⟨⟨hlj,hfa fun h=>h.elim hyd hyK⟩,by show (t.on x).length - (j+1)<(t.on x).length - j;omega⟩,?_⟩
        all_goals ((repeat' first|exact rfl|((conv=>whnf);first|done|exact suL|refine And.intro ?_ ?_|fail));all_goals conv=>whnf)
        all_goals first|exact cqN e1|skip
     ·obtain rfl:j=(t.on x).length:=by omega
      have h4:¬ (((t.on x).length:Nat):Int)<(((cellsR (t.on x)).length:Nat):Int):=by omega
      rw[List.take_length] at hH
      ((repeat' ((conv=>whnf);first|exact .intro|refine .ya ?_|refine .na ?_|refine .ys ?_|refine .ns ?_|refine .neg (fun _=>?_) (fun _=>?_)|refine .mk (fun _=>?_) (fun _=>?_)|refine .mk ?_ ?_|refine AK ?_|refine AT ?_|fail));all_goals conv=>whnf)
      all_goals refine ⟨(i+1,K1,b1),⟨⟨hlt,hp1.mono fun h=>hfp _ h hH⟩,by show t.V.length - (i+1)<t.V.length - i;omega⟩,?_⟩
      all_goals ((repeat' first|exact rfl|((conv=>whnf);first|done|exact suL|refine And.intro ?_ ?_|fail));all_goals conv=>whnf)
      all_goals first|exact cqN e0|skip
    ·have kxo:kC x ∉ ksD t.oK:=fun h=>hxo (kC_mem.1 h)
     have hox:=ht.on x hxo
     ((repeat' ((conv=>whnf);first|exact .intro|refine .ya ?_|refine .na ?_|refine .ys ?_|refine .ns ?_|refine .neg (fun _=>?_) (fun _=>?_)|refine .mk (fun _=>?_) (fun _=>?_)|(first|refine ⟨_,g2,?_⟩|refine ⟨Int.natCast_nonneg _,_,g2,?_⟩|refine ⟨3,⟨key_cell,rfl,keys_T _⟩,by kernel_rfl,.inr ⟨kxo,?_⟩⟩|refine ⟨3,⟨key_cell,rfl,keys_T _⟩,by kernel_rfl,.inr ⟨kx,?_⟩⟩)|refine .mk ?_ ?_|refine AK ?_|refine AT ?_|fail));all_goals conv=>whnf)
     refine ⟨{ σ:=Nat,fr:=fun j=>[(50,.c (.d (nD j))),(9,.c (.d (.v (.bool b1))))],ks:=[],L:=fun j=>[],ex:=0,I:=fun j=>j=0,μ:=fun j=>0 },⟨0,rfl,?_⟩,fun (j:Nat) hj=>?_⟩
     ·((repeat' first|exact rfl|((conv=>whnf);first|done|exact suL|refine And.intro ?_ ?_|fail));all_goals conv=>whnf)
     obtain rfl:j=0:=hj
     ((repeat' ((conv=>whnf);first|exact .intro|refine .ya ?_|refine .na ?_|refine .ys ?_|refine .ns ?_|refine .neg (fun _=>?_) (fun _=>?_)|refine .mk (fun _=>?_) (fun _=>?_)|refine .mk ?_ ?_|refine AK ?_|refine AT ?_|fail));all_goals conv=>whnf)
     all_goals refine ⟨(i+1,K1,b1),⟨⟨hlt,hp1.mono fun h=>hfp _ h (by rw[hox];exact fun y hy=>nomatch hy)⟩,by show t.V.length - (i+1)<t.V.length - i;omega⟩,?_⟩
     all_goals ((repeat' first|exact rfl|((conv=>whnf);first|done|exact suL|refine And.intro ?_ ?_|fail));all_goals conv=>whnf)
     all_goals first|exact cqN e0|skip
  ·obtain rfl:i=t.V.length:=by omega
   have h3:¬ ((t.V.length:Nat):Int)<(((cellsR t.V).length:Nat):Int):=by omega
   rw[List.take_length] at hp1
   ((repeat' ((conv=>whnf);first|exact .intro|refine .ya ?_|refine .na ?_|refine .ys ?_|refine .ns ?_|refine .neg (fun _=>?_) (fun _=>?_)|refine .mk (fun _=>?_) (fun _=>?_)|refine .mk ?_ ?_|refine AK ?_|refine AT ?_|fail));all_goals conv=>whnf)
   all_goals refine ⟨(K1,b1),⟨⟨hp1.inv,fun hb=>hp1.fx hb⟩,?_⟩,?_⟩
   ·show 2 * (t.V.length - K1.length)+(if b1=true then 1 else 0)<2 * (t.V.length - K.length)+1
    have k1:=hp1.le
    have k2:=hp1.inv.len
    cases b1 with
    | true=>have:=hp1.lt rfl;simp;omega
    | false=>simp;omega
   all_goals ((repeat' first|exact rfl|((conv=>whnf);first|done|exact suL|refine And.intro ?_ ?_|fail));all_goals conv=>whnf)
 | false =>
  have hfx:=hf rfl
  clear hf
  have heq:=hangs_eq hI (fun x hx=>of_decide_eq_true hx) hfx
  rw[← heq]
  ((repeat' ((conv=>whnf);first|exact .intro|refine .ya ?_|refine .na ?_|refine .ys ?_|refine .ns ?_|refine .neg (fun _=>?_) (fun _=>?_)|refine .mk (fun _=>?_) (fun _=>?_)|refine .mk ?_ ?_|refine AK ?_|refine AT ?_|fail));all_goals conv=>whnf)
  refine ⟨{ σ:=Nat,fr:=fun i=>[(71,.c (.d (nD i))),(14,.c (.all 2 17))],ks:=[],L:=fun i=>[(17,.rows 2 (cellsR ((t.V.take i).filter fun x=>decide (x ∈ K))) 24)],ex:=1,I:=fun i=>i≤t.V.length,μ:=fun i=>t.V.length - i },⟨0,Nat.zero_le _,?_⟩,fun (i:Nat) hi=>?_⟩
  ·((repeat' first|exact rfl|((conv=>whnf);first|done|exact suL|refine And.intro ?_ ?_|fail));all_goals conv=>whnf)
   all_goals first|exact ⟨2,_,rfl,by decide,by decide⟩|exact .inr (.inr (.inl ⟨rfl,2,17,rfl,by decide⟩))|skip
  replace hi:i≤t.V.length:=hi
  by_cases hlt:i<t.V.length
  ·have h3:(i:Int)<(((cellsR t.V).length:Nat):Int):=by omega
   have g2:=get_map (f:=rowC) hlt
   have e0:=wN (i:=i) (by omega)
   have htk:(t.V.take (i+1)).filter (fun x=>decide (x ∈ K))=(t.V.take i).filter (fun x=>decide (x ∈ K))++[t.V[i]].filter (fun x=>decide (x ∈ K)):=by
    rw[List.take_succ_eq_append_getElem hlt,List.filter_append]
   have hfl:((t.V.take i).filter (fun x=>decide (x ∈ K))).length≤200:=Nat.le_trans (List.length_filter_le _ _) (by rw[List.length_take];omega)
   generalize t.V[i]=x at g2 htk
   by_cases hxK:x ∈ K
   ·rw[List.filter_cons_of_pos (by simpa using hxK),List.filter_nil] at htk
    have gx1:=ksD_get hxK
    have gx2:(K.map fun _=>httD)[K.idxOf x]?=some httD:=get_key hxK _
    have hrl:(cellsR ((t.V.take i).filter fun x=>decide (x ∈ K))).length=((t.V.take i).filter fun x=>decide (x ∈ K)).length:=List.length_map _
    have b1:((cellsR ((t.V.take i).filter fun x=>decide (x ∈ K))).length+1) * 16≤140737488355328:=by omega
    have b2:(cellsR ((t.V.take i).filter fun x=>decide (x ∈ K))).length+1≤maxLen:=by unfold maxLen;omega
    have hcs:cellsR ((t.V.take (i+1)).filter fun x=>decide (x ∈ K))=cellsR ((t.V.take i).filter fun x=>decide (x ∈ K))++[[iD x.1,iD x.2]]:=by
     rw[htk]
     exact List.map_append
    ((repeat' ((conv=>whnf);first|exact .intro|refine .ya ?_|refine .na ?_|refine .ys ?_|refine .ns ?_|refine .neg (fun _=>?_) (fun _=>?_)|refine .mk (fun _=>?_) (fun _=>?_)|(first|refine ⟨_,g2,?_⟩|refine ⟨Int.natCast_nonneg _,_,g2,?_⟩|refine ⟨3,⟨key_cell,rfl,keys_T _⟩,by kernel_rfl,.inl ⟨_,_,⟨gx1,gx2⟩,?_⟩⟩|refine ⟨⟨rfl,b1,b2⟩,?_⟩)|refine .mk ?_ ?_|refine AK ?_|refine AT ?_|fail));all_goals conv=>whnf)
    all_goals refine ⟨i+1,⟨hlt,by show t.V.length - (i+1)<t.V.length - i;omega⟩,?_⟩
    all_goals ((repeat' first|exact rfl|((conv=>whnf);first|done|exact suL|refine And.intro ?_ ?_|fail));all_goals conv=>whnf)
    all_goals first|exact cqN e0|exact hcs.symm|skip
   ·rw[List.filter_cons_of_neg (by simpa using hxK),List.filter_nil,List.append_nil] at htk
    have kx:kC x ∉ ksD K:=fun h=>hxK (kC_mem.1 h)
    ((repeat' ((conv=>whnf);first|exact .intro|refine .ya ?_|refine .na ?_|refine .ys ?_|refine .ns ?_|refine .neg (fun _=>?_) (fun _=>?_)|refine .mk (fun _=>?_) (fun _=>?_)|(first|refine ⟨_,g2,?_⟩|refine ⟨Int.natCast_nonneg _,_,g2,?_⟩|refine ⟨3,⟨key_cell,rfl,keys_T _⟩,by kernel_rfl,.inr ⟨kx,?_⟩⟩)|refine .mk ?_ ?_|refine AK ?_|refine AT ?_|fail));all_goals conv=>whnf)
    all_goals refine ⟨i+1,⟨hlt,by show t.V.length - (i+1)<t.V.length - i;omega⟩,?_⟩
    all_goals ((repeat' first|exact rfl|((conv=>whnf);first|done|exact suL|refine And.intro ?_ ?_|fail));all_goals conv=>whnf)
    all_goals first|exact cqN e0|(rw[htk];done)|skip
  ·obtain rfl:i=t.V.length:=by omega
   have h3:¬ ((t.V.length:Nat):Int)<(((cellsR t.V).length:Nat):Int):=by omega
   rw[← List.take_length (l:=t.V)]
   ((repeat' ((conv=>whnf);first|exact .intro|refine .ya ?_|refine .na ?_|refine .ys ?_|refine .ns ?_|refine .neg (fun _=>?_) (fun _=>?_)|refine .mk (fun _=>?_) (fun _=>?_)|refine .mk ?_ ?_|refine AK ?_|refine AT ?_|fail));all_goals conv=>whnf)
   all_goals first|exact LeD.rfl|(rw[List.take_length];exact LeD.rfl)|skip
end
end Go.Proofs.YtaheflnnigocgaaGreatDoor
end
section
namespace Go.Proofs.YtaheflnnigocgaaGreatDoor
open Go Go.RowKit Go.EYtaheflnnigocgaaGreatDoor
set_option maxRecDepth 100000
set_option maxHeartbeats 4000000
variable {gl:List (Nat×List D)}
def encL:List Cl→List Value
 | []=>[]
 | c::l=>.int .i64 c.1::.int .i64 c.2::encL l
theorem encL_len:∀ l:List Cl,(encL l).length=l.length * 2
 | []=>rfl
 | c::l=>by
  have:=encL_len l
  simp only[encL,List.length_cons]
  omega
theorem encL_den {M:Nat→Prop} {w:World}:∀ l:List Cl,DenL M w (cellsR l).flatten (encL l)
 | []=>trivial
 | _::l=>⟨.v _,.v _,encL_den l⟩
theorem encL_val {M:Nat→Prop} {w:World}:∀ {l:List Cl} {xs:List Value},DenL M w (cellsR l).flatten xs→xs=encL l
 | [],[],_=>rfl
 | [],_::_,h=>h.elim
 | c::l,[],h=>h.elim
 | c::l,[_],h=>h.2.elim
 | c::l,x::y::xs,h=>by
  obtain ⟨h1,h2,h3⟩:=h
  rw[encL,← encL_val h3,DenD.v_inv h1,DenD.v_inv h2]
theorem encL_drop:∀ (l:List Cl) (a:Nat),(encL l).drop (a * 2)=encL (l.drop a)
 | l,0=>by simp
 | [],a+1=>by simp[encL]
 | c::l,a+1=>by
  rw[show (a+1) * 2=a * 2+1+1 by omega,encL,List.drop_succ_cons,List.drop_succ_cons,List.drop_succ_cons]
  exact encL_drop l a
theorem encL_take:∀ (l:List Cl) (a:Nat),(encL l).take (a * 2)=encL (l.take a)
 | l,0=>by simp[encL]
 | [],a+1=>by simp[encL]
 | c::l,a+1=>by
  rw[show (a+1) * 2=a * 2+1+1 by omega,encL,List.take_succ_cons,List.take_succ_cons,List.take_succ_cons,encL,encL_take l a]
theorem encL_one:∀ (l:List Cl),∀ u ∈ encL l,u.oneCell'=true
 | [],u,h=>by cases h
 | c::l,u,h=>by
  rcases List.mem_cons.1 h with rfl|h
  ·rfl
  rcases List.mem_cons.1 h with rfl|h
  ·rfl
  exact encL_one l u h
theorem cclone_calls (ad:Addr) (n c:Nat) (news:List Value) (w:World) (hn:n≤65536) (hl:news.length=n * 2) (hc:∀ j u,news[j]?=some u→w.cell? (ad.add j)=some u) (h1:∀ u ∈ news,u.oneCell'=true) :
 Calls Tryz.prog 47 #[.slice (some ad) n c] w fun e w'=>∃ v',e=.returned v'∧w'.ownsRow w.heap.size 24 2 v' n news∧v'≠.slice none 0 0∧Below w.heap.size w w':=by
 obtain ⟨i0,hi,hz0,hz1,hz2⟩:=info_parts (show (Tryz.prog.info? 24).map (fun i=>(i.zero,i.size,i.bytes))=some (some (.agg #[.int .i64 0,.int .i64 0]),2,16) by kernel_rfl)
 have q22:∀ (w:World) (a:Option Addr) (n c n' c':Nat),(binOp .eql 39 (.slice a n c) (.slice none n' c')).run Tryz.prog w=.ok (.bool a.isNone) w:=fun w a n c n' c'=>Lib.run_eql_slice_nil w _ _ a n c n' c' Tryz.underlying39
 have A:Aside (∀ j u,news[j]?=some u→w.cell? (ad.add j)=some u):=hc
 clear hc
 go_enter Tryz.func47,Tryz.ntmps47
 go_wp2_with (at_builtin;refine wpList_append_own _ rfl _ _ 39 rfl w.heap.size 24 i0 (.agg #[.int .i64 0,.int .i64 0]) 2 16 Tryz.underlying39 hi hz0 hz1 hz2 rfl (by decide) _ _ _ rfl (World.ownsRow_made w #[] 0 (Nat.le_refl _) (Nat.zero_le _) rfl) ad n c news rfl ?qc1 ?qc2 ?qc3 ?qc4 ?qc5 ?qc6 ?_)
 case qc1=>exact hl
 case qc2=>exact fun j u hj=>Lib.cell?_alloc_some _ (A.out j u hj)
 case qc3=>exact h1
 case qc4=>unfold maxLen;omega
 case qc5=>omega
 case qc6=>simp
 intro v' w1 hown hgrow hnil
 go_wp2
 go_ret
 refine ⟨v',rfl,by simpa using hown,?_,?_⟩
 ·exact hnil
 ·exact ((Below.refl _ w).alloc (Nat.le_refl _) _).grown hgrow (by simp) (by intro k hk;simp[Value.ownBlock] at hk;omega)
theorem Clone_o (l:List Cl) (a m:Nat) (ham:a+m≤l.length) (h0:0<m) (hn:m≤65536):Go.EYtaheflnnigocgaaGreatDoor.Fn Tryz.prog gl 47 [.c (.own 2 0 a m)] [(0,.rows 2 (cellsR l) 24)] 1 (.ret (.c (.all 2 1))) [(0,.rows 2 (cellsR l) 24),(1,.rows 2 (((cellsR l).drop a).take m) 24)] 2 []:=by
 have hres:((cellsR l).drop a).take m=cellsR ((l.drop a).take m):=by
  show ((l.map rowC).drop a).take m=((l.drop a).take m).map rowC
  rw[List.map_take,List.map_drop]
 rw[hres]
 have hrl:((l.drop a).take m).length=m:=by rw[List.length_take,List.length_drop];omega
 refine ⟨by omega,fun k B h hk=>?_,fun k hk=>(by cases hk),fun w M0 adr xs hW hG hd=>?_⟩
 ·match k,hk with
  | 0,_=>rfl
 obtain ⟨x,rfl,hx⟩:=All2.one_iff.1 hd
 have hloc:=hW.loc 0 _ rfl
 rcases hx with ⟨_,_,h⟩|⟨_,h,_⟩|⟨b,q,cp,cur,ee,f,h5,h6,h7,h8,h9,rfl⟩
 ·omega
 ·omega
 rw[h5] at hloc
 obtain ⟨g1,g2,g3,cur',cp',g4,g5,g6,g7,g8⟩:=hloc
 rw[h6] at g4
 cases g4
 have hlr:(cellsR l).length=l.length:=List.length_map _
 have hv:=encL_val g8
 rw[hlr] at hv g2
 have hnl:(encL ((l.drop a).take m)).length=m * 2:=by rw[encL_len,hrl]
 have hcell:∀ j u,(encL ((l.drop a).take m))[j]?=some u→w.cell? ((⟨b,a * 2,none⟩:Addr).add j)=some u:=fun j u hj=>by
  rw[← encL_take,← encL_drop,← hv,List.getElem?_take] at hj
  split at hj
  ·rw[List.getElem?_drop,List.getElem?_take] at hj
   split at hj
   ·rw[Array.getElem?_toList] at hj
    by_cases hj0:j=0
    ·subst hj0
     simp only[World.cell?,Addr.add,h6,if_true]
     simpa using hj
    ·simp[World.cell?,Addr.add,h6,hj,hj0]
   ·cases hj
  ·cases hj
 refine .inl ⟨by unfold HasBody;kernel_rfl,(cclone_calls ⟨b,a * 2,none⟩ m (cp - a) (encL ((l.drop a).take m)) w hn hnl hcell (encL_one _)).mono ?_⟩
 rintro e w' ⟨v',rfl,hown,-,hb⟩
 have hE:Evo (Trk adr [(0,.rows 2 (cellsR l) 24)]) w w':=Evo.of_below hb _
 obtain ⟨-,⟨rfl,hz⟩|⟨g,cap,cur2,rfl,hg,hh,hc1,hc2,hc3,hc4⟩⟩:=hown
 ·omega
 have hbw:b<w.heap.size:=(Array.getElem?_eq_some_iff.1 h6).1
 refine ⟨fun k=>if k=1 then some (some g,m) else adr k,hE,⟨?_,?_,?_,?_,?_,?_⟩,fun k hk _=>if_neg (by omega),?_,_,rfl,.inr ⟨g,m,cap,cur2,_,_,rfl,hh,hc3,hc1,hc2,rfl⟩⟩
 ·intro k B h
  match k,h with
  | 0,_=>decide
  | 1,_=>decide
 ·intro k hk
  show (if k=1 then _ else adr k)=none
  rw[if_neg (by omega)]
  exact hW.fresh k (by omega)
 ·intro k B h
  match k,h with
  | 0,h =>
   cases h
   have hlo:=hW.loc 0 _ rfl
   show LocB _ _ w' (if (0:Nat)=1 then some (some g,m) else adr 0) _
   rw[if_neg (by decide)]
   refine hlo.evo (S:=fun _=>False) (Evo.of_below hb _) (fun _ _ h=>h.elim) (fun b1 hlt hm=>?_) (fun j e hj he=>?_) (fun l t hB=>by cases hB)
   ·rcases hm with hm|⟨k,B,m1,hk,he⟩
    ·exact .inl hm
    ·match k,hk with
     | 0,hk=>exact .inr ⟨0,_,m1,rfl,he⟩
     | 1,_ =>
      cases he
      omega
   ·exact (Evo.of_below hb (fun _=>False)).block j he fun h=>h
  | 1,h =>
   cases h
   refine ⟨by decide,by rw[List.length_map,hrl],fun r hr=>?_,cur2,cap,hh,hc3,by rw[List.length_map,hrl];exact hc1,hc2,?_⟩
   ·obtain ⟨c,_,rfl⟩:=List.mem_map.1 hr
    rfl
   ·rw[List.length_map,hrl,hc4]
    exact encL_den _
 ·intro k k' B B' b1 m1 m' h h' e1 e2
  match k,k',h,h' with
  | 0,0,_,_=>rfl
  | 1,1,_,_=>rfl
  | 0,1,_,_ =>
   exfalso
   simp only[if_true] at e2
   rw[if_neg (by decide)] at e1
   rw[h5] at e1
   cases e1
   cases e2
   omega
  | 1,0,_,_ =>
   exfalso
   simp only[if_true] at e1
   rw[if_neg (by decide)] at e2
   rw[h5] at e2
   cases e1
   cases e2
   omega
 ·intro k B b1 m1 h he hM
  match k,h with
  | 0,h=>exact hW.prot 0 B b1 m1 h he hM
  | 1,_ =>
   cases he
   have:=hW.bound _ hM
   omega
 ·intro b1 hM
  exact Nat.lt_of_lt_of_le (hW.bound b1 hM) hb.size
 ·intro k B b1 m1 h he
  match k,h with
  | 0,h=>exact .inl ⟨0,_,m1,rfl,he⟩
  | 1,_ =>
   cases he
   exact .inr hg
end Go.Proofs.YtaheflnnigocgaaGreatDoor
end
