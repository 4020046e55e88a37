/- Proved: a part of what the law is proved with (the reckoner, contracts of functions, plain laws). Conditions: as each says. -/
import Derived.Test.YtcdjjjokniinkaaGreatDoorProg
import Derived.Laws.StructEq
import Derived.WalkKit
import Derived.Test.YtcdjjjokniinkaaGreatDoorXAd
import Derived.Test.YtcdjjjokniinkaaGreatDoorXEv
import Derived.Test.YtcdjjjokniinkaaGreatDoorXGe
import Derived.Test.YtcdjjjokniinkaaGreatDoorXJr
import Derived.Test.YtcdjjjokniinkaaGreatDoorXSd
import Derived.Test.YtcdjjjokniinkaaGreatDoorXZs
section
namespace Go.Proofs.YtcdjjjokniinkaaGreatDoor
open Go Go.RowKit Go.EYtcdjjjokniinkaaGreatDoor
set_option maxRecDepth 100000
set_option maxHeartbeats 4000000
variable {gl:List (Nat×List D)}
theorem mcheck_m (ls:List (List Fl)) (hl:ls.length≤1000) (m:Nat) (r:D) (hm:m≤ls.length) (h0:∀ k (h:k<ls.length),k<m→FnP Tryz.prog gl 30 [.lst 3 (ls[k].map flD)] (.v .nilIface))
 (hr:(m=ls.length∧r=.v .nilIface)∨∃ h:m<ls.length,∃ e,e≠0∧FnP Tryz.prog gl 30 [.lst 3 (ls[m].map flD)] (erD e)∧r=erD e):FnP Tryz.prog gl 14 [.lst 1 (ls.map shR)] r:=by
 have hlen:(ls.map shR).length=ls.length:=List.length_map _
 refine fnP_of_vc (nv:=9999) (cu:=[]) fits mixed Tryz.func14 rfl hoB rfl ?_
 ((repeat' ((conv=>whnf);first|exact .intro|refine .ya ?_|refine .na ?_|refine .ys ?_|refine .ns ?_|refine .neg (fun _=>?_) (fun _=>?_)|refine .mk (fun _=>?_) (fun _=>?_)|refine .mk ?_ ?_|refine AK ?_|refine AT ?_|fail));all_goals conv=>whnf)
 refine ⟨{ σ:=Nat,fr:=fun k=>[(8,.c (.d (iD (k:Int))))],ks:=[],L:=fun _=>[],ex:=0,I:=fun k=>k≤m,μ:=fun k=>ls.length - k },⟨0,Nat.zero_le _,?_⟩,fun (k:Nat) hk=>?_⟩
 ·((repeat' first|exact rfl|((conv=>whnf);first|done|exact suL|refine And.intro ?_ ?_|fail));all_goals conv=>whnf)
 ·replace hk:k≤m:=hk
  have e0:IntKind.i64.wrap ((k:Int)+1)=((k+1:Nat):Int):=by rw[wrapI (by omega)];rfl
  by_cases hlt:k<ls.length
  ·have h2:(k:Int)<(((ls.map shR).length:Nat):Int):=by omega
   have g1:=get_map (f:=shR) hlt
   by_cases hkm:k<m
   ·have c1:=h0 k hlt hkm
    ((repeat' ((conv=>whnf);first|exact .intro|refine .ya ?_|refine .na ?_|refine .ys ?_|refine .ns ?_|refine .neg (fun _=>?_) (fun _=>?_)|refine .mk (fun _=>?_) (fun _=>?_)|refine .inl (.inl (X1 (c1) ?_))|refine .inl (X1 (c1) ?_)|refine X1 (c1) ?_|(refine ⟨Int.natCast_nonneg _,_,g1,?_⟩)|refine .mk ?_ ?_|refine AK ?_|refine AT ?_|fail));all_goals conv=>whnf)
    refine ⟨k+1,⟨hkm,by show ls.length - (k+1)<ls.length - k;omega⟩,?_⟩
    ((repeat' first|exact rfl|((conv=>whnf);first|done|exact suL|refine And.intro ?_ ?_|fail));all_goals conv=>whnf)
    exact ceq e0
   ·obtain rfl:k=m:=by omega
    rcases hr with ⟨h,_⟩|⟨_,e,he,c1,rfl⟩
    ·omega
    ·((repeat' ((conv=>whnf);first|exact .intro|refine .ya ?_|refine .na ?_|refine .ys ?_|refine .ns ?_|refine .neg (fun _=>?_) (fun _=>?_)|refine .mk (fun _=>?_) (fun _=>?_)|refine .inl (.inl (X1 (c1) ?_))|refine .inl (X1 (c1) ?_)|refine X1 (c1) ?_|(refine ⟨Int.natCast_nonneg _,_,g1,?_⟩)|refine .mk ?_ ?_|refine AK ?_|refine AT ?_|fail));all_goals conv=>whnf)
     all_goals exact LeD.rfl
  ·have h2:¬ (k:Int)<(((ls.map shR).length:Nat):Int):=by omega
   rcases hr with ⟨_,rfl⟩|⟨h,_⟩
   ·((repeat' ((conv=>whnf);first|exact .intro|refine .ya ?_|refine .na ?_|refine .ys ?_|refine .ns ?_|refine .neg (fun _=>?_) (fun _=>?_)|refine .mk (fun _=>?_) (fun _=>?_)|refine .mk ?_ ?_|refine AK ?_|refine AT ?_|fail));all_goals conv=>whnf)
    all_goals exact LeD.rfl
   ·omega
def cellsL (l:List Fl):List (Int×Int):=l.map fun f=>(f.c,f.r)
def allC (ls:List (List Fl)):List (Int×Int):=ls.flatMap cellsL
theorem allC_snoc {ls:List (List Fl)} {i:Nat} (h:i<ls.length):allC (ls.take (i+1))=allC (ls.take i)++cellsL ls[i]:=by
 unfold allC
 rw[List.take_succ_eq_append_getElem h,List.flatMap_append,List.flatMap_cons,List.flatMap_nil,List.append_nil]
theorem cellsL_snoc {l:List Fl} {j:Nat} (h:j<l.length):cellsL (l.take (j+1))=cellsL (l.take j)++[(l[j].c,l[j].r)]:=by
 unfold cellsL
 rw[List.take_succ_eq_append_getElem h,List.map_append]
 rfl
theorem cellsL_len (l:List Fl):(cellsL l).length=l.length:=List.length_map _
theorem allC_le {ls:List (List Fl)} (i:Nat):(allC (ls.take i)).length≤(allC ls).length:=by
 have h:allC ls=allC (ls.take i)++allC (ls.drop i):=by unfold allC;rw[← List.flatMap_append,List.take_append_drop]
 rw[h,List.length_append]
 omega
def cellsZ (ls:List (List Fl)):List (Int×Int):=dedC (sortC (allC ls))
theorem mcells_d (ls:List (List Fl)) (hl:ls.length≤1000) (hb:(allC ls).length≤65536)
 (cS:∀ m:List (Int×Int),m.length≤65536→Go.EYtcdjjjokniinkaaGreatDoor.Fn Tryz.prog gl 39 [.c (.all 2 0),.c (.fn 32 [])] [(0,.rows 2 (m.map rowC) 28)] 1 (.ret (.tup [])) [(0,.rows 2 ((sortC m).map rowC) 28)] 1 []) :
 FnP Tryz.prog gl 21 [.lst 1 (ls.map shR)] (.lst 2 ((cellsZ ls).map rowC)):=by
 have hlen:(ls.map shR).length=ls.length:=List.length_map _
 refine fnP_of_vc (nv:=9999) (cu:=[]) fits mixed Tryz.func21 rfl hoB rfl ?_
 ((repeat' ((conv=>whnf);first|exact .intro|refine .ya ?_|refine .na ?_|refine .ys ?_|refine .ns ?_|refine .neg (fun _=>?_) (fun _=>?_)|refine .mk (fun _=>?_) (fun _=>?_)|refine .mk ?_ ?_|refine AK ?_|refine AT ?_|fail));all_goals conv=>whnf)
 refine ⟨{ σ:=Nat,fr:=fun i=>[(10,.c (.d (iD (i:Int)))),(3,.c (.all 2 0))],ks:=[],L:=fun i=>[(0,.rows 2 ((allC (ls.take i)).map rowC) 28)],ex:=1,I:=fun i=>i≤ls.length,μ:=fun i=>ls.length - i },⟨0,Nat.zero_le _,?_⟩,fun (i:Nat) hi=>?_⟩
 ·((repeat' first|exact rfl|((conv=>whnf);first|done|exact suL|refine And.intro ?_ ?_|fail));all_goals conv=>whnf)
  all_goals first|exact .inr (.inr (.inl ⟨rfl,2,0,rfl,by decide⟩))|exact ⟨2,_,rfl,by decide,Nat.le_refl _⟩|skip
 ·replace hi:i≤ls.length:=hi
  have e0:IntKind.i64.wrap ((i:Int)+1)=((i+1:Nat):Int):=by rw[wrapI (by omega)];rfl
  have hai:=allC_le (ls:=ls) i
  by_cases hlt:i<ls.length
  ·have h2:(i:Int)<(((ls.map shR).length:Nat):Int):=by omega
   have g1:=get_map (f:=shR) hlt
   have hsn:=allC_snoc hlt
   have hai1:=allC_le (ls:=ls) (i+1)
   rw[hsn,List.length_append,cellsL_len] at hai1
   generalize ls[i]=l at g1 hsn hai1
   ((repeat' ((conv=>whnf);first|exact .intro|refine .ya ?_|refine .na ?_|refine .ys ?_|refine .ns ?_|refine .neg (fun _=>?_) (fun _=>?_)|refine .mk (fun _=>?_) (fun _=>?_)|(refine ⟨Int.natCast_nonneg _,_,g1,?_⟩)|refine .mk ?_ ?_|refine AK ?_|refine AT ?_|fail));all_goals conv=>whnf)
   refine ⟨{ σ:=Nat,fr:=fun j=>[(16,.c (.d (iD (j:Int)))),(3,.c (.all 2 0))],ks:=[0],L:=fun j=>[(0,.rows 2 ((allC (ls.take i)++cellsL (l.take j)).map rowC) 28)],ex:=0,I:=fun j=>j≤l.length,μ:=fun j=>l.length - j },⟨0,Nat.zero_le _,?_⟩,fun (j:Nat) hj=>?_⟩
   ·((repeat' first|exact rfl|((conv=>whnf);first|done|exact suL|refine And.intro ?_ ?_|fail));all_goals conv=>whnf)
    all_goals first|(simp[cellsL];done)|skip
   ·replace hj:j≤l.length:=hj
    have hml:(l.map flD).length=l.length:=List.length_map _
    have e1:IntKind.i64.wrap ((j:Int)+1)=((j+1:Nat):Int):=by rw[wrapI (by omega)];rfl
    by_cases hjl:j<l.length
    ·have h3:(j:Int)<(((l.map flD).length:Nat):Int):=by omega
     have g2:=get_map (f:=flD) hjl
     have hsj:=cellsL_snoc hjl
     generalize l[j]=f at g2 hsj
     obtain ⟨fc,fr,ft⟩:=f
     have hrl:((allC (ls.take i)++cellsL (l.take j)).map rowC).length=(allC (ls.take i)).length+j:=by rw[List.length_map,List.length_append,cellsL_len,List.length_take];omega
     have b1:(((allC (ls.take i)++cellsL (l.take j)).map rowC).length+1) * 16≤140737488355328:=by omega
     have b2:((allC (ls.take i)++cellsL (l.take j)).map rowC).length+1≤maxLen:=by unfold maxLen;omega
     ((repeat' ((conv=>whnf);first|exact .intro|refine .ya ?_|refine .na ?_|refine .ys ?_|refine .ns ?_|refine .neg (fun _=>?_) (fun _=>?_)|refine .mk (fun _=>?_) (fun _=>?_)|(first|refine ⟨Int.natCast_nonneg _,_,g2,?_⟩|refine ⟨⟨rfl,b1,b2⟩,?_⟩)|refine .mk ?_ ?_|refine AK ?_|refine AT ?_|fail));all_goals conv=>whnf)
     all_goals refine ⟨j+1,⟨hjl,by show l.length - (j+1)<l.length - j;omega⟩,?_⟩
     all_goals ((repeat' first|exact rfl|((conv=>whnf);first|done|exact suL|refine And.intro ?_ ?_|fail));all_goals conv=>whnf)
     all_goals first|exact ceq e1|(rw[hsj];simp;done)|skip
    ·have h3:¬ (j:Int)<(((l.map flD).length:Nat):Int):=by omega
     obtain rfl:j=l.length:=by omega
     ((repeat' ((conv=>whnf);first|exact .intro|refine .ya ?_|refine .na ?_|refine .ys ?_|refine .ns ?_|refine .neg (fun _=>?_) (fun _=>?_)|refine .mk (fun _=>?_) (fun _=>?_)|refine .mk ?_ ?_|refine AK ?_|refine AT ?_|fail));all_goals conv=>whnf)
     all_goals refine ⟨i+1,⟨hlt,by show ls.length - (i+1)<ls.length - i;omega⟩,?_⟩
     all_goals ((repeat' first|exact rfl|((conv=>whnf);first|done|exact suL|refine And.intro ?_ ?_|fail));all_goals conv=>whnf)
     all_goals first|exact ceq e0|(rw[hsn,List.take_length];done)|skip
  ·have h2:¬ (i:Int)<(((ls.map shR).length:Nat):Int):=by omega
   obtain rfl:i=ls.length:=by omega
   have eZ:cellsZ ls=dedC (sortC (allC (ls.take ls.length))):=by rw[List.take_length];rfl
   have hb':(allC (ls.take ls.length)).length≤65536:=by rw[List.take_length];exact hb
   rw[eZ]
   have c1:=cS (allC (ls.take ls.length)) hb'
   have hsl:(sortC (allC (ls.take ls.length))).length≤65536:=by rw[sortC_len];exact hb'
   rcases @first_of (fun j=>∀ (h0:0<j) (h:j<(sortC (allC (ls.take ls.length))).length),(sortC (allC (ls.take ls.length)))[j - 1]≠(sortC (allC (ls.take ls.length)))[j]) (fun _=>Classical.propDecidable _) (sortC (allC (ls.take ls.length))).length with h0|⟨j0,hj,h0,hx⟩
   ·have c2:=Compact_n (gl:=gl) (sortC (allC (ls.take ls.length))) (by omega) fun j a b=>h0 j b a b
    have hd:=dedC_upto (m:=sortC (allC (ls.take ls.length))) (Nat.le_refl _) fun j a b _=>h0 j b a b
    rw[List.take_length (l:=sortC (allC (ls.take ls.length)))] at hd
    rw[hd]
    ((repeat' ((conv=>whnf);first|exact .intro|refine .ya ?_|refine .na ?_|refine .ys ?_|refine .ns ?_|refine .neg (fun _=>?_) (fun _=>?_)|refine .mk (fun _=>?_) (fun _=>?_)|refine .inr (X5 (c1.r [0] _) ?_)|refine .inl (.inr (X5 (c1.r [0] _) ?_))|refine .inl (X5 (c1.r [0] _) ?_)|refine .inr (X5 (c2.r [0] _) ?_)|refine .inl (.inr (X5 (c2.r [0] _) ?_))|refine .inl (X5 (c2.r [0] _) ?_)|refine .mk ?_ ?_|refine AK ?_|refine AT ?_|fail));all_goals conv=>whnf)
    all_goals exact LeD.rfl
   ·have hne:∃ (a:0<j0) (b:j0<(sortC (allC (ls.take ls.length))).length),(sortC (allC (ls.take ls.length)))[j0 - 1]'(Nat.lt_of_le_of_lt (Nat.sub_le _ _) b)=(sortC (allC (ls.take ls.length)))[j0]:=by
     refine Classical.byContradiction fun hh=>hx fun a b e=>hh ⟨a,b,e⟩
    obtain ⟨a,b,e⟩:=hne
    have c2:=Compact_s (gl:=gl) (sortC (allC (ls.take ls.length))) (by omega) j0 a b (fun j a' b' h=>h0 j h a' b') e
    ((repeat' ((conv=>whnf);first|exact .intro|refine .ya ?_|refine .na ?_|refine .ys ?_|refine .ns ?_|refine .neg (fun _=>?_) (fun _=>?_)|refine .mk (fun _=>?_) (fun _=>?_)|refine .inr (X5 (c1.r [0] _) ?_)|refine .inl (.inr (X5 (c1.r [0] _) ?_))|refine .inl (X5 (c1.r [0] _) ?_)|refine .inr (X5 (c2.r [0] _) ?_)|refine .inl (.inr (X5 (c2.r [0] _) ?_))|refine .inl (X5 (c2.r [0] _) ?_)|refine .mk ?_ ?_|refine AK ?_|refine AT ?_|fail));all_goals conv=>whnf)
    all_goals refine LeD.of (congrArg (D.lst 2) ?_)
    all_goals rw[List.drop_zero,List.map_append,List.take_left' (List.length_map _)]
end Go.Proofs.YtcdjjjokniinkaaGreatDoor
end
section
namespace Go.Proofs.YtcdjjjokniinkaaGreatDoor
open Go Go.EYtcdjjjokniinkaaGreatDoor
set_option maxRecDepth 100000
set_option maxHeartbeats 4000000
variable {gl:List (Nat×List D)}
abbrev eqF (f g:Fl):Prop:=f.c=g.c∧f.r=g.r∧f.t=g.t
def eqL:List Fl→List Fl→Bool
 | [],[]=>true
 | f::l,g::m=>decide (eqF f g) && eqL l m
 | _,_=>false
theorem eqF_iff {f g:Fl}:eqF f g↔f=g:=by
 obtain ⟨a,b,c⟩:=f
 obtain ⟨a',b',c'⟩:=g
 simp[eqF]
theorem eqL_iff:∀ {l m:List Fl},eqL l m=true↔l=m
 | [],[]=>by simp[eqL]
 | [],_::_=>by simp[eqL]
 | _::_,[]=>by simp[eqL]
 | f::l,g::m=>by simp[eqL,eqL_iff (l:=l),← eqF_iff]
theorem eqL_len:∀ {l m:List Fl},l.length≠m.length→eqL l m=false
 | [],[],h=>absurd rfl h
 | [],_::_,_=>rfl
 | _::_,[],_=>rfl
 | f::l,g::m,h=>by
  have:=eqL_len (l:=l) (m:=m) (by simpa using h)
  simp[eqL,this]
theorem eqL_at {l m:List Fl} {k:Nat} (h:k<l.length) (h':k<m.length):eqL (l.drop k) (m.drop k)=(decide (eqF l[k] m[k]) && eqL (l.drop (k+1)) (m.drop (k+1))):=by
 rw[List.drop_eq_getElem_cons h,List.drop_eq_getElem_cons h']
 rfl
theorem Sheets_d (l m:List Fl) (hl:l.length≤1099511627776):FnP Tryz.prog gl 8 [.lst 3 (l.map flD),.lst 3 (m.map flD)] (tD (eqL l m)):=by
 have e1:(l.map flD).length=l.length:=List.length_map _
 have e2:(m.map flD).length=m.length:=List.length_map _
 by_cases hlen:l.length=m.length
 ·have h1:(((l.map flD).length:Nat):Int)=((m.map flD).length:Nat):=by omega
  refine fnP_of_vc (nv:=9999) (cu:=[]) fits mixed Tryz.func8 rfl hoB rfl ?_
  ((repeat' ((conv=>whnf);first|exact .intro|refine .ya ?_|refine .na ?_|refine .ys ?_|refine .ns ?_|refine .neg (fun _=>?_) (fun _=>?_)|refine .mk (fun _=>?_) (fun _=>?_)|refine .mk ?_ ?_|refine AK ?_|refine AT ?_|fail));all_goals conv=>whnf)
  refine ⟨{ σ:=Nat,fr:=fun k=>[(5,.c (.d (iD (k:Int))))],ks:=[],L:=fun _=>[],ex:=0,I:=fun k=>k≤l.length∧eqL l m=eqL (l.drop k) (m.drop k),μ:=fun k=>l.length - k },⟨0,⟨Nat.zero_le _,rfl⟩,?_⟩,fun (k:Nat) hk=>?_⟩
  ·((repeat' first|exact rfl|((conv=>whnf);first|done|exact suL|refine And.intro ?_ ?_|fail));all_goals conv=>whnf)
  ·obtain ⟨hk,he⟩:=hk
   replace hk:k≤l.length:=hk
   by_cases hlt:k<l.length
   ·have h2:(k:Int)<((l.map flD).length:Nat):=by omega
    have hlt':k<m.length:=by omega
    have e0:IntKind.i64.wrap ((k:Int)+1)=((k+1:Nat):Int):=by rw[wrapI (by omega)];rfl
    have g1:=get_map (f:=flD) hlt
    have g2:=get_map (f:=flD) hlt'
    rw[eqL_at hlt hlt'] at he
    generalize l[k]=f at *
    generalize m[k]=g at *
    obtain ⟨fc,fr,ft⟩:=f
    obtain ⟨gc,gr,gt⟩:=g
    by_cases hq:fc=gc∧fr=gr∧ft=gt
    ·have hq':eqF ⟨fc,fr,ft⟩ ⟨gc,gr,gt⟩:=hq
     rw[decide_eq_true hq',Bool.true_and] at he
     obtain ⟨rfl,rfl,rfl⟩:=hq
     ((repeat' ((conv=>whnf);first|exact .intro|refine .ya ?_|refine .na ?_|refine .ys ?_|refine .ns ?_|refine .neg (fun _=>?_) (fun _=>?_)|refine .mk (fun _=>?_) (fun _=>?_)|(first|refine ⟨Int.natCast_nonneg _,_,g1,?_⟩|refine ⟨Int.natCast_nonneg _,_,g2,?_⟩)|refine .mk ?_ ?_|refine AK ?_|refine AT ?_|fail));all_goals conv=>whnf)
     all_goals refine ⟨k+1,⟨⟨hlt,he⟩,by show l.length - (k+1)<l.length - k;omega⟩,?_⟩
     all_goals ((repeat' first|exact rfl|((conv=>whnf);first|done|exact suL|refine And.intro ?_ ?_|fail));all_goals conv=>whnf)
     all_goals exact ceq e0
    ·have hq':¬ eqF ⟨fc,fr,ft⟩ ⟨gc,gr,gt⟩:=hq
     rw[decide_eq_false hq',Bool.false_and] at he
     ((repeat' ((conv=>whnf);first|exact .intro|refine .ya ?_|refine .na ?_|refine .ys ?_|refine .ns ?_|refine .neg (fun _=>?_) (fun _=>?_)|refine .mk (fun _=>?_) (fun _=>?_)|(first|refine ⟨Int.natCast_nonneg _,_,g1,?_⟩|refine ⟨Int.natCast_nonneg _,_,g2,?_⟩)|refine .mk ?_ ?_|refine AK ?_|refine AT ?_|fail));all_goals conv=>whnf)
     all_goals first
      | exact LeD.bf (by rw[he];simp)
      | (exfalso;rename_i hx;exact hq ⟨hx.1.1,hx.1.2.1,hx.2.1⟩)
   ·have h2:¬ (k:Int)<((l.map flD).length:Nat):=by omega
    obtain rfl:k=l.length:=by omega
    rw[List.drop_of_length_le (Nat.le_refl _),List.drop_of_length_le (by omega)] at he
    ((repeat' ((conv=>whnf);first|exact .intro|refine .ya ?_|refine .na ?_|refine .ys ?_|refine .ns ?_|refine .neg (fun _=>?_) (fun _=>?_)|refine .mk (fun _=>?_) (fun _=>?_)|refine .mk ?_ ?_|refine AK ?_|refine AT ?_|fail));all_goals conv=>whnf)
    all_goals exact LeD.bt he
 ·have h1:¬ (((l.map flD).length:Nat):Int)=((m.map flD).length:Nat):=by omega
  have he:=eqL_len hlen
  refine fnP_of_vc (nv:=9999) (cu:=[]) fits mixed Tryz.func8 rfl hoB rfl ?_
  ((repeat' ((conv=>whnf);first|exact .intro|refine .ya ?_|refine .na ?_|refine .ys ?_|refine .ns ?_|refine .neg (fun _=>?_) (fun _=>?_)|refine .mk (fun _=>?_) (fun _=>?_)|refine .mk ?_ ?_|refine AK ?_|refine AT ?_|fail));all_goals conv=>whnf)
  all_goals exact LeD.bf (by rw[he];simp)
end Go.Proofs.YtcdjjjokniinkaaGreatDoor
end
section
namespace Go.Proofs.YtcdjjjokniinkaaGreatDoor
open Go Go.EYtcdjjjokniinkaaGreatDoor
set_option maxRecDepth 100000
set_option maxHeartbeats 4000000
variable {gl:List (Nat×List D)}
theorem at_d (c r:Int):FnP Tryz.prog gl 6 [iD c,iD r] (cellD c r):=by
 refine fnP_of_vc (nv:=9999) (cu:=[]) fits mixed Tryz.func6 rfl hoB rfl ?_
 ((repeat' ((conv=>whnf);first|exact .intro|refine .ya ?_|refine .na ?_|refine .ys ?_|refine .ns ?_|refine .neg (fun _=>?_) (fun _=>?_)|refine .mk (fun _=>?_) (fun _=>?_)|refine .mk ?_ ?_|refine AK ?_|refine AT ?_|fail));all_goals conv=>whnf)
 exact LeD.rfl
theorem good_less {rf:List UInt8→Option Rf} {l:List Fl} (h:goodZ rf l):∀ {i j:Nat} (hi:i<j) (hj:j<l.length),lessF (l[i]'(by omega)) l[j]:=by
 intro i j
 induction j with
 | zero=>intro hi;omega
 | succ j ih =>
  intro hi hj
  have h1:=h.2 (j+1) hj
  rw[stepZ_at hj] at h1
  have h2:lessF (l[j]'(by omega)) l[j+1]:=by
   split at h1
   ·split at h1
    ·rename_i h3;exact h3 (by omega)
    ·omega
   ·omega
  rcases Nat.lt_succ_iff_lt_or_eq.1 hi with h3|rfl
  ·have h4:=ih h3 (by omega)
   unfold lessF at *
   omega
  ·exact h2
end Go.Proofs.YtcdjjjokniinkaaGreatDoor
end
section
namespace Go.Proofs.YtcdjjjokniinkaaGreatDoor
open Go Go.EYtcdjjjokniinkaaGreatDoor
set_option maxRecDepth 100000
def wsL (s l:List Fl) (k:Nat):List Fl:=(l.take k).foldl (fun s f=>withL f.c f.r f.t s) s
theorem wsL_succ (s:List Fl) {l:List Fl} {k:Nat} (h:k<l.length):wsL s l (k+1)=withL l[k].c l[k].r l[k].t (wsL s l k):=by
 unfold wsL
 rw[List.take_succ_eq_append_getElem h,List.foldl_append]
 rfl
theorem withL_len (c r:Int) (t:List UInt8) (l:List Fl):(withL c r t l).length≤l.length+1:=by
 unfold withL
 split
 ·split
  ·have:=List.length_eraseIdx_le l (skF c r l)
   omega
  ·rw[List.length_set];omega
 ·split
  ·omega
  ·rw[List.length_insertIdx]
   split <;> omega
theorem wsL_ord {s:List Fl} (h:ordL s) (l:List Fl):∀ k,ordL (wsL s l k)
 | 0=>h
 | k+1=>by
  by_cases hk:k<l.length
  ·rw[wsL_succ s hk]
   exact ordL_with (wsL_ord h l k)
  ·have e:wsL s l (k+1)=wsL s l k:=by
    unfold wsL
    rw[List.take_of_length_le (by omega),List.take_of_length_le (by omega)]
   rw[e]
   exact wsL_ord h l k
theorem wsL_len (s l:List Fl):∀ k,(wsL s l k).length≤s.length+k
 | 0=>Nat.le_refl _
 | k+1=>by
  by_cases hk:k<l.length
  ·rw[wsL_succ s hk]
   have h1:=withL_len l[k].c l[k].r l[k].t (wsL s l k)
   have h2:=wsL_len s l k
   omega
  ·have e:wsL s l (k+1)=wsL s l k:=by
    unfold wsL
    rw[List.take_of_length_le (by omega),List.take_of_length_le (by omega)]
   rw[e]
   have:=wsL_len s l k
   omega
theorem good_in {rf:List UInt8→Option Rf} {l:List Fl} (h:goodZ rf l):∀ f ∈ l,okP f.c f.r:=by
 intro f hf
 obtain ⟨k,hk,rfl⟩:=List.getElem_of_mem hf
 have h1:=h.2 k hk
 rw[stepZ_at hk] at h1
 refine Classical.byContradiction fun hn=>?_
 rw[if_neg hn] at h1
 omega
theorem good_ord {rf:List UInt8→Option Rf} {l:List Fl} (h:goodZ rf l):ordL l:=ordL_of fun _ _ hi hj=>good_less h hi hj
end Go.Proofs.YtcdjjjokniinkaaGreatDoor
end
section
namespace Go.Proofs.YtcdjjjokniinkaaGreatDoor
open Go Go.RowKit Go.EYtcdjjjokniinkaaGreatDoor
set_option maxRecDepth 100000
theorem check_cell (w:World) (em:Bool) (a b:Int):(Instr.checkKey em 10000 28 (.agg #[.int .i64 a,.int .i64 b])).run Tryz.prog w=.ok () w:=by kernel_rfl
theorem eq_cell (w:World) (a b c d:Int):∃ r:Bool,(Op.equal 28 (.agg #[.int .i64 a,.int .i64 b]) (.agg #[.int .i64 c,.int .i64 d])).run Tryz.prog w=.ok r w∧(r=true↔(Value.agg #[.int .i64 c,.int .i64 d])=.agg #[.int .i64 a,.int .i64 b]):=by
 refine ⟨a==c && b==d,?_,?_⟩
 ·have u3:=Tryz.underlying3
  have a3:=Tryz.isAgg3
  have z3:=Tryz.sizeOf3
  have hS:Tryz.prog.underlying 28=some (.struct (Tryz.prog.fieldsOf 28)):=by kernel_rfl
  have hp:Tryz.prog.stoodInHeld 28=false:=by kernel_rfl
  show (Op.equalIn (9999+1) 28 _ _).run Tryz.prog w=_
  rw[run_equalIn_agg w 9999 28 _ _ hS hp]
  simp only[Program.fieldsOf,Tryz.underlying28]
  go_simp
  by_cases h1:a=c <;> by_cases h2:b=d <;> simp[h1,h2]
 ·simp
  constructor
  ·rintro ⟨rfl,rfl⟩;exact ⟨rfl,rfl⟩
  ·rintro ⟨rfl,rfl⟩;exact ⟨rfl,rfl⟩
theorem key_cell:KeyT Tryz.prog 28 3:=by
 refine keyT_of (fun w em d x hs hx=>?_) (fun w d e x y hs he hx hy=>?_) Tryz.underlying28 (fun x y=>?_)
 ·rcases keyS_cases hs with ⟨h,_⟩|⟨h,_⟩|⟨_,a,b,rfl⟩
  ·cases h
  ·cases h
  ·cases hx
   exact check_cell w em a b
 ·rcases keyS_cases hs with ⟨h,_⟩|⟨h,_⟩|⟨_,a,b,rfl⟩
  ·cases h
  ·cases h
  ·rcases keyS_cases he with ⟨h,_⟩|⟨h,_⟩|⟨_,c,d,rfl⟩
   ·cases h
   ·cases h
   ·cases hx
    cases hy
    exact eq_cell w a b c d
 ·cases x <;> cases y <;> rfl
end Go.Proofs.YtcdjjjokniinkaaGreatDoor
end
section
namespace Go.Proofs.YtcdjjjokniinkaaGreatDoor
open Go Go.RowKit Go.EYtcdjjjokniinkaaGreatDoor
set_option maxRecDepth 100000
set_option maxHeartbeats 4000000
variable {gl:List (Nat×List D)}
abbrev cF (f:Fl):D:=cellD f.c f.r
abbrev txF (f:Fl):D:=.str f.t
abbrev mpD (l:List Fl):D:=.mp (l.map cF) (l.map txF)
theorem keys_S (l:List Fl):∀ d ∈ l.map cF,keyS 3 d=true:=fun d hd=>by
 obtain ⟨f,_,rfl⟩:=List.mem_map.1 hd
 rfl
theorem cellD_inj {a b c d:Int} (h:cellD a b=cellD c d):a=c∧b=d:=by
 simp[cellD] at h
 exact h
theorem key_new {l:List Fl} (ho:ordL l) {k:Nat} (hk:k<l.length) {f:Fl} (hf:l[k]=f):cF f ∉ (l.take k).map cF:=fun hm=>by
 obtain ⟨g,hg,he⟩:=List.mem_map.1 hm
 obtain ⟨j,hj,rfl⟩:=List.getElem_of_mem hg
 rw[List.getElem_take] at he
 have hjk:j<k:=by rw[List.length_take] at hj;omega
 have h1:=ordL_at ho hjk hk
 rw[hf] at h1
 have h2:=cellD_inj he
 unfold lessF at h1
 omega
theorem texts_d (l:List Fl) (ho:ordL l) (hl:l.length≤65536):FnP Tryz.prog gl 20 [.lst 3 (l.map flD)] (mpD l):=by
 have hlen:(l.map flD).length=l.length:=List.length_map _
 refine fnP_of_vc (nv:=9999) (cu:=[]) fits mixed Tryz.func20 rfl hoB rfl ?_
 ((repeat' ((conv=>whnf);first|exact .intro|refine .ya ?_|refine .na ?_|refine .ys ?_|refine .ns ?_|refine .neg (fun _=>?_) (fun _=>?_)|refine .mk (fun _=>?_) (fun _=>?_)|refine .mk ?_ ?_|refine AK ?_|refine AT ?_|fail));all_goals conv=>whnf)
 refine ⟨{ σ:=Nat,fr:=fun k=>[(9,.c (.d (iD (k:Int))))],ks:=[0],L:=fun k=>[(0,.mp ((l.take k).map cF) ((l.take k).map txF))],ex:=0,I:=fun k=>k≤l.length,μ:=fun k=>l.length - k },⟨0,Nat.zero_le _,?_⟩,fun (k:Nat) hk=>?_⟩
 ·((repeat' first|exact rfl|((conv=>whnf);first|done|exact suL|refine And.intro ?_ ?_|fail));all_goals conv=>whnf)
 ·replace hk:k≤l.length:=hk
  have e0:IntKind.i64.wrap ((k:Int)+1)=((k+1:Nat):Int):=by rw[wrapI (by omega)];rfl
  by_cases hlt:k<l.length
  ·have h2:(k:Int)<((l.map flD).length:Nat):=by omega
   have g1:=get_map (f:=flD) hlt
   have hnew:=key_new ho hlt rfl
   have hsn:=List.take_succ_eq_append_getElem hlt
   generalize l[k]=f at g1 hnew hsn
   obtain ⟨fc,fr,ft⟩:=f
   ((repeat' ((conv=>whnf);first|exact .intro|refine .ya ?_|refine .na ?_|refine .ys ?_|refine .ns ?_|refine .neg (fun _=>?_) (fun _=>?_)|refine .mk (fun _=>?_) (fun _=>?_)|(first|refine ⟨Int.natCast_nonneg _,_,g1,?_⟩|refine ⟨3,⟨key_cell,rfl,keys_S _⟩,.inl ⟨hnew,?_⟩⟩)|refine .mk ?_ ?_|refine AK ?_|refine AT ?_|fail));all_goals conv=>whnf)
   all_goals refine ⟨k+1,⟨hlt,by show l.length - (k+1)<l.length - k;omega⟩,?_⟩
   all_goals ((repeat' first|exact rfl|((conv=>whnf);first|done|exact suL|refine And.intro ?_ ?_|fail));all_goals conv=>whnf)
   all_goals first|exact ceq e0|(rw[hsn,List.map_append];rfl)|skip
  ·have h2:¬ (k:Int)<((l.map flD).length:Nat):=by omega
   obtain rfl:k=l.length:=by omega
   ((repeat' ((conv=>whnf);first|exact .intro|refine .ya ?_|refine .na ?_|refine .ys ?_|refine .ns ?_|refine .neg (fun _=>?_) (fun _=>?_)|refine .mk (fun _=>?_) (fun _=>?_)|refine .mk ?_ ?_|refine AK ?_|refine AT ?_|fail));all_goals conv=>whnf)
   all_goals exact LeD.of (by rw[List.take_length];rfl)
end Go.Proofs.YtcdjjjokniinkaaGreatDoor
end
