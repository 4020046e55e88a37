/- Proved: a part of what the law is proved with (the reckoner, contracts of functions, plain laws). Conditions: as each says. -/
import Derived.Test.YtdpigpahfiachaaGreatDoorZFy
import Derived.Test.YtdpigpahfiachaaGreatDoorZJd
import Derived.Test.YtdpigpahfiachaaGreatDoorZZr
section
namespace Go.Proofs.YtdpigpahfiachaaGreatDoor
open Go Go.EYtdpigpahfiachaaGreatDoor
set_option maxRecDepth 100000
set_option maxHeartbeats 4000000
variable {gl:List (Nat×List D)}
abbrev eqF (f g:Fl):Prop:=f.c=g.c∧f.r=g.r∧f.t=g.t
def eqL:List Fl→List Fl→Bool
 | [],[]=>true
 | f::l,g::m=>decide (eqF f g) && eqL l m
 | _,_=>false
theorem eqF_iff {f g:Fl}:eqF f g↔f=g:=by
 obtain ⟨a,b,c⟩:=f
 obtain ⟨a',b',c'⟩:=g
 simp[eqF]
theorem eqL_iff:∀ {l m:List Fl},eqL l m=true↔l=m
 | [],[]=>by simp[eqL]
 | [],_::_=>by simp[eqL]
 | _::_,[]=>by simp[eqL]
 | f::l,g::m=>by simp[eqL,eqL_iff (l:=l),← eqF_iff]
theorem eqL_len:∀ {l m:List Fl},l.length≠m.length→eqL l m=false
 | [],[],h=>absurd rfl h
 | [],_::_,_=>rfl
 | _::_,[],_=>rfl
 | f::l,g::m,h=>by
  have:=eqL_len (l:=l) (m:=m) (by simpa using h)
  simp[eqL,this]
theorem eqL_at {l m:List Fl} {k:Nat} (h:k<l.length) (h':k<m.length):eqL (l.drop k) (m.drop k)=(decide (eqF l[k] m[k]) && eqL (l.drop (k+1)) (m.drop (k+1))):=by
 rw[List.drop_eq_getElem_cons h,List.drop_eq_getElem_cons h']
 rfl
theorem Equal_d (l m:List Fl) (hl:l.length≤1099511627776):FnP Tryz.prog gl 107 [.lst 3 (l.map flD),.lst 3 (m.map flD)] (tD (eqL l m)):=by
 have e1:(l.map flD).length=l.length:=List.length_map _
 have e2:(m.map flD).length=m.length:=List.length_map _
 by_cases hlen:l.length=m.length
 ·have h1:(((l.map flD).length:Nat):Int)=((m.map flD).length:Nat):=by omega
  refine fnP_of_vc (nv:=9999) (cu:=[]) fits mixed Tryz.func107 rfl hoB rfl ?_
  ((repeat' ((conv=>whnf);first|exact .intro|refine .ya ?_|refine .na ?_|refine .ys ?_|refine .ns ?_|refine .neg (fun _=>?_) (fun _=>?_)|refine .mk (fun _=>?_) (fun _=>?_)|refine .mk ?_ ?_|refine AK ?_|refine AT ?_|fail));all_goals conv=>whnf)
  refine ⟨{ σ:=Nat,fr:=fun k=>[(13,.c (.d (iD (k:Int))))],ks:=[],L:=fun _=>[],ex:=0,I:=fun k=>k≤l.length∧eqL l m=eqL (l.drop k) (m.drop k),μ:=fun k=>l.length - k },⟨0,⟨Nat.zero_le _,rfl⟩,?_⟩,fun (k:Nat) hk=>?_⟩
  ·((repeat' first|exact rfl|((conv=>whnf);first|done|exact suL|refine And.intro ?_ ?_|fail));all_goals conv=>whnf)
  ·obtain ⟨hk,he⟩:=hk
   replace hk:k≤l.length:=hk
   by_cases hlt:k<l.length
   ·have h2:(k:Int)<((l.map flD).length:Nat):=by omega
    have hlt':k<m.length:=by omega
    have e0:IntKind.i64.wrap ((k:Int)+1)=((k+1:Nat):Int):=by rw[wrapI (by omega)];rfl
    have g1:=get_map (f:=flD) hlt
    have g2:=get_map (f:=flD) hlt'
    rw[eqL_at hlt hlt'] at he
    generalize l[k]=f at *
    generalize m[k]=g at *
    obtain ⟨fc,fr,ft⟩:=f
    obtain ⟨gc,gr,gt⟩:=g
    by_cases hq:fc=gc∧fr=gr∧ft=gt
    ·have hq':eqF ⟨fc,fr,ft⟩ ⟨gc,gr,gt⟩:=hq
     rw[decide_eq_true hq',Bool.true_and] at he
     obtain ⟨rfl,rfl,rfl⟩:=hq
     ((repeat' ((conv=>whnf);first|exact .intro|refine .ya ?_|refine .na ?_|refine .ys ?_|refine .ns ?_|refine .neg (fun _=>?_) (fun _=>?_)|refine .mk (fun _=>?_) (fun _=>?_)|(first|refine ⟨Int.natCast_nonneg _,_,g1,?_⟩|refine ⟨Int.natCast_nonneg _,_,g2,?_⟩)|refine .mk ?_ ?_|refine AK ?_|refine AT ?_|fail));all_goals conv=>whnf)
     all_goals refine ⟨k+1,⟨⟨hlt,he⟩,by show l.length - (k+1)<l.length - k;omega⟩,?_⟩
     all_goals ((repeat' first|exact rfl|((conv=>whnf);first|done|exact suL|refine And.intro ?_ ?_|fail));all_goals conv=>whnf)
     all_goals exact ceq e0
    ·have hq':¬ eqF ⟨fc,fr,ft⟩ ⟨gc,gr,gt⟩:=hq
     rw[decide_eq_false hq',Bool.false_and] at he
     ((repeat' ((conv=>whnf);first|exact .intro|refine .ya ?_|refine .na ?_|refine .ys ?_|refine .ns ?_|refine .neg (fun _=>?_) (fun _=>?_)|refine .mk (fun _=>?_) (fun _=>?_)|(first|refine ⟨Int.natCast_nonneg _,_,g1,?_⟩|refine ⟨Int.natCast_nonneg _,_,g2,?_⟩)|refine .mk ?_ ?_|refine AK ?_|refine AT ?_|fail));all_goals conv=>whnf)
     all_goals first
      | exact LeD.bf (by rw[he];simp)
      | (exfalso;rename_i hx;exact hq ⟨hx.1.1,hx.1.2.1,hx.2.1⟩)
   ·have h2:¬ (k:Int)<((l.map flD).length:Nat):=by omega
    obtain rfl:k=l.length:=by omega
    rw[List.drop_of_length_le (Nat.le_refl _),List.drop_of_length_le (by omega)] at he
    ((repeat' ((conv=>whnf);first|exact .intro|refine .ya ?_|refine .na ?_|refine .ys ?_|refine .ns ?_|refine .neg (fun _=>?_) (fun _=>?_)|refine .mk (fun _=>?_) (fun _=>?_)|refine .mk ?_ ?_|refine AK ?_|refine AT ?_|fail));all_goals conv=>whnf)
    all_goals exact LeD.bt he
 ·have h1:¬ (((l.map flD).length:Nat):Int)=((m.map flD).length:Nat):=by omega
  have he:=eqL_len hlen
  refine fnP_of_vc (nv:=9999) (cu:=[]) fits mixed Tryz.func107 rfl hoB rfl ?_
  ((repeat' ((conv=>whnf);first|exact .intro|refine .ya ?_|refine .na ?_|refine .ys ?_|refine .ns ?_|refine .neg (fun _=>?_) (fun _=>?_)|refine .mk (fun _=>?_) (fun _=>?_)|refine .mk ?_ ?_|refine AK ?_|refine AT ?_|fail));all_goals conv=>whnf)
  all_goals exact LeD.bf (by rw[he];simp)
theorem Sheets_d (l m:List Fl) (hl:l.length≤1099511627776):FnP Tryz.prog gl 28 [.lst 3 (l.map flD),.lst 3 (m.map flD)] (tD (eqL l m)):=by
 have e1:(l.map flD).length=l.length:=List.length_map _
 have e2:(m.map flD).length=m.length:=List.length_map _
 by_cases hlen:l.length=m.length
 ·have h1:(((l.map flD).length:Nat):Int)=((m.map flD).length:Nat):=by omega
  refine fnP_of_vc (nv:=9999) (cu:=[]) fits mixed Tryz.func28 rfl hoB rfl ?_
  ((repeat' ((conv=>whnf);first|exact .intro|refine .ya ?_|refine .na ?_|refine .ys ?_|refine .ns ?_|refine .neg (fun _=>?_) (fun _=>?_)|refine .mk (fun _=>?_) (fun _=>?_)|refine .mk ?_ ?_|refine AK ?_|refine AT ?_|fail));all_goals conv=>whnf)
  refine ⟨{ σ:=Nat,fr:=fun k=>[(5,.c (.d (iD (k:Int))))],ks:=[],L:=fun _=>[],ex:=0,I:=fun k=>k≤l.length∧eqL l m=eqL (l.drop k) (m.drop k),μ:=fun k=>l.length - k },⟨0,⟨Nat.zero_le _,rfl⟩,?_⟩,fun (k:Nat) hk=>?_⟩
  ·((repeat' first|exact rfl|((conv=>whnf);first|done|exact suL|refine And.intro ?_ ?_|fail));all_goals conv=>whnf)
  ·obtain ⟨hk,he⟩:=hk
   replace hk:k≤l.length:=hk
   by_cases hlt:k<l.length
   ·have h2:(k:Int)<((l.map flD).length:Nat):=by omega
    have hlt':k<m.length:=by omega
    have e0:IntKind.i64.wrap ((k:Int)+1)=((k+1:Nat):Int):=by rw[wrapI (by omega)];rfl
    have g1:=get_map (f:=flD) hlt
    have g2:=get_map (f:=flD) hlt'
    rw[eqL_at hlt hlt'] at he
    generalize l[k]=f at *
    generalize m[k]=g at *
    obtain ⟨fc,fr,ft⟩:=f
    obtain ⟨gc,gr,gt⟩:=g
    by_cases hq:fc=gc∧fr=gr∧ft=gt
    ·have hq':eqF ⟨fc,fr,ft⟩ ⟨gc,gr,gt⟩:=hq
     rw[decide_eq_true hq',Bool.true_and] at he
     obtain ⟨rfl,rfl,rfl⟩:=hq
     ((repeat' ((conv=>whnf);first|exact .intro|refine .ya ?_|refine .na ?_|refine .ys ?_|refine .ns ?_|refine .neg (fun _=>?_) (fun _=>?_)|refine .mk (fun _=>?_) (fun _=>?_)|(first|refine ⟨Int.natCast_nonneg _,_,g1,?_⟩|refine ⟨Int.natCast_nonneg _,_,g2,?_⟩)|refine .mk ?_ ?_|refine AK ?_|refine AT ?_|fail));all_goals conv=>whnf)
     all_goals refine ⟨k+1,⟨⟨hlt,he⟩,by show l.length - (k+1)<l.length - k;omega⟩,?_⟩
     all_goals ((repeat' first|exact rfl|((conv=>whnf);first|done|exact suL|refine And.intro ?_ ?_|fail));all_goals conv=>whnf)
     all_goals exact ceq e0
    ·have hq':¬ eqF ⟨fc,fr,ft⟩ ⟨gc,gr,gt⟩:=hq
     rw[decide_eq_false hq',Bool.false_and] at he
     ((repeat' ((conv=>whnf);first|exact .intro|refine .ya ?_|refine .na ?_|refine .ys ?_|refine .ns ?_|refine .neg (fun _=>?_) (fun _=>?_)|refine .mk (fun _=>?_) (fun _=>?_)|(first|refine ⟨Int.natCast_nonneg _,_,g1,?_⟩|refine ⟨Int.natCast_nonneg _,_,g2,?_⟩)|refine .mk ?_ ?_|refine AK ?_|refine AT ?_|fail));all_goals conv=>whnf)
     all_goals first
      | exact LeD.bf (by rw[he];simp)
      | (exfalso;rename_i hx;exact hq ⟨hx.1.1,hx.1.2.1,hx.2.1⟩)
   ·have h2:¬ (k:Int)<((l.map flD).length:Nat):=by omega
    obtain rfl:k=l.length:=by omega
    rw[List.drop_of_length_le (Nat.le_refl _),List.drop_of_length_le (by omega)] at he
    ((repeat' ((conv=>whnf);first|exact .intro|refine .ya ?_|refine .na ?_|refine .ys ?_|refine .ns ?_|refine .neg (fun _=>?_) (fun _=>?_)|refine .mk (fun _=>?_) (fun _=>?_)|refine .mk ?_ ?_|refine AK ?_|refine AT ?_|fail));all_goals conv=>whnf)
    all_goals exact LeD.bt he
 ·have h1:¬ (((l.map flD).length:Nat):Int)=((m.map flD).length:Nat):=by omega
  have he:=eqL_len hlen
  refine fnP_of_vc (nv:=9999) (cu:=[]) fits mixed Tryz.func28 rfl hoB rfl ?_
  ((repeat' ((conv=>whnf);first|exact .intro|refine .ya ?_|refine .na ?_|refine .ys ?_|refine .ns ?_|refine .neg (fun _=>?_) (fun _=>?_)|refine .mk (fun _=>?_) (fun _=>?_)|refine .mk ?_ ?_|refine AK ?_|refine AT ?_|fail));all_goals conv=>whnf)
  all_goals exact LeD.bf (by rw[he];simp)
end Go.Proofs.YtdpigpahfiachaaGreatDoor
end
section
namespace Go.Proofs.YtdpigpahfiachaaGreatDoor
open Go Go.RowKit Go.EYtdpigpahfiachaaGreatDoor
set_option maxRecDepth 100000
set_option maxHeartbeats 4000000
variable {gl:List (Nat×List D)}
abbrev shR (l:List Fl):List D:=[.lst 3 (l.map flD)]
abbrev pkB (at_:Nat) (ss:List (List Fl)):List (Nat×Blk):=[(0,.var [.all 1 1,.d (iD (at_:Int))] 108),(1,.rows 1 (ss.map shR) 38)]
theorem Undo_n (ss:List (List Fl)) (_hl:ss.length≤1099511627776):Go.EYtdpigpahfiachaaGreatDoor.Fn Tryz.prog gl 29 [.c (.ptr 0 0)] (pkB 0 ss) 2 (.ret (.c (.d (.v (.bool false))))) (pkB 0 ss) 2 []:=by
 have hlen:(ss.map shR).length=ss.length:=List.length_map _
 refine fn_of_vc (nv:=9999) (cu:=[]) fits mixed Tryz.func29 rfl hoB rfl rfl rfl rfl ?_
 ((repeat' ((conv=>whnf);first|exact .intro|refine .ya ?_|refine .na ?_|refine .ys ?_|refine .ns ?_|refine .neg (fun _=>?_) (fun _=>?_)|refine .mk (fun _=>?_) (fun _=>?_)|refine .mk ?_ ?_|refine AK ?_|refine AT ?_|fail));all_goals conv=>whnf)
 all_goals ((repeat' first|exact rfl|((conv=>whnf);first|done|exact suL|refine And.intro ?_ ?_|fail));all_goals conv=>whnf)
theorem Undo_s (ss:List (List Fl)) (k:Nat) (hl:ss.length≤1099511627776) (hk:k+1<ss.length):Go.EYtdpigpahfiachaaGreatDoor.Fn Tryz.prog gl 29 [.c (.ptr 0 0)] (pkB (k+1) ss) 2 (.ret (.c (.d (.v (.bool true))))) (pkB k ss) 2 []:=by
 have hlen:(ss.map shR).length=ss.length:=List.length_map _
 refine fn_of_vc (nv:=9999) (cu:=[]) fits mixed Tryz.func29 rfl hoB rfl rfl rfl rfl ?_
 ((repeat' ((conv=>whnf);first|exact .intro|refine .ya ?_|refine .na ?_|refine .ys ?_|refine .ns ?_|refine .neg (fun _=>?_) (fun _=>?_)|refine .mk (fun _=>?_) (fun _=>?_)|refine .mk ?_ ?_|refine AK ?_|refine AT ?_|fail));all_goals conv=>whnf)
 have ew:IntKind.i64.wrap (((k+1:Nat):Int) - 1)=(k:Int):=by
  rw[wrapI (by omega)]
  omega
 all_goals rw[ew]
 all_goals ((repeat' first|exact rfl|((conv=>whnf);first|done|exact suL|refine And.intro ?_ ?_|fail));all_goals conv=>whnf)
theorem Depth_x (ss:List (List Fl)) (k:Nat) (hl:ss.length≤1099511627776) (hk:k<ss.length):Go.EYtdpigpahfiachaaGreatDoor.Fn Tryz.prog gl 24 [.c (.ptr 0 0)] (pkB k ss) 2 (.ret (.tup [(false,[.d (iD (k:Int))]),(false,[.d (iD ((ss.length - 1 - k:Nat):Int))])])) (pkB k ss) 2 []:=by
 have hlen:(ss.map shR).length=ss.length:=List.length_map _
 refine fn_of_vc (nv:=9999) (cu:=[]) fits mixed Tryz.func24 rfl hoB rfl rfl rfl rfl ?_
 ((repeat' ((conv=>whnf);first|exact .intro|refine .ya ?_|refine .na ?_|refine .ys ?_|refine .ns ?_|refine .neg (fun _=>?_) (fun _=>?_)|refine .mk (fun _=>?_) (fun _=>?_)|refine .mk ?_ ?_|refine AK ?_|refine AT ?_|fail));all_goals conv=>whnf)
 have ew:IntKind.i64.wrap (IntKind.i64.wrap (((ss.map shR).length:Int) - 1) - (k:Int))=((ss.length - 1 - k:Nat):Int):=by
  rw[hlen,wrapI (n:=(ss.length:Int) - 1) (by omega),wrapI (by omega)]
  omega
 all_goals rw[ew]
 all_goals ((repeat' first|exact rfl|((conv=>whnf);first|done|exact suL|refine And.intro ?_ ?_|fail));all_goals conv=>whnf)
theorem Now_x (ss:List (List Fl)) (k:Nat) (_hl:ss.length≤1099511627776) (hk:k<ss.length) (h3:ss[k].length≤65536):Go.EYtdpigpahfiachaaGreatDoor.Fn Tryz.prog gl 27 [.c (.ptr 0 0)] (pkB k ss) 2 (.ret (.c (.d (.lst 3 (ss[k].map flD))))) (pkB k ss) 2 []:=by
 have hlen:(ss.map shR).length=ss.length:=List.length_map _
 have c0:=FClone_d (gl:=gl) ss[k] h3
 have ew:(ss.map shR)[k]?=some (shR ss[k]):=by simp[hk]
 refine fn_of_vc (nv:=9999) (cu:=[]) fits mixed Tryz.func27 rfl hoB rfl rfl rfl rfl ?_
 ((repeat' ((conv=>whnf);first|exact .intro|refine .ya ?_|refine .na ?_|refine .ys ?_|refine .ns ?_|refine .neg (fun _=>?_) (fun _=>?_)|refine .mk (fun _=>?_) (fun _=>?_)|refine .inl (.inl (X1 (c0) ?_))|refine .inl (X1 (c0) ?_)|refine X1 (c0) ?_|(refine ⟨_,ew,?_⟩)|refine .mk ?_ ?_|refine AK ?_|refine AT ?_|fail));all_goals conv=>whnf)
 all_goals ((repeat' first|exact rfl|((conv=>whnf);first|done|exact suL|refine And.intro ?_ ?_|fail));all_goals conv=>whnf)
theorem Redo_n (ss:List (List Fl)) (k:Nat) (hl:ss.length≤1099511627776) (hk:k+1=ss.length):Go.EYtdpigpahfiachaaGreatDoor.Fn Tryz.prog gl 30 [.c (.ptr 0 0)] (pkB k ss) 2 (.ret (.c (.d (.v (.bool false))))) (pkB k ss) 2 []:=by
 have hlen:(ss.map shR).length=ss.length:=List.length_map _
 have ew:IntKind.i64.wrap ((k:Int)+1)=((ss.map shR).length:Int):=by
  rw[wrapI (by omega),hlen]
  omega
 refine fn_of_vc (nv:=9999) (cu:=[]) fits mixed Tryz.func30 rfl hoB rfl rfl rfl rfl ?_
 ((repeat' ((conv=>whnf);first|exact .intro|refine .ya ?_|refine .na ?_|refine .ys ?_|refine .ns ?_|refine .neg (fun _=>?_) (fun _=>?_)|refine .mk (fun _=>?_) (fun _=>?_)|refine .mk ?_ ?_|refine AK ?_|refine AT ?_|fail));all_goals conv=>whnf)
 all_goals ((repeat' first|exact rfl|((conv=>whnf);first|done|exact suL|refine And.intro ?_ ?_|fail));all_goals conv=>whnf)
theorem Redo_s (ss:List (List Fl)) (k:Nat) (hl:ss.length≤1099511627776) (hk:k+1<ss.length):Go.EYtdpigpahfiachaaGreatDoor.Fn Tryz.prog gl 30 [.c (.ptr 0 0)] (pkB k ss) 2 (.ret (.c (.d (.v (.bool true))))) (pkB (k+1) ss) 2 []:=by
 have hlen:(ss.map shR).length=ss.length:=List.length_map _
 have ew:IntKind.i64.wrap ((k:Int)+1)=((k+1:Nat):Int):=wrapI (by omega)
 have en:¬ ((k+1:Nat):Int)=((ss.map shR).length:Int):=by omega
 refine fn_of_vc (nv:=9999) (cu:=[]) fits mixed Tryz.func30 rfl hoB rfl rfl rfl rfl ?_
 ((repeat' ((conv=>whnf);first|exact .intro|refine .ya ?_|refine .na ?_|refine .ys ?_|refine .ns ?_|refine .neg (fun _=>?_) (fun _=>?_)|refine .mk (fun _=>?_) (fun _=>?_)|refine .mk ?_ ?_|refine AK ?_|refine AT ?_|fail));all_goals conv=>whnf)
 all_goals rw[ew]
 all_goals ((repeat' first|exact rfl|((conv=>whnf);first|done|exact suL|refine And.intro ?_ ?_|fail));all_goals conv=>whnf)
end Go.Proofs.YtdpigpahfiachaaGreatDoor
end
section
namespace Go.Proofs.YtdpigpahfiachaaGreatDoor
open Go Go.RowKit Go.EYtdpigpahfiachaaGreatDoor
set_option maxRecDepth 100000
set_option maxHeartbeats 4000000
variable {gl:List (Nat×List D)}
theorem Push_e (ss:List (List Fl)) (k:Nat) (l:List Fl) (_hl:ss.length≤1099511627776) (hk:k<ss.length) (h3:l.length≤65536) (he:eqL l ss[k]=true):Go.EYtdpigpahfiachaaGreatDoor.Fn Tryz.prog gl 61 [.c (.ptr 0 0),.c (.d (.lst 3 (l.map flD)))] (pkB k ss) 2 (.ret (.tup [])) (pkB k ss) 2 []:=by
 have hlen:(ss.map shR).length=ss.length:=List.length_map _
 have c0:=Equal_d (gl:=gl) l ss[k] (by omega)
 have ew:(ss.map shR)[k]?=some (shR ss[k]):=by simp[hk]
 refine fn_of_vc (nv:=9999) (cu:=[]) fits mixed Tryz.func61 rfl hoB rfl rfl rfl rfl ?_
 ((repeat' ((conv=>whnf);first|exact .intro|refine .ya ?_|refine .na ?_|refine .ys ?_|refine .ns ?_|refine .neg (fun _=>?_) (fun _=>?_)|refine .mk (fun _=>?_) (fun _=>?_)|refine .inl (.inl (X1 (c0) ?_))|refine .inl (X1 (c0) ?_)|refine X1 (c0) ?_|(refine ⟨_,ew,?_⟩)|refine .mk ?_ ?_|refine AK ?_|refine AT ?_|fail));all_goals conv=>whnf)
 all_goals ((repeat' first|exact rfl|((conv=>whnf);first|done|exact suL|refine And.intro ?_ ?_|fail));all_goals conv=>whnf)
end Go.Proofs.YtdpigpahfiachaaGreatDoor
end
section
namespace Go.Proofs.YtdpigpahfiachaaGreatDoor
open Go Go.RowKit Go.EYtdpigpahfiachaaGreatDoor
set_option maxRecDepth 100000
set_option maxHeartbeats 4000000
variable {gl:List (Nat×List D)}
theorem May_n (c r:Int) (t:List UInt8) (h:¬ okP c r):FnP Tryz.prog gl 59 [cellD c r,.str t] (errD 1):=by
 have c0:=Check_n (gl:=gl) h
 refine fnP_of_vc (nv:=9999) (cu:=[]) fits mixed Tryz.func59 rfl hoB rfl ?_
 ((repeat' ((conv=>whnf);first|exact .intro|refine .ya ?_|refine .na ?_|refine .ys ?_|refine .ns ?_|refine .neg (fun _=>?_) (fun _=>?_)|refine .mk (fun _=>?_) (fun _=>?_)|refine .inl (.inl (X1 (c0) ?_))|refine .inl (X1 (c0) ?_)|refine X1 (c0) ?_|refine .mk ?_ ?_|refine AK ?_|refine AT ?_|fail));all_goals conv=>whnf)
 all_goals exact LeD.rfl
theorem May_t (c r:Int) (t:List UInt8) (h:okP c r) (e:Int) (_he:e≠0) (c1:FnP Tryz.prog gl 100 [.str t] (erD e)):FnP Tryz.prog gl 59 [cellD c r,.str t] (erD e):=by
 have c0:=Check_s (gl:=gl) h
 refine fnP_of_vc (nv:=9999) (cu:=[]) fits mixed Tryz.func59 rfl hoB rfl ?_
 ((repeat' ((conv=>whnf);first|exact .intro|refine .ya ?_|refine .na ?_|refine .ys ?_|refine .ns ?_|refine .neg (fun _=>?_) (fun _=>?_)|refine .mk (fun _=>?_) (fun _=>?_)|refine .inl (.inl (X1 (by first|exact c0|exact c1) ?_))|refine .inl (X1 (by first|exact c0|exact c1) ?_)|refine X1 (by first|exact c0|exact c1) ?_|refine .mk ?_ ?_|refine AK ?_|refine AT ?_|fail));all_goals conv=>whnf)
 all_goals exact LeD.rfl
theorem May_s (c r:Int) (t:List UInt8) (h:okP c r) (c1:FnP Tryz.prog gl 100 [.str t] (.v .nilIface)):FnP Tryz.prog gl 59 [cellD c r,.str t] (.v .nilIface):=by
 have c0:=Check_s (gl:=gl) h
 refine fnP_of_vc (nv:=9999) (cu:=[]) fits mixed Tryz.func59 rfl hoB rfl ?_
 ((repeat' ((conv=>whnf);first|exact .intro|refine .ya ?_|refine .na ?_|refine .ys ?_|refine .ns ?_|refine .neg (fun _=>?_) (fun _=>?_)|refine .mk (fun _=>?_) (fun _=>?_)|refine .inl (.inl (X1 (by first|exact c0|exact c1) ?_))|refine .inl (X1 (by first|exact c0|exact c1) ?_)|refine X1 (by first|exact c0|exact c1) ?_|refine .mk ?_ ?_|refine AK ?_|refine AT ?_|fail));all_goals conv=>whnf)
 all_goals exact LeD.rfl
theorem PNew_s (l:List Fl) (hl:l.length≤65536) (c1:FnP Tryz.prog gl 56 [.lst 3 (l.map flD)] (.v .nilIface)):Go.EYtdpigpahfiachaaGreatDoor.Fn Tryz.prog gl 23 [.c (.d (.lst 3 (l.map flD)))] [] 0 (.ret (.tup [(false,[.ptr 1 0]),(false,[.d (.v .nilIface)])])) [(1,.var [.all 1 0,.d (iD (0:Nat))] 108),(0,.rows 1 ([l].map shR) 38)] 2 []:=by
 have c0:=FClone_d (gl:=gl) l hl
 refine fn_of_vc (nv:=9999) (cu:=[]) fits mixed Tryz.func23 rfl hoB rfl rfl rfl rfl ?_
 ((repeat' ((conv=>whnf);first|exact .intro|refine .ya ?_|refine .na ?_|refine .ys ?_|refine .ns ?_|refine .neg (fun _=>?_) (fun _=>?_)|refine .mk (fun _=>?_) (fun _=>?_)|refine .inl (.inl (X1 (by first|exact c0|exact c1) ?_))|refine .inl (X1 (by first|exact c0|exact c1) ?_)|refine X1 (by first|exact c0|exact c1) ?_|refine .mk ?_ ?_|refine AK ?_|refine AT ?_|fail));all_goals conv=>whnf)
 all_goals ((repeat' first|exact rfl|((conv=>whnf);first|done|exact suL|refine And.intro ?_ ?_|fail));all_goals conv=>whnf)
theorem PNew_n (l:List Fl) (e:Int) (_he:e≠0) (c1:FnP Tryz.prog gl 56 [.lst 3 (l.map flD)] (erD e)):Go.EYtdpigpahfiachaaGreatDoor.Fn Tryz.prog gl 23 [.c (.d (.lst 3 (l.map flD)))] [] 0 (.ret (.tup [(false,[.d (.v (.pointer none))]),(false,[.d (erD e)])])) [] 0 []:=by
 refine fn_of_vc (nv:=9999) (cu:=[]) fits mixed Tryz.func23 rfl hoB rfl rfl rfl rfl ?_
 ((repeat' ((conv=>whnf);first|exact .intro|refine .ya ?_|refine .na ?_|refine .ys ?_|refine .ns ?_|refine .neg (fun _=>?_) (fun _=>?_)|refine .mk (fun _=>?_) (fun _=>?_)|refine .inl (.inl (X1 (c1) ?_))|refine .inl (X1 (c1) ?_)|refine X1 (c1) ?_|refine .mk ?_ ?_|refine AK ?_|refine AT ?_|fail));all_goals conv=>whnf)
 all_goals ((repeat' first|exact rfl|((conv=>whnf);first|done|exact suL|refine And.intro ?_ ?_|fail));all_goals conv=>whnf)
end Go.Proofs.YtdpigpahfiachaaGreatDoor
end
