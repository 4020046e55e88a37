/- Proved: a part of what the law is proved with (the reckoner, contracts of functions, plain laws). Conditions: as each says. -/
import Derived.Test.YtdpigpahfiachaaGreatDoorZZu
section
namespace Go.Proofs.YtdpigpahfiachaaGreatDoor
open Go Go.RowKit Go.EYtdpigpahfiachaaGreatDoor
set_option maxRecDepth 100000
set_option maxHeartbeats 4000000
variable {gl:List (Nat×List D)}
abbrev pG (at_:Nat) (ss:List (List Fl)) (l:List Fl):List (Nat×Blk):=[(0,.var [.all 1 1,.d (iD (at_:Int))] 108),(1,.rows 1 (ss.map shR) 38),(2,.rows 3 (l.map flD) 44)]
theorem GroupH_e (ss:List (List Fl)) (at_:Nat) (l:List Fl) (hl:l.length≤4611686018427387904) (_hs:ss.length≤1099511627776) (hk:at_<ss.length) (ws:Nat→List Fl) (h0:ws 0=ss[at_]) (m:Nat) (hm:m<l.length)
 (hM:∀ k (h:k<l.length),k<m→FnP Tryz.prog gl 59 [cellD l[k].c l[k].r,.str l[k].t] (.v .nilIface))
 (hW:∀ k (h:k<l.length),k<m→FnP Tryz.prog gl 60 [.lst 3 ((ws k).map flD),cellD l[k].c l[k].r,.str l[k].t] (.lst 3 ((ws (k+1)).map flD)))
 (e:Int) (_he:e≠0) (hE:FnP Tryz.prog gl 59 [cellD l[m].c l[m].r,.str l[m].t] (erD e)):Go.EYtdpigpahfiachaaGreatDoor.Fn Tryz.prog gl 25 [.c (.ptr 0 0),.c (.all 3 2)] (pG at_ ss l) 3 (.ret (.c (.d (erD e)))) (pG at_ ss l) 3 []:=by
 have hlen:(ss.map shR).length=ss.length:=List.length_map _
 have hll:(l.map flD).length=l.length:=List.length_map _
 have ew:(ss.map shR)[at_]?=some (shR ss[at_]):=by simp[hk]
 refine fn_of_vc (nv:=9999) (cu:=[]) fits mixed Tryz.func25 rfl hoB rfl rfl rfl rfl ?_
 ((repeat' ((conv=>whnf);first|exact .intro|refine .ya ?_|refine .na ?_|refine .ys ?_|refine .ns ?_|refine .neg (fun _=>?_) (fun _=>?_)|refine .mk (fun _=>?_) (fun _=>?_)|(refine ⟨_,ew,?_⟩)|refine .mk ?_ ?_|refine AK ?_|refine AT ?_|fail));all_goals conv=>whnf)
 refine ⟨{ σ:=Nat,fr:=fun k=>[(21,.c (.d (iD (k:Int)))),(5,.c (.d (.lst 3 ((ws k).map flD))))],ks:=[],L:=fun k=>[],ex:=0,I:=fun k=>k≤m,μ:=fun k=>l.length - k },⟨0,Nat.zero_le _,?_⟩,fun (k:Nat) hk=>?_⟩
 ·rw[← h0]
  ((repeat' first|exact rfl|((conv=>whnf);first|done|exact suL|refine And.intro ?_ ?_|fail));all_goals conv=>whnf)
 ·replace hk:k≤m:=hk
  have e0:IntKind.i64.wrap ((k:Int)+1)=((k+1:Nat):Int):=by rw[wrapI (by omega)];rfl
  have hlt:k<l.length:=by omega
  have h2:(k:Int)<((l.map flD).length:Nat):=by rw[List.length_map];omega
  have g1:=get_map (f:=flD) hlt
  by_cases hkm:k<m
  ·have c1:=hM k hlt hkm
   have c2:=hW k hlt hkm
   ((repeat' ((conv=>whnf);first|exact .intro|refine .ya ?_|refine .na ?_|refine .ys ?_|refine .ns ?_|refine .neg (fun _=>?_) (fun _=>?_)|refine .mk (fun _=>?_) (fun _=>?_)|refine .inl (.inl (X1 (by first|exact c1|exact c2) ?_))|refine .inl (X1 (by first|exact c1|exact c2) ?_)|refine X1 (by first|exact c1|exact c2) ?_|(first|refine ⟨Int.natCast_nonneg _,_,g1,?_⟩|refine ⟨_,g1,?_⟩|refine ⟨_,ew,?_⟩)|refine .mk ?_ ?_|refine AK ?_|refine AT ?_|fail));all_goals conv=>whnf)
   refine ⟨k+1,⟨?_,?_⟩,?_⟩
   ·show k+1≤_
    omega
   ·show l.length - (k+1)<l.length - k
    omega
   ·rw[e0]
    ((repeat' first|exact rfl|((conv=>whnf);first|done|exact suL|refine And.intro ?_ ?_|fail));all_goals conv=>whnf)
  ·obtain rfl:k=m:=by omega
   ((repeat' ((conv=>whnf);first|exact .intro|refine .ya ?_|refine .na ?_|refine .ys ?_|refine .ns ?_|refine .neg (fun _=>?_) (fun _=>?_)|refine .mk (fun _=>?_) (fun _=>?_)|refine .inl (.inl (X1 (hE) ?_))|refine .inl (X1 (hE) ?_)|refine X1 (hE) ?_|(first|refine ⟨Int.natCast_nonneg _,_,g1,?_⟩|refine ⟨_,g1,?_⟩|refine ⟨_,ew,?_⟩)|refine .mk ?_ ?_|refine AK ?_|refine AT ?_|fail));all_goals conv=>whnf)
   ((repeat' first|exact rfl|((conv=>whnf);first|done|exact suL|refine And.intro ?_ ?_|fail));all_goals conv=>whnf)
theorem GroupH_f (ss:List (List Fl)) (at_:Nat) (l:List Fl) (hl:l.length≤4611686018427387904) (_hs:ss.length≤1099511627776) (hk:at_<ss.length) (ws:Nat→List Fl) (h0:ws 0=ss[at_]) (m:Nat) (hm:m=l.length)
 (hM:∀ k (h:k<l.length),k<m→FnP Tryz.prog gl 59 [cellD l[k].c l[k].r,.str l[k].t] (.v .nilIface))
 (hW:∀ k (h:k<l.length),k<m→FnP Tryz.prog gl 60 [.lst 3 ((ws k).map flD),cellD l[k].c l[k].r,.str l[k].t] (.lst 3 ((ws (k+1)).map flD)))
 (hF:200<(ws m).length):Go.EYtdpigpahfiachaaGreatDoor.Fn Tryz.prog gl 25 [.c (.ptr 0 0),.c (.all 3 2)] (pG at_ ss l) 3 (.ret (.c (.d (erD 4)))) (pG at_ ss l) 3 []:=by
 have hlen:(ss.map shR).length=ss.length:=List.length_map _
 have hll:(l.map flD).length=l.length:=List.length_map _
 have ew:(ss.map shR)[at_]?=some (shR ss[at_]):=by simp[hk]
 refine fn_of_vc (nv:=9999) (cu:=[]) fits mixed Tryz.func25 rfl hoB rfl rfl rfl rfl ?_
 ((repeat' ((conv=>whnf);first|exact .intro|refine .ya ?_|refine .na ?_|refine .ys ?_|refine .ns ?_|refine .neg (fun _=>?_) (fun _=>?_)|refine .mk (fun _=>?_) (fun _=>?_)|(refine ⟨_,ew,?_⟩)|refine .mk ?_ ?_|refine AK ?_|refine AT ?_|fail));all_goals conv=>whnf)
 refine ⟨{ σ:=Nat,fr:=fun k=>[(21,.c (.d (iD (k:Int)))),(5,.c (.d (.lst 3 ((ws k).map flD))))],ks:=[],L:=fun k=>[],ex:=0,I:=fun k=>k≤m,μ:=fun k=>l.length - k },⟨0,Nat.zero_le _,?_⟩,fun (k:Nat) hk=>?_⟩
 ·rw[← h0]
  ((repeat' first|exact rfl|((conv=>whnf);first|done|exact suL|refine And.intro ?_ ?_|fail));all_goals conv=>whnf)
 ·replace hk:k≤m:=hk
  have e0:IntKind.i64.wrap ((k:Int)+1)=((k+1:Nat):Int):=by rw[wrapI (by omega)];rfl
  by_cases hkm:k<m
  ·have hlt:k<l.length:=by omega
   have h2:(k:Int)<((l.map flD).length:Nat):=by rw[List.length_map];omega
   have g1:=get_map (f:=flD) hlt
   have c1:=hM k hlt hkm
   have c2:=hW k hlt hkm
   ((repeat' ((conv=>whnf);first|exact .intro|refine .ya ?_|refine .na ?_|refine .ys ?_|refine .ns ?_|refine .neg (fun _=>?_) (fun _=>?_)|refine .mk (fun _=>?_) (fun _=>?_)|refine .inl (.inl (X1 (by first|exact c1|exact c2) ?_))|refine .inl (X1 (by first|exact c1|exact c2) ?_)|refine X1 (by first|exact c1|exact c2) ?_|(first|refine ⟨Int.natCast_nonneg _,_,g1,?_⟩|refine ⟨_,g1,?_⟩|refine ⟨_,ew,?_⟩)|refine .mk ?_ ?_|refine AK ?_|refine AT ?_|fail));all_goals conv=>whnf)
   refine ⟨k+1,⟨?_,?_⟩,?_⟩
   ·show k+1≤_
    omega
   ·show l.length - (k+1)<l.length - k
    omega
   ·rw[e0]
    ((repeat' first|exact rfl|((conv=>whnf);first|done|exact suL|refine And.intro ?_ ?_|fail));all_goals conv=>whnf)
  ·obtain rfl:k=m:=by omega
   have h2:¬ (k:Int)<((l.map flD).length:Nat):=by rw[List.length_map];omega
   have h3:(((ws k).map flD).length:Int)>200:=by rw[List.length_map];omega
   ((repeat' ((conv=>whnf);first|exact .intro|refine .ya ?_|refine .na ?_|refine .ys ?_|refine .ns ?_|refine .neg (fun _=>?_) (fun _=>?_)|refine .mk (fun _=>?_) (fun _=>?_)|refine .mk ?_ ?_|refine AK ?_|refine AT ?_|fail));all_goals conv=>whnf)
   ((repeat' first|exact rfl|((conv=>whnf);first|done|exact suL|refine And.intro ?_ ?_|fail));all_goals conv=>whnf)
theorem GroupH_p (ss:List (List Fl)) (at_:Nat) (l:List Fl) (hl:l.length≤4611686018427387904) (_hs:ss.length≤1099511627776) (hk:at_<ss.length) (ws:Nat→List Fl) (h0:ws 0=ss[at_]) (m:Nat) (hm:m=l.length)
 (hM:∀ k (h:k<l.length),k<m→FnP Tryz.prog gl 59 [cellD l[k].c l[k].r,.str l[k].t] (.v .nilIface))
 (hW:∀ k (h:k<l.length),k<m→FnP Tryz.prog gl 60 [.lst 3 ((ws k).map flD),cellD l[k].c l[k].r,.str l[k].t] (.lst 3 ((ws (k+1)).map flD)))
 (hF:(ws m).length≤200) (at1:Nat) (ss1:List (List Fl)) (hP:Go.EYtdpigpahfiachaaGreatDoor.Fn Tryz.prog gl 61 [.c (.ptr 0 0),.c (.d (.lst 3 ((ws m).map flD)))] (pkB at_ ss) 2 (.ret (.tup [])) (pkB at1 ss1) 2 [1]):Go.EYtdpigpahfiachaaGreatDoor.Fn Tryz.prog gl 25 [.c (.ptr 0 0),.c (.all 3 2)] (pG at_ ss l) 3 (.ret (.c (.d (.v .nilIface)))) (pG at1 ss1 l) 3 [1]:=by
 have hlen:(ss.map shR).length=ss.length:=List.length_map _
 have hll:(l.map flD).length=l.length:=List.length_map _
 have ew:(ss.map shR)[at_]?=some (shR ss[at_]):=by simp[hk]
 refine fn_of_vc (nv:=9999) (cu:=[]) fits mixed Tryz.func25 rfl hoB rfl rfl rfl rfl ?_
 ((repeat' ((conv=>whnf);first|exact .intro|refine .ya ?_|refine .na ?_|refine .ys ?_|refine .ns ?_|refine .neg (fun _=>?_) (fun _=>?_)|refine .mk (fun _=>?_) (fun _=>?_)|(refine ⟨_,ew,?_⟩)|refine .mk ?_ ?_|refine AK ?_|refine AT ?_|fail));all_goals conv=>whnf)
 refine ⟨{ σ:=Nat,fr:=fun k=>[(21,.c (.d (iD (k:Int)))),(5,.c (.d (.lst 3 ((ws k).map flD))))],ks:=[],L:=fun k=>[],ex:=0,I:=fun k=>k≤m,μ:=fun k=>l.length - k },⟨0,Nat.zero_le _,?_⟩,fun (k:Nat) hk=>?_⟩
 ·rw[← h0]
  ((repeat' first|exact rfl|((conv=>whnf);first|done|exact suL|refine And.intro ?_ ?_|fail));all_goals conv=>whnf)
 ·replace hk:k≤m:=hk
  have e0:IntKind.i64.wrap ((k:Int)+1)=((k+1:Nat):Int):=by rw[wrapI (by omega)];rfl
  by_cases hkm:k<m
  ·have hlt:k<l.length:=by omega
   have h2:(k:Int)<((l.map flD).length:Nat):=by rw[List.length_map];omega
   have g1:=get_map (f:=flD) hlt
   have c1:=hM k hlt hkm
   have c2:=hW k hlt hkm
   ((repeat' ((conv=>whnf);first|exact .intro|refine .ya ?_|refine .na ?_|refine .ys ?_|refine .ns ?_|refine .neg (fun _=>?_) (fun _=>?_)|refine .mk (fun _=>?_) (fun _=>?_)|refine .inl (.inl (X1 (by first|exact c1|exact c2) ?_))|refine .inl (X1 (by first|exact c1|exact c2) ?_)|refine X1 (by first|exact c1|exact c2) ?_|(first|refine ⟨Int.natCast_nonneg _,_,g1,?_⟩|refine ⟨_,g1,?_⟩|refine ⟨_,ew,?_⟩)|refine .mk ?_ ?_|refine AK ?_|refine AT ?_|fail));all_goals conv=>whnf)
   refine ⟨k+1,⟨?_,?_⟩,?_⟩
   ·show k+1≤_
    omega
   ·show l.length - (k+1)<l.length - k
    omega
   ·rw[e0]
    ((repeat' first|exact rfl|((conv=>whnf);first|done|exact suL|refine And.intro ?_ ?_|fail));all_goals conv=>whnf)
  ·obtain rfl:k=m:=by omega
   have h2:¬ (k:Int)<((l.map flD).length:Nat):=by rw[List.length_map];omega
   have h3:¬ (((ws k).map flD).length:Int)>200:=by rw[List.length_map];omega
   ((repeat' ((conv=>whnf);first|exact .intro|refine .ya ?_|refine .na ?_|refine .ys ?_|refine .ns ?_|refine .neg (fun _=>?_) (fun _=>?_)|refine .mk (fun _=>?_) (fun _=>?_)|refine .inr (X5 (hP.r [0,1] _) ?_)|refine .inl (.inr (X5 (hP.r [0,1] _) ?_))|refine .inl (X5 (hP.r [0,1] _) ?_)|refine .mk ?_ ?_|refine AK ?_|refine AT ?_|fail));all_goals conv=>whnf)
   ((repeat' first|exact rfl|((conv=>whnf);first|done|exact suL|refine And.intro ?_ ?_|fail));all_goals conv=>whnf)
end Go.Proofs.YtdpigpahfiachaaGreatDoor
end
section
namespace Go.Proofs.YtdpigpahfiachaaGreatDoor
open Go Go.RowKit Go.EYtdpigpahfiachaaGreatDoor
set_option maxRecDepth 100000
set_option maxHeartbeats 4000000
variable {gl:List (Nat×List D)}
theorem Set_p (ss ss1:List (List Fl)) (a0 a1:Nat) (c r:Int) (t:List UInt8) (e:Value) (hG:Go.EYtdpigpahfiachaaGreatDoor.Fn Tryz.prog gl 25 [.c (.ptr 0 0),.c (.all 3 2)] (pG a0 ss [⟨c,r,t⟩]) 3 (.ret (.c (.d (.v e)))) (pG a1 ss1 [⟨c,r,t⟩]) 3 [1]):Go.EYtdpigpahfiachaaGreatDoor.Fn Tryz.prog gl 26 [.c (.ptr 0 0),vD (cellD c r),.c (.d (.str t))] (pkB a0 ss) 2 (.ret (.c (.d (.v e)))) (pkB a1 ss1) 2 [1]:=by
 refine fn_of_vc (nv:=9999) (cu:=[]) fits mixed Tryz.func26 rfl hoB rfl rfl rfl rfl ?_
 ((repeat' ((conv=>whnf);first|exact .intro|refine .ya ?_|refine .na ?_|refine .ys ?_|refine .ns ?_|refine .neg (fun _=>?_) (fun _=>?_)|refine .mk (fun _=>?_) (fun _=>?_)|refine .inr (X5 (hG.r [0,1,3] _) ?_)|refine .inl (.inr (X5 (hG.r [0,1,3] _) ?_))|refine .inl (X5 (hG.r [0,1,3] _) ?_)|refine .mk ?_ ?_|refine AK ?_|refine AT ?_|fail));all_goals conv=>whnf)
 all_goals ((repeat' first|exact rfl|((conv=>whnf);first|done|exact suL|refine And.intro ?_ ?_|fail));all_goals conv=>whnf)
end Go.Proofs.YtdpigpahfiachaaGreatDoor
end
