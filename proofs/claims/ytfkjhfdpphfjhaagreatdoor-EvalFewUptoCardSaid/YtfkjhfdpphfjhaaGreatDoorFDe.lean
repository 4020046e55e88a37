/- Proved: a part of what the law is proved with (the reckoner, contracts of functions, plain laws). Conditions: as each says. -/
import Derived.Test.YtfkjhfdpphfjhaaGreatDoorFMk
namespace Go.Proofs.YtfkjhfdpphfjhaaGreatDoor
open Go Go.RowKit Go.EYtfkjhfdpphfjhaaGreatDoor
set_option maxRecDepth 100000
set_option maxHeartbeats 4000000
variable {gl:List (Nat×List D)}
abbrev ckD (p:Int×Int):D:=cellD p.1 p.2
abbrev mpE (ks:List (Int×Int)) (vs:List Vl):D:=.mp (ks.map ckD) (vs.map Vl.d)
theorem keys_E (ks:List (Int×Int)):∀ d ∈ ks.map ckD,keyS 3 d=true:=fun d hd=>by
 obtain ⟨p,_,rfl⟩:=List.mem_map.1 hd
 rfl
theorem ckD_inj {a b c d:Int} (h:cellD a b=cellD c d):a=c∧b=d:=by
 simp[cellD] at h
 exact h
theorem look_ev {ks:List (Int×Int)} {vs:List Vl} {ev:Int→Int→Vl} (h:MapOk ks vs ev) (c r:Int):(∃ (i:Nat),(ks.map ckD)[i]?=some (cellD c r)∧(vs.map Vl.d)[i]?=some (ev c r).d)∨(cellD c r ∉ ks.map ckD∧ev c r=⟨0,0,[]⟩):=by
 rcases h.at' c r with ⟨i,h1,h2⟩|⟨h1,h2⟩
 ·exact .inl ⟨i,by rw[List.getElem?_map,h1];rfl,by rw[List.getElem?_map,h2];rfl⟩
 ·refine .inr ⟨fun hm=>?_,h2⟩
  obtain ⟨p,hp,he⟩:=List.mem_map.1 hm
  obtain ⟨e1,e2⟩:=ckD_inj he
  exact h1 (by rw[← e1,← e2];exact hp)
theorem v_len {v:Vl} (hv:v.ok):v.s.length≤140737488355328:=by
 rcases hv.1 with h|h|h|h|h
 ·rw[h.2.2];decide
 ·rw[h.2];decide
 ·omega
 ·rw[h.2.2];decide
 ·rw[h.2.2.2];decide
abbrev cnH (t:List UInt8) (k:Nat):List (Nat×Blk):=[(0,.var [.d (.str t)] 9),(1,.var [.d (iD (k:Int))] 3)]
theorem cn_cell {t:List UInt8} (ht:t=nCOUNT∨t=nCOUNTA) (v:Vl) (k:Nat) (hk:k≤1048576):Go.EYtfkjhfdpphfjhaaGreatDoor.Fn Tryz.prog gl 168 [.agg (vlC v),.c (.ptr 0 0),.c (.ptr 1 0)] (cnH t k) 2 (.ret (.tup [])) (cnH t (cntS t k (true,v))) 2 []:=by
 have e0:IntKind.i64.wrap ((k:Int)+1)=((k+1:Nat):Int):=by rw[wrapI (by omega)];rfl
 rcases ht with ht|ht
 ·have hn:¬ t=nCOUNTA:=by rw[ht];decide
  by_cases h1:v.k=1
  ·rw[show cntS t k (true,v)=k+1 by simp[cntS,ht,h1]]
   refine fn_of_vc (nv:=9999) (cu:=[]) fitsE mixed Tryz.func168 rfl hoB rfl rfl rfl rfl ?_
   ((repeat' ((conv=>whnf);first|exact .intro|refine G ?_|intro _|refine .mk ?_ ?_|refine H ?_|fail));all_goals conv=>whnf)
   all_goals ((repeat' first|exact rfl|((conv=>whnf);first|done|exact suL|refine And.intro ?_ ?_|fail));all_goals conv=>whnf)
   all_goals first|exact ceq e0|skip
  ·rw[show cntS t k (true,v)=k by simp[cntS,hn,h1]]
   refine fn_of_vc (nv:=9999) (cu:=[]) fitsE mixed Tryz.func168 rfl hoB rfl rfl rfl rfl ?_
   ((repeat' ((conv=>whnf);first|exact .intro|refine G ?_|intro _|refine .mk ?_ ?_|refine H ?_|fail));all_goals conv=>whnf)
   all_goals ((repeat' first|exact rfl|((conv=>whnf);first|done|exact suL|refine And.intro ?_ ?_|fail));all_goals conv=>whnf)
 ·have hn:¬ t=nCOUNT:=by rw[ht];decide
  by_cases h0:v.k=0
  ·rw[show cntS t k (true,v)=k by simp[cntS,hn,h0]]
   have h1:¬ v.k=1:=by omega
   refine fn_of_vc (nv:=9999) (cu:=[]) fitsE mixed Tryz.func168 rfl hoB rfl rfl rfl rfl ?_
   ((repeat' ((conv=>whnf);first|exact .intro|refine G ?_|intro _|refine .mk ?_ ?_|refine H ?_|fail));all_goals conv=>whnf)
   all_goals ((repeat' first|exact rfl|((conv=>whnf);first|done|exact suL|refine And.intro ?_ ?_|fail));all_goals conv=>whnf)
  ·rw[show cntS t k (true,v)=k+1 by simp[cntS,ht,h0]]
   refine fn_of_vc (nv:=9999) (cu:=[]) fitsE mixed Tryz.func168 rfl hoB rfl rfl rfl rfl ?_
   ((repeat' ((conv=>whnf);first|exact .intro|refine G ?_|intro _|refine .mk ?_ ?_|refine H ?_|fail));all_goals conv=>whnf)
   all_goals ((repeat' first|exact rfl|((conv=>whnf);first|done|exact suL|refine And.intro ?_ ?_|fail));all_goals conv=>whnf)
   all_goals first|exact ceq e0|skip
section
variable (te:TypeId) (pe:Value) (hV:Has gl (glV te pe))
include hV
theorem cn_other {t:List UInt8} (ht:t=nCOUNT∨t=nCOUNTA) {v:Vl} (hv:v.ok) (k:Nat) (hk:k≤1048576):Go.EYtfkjhfdpphfjhaaGreatDoor.Fn Tryz.prog gl 169 [.agg (vlC v),.c (.ptr 0 0),.c (.ptr 1 0)] (cnH t k) 2 (.ret (.tup [])) (cnH t (cntS t k (false,v))) 2 []:=by
 have e0:IntKind.i64.wrap ((k:Int)+1)=((k+1:Nat):Int):=by rw[wrapI (by omega)];rfl
 have c1:=FnP.moreG (Number_d te pe v.k v.n v.s (v_len hv)) hV
 change FnP Tryz.prog gl 106 [vlD v.k v.n v.s] (numV v).d at c1
 rcases ht with ht|ht
 ·have hn:¬ t=nCOUNTA:=by rw[ht];decide
  by_cases h4:(numV v).k=4
  ·rw[show cntS t k (false,v)=k by simp[cntS,hn,h4]]
   generalize numV v=x at *
   have c2:=IsBad_d (gl:=gl) x.k x.n x.s
   refine fn_of_vc (nv:=9999) (cu:=[]) fitsE mixed Tryz.func169 rfl hoB rfl rfl rfl rfl ?_
   ((repeat' ((conv=>whnf);first|exact .intro|refine G ?_|intro _|refine C1 c1 ?_|refine C1 c2 ?_|refine .mk ?_ ?_|refine H ?_|fail));all_goals conv=>whnf)
   all_goals ((repeat' first|exact rfl|((conv=>whnf);first|done|exact suL|refine And.intro ?_ ?_|fail));all_goals conv=>whnf)
  ·rw[show cntS t k (false,v)=k+1 by simp[cntS,ht,h4]]
   generalize numV v=x at *
   have c2:=IsBad_d (gl:=gl) x.k x.n x.s
   refine fn_of_vc (nv:=9999) (cu:=[]) fitsE mixed Tryz.func169 rfl hoB rfl rfl rfl rfl ?_
   ((repeat' ((conv=>whnf);first|exact .intro|refine G ?_|intro _|refine C1 c1 ?_|refine C1 c2 ?_|refine .mk ?_ ?_|refine H ?_|fail));all_goals conv=>whnf)
   all_goals ((repeat' first|exact rfl|((conv=>whnf);first|done|exact suL|refine And.intro ?_ ?_|fail));all_goals conv=>whnf)
   all_goals first|exact ceq e0|skip
 ·have hn:¬ t=nCOUNT:=by rw[ht];decide
  by_cases h0:v.k=0
  ·rw[show cntS t k (false,v)=k by simp[cntS,hn,h0]]
   refine fn_of_vc (nv:=9999) (cu:=[]) fitsE mixed Tryz.func169 rfl hoB rfl rfl rfl rfl ?_
   ((repeat' ((conv=>whnf);first|exact .intro|refine G ?_|intro _|refine .mk ?_ ?_|refine H ?_|fail));all_goals conv=>whnf)
   all_goals ((repeat' first|exact rfl|((conv=>whnf);first|done|exact suL|refine And.intro ?_ ?_|fail));all_goals conv=>whnf)
  ·rw[show cntS t k (false,v)=k+1 by simp[cntS,ht,h0]]
   refine fn_of_vc (nv:=9999) (cu:=[]) fitsE mixed Tryz.func169 rfl hoB rfl rfl rfl rfl ?_
   ((repeat' ((conv=>whnf);first|exact .intro|refine G ?_|intro _|refine .mk ?_ ?_|refine H ?_|fail));all_goals conv=>whnf)
   all_goals ((repeat' first|exact rfl|((conv=>whnf);first|done|exact suL|refine And.intro ?_ ?_|fail));all_goals conv=>whnf)
   all_goals first|exact ceq e0|skip
abbrev ctH (o:Vl):List (Nat×Blk):=[(0,vB o)]
theorem ct_cell (b:Bool) {o v:Vl} (ho:o.ok) (hv:v.ok):Go.EYtfkjhfdpphfjhaaGreatDoor.Fn Tryz.prog gl 170 [.agg (vlC v),.c (.ptr 0 0)] (ctH o) 1 (.ret (.tup [])) (ctH (catS o (b,v))) 1 []:=by
 have c1:=FnP.moreG (Two_v te pe 7 ho hv) hV
 rw[show catS o (b,v)=twoV 7 o v from rfl]
 generalize twoV 7 o v=x at *
 refine fn_of_vc (nv:=9999) (cu:=[]) fitsE mixed Tryz.func170 rfl hoB rfl rfl rfl rfl ?_
 ((repeat' ((conv=>whnf);first|exact .intro|refine G ?_|intro _|refine C1 c1 ?_|refine .mk ?_ ?_|refine H ?_|fail));all_goals conv=>whnf)
 all_goals ((repeat' first|exact rfl|((conv=>whnf);first|done|exact suL|refine And.intro ?_ ?_|fail));all_goals conv=>whnf)
abbrev nuH (s:Ns):List (Nat×Blk):=[(0,vB s.bad),(1,.var [.all 1 2] 175),(2,.rows 1 (s.all.map iR) 3),(3,.var [.fn 172 [(0,0),(1,0)]] 212)]
theorem nu_other {s:Ns} {v:Vl} (hv:v.ok) (hs:s.all.length≤1048576):Go.EYtfkjhfdpphfjhaaGreatDoor.Fn Tryz.prog gl 172 [.agg (vlC v),.c (.ptr 0 0),.c (.ptr 1 0)] (nuH s) 4 (.ret (.tup [])) (nuH (numO s v)) 4 [2]:=by
 have c1:=FnP.moreG (Number_d te pe v.k v.n v.s (v_len hv)) hV
 change FnP Tryz.prog gl 106 [vlD v.k v.n v.s] (numV v).d at c1
 have c3:=IsBad_d (gl:=gl) s.bad.k s.bad.n s.bad.s
 have hrl:(s.all.map iR).length=s.all.length:=List.length_map _
 have b1:((s.all.map iR).length+1) * 8≤140737488355328:=by omega
 have b2:(s.all.map iR).length+1≤maxLen:=by unfold maxLen;omega
 by_cases h4:s.bad.k=4
 ·rw[show numO s v=s by unfold numO;rw[if_pos h4]]
  generalize numV v=x at *
  refine fn_of_vc (nv:=9999) (cu:=[]) fitsE mixed Tryz.func172 rfl hoB rfl rfl rfl rfl ?_
  ((repeat' ((conv=>whnf);first|exact .intro|refine G ?_|intro _|refine C1 c1 ?_|refine C1 c3 ?_|refine .mk ?_ ?_|refine H ?_|fail));all_goals conv=>whnf)
  all_goals ((repeat' first|exact rfl|((conv=>whnf);first|done|exact suL|refine And.intro ?_ ?_|fail));all_goals conv=>whnf)
 ·rw[show numO s v=⟨if (numV v).k=1 then s.all++[(numV v).n] else s.all,numV v⟩ by unfold numO;rw[if_neg h4]]
  generalize numV v=x at *
  by_cases h1:x.k=1
  ·rw[if_pos h1]
   refine fn_of_vc (nv:=9999) (cu:=[]) fitsE mixed Tryz.func172 rfl hoB rfl rfl rfl rfl ?_
   ((repeat' ((conv=>whnf);first|exact .intro|refine G ?_|intro _|refine C1 c1 ?_|refine C1 c3 ?_|(refine ⟨⟨rfl,b1,b2⟩,?_⟩)|refine .mk ?_ ?_|refine H ?_|fail));all_goals conv=>whnf)
   all_goals ((repeat' first|exact rfl|((conv=>whnf);first|done|exact suL|refine And.intro ?_ ?_|fail));all_goals conv=>whnf)
   all_goals first|(rw[List.map_append];rfl)|skip
  ·rw[if_neg h1]
   refine fn_of_vc (nv:=9999) (cu:=[]) fitsE mixed Tryz.func172 rfl hoB rfl rfl rfl rfl ?_
   ((repeat' ((conv=>whnf);first|exact .intro|refine G ?_|intro _|refine C1 c1 ?_|refine C1 c3 ?_|refine .mk ?_ ?_|refine H ?_|fail));all_goals conv=>whnf)
   all_goals ((repeat' first|exact rfl|((conv=>whnf);first|done|exact suL|refine And.intro ?_ ?_|fail));all_goals conv=>whnf)
theorem nu_cell {s:Ns} {v:Vl} (hv:v.ok) (hs:s.all.length≤1048576):Go.EYtfkjhfdpphfjhaaGreatDoor.Fn Tryz.prog gl 173 [.agg (vlC v),.c (.ptr 3 0)] (nuH s) 4 (.ret (.tup [])) (nuH (numS s (true,v))) 4 [2]:=by
 have c1:=nu_other te pe hV (s:=s) hv hs
 have c3:=IsBad_d (gl:=gl) v.k v.n v.s
 by_cases h1:v.k=1
 ·rw[show numS s (true,v)=numO s v by unfold numS;rw[if_neg (by simp[h1])]]
  generalize numO s v=s' at *
  refine fn_of_vc (nv:=9999) (cu:=[]) fitsE mixed Tryz.func173 rfl hoB rfl rfl rfl rfl ?_
  ((repeat' ((conv=>whnf);first|exact .intro|refine G ?_|intro _|refine C5 c1 [0,1,2,3] ?_|refine C1 c3 ?_|refine .mk ?_ ?_|refine H ?_|fail));all_goals conv=>whnf)
  all_goals ((repeat' first|exact rfl|((conv=>whnf);first|done|exact suL|refine And.intro ?_ ?_|fail));all_goals conv=>whnf)
 ·by_cases h4:v.k=4
  ·rw[show numS s (true,v)=numO s v by unfold numS;rw[if_neg (by simp[h4])]]
   generalize numO s v=s' at *
   refine fn_of_vc (nv:=9999) (cu:=[]) fitsE mixed Tryz.func173 rfl hoB rfl rfl rfl rfl ?_
   ((repeat' ((conv=>whnf);first|exact .intro|refine G ?_|intro _|refine C5 c1 [0,1,2,3] ?_|refine C1 c3 ?_|refine .mk ?_ ?_|refine H ?_|fail));all_goals conv=>whnf)
   all_goals ((repeat' first|exact rfl|((conv=>whnf);first|done|exact suL|refine And.intro ?_ ?_|fail));all_goals conv=>whnf)
  ·rw[show numS s (true,v)=s by unfold numS;rw[if_pos (by simp[h1,h4])]]
   refine fn_of_vc (nv:=9999) (cu:=[]) fitsE mixed Tryz.func173 rfl hoB rfl rfl rfl rfl ?_
   ((repeat' ((conv=>whnf);first|exact .intro|refine G ?_|intro _|refine C1 c3 ?_|refine .mk ?_ ?_|refine H ?_|fail));all_goals conv=>whnf)
   all_goals ((repeat' first|exact rfl|((conv=>whnf);first|done|exact suL|refine And.intro ?_ ?_|fail));all_goals conv=>whnf)
abbrev lgH (and:Bool) (s:Lg):List (Nat×Blk):=[(0,vB s.bad),(1,.var [.d (iD (s.k:Int))] 3),(2,.var [.d (.v (.bool and))] 4),(3,.var [.d (.v (.bool s.out))] 4),(4,.var [.fn 213 [(0,0),(1,0),(2,0),(3,0)]] 212)]
theorem lg_other (and:Bool) {s:Lg} {v:Vl} (hv:v.ok) (hs:s.k≤1048576):Go.EYtfkjhfdpphfjhaaGreatDoor.Fn Tryz.prog gl 213 [.agg (vlC v),.c (.ptr 0 0),.c (.ptr 1 0),.c (.ptr 2 0),.c (.ptr 3 0)] (lgH and s) 5 (.ret (.tup [])) (lgH and (logO and s v)) 5 []:=by
 have e0:IntKind.i64.wrap ((s.k:Int)+1)=((s.k+1:Nat):Int):=by rw[wrapI (by omega)];rfl
 have c1:=FnP.moreG (Truth_d te pe hv.1) hV
 change FnP Tryz.prog gl 175 [vlD v.k v.n v.s] (truV v).d at c1
 have c3:=IsBad_d (gl:=gl) s.bad.k s.bad.n s.bad.s
 by_cases h4:s.bad.k=4
 ·rw[show logO and s v=s by unfold logO;rw[if_pos h4]]
  generalize truV v=x at *
  refine fn_of_vc (nv:=9999) (cu:=[]) fitsE mixed Tryz.func213 rfl hoB rfl rfl rfl rfl ?_
  ((repeat' ((conv=>whnf);first|exact .intro|refine G ?_|intro _|refine C1 c1 ?_|refine C1 c3 ?_|refine .mk ?_ ?_|refine H ?_|fail));all_goals conv=>whnf)
  all_goals ((repeat' first|exact rfl|((conv=>whnf);first|done|exact suL|refine And.intro ?_ ?_|fail));all_goals conv=>whnf)
 ·rw[show logO and s v=⟨s.k+1,truV v,if (truV v).k=3∧¬ (decide ((truV v).n=1)=and) then !and else s.out⟩ by unfold logO;rw[if_neg h4]]
  generalize truV v=x at *
  by_cases h3:x.k=3
  ·by_cases hn:x.n=1
   ·have c2:FnP Tryz.prog gl 214 [vlD x.k x.n x.s] (.v (.bool true)):=FnP.le (IsTrue_d x.k x.n x.s) (LeD.vt ⟨h3,hn⟩)
    obtain ⟨sk,sb,so⟩:=s
    cases and
    ·rw[show (if x.k=3∧¬ (decide (x.n=1)=false) then !false else so)=true by simp[h3,hn]]
     refine fn_of_vc (nv:=9999) (cu:=[]) fitsE mixed Tryz.func213 rfl hoB rfl rfl rfl rfl ?_
     ((repeat' ((conv=>whnf);first|exact .intro|refine G ?_|intro _|refine C1 c1 ?_|refine C1 c2 ?_|refine C1 c3 ?_|refine .mk ?_ ?_|refine H ?_|fail));all_goals conv=>whnf)
     all_goals ((repeat' first|exact rfl|((conv=>whnf);first|done|exact suL|refine And.intro ?_ ?_|fail));all_goals conv=>whnf)
     all_goals first|exact ceq e0|skip
    ·rw[show (if x.k=3∧¬ (decide (x.n=1)=true) then !true else so)=so by simp[h3,hn]]
     refine fn_of_vc (nv:=9999) (cu:=[]) fitsE mixed Tryz.func213 rfl hoB rfl rfl rfl rfl ?_
     ((repeat' ((conv=>whnf);first|exact .intro|refine G ?_|intro _|refine C1 c1 ?_|refine C1 c2 ?_|refine C1 c3 ?_|refine .mk ?_ ?_|refine H ?_|fail));all_goals conv=>whnf)
     all_goals ((repeat' first|exact rfl|((conv=>whnf);first|done|exact suL|refine And.intro ?_ ?_|fail));all_goals conv=>whnf)
     all_goals first|exact ceq e0|skip
   ·have c2:FnP Tryz.prog gl 214 [vlD x.k x.n x.s] (.v (.bool false)):=FnP.le (IsTrue_d x.k x.n x.s) (LeD.vf fun h=>hn h.2)
    obtain ⟨sk,sb,so⟩:=s
    cases and
    ·rw[show (if x.k=3∧¬ (decide (x.n=1)=false) then !false else so)=so by simp[h3,hn]]
     refine fn_of_vc (nv:=9999) (cu:=[]) fitsE mixed Tryz.func213 rfl hoB rfl rfl rfl rfl ?_
     ((repeat' ((conv=>whnf);first|exact .intro|refine G ?_|intro _|refine C1 c1 ?_|refine C1 c2 ?_|refine C1 c3 ?_|refine .mk ?_ ?_|refine H ?_|fail));all_goals conv=>whnf)
     all_goals ((repeat' first|exact rfl|((conv=>whnf);first|done|exact suL|refine And.intro ?_ ?_|fail));all_goals conv=>whnf)
     all_goals first|exact ceq e0|skip
    ·rw[show (if x.k=3∧¬ (decide (x.n=1)=true) then !true else so)=false by simp[h3,hn]]
     refine fn_of_vc (nv:=9999) (cu:=[]) fitsE mixed Tryz.func213 rfl hoB rfl rfl rfl rfl ?_
     ((repeat' ((conv=>whnf);first|exact .intro|refine G ?_|intro _|refine C1 c1 ?_|refine C1 c2 ?_|refine C1 c3 ?_|refine .mk ?_ ?_|refine H ?_|fail));all_goals conv=>whnf)
     all_goals ((repeat' first|exact rfl|((conv=>whnf);first|done|exact suL|refine And.intro ?_ ?_|fail));all_goals conv=>whnf)
     all_goals first|exact ceq e0|skip
  ·rw[show (if x.k=3∧¬ (decide (x.n=1)=and) then !and else s.out)=s.out by simp[h3]]
   refine fn_of_vc (nv:=9999) (cu:=[]) fitsE mixed Tryz.func213 rfl hoB rfl rfl rfl rfl ?_
   ((repeat' ((conv=>whnf);first|exact .intro|refine G ?_|intro _|refine C1 c1 ?_|refine C1 c3 ?_|refine .mk ?_ ?_|refine H ?_|fail));all_goals conv=>whnf)
   all_goals ((repeat' first|exact rfl|((conv=>whnf);first|done|exact suL|refine And.intro ?_ ?_|fail));all_goals conv=>whnf)
   all_goals first|exact ceq e0|skip
theorem lg_cell (and:Bool) {s:Lg} {v:Vl} (hv:v.ok) (hs:s.k≤1048576):Go.EYtfkjhfdpphfjhaaGreatDoor.Fn Tryz.prog gl 215 [.agg (vlC v),.c (.ptr 4 0)] (lgH and s) 5 (.ret (.tup [])) (lgH and (logS and s (true,v))) 5 []:=by
 have c1:=lg_other te pe hV and (s:=s) hv hs
 have c3:=IsBad_d (gl:=gl) v.k v.n v.s
 by_cases h:v.k=1∨v.k=3∨v.k=4
 ·rw[show logS and s (true,v)=logO and s v by unfold logS;rw[if_neg (by simp;omega)]]
  generalize logO and s v=s' at *
  rcases h with h|h|h
  ·refine fn_of_vc (nv:=9999) (cu:=[]) fitsE mixed Tryz.func215 rfl hoB rfl rfl rfl rfl ?_
   ((repeat' ((conv=>whnf);first|exact .intro|refine G ?_|intro _|refine C5 c1 [0,1,2,3,4] ?_|refine C1 c3 ?_|refine .mk ?_ ?_|refine H ?_|fail));all_goals conv=>whnf)
   all_goals ((repeat' first|exact rfl|((conv=>whnf);first|done|exact suL|refine And.intro ?_ ?_|fail));all_goals conv=>whnf)
  ·have h1:¬ v.k=1:=by omega
   refine fn_of_vc (nv:=9999) (cu:=[]) fitsE mixed Tryz.func215 rfl hoB rfl rfl rfl rfl ?_
   ((repeat' ((conv=>whnf);first|exact .intro|refine G ?_|intro _|refine C5 c1 [0,1,2,3,4] ?_|refine C1 c3 ?_|refine .mk ?_ ?_|refine H ?_|fail));all_goals conv=>whnf)
   all_goals ((repeat' first|exact rfl|((conv=>whnf);first|done|exact suL|refine And.intro ?_ ?_|fail));all_goals conv=>whnf)
  ·have h1:¬ v.k=1:=by omega
   have h3:¬ v.k=3:=by omega
   refine fn_of_vc (nv:=9999) (cu:=[]) fitsE mixed Tryz.func215 rfl hoB rfl rfl rfl rfl ?_
   ((repeat' ((conv=>whnf);first|exact .intro|refine G ?_|intro _|refine C5 c1 [0,1,2,3,4] ?_|refine C1 c3 ?_|refine .mk ?_ ?_|refine H ?_|fail));all_goals conv=>whnf)
   all_goals ((repeat' first|exact rfl|((conv=>whnf);first|done|exact suL|refine And.intro ?_ ?_|fail));all_goals conv=>whnf)
 ·rw[show logS and s (true,v)=s by unfold logS;rw[if_pos (by simp;omega)]]
  have h1:¬ v.k=1:=by omega
  have h3:¬ v.k=3:=by omega
  have h4:¬ v.k=4:=by omega
  refine fn_of_vc (nv:=9999) (cu:=[]) fitsE mixed Tryz.func215 rfl hoB rfl rfl rfl rfl ?_
  ((repeat' ((conv=>whnf);first|exact .intro|refine G ?_|intro _|refine C1 c3 ?_|refine .mk ?_ ?_|refine H ?_|fail));all_goals conv=>whnf)
  all_goals ((repeat' first|exact rfl|((conv=>whnf);first|done|exact suL|refine And.intro ?_ ?_|fail));all_goals conv=>whnf)
end
end Go.Proofs.YtfkjhfdpphfjhaaGreatDoor
