/- Proved: a part of what the law is proved with (the reckoner, contracts of functions, plain laws). Conditions: as each says. -/
import Derived.Test.YtfcmhmglpcimiaaGreatDoorKCe
import Derived.Test.YtfcmhmglpcimiaaGreatDoorKGe
import Derived.Test.YtfcmhmglpcimiaaGreatDoorKTja
namespace Go.Proofs.YtfcmhmglpcimiaaGreatDoor
set_option maxRecDepth 100000
section
open Go Go.EYtfcmhmglpcimiaaGreatDoor
set_option maxHeartbeats 4000000
variable {gl:List (Nat×List D)}
abbrev lkH (l:List (Int×Int)):List (Nat×Blk):=[(0,.var [.all 2 1] 31),(1,.rows 2 (l.map rowC) 39),(2,.var [.fn 59 [(0,0),(2,0)]] 131)]
theorem rowC_one:∀ l:List (Int×Int),allOne (l.map rowC)=true
 | []=>rfl
 | _::l=>rowC_one l
def LkOk (gl:List (Nat×List D)) (n:Nd):Prop:=∀ l:List (Int×Int),l.length+2574 * cntN n≤1048576→Go.EYtfcmhmglpcimiaaGreatDoor.Fn Tryz.prog gl 59 [.agg (ndC n),.c (.ptr 0 0),.c (.ptr 2 0)] (lkH l) 3 (.ret (.tup [])) (lkH (l++cellsN n)) 3 [1]
theorem look_5 (a b:Rf) (m:Int) (t:List UInt8):LkOk gl (.mk 5 m t a b []):=fun l hl=>by
 have hc:cellsN (.mk 5 m t a b [])=[(a.c,a.r)]:=by simp[cellsN,ownC,cellsK]
 have hn:cntN (.mk 5 m t a b [])=1:=by simp[cntN,cntL]
 rw[hn] at hl
 rw[hc]
 have hrl:(l.map rowC).length=l.length:=List.length_map _
 have b1:((l.map rowC).length+1) * 16≤140737488355328:=by omega
 have b2:(l.map rowC).length+1≤maxLen:=by unfold maxLen;omega
 refine fn_of_vc (nv:=9999) (cu:=[]) fitsG mixed Tryz.func59 rfl hoB rfl rfl rfl rfl ?_
 ((repeat' ((conv=>whnf);first|exact .intro|refine G ?_|intro _|(refine ⟨⟨rfl,b1,b2⟩,?_⟩)|refine .mk ?_ ?_|refine H ?_|fail));all_goals conv=>whnf)
 refine ⟨{ σ:=Nat,fr:=fun x=>[(43,.c (.d (iD (x:Int))))],ks:=[],L:=fun x=>[],ex:=0,I:=fun x=>x=0,μ:=fun x=>0 },⟨0,rfl,?_⟩,fun (x:Nat) hx=>?_⟩
 ·((repeat' first|exact rfl|((conv=>whnf);first|done|exact suL|refine And.intro ?_ ?_|fail));all_goals conv=>whnf)
 ·obtain rfl:x=0:=hx
  have h0:¬ ((0:Nat):Int)<((Nd.csL []).length:Nat):=by decide
  ((repeat' ((conv=>whnf);first|exact .intro|refine G ?_|intro _|refine .mk ?_ ?_|refine H ?_|fail));all_goals conv=>whnf)
  all_goals ((repeat' first|exact rfl|((conv=>whnf);first|done|exact suL|refine And.intro ?_ ?_|fail));all_goals conv=>whnf)
  all_goals first|(rw[List.map_append];rfl)|skip
theorem look_6 (a b:Rf) (m:Int) (t:List UInt8) (ha:okP a.c a.r) (hb:okP b.c b.r):LkOk gl (.mk 6 m t a b []):=fun l hl=>by
 have hc:cellsN (.mk 6 m t a b [])=boxC a b:=by simp[cellsN,ownC,cellsK]
 have hn:cntN (.mk 6 m t a b [])=1:=by simp[cntN,cntL]
 rw[hn] at hl
 rw[hc]
 have hrl:(l.map rowC).length=l.length:=List.length_map _
 have hbl:=boxC_len ha hb
 have hrb:((boxC a b).map rowC).length=(boxC a b).length:=List.length_map _
 have b1:((l.map rowC).length+((boxC a b).map rowC).length) * 16≤140737488355328:=by omega
 have b2:(l.map rowC).length+((boxC a b).map rowC).length≤maxLen:=by unfold maxLen;omega
 have b3:allOne ((boxC a b).map rowC)=true:=rowC_one _
 have c1:FnP Tryz.prog gl 60 [cellD a.c a.r,cellD b.c b.r] (.tup [boxD (min a.c b.c) (min a.r b.r) (max a.c b.c) (max a.r b.r),.v .nilIface]):=Box_s ha hb
 have c2:FnP Tryz.prog gl 61 [boxD (min a.c b.c) (min a.r b.r) (max a.c b.c) (max a.r b.r)] (.tup [.lst 2 ((boxC a b).map rowC),.v .nilIface]):=Cells_s (boxC_box ha hb)
 generalize boxC a b=cs at *
 refine fn_of_vc (nv:=9999) (cu:=[]) fitsG mixed Tryz.func59 rfl hoB rfl rfl rfl rfl ?_
 ((repeat' ((conv=>whnf);first|exact .intro|refine G ?_|intro _|refine C1 c1 ?_|refine C1 c2 ?_|(refine ⟨⟨b3,b1,b2⟩,?_⟩)|refine .mk ?_ ?_|refine H ?_|fail));all_goals conv=>whnf)
 refine ⟨{ σ:=Nat,fr:=fun x=>[(43,.c (.d (iD (x:Int))))],ks:=[],L:=fun x=>[],ex:=0,I:=fun x=>x=0,μ:=fun x=>0 },⟨0,rfl,?_⟩,fun (x:Nat) hx=>?_⟩
 ·((repeat' first|exact rfl|((conv=>whnf);first|done|exact suL|refine And.intro ?_ ?_|fail));all_goals conv=>whnf)
 ·obtain rfl:x=0:=hx
  have h0:¬ ((0:Nat):Int)<((Nd.csL []).length:Nat):=by decide
  ((repeat' ((conv=>whnf);first|exact .intro|refine G ?_|intro _|refine .mk ?_ ?_|refine H ?_|fail));all_goals conv=>whnf)
  all_goals ((repeat' first|exact rfl|((conv=>whnf);first|done|exact suL|refine And.intro ?_ ?_|fail));all_goals conv=>whnf)
  all_goals first|(rw[List.map_append];rfl)|(rw[List.map_append];done)|skip
theorem look_k (k m:Int) (t:List UInt8) (a b:Rf) (ks:List Nd) (h5:¬ k=5) (h6:¬ k=6) (_hc:cntN (.mk k m t a b ks)≤200) (hfew:∀ x,x≤ks.length→(cellsK (ks.take x)).length≤2574 * cntL (ks.take x)) (ih:∀ x (h:x<ks.length),LkOk gl ks[x]):LkOk gl (.mk k m t a b ks):=fun l hl=>by
 have hcN:cellsN (.mk k m t a b ks)=cellsK ks:=by simp[cellsN,ownC,h5,h6]
 rw[hcN]
 have hlen:=kid_len ks
 have hlk:=len_cnt ks
 unfold cntN at hl _hc
 refine fn_of_vc (nv:=9999) (cu:=[]) fitsG mixed Tryz.func59 rfl hoB rfl rfl rfl rfl ?_
 ((repeat' ((conv=>whnf);first|exact .intro|refine G ?_|intro _|refine .mk ?_ ?_|refine H ?_|fail));all_goals conv=>whnf)
 refine ⟨{ σ:=Nat,fr:=fun x=>[(43,.c (.d (iD (x:Int))))],ks:=[1],L:=fun x=>[(1,.rows 2 ((l++cellsK (ks.take x)).map rowC) 39)],ex:=0,I:=fun x=>x≤ks.length,μ:=fun x=>ks.length - x },⟨0,Nat.zero_le _,?_⟩,fun (x:Nat) hx=>?_⟩
 ·((repeat' first|exact rfl|((conv=>whnf);first|done|exact suL|refine And.intro ?_ ?_|fail));all_goals conv=>whnf)
  all_goals first|(simp[cellsK];done)|skip
 ·replace hx:x≤ks.length:=hx
  by_cases hlt:x<ks.length
  ·have h2:(x:Int)<((Nd.csL ks).length:Nat):=by omega
   have g1:=kid_get hlt
   have h7:=hfew x hx
   have h8:=cntL_take hlt
   have h9:=cntL_le ks (x+1)
   have c1:=ih x hlt (l++cellsK (ks.take x)) (by rw[List.length_append];omega)
   have hct:=cellsK_take hlt
   have e0:IntKind.i64.wrap ((x:Int)+1)=((x+1:Nat):Int):=by rw[wrapI (by omega)];rfl
   generalize ks[x]=q at *
   obtain ⟨k1,m1,t1,a1,b1,ks1⟩:=q
   change (Nd.csL ks)[((x:Nat):Int).toNat]?=some [iD k1,iD m1,.str t1,iD a1.c,iD a1.r,tD a1.fc,tD a1.fr,iD b1.c,iD b1.r,tD b1.fc,tD b1.fr,.lst 12 (Nd.csL ks1)] at g1
   ((repeat' ((conv=>whnf);first|exact .intro|refine G ?_|intro _|refine C5 c1 [0,1,2] ?_|(refine ⟨Int.natCast_nonneg _,_,g1,?_⟩)|refine .mk ?_ ?_|refine H ?_|fail));all_goals conv=>whnf)
   all_goals refine ⟨x+1,⟨hlt,by show ks.length - (x+1)<ks.length - x;omega⟩,?_⟩
   all_goals ((repeat' first|exact rfl|((conv=>whnf);first|done|exact suL|refine And.intro ?_ ?_|fail));all_goals conv=>whnf)
   all_goals first|exact ceq e0|(rw[hct,← List.append_assoc];done)|skip
  ·have h2:¬ (x:Int)<((Nd.csL ks).length:Nat):=by omega
   obtain rfl:x=ks.length:=by omega
   ((repeat' ((conv=>whnf);first|exact .intro|refine G ?_|intro _|refine .mk ?_ ?_|refine H ?_|fail));all_goals conv=>whnf)
   all_goals ((repeat' first|exact rfl|((conv=>whnf);first|done|exact suL|refine And.intro ?_ ?_|fail));all_goals conv=>whnf)
   all_goals first|(rw[List.take_length];done)|skip
theorem look_h (n:Nd):∀ {box:Prop},frmN n box→cntN n≤200→LkOk gl n:=by
 match n with
 | .mk k m t a b ks =>
  intro box hf hc
  have hcx:∀ x (h:x<ks.length),cntN ks[x]≤200:=fun x h=>by
   have h1:=cntL_take h
   have h2:=cntL_le ks (x+1)
   unfold cntN at hc
   omega
  have hfx:=frm_kid hf
  have ih:∀ x (h:x<ks.length),LkOk gl ks[x]:=fun x h=>look_h ks[x] (hfx x h).choose_spec (hcx x h)
  have hfew:=cellsK_few (ks:=ks) fun x h=>cellsN_few ks[x] (hfx x h).choose_spec
  by_cases h5:k=5
  ·subst h5
   rw[frm_5] at hf
   obtain rfl:=List.eq_nil_of_length_eq_zero hf.1
   exact look_5 a b m t
  by_cases h6:k=6
  ·subst h6
   rw[frm_6] at hf
   obtain rfl:=List.eq_nil_of_length_eq_zero hf.2.1
   exact look_6 a b m t hf.2.2.2.2.1 hf.2.2.2.2.2
  exact look_k k m t a b ks h5 h6 hc (fun x hx=>(hfew x hx).1) ih
termination_by SizeOf.sizeOf n
decreasing_by
 simp only[Nd.mk.sizeOf_spec]
 have:=List.sizeOf_lt_of_mem (List.getElem_mem h)
 omega
end
section
open Go Go.EYtfcmhmglpcimiaaGreatDoor
set_option maxHeartbeats 4000000
variable {gl:List (Nat×List D)}
def markAt (p:Int×Int):Nat:=(p.2 * 27+p.1).toNat
def markL (cs:List (Int×Int)) (m:List Bool):List Bool:=cs.foldl (fun m p=>m.set (markAt p) true) m
theorem markL_app (a b:List (Int×Int)) (m:List Bool):markL (a++b) m=markL b (markL a m):=by unfold markL;rw[List.foldl_append]
theorem markL_len:∀ (cs:List (Int×Int)) (m:List Bool),(markL cs m).length=m.length
 | [],_=>rfl
 | p::cs,m=>by
  show (markL cs (m.set (markAt p) true)).length=_
  rw[markL_len cs,List.length_set]
abbrev rowB (b:Bool):List D:=[.v (.bool b)]
abbrev mkH (m:List Bool):List (Nat×Blk):=[(0,.rows 1 (m.map rowB) 96)]
def SeOk (gl:List (Nat×List D)) (n:Nd):Prop:=∀ m:List Bool,m.length=2700→Go.EYtfcmhmglpcimiaaGreatDoor.Fn Tryz.prog gl 37 [.agg (ndC n),.c (.ptr 0 0)] (mkH m) 1 (.ret (.tup [])) (mkH (markL (cellsN n) m)) 1 []
theorem rowB_set (m:List Bool) (i:Nat):(m.set i true).map rowB=(m.map rowB).set i [.v (.bool true)]:=List.map_set
theorem seen_5 (a b:Rf) (m:Int) (t:List UInt8) (ha:okP a.c a.r):SeOk gl (.mk 5 m t a b []):=fun l hl=>by
 have hc:cellsN (.mk 5 m t a b [])=[(a.c,a.r)]:=by simp[cellsN,ownC,cellsK]
 rw[hc]
 obtain ⟨h1,h2,h3,h4⟩:=ha
 have w1:IntKind.i64.wrap (a.r * 27)=a.r * 27:=wrapI (by omega)
 have w2:IntKind.i64.wrap (a.r * 27+a.c)=a.r * 27+a.c:=wrapI (by omega)
 have g1:(l.map rowB)[(a.r * 27+a.c).toNat]?=some (rowB (l[(a.r * 27+a.c).toNat]'(by omega))):=by rw[List.getElem?_map,List.getElem?_eq_getElem (by omega)];rfl
 refine S1 Tryz.func37 rfl ?_
 ((repeat' ((conv=>whnf);first|exact .intro|refine G ?_|intro _|(first|rw[w1]|rw[w2]|refine ⟨⟨by omega,by omega⟩,?_⟩|refine ⟨_,g1,?_⟩)|refine .mk ?_ ?_|refine H ?_|fail));all_goals conv=>whnf)
 refine ⟨{ σ:=Nat,fr:=fun x=>[(6,.c (.d (iD (x:Int))))],ks:=[],L:=fun x=>[],ex:=0,I:=fun x=>x=0,μ:=fun x=>0 },⟨0,rfl,?_⟩,fun (x:Nat) hx=>?_⟩
 ·((repeat' first|exact rfl|((conv=>whnf);first|done|exact suL|refine And.intro ?_ ?_|fail));all_goals conv=>whnf)
 ·obtain rfl:x=0:=hx
  have h0:¬ ((0:Nat):Int)<((Nd.csL []).length:Nat):=by decide
  ((repeat' ((conv=>whnf);first|exact .intro|refine G ?_|intro _|refine .mk ?_ ?_|refine H ?_|fail));all_goals conv=>whnf)
  all_goals ((repeat' first|exact rfl|((conv=>whnf);first|done|exact suL|refine And.intro ?_ ?_|fail));all_goals conv=>whnf)
  all_goals first|exact (rowB_set l _).symm|skip
theorem markL_take {cs:List (Int×Int)} {x:Nat} (h:x<cs.length) (m:List Bool):markL (cs.take (x+1)) m=(markL (cs.take x) m).set (markAt cs[x]) true:=by
 rw[List.take_succ_eq_append_getElem h,markL_app]
 rfl
theorem seen_6 (a b:Rf) (m:Int) (t:List UInt8) (ha:okP a.c a.r) (hb:okP b.c b.r):SeOk gl (.mk 6 m t a b []):=fun l hl=>by
 have hc:cellsN (.mk 6 m t a b [])=boxC a b:=by simp[cellsN,ownC,cellsK]
 rw[hc]
 have hrb:((boxC a b).map rowD).length=(boxC a b).length:=List.length_map _
 have hbl:=boxC_len ha hb
 have hok:=boxC_ok ha hb
 have c1:=Corners_d (gl:=gl) a.c a.r b.c b.r
 have c2:FnP Tryz.prog gl 57 [boxD (min a.c b.c) (min a.r b.r) (max a.c b.c) (max a.r b.r)] (.lst 2 ((boxC a b).map rowD)):=refCells_s (boxC_box ha hb)
 generalize boxC a b=cs at *
 refine S1 Tryz.func37 rfl ?_
 ((repeat' ((conv=>whnf);first|exact .intro|refine G ?_|intro _|refine C1 c1 ?_|refine C1 c2 ?_|refine .mk ?_ ?_|refine H ?_|fail));all_goals conv=>whnf)
 refine ⟨{ σ:=Nat,fr:=fun x=>[(5,.c (.d (iD (x:Int))))],ks:=[0],L:=fun x=>mkH (markL (cs.take x) l),ex:=0,I:=fun x=>x≤cs.length,μ:=fun x=>cs.length - x },⟨0,Nat.zero_le _,?_⟩,fun (x:Nat) hx=>?_⟩
 ·((repeat' first|exact rfl|((conv=>whnf);first|done|exact suL|refine And.intro ?_ ?_|fail));all_goals conv=>whnf)
 ·replace hx:x≤cs.length:=hx
  by_cases hlt:x<cs.length
  ·have h2:(x:Int)<((cs.map rowD).length:Nat):=by omega
   have g1:=get_map (f:=rowD) hlt
   have hml:=markL_len (cs.take x) l
   have hmt:=markL_take hlt l
   have hp:=hok _ (List.getElem_mem hlt)
   have e0:IntKind.i64.wrap ((x:Int)+1)=((x+1:Nat):Int):=by rw[wrapI (by omega)];rfl
   generalize cs[x]=p at *
   obtain ⟨pc,pr⟩:=p
   obtain ⟨h3,h4,h5,h6⟩:=hp
   simp only at h3 h4 h5 h6
   change (cs.map rowD)[((x:Nat):Int).toNat]?=some [iD pc,iD pr] at g1
   have w1:IntKind.i64.wrap (pr * 27)=pr * 27:=wrapI (by omega)
   have w2:IntKind.i64.wrap (pr * 27+pc)=pr * 27+pc:=wrapI (by omega)
   have g2:((markL (cs.take x) l).map rowB)[(pr * 27+pc).toNat]?=some (rowB ((markL (cs.take x) l)[(pr * 27+pc).toNat]'(by omega))):=by rw[List.getElem?_map,List.getElem?_eq_getElem (by omega)];rfl
   ((repeat' ((conv=>whnf);first|exact .intro|refine G ?_|intro _|(first|rw[w1]|rw[w2]|refine ⟨Int.natCast_nonneg _,_,g1,?_⟩|refine ⟨⟨by omega,by omega⟩,?_⟩|refine ⟨_,g2,?_⟩)|refine .mk ?_ ?_|refine H ?_|fail));all_goals conv=>whnf)
   all_goals refine ⟨x+1,⟨hlt,by show cs.length - (x+1)<cs.length - x;omega⟩,?_⟩
   all_goals ((repeat' first|exact rfl|((conv=>whnf);first|done|exact suL|refine And.intro ?_ ?_|fail));all_goals conv=>whnf)
   all_goals first|exact ceq e0|(rw[hmt];exact (rowB_set _ _).symm)|skip
  ·have h2:¬ (x:Int)<((cs.map rowD).length:Nat):=by omega
   obtain rfl:x=cs.length:=by omega
   ((repeat' ((conv=>whnf);first|exact .intro|refine G ?_|intro _|refine .mk ?_ ?_|refine H ?_|fail));all_goals conv=>whnf)
   refine ⟨{ σ:=Nat,fr:=fun x=>[(6,.c (.d (iD (x:Int))))],ks:=[],L:=fun x=>[],ex:=0,I:=fun x=>x=0,μ:=fun x=>0 },⟨0,rfl,?_⟩,fun (x:Nat) hx=>?_⟩
   ·((repeat' first|exact rfl|((conv=>whnf);first|done|exact suL|refine And.intro ?_ ?_|fail));all_goals conv=>whnf)
   ·obtain rfl:x=0:=hx
    have h0:¬ ((0:Nat):Int)<((Nd.csL []).length:Nat):=by decide
    ((repeat' ((conv=>whnf);first|exact .intro|refine G ?_|intro _|refine .mk ?_ ?_|refine H ?_|fail));all_goals conv=>whnf)
    all_goals ((repeat' first|exact rfl|((conv=>whnf);first|done|exact suL|refine And.intro ?_ ?_|fail));all_goals conv=>whnf)
    all_goals first|(rw[List.take_length];done)|skip
theorem seen_k (k m:Int) (t:List UInt8) (a b:Rf) (ks:List Nd) (h5:¬ k=5) (h6:¬ k=6) (hc:cntN (.mk k m t a b ks)≤200) (ih:∀ x (h:x<ks.length),SeOk gl ks[x]):SeOk gl (.mk k m t a b ks):=fun l hl=>by
 have hcN:cellsN (.mk k m t a b ks)=cellsK ks:=by simp[cellsN,ownC,h5,h6]
 rw[hcN]
 have hlen:=kid_len ks
 have hlk:=len_cnt ks
 unfold cntN at hc
 refine S1 Tryz.func37 rfl ?_
 ((repeat' ((conv=>whnf);first|exact .intro|refine G ?_|intro _|refine .mk ?_ ?_|refine H ?_|fail));all_goals conv=>whnf)
 refine ⟨{ σ:=Nat,fr:=fun x=>[(6,.c (.d (iD (x:Int))))],ks:=[0],L:=fun x=>mkH (markL (cellsK (ks.take x)) l),ex:=0,I:=fun x=>x≤ks.length,μ:=fun x=>ks.length - x },⟨0,Nat.zero_le _,?_⟩,fun (x:Nat) hx=>?_⟩
 ·((repeat' first|exact rfl|((conv=>whnf);first|done|exact suL|refine And.intro ?_ ?_|fail));all_goals conv=>whnf)
  all_goals first|(simp[cellsK,markL];done)|skip
 ·replace hx:x≤ks.length:=hx
  by_cases hlt:x<ks.length
  ·have h2:(x:Int)<((Nd.csL ks).length:Nat):=by omega
   have g1:=kid_get hlt
   have c1:=ih x hlt (markL (cellsK (ks.take x)) l) (by rw[markL_len];exact hl)
   have hct:=cellsK_take hlt
   have e0:IntKind.i64.wrap ((x:Int)+1)=((x+1:Nat):Int):=by rw[wrapI (by omega)];rfl
   generalize ks[x]=q at *
   obtain ⟨k1,m1,t1,a1,b1,ks1⟩:=q
   change (Nd.csL ks)[((x:Nat):Int).toNat]?=some [iD k1,iD m1,.str t1,iD a1.c,iD a1.r,tD a1.fc,tD a1.fr,iD b1.c,iD b1.r,tD b1.fc,tD b1.fr,.lst 12 (Nd.csL ks1)] at g1
   ((repeat' ((conv=>whnf);first|exact .intro|refine G ?_|intro _|refine C5 c1 [0] ?_|(refine ⟨Int.natCast_nonneg _,_,g1,?_⟩)|refine .mk ?_ ?_|refine H ?_|fail));all_goals conv=>whnf)
   all_goals refine ⟨x+1,⟨hlt,by show ks.length - (x+1)<ks.length - x;omega⟩,?_⟩
   all_goals ((repeat' first|exact rfl|((conv=>whnf);first|done|exact suL|refine And.intro ?_ ?_|fail));all_goals conv=>whnf)
   all_goals first|exact ceq e0|(rw[hct,markL_app];done)|skip
  ·have h2:¬ (x:Int)<((Nd.csL ks).length:Nat):=by omega
   obtain rfl:x=ks.length:=by omega
   ((repeat' ((conv=>whnf);first|exact .intro|refine G ?_|intro _|refine .mk ?_ ?_|refine H ?_|fail));all_goals conv=>whnf)
   all_goals ((repeat' first|exact rfl|((conv=>whnf);first|done|exact suL|refine And.intro ?_ ?_|fail));all_goals conv=>whnf)
   all_goals first|(rw[List.take_length];done)|skip
theorem seen_h (n:Nd):∀ {box:Prop},frmN n box→cntN n≤200→SeOk gl n:=by
 match n with
 | .mk k m t a b ks =>
  intro box hf hc
  have hcx:∀ x (h:x<ks.length),cntN ks[x]≤200:=fun x h=>by
   have h1:=cntL_take h
   have h2:=cntL_le ks (x+1)
   unfold cntN at hc
   omega
  have hfx:=frm_kid hf
  have ih:∀ x (h:x<ks.length),SeOk gl ks[x]:=fun x h=>seen_h ks[x] (hfx x h).choose_spec (hcx x h)
  by_cases h5:k=5
  ·subst h5
   rw[frm_5] at hf
   obtain rfl:=List.eq_nil_of_length_eq_zero hf.1
   exact seen_5 a b m t hf.2.2.2.2
  by_cases h6:k=6
  ·subst h6
   rw[frm_6] at hf
   obtain rfl:=List.eq_nil_of_length_eq_zero hf.2.1
   exact seen_6 a b m t hf.2.2.2.2.1 hf.2.2.2.2.2
  exact seen_k k m t a b ks h5 h6 hc ih
termination_by SizeOf.sizeOf n
decreasing_by
 simp only[Nd.mk.sizeOf_spec]
 have:=List.sizeOf_lt_of_mem (List.getElem_mem h)
 omega
end
section
open Go Go.EYtfcmhmglpcimiaaGreatDoor
def ofU (m:List Bool) (x:Nat):List (Int×Int):=((List.range x).filter fun i=>m[i]?.getD false).map fun i=>(((i % 27:Nat):Int),((i / 27:Nat):Int))
theorem ofU_succ (m:List Bool) (x:Nat):ofU m (x+1)=if m[x]?.getD false=true then ofU m x++[(((x % 27:Nat):Int),((x / 27:Nat):Int))] else ofU m x:=by
 unfold ofU
 rw[List.range_succ,List.filter_append,List.map_append]
 by_cases h:m[x]?.getD false=true
 ·rw[if_pos h];simp[h]
 ·rw[if_neg h];simp[h]
theorem ofU_len (m:List Bool) (x:Nat):(ofU m x).length≤x:=by
 unfold ofU
 rw[List.length_map]
 exact Nat.le_trans (List.length_filter_le _ _) (by simp)
theorem mark_at:∀ (cs:List (Int×Int)) (m:List Bool) (i:Nat),i<m.length→((markL cs m)[i]?.getD false=true↔m[i]?.getD false=true∨∃ p ∈ cs,markAt p=i)
 | [],m,i,_=>by simp[markL]
 | p::cs,m,i,h=>by
  have ih:=mark_at cs (m.set (markAt p) true) i (by rw[List.length_set];exact h)
  show (markL cs (m.set (markAt p) true))[i]?.getD false=true↔_
  rw[ih,List.getElem?_set]
  by_cases hp:markAt p=i
  ·subst hp
   simp[h]
  ·rw[if_neg hp]
   simp[hp]
end
section
open Go Go.RowKit Go.EYtfcmhmglpcimiaaGreatDoor
def dedC:List (Int×Int)→List (Int×Int)
 | []=>[]
 | [p]=>[p]
 | p::q::l=>if p=q then dedC (q::l) else p::dedC (q::l)
theorem dedC_snoc:∀ {l:List (Int×Int)} {p q:Int×Int},dedC (l++[p,q])=if p=q then dedC (l++[p]) else dedC (l++[p])++[q]
 | [],p,q=>by
  show (if p=q then dedC [q] else p::dedC [q])=_
  by_cases h:p=q
  ·rw[if_pos h,if_pos h,h];rfl
  ·rw[if_neg h,if_neg h];rfl
 | [a],p,q=>by
  show (if a=p then dedC [p,q] else a::dedC [p,q])=if p=q then (if a=p then dedC [p] else a::dedC [p]) else (if a=p then dedC [p] else a::dedC [p])++[q]
  have h:=dedC_snoc (l:=[]) (p:=p) (q:=q)
  simp only[List.nil_append] at h
  rw[h]
  by_cases h1:p=q <;> by_cases h2:a=p <;> simp[h1,h2]
 | a::b::l,p,q=>by
  show (if a=b then dedC (b::(l++[p,q])) else a::dedC (b::(l++[p,q])))=if p=q then (if a=b then dedC (b::(l++[p])) else a::dedC (b::(l++[p]))) else (if a=b then dedC (b::(l++[p])) else a::dedC (b::(l++[p])))++[q]
  have h:=dedC_snoc (l:=b::l) (p:=p) (q:=q)
  simp only[List.cons_append] at h
  rw[h]
  by_cases h1:p=q <;> by_cases h2:a=b <;> simp[h1,h2]
theorem dedC_take {m:List (Int×Int)} {j:Nat} (h0:0<j) (hj:j<m.length):dedC (m.take (j+1))=if m[j - 1]=m[j] then dedC (m.take j) else dedC (m.take j)++[m[j]]:=by
 obtain ⟨i,rfl⟩:∃ i,j=i+1:=⟨j - 1,by omega⟩
 have e0:m.take (i+1+1)=m.take (i+1)++[m[i+1]]:=List.take_succ_eq_append_getElem hj
 have e2':m.take (i+1)=m.take i++[m[i]'(by omega)]:=List.take_succ_eq_append_getElem (by omega)
 have e1:m.take (i+1+1)=m.take i++[m[i]'(by omega),m[i+1]]:=by
  rw[e0,e2',List.append_assoc]
  rfl
 have e2:m.take (i+1)=m.take i++[m[i]]:=List.take_succ_eq_append_getElem (by omega)
 rw[e1,e2,dedC_snoc]
 rfl
theorem dedC_mem:∀ {m:List (Int×Int)} {x:Int×Int},x ∈ dedC m↔x ∈ m
 | [],_=>Iff.rfl
 | [_],_=>Iff.rfl
 | p::q::l,x=>by
  have ih:=dedC_mem (m:=q::l) (x:=x)
  unfold dedC
  split
  ·rename_i h
   rw[ih,h]
   simp
  ·rw[List.mem_cons,ih,List.mem_cons (a:=x) (b:=p)]
theorem dedC_rise:∀ {m:List (Int×Int)},m.Pairwise (fun x y=>¬ lesP y x)→(dedC m).Pairwise lesP
 | [],_=>List.Pairwise.nil
 | [p],_=>List.pairwise_singleton _ _
 | p::q::l,h=>by
  obtain ⟨h1,h2⟩:=List.pairwise_cons.1 h
  have ih:=dedC_rise h2
  unfold dedC
  split
  ·exact ih
  ·rename_i hne
   refine List.pairwise_cons.2 ⟨fun x hx=>?_,ih⟩
   rw[dedC_mem] at hx
   have h3:=h1 q (by simp)
   have hpq:lesP p q:=by
    unfold lesP at *
    have:¬ (p.1=q.1∧p.2=q.2):=fun hh=>hne (Prod.ext hh.1 hh.2)
    omega
   rcases List.mem_cons.1 hx with rfl|hx
   ·exact hpq
   ·have h4:=(List.pairwise_cons.1 h2).1 x hx
    unfold lesP at *
    omega
end
section
open Go Go.EYtfcmhmglpcimiaaGreatDoor
theorem rise_ext:∀ {l m:List (Int×Int)},l.Pairwise lesP→m.Pairwise lesP→(∀ p,p ∈ l↔p ∈ m)→l=m
 | [],[],_,_,_=>rfl
 | [],q::m,_,_,h=>by have:=(h q).2 (by simp);cases this
 | p::l,[],_,_,h=>by have:=(h p).1 (by simp);cases this
 | p::l,q::m,h1,h2,h=>by
  obtain ⟨a1,a2⟩:=List.pairwise_cons.1 h1
  obtain ⟨b1,b2⟩:=List.pairwise_cons.1 h2
  have hpq:p=q:=by
   rcases List.mem_cons.1 ((h p).1 (by simp)) with e|hp
   ·exact e
   ·rcases List.mem_cons.1 ((h q).2 (by simp)) with e|hq
    ·exact e.symm
    ·have:=a1 q hq
     have:=b1 p hp
     unfold lesP at *
     omega
  subst hpq
  refine congrArg (List.cons p) (rise_ext a2 b2 fun x=>⟨fun hx=>?_,fun hx=>?_⟩)
  ·rcases List.mem_cons.1 ((h x).1 (by simp[hx])) with e|hm
   ·have:=a1 x hx
    rw[e] at this
    unfold lesP at this
    omega
   ·exact hm
  ·rcases List.mem_cons.1 ((h x).2 (by simp[hx])) with e|hm
   ·have:=b1 x hx
    rw[e] at this
    unfold lesP at this
    omega
   ·exact hm
theorem marks_sorted (cs:List (Int×Int)) (h:∀ p ∈ cs,okP p.1 p.2):ofU (markL cs (List.replicate 2700 false)) 2700=dedC (sortC cs):=by
 refine rise_ext ?_ (dedC_rise (sortC_sorted cs)) fun p=>?_
 ·unfold ofU
  refine List.pairwise_map.2 (List.Pairwise.filter _ (List.pairwise_lt_range.imp fun {i j} hij=>?_))
  unfold lesP
  simp only
  omega
 ·rw[dedC_mem,sortC_mem]
  unfold ofU
  simp only[List.mem_map,List.mem_filter,List.mem_range]
  constructor
  ·rintro ⟨i,⟨hi,hm⟩,rfl⟩
   rw[mark_at _ _ _ (by simpa using hi)] at hm
   rcases hm with hm|⟨q,hq,he⟩
   ·exact absurd hm (by rw[List.getElem?_replicate,if_pos hi];simp)
   ·obtain ⟨h1,h2,h3,h4⟩:=h q hq
    unfold markAt at he
    have e:((((i % 27:Nat):Int),((i / 27:Nat):Int)):Int×Int)=q:=Prod.ext (by simp only;omega) (by simp only;omega)
    rw[e]
    exact hq
  ·intro hp
   obtain ⟨h1,h2,h3,h4⟩:=h p hp
   refine ⟨markAt p,⟨by unfold markAt;omega,(mark_at _ _ _ (by simp only[List.length_replicate];unfold markAt;omega)).2 (.inr ⟨p,hp,rfl⟩)⟩,?_⟩
   unfold markAt
   exact Prod.ext (by simp only;omega) (by simp only;omega)
end
end Go.Proofs.YtfcmhmglpcimiaaGreatDoor
