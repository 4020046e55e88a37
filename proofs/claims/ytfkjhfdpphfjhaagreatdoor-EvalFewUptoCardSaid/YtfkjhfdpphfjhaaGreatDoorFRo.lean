/- Proved: a part of what the law is proved with (the reckoner, contracts of functions, plain laws). Conditions: as each says. -/
import Derived.Test.YtfkjhfdpphfjhaaGreatDoorFDv
import Derived.Test.YtfkjhfdpphfjhaaGreatDoorFGf
import Derived.Test.YtfkjhfdpphfjhaaGreatDoorFOa
namespace Go.Proofs.YtfkjhfdpphfjhaaGreatDoor
set_option maxRecDepth 100000
section
open Go Go.RowKit Go.EYtfkjhfdpphfjhaaGreatDoor
set_option maxHeartbeats 4000000
variable {gl:List (Nat×List D)}
theorem get2_le {l l':List (List D)} (h:All2 (All2 LeD) l l') {i j:Nat} {d:D} (hg:get2 l' i j=some d):∃ d',get2 l i j=some d'∧LeD d' d:=by
 unfold get2 at hg ⊢
 cases hr:l'[i]? with
 | none=>rw[hr] at hg;cases hg
 | some r' =>
  rw[hr] at hg
  have hg':r'[j]?=some d:=hg
  have hi:i<l.length:=by rw[h.length];exact (List.getElem?_eq_some_iff.1 hr).1
  have hl:l[i]?=some l[i]:=List.getElem?_eq_getElem hi
  have hrr:=h.get2 i _ _ hl hr
  have hj:j<l[i].length:=by rw[hrr.length];exact (List.getElem?_eq_some_iff.1 hg').1
  have hlj:l[i][j]?=some l[i][j]:=List.getElem?_eq_getElem hj
  exact ⟨l[i][j],by rw[hl];exact hlj,hrr.get2 j _ _ hlj hg'⟩
theorem LeD.lst {z:Nat} {l l':List (List D)} (h:All2 (All2 LeD) l l'):LeD (.lst z l) (.lst z l'):=⟨fun M w x hx=>by
 cases hx with
 | lst0 _ a c hc =>
  cases l' with
  | nil=>exact .lst0 _ _ _ hc
  | cons=>exact h.elim
 | lst _ _ b o c cs hb hM hl hc hz hcell hden =>
  rw[h.length]
  refine .lst z l' b o c cs hb hM (by rw[← h.length];exact hl) hc (fun e he=>?_) (fun i j d hg=>?_) (fun i j d hg=>?_)
  ·obtain ⟨i,hi,rfl⟩:=List.getElem_of_mem he
   have hi':i<l.length:=by rw[h.length];exact hi
   rw[← (h.get2 i _ _ (List.getElem?_eq_getElem hi') (List.getElem?_eq_getElem hi)).length]
   exact hz _ (List.getElem_mem hi')
  ·obtain ⟨d',h1,_⟩:=get2_le h hg
   exact hcell i j d' h1
  ·obtain ⟨d',h1,h2⟩:=get2_le h hg
   exact h2.out _ _ _ (hden i j d' h1)⟩
theorem FnP.args {P:Program} {f:Nat} {ds ds':List D} {r:D} (h:FnP P gl f ds r) (hl:All2 LeD ds' ds):FnP P gl f ds' r:=fun w M xs hM hG hd=>h w M xs hM hG (LeDs hl hd)
section
variable (te:TypeId) (pe:Value) (hV:Has (wG gl) (glV te pe)) {mx:Int} (hm':Go.EYtfkjhfdpphfjhaaGreatDoor.look (wG gl) 4=some [iD mx]) (hl':Go.EYtfkjhfdpphfjhaaGreatDoor.look (wG gl) 0=some lvAll)
include hV hm' hl'
end
end
section
open Go Go.EYtfkjhfdpphfjhaaGreatDoor
set_option maxHeartbeats 4000000
variable {gl:List (Nat×List D)}
def markAt (p:Int×Int):Nat:=(p.2 * 27+p.1).toNat
def markL (cs:List (Int×Int)) (m:List Bool):List Bool:=cs.foldl (fun m p=>m.set (markAt p) true) m
theorem markL_app (a b:List (Int×Int)) (m:List Bool):markL (a++b) m=markL b (markL a m):=by unfold markL;rw[List.foldl_append]
theorem markL_len:∀ (cs:List (Int×Int)) (m:List Bool),(markL cs m).length=m.length
 | [],_=>rfl
 | p::cs,m=>by
  show (markL cs (m.set (markAt p) true)).length=_
  rw[markL_len cs,List.length_set]
abbrev rowB (b:Bool):List D:=[.v (.bool b)]
abbrev mkH (m:List Bool):List (Nat×Blk):=[(0,.rows 1 (m.map rowB) 88)]
def SeOk (gl:List (Nat×List D)) (n:Nd):Prop:=∀ m:List Bool,m.length=2700→Go.EYtfkjhfdpphfjhaaGreatDoor.Fn Tryz.prog gl 40 [.agg (ndC n),.c (.ptr 0 0)] (mkH m) 1 (.ret (.tup [])) (mkH (markL (cellsN n) m)) 1 []
theorem rowB_set (m:List Bool) (i:Nat):(m.set i true).map rowB=(m.map rowB).set i [.v (.bool true)]:=List.map_set
theorem seen_5 (a b:Rf) (m:Int) (t:List UInt8) (ha:okP a.c a.r):SeOk gl (.mk 5 m t a b []):=fun l hl=>by
 have hc:cellsN (.mk 5 m t a b [])=[(a.c,a.r)]:=by simp[cellsN,ownC,cellsK]
 rw[hc]
 obtain ⟨h1,h2,h3,h4⟩:=ha
 have w1:IntKind.i64.wrap (a.r * 27)=a.r * 27:=wrapI (by omega)
 have w2:IntKind.i64.wrap (a.r * 27+a.c)=a.r * 27+a.c:=wrapI (by omega)
 have g1:(l.map rowB)[(a.r * 27+a.c).toNat]?=some (rowB (l[(a.r * 27+a.c).toNat]'(by omega))):=by rw[List.getElem?_map,List.getElem?_eq_getElem (by omega)];rfl
 refine S1 Tryz.func40 rfl ?_
 ((repeat' ((conv=>whnf);first|exact .intro|refine G ?_|intro _|(first|rw[w1]|rw[w2]|refine ⟨⟨by omega,by omega⟩,?_⟩|refine ⟨_,g1,?_⟩)|refine .mk ?_ ?_|refine H ?_|fail));all_goals conv=>whnf)
 refine ⟨{ σ:=Nat,fr:=fun x=>[(6,.c (.d (iD (x:Int))))],ks:=[],L:=fun x=>[],ex:=0,I:=fun x=>x=0,μ:=fun x=>0 },⟨0,rfl,?_⟩,fun (x:Nat) hx=>?_⟩
 ·((repeat' first|exact rfl|((conv=>whnf);first|done|exact suL|refine And.intro ?_ ?_|fail));all_goals conv=>whnf)
 ·obtain rfl:x=0:=hx
  have h0:¬ ((0:Nat):Int)<((Nd.csL []).length:Nat):=by decide
  ((repeat' ((conv=>whnf);first|exact .intro|refine G ?_|intro _|refine .mk ?_ ?_|refine H ?_|fail));all_goals conv=>whnf)
  all_goals ((repeat' first|exact rfl|((conv=>whnf);first|done|exact suL|refine And.intro ?_ ?_|fail));all_goals conv=>whnf)
  all_goals first|exact (rowB_set l _).symm|skip
theorem markL_take {cs:List (Int×Int)} {x:Nat} (h:x<cs.length) (m:List Bool):markL (cs.take (x+1)) m=(markL (cs.take x) m).set (markAt cs[x]) true:=by
 rw[List.take_succ_eq_append_getElem h,markL_app]
 rfl
theorem seen_6 (a b:Rf) (m:Int) (t:List UInt8) (ha:okP a.c a.r) (hb:okP b.c b.r):SeOk gl (.mk 6 m t a b []):=fun l hl=>by
 have hc:cellsN (.mk 6 m t a b [])=boxC a b:=by simp[cellsN,ownC,cellsK]
 rw[hc]
 have hrb:((boxC a b).map rowD).length=(boxC a b).length:=List.length_map _
 have hbl:=boxC_len ha hb
 have hok:=boxC_ok ha hb
 have c1:=Corners_d (gl:=gl) a.c a.r b.c b.r
 have c2:FnP Tryz.prog gl 67 [boxD (min a.c b.c) (min a.r b.r) (max a.c b.c) (max a.r b.r)] (.lst 2 ((boxC a b).map rowD)):=refCells_s (boxC_box ha hb)
 generalize boxC a b=cs at *
 refine S1 Tryz.func40 rfl ?_
 ((repeat' ((conv=>whnf);first|exact .intro|refine G ?_|intro _|refine C1 c1 ?_|refine C1 c2 ?_|refine .mk ?_ ?_|refine H ?_|fail));all_goals conv=>whnf)
 refine ⟨{ σ:=Nat,fr:=fun x=>[(5,.c (.d (iD (x:Int))))],ks:=[0],L:=fun x=>mkH (markL (cs.take x) l),ex:=0,I:=fun x=>x≤cs.length,μ:=fun x=>cs.length - x },⟨0,Nat.zero_le _,?_⟩,fun (x:Nat) hx=>?_⟩
 ·((repeat' first|exact rfl|((conv=>whnf);first|done|exact suL|refine And.intro ?_ ?_|fail));all_goals conv=>whnf)
 ·replace hx:x≤cs.length:=hx
  by_cases hlt:x<cs.length
  ·have h2:(x:Int)<((cs.map rowD).length:Nat):=by omega
   have g1:=get_map (f:=rowD) hlt
   have hml:=markL_len (cs.take x) l
   have hmt:=markL_take hlt l
   have hp:=hok _ (List.getElem_mem hlt)
   have e0:IntKind.i64.wrap ((x:Int)+1)=((x+1:Nat):Int):=by rw[wrapI (by omega)];rfl
   generalize cs[x]=p at *
   obtain ⟨pc,pr⟩:=p
   obtain ⟨h3,h4,h5,h6⟩:=hp
   simp only at h3 h4 h5 h6
   change (cs.map rowD)[((x:Nat):Int).toNat]?=some [iD pc,iD pr] at g1
   have w1:IntKind.i64.wrap (pr * 27)=pr * 27:=wrapI (by omega)
   have w2:IntKind.i64.wrap (pr * 27+pc)=pr * 27+pc:=wrapI (by omega)
   have g2:((markL (cs.take x) l).map rowB)[(pr * 27+pc).toNat]?=some (rowB ((markL (cs.take x) l)[(pr * 27+pc).toNat]'(by omega))):=by rw[List.getElem?_map,List.getElem?_eq_getElem (by omega)];rfl
   ((repeat' ((conv=>whnf);first|exact .intro|refine G ?_|intro _|(first|rw[w1]|rw[w2]|refine ⟨Int.natCast_nonneg _,_,g1,?_⟩|refine ⟨⟨by omega,by omega⟩,?_⟩|refine ⟨_,g2,?_⟩)|refine .mk ?_ ?_|refine H ?_|fail));all_goals conv=>whnf)
   all_goals refine ⟨x+1,⟨hlt,by show cs.length - (x+1)<cs.length - x;omega⟩,?_⟩
   all_goals ((repeat' first|exact rfl|((conv=>whnf);first|done|exact suL|refine And.intro ?_ ?_|fail));all_goals conv=>whnf)
   all_goals first|exact ceq e0|(rw[hmt];exact (rowB_set _ _).symm)|skip
  ·have h2:¬ (x:Int)<((cs.map rowD).length:Nat):=by omega
   obtain rfl:x=cs.length:=by omega
   ((repeat' ((conv=>whnf);first|exact .intro|refine G ?_|intro _|refine .mk ?_ ?_|refine H ?_|fail));all_goals conv=>whnf)
   refine ⟨{ σ:=Nat,fr:=fun x=>[(6,.c (.d (iD (x:Int))))],ks:=[],L:=fun x=>[],ex:=0,I:=fun x=>x=0,μ:=fun x=>0 },⟨0,rfl,?_⟩,fun (x:Nat) hx=>?_⟩
   ·((repeat' first|exact rfl|((conv=>whnf);first|done|exact suL|refine And.intro ?_ ?_|fail));all_goals conv=>whnf)
   ·obtain rfl:x=0:=hx
    have h0:¬ ((0:Nat):Int)<((Nd.csL []).length:Nat):=by decide
    ((repeat' ((conv=>whnf);first|exact .intro|refine G ?_|intro _|refine .mk ?_ ?_|refine H ?_|fail));all_goals conv=>whnf)
    all_goals ((repeat' first|exact rfl|((conv=>whnf);first|done|exact suL|refine And.intro ?_ ?_|fail));all_goals conv=>whnf)
    all_goals first|(rw[List.take_length];done)|skip
theorem seen_k (k m:Int) (t:List UInt8) (a b:Rf) (ks:List Nd) (h5:¬ k=5) (h6:¬ k=6) (hc:cntN (.mk k m t a b ks)≤200) (ih:∀ x (h:x<ks.length),SeOk gl ks[x]):SeOk gl (.mk k m t a b ks):=fun l hl=>by
 have hcN:cellsN (.mk k m t a b ks)=cellsK ks:=by simp[cellsN,ownC,h5,h6]
 rw[hcN]
 have hlen:=kid_len ks
 have hlk:=len_cnt ks
 unfold cntN at hc
 refine S1 Tryz.func40 rfl ?_
 ((repeat' ((conv=>whnf);first|exact .intro|refine G ?_|intro _|refine .mk ?_ ?_|refine H ?_|fail));all_goals conv=>whnf)
 refine ⟨{ σ:=Nat,fr:=fun x=>[(6,.c (.d (iD (x:Int))))],ks:=[0],L:=fun x=>mkH (markL (cellsK (ks.take x)) l),ex:=0,I:=fun x=>x≤ks.length,μ:=fun x=>ks.length - x },⟨0,Nat.zero_le _,?_⟩,fun (x:Nat) hx=>?_⟩
 ·((repeat' first|exact rfl|((conv=>whnf);first|done|exact suL|refine And.intro ?_ ?_|fail));all_goals conv=>whnf)
  all_goals first|(simp[cellsK,markL];done)|skip
 ·replace hx:x≤ks.length:=hx
  by_cases hlt:x<ks.length
  ·have h2:(x:Int)<((Nd.csL ks).length:Nat):=by omega
   have g1:=kid_get hlt
   have c1:=ih x hlt (markL (cellsK (ks.take x)) l) (by rw[markL_len];exact hl)
   have hct:=cellsK_take hlt
   have e0:IntKind.i64.wrap ((x:Int)+1)=((x+1:Nat):Int):=by rw[wrapI (by omega)];rfl
   generalize ks[x]=q at *
   obtain ⟨k1,m1,t1,a1,b1,ks1⟩:=q
   change (Nd.csL ks)[((x:Nat):Int).toNat]?=some [iD k1,iD m1,.str t1,iD a1.c,iD a1.r,tD a1.fc,tD a1.fr,iD b1.c,iD b1.r,tD b1.fc,tD b1.fr,.lst 12 (Nd.csL ks1)] at g1
   ((repeat' ((conv=>whnf);first|exact .intro|refine G ?_|intro _|refine C5 c1 [0] ?_|(refine ⟨Int.natCast_nonneg _,_,g1,?_⟩)|refine .mk ?_ ?_|refine H ?_|fail));all_goals conv=>whnf)
   all_goals refine ⟨x+1,⟨hlt,by show ks.length - (x+1)<ks.length - x;omega⟩,?_⟩
   all_goals ((repeat' first|exact rfl|((conv=>whnf);first|done|exact suL|refine And.intro ?_ ?_|fail));all_goals conv=>whnf)
   all_goals first|exact ceq e0|(rw[hct,markL_app];done)|skip
  ·have h2:¬ (x:Int)<((Nd.csL ks).length:Nat):=by omega
   obtain rfl:x=ks.length:=by omega
   ((repeat' ((conv=>whnf);first|exact .intro|refine G ?_|intro _|refine .mk ?_ ?_|refine H ?_|fail));all_goals conv=>whnf)
   all_goals ((repeat' first|exact rfl|((conv=>whnf);first|done|exact suL|refine And.intro ?_ ?_|fail));all_goals conv=>whnf)
   all_goals first|(rw[List.take_length];done)|skip
theorem seen_h (n:Nd):∀ {box:Prop},frmN n box→cntN n≤200→SeOk gl n:=by
 match n with
 | .mk k m t a b ks =>
  intro box hf hc
  have hcx:∀ x (h:x<ks.length),cntN ks[x]≤200:=fun x h=>by
   have h1:=cntL_take h
   have h2:=cntL_le ks (x+1)
   unfold cntN at hc
   omega
  have hfx:=frm_kid hf
  have ih:∀ x (h:x<ks.length),SeOk gl ks[x]:=fun x h=>seen_h ks[x] (hfx x h).choose_spec (hcx x h)
  by_cases h5:k=5
  ·subst h5
   rw[frm_5] at hf
   obtain rfl:=List.eq_nil_of_length_eq_zero hf.1
   exact seen_5 a b m t hf.2.2.2.2
  by_cases h6:k=6
  ·subst h6
   rw[frm_6] at hf
   obtain rfl:=List.eq_nil_of_length_eq_zero hf.2.1
   exact seen_6 a b m t hf.2.2.2.2.1 hf.2.2.2.2.2
  exact seen_k k m t a b ks h5 h6 hc ih
termination_by SizeOf.sizeOf n
decreasing_by
 simp only[Nd.mk.sizeOf_spec]
 have:=List.sizeOf_lt_of_mem (List.getElem_mem h)
 omega
end
section
open Go Go.EYtfkjhfdpphfjhaaGreatDoor
def ofU (m:List Bool) (x:Nat):List (Int×Int):=((List.range x).filter fun i=>m[i]?.getD false).map fun i=>(((i % 27:Nat):Int),((i / 27:Nat):Int))
theorem ofU_succ (m:List Bool) (x:Nat):ofU m (x+1)=if m[x]?.getD false=true then ofU m x++[(((x % 27:Nat):Int),((x / 27:Nat):Int))] else ofU m x:=by
 unfold ofU
 rw[List.range_succ,List.filter_append,List.map_append]
 by_cases h:m[x]?.getD false=true
 ·rw[if_pos h];simp[h]
 ·rw[if_neg h];simp[h]
theorem ofU_len (m:List Bool) (x:Nat):(ofU m x).length≤x:=by
 unfold ofU
 rw[List.length_map]
 exact Nat.le_trans (List.length_filter_le _ _) (by simp)
theorem mark_at:∀ (cs:List (Int×Int)) (m:List Bool) (i:Nat),i<m.length→((markL cs m)[i]?.getD false=true↔m[i]?.getD false=true∨∃ p ∈ cs,markAt p=i)
 | [],m,i,_=>by simp[markL]
 | p::cs,m,i,h=>by
  have ih:=mark_at cs (m.set (markAt p) true) i (by rw[List.length_set];exact h)
  show (markL cs (m.set (markAt p) true))[i]?.getD false=true↔_
  rw[ih,List.getElem?_set]
  by_cases hp:markAt p=i
  ·subst hp
   simp[h]
  ·rw[if_neg hp]
   simp[hp]
theorem ofU_mem {cs:List (Int×Int)} (h:∀ p ∈ cs,okP p.1 p.2) {p:Int×Int}:p ∈ ofU (markL cs (List.replicate 2700 false)) 2700↔p ∈ cs:=by
 unfold ofU
 simp only[List.mem_map,List.mem_filter,List.mem_range]
 constructor
 ·rintro ⟨i,⟨hi,hm⟩,rfl⟩
  rw[mark_at _ _ _ (by simpa using hi)] at hm
  rcases hm with hm|⟨q,hq,he⟩
  ·exact absurd hm (by rw[List.getElem?_replicate,if_pos hi];simp)
  ·obtain ⟨h1,h2,h3,h4⟩:=h q hq
   unfold markAt at he
   have e:((((i % 27:Nat):Int),((i / 27:Nat):Int)):Int×Int)=q:=Prod.ext (by simp only;omega) (by simp only;omega)
   rw[e]
   exact hq
 ·intro hp
  obtain ⟨h1,h2,h3,h4⟩:=h p hp
  refine ⟨markAt p,⟨by unfold markAt;omega,(mark_at _ _ _ (by simp only[List.length_replicate];unfold markAt;omega)).2 (.inr ⟨p,hp,rfl⟩)⟩,?_⟩
  unfold markAt
  exact Prod.ext (by simp only;omega) (by simp only;omega)
end
section
open Go Go.EYtfkjhfdpphfjhaaGreatDoor
set_option maxHeartbeats 4000000
variable {gl:List (Nat×List D)}
theorem Has_r (m:List (Int×Int)) (c r:Int) (hm:m.length≤9223372036854775806):FnP Tryz.prog gl 14 [.lst 2 (m.map rowC),cellD c r] (.b ((c,r) ∈ m) inferInstance):=by
 refine S0 Tryz.func14 rfl ?_
 ((repeat' ((conv=>whnf);first|exact .intro|refine G ?_|intro _|refine .mk ?_ ?_|refine H ?_|fail));all_goals conv=>whnf)
 refine ⟨{ σ:=Nat,fr:=fun k=>[(5,.c (.d (iD k)))],ks:=[],L:=fun _=>[],ex:=0,I:=fun k=>k≤m.length∧(c,r) ∉ m.take k,μ:=fun k=>m.length - k },⟨0,⟨Nat.zero_le _,by simp⟩,?_⟩,fun (k:Nat) hk=>?_⟩
 ·((repeat' first|exact rfl|((conv=>whnf);first|done|exact suL|refine And.intro ?_ ?_|fail));all_goals conv=>whnf)
 ·obtain ⟨hk1,hk2⟩:=hk
  by_cases hlt:k<m.length
  ·have h2:(k:Int)<((m.map rowC).length:Nat):=by rw[List.length_map];omega
   ((repeat' ((conv=>whnf);first|exact .intro|refine G ?_|intro _|(refine ⟨Int.natCast_nonneg _,_,get_map hlt,?_⟩)|refine .mk ?_ ?_|refine H ?_|fail));all_goals conv=>whnf)
   ·rename_i h
    exact LeD.bt (by rw[show (c,r)=m[k] from Prod.ext h.1.symm h.2.1.symm];exact List.getElem_mem hlt)
   ·rename_i h
    refine ⟨k+1,⟨⟨hlt,?_⟩,by show m.length - (k+1)<m.length - k;omega⟩,?_⟩
    ·rw[List.take_succ_eq_append_getElem hlt]
     intro hh
     rcases List.mem_append.1 hh with hh|hh
     ·exact hk2 hh
     ·have:=List.mem_singleton.1 hh
      exact h ⟨by rw[← this],by rw[← this],trivial⟩
    ·((repeat' first|exact rfl|((conv=>whnf);first|done|exact suL|refine And.intro ?_ ?_|fail));all_goals conv=>whnf)
     exact ceq (show IntKind.i64.wrap ((k:Int)+1)=((k+1:Nat):Int) by rw[wrapI (by omega)];rfl)
  ·have h2:¬ (k:Int)<((m.map rowC).length:Nat):=by rw[List.length_map];omega
   ((repeat' ((conv=>whnf);first|exact .intro|refine G ?_|intro _|refine .mk ?_ ?_|refine H ?_|fail));all_goals conv=>whnf)
   exact LeD.bf (by rwa [List.take_of_length_le (by omega)] at hk2)
theorem rOf_u (n:Nd) {box:Prop} (hf:frmN n box) (hc:cntN n≤200):FnP Tryz.prog gl 13 [.agg n.cs] (.lst 2 ((ofU (markL (cellsN n) (List.replicate 2700 false)) 2700).map rowC)):=by
 have c0:=seen_h (gl:=gl) n hf hc (List.replicate 2700 false) List.length_replicate
 have hml:=markL_len (cellsN n) (List.replicate 2700 false)
 rw[List.length_replicate] at hml
 generalize markL (cellsN n) (List.replicate 2700 false)=ms at *
 obtain ⟨k,m,t,a,b,ks⟩:=n
 refine S0 Tryz.func13 rfl ?_
 ((repeat' ((conv=>whnf);first|exact .intro|refine G ?_|intro _|refine C5 c0 [1] ?_|refine .mk ?_ ?_|refine H ?_|fail));all_goals conv=>whnf)
 refine ⟨{ σ:=Nat,fr:=fun x=>[(5,.c (.d (iD (x:Int)))),(4,.c (.all 2 2))],ks:=[],L:=fun x=>[(2,.rows 2 ((ofU ms x).map rowC) 23)],ex:=1,I:=fun x=>x≤2700,μ:=fun x=>2700 - x },⟨0,Nat.zero_le _,?_⟩,fun (x:Nat) hx=>?_⟩
 ·((repeat' first|exact rfl|((conv=>whnf);first|done|exact suL|refine And.intro ?_ ?_|fail));all_goals conv=>whnf)
  all_goals first|exact .inr (.inr (.inl ⟨rfl,2,2,rfl,by decide⟩))|exact ⟨2,_,rfl,by decide,by decide⟩|skip
 ·replace hx:x≤2700:=hx
  by_cases hlt:x<2700
  ·have h2:(x:Int)<2700:=by omega
   have g1:=get_map (f:=rowB) (show x<ms.length by omega)
   have hsu:=ofU_succ ms x
   rw[List.getElem?_eq_getElem (by omega),Option.getD_some] at hsu
   have hol:=ofU_len ms x
   have hrl:((ofU ms x).map rowC).length=(ofU ms x).length:=List.length_map _
   have b1:(((ofU ms x).map rowC).length+1) * 16≤140737488355328:=by omega
   have b2:((ofU ms x).map rowC).length+1≤maxLen:=by unfold maxLen;omega
   have e0:IntKind.i64.wrap ((x:Int)+1)=((x+1:Nat):Int):=by rw[wrapI (by omega)];rfl
   have e3:(x:Int).tmod 27=((x % 27:Nat):Int):=(Int.ofNat_tmod x 27).symm
   have e4:IntKind.i64.wrap ((x:Int).tdiv 27)=((x / 27:Nat):Int):=by
    have h:(x:Int).tdiv 27=((x / 27:Nat):Int):=(Int.ofNat_tdiv x 27).symm
    rw[h]
    exact wrapI (by omega)
   generalize ms[x]'(by omega)=b at *
   cases b with
   | true =>
    rw[if_pos rfl] at hsu
    ((repeat' ((conv=>whnf);first|exact .intro|refine G ?_|intro _|(first|refine ⟨⟨Int.natCast_nonneg _,h2⟩,?_⟩|refine ⟨_,g1,?_⟩|refine ⟨⟨rfl,b1,b2⟩,?_⟩)|refine .mk ?_ ?_|refine H ?_|fail));all_goals conv=>whnf)
    all_goals refine ⟨x+1,⟨hlt,by show 2700 - (x+1)<2700 - x;omega⟩,?_⟩
    all_goals ((repeat' first|exact rfl|((conv=>whnf);first|done|exact suL|refine And.intro ?_ ?_|fail));all_goals conv=>whnf)
    all_goals first|exact ceq e0|(rw[hsu,List.map_append,e3,e4];rfl)|skip
   | false =>
    rw[if_neg (by simp)] at hsu
    ((repeat' ((conv=>whnf);first|exact .intro|refine G ?_|intro _|(first|refine ⟨⟨Int.natCast_nonneg _,h2⟩,?_⟩|refine ⟨_,g1,?_⟩)|refine .mk ?_ ?_|refine H ?_|fail));all_goals conv=>whnf)
    all_goals refine ⟨x+1,⟨hlt,by show 2700 - (x+1)<2700 - x;omega⟩,?_⟩
    all_goals ((repeat' first|exact rfl|((conv=>whnf);first|done|exact suL|refine And.intro ?_ ?_|fail));all_goals conv=>whnf)
    all_goals first|exact ceq e0|(rw[hsu];done)|skip
  ·have h2:¬ (x:Int)<2700:=by omega
   obtain rfl:x=2700:=by omega
   ((repeat' ((conv=>whnf);first|exact .intro|refine G ?_|intro _|refine .mk ?_ ?_|refine H ?_|fail));all_goals conv=>whnf)
   all_goals exact LeD.rfl
end
end Go.Proofs.YtfkjhfdpphfjhaaGreatDoor
