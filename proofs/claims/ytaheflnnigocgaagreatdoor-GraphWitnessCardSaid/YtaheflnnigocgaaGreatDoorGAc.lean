/- Proved: a part of what the law is proved with (the reckoner, contracts of functions, plain laws). Conditions: as each says. -/
import Derived.Test.YtaheflnnigocgaaGreatDoorGCa
import Derived.Test.YtaheflnnigocgaaGreatDoorGET
import Derived.Test.YtaheflnnigocgaaGreatDoorGEr
import Derived.Test.YtaheflnnigocgaaGreatDoorGTjm
section
namespace Go.Proofs.YtaheflnnigocgaaGreatDoor
open Go Go.EYtaheflnnigocgaaGreatDoor
theorem fitG1:FitsOne Tryz.prog 91 ⟨false,1,8,[.v .nilFunc],[],false,none,none,0,[],false,[]⟩:=⟨by kernel_rfl,rfl,rfl,by kernel_rfl,(fun h=>by cases h),by kernel_rfl⟩
theorem fitsG:Fits Tryz.prog ((91,⟨false,1,8,[.v .nilFunc],[],false,none,none,0,[],false,[]⟩)::tt) :=
 fits_cons fitG1 fits
end Go.Proofs.YtaheflnnigocgaaGreatDoor
end
section
namespace Go.Proofs.YtaheflnnigocgaaGreatDoor
open Go Go.EYtaheflnnigocgaaGreatDoor
set_option maxRecDepth 100000
set_option maxHeartbeats 4000000
variable {gl:List (Nat×List D)}
abbrev lkH (l:List (Int×Int)):List (Nat×Blk):=[(0,.var [.all 2 1] 39),(1,.rows 2 (l.map rowC) 24),(2,.var [.fn 39 [(0,0),(2,0)]] 91)]
theorem rowC_one:∀ l:List (Int×Int),allOne (l.map rowC)=true
 | []=>rfl
 | _::l=>rowC_one l
def LkOk (gl:List (Nat×List D)) (n:Nd):Prop:=∀ l:List (Int×Int),l.length+2574 * cntN n≤1048576→Go.EYtaheflnnigocgaaGreatDoor.Fn Tryz.prog gl 39 [.agg (ndC n),.c (.ptr 0 0),.c (.ptr 2 0)] (lkH l) 3 (.ret (.tup [])) (lkH (l++cellsN n)) 3 [1]
theorem look_5 (a b:Rf) (m:Int) (t:List UInt8):LkOk gl (.mk 5 m t a b []):=fun l hl=>by
 have hc:cellsN (.mk 5 m t a b [])=[(a.c,a.r)]:=by simp[cellsN,ownC,cellsK]
 have hn:cntN (.mk 5 m t a b [])=1:=by simp[cntN,cntL]
 rw[hn] at hl
 rw[hc]
 have hrl:(l.map rowC).length=l.length:=List.length_map _
 have b1:((l.map rowC).length+1) * 16≤140737488355328:=by omega
 have b2:(l.map rowC).length+1≤maxLen:=by unfold maxLen;omega
 refine fn_of_vc (nv:=9999) (cu:=[]) fitsG mixed Tryz.func39 rfl hoB rfl rfl rfl rfl ?_
 ((repeat' ((conv=>whnf);first|exact .intro|refine .ya ?_|refine .na ?_|refine .ys ?_|refine .ns ?_|refine .neg (fun _=>?_) (fun _=>?_)|refine .mk (fun _=>?_) (fun _=>?_)|(refine ⟨⟨rfl,b1,b2⟩,?_⟩)|refine .mk ?_ ?_|refine AK ?_|refine AT ?_|fail));all_goals conv=>whnf)
 refine ⟨{ σ:=Nat,fr:=fun x=>[(43,.c (.d (iD (x:Int))))],ks:=[],L:=fun x=>[],ex:=0,I:=fun x=>x=0,μ:=fun x=>0 },⟨0,rfl,?_⟩,fun (x:Nat) hx=>?_⟩
 ·((repeat' first|exact rfl|((conv=>whnf);first|done|exact suL|refine And.intro ?_ ?_|fail));all_goals conv=>whnf)
 ·obtain rfl:x=0:=hx
  have h0:¬ ((0:Nat):Int)<((Nd.csL []).length:Nat):=by decide
  ((repeat' ((conv=>whnf);first|exact .intro|refine .ya ?_|refine .na ?_|refine .ys ?_|refine .ns ?_|refine .neg (fun _=>?_) (fun _=>?_)|refine .mk (fun _=>?_) (fun _=>?_)|refine .mk ?_ ?_|refine AK ?_|refine AT ?_|fail));all_goals conv=>whnf)
  all_goals ((repeat' first|exact rfl|((conv=>whnf);first|done|exact suL|refine And.intro ?_ ?_|fail));all_goals conv=>whnf)
  all_goals first|(rw[List.map_append];rfl)|skip
theorem look_6 (a b:Rf) (m:Int) (t:List UInt8) (ha:okP a.c a.r) (hb:okP b.c b.r):LkOk gl (.mk 6 m t a b []):=fun l hl=>by
 have hc:cellsN (.mk 6 m t a b [])=boxC a b:=by simp[cellsN,ownC,cellsK]
 have hn:cntN (.mk 6 m t a b [])=1:=by simp[cntN,cntL]
 rw[hn] at hl
 rw[hc]
 have hrl:(l.map rowC).length=l.length:=List.length_map _
 have hbl:=boxC_len ha hb
 have hrb:((boxC a b).map rowC).length=(boxC a b).length:=List.length_map _
 have b1:((l.map rowC).length+((boxC a b).map rowC).length) * 16≤140737488355328:=by omega
 have b2:(l.map rowC).length+((boxC a b).map rowC).length≤maxLen:=by unfold maxLen;omega
 have b3:allOne ((boxC a b).map rowC)=true:=rowC_one _
 have c1:FnP Tryz.prog gl 40 [cellD a.c a.r,cellD b.c b.r] (.tup [boxD (min a.c b.c) (min a.r b.r) (max a.c b.c) (max a.r b.r),.v .nilIface]):=Box_s ha hb
 have c2:FnP Tryz.prog gl 41 [boxD (min a.c b.c) (min a.r b.r) (max a.c b.c) (max a.r b.r)] (.tup [.lst 2 ((boxC a b).map rowC),.v .nilIface]):=Cells_s (boxC_box ha hb)
 generalize boxC a b=cs at *
 refine fn_of_vc (nv:=9999) (cu:=[]) fitsG mixed Tryz.func39 rfl hoB rfl rfl rfl rfl ?_
 ((repeat' ((conv=>whnf);first|exact .intro|refine .ya ?_|refine .na ?_|refine .ys ?_|refine .ns ?_|refine .neg (fun _=>?_) (fun _=>?_)|refine .mk (fun _=>?_) (fun _=>?_)|refine .inl (.inl (X1 (by first|exact c1|exact c2) ?_))|refine .inl (X1 (by first|exact c1|exact c2) ?_)|refine X1 (by first|exact c1|exact c2) ?_|(refine ⟨⟨b3,b1,b2⟩,?_⟩)|refine .mk ?_ ?_|refine AK ?_|refine AT ?_|fail));all_goals conv=>whnf)
 refine ⟨{ σ:=Nat,fr:=fun x=>[(43,.c (.d (iD (x:Int))))],ks:=[],L:=fun x=>[],ex:=0,I:=fun x=>x=0,μ:=fun x=>0 },⟨0,rfl,?_⟩,fun (x:Nat) hx=>?_⟩
 ·((repeat' first|exact rfl|((conv=>whnf);first|done|exact suL|refine And.intro ?_ ?_|fail));all_goals conv=>whnf)
 ·obtain rfl:x=0:=hx
  have h0:¬ ((0:Nat):Int)<((Nd.csL []).length:Nat):=by decide
  ((repeat' ((conv=>whnf);first|exact .intro|refine .ya ?_|refine .na ?_|refine .ys ?_|refine .ns ?_|refine .neg (fun _=>?_) (fun _=>?_)|refine .mk (fun _=>?_) (fun _=>?_)|refine .mk ?_ ?_|refine AK ?_|refine AT ?_|fail));all_goals conv=>whnf)
  all_goals ((repeat' first|exact rfl|((conv=>whnf);first|done|exact suL|refine And.intro ?_ ?_|fail));all_goals conv=>whnf)
  all_goals first|(rw[List.map_append];rfl)|(rw[List.map_append];done)|skip
theorem look_k (k m:Int) (t:List UInt8) (a b:Rf) (ks:List Nd) (h5:¬ k=5) (h6:¬ k=6) (_hc:cntN (.mk k m t a b ks)≤200) (hfew:∀ x,x≤ks.length→(cellsK (ks.take x)).length≤2574 * cntL (ks.take x)) (ih:∀ x (h:x<ks.length),LkOk gl ks[x]):LkOk gl (.mk k m t a b ks):=fun l hl=>by
 have hcN:cellsN (.mk k m t a b ks)=cellsK ks:=by simp[cellsN,ownC,h5,h6]
 rw[hcN]
 have hlen:=kid_len ks
 have hlk:=len_cnt ks
 unfold cntN at hl _hc
 refine fn_of_vc (nv:=9999) (cu:=[]) fitsG mixed Tryz.func39 rfl hoB rfl rfl rfl rfl ?_
 ((repeat' ((conv=>whnf);first|exact .intro|refine .ya ?_|refine .na ?_|refine .ys ?_|refine .ns ?_|refine .neg (fun _=>?_) (fun _=>?_)|refine .mk (fun _=>?_) (fun _=>?_)|refine .mk ?_ ?_|refine AK ?_|refine AT ?_|fail));all_goals conv=>whnf)
 refine ⟨{ σ:=Nat,fr:=fun x=>[(43,.c (.d (iD (x:Int))))],ks:=[1],L:=fun x=>[(1,.rows 2 ((l++cellsK (ks.take x)).map rowC) 24)],ex:=0,I:=fun x=>x≤ks.length,μ:=fun x=>ks.length - x },⟨0,Nat.zero_le _,?_⟩,fun (x:Nat) hx=>?_⟩
 ·((repeat' first|exact rfl|((conv=>whnf);first|done|exact suL|refine And.intro ?_ ?_|fail));all_goals conv=>whnf)
  all_goals first|(simp[cellsK];done)|skip
 ·replace hx:x≤ks.length:=hx
  by_cases hlt:x<ks.length
  ·have h2:(x:Int)<((Nd.csL ks).length:Nat):=by omega
   have g1:=kid_get hlt
   have h7:=hfew x hx
   have h8:=cntL_take hlt
   have h9:=cntL_le ks (x+1)
   have c1:=ih x hlt (l++cellsK (ks.take x)) (by rw[List.length_append];omega)
   have hct:=cellsK_take hlt
   have e0:IntKind.i64.wrap ((x:Int)+1)=((x+1:Nat):Int):=by rw[wrapI (by omega)];rfl
   generalize ks[x]=q at *
   obtain ⟨k1,m1,t1,a1,b1,ks1⟩:=q
   change (Nd.csL ks)[((x:Nat):Int).toNat]?=some [iD k1,iD m1,.str t1,iD a1.c,iD a1.r,tD a1.fc,tD a1.fr,iD b1.c,iD b1.r,tD b1.fc,tD b1.fr,.lst 12 (Nd.csL ks1)] at g1
   ((repeat' ((conv=>whnf);first|exact .intro|refine .ya ?_|refine .na ?_|refine .ys ?_|refine .ns ?_|refine .neg (fun _=>?_) (fun _=>?_)|refine .mk (fun _=>?_) (fun _=>?_)|refine .inr (X5 (c1.r [0,1,2] _) ?_)|refine .inl (.inr (X5 (c1.r [0,1,2] _) ?_))|refine .inl (X5 (c1.r [0,1,2] _) ?_)|(refine ⟨Int.natCast_nonneg _,_,g1,?_⟩)|refine .mk ?_ ?_|refine AK ?_|refine AT ?_|fail));all_goals conv=>whnf)
   all_goals refine ⟨x+1,⟨hlt,by show ks.length - (x+1)<ks.length - x;omega⟩,?_⟩
   all_goals ((repeat' first|exact rfl|((conv=>whnf);first|done|exact suL|refine And.intro ?_ ?_|fail));all_goals conv=>whnf)
   all_goals first|exact ceq e0|(rw[hct,← List.append_assoc];done)|skip
  ·have h2:¬ (x:Int)<((Nd.csL ks).length:Nat):=by omega
   obtain rfl:x=ks.length:=by omega
   ((repeat' ((conv=>whnf);first|exact .intro|refine .ya ?_|refine .na ?_|refine .ys ?_|refine .ns ?_|refine .neg (fun _=>?_) (fun _=>?_)|refine .mk (fun _=>?_) (fun _=>?_)|refine .mk ?_ ?_|refine AK ?_|refine AT ?_|fail));all_goals conv=>whnf)
   all_goals ((repeat' first|exact rfl|((conv=>whnf);first|done|exact suL|refine And.intro ?_ ?_|fail));all_goals conv=>whnf)
   all_goals first|(rw[List.take_length];done)|skip
theorem look_h (n:Nd):∀ {box:Prop},frmN n box→cntN n≤200→LkOk gl n:=by
 match n with
 | .mk k m t a b ks =>
  intro box hf hc
  have hcx:∀ x (h:x<ks.length),cntN ks[x]≤200:=fun x h=>by
   have h1:=cntL_take h
   have h2:=cntL_le ks (x+1)
   unfold cntN at hc
   omega
  have hfx:=frm_kid hf
  have ih:∀ x (h:x<ks.length),LkOk gl ks[x]:=fun x h=>look_h ks[x] (hfx x h).choose_spec (hcx x h)
  have hfew:=cellsK_few (ks:=ks) fun x h=>cellsN_few ks[x] (hfx x h).choose_spec
  by_cases h5:k=5
  ·subst h5
   rw[frm_5] at hf
   obtain rfl:=List.eq_nil_of_length_eq_zero hf.1
   exact look_5 a b m t
  by_cases h6:k=6
  ·subst h6
   rw[frm_6] at hf
   obtain rfl:=List.eq_nil_of_length_eq_zero hf.2.1
   exact look_6 a b m t hf.2.2.2.2.1 hf.2.2.2.2.2
  exact look_k k m t a b ks h5 h6 hc (fun x hx=>(hfew x hx).1) ih
termination_by SizeOf.sizeOf n
decreasing_by
 simp only[Nd.mk.sizeOf_spec]
 have:=List.sizeOf_lt_of_mem (List.getElem_mem h)
 omega
end Go.Proofs.YtaheflnnigocgaaGreatDoor
end
section
namespace Go.Proofs.YtaheflnnigocgaaGreatDoor
open Go Go.RowKit Go.EYtaheflnnigocgaaGreatDoor
set_option maxRecDepth 100000
def dedC:List (Int×Int)→List (Int×Int)
 | []=>[]
 | [p]=>[p]
 | p::q::l=>if p=q then dedC (q::l) else p::dedC (q::l)
theorem dedC_snoc:∀ {l:List (Int×Int)} {p q:Int×Int},dedC (l++[p,q])=if p=q then dedC (l++[p]) else dedC (l++[p])++[q]
 | [],p,q=>by
  show (if p=q then dedC [q] else p::dedC [q])=_
  by_cases h:p=q
  ·rw[if_pos h,if_pos h,h];rfl
  ·rw[if_neg h,if_neg h];rfl
 | [a],p,q=>by
  show (if a=p then dedC [p,q] else a::dedC [p,q])=if p=q then (if a=p then dedC [p] else a::dedC [p]) else (if a=p then dedC [p] else a::dedC [p])++[q]
  have h:=dedC_snoc (l:=[]) (p:=p) (q:=q)
  simp only[List.nil_append] at h
  rw[h]
  by_cases h1:p=q <;> by_cases h2:a=p <;> simp[h1,h2]
 | a::b::l,p,q=>by
  show (if a=b then dedC (b::(l++[p,q])) else a::dedC (b::(l++[p,q])))=if p=q then (if a=b then dedC (b::(l++[p])) else a::dedC (b::(l++[p]))) else (if a=b then dedC (b::(l++[p])) else a::dedC (b::(l++[p])))++[q]
  have h:=dedC_snoc (l:=b::l) (p:=p) (q:=q)
  simp only[List.cons_append] at h
  rw[h]
  by_cases h1:p=q <;> by_cases h2:a=b <;> simp[h1,h2]
theorem dedC_take {m:List (Int×Int)} {j:Nat} (h0:0<j) (hj:j<m.length):dedC (m.take (j+1))=if m[j - 1]=m[j] then dedC (m.take j) else dedC (m.take j)++[m[j]]:=by
 obtain ⟨i,rfl⟩:∃ i,j=i+1:=⟨j - 1,by omega⟩
 have e0:m.take (i+1+1)=m.take (i+1)++[m[i+1]]:=List.take_succ_eq_append_getElem hj
 have e2':m.take (i+1)=m.take i++[m[i]'(by omega)]:=List.take_succ_eq_append_getElem (by omega)
 have e1:m.take (i+1+1)=m.take i++[m[i]'(by omega),m[i+1]]:=by
  rw[e0,e2',List.append_assoc]
  rfl
 have e2:m.take (i+1)=m.take i++[m[i]]:=List.take_succ_eq_append_getElem (by omega)
 rw[e1,e2,dedC_snoc]
 rfl
theorem dedC_mem:∀ {m:List (Int×Int)} {x:Int×Int},x ∈ dedC m↔x ∈ m
 | [],_=>Iff.rfl
 | [_],_=>Iff.rfl
 | p::q::l,x=>by
  have ih:=dedC_mem (m:=q::l) (x:=x)
  unfold dedC
  split
  ·rename_i h
   rw[ih,h]
   simp
  ·rw[List.mem_cons,ih,List.mem_cons (a:=x) (b:=p)]
theorem dedC_rise:∀ {m:List (Int×Int)},m.Pairwise (fun x y=>¬ lesP y x)→(dedC m).Pairwise lesP
 | [],_=>List.Pairwise.nil
 | [p],_=>List.pairwise_singleton _ _
 | p::q::l,h=>by
  obtain ⟨h1,h2⟩:=List.pairwise_cons.1 h
  have ih:=dedC_rise h2
  unfold dedC
  split
  ·exact ih
  ·rename_i hne
   refine List.pairwise_cons.2 ⟨fun x hx=>?_,ih⟩
   rw[dedC_mem] at hx
   have h3:=h1 q (by simp)
   have hpq:lesP p q:=by
    unfold lesP at *
    have:¬ (p.1=q.1∧p.2=q.2):=fun hh=>hne (Prod.ext hh.1 hh.2)
    omega
   rcases List.mem_cons.1 hx with rfl|hx
   ·exact hpq
   ·have h4:=(List.pairwise_cons.1 h2).1 x hx
    unfold lesP at *
    omega
end Go.Proofs.YtaheflnnigocgaaGreatDoor
end
