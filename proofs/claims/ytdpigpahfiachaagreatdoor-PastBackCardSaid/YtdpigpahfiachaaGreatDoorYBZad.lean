/- Proved: a part of what the law is proved with (the reckoner, contracts of functions, plain laws). Conditions: as each says. -/
import Derived.Test.YtdpigpahfiachaaGreatDoorYZac
section
namespace Go.Proofs.YtdpigpahfiachaaGreatDoor
open Go Go.RowKit Go.EYtdpigpahfiachaaGreatDoor
set_option maxRecDepth 100000
set_option maxHeartbeats 4000000
variable {gl:List (Nat×List D)}
section
variable (te:TypeId) (pe:Value) (hV:Has gl (glV te pe)) (hl:Go.EYtdpigpahfiachaaGreatDoor.look gl 0=some lvAll) {rf:List UInt8→Option Rf} (hR:RefsOk rf)
include hV hl hR
theorem Set_one:Go.EYtdpigpahfiachaaGreatDoor.Fn Tryz.prog gl 26 [.c (.ptr 0 0),vD (cellD 1 1),.c (.d (.str [120]))] (pkB 0 [[]]) 2 (.ret (.c (.d (.v .nilIface)))) (pkB 1 [[],[x1]]) 2 [1]:=by
 rcases Set_x te pe hV hl hR [[]] 0 x1 (by decide) (by decide) ⟨trivial,by decide,fun f hf=>by cases hf⟩ with ⟨h,_⟩|⟨_,g⟩
 ·exact absurd rfl h
 ·exact g
theorem PastBack_d (l sets:List Fl):FnP Tryz.prog gl 6 [.lst 3 (l.map flD),.lst 3 (sets.map flD)] (.v (.bool true)):=by
 have cn:=New_0 te pe hV hl hR
 have cs:=Set_one te pe hV hl hR
 have w1:=Now_x (gl:=gl) [[],[x1]] 1 (by decide) (by decide) (by decide)
 have hml:(sets.map flD).length=sets.length:=List.length_map _
 rcases gCheck_d te pe hV hl hR l with ⟨hg,c1⟩|⟨_,e,he,c1⟩
 ·have hg1:=hg.1
  have hol:=good_sh hg
  have c2:=PNew_s (gl:=gl) l (by omega) c1
  refine fnP_of_vc (nv:=9999) (cu:=[15]) fits mixed Tryz.func6 rfl hoB rfl ?_
  ((repeat' ((conv=>whnf);first|exact .intro|refine .ya ?_|refine .na ?_|refine .ys ?_|refine .ns ?_|refine .neg (fun _=>?_) (fun _=>?_)|refine .mk (fun _=>?_) (fun _=>?_)|refine .inr (X5 (c2.r [] _) ?_)|refine .inl (.inr (X5 (c2.r [] _) ?_))|refine .inl (X5 (c2.r [] _) ?_)|refine .inr (X5 (cn.r [] _) ?_)|refine .inl (.inr (X5 (cn.r [] _) ?_))|refine .inl (X5 (cn.r [] _) ?_)|refine .inr (X5 (cs.r [3,2] _) ?_)|refine .inl (.inr (X5 (cs.r [3,2] _) ?_))|refine .inl (X5 (cs.r [3,2] _) ?_)|refine .inr (X5 (w1.r [3,2] _) ?_)|refine .inl (.inr (X5 (w1.r [3,2] _) ?_))|refine .inl (X5 (w1.r [3,2] _) ?_)|refine .mk ?_ ?_|refine AK ?_|refine AT ?_|fail));all_goals conv=>whnf)
  refine ⟨{ σ:=Nat×List (List Fl),fr:=fun q=>[],ks:=[1,0],L:=fun q=>[(1,.var [.all 1 0,.d (iD (q.1:Int))] 108),(0,.rows 1 (q.2.map shR) 38)],ex:=0,I:=fun q=>q.1+1=q.2.length∧q.2.length≤61∧q.2[0]?=some l∧(∀ x ∈ q.2,shOk x),μ:=fun q=>0 },?_,fun q hq=>?_⟩
  ·((repeat' ((conv=>whnf);first|exact .intro|refine .ya ?_|refine .na ?_|refine .ys ?_|refine .ns ?_|refine .neg (fun _=>?_) (fun _=>?_)|refine .mk (fun _=>?_) (fun _=>?_)|refine .mk ?_ ?_|refine AK ?_|refine AT ?_|fail));all_goals conv=>whnf)
   refine ⟨{ σ:=Nat×Nat×List (List Fl),fr:=fun q=>[(10,.c (.d (iD (q.1:Int))))],ks:=[1,0],L:=fun q=>[(1,.var [.all 1 0,.d (iD (q.2.1:Int))] 108),(0,.rows 1 (q.2.2.map shR) 38)],ex:=0,I:=fun q=>q.1≤sets.length∧q.1≤60∧q.2.1+1=q.2.2.length∧q.2.2.length≤q.1+1∧q.2.2[0]?=some l∧(∀ x ∈ q.2.2,shOk x),μ:=fun q=>sets.length - q.1 },⟨(0,0,[l]),⟨Nat.zero_le _,Nat.zero_le _,rfl,by simp,rfl,fun x hx=>by rw[List.mem_singleton.1 hx];exact hol⟩,?_⟩,fun q hq=>?_⟩
   ·((repeat' first|exact rfl|((conv=>whnf);first|done|exact suL|refine And.intro ?_ ?_|fail));all_goals conv=>whnf)
   ·obtain ⟨k,a,ss⟩:=q
    obtain ⟨hk,hk6,ha,hs,h0,hok⟩:=hq
    simp only at hk hk6 ha hs h0 hok
    have ha':a<ss.length:=by omega
    have hoa:shOk ss[a]:=hok _ (List.getElem_mem ha')
    have e0:IntKind.i64.wrap ((k:Int)+1)=((k+1:Nat):Int):=by rw[wrapI (by omega)];rfl
    by_cases hlt:k<sets.length
    ·have h2:(k:Int)<((sets.map flD).length:Nat):=by omega
     by_cases hlt6:k<60
     ·have h3:(k:Int)<60:=by omega
      have g1:=get_map (f:=flD) hlt
      rcases Set_x te pe hV hl hR ss a sets[k] (by omega) ha' hoa with ⟨hz,c3⟩|⟨hz,c3⟩
      ·generalize grpZ rf ss[a] [sets[k]]=z at c3
       generalize sets[k]=f at g1 c3
       obtain ⟨fc,fr,ft⟩:=f
       ((repeat' ((conv=>whnf);first|exact .intro|refine .ya ?_|refine .na ?_|refine .ys ?_|refine .ns ?_|refine .neg (fun _=>?_) (fun _=>?_)|refine .mk (fun _=>?_) (fun _=>?_)|refine .inr (X5 (c3.r [1,0] _) ?_)|refine .inl (.inr (X5 (c3.r [1,0] _) ?_))|refine .inl (X5 (c3.r [1,0] _) ?_)|(refine ⟨Int.natCast_nonneg _,_,g1,?_⟩)|refine .mk ?_ ?_|refine AK ?_|refine AT ?_|fail));all_goals conv=>whnf)
       all_goals refine ⟨(k+1,a,ss),⟨⟨hlt,hlt6,ha,Nat.le_succ_of_le hs,h0,hok⟩,by show sets.length - (k+1)<sets.length - k;omega⟩,?_⟩
       all_goals ((repeat' first|exact rfl|((conv=>whnf);first|done|exact suL|refine And.intro ?_ ?_|fail));all_goals conv=>whnf)
       all_goals exact ceq e0
      ·have hz2:=(grpZ_zero.1 hz).2
       have hno:shOk (wsL ss[a] [sets[k]] 1):=wsL_sh hoa (fun j hj _=>maysZ_zero.1 (grpZ_zero.1 hz).1 j hj) hz2
       have t2:=nSs_len ss[a] (wsL ss[a] [sets[k]] 1) ha'
       have t3:=nSs_last ss[a] (wsL ss[a] [sets[k]] 1) ha
       have t4:=nSs_ok (a:=a) ss[a] (wsL ss[a] [sets[k]] 1) hok hno
       have t5:=nSs_zero ss[a] (wsL ss[a] [sets[k]] 1) ha'
       rw[h0] at t5
       clear hz hz2 hno
       generalize wsL ss[a] [sets[k]] 1=w at *
       generalize nAt a ss[a] w=a1 at *
       generalize nSs a ss ss[a] w=ss1 at *
       generalize sets[k]=f at g1 c3
       obtain ⟨fc,fr,ft⟩:=f
       ((repeat' ((conv=>whnf);first|exact .intro|refine .ya ?_|refine .na ?_|refine .ys ?_|refine .ns ?_|refine .neg (fun _=>?_) (fun _=>?_)|refine .mk (fun _=>?_) (fun _=>?_)|refine .inr (X5 (c3.r [1,0] _) ?_)|refine .inl (.inr (X5 (c3.r [1,0] _) ?_))|refine .inl (X5 (c3.r [1,0] _) ?_)|(refine ⟨Int.natCast_nonneg _,_,g1,?_⟩)|refine .mk ?_ ?_|refine AK ?_|refine AT ?_|fail));all_goals conv=>whnf)
       all_goals refine ⟨(k+1,a1,ss1),⟨⟨hlt,hlt6,t3,Nat.le_trans t2 (Nat.succ_le_succ hs),t5,t4⟩,by show sets.length - (k+1)<sets.length - k;omega⟩,?_⟩
       all_goals ((repeat' first|exact rfl|((conv=>whnf);first|done|exact suL|refine And.intro ?_ ?_|fail));all_goals conv=>whnf)
       all_goals exact ceq e0
     ·have h3:¬ (k:Int)<60:=by omega
      ((repeat' ((conv=>whnf);first|exact .intro|refine .ya ?_|refine .na ?_|refine .ys ?_|refine .ns ?_|refine .neg (fun _=>?_) (fun _=>?_)|refine .mk (fun _=>?_) (fun _=>?_)|refine .mk ?_ ?_|refine AK ?_|refine AT ?_|fail));all_goals conv=>whnf)
      all_goals refine ⟨(a,ss),⟨ha,by show ss.length≤61;omega,h0,hok⟩,?_⟩
      all_goals ((repeat' first|exact rfl|((conv=>whnf);first|done|exact suL|refine And.intro ?_ ?_|fail));all_goals conv=>whnf)
    ·have h2:¬ (k:Int)<((sets.map flD).length:Nat):=by omega
     ((repeat' ((conv=>whnf);first|exact .intro|refine .ya ?_|refine .na ?_|refine .ys ?_|refine .ns ?_|refine .neg (fun _=>?_) (fun _=>?_)|refine .mk (fun _=>?_) (fun _=>?_)|refine .mk ?_ ?_|refine AK ?_|refine AT ?_|fail));all_goals conv=>whnf)
     all_goals refine ⟨(a,ss),⟨ha,by show ss.length≤61;omega,h0,hok⟩,?_⟩
     all_goals ((repeat' first|exact rfl|((conv=>whnf);first|done|exact suL|refine And.intro ?_ ?_|fail));all_goals conv=>whnf)
  ·obtain ⟨a,ss⟩:=q
   obtain ⟨ha,hs,h0,hok⟩:=hq
   simp only at ha hs h0 hok
   have ha':a<ss.length:=by omega
   have hoa:shOk ss[a]:=hok _ (List.getElem_mem ha')
   have hss0:ss[0]=l:=by rw[List.getElem?_eq_getElem (by omega)] at h0;exact Option.some.inj h0
   have cN:=Now_x (gl:=gl) ss a (by omega) ha' (by have:=hoa.2.1;omega)
   have cD:=Depth_x (gl:=gl) ss a (by omega) ha'
   rw[show ss.length - 1 - a=0 by omega] at cD
   have u0:=Undo_n (gl:=gl) ss (by omega)
   have n0:=Now_x (gl:=gl) ss 0 (by omega) (by omega) (by rw[hss0];omega)
   rw[hss0] at n0
   have hoa2:=hoa.2.1
   have s1:=Sheets_d (gl:=gl) l l (by omega)
   have s2:=Sheets_d (gl:=gl) ss[a] ss[a] (by omega)
   rw[eqL_iff.2 rfl] at s1 s2
   have hal:a≤60:=by omega
   clear hoa hoa2
   generalize ss[a]=wa at *
   ((repeat' ((conv=>whnf);first|exact .intro|refine .ya ?_|refine .na ?_|refine .ys ?_|refine .ns ?_|refine .neg (fun _=>?_) (fun _=>?_)|refine .mk (fun _=>?_) (fun _=>?_)|refine .inr (X5 (cN.r [1,0] _) ?_)|refine .inl (.inr (X5 (cN.r [1,0] _) ?_))|refine .inl (X5 (cN.r [1,0] _) ?_)|refine .inr (X5 (cD.r [1,0] _) ?_)|refine .inl (.inr (X5 (cD.r [1,0] _) ?_))|refine .inl (X5 (cD.r [1,0] _) ?_)|refine .mk ?_ ?_|refine AK ?_|refine AT ?_|fail));all_goals conv=>whnf)
   refine ⟨{ σ:=Nat×Nat,fr:=fun q=>[(14,.c (.d (iD (q.1:Int))))],ks:=[1,0],L:=fun q=>[(1,.var [.all 1 0,.d (iD (q.2:Int))] 108),(0,.rows 1 (ss.map shR) 38)],ex:=0,I:=fun q=>q.1+q.2=a,μ:=fun q=>q.2 },⟨(0,a),Nat.zero_add _,?_⟩,fun q hq=>?_⟩
   ·((repeat' first|exact rfl|((conv=>whnf);first|done|exact suL|refine And.intro ?_ ?_|fail));all_goals conv=>whnf)
   ·obtain ⟨j,m⟩:=q
    replace hq:j+m=a:=hq
    cases m with
    | succ m =>
     have e0:IntKind.i64.wrap ((j:Int)+1)=((j+1:Nat):Int):=by rw[wrapI (by omega)];rfl
     have h2:(j:Int)<(a:Int):=by omega
     have u1:=Undo_s (gl:=gl) ss m (by omega) (by omega)
     ((repeat' ((conv=>whnf);first|exact .intro|refine .ya ?_|refine .na ?_|refine .ys ?_|refine .ns ?_|refine .neg (fun _=>?_) (fun _=>?_)|refine .mk (fun _=>?_) (fun _=>?_)|refine .inr (X5 (u1.r [1,0] _) ?_)|refine .inl (.inr (X5 (u1.r [1,0] _) ?_))|refine .inl (X5 (u1.r [1,0] _) ?_)|refine .mk ?_ ?_|refine AK ?_|refine AT ?_|fail));all_goals conv=>whnf)
     all_goals refine ⟨(j+1,m),⟨(show j+1+m=a by omega),Nat.lt_succ_self m⟩,?_⟩
     all_goals ((repeat' first|exact rfl|((conv=>whnf);first|done|exact suL|refine And.intro ?_ ?_|fail));all_goals conv=>whnf)
     all_goals exact ceq e0
    | zero =>
     have h2:¬ (j:Int)<(a:Int):=by omega
     ((repeat' ((conv=>whnf);first|exact .intro|refine .ya ?_|refine .na ?_|refine .ys ?_|refine .ns ?_|refine .neg (fun _=>?_) (fun _=>?_)|refine .mk (fun _=>?_) (fun _=>?_)|refine .inr (X5 (u0.r [1,0] _) ?_)|refine .inl (.inr (X5 (u0.r [1,0] _) ?_))|refine .inl (X5 (u0.r [1,0] _) ?_)|refine .inr (X5 (n0.r [1,0] _) ?_)|refine .inl (.inr (X5 (n0.r [1,0] _) ?_))|refine .inl (X5 (n0.r [1,0] _) ?_)|refine .inl (.inl (X1 (s1) ?_))|refine .inl (X1 (s1) ?_)|refine X1 (s1) ?_|refine .mk ?_ ?_|refine AK ?_|refine AT ?_|fail));all_goals conv=>whnf)
     refine ⟨{ σ:=Nat,fr:=fun q=>[(19,.c (.d (iD (q:Int))))],ks:=[1],L:=fun q=>[(1,.var [.all 1 0,.d (iD (q:Int))] 108)],ex:=0,I:=fun q=>q≤a,μ:=fun q=>a - q },⟨0,Nat.zero_le _,?_⟩,fun (i:Nat) hi=>?_⟩
     ·((repeat' first|exact rfl|((conv=>whnf);first|done|exact suL|refine And.intro ?_ ?_|fail));all_goals conv=>whnf)
     ·replace hi:i≤a:=hi
      by_cases hia:i<a
      ·have e0:IntKind.i64.wrap ((i:Int)+1)=((i+1:Nat):Int):=by rw[wrapI (by omega)];rfl
       have h3:(i:Int)<(a:Int):=by omega
       have r1:=Redo_s (gl:=gl) ss i (by omega) (by omega)
       ((repeat' ((conv=>whnf);first|exact .intro|refine .ya ?_|refine .na ?_|refine .ys ?_|refine .ns ?_|refine .neg (fun _=>?_) (fun _=>?_)|refine .mk (fun _=>?_) (fun _=>?_)|refine .inr (X5 (r1.r [1,0] _) ?_)|refine .inl (.inr (X5 (r1.r [1,0] _) ?_))|refine .inl (X5 (r1.r [1,0] _) ?_)|refine .mk ?_ ?_|refine AK ?_|refine AT ?_|fail));all_goals conv=>whnf)
       all_goals refine ⟨i+1,⟨hia,by show a - (i+1)<a - i;omega⟩,?_⟩
       all_goals ((repeat' first|exact rfl|((conv=>whnf);first|done|exact suL|refine And.intro ?_ ?_|fail));all_goals conv=>whnf)
       all_goals exact ceq e0
      ·have h3:¬ (i:Int)<(a:Int):=by omega
       obtain rfl:i=a:=by omega
       ((repeat' ((conv=>whnf);first|exact .intro|refine .ya ?_|refine .na ?_|refine .ys ?_|refine .ns ?_|refine .neg (fun _=>?_) (fun _=>?_)|refine .mk (fun _=>?_) (fun _=>?_)|refine .inr (X5 (cN.r [1,0] _) ?_)|refine .inl (.inr (X5 (cN.r [1,0] _) ?_))|refine .inl (X5 (cN.r [1,0] _) ?_)|refine .inl (.inl (X1 (s2) ?_))|refine .inl (X1 (s2) ?_)|refine X1 (s2) ?_|refine .mk ?_ ?_|refine AK ?_|refine AT ?_|fail));all_goals conv=>whnf)
       all_goals first|exact LeD.rfl|exact LeD.vt rfl
 ·have c2:=PNew_n (gl:=gl) l e he c1
  refine fnP_of_vc (nv:=9999) (cu:=[]) fits mixed Tryz.func6 rfl hoB rfl ?_
  ((repeat' ((conv=>whnf);first|exact .intro|refine .ya ?_|refine .na ?_|refine .ys ?_|refine .ns ?_|refine .neg (fun _=>?_) (fun _=>?_)|refine .mk (fun _=>?_) (fun _=>?_)|refine .inr (X5 (c2.r [] _) ?_)|refine .inl (.inr (X5 (c2.r [] _) ?_))|refine .inl (X5 (c2.r [] _) ?_)|refine .mk ?_ ?_|refine AK ?_|refine AT ?_|fail));all_goals conv=>whnf)
  all_goals exact LeD.rfl
end
end Go.Proofs.YtdpigpahfiachaaGreatDoor
end
