/- Proved: a part of what the law is proved with (the reckoner, contracts of functions, plain laws). Conditions: as each says. -/
import Derived.Test.YtdpigpahfiachaaGreatDoorYZab
section
namespace Go.Proofs.YtdpigpahfiachaaGreatDoor
open Go Go.RowKit Go.EYtdpigpahfiachaaGreatDoor
set_option maxRecDepth 100000
set_option maxHeartbeats 4000000
variable {gl:List (Nat×List D)}
theorem fn_arg1 {P:Program} {g:Nat} {d d':D} {vs:List V} {H:List (Nat×Blk)} {n:Nat} {r:Ret} {H':List (Nat×Blk)} {n':Nat} {mv:List Nat} (h:Go.EYtdpigpahfiachaaGreatDoor.Fn P gl g (.c (.d d')::vs) H n r H' n' mv) (hl:LeD d d'):Go.EYtdpigpahfiachaaGreatDoor.Fn P gl g (.c (.d d)::vs) H n r H' n' mv :=
 ⟨h.1,h.2.1,h.2.2.1,fun w M0 adr xs hW hG hd=>by
  match xs,hd with
  | x::xs,⟨hx,hd⟩=>exact h.2.2.2 w M0 adr (x::xs) hW hG ⟨hl.1 _ _ _ hx,hd⟩⟩
theorem grpZ_zero {rf:List UInt8→Option Rf} {s l:List Fl}:grpZ rf s l=0↔maysZ rf l=0∧(wsL s l l.length).length≤200:=by
 unfold grpZ
 by_cases h:maysZ rf l=0
 ·rw[if_pos h]
  by_cases h2:200<(wsL s l l.length).length
  ·rw[if_pos h2]
   constructor
   ·intro h;omega
   ·intro h;omega
  ·rw[if_neg h2]
   exact ⟨fun _=>⟨h,by omega⟩,fun _=>rfl⟩
 ·rw[if_neg h]
  exact ⟨fun h1=>absurd h1 h,fun h1=>absurd h1.1 h⟩
theorem maysZ_one {rf:List UInt8→Option Rf} {f:Fl}:maysZ rf [f]=0↔mayZ rf f=0:=by
 unfold maysZ
 by_cases h:mayZ rf f=0
 ·rw[if_pos h];exact ⟨fun _=>h,fun _=>rfl⟩
 ·rw[if_neg h]
theorem wsL_one (s:List Fl) {l:List Fl} {k:Nat} (h:k<l.length):wsL (wsL s l k) [l[k]] 1=wsL s l (k+1):=by
 rw[wsL_succ s h]
 rfl
abbrev x1:Fl:=⟨1,1,[120]⟩
abbrev y2:Fl:=⟨2,1,[121]⟩
section
variable (te:TypeId) (pe:Value) (hV:Has gl (glV te pe)) (hl:Go.EYtdpigpahfiachaaGreatDoor.look gl 0=some lvAll) {rf:List UInt8→Option Rf} (hR:RefsOk rf)
include hV hl hR
theorem New_0:Go.EYtdpigpahfiachaaGreatDoor.Fn Tryz.prog gl 23 [.c (.d (.v (.slice none 0 0)))] [] 0 (.ret (.tup [(false,[.ptr 1 0]),(false,[.d (.v .nilIface)])])) [(1,.var [.all 1 0,.d (iD (0:Nat))] 108),(0,.rows 1 ([[]].map shR) 38)] 2 []:=by
 have c0:FnP Tryz.prog gl 56 [.lst 3 (([]:List Fl).map flD)] (.v .nilIface):=by
  rcases gCheck_d te pe hV hl hR [] with ⟨_,h⟩|⟨h,_⟩
  ·exact h
  ·exact absurd ⟨by decide,fun k hk=>by simp at hk⟩ h
 exact fn_arg1 (PNew_s [] (by decide) c0) LeD.nil0
theorem Group_xy:Go.EYtdpigpahfiachaaGreatDoor.Fn Tryz.prog gl 25 [.c (.ptr 0 0),.c (.all 3 2)] (pG 0 [[]] [x1,y2]) 3 (.ret (.c (.d (.v .nilIface)))) (pG 1 [[],[x1,y2]] [x1,y2]) 3 [1]:=by
 rcases GroupH_x te pe hV hl hR [[]] 0 [x1,y2] (by decide) (by decide) (by decide) ⟨trivial,by decide,fun f hf=>by cases hf⟩ with ⟨h,_⟩|⟨_,g⟩
 ·exact absurd rfl h
 ·exact g
theorem PastGroups_d (l sets:List Fl):FnP Tryz.prog gl 5 [.lst 3 (l.map flD),.lst 3 (sets.map flD)] (.v (.bool true)):=by
 have cn:=New_0 te pe hV hl hR
 have cg:=Group_xy te pe hV hl hR
 have d0:=Depth_x (gl:=gl) [[]] 0 (by decide) (by decide)
 have d1:=Depth_x (gl:=gl) [[],[x1,y2]] 1 (by decide) (by decide)
 have hml:(sets.map flD).length=sets.length:=List.length_map _
 rcases gCheck_d te pe hV hl hR l with ⟨hg,c1⟩|⟨_,e,he,c1⟩
 ·have hg1:=hg.1
  have hol:=good_sh hg
  have c2:=PNew_s (gl:=gl) l (by omega) c1
  by_cases h60:sets.length≤60
  ·have h1:¬ ((sets.map flD).length:Int)>60:=by omega
   refine fnP_of_vc (nv:=9999) (cu:=[]) fits mixed Tryz.func5 rfl hoB rfl ?_
   ((repeat' ((conv=>whnf);first|exact .intro|refine .ya ?_|refine .na ?_|refine .ys ?_|refine .ns ?_|refine .neg (fun _=>?_) (fun _=>?_)|refine .mk (fun _=>?_) (fun _=>?_)|refine .inr (X5 (cn.r [] _) ?_)|refine .inl (.inr (X5 (cn.r [] _) ?_))|refine .inl (X5 (cn.r [] _) ?_)|refine .inr (X5 (d0.r [1,0] _) ?_)|refine .inl (.inr (X5 (d0.r [1,0] _) ?_))|refine .inl (X5 (d0.r [1,0] _) ?_)|refine .inr (X5 (cg.r [1,0,2] _) ?_)|refine .inl (.inr (X5 (cg.r [1,0,2] _) ?_))|refine .inl (X5 (cg.r [1,0,2] _) ?_)|refine .inr (X5 (d1.r [1,0] _) ?_)|refine .inl (.inr (X5 (d1.r [1,0] _) ?_))|refine .inl (X5 (d1.r [1,0] _) ?_)|refine .inr (X5 (c2.r [] _) ?_)|refine .inl (.inr (X5 (c2.r [] _) ?_))|refine .inl (X5 (c2.r [] _) ?_)|refine .inl (.inl (X1 (at_d _ _) ?_))|refine .inl (X1 (at_d _ _) ?_)|refine X1 (at_d _ _) ?_|refine .mk ?_ ?_|refine AK ?_|refine AT ?_|fail));all_goals conv=>whnf)
   refine ⟨{ σ:=Nat×Nat×List (List Fl),fr:=fun q=>[(15,.c (.d (iD (q.1:Int))))],ks:=[4,3],L:=fun q=>[(4,.var [.all 1 3,.d (iD (q.2.1:Int))] 108),(3,.rows 1 (q.2.2.map shR) 38)],ex:=0,I:=fun q=>q.1≤sets.length∧q.2.1<q.2.2.length∧q.2.2.length≤q.1+1∧q.2.2[q.2.1]?=some (wsL l sets q.1)∧(∀ x ∈ q.2.2,shOk x)∧∀ j (h:j<sets.length),j<q.1→mayZ rf sets[j]=0,μ:=fun q=>sets.length - q.1 },⟨(0,0,[l]),⟨Nat.zero_le _,by simp,by simp,rfl,fun x hx=>by rw[List.mem_singleton.1 hx];exact hol,fun j _ hj=>absurd hj (Nat.not_lt_zero _)⟩,?_⟩,fun q hq=>?_⟩
   ·((repeat' first|exact rfl|((conv=>whnf);first|done|exact suL|refine And.intro ?_ ?_|fail));all_goals conv=>whnf)
   ·obtain ⟨k,a,ss⟩:=q
    obtain ⟨hk,ha,hs,hw,hok,hm⟩:=hq
    simp only at hk ha hs hw hok hm
    have hsa:ss[a]=wsL l sets k:=by rw[List.getElem?_eq_getElem ha] at hw;exact Option.some.inj hw
    have hoa:shOk ss[a]:=hok _ (List.getElem_mem ha)
    have e0:IntKind.i64.wrap ((k:Int)+1)=((k+1:Nat):Int):=by rw[wrapI (by omega)];rfl
    by_cases hlt:k<sets.length
    ·have h2:(k:Int)<((sets.map flD).length:Nat):=by omega
     have g1:=get_map (f:=flD) hlt
     rcases Set_x te pe hV hl hR ss a sets[k] (by omega) ha hoa with ⟨hz,c3⟩|⟨hz,c3⟩
     ·generalize grpZ rf ss[a] [sets[k]]=z at c3
      generalize sets[k]=f at g1 c3
      obtain ⟨fc,fr,ft⟩:=f
      ((repeat' ((conv=>whnf);first|exact .intro|refine .ya ?_|refine .na ?_|refine .ys ?_|refine .ns ?_|refine .neg (fun _=>?_) (fun _=>?_)|refine .mk (fun _=>?_) (fun _=>?_)|refine .inr (X5 (c3.r [4,3] _) ?_)|refine .inl (.inr (X5 (c3.r [4,3] _) ?_))|refine .inl (X5 (c3.r [4,3] _) ?_)|(refine ⟨Int.natCast_nonneg _,_,g1,?_⟩)|refine .mk ?_ ?_|refine AK ?_|refine AT ?_|fail));all_goals conv=>whnf)
      all_goals exact LeD.rfl
     ·have hz2:=grpZ_zero.1 hz
      have hnew:wsL ss[a] [sets[k]] 1=wsL l sets (k+1):=by rw[hsa];exact wsL_one l hlt
      have hn2:(wsL l sets (k+1)).length≤200:=by rw[← hnew];exact hz2.2
      have hmz:=maysZ_one.1 hz2.1
      rw[hnew] at c3
      have t1:=nAt_lt ss[a] (wsL l sets (k+1)) ha
      have t2:=nSs_len ss[a] (wsL l sets (k+1)) ha
      have t3:=nSs_at (wsL l sets (k+1)) ha
      have t5:∀ j (h:j<sets.length),j<k+1→mayZ rf sets[j]=0:=fun j h hj=>by
       rcases Nat.lt_succ_iff_lt_or_eq.1 hj with hj|rfl
       ·exact hm j h hj
       ·exact hmz
      have t4:=nSs_ok (a:=a) ss[a] (wsL l sets (k+1)) hok (wsL_sh hol t5 hn2)
      generalize nAt a ss[a] (wsL l sets (k+1))=a1 at *
      generalize nSs a ss ss[a] (wsL l sets (k+1))=ss1 at *
      clear hz hz2 hnew hmz hm hsa
      generalize sets[k]=f at g1 c3
      obtain ⟨fc,fr,ft⟩:=f
      ((repeat' ((conv=>whnf);first|exact .intro|refine .ya ?_|refine .na ?_|refine .ys ?_|refine .ns ?_|refine .neg (fun _=>?_) (fun _=>?_)|refine .mk (fun _=>?_) (fun _=>?_)|refine .inr (X5 (c3.r [4,3] _) ?_)|refine .inl (.inr (X5 (c3.r [4,3] _) ?_))|refine .inl (X5 (c3.r [4,3] _) ?_)|(refine ⟨Int.natCast_nonneg _,_,g1,?_⟩)|refine .mk ?_ ?_|refine AK ?_|refine AT ?_|fail));all_goals conv=>whnf)
      all_goals refine ⟨(k+1,a1,ss1),⟨⟨hlt,t1,Nat.le_trans t2 (Nat.succ_le_succ hs),t3,t4,t5⟩,by show sets.length - (k+1)<sets.length - k;omega⟩,?_⟩
      all_goals ((repeat' first|exact rfl|((conv=>whnf);first|done|exact suL|refine And.intro ?_ ?_|fail));all_goals conv=>whnf)
      all_goals exact ceq e0
    ·have h2:¬ (k:Int)<((sets.map flD).length:Nat):=by omega
     obtain rfl:k=sets.length:=by omega
     have hM:maysZ rf sets=0:=maysZ_zero.2 fun j h=>hm j h h
     have hG:grpZ rf l sets=0:=grpZ_zero.2 ⟨hM,by rw[← hsa];exact hoa.2.1⟩
     have cN:=Now_x (gl:=gl) ss a (by omega) ha (by have:=hoa.2.1;omega)
     rw[hsa] at cN
     have hwl:(wsL l sets sets.length).length≤200:=by rw[← hsa];exact hoa.2.1
     rcases Group_x te pe hV hl hR [l] 0 sets (by omega) (by simp) (by simp) hol with ⟨hz,_⟩|⟨_,c3⟩
     ·exact absurd hG hz
     ·simp only[List.getElem_cons_zero] at c3
      generalize wsL l sets sets.length=w at *
      unfold nAt nSs at c3
      have s1:=Sheets_d (gl:=gl) w w (by omega)
      have s2:=Sheets_d (gl:=gl) w l (by omega)
      have s3:=Sheets_d (gl:=gl) l l (by omega)
      rw[eqL_iff.2 rfl] at s1 s3
      have u0:=Undo_n (gl:=gl) [l] (by simp)
      have u1:=Undo_s (gl:=gl) [l,w] 0 (by simp) (by simp)
      have e3:=Depth_x (gl:=gl) [l] 0 (by simp) (by simp)
      have e4:=Depth_x (gl:=gl) [l,w] 1 (by simp) (by simp)
      have n0:=Now_x (gl:=gl) [l] 0 (by simp) (by simp) (by show l.length≤_;omega)
      have n1:=Now_x (gl:=gl) [l,w] 1 (by simp) (by simp) (by show w.length≤_;omega)
      have n2:=Now_x (gl:=gl) [l,w] 0 (by simp) (by simp) (by show l.length≤_;omega)
      by_cases hwl':eqL w l=true
      ·obtain rfl:=eqL_iff.1 hwl'
       rw[if_pos hwl',if_pos hwl'] at c3
       clear u1 e4 n1 n2 s2
       ((repeat' ((conv=>whnf);first|exact .intro|refine .ya ?_|refine .na ?_|refine .ys ?_|refine .ns ?_|refine .neg (fun _=>?_) (fun _=>?_)|refine .mk (fun _=>?_) (fun _=>?_)|refine .inr (X5 (cN.r [4,3] _) ?_)|refine .inl (.inr (X5 (cN.r [4,3] _) ?_))|refine .inl (X5 (cN.r [4,3] _) ?_)|refine .inr (X5 (c3.r [6,5] _) ?_)|refine .inl (.inr (X5 (c3.r [6,5] _) ?_))|refine .inl (X5 (c3.r [6,5] _) ?_)|refine .inr (X5 (n0.r [6,5] _) ?_)|refine .inl (.inr (X5 (n0.r [6,5] _) ?_))|refine .inl (X5 (n0.r [6,5] _) ?_)|refine .inr (X5 (e3.r [6,5] _) ?_)|refine .inl (.inr (X5 (e3.r [6,5] _) ?_))|refine .inl (X5 (e3.r [6,5] _) ?_)|refine .inr (X5 (u0.r [6,5] _) ?_)|refine .inl (.inr (X5 (u0.r [6,5] _) ?_))|refine .inl (X5 (u0.r [6,5] _) ?_)|refine .inl (.inl (X1 (s1) ?_))|refine .inl (X1 (s1) ?_)|refine X1 (s1) ?_|refine .mk ?_ ?_|refine AK ?_|refine AT ?_|fail));all_goals conv=>whnf)
       all_goals first
        | exact LeD.vt rfl
        | (rename_i hx;exact absurd ⟨fun h=>absurd h (by decide),fun h=>absurd h hwl'⟩ hx)
      ·rw[if_neg hwl',if_neg hwl'] at c3
       ((repeat' ((conv=>whnf);first|exact .intro|refine .ya ?_|refine .na ?_|refine .ys ?_|refine .ns ?_|refine .neg (fun _=>?_) (fun _=>?_)|refine .mk (fun _=>?_) (fun _=>?_)|refine .inr (X5 (cN.r [4,3] _) ?_)|refine .inl (.inr (X5 (cN.r [4,3] _) ?_))|refine .inl (X5 (cN.r [4,3] _) ?_)|refine .inr (X5 (c3.r [6,5] _) ?_)|refine .inl (.inr (X5 (c3.r [6,5] _) ?_))|refine .inl (X5 (c3.r [6,5] _) ?_)|refine .inr (X5 (n1.r [6,5] _) ?_)|refine .inl (.inr (X5 (n1.r [6,5] _) ?_))|refine .inl (X5 (n1.r [6,5] _) ?_)|refine .inr (X5 (e4.r [6,5] _) ?_)|refine .inl (.inr (X5 (e4.r [6,5] _) ?_))|refine .inl (X5 (e4.r [6,5] _) ?_)|refine .inr (X5 (u1.r [6,5] _) ?_)|refine .inl (.inr (X5 (u1.r [6,5] _) ?_))|refine .inl (X5 (u1.r [6,5] _) ?_)|refine .inr (X5 (n2.r [6,5] _) ?_)|refine .inl (.inr (X5 (n2.r [6,5] _) ?_))|refine .inl (X5 (n2.r [6,5] _) ?_)|refine .inl (.inl (X1 (by first|exact s1|exact s2|exact s3) ?_))|refine .inl (X1 (by first|exact s1|exact s2|exact s3) ?_)|refine X1 (by first|exact s1|exact s2|exact s3) ?_|refine .mk ?_ ?_|refine AK ?_|refine AT ?_|fail));all_goals conv=>whnf)
       all_goals first
        | exact LeD.vt rfl
        | (rename_i hx;exact absurd ⟨fun h=>absurd h (by decide),fun h=>absurd h hwl'⟩ hx)
  ·have h1:((sets.map flD).length:Int)>60:=by omega
   refine fnP_of_vc (nv:=9999) (cu:=[]) fits mixed Tryz.func5 rfl hoB rfl ?_
   ((repeat' ((conv=>whnf);first|exact .intro|refine .ya ?_|refine .na ?_|refine .ys ?_|refine .ns ?_|refine .neg (fun _=>?_) (fun _=>?_)|refine .mk (fun _=>?_) (fun _=>?_)|refine .inr (X5 (cn.r [] _) ?_)|refine .inl (.inr (X5 (cn.r [] _) ?_))|refine .inl (X5 (cn.r [] _) ?_)|refine .inr (X5 (d0.r [1,0] _) ?_)|refine .inl (.inr (X5 (d0.r [1,0] _) ?_))|refine .inl (X5 (d0.r [1,0] _) ?_)|refine .inr (X5 (cg.r [1,0,2] _) ?_)|refine .inl (.inr (X5 (cg.r [1,0,2] _) ?_))|refine .inl (X5 (cg.r [1,0,2] _) ?_)|refine .inr (X5 (d1.r [1,0] _) ?_)|refine .inl (.inr (X5 (d1.r [1,0] _) ?_))|refine .inl (X5 (d1.r [1,0] _) ?_)|refine .inr (X5 (c2.r [] _) ?_)|refine .inl (.inr (X5 (c2.r [] _) ?_))|refine .inl (X5 (c2.r [] _) ?_)|refine .inl (.inl (X1 (at_d _ _) ?_))|refine .inl (X1 (at_d _ _) ?_)|refine X1 (at_d _ _) ?_|refine .mk ?_ ?_|refine AK ?_|refine AT ?_|fail));all_goals conv=>whnf)
   all_goals exact LeD.rfl
 ·have c2:=PNew_n (gl:=gl) l e he c1
  refine fnP_of_vc (nv:=9999) (cu:=[]) fits mixed Tryz.func5 rfl hoB rfl ?_
  ((repeat' ((conv=>whnf);first|exact .intro|refine .ya ?_|refine .na ?_|refine .ys ?_|refine .ns ?_|refine .neg (fun _=>?_) (fun _=>?_)|refine .mk (fun _=>?_) (fun _=>?_)|refine .inr (X5 (cn.r [] _) ?_)|refine .inl (.inr (X5 (cn.r [] _) ?_))|refine .inl (X5 (cn.r [] _) ?_)|refine .inr (X5 (d0.r [1,0] _) ?_)|refine .inl (.inr (X5 (d0.r [1,0] _) ?_))|refine .inl (X5 (d0.r [1,0] _) ?_)|refine .inr (X5 (cg.r [1,0,2] _) ?_)|refine .inl (.inr (X5 (cg.r [1,0,2] _) ?_))|refine .inl (X5 (cg.r [1,0,2] _) ?_)|refine .inr (X5 (d1.r [1,0] _) ?_)|refine .inl (.inr (X5 (d1.r [1,0] _) ?_))|refine .inl (X5 (d1.r [1,0] _) ?_)|refine .inr (X5 (c2.r [] _) ?_)|refine .inl (.inr (X5 (c2.r [] _) ?_))|refine .inl (X5 (c2.r [] _) ?_)|refine .inl (.inl (X1 (at_d _ _) ?_))|refine .inl (X1 (at_d _ _) ?_)|refine X1 (at_d _ _) ?_|refine .mk ?_ ?_|refine AK ?_|refine AT ?_|fail));all_goals conv=>whnf)
  all_goals first|exact LeD.rfl|exact LeD.vt (by simp)
end
end Go.Proofs.YtdpigpahfiachaaGreatDoor
end
