/- Proved: a part of what the law is proved with (the reckoner, contracts of functions, plain laws). Conditions: as each says. -/
import Derived.Test.YtdpigpahfiachaaGreatDoorZZae
import Derived.Test.YtdpigpahfiachaaGreatDoorZZe
section
namespace Go.Proofs.YtdpigpahfiachaaGreatDoor
open Go Go.RowKit Go.EYtdpigpahfiachaaGreatDoor
set_option maxRecDepth 100000
set_option maxHeartbeats 4000000
variable {gl:List (Nat×List D)}
abbrev stR (m:Int):List D:=[iD m]
theorem Err_e (e:Int) (h0:e≠0) (h:Go.EYtdpigpahfiachaaGreatDoor.look gl 1=some errT):FnP Tryz.prog gl 17 [erD e,iD e] (.v (.bool true)):=by
 have:=Error_d (gl:=gl) e e h
 unfold errD at this
 rw[if_neg h0] at this
 exact FnP.le this (LeD.vt rfl)
theorem Err_0 (h:Go.EYtdpigpahfiachaaGreatDoor.look gl 1=some errT):FnP Tryz.prog gl 17 [.v .nilIface,iD 0] (.v (.bool true)):=by
 have:=Error_d (gl:=gl) 0 0 h
 unfold errD at this
 rw[if_pos rfl] at this
 exact FnP.le this (LeD.vt rfl)
theorem maysZ_at {rf:List UInt8→Option Rf} {l:List Fl} {k:Nat} (hk:k<l.length) (h0:∀ j (h:j<l.length),j<k→mayZ rf l[j]=0) (h1:mayZ rf l[k]≠0):maysZ rf l=mayZ rf l[k]:=by
 have hne:maysZ rf l≠0:=fun h=>h1 (maysZ_zero.1 h k hk)
 obtain ⟨m,hm,h2,h3⟩:=maysZ_first hne
 have:m=k:=by
  rcases Nat.lt_trichotomy m k with h|h|h
  ·exact absurd (h3.symm.trans (h0 m hm h)) hne
  ·exact h
  ·exact absurd (h2 k hk h) h1
 subst this
 exact h3.symm
theorem mayZ_text {rf:List UInt8→Option Rf} {f:Fl} (h:okP f.c f.r):mayZ rf f=textZ rf f.t:=by unfold mayZ;rw[if_pos h]
theorem mayZ_out {rf:List UInt8→Option Rf} {f:Fl} (h:¬ okP f.c f.r):mayZ rf f=1:=by unfold mayZ;rw[if_neg h]
theorem wrap_on {n a:Nat} (hn:n≤1099511627776) (ha:a<n):IntKind.i64.wrap (IntKind.i64.wrap ((n:Int) - 1) - (a:Int))=((n - 1 - a:Nat):Int):=by
 rw[wrapI (n:=(n:Int) - 1) (by omega),wrapI (by omega)]
 omega
theorem ss1_facts {ss:List (List Fl)} {a:Nat} {nx:List Fl} (ha:a<ss.length) (hok:∀ x ∈ ss,shOk x) (hno:shOk nx):(ss.take (a+1)++[nx]).length=a+2∧(∀ x ∈ ss.take (a+1)++[nx],shOk x)∧∀ h:a+1<(ss.take (a+1)++[nx]).length,(ss.take (a+1)++[nx])[a+1]=nx:=by
 have hl:(ss.take (a+1)).length=a+1:=by rw[List.length_take];omega
 refine ⟨by rw[List.length_append,hl];rfl,fun x hx=>?_,fun h=>?_⟩
 ·rcases List.mem_append.1 hx with hx|hx
  ·exact hok x (List.mem_of_mem_take hx)
  ·rw[List.mem_singleton.1 hx];exact hno
 ·rw[List.getElem_append_right (by omega)]
  simp[hl]
theorem allOne_shR:∀ ss:List (List Fl),allOne (ss.map shR)=true
 | []=>rfl
 | _l::ss=>allOne_shR ss
abbrev kR (ss:List (List Fl)) (a:Nat):List (List D):=((ss.map shR).take (IntKind.i64.wrap ((a:Int)+1)).toNat).drop (0:Int).toNat
theorem kR_eq {ss:List (List Fl)} {a:Nat} (ha:a<ss.length) (hs:ss.length≤1099511627776):kR ss a=(ss.take (a+1)).map shR:=by
 unfold kR
 rw[wrapI (by omega),show ((a:Int)+1).toNat=a+1 by omega,List.map_take]
 rfl
theorem all_facts {ss:List (List Fl)} {a:Nat} {nx:List Fl} (ha:a<ss.length) (hs:ss.length≤1000) :
 ((0:Int)≤0∧(0:Int)≤IntKind.i64.wrap ((a:Int)+1)∧IntKind.i64.wrap ((a:Int)+1)≤(((ss.map shR).length:Nat):Int))∧allOne (kR ss a)=true∧(0+(kR ss a).length) * 24≤140737488355328∧0+(kR ss a).length≤maxLen∧((([]:List (List D))++kR ss a).length+1) * 24≤140737488355328∧(([]:List (List D))++kR ss a).length+1≤maxLen∧
 ((0:Int)≤IntKind.i64.wrap ((a:Int)+1)∧IntKind.i64.wrap ((a:Int)+1)<(((([]:List (List D))++kR ss a++[shR nx]).length:Nat):Int))∧(([]:List (List D))++kR ss a++[shR nx])[(IntKind.i64.wrap ((a:Int)+1)).toNat]?=some (shR nx)∧
 ((0:Nat):Int)=IntKind.i64.wrap (IntKind.i64.wrap ((((([]:List (List D))++kR ss a++[shR nx]).length:Nat):Int) - 1) - IntKind.i64.wrap ((a:Int)+1))∧([]:List (List D))++kR ss a++[shR nx]=(ss.take (a+1)++[nx]).map shR:=by
 have ek:=kR_eq ha (by omega)
 have ew:IntKind.i64.wrap ((a:Int)+1)=((a+1:Nat):Int):=by rw[wrapI (by omega)];rfl
 have hl:(kR ss a).length=a+1:=by rw[ek,List.length_map,List.length_take];omega
 have hl2:(([]:List (List D))++kR ss a++[shR nx]).length=a+2:=by rw[List.length_append,List.nil_append,hl];rfl
 have hms:(ss.map shR).length=ss.length:=List.length_map _
 refine ⟨⟨Int.le_refl _,by omega,by omega⟩,by rw[ek];exact allOne_shR _,by omega,by rw[hl];unfold maxLen;omega,by rw[List.nil_append];omega,by rw[List.nil_append,hl];unfold maxLen;omega,⟨by omega,by rw[hl2];omega⟩,?_,?_,?_⟩
 ·rw[ew,Int.toNat_natCast,List.nil_append,List.getElem?_append_right (by omega),hl]
  simp
 ·rw[hl2,ew,wrapI (n:=(((a+2:Nat):Int)) - 1) (by omega),wrapI (by omega)]
  omega
 ·rw[List.nil_append,ek,List.map_append]
  rfl
section
variable (te:TypeId) (pe:Value) (hV:Has gl (glV te pe)) (hl:Go.EYtdpigpahfiachaaGreatDoor.look gl 0=some lvAll) (hT:Go.EYtdpigpahfiachaaGreatDoor.look gl 1=some errT) {rf:List UInt8→Option Rf} (hR:RefsOk rf) (hE:rf []=none)
include hV hl hR
theorem Set_or (ss:List (List Fl)) (a:Nat) (so:List Fl) (hs:ss.length≤549755813888) (hk:a<ss.length) (ho:shOk ss[a]) (hb:so.length≤4398046511103) :
 (∃ f,so=[f]∧((grpZ rf ss[a] [f]≠0∧Go.EYtdpigpahfiachaaGreatDoor.Fn Tryz.prog gl 26 [.c (.ptr 0 0),vD (cellD f.c f.r),.c (.d (.str f.t))] (pkB a ss) 2 (.ret (.c (.d (erD (grpZ rf ss[a] [f]))))) (pkB a ss) 2 [1])∨
  (grpZ rf ss[a] [f]=0∧Go.EYtdpigpahfiachaaGreatDoor.Fn Tryz.prog gl 26 [.c (.ptr 0 0),vD (cellD f.c f.r),.c (.d (.str f.t))] (pkB a ss) 2 (.ret (.c (.d (.v .nilIface)))) (pkB (nAt a ss[a] (wsL ss[a] [f] 1)) (nSs a ss ss[a] (wsL ss[a] [f] 1))) 2 [1])))∨
 (¬ so.length=1∧((grpZ rf ss[a] so≠0∧Go.EYtdpigpahfiachaaGreatDoor.Fn Tryz.prog gl 25 [.c (.ptr 0 0),.c (.all 3 2)] (pG a ss so) 3 (.ret (.c (.d (erD (grpZ rf ss[a] so))))) (pG a ss so) 3 [1])∨
  (grpZ rf ss[a] so=0∧Go.EYtdpigpahfiachaaGreatDoor.Fn Tryz.prog gl 25 [.c (.ptr 0 0),.c (.all 3 2)] (pG a ss so) 3 (.ret (.c (.d (.v .nilIface)))) (pG (nAt a ss[a] (wsL ss[a] so so.length)) (nSs a ss ss[a] (wsL ss[a] so so.length)) so) 3 [1]))):=by
 by_cases h1:so.length=1
 ·obtain ⟨f,rfl⟩:=List.length_eq_one_iff.1 h1
  exact .inl ⟨f,rfl,Set_x te pe hV hl hR ss a f hs hk ho⟩
 ·exact .inr ⟨h1,GroupH_x te pe hV hl hR ss a so (by omega) hs hk ho⟩
include hT hE
theorem PastPlays_d (l:List Fl) (steps:List Int) (sets:List Fl) (_hsl:steps.length≤17592186044415) (hsw:sets.length≤4398046511103):FnP Tryz.prog gl 8 [.lst 3 (l.map flD),.lst 1 (steps.map stR),.lst 3 (sets.map flD)] (.v (.bool true)):=by
 have hml:(sets.map flD).length=sets.length:=List.length_map _
 have hmt:(steps.map stR).length=steps.length:=List.length_map _
 have E0:=Err_0 (gl:=gl) hT
 rcases checks_d te pe hV hl hR hE l with ⟨hg,c1,c0⟩|⟨e,he,c1,c0⟩
 ·have hol:=good_sh hg
  have hg1:=hg.1
  have c2:=PNew_s (gl:=gl) l (by omega) c1
  refine fnP_of_vc (nv:=27) (cu:=[17,28]) fits mixed Tryz.func8 rfl hoB rfl ?_
  ((repeat' ((conv=>whnf);first|exact .intro|refine .ya ?_|refine .na ?_|refine .ys ?_|refine .ns ?_|refine .neg (fun _=>?_) (fun _=>?_)|refine .mk (fun _=>?_) (fun _=>?_)|refine .inr (X5 (c2.r [] _) ?_)|refine .inl (.inr (X5 (c2.r [] _) ?_))|refine .inl (X5 (c2.r [] _) ?_)|refine .inl (.inl (X1 (by first|exact c0|exact E0) ?_))|refine .inl (X1 (by first|exact c0|exact E0) ?_)|refine X1 (by first|exact c0|exact E0) ?_|refine .mk ?_ ?_|refine AK ?_|refine AT ?_|fail));all_goals conv=>whnf)
  refine ⟨{ σ:=Nat×Nat×List (List Fl)×Nat,fr:=fun q=>[(14,.c (.d (iD (q.1:Int)))),(12,.c (.d (iD (q.2.1:Int)))),(13,.c (.d (iD (q.2.2.2:Int)))),(11,.c (.d (.lst 1 (q.2.2.1.map shR))))],ks:=[2,1,0],L:=fun q=>[(1,.var [.all 1 0,.d (iD (q.2.1:Int))] 108),(0,.rows 1 (q.2.2.1.map shR) 38)],ex:=0,f0:=[2],fz:=[2,3,4,5,6,7,8],I:=fun q=>q.1≤steps.length∧q.1≤60∧q.2.1<q.2.2.1.length∧q.2.2.1.length≤q.1+1∧q.2.2.2≤sets.length∧(∀ x ∈ q.2.2.1,shOk x),μ:=fun q=>steps.length - q.1 },⟨(0,0,[l],0),⟨Nat.zero_le _,Nat.zero_le _,by simp,by simp,Nat.zero_le _,fun x hx=>by rw[List.mem_singleton.1 hx];exact hol⟩,?_⟩,fun q hq=>?_⟩
  ·((repeat' first|exact rfl|((conv=>whnf);first|done|exact suL|refine And.intro ?_ ?_|fail));all_goals conv=>whnf)
  ·obtain ⟨i,a,ss,u⟩:=q
   obtain ⟨hi,hi6,ha,hs,hu,hok⟩:=hq
   simp only at hi hi6 ha hs hu hok
   have hoa:shOk ss[a]:=hok _ (List.getElem_mem ha)
   have hms:(ss.map shR).length=ss.length:=List.length_map _
   have e0:IntKind.i64.wrap ((i:Int)+1)=((i+1:Nat):Int):=by rw[wrapI (by omega)];rfl
   by_cases hlt:i<steps.length
   ·have h2:(i:Int)<((steps.map stR).length:Nat):=by omega
    by_cases hlt6:i<60
    ·have h3:(i:Int)<60:=by omega
     have g1:=get_map (f:=stR) hlt
     generalize steps[i]=sg at g1
     -- BEGIN
     by_cases hs0:sg=0
     ·subst hs0
      rcases Nat.eq_zero_or_pos a with rfl|hpos
      ·have u0:=Undo_n (gl:=gl) ss (by omega)
       have gA:=get_map (f:=shR) (l:=ss) ha
       have nA:=Now_x (gl:=gl) ss 0 (by omega) ha (by have:=(hok _ (List.getElem_mem ha)).2.1;omega)
       have dA:=Depth_x (gl:=gl) ss 0 (by omega) ha
       have sA:=Sheets_d (gl:=gl) (ss[0]'ha) (ss[0]'ha) (by have:=(hok _ (List.getElem_mem ha)).2.1;omega)
       rw[eqL_iff.2 rfl] at sA
       have kA:((ss.length - 1 - (0):Nat):Int)=IntKind.i64.wrap (IntKind.i64.wrap ((((ss.map shR).length:Nat):Int) - 1) - ((0:Nat):Int)):=by
        rw[List.length_map]
        exact (wrap_on (by omega) (show 0<_ by omega)).symm
       ((repeat' ((conv=>whnf);first|exact .intro|refine .ya ?_|refine .na ?_|refine .ys ?_|refine .ns ?_|refine .neg (fun _=>?_) (fun _=>?_)|refine .mk (fun _=>?_) (fun _=>?_)|refine .inr (X5 (u0.r [1,0] _) ?_)|refine .inl (.inr (X5 (u0.r [1,0] _) ?_))|refine .inl (X5 (u0.r [1,0] _) ?_)|refine .inr (X5 (nA.r [1,0] _) ?_)|refine .inl (.inr (X5 (nA.r [1,0] _) ?_))|refine .inl (X5 (nA.r [1,0] _) ?_)|refine .inr (X5 (dA.r [1,0] _) ?_)|refine .inl (.inr (X5 (dA.r [1,0] _) ?_))|refine .inl (X5 (dA.r [1,0] _) ?_)|refine .inl (.inl (X1 (sA) ?_))|refine .inl (X1 (sA) ?_)|refine X1 (sA) ?_|(first|refine ⟨Int.natCast_nonneg _,_,g1,?_⟩|refine ⟨Int.natCast_nonneg _,_,gA,?_⟩)|refine .mk ?_ ?_|refine AK ?_|refine AT ?_|fail));all_goals conv=>whnf)
       all_goals first
        | (rename_i hx;exact absurd kA hx)
        | (refine ⟨(i+1,0,ss,u),⟨⟨hlt,hlt6,ha,Nat.le_succ_of_le hs,hu,hok⟩,by show steps.length - (i+1)<steps.length - i;omega⟩,?_⟩;((repeat' first|exact rfl|((conv=>whnf);first|done|exact suL|refine And.intro ?_ ?_|fail));all_goals conv=>whnf))
       all_goals first|exact ceq e0
      ·obtain ⟨m,rfl⟩:∃ m,a=m+1:=⟨a - 1,by omega⟩
       have u0:=Undo_s (gl:=gl) ss m (by omega) ha
       have hpos:(((m+1:Nat)):Int)>0:=by omega
       have ew:IntKind.i64.wrap (((m+1:Nat):Int) - 1)=(m:Int):=by
        rw[wrapI (by omega)]
        omega
       have hm:m<ss.length:=by omega
       have gA:=get_map (f:=shR) (l:=ss) hm
       have nA:=Now_x (gl:=gl) ss m (by omega) hm (by have:=(hok _ (List.getElem_mem hm)).2.1;omega)
       have dA:=Depth_x (gl:=gl) ss m (by omega) hm
       have sA:=Sheets_d (gl:=gl) (ss[m]'hm) (ss[m]'hm) (by have:=(hok _ (List.getElem_mem hm)).2.1;omega)
       rw[eqL_iff.2 rfl] at sA
       have kA:((ss.length - 1 - (m):Nat):Int)=IntKind.i64.wrap (IntKind.i64.wrap ((((ss.map shR).length:Nat):Int) - 1) - ((m:Nat):Int)):=by
        rw[List.length_map]
        exact (wrap_on (by omega) (show m<_ by omega)).symm
       ((repeat' ((conv=>whnf);first|exact .intro|refine .ya ?_|refine .na ?_|refine .ys ?_|refine .ns ?_|refine .neg (fun _=>?_) (fun _=>?_)|refine .mk (fun _=>?_) (fun _=>?_)|refine .inr (X5 (u0.r [1,0] _) ?_)|refine .inl (.inr (X5 (u0.r [1,0] _) ?_))|refine .inl (X5 (u0.r [1,0] _) ?_)|refine .inr (X5 (nA.r [1,0] _) ?_)|refine .inl (.inr (X5 (nA.r [1,0] _) ?_))|refine .inl (X5 (nA.r [1,0] _) ?_)|refine .inr (X5 (dA.r [1,0] _) ?_)|refine .inl (.inr (X5 (dA.r [1,0] _) ?_))|refine .inl (X5 (dA.r [1,0] _) ?_)|refine .inl (.inl (X1 (sA) ?_))|refine .inl (X1 (sA) ?_)|refine X1 (sA) ?_|(first|rw[ew]|refine ⟨Int.natCast_nonneg _,_,g1,?_⟩|refine ⟨Int.natCast_nonneg _,_,gA,?_⟩)|refine .mk ?_ ?_|refine AK ?_|refine AT ?_|fail));all_goals conv=>whnf)
       all_goals first
        | (rename_i hx;exact absurd kA hx)
        | (refine ⟨(i+1,m,ss,u),⟨⟨hlt,hlt6,hm,Nat.le_succ_of_le hs,hu,hok⟩,by show steps.length - (i+1)<steps.length - i;omega⟩,?_⟩;((repeat' first|exact rfl|((conv=>whnf);first|done|exact suL|refine And.intro ?_ ?_|fail));all_goals conv=>whnf))
       all_goals first|exact ceq ew|exact ceq e0
     ·by_cases hs1:sg=1
      ·subst hs1
       have ew:IntKind.i64.wrap ((a:Int)+1)=((a+1:Nat):Int):=by rw[wrapI (by omega)];rfl
       by_cases hup:a+1<ss.length
       ·have r1:=Redo_s (gl:=gl) ss a (by omega) hup
        have hup':IntKind.i64.wrap ((a:Int)+1)<(((ss.map shR).length:Nat):Int):=by rw[ew];omega
        have gA:=get_map (f:=shR) (l:=ss) hup
        have nA:=Now_x (gl:=gl) ss (a+1) (by omega) hup (by have:=(hok _ (List.getElem_mem hup)).2.1;omega)
        have dA:=Depth_x (gl:=gl) ss (a+1) (by omega) hup
        have sA:=Sheets_d (gl:=gl) (ss[(a+1)]'hup) (ss[(a+1)]'hup) (by have:=(hok _ (List.getElem_mem hup)).2.1;omega)
        rw[eqL_iff.2 rfl] at sA
        have kA:((ss.length - 1 - ((a+1)):Nat):Int)=IntKind.i64.wrap (IntKind.i64.wrap ((((ss.map shR).length:Nat):Int) - 1) - (((a+1):Nat):Int)):=by
         rw[List.length_map]
         exact (wrap_on (by omega) (show (a+1)<_ by omega)).symm
        ((repeat' ((conv=>whnf);first|exact .intro|refine .ya ?_|refine .na ?_|refine .ys ?_|refine .ns ?_|refine .neg (fun _=>?_) (fun _=>?_)|refine .mk (fun _=>?_) (fun _=>?_)|refine .inr (X5 (r1.r [1,0] _) ?_)|refine .inl (.inr (X5 (r1.r [1,0] _) ?_))|refine .inl (X5 (r1.r [1,0] _) ?_)|refine .inr (X5 (nA.r [1,0] _) ?_)|refine .inl (.inr (X5 (nA.r [1,0] _) ?_))|refine .inl (X5 (nA.r [1,0] _) ?_)|refine .inr (X5 (dA.r [1,0] _) ?_)|refine .inl (.inr (X5 (dA.r [1,0] _) ?_))|refine .inl (X5 (dA.r [1,0] _) ?_)|refine .inl (.inl (X1 (sA) ?_))|refine .inl (X1 (sA) ?_)|refine X1 (sA) ?_|(first|rw[ew]|refine ⟨Int.natCast_nonneg _,_,g1,?_⟩|refine ⟨Int.natCast_nonneg _,_,gA,?_⟩)|refine .mk ?_ ?_|refine AK ?_|refine AT ?_|fail));all_goals conv=>whnf)
        all_goals first
         | (rename_i hx;exact absurd kA hx)
         | (rename_i hx;exact absurd ⟨fun _=>hup',fun _=>trivial⟩ hx)
         | (refine ⟨(i+1,a+1,ss,u),⟨⟨hlt,hlt6,hup,Nat.le_succ_of_le hs,hu,hok⟩,by show steps.length - (i+1)<steps.length - i;omega⟩,?_⟩;((repeat' first|exact rfl|((conv=>whnf);first|done|exact suL|refine And.intro ?_ ?_|fail));all_goals conv=>whnf))
        all_goals first|exact ceq ew|exact ceq e0
       ·have r1:=Redo_n (gl:=gl) ss a (by omega) (by omega)
        have hup':¬ IntKind.i64.wrap ((a:Int)+1)<(((ss.map shR).length:Nat):Int):=by rw[ew];omega
        have gA:=get_map (f:=shR) (l:=ss) ha
        have nA:=Now_x (gl:=gl) ss a (by omega) ha (by have:=(hok _ (List.getElem_mem ha)).2.1;omega)
        have dA:=Depth_x (gl:=gl) ss a (by omega) ha
        have sA:=Sheets_d (gl:=gl) (ss[a]'ha) (ss[a]'ha) (by have:=(hok _ (List.getElem_mem ha)).2.1;omega)
        rw[eqL_iff.2 rfl] at sA
        have kA:((ss.length - 1 - (a):Nat):Int)=IntKind.i64.wrap (IntKind.i64.wrap ((((ss.map shR).length:Nat):Int) - 1) - ((a:Nat):Int)):=by
         rw[List.length_map]
         exact (wrap_on (by omega) (show a<_ by omega)).symm
        ((repeat' ((conv=>whnf);first|exact .intro|refine .ya ?_|refine .na ?_|refine .ys ?_|refine .ns ?_|refine .neg (fun _=>?_) (fun _=>?_)|refine .mk (fun _=>?_) (fun _=>?_)|refine .inr (X5 (r1.r [1,0] _) ?_)|refine .inl (.inr (X5 (r1.r [1,0] _) ?_))|refine .inl (X5 (r1.r [1,0] _) ?_)|refine .inr (X5 (nA.r [1,0] _) ?_)|refine .inl (.inr (X5 (nA.r [1,0] _) ?_))|refine .inl (X5 (nA.r [1,0] _) ?_)|refine .inr (X5 (dA.r [1,0] _) ?_)|refine .inl (.inr (X5 (dA.r [1,0] _) ?_))|refine .inl (X5 (dA.r [1,0] _) ?_)|refine .inl (.inl (X1 (sA) ?_))|refine .inl (X1 (sA) ?_)|refine X1 (sA) ?_|(first|rw[ew]|refine ⟨Int.natCast_nonneg _,_,g1,?_⟩|refine ⟨Int.natCast_nonneg _,_,gA,?_⟩)|refine .mk ?_ ?_|refine AK ?_|refine AT ?_|fail));all_goals conv=>whnf)
        all_goals first
         | (rename_i hx;exact absurd kA hx)
         | (rename_i hx;exact absurd ⟨fun h=>h.elim,fun h=>absurd h hup'⟩ hx)
         | (refine ⟨(i+1,a,ss,u),⟨⟨hlt,hlt6,ha,Nat.le_succ_of_le hs,hu,hok⟩,by show steps.length - (i+1)<steps.length - i;omega⟩,?_⟩;((repeat' first|exact rfl|((conv=>whnf);first|done|exact suL|refine And.intro ?_ ?_|fail));all_goals conv=>whnf))
        all_goals first|exact ceq e0
      ·have E:=fun (rfx:Int) (h:rfx≠0)=>Err_e (gl:=gl) rfx h hT
       ((repeat' ((conv=>whnf);first|exact .intro|refine .ya ?_|refine .na ?_|refine .ys ?_|refine .ns ?_|refine .neg (fun _=>?_) (fun _=>?_)|refine .mk (fun _=>?_) (fun _=>?_)|(first|refine ⟨Int.natCast_nonneg _,_,g1,?_⟩|refine ⟨Int.natCast_nonneg _,_,gA,?_⟩)|refine .mk ?_ ?_|refine AK ?_|refine AT ?_|fail));all_goals conv=>whnf)
       refine ⟨{ σ:=Nat×List Fl,fr:=fun q=>[(17,.c (.all 3 3)),(13,.c (.d (iD (q.1:Int))))],ks:=[],L:=fun q=>[(3,.rows 3 (q.2.map flD) 44)],ex:=1,I:=fun q=>q.1≤sets.length∧q.2.length≤q.1,μ:=fun _=>0 },?_,fun q hq=>?_⟩
       ·((repeat' ((conv=>whnf);first|exact .intro|refine .ya ?_|refine .na ?_|refine .ys ?_|refine .ns ?_|refine .neg (fun _=>?_) (fun _=>?_)|refine .mk (fun _=>?_) (fun _=>?_)|refine .mk ?_ ?_|refine AK ?_|refine AT ?_|fail));all_goals conv=>whnf)
        refine ⟨{ σ:=Nat×List Fl,fr:=fun q=>[(17,.c (.all 3 3)),(13,.c (.d (iD (q.1:Int))))],ks:=[],L:=fun q=>[(3,.rows 3 (q.2.map flD) 44)],ex:=1,I:=fun q=>q.1≤sets.length∧q.2.length≤q.1,μ:=fun q=>sets.length - q.1 },⟨(u,[]),⟨hu,Nat.zero_le _⟩,?_⟩,fun q hq=>?_⟩
        ·((repeat' first|exact rfl|((conv=>whnf);first|done|exact suL|refine And.intro ?_ ?_|fail));all_goals conv=>whnf)
         all_goals first|exact ceq rfl|exact .inr (.inr (.inl ⟨rfl,3,3,rfl,by decide⟩))|exact ⟨3,_,rfl,by decide,Nat.le_refl _⟩|skip
        ·obtain ⟨v,so⟩:=q
         obtain ⟨hv,hsv⟩:=hq
         simp only at hv hsv
         have hmo:(so.map flD).length=so.length:=List.length_map _
         by_cases hA:(((so.map flD).length:Nat):Int)<IntKind.i64.wrap (sg - 1)
         ·by_cases hB:v<sets.length
          ·have hB':(v:Int)<(((sets.map flD).length:Nat):Int):=by omega
           have gS:=get_map (f:=flD) hB
           have e2:IntKind.i64.wrap ((v:Int)+1)=((v+1:Nat):Int):=by rw[wrapI (by omega)];omega
           have b1:((so.map flD).length+1) * 32≤140737488355328:=by omega
           have b2:(so.map flD).length+1≤maxLen:=by unfold maxLen;omega
           generalize sets[v]=f at gS
           obtain ⟨fc,fr,ft⟩:=f
           ((repeat' ((conv=>whnf);first|exact .intro|refine .ya ?_|refine .na ?_|refine .ys ?_|refine .ns ?_|refine .neg (fun _=>?_) (fun _=>?_)|refine .mk (fun _=>?_) (fun _=>?_)|(first|refine ⟨Int.natCast_nonneg _,_,g1,?_⟩|refine ⟨Int.natCast_nonneg _,_,gS,?_⟩|refine ⟨⟨rfl,b1,b2⟩,?_⟩)|refine .mk ?_ ?_|refine AK ?_|refine AT ?_|fail));all_goals conv=>whnf)
           all_goals refine ⟨(v+1,so++[⟨fc,fr,ft⟩]),⟨⟨hB,(by rw[List.length_append];exact Nat.succ_le_succ hsv)⟩,(show sets.length - (v+1)<sets.length - v by omega)⟩,?_⟩
           all_goals ((repeat' first|exact rfl|((conv=>whnf);first|done|exact suL|refine And.intro ?_ ?_|fail));all_goals conv=>whnf)
           all_goals first|exact ceq e2|exact map_snoc _ _|skip
          ·have hB':¬ (v:Int)<(((sets.map flD).length:Nat):Int):=by omega
           ((repeat' ((conv=>whnf);first|exact .intro|refine .ya ?_|refine .na ?_|refine .ys ?_|refine .ns ?_|refine .neg (fun _=>?_) (fun _=>?_)|refine .mk (fun _=>?_) (fun _=>?_)|(first|refine ⟨Int.natCast_nonneg _,_,g1,?_⟩|refine ⟨Int.natCast_nonneg _,_,gA,?_⟩)|refine .mk ?_ ?_|refine AK ?_|refine AT ?_|fail));all_goals conv=>whnf)
           all_goals refine ⟨(v,so),⟨hv,hsv⟩,?_⟩
           all_goals ((repeat' first|exact rfl|((conv=>whnf);first|done|exact suL|refine And.intro ?_ ?_|fail));all_goals conv=>whnf)
         ·
          ((repeat' ((conv=>whnf);first|exact .intro|refine .ya ?_|refine .na ?_|refine .ys ?_|refine .ns ?_|refine .neg (fun _=>?_) (fun _=>?_)|refine .mk (fun _=>?_) (fun _=>?_)|(first|refine ⟨Int.natCast_nonneg _,_,g1,?_⟩|refine ⟨Int.natCast_nonneg _,_,gA,?_⟩)|refine .mk ?_ ?_|refine AK ?_|refine AT ?_|fail));all_goals conv=>whnf)
          all_goals refine ⟨(v,so),⟨hv,hsv⟩,?_⟩
          all_goals ((repeat' first|exact rfl|((conv=>whnf);first|done|exact suL|refine And.intro ?_ ?_|fail));all_goals conv=>whnf)
       ·obtain ⟨u2,so⟩:=q
        obtain ⟨hu2,hsv⟩:=hq
        simp only at hu2 hsv
        have hsl2:so.length≤4398046511103:=by omega
        have gA:=get_map (f:=shR) (l:=ss) ha
        ((repeat' ((conv=>whnf);first|exact .intro|refine .ya ?_|refine .na ?_|refine .ys ?_|refine .ns ?_|refine .neg (fun _=>?_) (fun _=>?_)|refine .mk (fun _=>?_) (fun _=>?_)|(first|refine ⟨Int.natCast_nonneg _,_,g1,?_⟩|refine ⟨Int.natCast_nonneg _,_,gA,?_⟩)|refine .mk ?_ ?_|refine AK ?_|refine AT ?_|fail));all_goals conv=>whnf)
        refine ⟨{ σ:=Int×List Fl,fr:=fun q=>[(7,.c (.d (iD q.1))),(18,.c (.d (.lst 3 (q.2.map flD))))],ks:=[],L:=fun q=>[],ex:=0,I:=fun q=>(q.1=0∧q.2=wsL ss[a] so so.length∧maysZ rf so=0)∨(q.1≠0∧q.1=maysZ rf so∧q.2.length≤2574),μ:=fun _=>0 },?_,fun q hq=>?_⟩
        ·((repeat' ((conv=>whnf);first|exact .intro|refine .ya ?_|refine .na ?_|refine .ys ?_|refine .ns ?_|refine .neg (fun _=>?_) (fun _=>?_)|refine .mk (fun _=>?_) (fun _=>?_)|refine .mk ?_ ?_|refine AK ?_|refine AT ?_|fail));all_goals conv=>whnf)
         refine ⟨{ σ:=Nat×Int×List Fl,fr:=fun q=>[(19,.c (.d (iD (q.1:Int)))),(7,.c (.d (iD q.2.1))),(18,.c (.d (.lst 3 (q.2.2.map flD))))],ks:=[],L:=fun q=>[],ex:=0,I:=fun q=>q.1≤so.length∧((q.2.1=0∧q.2.2=wsL ss[a] so q.1∧∀ j (h:j<so.length),j<q.1→mayZ rf so[j]=0)∨(q.2.1≠0∧q.2.1=maysZ rf so∧q.2.2.length≤2574)),μ:=fun q=>so.length - q.1 },⟨(0,0,ss[a]),⟨Nat.zero_le _,.inl ⟨rfl,rfl,fun j _ hj=>absurd hj (Nat.not_lt_zero _)⟩⟩,?_⟩,fun q hq=>?_⟩
         ·((repeat' first|exact rfl|((conv=>whnf);first|done|exact suL|refine And.intro ?_ ?_|fail));all_goals conv=>whnf)
         ·obtain ⟨k,e,nx⟩:=q
          obtain ⟨hk,hq⟩:=hq
          simp only at hk hq
          have hmo:(so.map flD).length=so.length:=List.length_map _
          have e3:IntKind.i64.wrap ((k:Int)+1)=((k+1:Nat):Int):=by rw[wrapI (by omega)];rfl
          by_cases hlk:k<so.length
          ·have hlk':(k:Int)<(((so.map flD).length:Nat):Int):=by omega
           rcases hq with ⟨rfl,rfl,hm0⟩|⟨he,hem,hnx⟩
           ·have gF:=get_map (f:=flD) hlk
            have hfew:=wsL_few hoa hm0
            have hor:=wsL_ord hoa.1 so k
            have cI:=In_d (gl:=gl) so[k].c so[k].r
            have cT:=rText_d (gl:=gl) hR hE so[k].t
            have cW:=rWith_d (gl:=gl) so[k].c so[k].r so[k].t (wsL ss[a] so k) (by omega)
            rw[wS_eq hor,← wsL_succ _ hlk] at cW
            have hmz:=maysZ_at hlk hm0
            have hmo1:mayZ rf so[k]=0→∀ j (h:j<so.length),j<k+1→mayZ rf so[j]=0:=fun h0 j h hj=>by
             rcases Nat.lt_succ_iff_lt_or_eq.1 hj with hj|rfl
             ·exact hm0 j h hj
             ·exact h0
            by_cases ho:okP so[k].c so[k].r
            ·rw[mayZ_text ho] at hmz hmo1
             generalize hz:textZ rf so[k].t=z at *
             generalize so[k]=f at gF cI cT cW ho
             obtain ⟨fc,fr,ft⟩:=f
             by_cases h0:z=0
             ·subst h0
              ((repeat' ((conv=>whnf);first|exact .intro|refine .ya ?_|refine .na ?_|refine .ys ?_|refine .ns ?_|refine .neg (fun _=>?_) (fun _=>?_)|refine .mk (fun _=>?_) (fun _=>?_)|refine .inl (.inl (X1 (by first|exact cI|exact cT|exact cW) ?_))|refine .inl (X1 (by first|exact cI|exact cT|exact cW) ?_)|refine X1 (by first|exact cI|exact cT|exact cW) ?_|(first|refine ⟨⟨Int.natCast_nonneg _,hlk'⟩,?_⟩|refine ⟨Int.natCast_nonneg _,_,gF,?_⟩|refine ⟨_,gF,?_⟩)|refine .mk ?_ ?_|refine AK ?_|refine AT ?_|fail));all_goals conv=>whnf)
              all_goals refine ⟨(k+1,0,wsL ss[a] so (k+1)),⟨⟨hlk,.inl ⟨rfl,rfl,hmo1 rfl⟩⟩,(show so.length - (k+1)<so.length - k by omega)⟩,?_⟩
              all_goals ((repeat' first|exact rfl|((conv=>whnf);first|done|exact suL|refine And.intro ?_ ?_|fail));all_goals conv=>whnf)
              all_goals exact ceq e3
             ·
              ((repeat' ((conv=>whnf);first|exact .intro|refine .ya ?_|refine .na ?_|refine .ys ?_|refine .ns ?_|refine .neg (fun _=>?_) (fun _=>?_)|refine .mk (fun _=>?_) (fun _=>?_)|refine .inl (.inl (X1 (by first|exact cI|exact cT|exact cW) ?_))|refine .inl (X1 (by first|exact cI|exact cT|exact cW) ?_)|refine X1 (by first|exact cI|exact cT|exact cW) ?_|(first|refine ⟨⟨Int.natCast_nonneg _,hlk'⟩,?_⟩|refine ⟨Int.natCast_nonneg _,_,gF,?_⟩|refine ⟨_,gF,?_⟩)|refine .mk ?_ ?_|refine AK ?_|refine AT ?_|fail));all_goals conv=>whnf)
              all_goals refine ⟨(k+1,z,wsL ss[a] so k),⟨⟨hlk,.inr ⟨h0,(hmz h0).symm,hfew⟩⟩,(show so.length - (k+1)<so.length - k by omega)⟩,?_⟩
              all_goals ((repeat' first|exact rfl|((conv=>whnf);first|done|exact suL|refine And.intro ?_ ?_|fail));all_goals conv=>whnf)
              all_goals exact ceq e3
            ·rw[mayZ_out ho] at hmz hmo1
             generalize so[k]=f at gF cI cT cW ho
             obtain ⟨fc,fr,ft⟩:=f
             ((repeat' ((conv=>whnf);first|exact .intro|refine .ya ?_|refine .na ?_|refine .ys ?_|refine .ns ?_|refine .neg (fun _=>?_) (fun _=>?_)|refine .mk (fun _=>?_) (fun _=>?_)|refine .inl (.inl (X1 (by first|exact cI|exact cT|exact cW) ?_))|refine .inl (X1 (by first|exact cI|exact cT|exact cW) ?_)|refine X1 (by first|exact cI|exact cT|exact cW) ?_|(first|refine ⟨⟨Int.natCast_nonneg _,hlk'⟩,?_⟩|refine ⟨Int.natCast_nonneg _,_,gF,?_⟩|refine ⟨_,gF,?_⟩)|refine .mk ?_ ?_|refine AK ?_|refine AT ?_|fail));all_goals conv=>whnf)
             all_goals refine ⟨(k+1,1,wsL ss[a] so k),⟨⟨hlk,.inr ⟨(show (1:Int)≠0 by decide),(hmz (by decide)).symm,hfew⟩⟩,(show so.length - (k+1)<so.length - k by omega)⟩,?_⟩
             all_goals ((repeat' first|exact rfl|((conv=>whnf);first|done|exact suL|refine And.intro ?_ ?_|fail));all_goals conv=>whnf)
             all_goals exact ceq e3
           ·
            ((repeat' ((conv=>whnf);first|exact .intro|refine .ya ?_|refine .na ?_|refine .ys ?_|refine .ns ?_|refine .neg (fun _=>?_) (fun _=>?_)|refine .mk (fun _=>?_) (fun _=>?_)|(first|refine ⟨Int.natCast_nonneg _,_,g1,?_⟩|refine ⟨Int.natCast_nonneg _,_,gA,?_⟩)|refine .mk ?_ ?_|refine AK ?_|refine AT ?_|fail));all_goals conv=>whnf)
            all_goals refine ⟨(e,nx),.inr ⟨he,hem,hnx⟩,?_⟩
            all_goals ((repeat' first|exact rfl|((conv=>whnf);first|done|exact suL|refine And.intro ?_ ?_|fail));all_goals conv=>whnf)
          ·have hlk':¬ (k:Int)<(((so.map flD).length:Nat):Int):=by omega
           have hq2:(e=0∧nx=wsL ss[a] so so.length∧maysZ rf so=0)∨(e≠0∧e=maysZ rf so∧nx.length≤2574):=by
            obtain rfl:k=so.length:=by omega
            rcases hq with ⟨h1,h2,h3⟩|h
            ·exact .inl ⟨h1,h2,maysZ_zero.2 fun j h=>h3 j h h⟩
            ·exact .inr h
           ((repeat' ((conv=>whnf);first|exact .intro|refine .ya ?_|refine .na ?_|refine .ys ?_|refine .ns ?_|refine .neg (fun _=>?_) (fun _=>?_)|refine .mk (fun _=>?_) (fun _=>?_)|(first|refine ⟨Int.natCast_nonneg _,_,g1,?_⟩|refine ⟨Int.natCast_nonneg _,_,gA,?_⟩)|refine .mk ?_ ?_|refine AK ?_|refine AT ?_|fail));all_goals conv=>whnf)
           all_goals refine ⟨(e,nx),hq2,?_⟩
           all_goals ((repeat' first|exact rfl|((conv=>whnf);first|done|exact suL|refine And.intro ?_ ?_|fail));all_goals conv=>whnf)
        ·obtain ⟨e,nx⟩:=q
         simp only at hq
         have ew:IntKind.i64.wrap ((a:Int)+1)=((a+1:Nat):Int):=by rw[wrapI (by omega)];rfl
         have hmo:(so.map flD).length=so.length:=List.length_map _
         have hmx:(nx.map flD).length=nx.length:=List.length_map _
         have hnx:nx.length≤2574:=by
          rcases hq with ⟨_,h,hm0⟩|⟨_,_,h⟩
          ·rw[h];exact wsL_few hoa (k:=so.length) fun j hj _=>maysZ_zero.1 hm0 j hj
          ·exact h
         have sN:=Sheets_d (gl:=gl) nx ss[a] (by omega)
         have hcase:(grpZ rf ss[a] so≠0∧((e=0∧(((nx.map flD).length:Nat):Int)>200∧grpZ rf ss[a] so=4)∨(¬ e=0∧grpZ rf ss[a] so=e)))∨(grpZ rf ss[a] so=0∧e=0∧¬ (((nx.map flD).length:Nat):Int)>200∧nx=wsL ss[a] so so.length∧shOk nx):=by
          rcases hq with ⟨h1,h2,hm0⟩|⟨h1,h2,h3⟩
          ·by_cases h200:200<nx.length
           ·have hz:grpZ rf ss[a] so=4:=by unfold grpZ;rw[if_pos hm0,← h2,if_pos h200]
            exact .inl ⟨by omega,.inl ⟨h1,by omega,hz⟩⟩
           ·refine .inr ⟨grpZ_zero.2 ⟨hm0,by rw[← h2];omega⟩,h1,by omega,h2,?_⟩
            rw[h2]
            exact wsL_sh hoa (fun j hj _=>maysZ_zero.1 hm0 j hj) (by rw[← h2];omega)
          ·have hz:grpZ rf ss[a] so=e:=by unfold grpZ;rw[if_neg (by omega)];omega
           exact .inl ⟨by omega,.inr ⟨h1,hz⟩⟩
         clear hq
         rcases hcase with ⟨hgz,hwhy⟩|⟨hgz,rfl,h200,hnw,hno⟩
         ·rcases Set_or te pe hV hl hR ss a so (by omega) ha hoa hsl2 with ⟨f,rfl,⟨_,c3⟩|⟨h,_⟩⟩|⟨h1,⟨_,c3⟩|⟨h,_⟩⟩
          ·generalize grpZ rf ss[a] [f]=z at *
           obtain ⟨fc,fr,ft⟩:=f
           have gA:=get_map (f:=shR) (l:=ss) ha
           have nA:=Now_x (gl:=gl) ss a (by omega) ha (by have:=(hok _ (List.getElem_mem ha)).2.1;omega)
           have dA:=Depth_x (gl:=gl) ss a (by omega) ha
           have sA:=Sheets_d (gl:=gl) (ss[a]'ha) (ss[a]'ha) (by have:=(hok _ (List.getElem_mem ha)).2.1;omega)
           rw[eqL_iff.2 rfl] at sA
           have kA:((ss.length - 1 - (a):Nat):Int)=IntKind.i64.wrap (IntKind.i64.wrap ((((ss.map shR).length:Nat):Int) - 1) - ((a:Nat):Int)):=by
            rw[List.length_map]
            exact (wrap_on (by omega) (show a<_ by omega)).symm
           rcases hwhy with ⟨rfl,h200,rfl⟩|⟨he,rfl⟩
           all_goals clear hnx hmx
           all_goals ((repeat' ((conv=>whnf);first|exact .intro|refine .ya ?_|refine .na ?_|refine .ys ?_|refine .ns ?_|refine .neg (fun _=>?_) (fun _=>?_)|refine .mk (fun _=>?_) (fun _=>?_)|refine .inr (X5 (c3.r [1,0] _) ?_)|refine .inl (.inr (X5 (c3.r [1,0] _) ?_))|refine .inl (X5 (c3.r [1,0] _) ?_)|refine .inr (X5 (nA.r [1,0] _) ?_)|refine .inl (.inr (X5 (nA.r [1,0] _) ?_))|refine .inl (X5 (nA.r [1,0] _) ?_)|refine .inr (X5 (dA.r [1,0] _) ?_)|refine .inl (.inr (X5 (dA.r [1,0] _) ?_))|refine .inl (X5 (dA.r [1,0] _) ?_)|refine .inl (.inl (X1 (by first|exact E _ hgz|exact sN|exact sA) ?_))|refine .inl (X1 (by first|exact E _ hgz|exact sN|exact sA) ?_)|refine X1 (by first|exact E _ hgz|exact sN|exact sA) ?_|(first|refine ⟨Int.natCast_nonneg _,_,g1,?_⟩|refine ⟨Int.natCast_nonneg _,_,gA,?_⟩|refine ⟨_,rfl,?_⟩)|refine .mk ?_ ?_|refine AK ?_|refine AT ?_|fail));all_goals conv=>whnf)
           all_goals first
            | (rename_i hx;exact absurd kA hx)
            | (refine ⟨(i+1,a,ss,u2),⟨⟨hlt,hlt6,ha,Nat.le_succ_of_le hs,hu2,hok⟩,by show steps.length - (i+1)<steps.length - i;omega⟩,?_⟩;((repeat' first|exact rfl|((conv=>whnf);first|done|exact suL|refine And.intro ?_ ?_|fail));all_goals conv=>whnf))
           all_goals first|exact ceq e0
          ·exact absurd h hgz
          ·generalize grpZ rf ss[a] so=z at *
           have gA:=get_map (f:=shR) (l:=ss) ha
           have nA:=Now_x (gl:=gl) ss a (by omega) ha (by have:=(hok _ (List.getElem_mem ha)).2.1;omega)
           have dA:=Depth_x (gl:=gl) ss a (by omega) ha
           have sA:=Sheets_d (gl:=gl) (ss[a]'ha) (ss[a]'ha) (by have:=(hok _ (List.getElem_mem ha)).2.1;omega)
           rw[eqL_iff.2 rfl] at sA
           have kA:((ss.length - 1 - (a):Nat):Int)=IntKind.i64.wrap (IntKind.i64.wrap ((((ss.map shR).length:Nat):Int) - 1) - ((a:Nat):Int)):=by
            rw[List.length_map]
            exact (wrap_on (by omega) (show a<_ by omega)).symm
           have h1':¬ (((so.map flD).length:Nat):Int)=1:=by omega
           rcases hwhy with ⟨rfl,h200,rfl⟩|⟨he,rfl⟩
           all_goals ((repeat' ((conv=>whnf);first|exact .intro|refine .ya ?_|refine .na ?_|refine .ys ?_|refine .ns ?_|refine .neg (fun _=>?_) (fun _=>?_)|refine .mk (fun _=>?_) (fun _=>?_)|refine .inr (X5 (c3.r [1,0,3] _) ?_)|refine .inl (.inr (X5 (c3.r [1,0,3] _) ?_))|refine .inl (X5 (c3.r [1,0,3] _) ?_)|refine .inr (X5 (nA.r [1,0] _) ?_)|refine .inl (.inr (X5 (nA.r [1,0] _) ?_))|refine .inl (X5 (nA.r [1,0] _) ?_)|refine .inr (X5 (dA.r [1,0] _) ?_)|refine .inl (.inr (X5 (dA.r [1,0] _) ?_))|refine .inl (X5 (dA.r [1,0] _) ?_)|refine .inl (.inl (X1 (by first|exact E _ hgz|exact sN|exact sA) ?_))|refine .inl (X1 (by first|exact E _ hgz|exact sN|exact sA) ?_)|refine X1 (by first|exact E _ hgz|exact sN|exact sA) ?_|(first|refine ⟨Int.natCast_nonneg _,_,g1,?_⟩|refine ⟨Int.natCast_nonneg _,_,gA,?_⟩|refine ⟨_,rfl,?_⟩)|refine .mk ?_ ?_|refine AK ?_|refine AT ?_|fail));all_goals conv=>whnf)
           all_goals first
            | (rename_i hx;exact absurd kA hx)
            | (refine ⟨(i+1,a,ss,u2),⟨⟨hlt,hlt6,ha,Nat.le_succ_of_le hs,hu2,hok⟩,by show steps.length - (i+1)<steps.length - i;omega⟩,?_⟩;((repeat' first|exact rfl|((conv=>whnf);first|done|exact suL|refine And.intro ?_ ?_|fail));all_goals conv=>whnf))
           all_goals first|exact ceq e0
          ·exact absurd h hgz
         ·rcases Set_or te pe hV hl hR ss a so (by omega) ha hoa hsl2 with ⟨f,rfl,⟨h,_⟩|⟨_,c3⟩⟩|⟨h1,⟨h,_⟩|⟨_,c3⟩⟩
          ·exact absurd hgz h
          ·rw[show wsL ss[a] [f] 1=nx from hnw.symm] at c3
           obtain ⟨fc,fr,ft⟩:=f
           clear hmo
           clear hnw hgz
           by_cases hq:eqL nx ss[a]=true
           ·rw[show nAt a ss[a] nx=a from if_pos hq,show nSs a ss ss[a] nx=ss from if_pos hq] at c3
            have gA:=get_map (f:=shR) (l:=ss) ha
            have nA:=Now_x (gl:=gl) ss a (by omega) ha (by have:=(hok _ (List.getElem_mem ha)).2.1;omega)
            have dA:=Depth_x (gl:=gl) ss a (by omega) ha
            have sA:=Sheets_d (gl:=gl) (ss[a]'ha) (ss[a]'ha) (by have:=(hok _ (List.getElem_mem ha)).2.1;omega)
            rw[eqL_iff.2 rfl] at sA
            have kA:((ss.length - 1 - (a):Nat):Int)=IntKind.i64.wrap (IntKind.i64.wrap ((((ss.map shR).length:Nat):Int) - 1) - ((a:Nat):Int)):=by
             rw[List.length_map]
             exact (wrap_on (by omega) (show a<_ by omega)).symm
            ((repeat' ((conv=>whnf);first|exact .intro|refine .ya ?_|refine .na ?_|refine .ys ?_|refine .ns ?_|refine .neg (fun _=>?_) (fun _=>?_)|refine .mk (fun _=>?_) (fun _=>?_)|refine .inr (X5 (c3.r [1,0] _) ?_)|refine .inl (.inr (X5 (c3.r [1,0] _) ?_))|refine .inl (X5 (c3.r [1,0] _) ?_)|refine .inr (X5 (nA.r [1,0] _) ?_)|refine .inl (.inr (X5 (nA.r [1,0] _) ?_))|refine .inl (X5 (nA.r [1,0] _) ?_)|refine .inr (X5 (dA.r [1,0] _) ?_)|refine .inl (.inr (X5 (dA.r [1,0] _) ?_))|refine .inl (X5 (dA.r [1,0] _) ?_)|refine .inl (.inl (X1 (by first|exact E0|exact sN|exact sA) ?_))|refine .inl (X1 (by first|exact E0|exact sN|exact sA) ?_)|refine X1 (by first|exact E0|exact sN|exact sA) ?_|(first|refine ⟨Int.natCast_nonneg _,_,g1,?_⟩|refine ⟨Int.natCast_nonneg _,_,gA,?_⟩|refine ⟨_,rfl,?_⟩)|refine .mk ?_ ?_|refine AK ?_|refine AT ?_|fail));all_goals conv=>whnf)
            all_goals first
             | (rename_i hx;exact absurd kA hx)
             | (refine ⟨(i+1,a,ss,u2),⟨⟨hlt,hlt6,ha,Nat.le_succ_of_le hs,hu2,hok⟩,by show steps.length - (i+1)<steps.length - i;omega⟩,?_⟩;((repeat' first|exact rfl|((conv=>whnf);first|done|exact suL|refine And.intro ?_ ?_|fail));all_goals conv=>whnf))
            all_goals first|exact ceq e0
           ·rw[show nAt a ss[a] nx=a+1 from if_neg hq,show nSs a ss ss[a] nx=ss.take (a+1)++[nx] from if_neg hq] at c3
            obtain ⟨hl1,hok1,hgt⟩:=ss1_facts (nx:=nx) ha hok hno
            have q:=all_facts (nx:=nx) ha (by omega)
            obtain ⟨q0,q1,q2,q3,q5,q6,q7,q8,q9,q10⟩:=q
            generalize ss.take (a+1)++[nx]=ss1 at *
            have hb:a+1<ss1.length:=by omega
            have gA:=get_map (f:=shR) (l:=ss) ha
            have nA:=Now_x (gl:=gl) ss1 (a+1) (by omega) hb (by have:=(hok1 _ (List.getElem_mem hb)).2.1;omega)
            have dA:=Depth_x (gl:=gl) ss1 (a+1) (by omega) hb
            rw[hgt hb] at nA
            have sA:=Sheets_d (gl:=gl) nx nx (by omega)
            rw[eqL_iff.2 rfl] at sA
            rw[hl1,show a+2 - 1 - (a+1)=0 by omega] at dA
            ((repeat' ((conv=>whnf);first|exact .intro|refine .ya ?_|refine .na ?_|refine .ys ?_|refine .ns ?_|refine .neg (fun _=>?_) (fun _=>?_)|refine .mk (fun _=>?_) (fun _=>?_)|refine .inr (X5 (c3.r [1,0] _) ?_)|refine .inl (.inr (X5 (c3.r [1,0] _) ?_))|refine .inl (X5 (c3.r [1,0] _) ?_)|refine .inr (X5 (nA.r [1,0] _) ?_)|refine .inl (.inr (X5 (nA.r [1,0] _) ?_))|refine .inl (X5 (nA.r [1,0] _) ?_)|refine .inr (X5 (dA.r [1,0] _) ?_)|refine .inl (.inr (X5 (dA.r [1,0] _) ?_))|refine .inl (X5 (dA.r [1,0] _) ?_)|refine .inl (.inl (X1 (by first|exact E0|exact sN|exact sA) ?_))|refine .inl (X1 (by first|exact E0|exact sN|exact sA) ?_)|refine X1 (by first|exact E0|exact sN|exact sA) ?_|(first|refine ⟨Int.natCast_nonneg _,_,g1,?_⟩|refine ⟨Int.natCast_nonneg _,_,gA,?_⟩|refine ⟨q0,?_⟩|refine ⟨⟨q1,q2,q3⟩,?_⟩|refine ⟨⟨rfl,q5,q6⟩,?_⟩|refine ⟨q7,?_⟩|refine ⟨_,q8,?_⟩|refine ⟨_,rfl,?_⟩)|refine .mk ?_ ?_|refine AK ?_|refine AT ?_|fail));all_goals conv=>whnf)
            all_goals first
             | (rename_i hx;exact absurd q9 hx)
             | (rename_i hx;exact absurd ew.symm hx)
             | (rename_i hx _;exact absurd ew.symm hx)
             | (refine ⟨(i+1,a+1,ss1,u2),⟨⟨hlt,hlt6,hb,(by rw[hl1];exact Nat.succ_le_succ (by omega)),hu2,hok1⟩,by show steps.length - (i+1)<steps.length - i;omega⟩,?_⟩;((repeat' first|exact rfl|((conv=>whnf);first|done|exact suL|refine And.intro ?_ ?_|fail));all_goals conv=>whnf))
            all_goals first|exact ceq e0|exact ceq ew|exact .inr (.inl (congrArg (fun z=>C.d (D.lst 1 z)) q10))|exact q10|skip
          ·exact absurd hgz h
          ·rw[show wsL ss[a] so so.length=nx from hnw.symm] at c3
           have h1':¬ (((so.map flD).length:Nat):Int)=1:=by omega
           clear hnw hgz
           by_cases hq:eqL nx ss[a]=true
           ·rw[show nAt a ss[a] nx=a from if_pos hq,show nSs a ss ss[a] nx=ss from if_pos hq] at c3
            have gA:=get_map (f:=shR) (l:=ss) ha
            have nA:=Now_x (gl:=gl) ss a (by omega) ha (by have:=(hok _ (List.getElem_mem ha)).2.1;omega)
            have dA:=Depth_x (gl:=gl) ss a (by omega) ha
            have sA:=Sheets_d (gl:=gl) (ss[a]'ha) (ss[a]'ha) (by have:=(hok _ (List.getElem_mem ha)).2.1;omega)
            rw[eqL_iff.2 rfl] at sA
            have kA:((ss.length - 1 - (a):Nat):Int)=IntKind.i64.wrap (IntKind.i64.wrap ((((ss.map shR).length:Nat):Int) - 1) - ((a:Nat):Int)):=by
             rw[List.length_map]
             exact (wrap_on (by omega) (show a<_ by omega)).symm
            ((repeat' ((conv=>whnf);first|exact .intro|refine .ya ?_|refine .na ?_|refine .ys ?_|refine .ns ?_|refine .neg (fun _=>?_) (fun _=>?_)|refine .mk (fun _=>?_) (fun _=>?_)|refine .inr (X5 (c3.r [1,0,3] _) ?_)|refine .inl (.inr (X5 (c3.r [1,0,3] _) ?_))|refine .inl (X5 (c3.r [1,0,3] _) ?_)|refine .inr (X5 (nA.r [1,0] _) ?_)|refine .inl (.inr (X5 (nA.r [1,0] _) ?_))|refine .inl (X5 (nA.r [1,0] _) ?_)|refine .inr (X5 (dA.r [1,0] _) ?_)|refine .inl (.inr (X5 (dA.r [1,0] _) ?_))|refine .inl (X5 (dA.r [1,0] _) ?_)|refine .inl (.inl (X1 (by first|exact E0|exact sN|exact sA) ?_))|refine .inl (X1 (by first|exact E0|exact sN|exact sA) ?_)|refine X1 (by first|exact E0|exact sN|exact sA) ?_|(first|refine ⟨Int.natCast_nonneg _,_,g1,?_⟩|refine ⟨Int.natCast_nonneg _,_,gA,?_⟩|refine ⟨_,rfl,?_⟩)|refine .mk ?_ ?_|refine AK ?_|refine AT ?_|fail));all_goals conv=>whnf)
            all_goals first
             | (rename_i hx;exact absurd kA hx)
             | (refine ⟨(i+1,a,ss,u2),⟨⟨hlt,hlt6,ha,Nat.le_succ_of_le hs,hu2,hok⟩,by show steps.length - (i+1)<steps.length - i;omega⟩,?_⟩;((repeat' first|exact rfl|((conv=>whnf);first|done|exact suL|refine And.intro ?_ ?_|fail));all_goals conv=>whnf))
            all_goals first|exact ceq e0
           ·rw[show nAt a ss[a] nx=a+1 from if_neg hq,show nSs a ss ss[a] nx=ss.take (a+1)++[nx] from if_neg hq] at c3
            obtain ⟨hl1,hok1,hgt⟩:=ss1_facts (nx:=nx) ha hok hno
            have q:=all_facts (nx:=nx) ha (by omega)
            obtain ⟨q0,q1,q2,q3,q5,q6,q7,q8,q9,q10⟩:=q
            generalize ss.take (a+1)++[nx]=ss1 at *
            have hb:a+1<ss1.length:=by omega
            have gA:=get_map (f:=shR) (l:=ss) ha
            have nA:=Now_x (gl:=gl) ss1 (a+1) (by omega) hb (by have:=(hok1 _ (List.getElem_mem hb)).2.1;omega)
            have dA:=Depth_x (gl:=gl) ss1 (a+1) (by omega) hb
            rw[hgt hb] at nA
            have sA:=Sheets_d (gl:=gl) nx nx (by omega)
            rw[eqL_iff.2 rfl] at sA
            rw[hl1,show a+2 - 1 - (a+1)=0 by omega] at dA
            ((repeat' ((conv=>whnf);first|exact .intro|refine .ya ?_|refine .na ?_|refine .ys ?_|refine .ns ?_|refine .neg (fun _=>?_) (fun _=>?_)|refine .mk (fun _=>?_) (fun _=>?_)|refine .inr (X5 (c3.r [1,0,3] _) ?_)|refine .inl (.inr (X5 (c3.r [1,0,3] _) ?_))|refine .inl (X5 (c3.r [1,0,3] _) ?_)|refine .inr (X5 (nA.r [1,0] _) ?_)|refine .inl (.inr (X5 (nA.r [1,0] _) ?_))|refine .inl (X5 (nA.r [1,0] _) ?_)|refine .inr (X5 (dA.r [1,0] _) ?_)|refine .inl (.inr (X5 (dA.r [1,0] _) ?_))|refine .inl (X5 (dA.r [1,0] _) ?_)|refine .inl (.inl (X1 (by first|exact E0|exact sN|exact sA) ?_))|refine .inl (X1 (by first|exact E0|exact sN|exact sA) ?_)|refine X1 (by first|exact E0|exact sN|exact sA) ?_|(first|refine ⟨Int.natCast_nonneg _,_,g1,?_⟩|refine ⟨Int.natCast_nonneg _,_,gA,?_⟩|refine ⟨q0,?_⟩|refine ⟨⟨q1,q2,q3⟩,?_⟩|refine ⟨⟨rfl,q5,q6⟩,?_⟩|refine ⟨q7,?_⟩|refine ⟨_,q8,?_⟩|refine ⟨_,rfl,?_⟩)|refine .mk ?_ ?_|refine AK ?_|refine AT ?_|fail));all_goals conv=>whnf)
            all_goals first
             | (rename_i hx;exact absurd q9 hx)
             | (rename_i hx;exact absurd ew.symm hx)
             | (rename_i hx _;exact absurd ew.symm hx)
             | (refine ⟨(i+1,a+1,ss1,u2),⟨⟨hlt,hlt6,hb,(by rw[hl1];exact Nat.succ_le_succ (by omega)),hu2,hok1⟩,by show steps.length - (i+1)<steps.length - i;omega⟩,?_⟩;((repeat' first|exact rfl|((conv=>whnf);first|done|exact suL|refine And.intro ?_ ?_|fail));all_goals conv=>whnf))
            all_goals first|exact ceq e0|exact ceq ew|exact .inr (.inl (congrArg (fun z=>C.d (D.lst 1 z)) q10))|exact q10|skip
     -- END
    ·have h3:¬ (i:Int)<60:=by omega
     ((repeat' ((conv=>whnf);first|exact .intro|refine .ya ?_|refine .na ?_|refine .ys ?_|refine .ns ?_|refine .neg (fun _=>?_) (fun _=>?_)|refine .mk (fun _=>?_) (fun _=>?_)|refine .mk ?_ ?_|refine AK ?_|refine AT ?_|fail));all_goals conv=>whnf)
     all_goals exact LeD.rfl
   ·have h2:¬ (i:Int)<((steps.map stR).length:Nat):=by omega
    ((repeat' ((conv=>whnf);first|exact .intro|refine .ya ?_|refine .na ?_|refine .ys ?_|refine .ns ?_|refine .neg (fun _=>?_) (fun _=>?_)|refine .mk (fun _=>?_) (fun _=>?_)|refine .mk ?_ ?_|refine AK ?_|refine AT ?_|fail));all_goals conv=>whnf)
    all_goals exact LeD.rfl
 ·have c2:=PNew_n (gl:=gl) l e he c1
  have E1:=Err_e (gl:=gl) e he hT
  refine fnP_of_vc (nv:=27) (cu:=[17,28]) fits mixed Tryz.func8 rfl hoB rfl ?_
  ((repeat' ((conv=>whnf);first|exact .intro|refine .ya ?_|refine .na ?_|refine .ys ?_|refine .ns ?_|refine .neg (fun _=>?_) (fun _=>?_)|refine .mk (fun _=>?_) (fun _=>?_)|refine .inr (X5 (c2.r [] _) ?_)|refine .inl (.inr (X5 (c2.r [] _) ?_))|refine .inl (X5 (c2.r [] _) ?_)|refine .inl (.inl (X1 (by first|exact c0|exact E1) ?_))|refine .inl (X1 (by first|exact c0|exact E1) ?_)|refine X1 (by first|exact c0|exact E1) ?_|refine .mk ?_ ?_|refine AK ?_|refine AT ?_|fail));all_goals conv=>whnf)
  all_goals exact LeD.rfl
end
end Go.Proofs.YtdpigpahfiachaaGreatDoor
end
