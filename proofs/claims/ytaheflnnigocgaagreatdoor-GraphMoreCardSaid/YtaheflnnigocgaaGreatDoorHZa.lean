/- Proved: a part of what the law is proved with (the reckoner, contracts of functions, plain laws). Conditions: as each says. -/
import Derived.Test.YtaheflnnigocgaaGreatDoorHTjh
import Derived.Test.YtaheflnnigocgaaGreatDoorHTju
import Derived.Test.YtaheflnnigocgaaGreatDoorHTjw
section
namespace Go.Proofs.YtaheflnnigocgaaGreatDoor
open Go Go.RowKit Go.EYtaheflnnigocgaaGreatDoor
set_option maxRecDepth 100000
set_option maxHeartbeats 400000000
variable {gl:List (Nat×List D)}
abbrev newErr (gl:List (Nat×List D)) (l:List Fl) (e:Int):Prop:=Go.EYtaheflnnigocgaaGreatDoor.Fn Tryz.prog gl 18 [.c (.d (.lst 3 (l.map flD)))] [] 0 (.ret (.tup [(false,[.d (.v (.pointer none))]),(false,[.d (erD e)])])) [] 0 []
theorem Links_e (l:List Fl) (e:Int) (cN:newErr gl l e):FnP Tryz.prog gl 6 [.lst 3 (l.map flD)] (.tup [.v (.slice none 0 0),erD e]):=by
 refine fnP_of_vc (nv:=9999) (cu:=[]) fits mixed Tryz.func6 rfl hoB rfl ?_
 ((repeat' ((conv=>whnf);first|exact .intro|refine .ya ?_|refine .na ?_|refine .ys ?_|refine .ns ?_|refine .neg (fun _=>?_) (fun _=>?_)|refine .mk (fun _=>?_) (fun _=>?_)|refine .inr (X5 (cN.r [] _) ?_)|refine .inl (.inr (X5 (cN.r [] _) ?_))|refine .inl (X5 (cN.r [] _) ?_)|refine .mk ?_ ?_|refine AK ?_|refine AT ?_|fail));all_goals conv=>whnf)
 all_goals exact LeD.rfl
abbrev vZ (l:List Fl):List Cl:=l.map clF
noncomputable abbrev qZ (l:List Fl):List (List Cl):=partsZ (ntZ l).g (vZ l)
abbrev NewZ (gl:List (Nat×List D)) (l:List Fl):Prop:=Go.EYtaheflnnigocgaaGreatDoor.Fn Tryz.prog gl 18 [.c (.d (.lst 3 (l.map flD)))] [] 0 (.ret (.tup [(false,[.ptr 4 0]),(false,[.d (.v .nilIface)])])) (newR rdZ l (qZ l)) 15 []
theorem NewZ.net {l:List Fl} (h:gZ l) (c:NewZ gl l):NetOk gl l (ntZ l) (qZ l):=by
 unfold NetOk
 have:=onV_new rdZ (gNd h)
 unfold netR
 rw[this]
 exact c
theorem rowZ {l:List Fl} (h:gZ l):Row (ntZ l).g (vZ l) (qZ l):=row_z (fun _x=>decide_eq_true_iff) (gNd h)
theorem qZ_few {l:List Fl} (h:gZ l):(qZ l).length≤200∧∀ q ∈ qZ l,q.length≤200:=by
 have hR:=rowZ h
 have hV:(vZ l).length≤200:=by rw[List.length_map];exact h.1
 refine ⟨?_,fun q hq=>Nat.le_trans (nodup_len (p:=vZ l) ((hR.ps.up q hq).imp fun {a b} (hab:les a b) (e:a=b)=>les_irr b (by rwa [e] at hab)) fun c hc=>of_decide_eq_true (hR.ps.sub q hq c hc)) hV⟩
 have key:∀ P:List (List Cl),P.Pairwise (fun p q=>∀ c ∈ p,c ∉ q)→(∀ p ∈ P,(∃ c,c ∈ p)∧∀ c ∈ p,c ∈ vZ l)→∃ H:List Cl,H.length=P.length∧H.Nodup∧∀ c ∈ H,c ∈ vZ l∧∃ p ∈ P,c ∈ p:=fun P=>by
  induction P with
  | nil=>exact fun _ _=>⟨[],rfl,List.nodup_nil,fun c hc=>nomatch hc⟩
  | cons p P ih =>
   intro h1 h2
   obtain ⟨h3,h4⟩:=List.pairwise_cons.1 h1
   obtain ⟨H,g1,g2,g3⟩:=ih h4 fun q hq=>h2 q (by simp[hq])
   obtain ⟨⟨c,hc⟩,hcD⟩:=h2 p (by simp)
   refine ⟨c::H,by simp[g1],List.nodup_cons.2 ⟨fun hcH=>?_,g2⟩,fun d hd=>?_⟩
   ·obtain ⟨_,q,hq,hcq⟩:=g3 c hcH
    exact h3 q hq c hc hcq
   ·rcases List.mem_cons.1 hd with rfl|hd
    ·exact ⟨hcD d hc,p,by simp,hc⟩
    ·obtain ⟨g4,q,hq,g5⟩:=g3 d hd
     exact ⟨g4,q,by simp[hq],g5⟩
 obtain ⟨H,g1,g2,g3⟩:=key (qZ l) hR.ps.two fun p hp=>⟨List.exists_mem_of_ne_nil p (hR.ps.part p hp).ne,fun c hc=>of_decide_eq_true (hR.ps.sub p hp c hc)⟩
 rw[← g1]
 exact Nat.le_trans (nodup_len g2 fun c hc=>(g3 c hc).1) hV
end Go.Proofs.YtaheflnnigocgaaGreatDoor
end
section
namespace Go.Proofs.YtaheflnnigocgaaGreatDoor
open Go Go.EYtaheflnnigocgaaGreatDoor
set_option maxRecDepth 100000
set_option maxHeartbeats 4000000
variable {gl:List (Nat×List D)}
abbrev lesC (f:Fl) (c r:Int):Prop:=f.r<r∨f.r=r∧f.c<c
def skF (c r:Int):List Fl→Nat
 | []=>0
 | f::t=>if lesC f c r then skF c r t+1 else 0
def isF (c r:Int) (l:List Fl):Bool:=match l[skF c r l]? with
 | some f=>decide (f.c=c∧f.r=r)
 | none=>false
end Go.Proofs.YtaheflnnigocgaaGreatDoor
end
