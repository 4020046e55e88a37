/- Proved: the law of this seat, and its card. Condition: the variables that its row lists read as laid (the card ties them to the text). -/
import Derived.Test.YtaheflnnigocgaaGreatDoorHFp
import Derived.Test.YtaheflnnigocgaaGreatDoorHFz
import Derived.Test.YtaheflnnigocgaaGreatDoorHIn
import Derived.Test.YtaheflnnigocgaaGreatDoorHTke
section
namespace Go.Proofs.YtaheflnnigocgaaGreatDoor
open Go Go.ChangeShapes Go.WideShapes Go.ChangeAt Go.RowKit Go.EYtaheflnnigocgaaGreatDoor
set_option linter.unusedVariables false
set_option maxRecDepth 100000
theorem readGraphMore:∀ t ∈ ([22,24,24]:List TypeId),Tryz.prog.readableRec t=true∧t<Tryz.prog.types.size:=by
 rw[Door.size]
 have h:([22,24,24]:List TypeId).all (fun t=>Tryz.prog.readableRec t && decide (t<250))=true:=by kernel_rfl
 intro t ht
 simpa using List.all_eq_true.1 h t ht
theorem graphMore_lifted (os:Os) (started:os.Started) (H:Type) (enc:TypeId×Value→H) :
 ReturnsInHanded {} Tryz.checked os 3 .any (fun w args=>(Rows.graphMoreSpec.pre enc Tryz.prog Tryz.f3 [] false w args∧laidMetH Tryz.prog Rows.graphMoreRow.laid w)∧sizedMet enc Tryz.prog Tryz.f3 (OpenSpec.ofChange Rows.graphMoreSpec) false w args)
  (Rows.graphMoreSpec.post enc Tryz.prog Tryz.f3 false true false false):=by
 refine wrapYtaheflnnigocgaaGreatDoor (C:=Tryz.checked) (X:=fun w _=>laidMetH Tryz.prog Rows.graphMoreRow.laid w) (fun _ _ _ hh h=>h.of_heap hh) Door.own started (by kernel_rfl) Tryz.func3
  (ChangeSpec.witness_shaped (enc:=enc) (C:=Tryz.checked) (os:=os) (X:=fun w _=>laidMetH Tryz.prog Rows.graphMoreRow.laid w) false (World.laidAll Tryz.prog os Rows.graphMoreRow.laid)
   #[.slice none 0 0,.agg #[.int .i64 0,.int .i64 0],.agg #[.int .i64 0,.int .i64 0]] 8 (World.laidAll_os _ _ _)
   (World.shaped_of_ZipB (by kernel_rfl) (by kernel_rfl)) (by kernel_rfl) (by kernel_rfl) (by kernel_rfl)
   (by rw[MakeChecks.laidMetH_plain _ _ _ (by kernel_rfl)];exact laidMet_of_run' 8 (by kernel_rfl) (by kernel_rfl))) ?_
 intro W base args ds gs before hval0 hW _ hsz hL hsh
 have hval:∀ (j:Nat) t v,Tryz.f3.params[j]?=some t→args[j]?=some v→Value.okWide Tryz.prog W .any base t v:=hval0
 have hW':=hW
 obtain ⟨p,q,hA0,hV,rfl,hfz,hnd⟩:=hW
 have hA1:DataW.TrodAll enc Tryz.prog W 0 (fun _=>true) true Tryz.f3.params.toList args.toList ds p:=hA0
 rw[Tryz.params3] at hA1 hval
 obtain ⟨rfl,rfl⟩:=trodVars_none hV
 have hA:=hA1
 obtain ⟨argl⟩:=args
 obtain ⟨v0,vs0,d0,ds0,p0,q0,e,rfl,-,h0,hA⟩:=trodAll_cons hA
 obtain ⟨v1,vs1,d1,ds1,p1,q1,rfl,rfl,-,h1,hA⟩:=trodAll_cons hA
 obtain ⟨v2,vs2,d2,ds2,p2,q2,rfl,rfl,-,h2,hA⟩:=trodAll_cons hA
 obtain ⟨rfl,rfl,-⟩:=trodAll_nil hA
 cases e
 obtain ⟨l,rl,hl,hBl⟩:=open_fls (hval 0 22 v0 rfl rfl) h0 (fun m hm=>by have:=List.all_eq_true.1 hsz m (DataW.weights_mem_each (j:=0) (t:=22) rfl rfl m hm);simpa using this)
 obtain ⟨cc,cr,rfl⟩:=openCell (hval 1 24 v1 rfl rfl) h1
 obtain ⟨dc,dr,rfl⟩:=openCell (hval 2 24 v2 rfl rfl) h2
 have hL':laidMet Tryz.prog Rows.graphMoreRow.laid W:=by have h:=hL;rwa [MakeChecks.laidMetH_plain _ _ _ (by kernel_rfl)] at h
 obtain ⟨te,pe,hg0⟩:=glob_V (Lib.laidMet.reads hL' (List.mem_of_getElem? (i:=6) (by rfl))) ⟨_,Lib.laidMet.reads hL' (List.mem_of_getElem? (i:=4) (by rfl))⟩ (Lib.laidMet.reads hL' (List.mem_of_getElem? (i:=2) (by rfl)))
 obtain ⟨mx,hmx⟩:=var_maxLen hsh
 have hg:=Glob.cons (var_loose (Lib.laidMet.reads hL' (List.mem_of_getElem? (i:=7) (by rfl)))) (Glob.cons hmx hg0)
 simp only[List.append_nil] at hW'
 refine (FnP.calls (gl:=glK te pe mx) (GraphMore_g te pe mx l (cc,cr) (dc,dr)) hoB (hg)
  (xs:=[_,_,_]) ⟨rl,den_cell _ _ _ _,den_cell _ _ _ _,trivial⟩).mono fun e W' ⟨he,hb⟩=>?_
 subst he
 have hlt:∀ x ∈ p,x.block<W.heap.size:=fun x hx=>by simpa using hW'.lt x (by simpa using hx)
 exact ⟨_,rfl,_,_,_,[],p,[],hW',trodAll_mk1 (shut_bool Tryz.underlying4 _),trodAll_below Door.out (ts:=[22,24,24]) hb readGraphMore hA1 hlt (fun x hx=>by simpa using hlt x hx),rfl,hb.frame _,fun h=>by cases h⟩
set_option maxHeartbeats 400000000 in
theorem graphMore_facts:joinedFacts Tryz.checked.prog 3 Tryz.f3 Rows.graphMoreSpec Rows.graphMoreRow=true:=by
 simp only[joinedFacts,Bool.and_eq_true]
 repeat' apply And.intro
 all_goals as_aux_lemma=>kernel_rfl
theorem graphMore_over:Rows.GraphMoreSaid :=
 OpenClaim.holds_of_wide 3 Tryz.f3 rfl rfl rfl rfl rfl rfl rfl ⟨rfl,rfl,rfl,rfl,rfl⟩ rfl rfl rfl rfl rfl (by kernel_rfl) Tryz.func3 graphMore_facts
  (of_decide_eq_true (by kernel_rfl)) (by unfold Func.isWrapper;rw[if_neg (of_decide_eq_false (by kernel_rfl))];exact ⟨rfl,rfl⟩)
  (fun os started H enc _=>graphMore_lifted os started H enc)
theorem wantsGraphMore:∀ t ∈ ([22,24,24]:List TypeId),Tryz.prog.wantsStandIn t=false:=by
 have h:([22,24,24]:List TypeId).all (fun t=>!Tryz.prog.wantsStandIn t)=true:=by kernel_rfl
 intro t ht
 simpa using List.all_eq_true.1 h t ht
theorem graphMore_proved:Rows.GraphMoreCardSaid :=
 Claim7.holds_tied_plain_at .later [] [.data,.data,.data,.data,.sentinel,.sentinel,.data,.data,.pinned] true (true, "063ae5bedcf97e029e3b30c6fdbdcc4f0a298583747fad3bf856a30bb63deaa9") true
  graphMore_over (fun _ h=>by cases h) (by kernel_rfl) (fun _ h=>by cases h) graphMore_row_tie rfl ⟨rfl,rfl⟩ (by kernel_rfl) rfl
  (fun f fn hf hfn=>by
   obtain rfl:f=3:=Option.some.inj ((show Tryz.prog.funcNamed "sccsettle/scclaw6.GraphMore" = some 3 by kernel_rfl).symm.trans hf) |>.symm
   obtain rfl:fn=Tryz.f3:=(Option.some.inj (Tryz.func3.symm.trans hfn)).symm
   exact ⟨by kernel_rfl,fun j t ht=>by
    rw[Tryz.params3] at ht
    exact wantsGraphMore t (List.mem_of_getElem? (l:=[22,24,24]) (by simpa using ht))⟩)
  (by kernel_rfl)
#print axioms graphMore_proved
end Go.Proofs.YtaheflnnigocgaaGreatDoor
end
