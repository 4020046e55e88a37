/- Proved: the law of this seat, and its card. Condition: the variables that its row lists read as laid (the card ties them to the text). -/
import Derived.Test.YtfkjhfdpphfjhaaGreatDoorRows
import Derived.Test.YtfkjhfdpphfjhaaGreatDoorProg
import Derived.Test.YtfkjhfdpphfjhaaGreatDoorVBa
import Derived.Test.YtfkjhfdpphfjhaaGreatDoorVDa
import Derived.Test.YtfkjhfdpphfjhaaGreatDoorVDx
import Derived.Test.YtfkjhfdpphfjhaaGreatDoorVFo
import Derived.Test.YtfkjhfdpphfjhaaGreatDoorVGe
import Derived.Test.YtfkjhfdpphfjhaaGreatDoorVMk
section
namespace Go.Proofs.YtfkjhfdpphfjhaaGreatDoor
open Go Go.ChangeShapes Go.WideShapes Go.ChangeAt Go.RowKit Go.EYtfkjhfdpphfjhaaGreatDoor
set_option linter.unusedVariables false
set_option maxRecDepth 100000
theorem readEvalSums:∀ t ∈ ([46,3]:List TypeId),Tryz.prog.readableRec t=true∧t<Tryz.prog.types.size:=by
 rw[Door.size]
 have h:([46,3]:List TypeId).all (fun t=>Tryz.prog.readableRec t && decide (t<347))=true:=by kernel_rfl
 intro t ht
 simpa using List.all_eq_true.1 h t ht
theorem evalSums_lifted (os:Os) (started:os.Started) (H:Type) (enc:TypeId×Value→H) :
 ReturnsInHanded {} Tryz.checked os 4 .any (fun w args=>(Rows.evalSumsSpec.pre enc Tryz.prog Tryz.f4 [] false w args∧laidMetH Tryz.prog Rows.evalSumsRow.laid w)∧sizedMet enc Tryz.prog Tryz.f4 (OpenSpec.ofChange Rows.evalSumsSpec) false w args)
  (Rows.evalSumsSpec.post enc Tryz.prog Tryz.f4 false true false false):=by
 refine wrapYtfkjhfdpphfjhaaGreatDoor (C:=Tryz.checked) (X:=fun w _=>laidMetH Tryz.prog Rows.evalSumsRow.laid w) (fun _ _ _ hh h=>h.of_heap hh) Door.own started (by kernel_rfl) Tryz.func4
  (ChangeSpec.witness_shaped (enc:=enc) (C:=Tryz.checked) (os:=os) (X:=fun w _=>laidMetH Tryz.prog Rows.evalSumsRow.laid w) false (World.laidAll Tryz.prog os Rows.evalSumsRow.laid)
   #[.slice none 0 0,.int .i64 0] 8 (World.laidAll_os _ _ _)
   (World.shaped_of_ZipB (by kernel_rfl) (by kernel_rfl)) (by kernel_rfl) (by kernel_rfl) (by kernel_rfl)
   (by rw[MakeChecks.laidMetH_plain _ _ _ (by kernel_rfl)];exact laidMet_of_run' 8 (by kernel_rfl) (by kernel_rfl))) ?_
 intro W base args ds gs before hval0 hW _ hsz hL hsh
 have hval:∀ (j:Nat) t v,Tryz.f4.params[j]?=some t→args[j]?=some v→Value.okWide Tryz.prog W .any base t v:=hval0
 have hW':=hW
 obtain ⟨p,q,hA0,hV,rfl,hfz,hnd⟩:=hW
 have hA1:DataW.TrodAll enc Tryz.prog W 0 (fun _=>true) true Tryz.f4.params.toList args.toList ds p:=hA0
 rw[Tryz.params4] at hA1 hval
 obtain ⟨rfl,rfl⟩:=trodVars_none hV
 have hA:=hA1
 obtain ⟨argl⟩:=args
 obtain ⟨v0,vs0,d0,ds0,p0,q0,e,rfl,-,h0,hA⟩:=trodAll_cons hA
 obtain ⟨v1,vs1,d1,ds1,p1,q1,rfl,rfl,-,h1,hA⟩:=trodAll_cons hA
 obtain ⟨rfl,rfl,-⟩:=trodAll_nil hA
 cases e
 obtain ⟨vs,rvs,lvs,hvs⟩:=open_vls (hval 0 46 v0 rfl rfl) h0 (fun m hm=>by have:=List.all_eq_true.1 hsz m (DataW.weights_mem_each (j:=0) (t:=46) rfl rfl m hm);simpa using this)
 obtain ⟨cut,rfl,-,-,rcut⟩:=open_int Tryz.underlying3 (hval 1 3 v1 rfl rfl) h1
 have rcut:=okI_of_wf rcut
 have hL':laidMet Tryz.prog Rows.evalSumsRow.laid W:=by have h:=hL;rwa [MakeChecks.laidMetH_plain _ _ _ (by kernel_rfl)] at h
 obtain ⟨te,pe,hg0⟩:=glob_V (Lib.laidMet.reads hL' (List.mem_of_getElem? (i:=6) (by rfl))) ⟨_,Lib.laidMet.reads hL' (List.mem_of_getElem? (i:=4) (by rfl))⟩ (Lib.laidMet.reads hL' (List.mem_of_getElem? (i:=2) (by rfl)))
 obtain ⟨mx,hmx⟩:=var_maxLen hsh
 have hg:=Glob.cons (var_wrong (Lib.laidMet.reads hL' (List.mem_of_getElem? (i:=8) (by rfl)))) (Glob.cons (var_loose (Lib.laidMet.reads hL' (List.mem_of_getElem? (i:=7) (by rfl)))) (Glob.cons hmx hg0))
 simp only[List.append_nil] at hW'
 refine (FnP.calls (gl:=glY te pe mx) (EvalSums_g te pe mx vs hvs cut) hoB (hg)
  (xs:=[_,_]) ⟨rvs,den_i _ _ _,trivial⟩).mono fun e W' ⟨he,hb⟩=>?_
 subst he
 have hlt:∀ x ∈ p,x.block<W.heap.size:=fun x hx=>by simpa using hW'.lt x (by simpa using hx)
 exact ⟨_,rfl,_,_,_,[],p,[],hW',trodAll_mk1 (shut_bool Tryz.underlying4 _),trodAll_below Door.out (ts:=[46,3]) hb readEvalSums hA1 hlt (fun x hx=>by simpa using hlt x hx),rfl,hb.frame _,fun h=>by cases h⟩
set_option maxHeartbeats 400000000 in
theorem evalSums_facts:joinedFacts Tryz.checked.prog 4 Tryz.f4 Rows.evalSumsSpec Rows.evalSumsRow=true:=by
 simp only[joinedFacts,Bool.and_eq_true]
 repeat' apply And.intro
 all_goals as_aux_lemma=>kernel_rfl
theorem evalSums_over:Rows.EvalSumsSaid :=
 OpenClaim.holds_of_wide 4 Tryz.f4 rfl rfl rfl rfl rfl rfl rfl ⟨rfl,rfl,rfl,rfl,rfl⟩ rfl rfl rfl rfl rfl (by kernel_rfl) Tryz.func4 evalSums_facts
  (of_decide_eq_true (by kernel_rfl)) (by unfold Func.isWrapper;rw[if_neg (of_decide_eq_false (by kernel_rfl))];exact ⟨rfl,rfl⟩)
  (fun os started H enc _=>evalSums_lifted os started H enc)
theorem wantsEvalSums:∀ t ∈ ([46,3]:List TypeId),Tryz.prog.wantsStandIn t=false:=by
 have h:([46,3]:List TypeId).all (fun t=>!Tryz.prog.wantsStandIn t)=true:=by kernel_rfl
 intro t ht
 simpa using List.all_eq_true.1 h t ht
theorem evalSums_proved:Rows.EvalSumsCardSaid :=
 Claim7.holds_tied_plain_at .later [] [.data,.data,.data,.data,.sentinel,.sentinel,.data,.data,.data,.pinned] true (true, "3385073cbd997bd09fe6ffb5e122982735c371078d307ff59f79f0bbb3ee150b") true
  evalSums_over (fun _ h=>by cases h) (by kernel_rfl) (fun _ h=>by cases h) evalSums_row_tie rfl ⟨rfl,rfl⟩ (by kernel_rfl) rfl
  (fun f fn hf hfn=>by
   obtain rfl:f=4:=Option.some.inj ((show Tryz.prog.funcNamed "sccsettle/scclaw6.EvalSums" = some 4 by kernel_rfl).symm.trans hf) |>.symm
   obtain rfl:fn=Tryz.f4:=(Option.some.inj (Tryz.func4.symm.trans hfn)).symm
   exact ⟨by kernel_rfl,fun j t ht=>by
    rw[Tryz.params4] at ht
    exact wantsEvalSums t (List.mem_of_getElem? (l:=[46,3]) (by simpa using ht))⟩)
  (by kernel_rfl)
#print axioms evalSums_proved
end Go.Proofs.YtfkjhfdpphfjhaaGreatDoor
end
