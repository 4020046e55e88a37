/- Proved: the law of this seat, and its card. Condition: the variables that its row lists read as laid (the card ties them to the text). -/
import Derived.Test.YtfkjhfdpphfjhaaGreatDoorRows
import Derived.Test.YtfkjhfdpphfjhaaGreatDoorProg
import Derived.Test.YtfkjhfdpphfjhaaGreatDoorYBa
import Derived.Test.YtfkjhfdpphfjhaaGreatDoorYDa
import Derived.Test.YtfkjhfdpphfjhaaGreatDoorYDm
import Derived.Test.YtfkjhfdpphfjhaaGreatDoorYDyx
import Derived.Test.YtfkjhfdpphfjhaaGreatDoorYFo
import Derived.Test.YtfkjhfdpphfjhaaGreatDoorYFp
import Derived.Test.YtfkjhfdpphfjhaaGreatDoorYGe
section
namespace Go.Proofs.YtfkjhfdpphfjhaaGreatDoor
open Go Go.ChangeShapes Go.WideShapes Go.ChangeAt Go.RowKit Go.EYtfkjhfdpphfjhaaGreatDoor
set_option linter.unusedVariables false
set_option maxRecDepth 100000
theorem readEvalCuts:∀ t ∈ ([9,3]:List TypeId),Tryz.prog.readableRec t=true∧t<Tryz.prog.types.size:=by
 rw[Door.size]
 have h:([9,3]:List TypeId).all (fun t=>Tryz.prog.readableRec t && decide (t<347))=true:=by kernel_rfl
 intro t ht
 simpa using List.all_eq_true.1 h t ht
theorem evalCuts_lifted (os:Os) (started:os.Started) (H:Type) (enc:TypeId×Value→H) :
 ReturnsInHanded {} Tryz.checked os 5 .any (fun w args=>(Rows.evalCutsSpec.pre enc Tryz.prog Tryz.f5 [] false w args∧laidMetH Tryz.prog Rows.evalCutsRow.laid w)∧sizedMet enc Tryz.prog Tryz.f5 (OpenSpec.ofChange Rows.evalCutsSpec) false w args)
  (Rows.evalCutsSpec.post enc Tryz.prog Tryz.f5 false true false false):=by
 refine wrapYtfkjhfdpphfjhaaGreatDoor (C:=Tryz.checked) (X:=fun w _=>laidMetH Tryz.prog Rows.evalCutsRow.laid w) (fun _ _ _ hh h=>h.of_heap hh) Door.own started (by kernel_rfl) Tryz.func5
  (ChangeSpec.witness_shaped (enc:=enc) (C:=Tryz.checked) (os:=os) (X:=fun w _=>laidMetH Tryz.prog Rows.evalCutsRow.laid w) false (World.laidAll Tryz.prog os Rows.evalCutsRow.laid)
   #[.string ⟨#[]⟩,.int .i64 0] 8 (World.laidAll_os _ _ _)
   (World.shaped_of_ZipB (by kernel_rfl) (by kernel_rfl)) (by kernel_rfl) (by kernel_rfl) (by kernel_rfl)
   (by rw[MakeChecks.laidMetH_plain _ _ _ (by kernel_rfl)];exact laidMet_of_run' 8 (by kernel_rfl) (by kernel_rfl))) ?_
 intro W base args ds gs before hval0 hW _ hsz hL hsh
 have hval:∀ (j:Nat) t v,Tryz.f5.params[j]?=some t→args[j]?=some v→Value.okWide Tryz.prog W .any base t v:=hval0
 have hW':=hW
 obtain ⟨p,q,hA0,hV,rfl,hfz,hnd⟩:=hW
 have hA1:DataW.TrodAll enc Tryz.prog W 0 (fun _=>true) true Tryz.f5.params.toList args.toList ds p:=hA0
 rw[Tryz.params5] at hA1 hval
 obtain ⟨rfl,rfl⟩:=trodVars_none hV
 have hA:=hA1
 obtain ⟨argl⟩:=args
 obtain ⟨v0,vs0,d0,ds0,p0,q0,e,rfl,-,h0,hA⟩:=trodAll_cons hA
 obtain ⟨v1,vs1,d1,ds1,p1,q1,rfl,rfl,-,h1,hA⟩:=trodAll_cons hA
 obtain ⟨rfl,rfl,-⟩:=trodAll_nil hA
 cases e
 obtain ⟨t0,rfl,rfl,-,-⟩:=Go.ChangeMaps.open_string Tryz.underlying9 (hval 0 9 v0 rfl rfl) h0
 obtain ⟨t,rfl⟩:∃ l:List UInt8,t0=⟨l.toArray⟩:=⟨t0.data.toList,by simp⟩
 obtain ⟨n,rfl,-,-,rn⟩:=open_int Tryz.underlying3 (hval 1 3 v1 rfl rfl) h1
 have rn:=okI_of_wf rn
 have ht:t.length≤140737488355328:=Nat.le_trans (sized_string (j:=0) (t:=9) hsz rfl rfl) (by decide)
 have hL':laidMet Tryz.prog Rows.evalCutsRow.laid W:=by have h:=hL;rwa [MakeChecks.laidMetH_plain _ _ _ (by kernel_rfl)] at h
 obtain ⟨te,pe,hg0⟩:=glob_V (Lib.laidMet.reads hL' (List.mem_of_getElem? (i:=6) (by rfl))) ⟨_,Lib.laidMet.reads hL' (List.mem_of_getElem? (i:=4) (by rfl))⟩ (Lib.laidMet.reads hL' (List.mem_of_getElem? (i:=2) (by rfl)))
 obtain ⟨mx,hmx⟩:=var_maxLen hsh
 have hg:=Glob.cons (var_wrong (Lib.laidMet.reads hL' (List.mem_of_getElem? (i:=8) (by rfl)))) (Glob.cons (var_loose (Lib.laidMet.reads hL' (List.mem_of_getElem? (i:=7) (by rfl)))) (Glob.cons hmx hg0))
 simp only[List.append_nil] at hW'
 refine (FnP.calls (gl:=glY te pe mx) (EvalCuts_g te pe mx t n) hoB (hg)
  (xs:=[_,_]) ⟨.str _,den_i _ _ _,trivial⟩).mono fun e W' ⟨he,hb⟩=>?_
 subst he
 have hlt:∀ x ∈ p,x.block<W.heap.size:=fun x hx=>by simpa using hW'.lt x (by simpa using hx)
 exact ⟨_,rfl,_,_,_,[],p,[],hW',trodAll_mk1 (shut_bool Tryz.underlying4 _),trodAll_below Door.out (ts:=[9,3]) hb readEvalCuts hA1 hlt (fun x hx=>by simpa using hlt x hx),rfl,hb.frame _,fun h=>by cases h⟩
set_option maxHeartbeats 400000000 in
theorem evalCuts_facts:joinedFacts Tryz.checked.prog 5 Tryz.f5 Rows.evalCutsSpec Rows.evalCutsRow=true:=by
 simp only[joinedFacts,Bool.and_eq_true]
 repeat' apply And.intro
 all_goals as_aux_lemma=>kernel_rfl
theorem evalCuts_over:Rows.EvalCutsSaid :=
 OpenClaim.holds_of_wide 5 Tryz.f5 rfl rfl rfl rfl rfl rfl rfl ⟨rfl,rfl,rfl,rfl,rfl⟩ rfl rfl rfl rfl rfl (by kernel_rfl) Tryz.func5 evalCuts_facts
  (of_decide_eq_true (by kernel_rfl)) (by unfold Func.isWrapper;rw[if_neg (of_decide_eq_false (by kernel_rfl))];exact ⟨rfl,rfl⟩)
  (fun os started H enc _=>evalCuts_lifted os started H enc)
theorem wantsEvalCuts:∀ t ∈ ([9,3]:List TypeId),Tryz.prog.wantsStandIn t=false:=by
 have h:([9,3]:List TypeId).all (fun t=>!Tryz.prog.wantsStandIn t)=true:=by kernel_rfl
 intro t ht
 simpa using List.all_eq_true.1 h t ht
theorem evalCuts_proved:Rows.EvalCutsCardSaid :=
 Claim7.holds_tied_plain_at .later [] [.data,.data,.data,.data,.sentinel,.sentinel,.data,.data,.data,.pinned] true (true, "3385073cbd997bd09fe6ffb5e122982735c371078d307ff59f79f0bbb3ee150b") true
  evalCuts_over (fun _ h=>by cases h) (by kernel_rfl) (fun _ h=>by cases h) evalCuts_row_tie rfl ⟨rfl,rfl⟩ (by kernel_rfl) rfl
  (fun f fn hf hfn=>by
   obtain rfl:f=5:=Option.some.inj ((show Tryz.prog.funcNamed "sccsettle/scclaw6.EvalCuts" = some 5 by kernel_rfl).symm.trans hf) |>.symm
   obtain rfl:fn=Tryz.f5:=(Option.some.inj (Tryz.func5.symm.trans hfn)).symm
   exact ⟨by kernel_rfl,fun j t ht=>by
    rw[Tryz.params5] at ht
    exact wantsEvalCuts t (List.mem_of_getElem? (l:=[9,3]) (by simpa using ht))⟩)
  (by kernel_rfl)
#print axioms evalCuts_proved
end Go.Proofs.YtfkjhfdpphfjhaaGreatDoor
end
