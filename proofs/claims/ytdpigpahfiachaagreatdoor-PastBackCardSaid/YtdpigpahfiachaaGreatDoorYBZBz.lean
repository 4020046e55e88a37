/- Proved: the law of this seat, and its card. Condition: the variables that its row lists read as laid (the card ties them to the text). -/
import Derived.Test.YtdpigpahfiachaaGreatDoorYFp
import Derived.Test.YtdpigpahfiachaaGreatDoorYBZag
section
namespace Go.Proofs.YtdpigpahfiachaaGreatDoor
open Go Go.ChangeShapes Go.WideShapes Go.ChangeAt Go.RowKit Go.EYtdpigpahfiachaaGreatDoor
set_option linter.unusedVariables false
set_option maxRecDepth 100000
theorem readPastBack:∀ t ∈ ([38,38]:List TypeId),Tryz.prog.readableRec t=true∧t<Tryz.prog.types.size:=by
 rw[Door.size]
 have h:([38,38]:List TypeId).all (fun t=>Tryz.prog.readableRec t && decide (t<324))=true:=by kernel_rfl
 intro t ht
 simpa using List.all_eq_true.1 h t ht
theorem pastBack_lifted (os:Os) (started:os.Started) (H:Type) (enc:TypeId×Value→H) :
 ReturnsInHanded {} Tryz.checked os 6 .any (fun w args=>(Rows.pastBackSpec.pre enc Tryz.prog Tryz.f6 [] false w args∧laidMetH Tryz.prog Rows.pastBackRow.laid w)∧sizedMet enc Tryz.prog Tryz.f6 (OpenSpec.ofChange Rows.pastBackSpec) false w args)
  (Rows.pastBackSpec.post enc Tryz.prog Tryz.f6 false true false false):=by
 refine wrapYtdpigpahfiachaaGreatDoor (C:=Tryz.checked) (X:=fun w _=>laidMetH Tryz.prog Rows.pastBackRow.laid w) (fun _ _ _ hh h=>h.of_heap hh) Door.own started (by kernel_rfl) Tryz.func6
  (ChangeSpec.witness_shaped (enc:=enc) (C:=Tryz.checked) (os:=os) (X:=fun w _=>laidMetH Tryz.prog Rows.pastBackRow.laid w) false (World.laidAll Tryz.prog os Rows.pastBackRow.laid)
   #[.slice none 0 0,.slice none 0 0] 8 (World.laidAll_os _ _ _)
   (World.shaped_of_ZipB (by kernel_rfl) (by kernel_rfl)) (by kernel_rfl) (by kernel_rfl) (by kernel_rfl)
   (by rw[MakeChecks.laidMetH_plain _ _ _ (by kernel_rfl)];exact laidMet_of_run' 8 (by kernel_rfl) (by kernel_rfl))) ?_
 intro W base args ds gs before hval0 hW _ hsz hL hsh
 have hval:∀ (j:Nat) t v,Tryz.f6.params[j]?=some t→args[j]?=some v→Value.okWide Tryz.prog W .any base t v:=hval0
 have hW':=hW
 obtain ⟨p,q,hA0,hV,rfl,hfz,hnd⟩:=hW
 have hA1:DataW.TrodAll enc Tryz.prog W 0 (fun _=>true) true Tryz.f6.params.toList args.toList ds p:=hA0
 rw[Tryz.params6] at hA1 hval
 obtain ⟨rfl,rfl⟩:=trodVars_none hV
 have hA:=hA1
 obtain ⟨argl⟩:=args
 obtain ⟨v0,vs0,d0,ds0,p0,q0,e,rfl,-,h0,hA⟩:=trodAll_cons hA
 obtain ⟨v1,vs1,d1,ds1,p1,q1,rfl,rfl,-,h1,hA⟩:=trodAll_cons hA
 obtain ⟨rfl,rfl,-⟩:=trodAll_nil hA
 cases e
 obtain ⟨l,rl,hl,hBl⟩:=open_fls (hval 0 38 v0 rfl rfl) h0 (fun m hm=>by have:=List.all_eq_true.1 hsz m (DataW.weights_mem_each (j:=0) (t:=38) rfl rfl m hm);simpa using this)
 obtain ⟨sets,rsets,hsets,hBsets⟩:=open_fls (hval 1 38 v1 rfl rfl) h1 (fun m hm=>by have:=List.all_eq_true.1 hsz m (DataW.weights_mem_each (j:=1) (t:=38) rfl rfl m hm);simpa using this)
 have hL':laidMet Tryz.prog Rows.pastBackRow.laid W:=by have h:=hL;rwa [MakeChecks.laidMetH_plain _ _ _ (by kernel_rfl)] at h
 obtain ⟨te,pe,hg0⟩:=glob_V (Lib.laidMet.reads hL' (List.mem_of_getElem? (i:=6) (by rfl))) ⟨_,Lib.laidMet.reads hL' (List.mem_of_getElem? (i:=4) (by rfl))⟩ (Lib.laidMet.reads hL' (List.mem_of_getElem? (i:=2) (by rfl)))
 obtain ⟨mx,hmx⟩:=var_maxLen hsh
 have hg:=Glob.cons (var_loose (Lib.laidMet.reads hL' (List.mem_of_getElem? (i:=7) (by rfl)))) (Glob.cons hmx hg0)
 simp only[List.append_nil] at hW'
 refine (FnP.calls (gl:=glM te pe mx) (PastBack_g te pe mx l sets) hoB (hg)
  (xs:=[_,_]) ⟨rl,rsets,trivial⟩).mono fun e W' ⟨he,hb⟩=>?_
 subst he
 have hlt:∀ x ∈ p,x.block<W.heap.size:=fun x hx=>by simpa using hW'.lt x (by simpa using hx)
 exact ⟨_,rfl,_,_,_,[],p,[],hW',trodAll_mk1 (shut_bool Tryz.underlying4 _),trodAll_below Door.out (ts:=[38,38]) hb readPastBack hA1 hlt (fun x hx=>by simpa using hlt x hx),rfl,hb.frame _,fun h=>by cases h⟩
set_option maxHeartbeats 400000000 in
theorem pastBack_facts:joinedFacts Tryz.checked.prog 6 Tryz.f6 Rows.pastBackSpec Rows.pastBackRow=true:=by
 simp only[joinedFacts,Bool.and_eq_true]
 repeat' apply And.intro
 all_goals as_aux_lemma=>kernel_rfl
theorem pastBack_over:Rows.PastBackSaid :=
 OpenClaim.holds_of_wide 6 Tryz.f6 rfl rfl rfl rfl rfl rfl rfl ⟨rfl,rfl,rfl,rfl,rfl⟩ rfl rfl rfl rfl rfl (by kernel_rfl) Tryz.func6 pastBack_facts
  (of_decide_eq_true (by kernel_rfl)) (by unfold Func.isWrapper;rw[if_neg (of_decide_eq_false (by kernel_rfl))];exact ⟨rfl,rfl⟩)
  (fun os started H enc _=>pastBack_lifted os started H enc)
theorem wantsPastBack:∀ t ∈ ([38,38]:List TypeId),Tryz.prog.wantsStandIn t=false:=by
 have h:([38,38]:List TypeId).all (fun t=>!Tryz.prog.wantsStandIn t)=true:=by kernel_rfl
 intro t ht
 simpa using List.all_eq_true.1 h t ht
theorem pastBack_proved:Rows.PastBackCardSaid :=
 Claim7.holds_tied_plain_at .later [] [.data,.data,.data,.data,.sentinel,.sentinel,.data,.data,.pinned] true (true, "585016afb0af397d9df97a4d078c9beabcdb361bf08d0457ab5e8af076e0a42a") true
  pastBack_over (fun _ h=>by cases h) (by kernel_rfl) (fun _ h=>by cases h) pastBack_row_tie rfl ⟨rfl,rfl⟩ (by kernel_rfl) rfl
  (fun f fn hf hfn=>by
   obtain rfl:f=6:=Option.some.inj ((show Tryz.prog.funcNamed "sccsettle/scclaw2.PastBack" = some 6 by kernel_rfl).symm.trans hf) |>.symm
   obtain rfl:fn=Tryz.f6:=(Option.some.inj (Tryz.func6.symm.trans hfn)).symm
   exact ⟨by kernel_rfl,fun j t ht=>by
    rw[Tryz.params6] at ht
    exact wantsPastBack t (List.mem_of_getElem? (l:=[38,38]) (by simpa using ht))⟩)
  (by kernel_rfl)
#print axioms pastBack_proved
end Go.Proofs.YtdpigpahfiachaaGreatDoor
end
