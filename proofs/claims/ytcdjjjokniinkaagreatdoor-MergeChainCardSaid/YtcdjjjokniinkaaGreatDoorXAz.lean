/- Proved: the law of this seat, and its card. Condition: the variables that its row lists read as laid (the card ties them to the text). -/
import Derived.Test.YtcdjjjokniinkaaGreatDoorXAi
import Derived.Test.YtcdjjjokniinkaaGreatDoorXJr
section
namespace Go.Proofs.YtcdjjjokniinkaaGreatDoor
open Go Go.ChangeShapes Go.WideShapes Go.ChangeAt Go.RowKit Go.EYtcdjjjokniinkaaGreatDoor
set_option linter.unusedVariables false
set_option maxRecDepth 100000
theorem readMergeChain:∀ t ∈ ([22,22,22]:List TypeId),Tryz.prog.readableRec t=true∧t<Tryz.prog.types.size:=by
 rw[Door.size]
 have h:([22,22,22]:List TypeId).all (fun t=>Tryz.prog.readableRec t && decide (t<317))=true:=by kernel_rfl
 intro t ht
 simpa using List.all_eq_true.1 h t ht
theorem mergeChain_lifted (os:Os) (started:os.Started) (H:Type) (enc:TypeId×Value→H) :
 ReturnsInHanded {} Tryz.checked os 3 .any (fun w args=>(Rows.mergeChainSpec.pre enc Tryz.prog Tryz.f3 [] false w args∧laidMetH Tryz.prog Rows.mergeChainRow.laid w)∧sizedMet enc Tryz.prog Tryz.f3 (OpenSpec.ofChange Rows.mergeChainSpec) false w args)
  (Rows.mergeChainSpec.post enc Tryz.prog Tryz.f3 false true false false):=by
 refine wrapYtcdjjjokniinkaaGreatDoor (C:=Tryz.checked) (X:=fun w _=>laidMetH Tryz.prog Rows.mergeChainRow.laid w) (fun _ _ _ hh h=>h.of_heap hh) Door.own started (by kernel_rfl) Tryz.func3
  (ChangeSpec.witness_shaped (enc:=enc) (C:=Tryz.checked) (os:=os) (X:=fun w _=>laidMetH Tryz.prog Rows.mergeChainRow.laid w) false (World.laidAll Tryz.prog os Rows.mergeChainRow.laid)
   #[.slice none 0 0,.slice none 0 0,.slice none 0 0] 8 (World.laidAll_os _ _ _)
   (World.shaped_of_ZipB (by kernel_rfl) (by kernel_rfl)) (by kernel_rfl) (by kernel_rfl) (by kernel_rfl)
   (by rw[MakeChecks.laidMetH_plain _ _ _ (by kernel_rfl)];exact laidMet_of_run' 8 (by kernel_rfl) (by kernel_rfl))) ?_
 intro W base args ds gs before hval0 hW _ hsz hL hsh
 have hval:∀ (j:Nat) t v,Tryz.f3.params[j]?=some t→args[j]?=some v→Value.okWide Tryz.prog W .any base t v:=hval0
 have hW':=hW
 obtain ⟨p,q,hA0,hV,rfl,hfz,hnd⟩:=hW
 have hA1:DataW.TrodAll enc Tryz.prog W 0 (fun _=>true) true Tryz.f3.params.toList args.toList ds p:=hA0
 rw[Tryz.params3] at hA1 hval
 obtain ⟨rfl,rfl⟩:=trodVars_none hV
 have hA:=hA1
 obtain ⟨argl⟩:=args
 obtain ⟨v0,vs0,d0,ds0,p0,q0,e,rfl,-,h0,hA⟩:=trodAll_cons hA
 obtain ⟨v1,vs1,d1,ds1,p1,q1,rfl,rfl,-,h1,hA⟩:=trodAll_cons hA
 obtain ⟨v2,vs2,d2,ds2,p2,q2,rfl,rfl,-,h2,hA⟩:=trodAll_cons hA
 obtain ⟨rfl,rfl,-⟩:=trodAll_nil hA
 cases e
 obtain ⟨la,rla,hla,hBla⟩:=open_fls (hval 0 22 v0 rfl rfl) h0 (fun m hm=>by have:=List.all_eq_true.1 hsz m (DataW.weights_mem_each (j:=0) (t:=22) rfl rfl m hm);simpa using this)
 obtain ⟨lb,rlb,hlb,hBlb⟩:=open_fls (hval 1 22 v1 rfl rfl) h1 (fun m hm=>by have:=List.all_eq_true.1 hsz m (DataW.weights_mem_each (j:=1) (t:=22) rfl rfl m hm);simpa using this)
 obtain ⟨lc,rlc,hlc,hBlc⟩:=open_fls (hval 2 22 v2 rfl rfl) h2 (fun m hm=>by have:=List.all_eq_true.1 hsz m (DataW.weights_mem_each (j:=2) (t:=22) rfl rfl m hm);simpa using this)
 have hL':laidMet Tryz.prog Rows.mergeChainRow.laid W:=by have h:=hL;rwa [MakeChecks.laidMetH_plain _ _ _ (by kernel_rfl)] at h
 obtain ⟨te,pe,hg0⟩:=glob_V (Lib.laidMet.reads hL' (List.mem_of_getElem? (i:=6) (by rfl))) ⟨_,Lib.laidMet.reads hL' (List.mem_of_getElem? (i:=4) (by rfl))⟩ (Lib.laidMet.reads hL' (List.mem_of_getElem? (i:=2) (by rfl)))
 obtain ⟨mx,hmx⟩:=var_maxLen hsh
 have hg:=Glob.cons (var_loose (Lib.laidMet.reads hL' (List.mem_of_getElem? (i:=7) (by rfl)))) (Glob.cons hmx hg0)
 simp only[List.append_nil] at hW'
 refine (FnP.calls (gl:=glM te pe mx) (MergeChain_g te pe mx la lb lc) hoB (hg)
  (xs:=[_,_,_]) ⟨rla,rlb,rlc,trivial⟩).mono fun e W' ⟨he,hb⟩=>?_
 subst he
 have hlt:∀ x ∈ p,x.block<W.heap.size:=fun x hx=>by simpa using hW'.lt x (by simpa using hx)
 exact ⟨_,rfl,_,_,_,[],p,[],hW',trodAll_mk1 (shut_bool Tryz.underlying4 _),trodAll_below Door.out (ts:=[22,22,22]) hb readMergeChain hA1 hlt (fun x hx=>by simpa using hlt x hx),rfl,hb.frame _,fun h=>by cases h⟩
set_option maxHeartbeats 400000000 in
theorem mergeChain_facts:joinedFacts Tryz.checked.prog 3 Tryz.f3 Rows.mergeChainSpec Rows.mergeChainRow=true:=by
 simp only[joinedFacts,Bool.and_eq_true]
 repeat' apply And.intro
 all_goals as_aux_lemma=>kernel_rfl
theorem mergeChain_over:Rows.MergeChainSaid :=
 OpenClaim.holds_of_wide 3 Tryz.f3 rfl rfl rfl rfl rfl rfl rfl ⟨rfl,rfl,rfl,rfl,rfl⟩ rfl rfl rfl rfl rfl (by kernel_rfl) Tryz.func3 mergeChain_facts
  (of_decide_eq_true (by kernel_rfl)) (by unfold Func.isWrapper;rw[if_neg (of_decide_eq_false (by kernel_rfl))];exact ⟨rfl,rfl⟩)
  (fun os started H enc _=>mergeChain_lifted os started H enc)
theorem wantsMergeChain:∀ t ∈ ([22,22,22]:List TypeId),Tryz.prog.wantsStandIn t=false:=by
 have h:([22,22,22]:List TypeId).all (fun t=>!Tryz.prog.wantsStandIn t)=true:=by kernel_rfl
 intro t ht
 simpa using List.all_eq_true.1 h t ht
theorem mergeChain_proved:Rows.MergeChainCardSaid :=
 Claim7.holds_tied_plain_at .later [] [.data,.data,.data,.data,.sentinel,.sentinel,.data,.data,.pinned] true (true, "1bed95a2ccc88b01f7ef0eb8cdc5efd29e481780f848e83c356a33484e2fd0ec") true
  mergeChain_over (fun _ h=>by cases h) (by kernel_rfl) (fun _ h=>by cases h) mergeChain_row_tie rfl ⟨rfl,rfl⟩ (by kernel_rfl) rfl
  (fun f fn hf hfn=>by
   obtain rfl:f=3:=Option.some.inj ((show Tryz.prog.funcNamed "sccsettle/scclaw6.MergeChain" = some 3 by kernel_rfl).symm.trans hf) |>.symm
   obtain rfl:fn=Tryz.f3:=(Option.some.inj (Tryz.func3.symm.trans hfn)).symm
   exact ⟨by kernel_rfl,fun j t ht=>by
    rw[Tryz.params3] at ht
    exact wantsMergeChain t (List.mem_of_getElem? (l:=[22,22,22]) (by simpa using ht))⟩)
  (by kernel_rfl)
#print axioms mergeChain_proved
end Go.Proofs.YtcdjjjokniinkaaGreatDoor
end
