/- Proved: the law of this seat, and its card. Condition: the variables that its row lists read as laid (the card ties them to the text). -/
import Derived.Test.YtfkjhfdpphfjhaaGreatDoorRows
import Derived.Test.YtfkjhfdpphfjhaaGreatDoorProg
import Derived.Test.YtfkjhfdpphfjhaaGreatDoorXBa
import Derived.Test.YtfkjhfdpphfjhaaGreatDoorXDzlx
import Derived.Test.YtfkjhfdpphfjhaaGreatDoorXFo
import Derived.Test.YtfkjhfdpphfjhaaGreatDoorXFs
import Derived.Test.YtfkjhfdpphfjhaaGreatDoorXGf
import Derived.Test.YtfkjhfdpphfjhaaGreatDoorXOa
namespace Go.Proofs.YtfkjhfdpphfjhaaGreatDoor
open Go Go.ChangeShapes Go.WideShapes Go.ChangeAt Go.RowKit Go.EYtfkjhfdpphfjhaaGreatDoor
set_option linter.unusedVariables false
set_option maxRecDepth 100000
theorem readEvalLogic:∀ t ∈ ([46,31,31]:List TypeId),Tryz.prog.readableRec t=true∧t<Tryz.prog.types.size:=by
 rw[Door.size]
 have h:([46,31,31]:List TypeId).all (fun t=>Tryz.prog.readableRec t && decide (t<347))=true:=by kernel_rfl
 intro t ht
 simpa using List.all_eq_true.1 h t ht
theorem evalLogic_lifted (os:Os) (started:os.Started) (H:Type) (enc:TypeId×Value→H) :
 ReturnsInHanded {} Tryz.checked os 7 .any (fun w args=>(Rows.evalLogicSpec.pre enc Tryz.prog Tryz.f7 [] false w args∧laidMetH Tryz.prog Rows.evalLogicRow.laid w)∧sizedMet enc Tryz.prog Tryz.f7 (OpenSpec.ofChange Rows.evalLogicSpec) false w args)
  (Rows.evalLogicSpec.post enc Tryz.prog Tryz.f7 false true false false):=by
 refine wrapYtfkjhfdpphfjhaaGreatDoor (C:=Tryz.checked) (X:=fun w _=>laidMetH Tryz.prog Rows.evalLogicRow.laid w) (fun _ _ _ hh h=>h.of_heap hh) Door.own started (by kernel_rfl) Tryz.func7
  (ChangeSpec.witness_shaped (enc:=enc) (C:=Tryz.checked) (os:=os) (X:=fun w _=>laidMetH Tryz.prog Rows.evalLogicRow.laid w) false (World.laidAll Tryz.prog os Rows.evalLogicRow.laid)
   #[.slice none 0 0,.agg #[.int .i64 0,.int .i64 0,.string ⟨#[]⟩],.agg #[.int .i64 0,.int .i64 0,.string ⟨#[]⟩]] 8 (World.laidAll_os _ _ _)
   (World.shaped_of_ZipB (by kernel_rfl) (by kernel_rfl)) (by kernel_rfl) (by kernel_rfl) (by kernel_rfl)
   (by rw[MakeChecks.laidMetH_plain _ _ _ (by kernel_rfl)];exact laidMet_of_run' 8 (by kernel_rfl) (by kernel_rfl))) ?_
 intro W base args ds gs before hval0 hW _ hsz hL hsh
 have hval:∀ (j:Nat) t v,Tryz.f7.params[j]?=some t→args[j]?=some v→Value.okWide Tryz.prog W .any base t v:=hval0
 have hW':=hW
 obtain ⟨p,q,hA0,hV,rfl,hfz,hnd⟩:=hW
 have hA1:DataW.TrodAll enc Tryz.prog W 0 (fun _=>true) true Tryz.f7.params.toList args.toList ds p:=hA0
 rw[Tryz.params7] at hA1 hval
 obtain ⟨rfl,rfl⟩:=trodVars_none hV
 have hA:=hA1
 obtain ⟨argl⟩:=args
 obtain ⟨v0,vs0,d0,ds0,p0,q0,e,rfl,-,h0,hA⟩:=trodAll_cons hA
 obtain ⟨v1,vs1,d1,ds1,p1,q1,rfl,rfl,-,h1,hA⟩:=trodAll_cons hA
 obtain ⟨v2,vs2,d2,ds2,p2,q2,rfl,rfl,-,h2,hA⟩:=trodAll_cons hA
 obtain ⟨rfl,rfl,-⟩:=trodAll_nil hA
 cases e
 obtain ⟨vs,rvs,lvs,hvs⟩:=open_vls (hval 0 46 v0 rfl rfl) h0 (fun m hm=>by have:=List.all_eq_true.1 hsz m (DataW.weights_mem_each (j:=0) (t:=46) rfl rfl m hm);simpa using this)
 obtain ⟨k,n,s,rn,rfl,rfl⟩:=openValue (hval 1 31 v1 rfl rfl) h1
 obtain ⟨k2,n2,s2,rn2,rfl,rfl⟩:=openValue (hval 2 31 v2 rfl rfl) h2
 have hs:s.length≤140737488355328:=Nat.le_trans (sized_value (j:=1) hsz rfl rfl) (by decide)
 have hs2:s2.length≤140737488355328:=Nat.le_trans (sized_value (j:=2) hsz rfl rfl) (by decide)
 have hL':laidMet Tryz.prog Rows.evalLogicRow.laid W:=by have h:=hL;rwa [MakeChecks.laidMetH_plain _ _ _ (by kernel_rfl)] at h
 obtain ⟨te,pe,hg0⟩:=glob_V (Lib.laidMet.reads hL' (List.mem_of_getElem? (i:=6) (by rfl))) ⟨_,Lib.laidMet.reads hL' (List.mem_of_getElem? (i:=4) (by rfl))⟩ (Lib.laidMet.reads hL' (List.mem_of_getElem? (i:=2) (by rfl)))
 obtain ⟨mx,hmx⟩:=var_maxLen hsh
 have hg:=Glob.cons (var_wrong (Lib.laidMet.reads hL' (List.mem_of_getElem? (i:=8) (by rfl)))) (Glob.cons (var_loose (Lib.laidMet.reads hL' (List.mem_of_getElem? (i:=7) (by rfl)))) (Glob.cons hmx hg0))
 simp only[List.append_nil] at hW'
 refine (FnP.calls (gl:=glY te pe mx) (EvalLogic_g te pe mx vs hvs k n s rn k2 n2 s2 rn2) hoB (hg)
  (xs:=[_,_,_]) ⟨rvs,den_vl _ _ _ _ _,den_vl _ _ _ _ _,trivial⟩).mono fun e W' ⟨he,hb⟩=>?_
 subst he
 have hlt:∀ x ∈ p,x.block<W.heap.size:=fun x hx=>by simpa using hW'.lt x (by simpa using hx)
 exact ⟨_,rfl,_,_,_,[],p,[],hW',trodAll_mk1 (shut_bool Tryz.underlying4 _),trodAll_below Door.out (ts:=[46,31,31]) hb readEvalLogic hA1 hlt (fun x hx=>by simpa using hlt x hx),rfl,hb.frame _,fun h=>by cases h⟩
set_option maxHeartbeats 400000000 in
theorem evalLogic_facts:joinedFacts Tryz.checked.prog 7 Tryz.f7 Rows.evalLogicSpec Rows.evalLogicRow=true:=by
 simp only[joinedFacts,Bool.and_eq_true]
 repeat' apply And.intro
 all_goals as_aux_lemma=>kernel_rfl
theorem evalLogic_over:Rows.EvalLogicSaid :=
 OpenClaim.holds_of_wide 7 Tryz.f7 rfl rfl rfl rfl rfl rfl rfl ⟨rfl,rfl,rfl,rfl,rfl⟩ rfl rfl rfl rfl rfl (by kernel_rfl) Tryz.func7 evalLogic_facts
  (of_decide_eq_true (by kernel_rfl)) (by unfold Func.isWrapper;rw[if_neg (of_decide_eq_false (by kernel_rfl))];exact ⟨rfl,rfl⟩)
  (fun os started H enc _=>evalLogic_lifted os started H enc)
theorem wantsEvalLogic:∀ t ∈ ([46,31,31]:List TypeId),Tryz.prog.wantsStandIn t=false:=by
 have h:([46,31,31]:List TypeId).all (fun t=>!Tryz.prog.wantsStandIn t)=true:=by kernel_rfl
 intro t ht
 simpa using List.all_eq_true.1 h t ht
theorem evalLogic_proved:Rows.EvalLogicCardSaid :=
 Claim7.holds_tied_plain_at .later [] [.data,.data,.data,.data,.sentinel,.sentinel,.data,.data,.data,.pinned] true (true, "3385073cbd997bd09fe6ffb5e122982735c371078d307ff59f79f0bbb3ee150b") true
  evalLogic_over (fun _ h=>by cases h) (by kernel_rfl) (fun _ h=>by cases h) evalLogic_row_tie rfl ⟨rfl,rfl⟩ (by kernel_rfl) rfl
  (fun f fn hf hfn=>by
   obtain rfl:f=7:=Option.some.inj ((show Tryz.prog.funcNamed "sccsettle/scclaw6.EvalLogic" = some 7 by kernel_rfl).symm.trans hf) |>.symm
   obtain rfl:fn=Tryz.f7:=(Option.some.inj (Tryz.func7.symm.trans hfn)).symm
   exact ⟨by kernel_rfl,fun j t ht=>by
    rw[Tryz.params7] at ht
    exact wantsEvalLogic t (List.mem_of_getElem? (l:=[46,31,31]) (by simpa using ht))⟩)
  (by kernel_rfl)
#print axioms evalLogic_proved
end Go.Proofs.YtfkjhfdpphfjhaaGreatDoor
