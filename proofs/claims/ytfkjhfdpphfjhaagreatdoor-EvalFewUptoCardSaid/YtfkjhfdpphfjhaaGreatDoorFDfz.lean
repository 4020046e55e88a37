/- Proved: the law of this seat, and its card. Condition: the variables that its row lists read as laid (the card ties them to the text). -/
import Derived.Deep.DeepHandedRow
import Derived.Test.YtfkjhfdpphfjhaaGreatDoorFDfx
import Derived.Test.YtfkjhfdpphfjhaaGreatDoorFMk
namespace Go.Proofs.YtfkjhfdpphfjhaaGreatDoor
open Go Go.ChangeShapes Go.WideShapes Go.ChangeAt Go.RowKit Go.EYtfkjhfdpphfjhaaGreatDoor
set_option linter.unusedVariables false
set_option maxRecDepth 100000
theorem readEvalFew:∀ t ∈ ([28,29,31]:List TypeId),Tryz.prog.readableRec t=true∧t<Tryz.prog.types.size:=by
 rw[Door.size]
 have h:([28,29,31]:List TypeId).all (fun t=>Tryz.prog.readableRec t && decide (t<347))=true:=by kernel_rfl
 intro t ht
 simpa using List.all_eq_true.1 h t ht
theorem evalFew_contract (H:Type) (enc:TypeId×Value→H) (W:World) (base:Nat) (args:Array Value) (ds gs:List (DataW H)) (before:List MemPlace)
 (hval0:∀ (j:Nat) t v,Tryz.f3.params[j]?=some t→args[j]?=some v→Value.okWide Tryz.prog W .any base t v)
 (hW:DataW.Whole enc Tryz.prog Tryz.f3.params.toList Rows.evalFewSpec.vars false W args.toList ds gs before)
 (hk:Rows.uptoSmall H (ds++gs)=true)
 (hsz:(DataW.weightsEach Tryz.prog (Tryz.f3.params.toList++Rows.evalFewSpec.plain.varTypes Tryz.prog) (ds++gs)).all (·≤reachBytes)=true)
 (hL:laidMetH Tryz.prog Rows.evalFewUptoRow.laid W) (hsh:W.ShapedOpen Tryz.prog) :
 Calls Tryz.prog 3 args W fun e W'=>∃ v,e=.returned v∧Rows.evalFewSpec.post enc Tryz.prog Tryz.f3 false true false false W args v W':=by
 have hval:∀ (j:Nat) t v,Tryz.f3.params[j]?=some t→args[j]?=some v→Value.okWide Tryz.prog W .any base t v:=hval0
 have hbulk:Rows.uptoBulkAll (ds++gs)≤1048576:=of_decide_eq_true hk
 have hW':=hW
 obtain ⟨p,q,hA0,hV,rfl,hfz,hnd⟩:=hW
 have hA1:DataW.TrodAll enc Tryz.prog W 0 (fun _=>true) true Tryz.f3.params.toList args.toList ds p:=hA0
 rw[Tryz.params3] at hA1 hval
 obtain ⟨rfl,rfl⟩:=trodVars_none hV
 have hA:=hA1
 obtain ⟨argl⟩:=args
 obtain ⟨v0,vs0,d0,ds0,p0,q0,e,rfl,-,h0,hA⟩:=trodAll_cons hA
 obtain ⟨v1,vs1,d1,ds1,p1,q1,rfl,rfl,-,h1,hA⟩:=trodAll_cons hA
 obtain ⟨v2,vs2,d2,ds2,p2,q2,rfl,rfl,-,h2,hA⟩:=trodAll_cons hA
 obtain ⟨rfl,rfl,-⟩:=trodAll_nil hA
 cases e
 have hb0:Rows.uptoBulk d0≤1048576:=Nat.le_trans (bulk_mem (by simp)) hbulk
 have hb1:Rows.uptoBulk d1≤1048576:=Nat.le_trans (bulk_mem (by simp)) hbulk
 have hb2:Rows.uptoBulk d2≤1048576:=Nat.le_trans (bulk_mem (by simp)) hbulk
 obtain ⟨n,rn,on⟩:=open_nod (hval 0 28 v0 rfl rfl) h0 hb0
 obtain ⟨l,rl,ll,hl⟩:=open_shwsU (hval 1 29 v1 rfl rfl) h1 (fun m hm=>by have:=List.all_eq_true.1 hsz m (DataW.weights_mem_each (j:=1) (t:=29) rfl rfl m hm);simpa using this) hb1
 obtain ⟨k,m,s,rm,rfl,rfl⟩:=openValue (hval 2 31 v2 rfl rfl) h2
 have hs:s.length≤140737488355328:=Nat.le_trans (sized_value (j:=2) hsz rfl rfl) (by decide)
 have hL':laidMet Tryz.prog Rows.evalFewUptoRow.laid W:=by have h:=hL;rwa [MakeChecks.laidMetH_plain _ _ _ (by kernel_rfl)] at h
 obtain ⟨te,pe,hg0⟩:=glob_V (Lib.laidMet.reads hL' (List.mem_of_getElem? (i:=6) (by rfl))) ⟨_,Lib.laidMet.reads hL' (List.mem_of_getElem? (i:=4) (by rfl))⟩ (Lib.laidMet.reads hL' (List.mem_of_getElem? (i:=2) (by rfl)))
 obtain ⟨mx,hmx⟩:=var_maxLen hsh
 have hg:=Glob.cons (var_wrong (Lib.laidMet.reads hL' (List.mem_of_getElem? (i:=8) (by rfl)))) (Glob.cons (var_loose (Lib.laidMet.reads hL' (List.mem_of_getElem? (i:=7) (by rfl)))) (Glob.cons hmx hg0))
 simp only[List.append_nil] at hW'
 refine (FnP.calls (gl:=glY te pe mx) (EvalFew_g te pe mx n on l ll hl k m s rm) hoB (hg)
  (xs:=[_,_,_]) ⟨rn,rl,den_vl _ _ _ _ _,trivial⟩).mono fun e W' ⟨he,hb⟩=>?_
 subst he
 have hlt:∀ x ∈ p,x.block<W.heap.size:=fun x hx=>by simpa using hW'.lt x (by simpa using hx)
 exact ⟨_,rfl,_,_,_,[],p,[],hW',trodAll_mk1 (shut_bool Tryz.underlying4 _),trodAll_below Door.out (ts:=[28,29,31]) hb readEvalFew hA1 hlt (fun x hx=>by simpa using hlt x hx),rfl,hb.frame _,fun h=>by cases h⟩
theorem evalFew_witness {C:Checked} {os:Os} {f:FuncId} {H:Type} {enc:TypeId×Value→H} {fn:Func} {s:OpenSpec} {conds:List PathCond} {apart:Bool} {laid:List (String×DataW Unit)} (w0:World) (args:Array Value) (hos:w0.os=os)
 (hsh:(w0.forCall (fun _ _=>0) ⟨#[],args,[]⟩).Shaped C.prog) (hok:Input.okWideB C.prog (w0.forCall (fun _ _=>0) ⟨#[],args,[]⟩) f ⟨#[],args,[]⟩=true)
 (hrow:s.preRow enc C.prog fn conds apart laid (w0.forCall (fun _ _=>0) ⟨#[],args,[]⟩).memory args) :
 ∃ (w:World) (tape:Tape) (i:Input),w.os=os∧(w.forCall tape i).Shaped C.prog∧i.vars=[]∧Input.okWide C.prog (w.forCall tape i) .any w.heap.size f i∧
  s.preRow enc C.prog fn conds apart laid (w.forCall tape i).memory i.args∧({}:Assume).holds C.prog (lone (Frame.enter C.prog f i.args .normal) [] (w.forCall tape i)) :=
 ⟨w0,fun _ _=>0,⟨#[],args,[]⟩,hos,hsh,(Input.okWide_of_okWideB (base:=0) hok).1,(Input.okWide_of_okWideB hok).2,hrow,by
  simp only[Assume.holds]
  exact ⟨by simp,by simp,fun _=>Modest.zero,by simp,by simp⟩⟩
theorem evalFew_lifted (os:Os) (started:os.Started) (H:Type) (enc:TypeId×Value→H) (F:Stop.Interp) :
 ReturnsInHanded {} Tryz.checked os 3 .any ((Rows.OpenSpec.upto Rows.evalFewSpec).preRow enc Tryz.prog Tryz.f3 Rows.evalFewUptoRow.domain false Rows.evalFewUptoRow.laid) (((Rows.OpenSpec.upto Rows.evalFewSpec).at F).post enc Tryz.prog Tryz.f3 false true false false):=by
 have hq:(DataW.whole enc Tryz.prog ((World.laidAll Tryz.prog os Rows.evalFewUptoRow.laid).forCall (fun _ _=>0) ⟨#[],#[.agg #[.int .i64 0,.int .i64 0,.string ⟨#[]⟩,.int .i64 0,.int .i64 0,.bool false,.bool false,.int .i64 0,.int .i64 0,.bool false,.bool false,.slice none 0 0],.slice none 0 0,.agg #[.int .i64 0,.int .i64 0,.string ⟨#[]⟩]],[]⟩).memory Tryz.f3.params.toList Rows.evalFewSpec.vars false [.agg #[.int .i64 0,.int .i64 0,.string ⟨#[]⟩,.int .i64 0,.int .i64 0,.bool false,.bool false,.int .i64 0,.int .i64 0,.bool false,.bool false,.slice none 0 0],.slice none 0 0,.agg #[.int .i64 0,.int .i64 0,.string ⟨#[]⟩]] 8).map (fun x=>Rows.uptoSmall H (x.1++x.2.1))=some true:=by kernel_rfl
 obtain ⟨x,hx,hxb⟩:=Option.map_eq_some_iff.1 hq
 refine returnsInHanded_of_row (C:=Tryz.checked) (s:=Rows.OpenSpec.upto Rows.evalFewSpec) Door.own started (by kernel_rfl) Tryz.func3
  (evalFew_witness (enc:=enc) (C:=Tryz.checked) (os:=os) (World.laidAll Tryz.prog os Rows.evalFewUptoRow.laid) #[.agg #[.int .i64 0,.int .i64 0,.string ⟨#[]⟩,.int .i64 0,.int .i64 0,.bool false,.bool false,.int .i64 0,.int .i64 0,.bool false,.bool false,.slice none 0 0],.slice none 0 0,.agg #[.int .i64 0,.int .i64 0,.string ⟨#[]⟩]] (World.laidAll_os _ _ _)
   (World.shaped_of_ZipB (by kernel_rfl) (by kernel_rfl)) (by kernel_rfl)
   (OpenSpec.preRow_of_cond 8 hx rfl (fun k hk=>by cases hk;exact hxb) (by kernel_rfl) (by rw[MakeChecks.laidMetH_plain _ _ _ (by kernel_rfl)];exact laidMet_of_run' 8 (by kernel_rfl) (by kernel_rfl)))) ?_
 intro W base args ds gs before hval0 hW _ hcond hsz hL hsh _
 exact evalFew_contract H enc W base args ds gs before hval0 hW (hcond _ rfl) hsz hL hsh
set_option maxHeartbeats 400000000 in
theorem evalFew_facts:joinedFacts Tryz.checked.prog 3 Tryz.f3 (Rows.OpenSpec.upto Rows.evalFewSpec).bare Rows.evalFewUptoRow=true:=by
 simp only[joinedFacts,Bool.and_eq_true]
 repeat' apply And.intro
 all_goals as_aux_lemma=>kernel_rfl
theorem evalFew_over:Rows.EvalFewUptoSaid :=
 OpenClaim.holds_of_cond 3 Tryz.f3 rfl rfl rfl rfl rfl rfl rfl ⟨rfl,rfl,rfl,rfl,rfl⟩ rfl rfl rfl rfl rfl (by kernel_rfl) Tryz.func3 evalFew_facts
  (of_decide_eq_true (by kernel_rfl)) (by unfold Func.isWrapper;rw[if_neg (of_decide_eq_false (by kernel_rfl))];exact ⟨rfl,rfl⟩)
  (fun os started H enc _ F=>by rw[OpenClaim.pre_eq_preRow];exact evalFew_lifted os started H enc F)
theorem wantsEvalFew:∀ t ∈ ([28,29,31]:List TypeId),Tryz.prog.wantsStandIn t=false:=by
 have h:([28,29,31]:List TypeId).all (fun t=>!Tryz.prog.wantsStandIn t)=true:=by kernel_rfl
 intro t ht
 simpa using List.all_eq_true.1 h t ht
theorem evalFewUpto_proved:Rows.EvalFewUptoCardSaid :=
 Claim7.holds_tied_plain_at .later [] [.data,.data,.data,.data,.sentinel,.sentinel,.data,.data,.data,.pinned] true (true, "3385073cbd997bd09fe6ffb5e122982735c371078d307ff59f79f0bbb3ee150b") true
  evalFew_over (fun _ h=>by cases h) (by kernel_rfl) (fun _ h=>by cases h) evalFewUpto_row_tie rfl ⟨rfl,rfl⟩ (by kernel_rfl) rfl
  (fun f fn hf hfn=>by
   obtain rfl:f=3:=Option.some.inj ((show Tryz.prog.funcNamed "sccsettle/scclaw2.EvalFew" = some 3 by kernel_rfl).symm.trans hf) |>.symm
   obtain rfl:fn=Tryz.f3:=(Option.some.inj (Tryz.func3.symm.trans hfn)).symm
   exact ⟨by kernel_rfl,fun j t ht=>by
    rw[Tryz.params3] at ht
    exact wantsEvalFew t (List.mem_of_getElem? (l:=[28,29,31]) (by simpa using ht))⟩)
  (by kernel_rfl)
#print axioms evalFewUpto_proved
end Go.Proofs.YtfkjhfdpphfjhaaGreatDoor
