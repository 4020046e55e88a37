/- Proved: the law of this seat, and its card. Condition: the variables that its row lists read as laid (the card ties them to the text). -/
import Derived.Deep.DeepHandedRow
import Derived.Test.YtcdjjjokniinkaaGreatDoorYFr
section
namespace Go.Proofs.YtcdjjjokniinkaaGreatDoor
open Go Go.ChangeShapes Go.WideShapes Go.ChangeAt Go.RowKit Go.EYtcdjjjokniinkaaGreatDoor
set_option linter.unusedVariables false
set_option maxRecDepth 100000
theorem readRefsOf:∀ t ∈ ([38]:List TypeId),Tryz.prog.readableRec t=true∧t<Tryz.prog.types.size:=by
 rw[Door.size]
 have h:([38]:List TypeId).all (fun t=>Tryz.prog.readableRec t && decide (t<317))=true:=by kernel_rfl
 intro t ht
 simpa using List.all_eq_true.1 h t ht
theorem refsOf_contract (H:Type) (enc:TypeId×Value→H) (W:World) (base:Nat) (args:Array Value) (ds gs:List (DataW H)) (before:List MemPlace)
 (hval0:∀ (j:Nat) t v,Tryz.f4.params[j]?=some t→args[j]?=some v→Value.okWide Tryz.prog W .any base t v)
 (hW:DataW.Whole enc Tryz.prog Tryz.f4.params.toList Rows.refsOfSpec.vars false W args.toList ds gs before)
 (hk:Rows.uptoSmall H (ds++gs)=true)
 (hsz:(DataW.weightsEach Tryz.prog (Tryz.f4.params.toList++Rows.refsOfSpec.plain.varTypes Tryz.prog) (ds++gs)).all (·≤reachBytes)=true)
 (hL:laidMetH Tryz.prog Rows.refsOfUptoRow.laid W) (hsh:W.ShapedOpen Tryz.prog) :
 Calls Tryz.prog 4 args W fun e W'=>∃ v,e=.returned v∧Rows.refsOfSpec.post enc Tryz.prog Tryz.f4 false true false false W args v W':=by
 have hval:∀ (j:Nat) t v,Tryz.f4.params[j]?=some t→args[j]?=some v→Value.okWide Tryz.prog W .any base t v:=hval0
 have hbulk:Rows.uptoBulkAll (ds++gs)≤1048576:=of_decide_eq_true hk
 have hW':=hW
 obtain ⟨p,q,hA0,hV,rfl,hfz,hnd⟩:=hW
 have hA1:DataW.TrodAll enc Tryz.prog W 0 (fun _=>true) true Tryz.f4.params.toList args.toList ds p:=hA0
 rw[Tryz.params4] at hA1 hval
 obtain ⟨rfl,rfl⟩:=trodVars_none hV
 have hA:=hA1
 obtain ⟨argl⟩:=args
 obtain ⟨v0,vs0,d0,ds0,p0,q0,e,rfl,-,h0,hA⟩:=trodAll_cons hA
 obtain ⟨rfl,rfl,-⟩:=trodAll_nil hA
 cases e
 have hb0:Rows.uptoBulk d0≤1048576:=Nat.le_trans (bulk_mem (by simp)) hbulk
 obtain ⟨n,rn,on⟩:=open_nod (hval 0 38 v0 rfl rfl) h0 hb0
 have hL':laidMet Tryz.prog [("math/bits.deBruijn32tab",Rows.laid_math_bits_deBruijn32tab),("math/bits.deBruijn64tab",Rows.laid_math_bits_deBruijn64tab),("internal/strconv.uint64pow10",Rows.laid_internal_strconv_uint64pow10),("unicode/utf8.acceptRanges",Rows.laid_unicode_utf8_acceptRanges),("strconv.ErrRange",Rows.laid_strconv_ErrRange),("strconv.ErrSyntax",Rows.laid_strconv_ErrSyntax),("sccsettle/value.texts",Rows.laid_sccsettle_value_texts),("sccsettle/formula.loose",Rows.laid_sccsettle_formula_loose),("unicode/utf8.first",Rows.laid_unicode_utf8_first)] W∧handlesMet Tryz.prog [("errors.errorType",Rows.laid_errors_errorType)] W:=hL
 obtain ⟨te,pe,hg0⟩:=glob_V (Lib.laidMet.reads hL'.1 (List.mem_of_getElem? (i:=6) (by rfl))) ⟨_,Lib.laidMet.reads hL'.1 (List.mem_of_getElem? (i:=4) (by rfl))⟩ (Lib.laidMet.reads hL'.1 (List.mem_of_getElem? (i:=2) (by rfl)))
 have hg1:=Glob.cons (var_errT hL'.2) hg0
 obtain ⟨mx,hmx⟩:=var_maxLen hsh
 have hg:=Glob.cons hmx (Glob.cons (var_loose (Lib.laidMet.reads hL'.1 (List.mem_of_getElem? (i:=7) (by rfl)))) hg1)
 simp only[List.append_nil] at hW'
 refine (FnP.calls (gl:=glU te pe mx) (RefsOf_g te pe mx n on) hoB (hg)
  (xs:=[_]) ⟨rn,trivial⟩).mono fun e W' ⟨he,hb⟩=>?_
 subst he
 have hlt:∀ x ∈ p,x.block<W.heap.size:=fun x hx=>by simpa using hW'.lt x (by simpa using hx)
 exact ⟨_,rfl,_,_,_,[],p,[],hW',trodAll_mk1 (shut_bool Tryz.underlying4 _),trodAll_below Door.out (ts:=[38]) hb readRefsOf hA1 hlt (fun x hx=>by simpa using hlt x hx),rfl,hb.frame _,fun h=>by cases h⟩
theorem refsOf_witness {C:Checked} {os:Os} {f:FuncId} {H:Type} {enc:TypeId×Value→H} {fn:Func} {s:OpenSpec} {conds:List PathCond} {apart:Bool} {laid:List (String×DataW Unit)} (w0:World) (args:Array Value) (hos:w0.os=os)
 (hsh:(w0.forCall (fun _ _=>0) ⟨#[],args,[]⟩).Shaped C.prog) (hok:Input.okWideB C.prog (w0.forCall (fun _ _=>0) ⟨#[],args,[]⟩) f ⟨#[],args,[]⟩=true)
 (hrow:s.preRow enc C.prog fn conds apart laid (w0.forCall (fun _ _=>0) ⟨#[],args,[]⟩).memory args) :
 ∃ (w:World) (tape:Tape) (i:Input),w.os=os∧(w.forCall tape i).Shaped C.prog∧i.vars=[]∧Input.okWide C.prog (w.forCall tape i) .any w.heap.size f i∧
  s.preRow enc C.prog fn conds apart laid (w.forCall tape i).memory i.args∧({}:Assume).holds C.prog (lone (Frame.enter C.prog f i.args .normal) [] (w.forCall tape i)) :=
 ⟨w0,fun _ _=>0,⟨#[],args,[]⟩,hos,hsh,(Input.okWide_of_okWideB (base:=0) hok).1,(Input.okWide_of_okWideB hok).2,hrow,by
  simp only[Assume.holds]
  exact ⟨by simp,by simp,fun _=>Modest.zero,by simp,by simp⟩⟩
theorem refsOf_lifted (os:Os) (started:os.Started) (H:Type) (enc:TypeId×Value→H) (F:Stop.Interp) :
 ReturnsInHanded {} Tryz.checked os 4 .any ((Rows.OpenSpec.upto Rows.refsOfSpec).preRow enc Tryz.prog Tryz.f4 Rows.refsOfUptoRow.domain false Rows.refsOfUptoRow.laid) (((Rows.OpenSpec.upto Rows.refsOfSpec).at F).post enc Tryz.prog Tryz.f4 false true false false):=by
 have hq:(DataW.whole enc Tryz.prog (({ (World.laidAll Tryz.prog os [("math/bits.deBruijn32tab",Rows.laid_math_bits_deBruijn32tab),("math/bits.deBruijn64tab",Rows.laid_math_bits_deBruijn64tab),("internal/strconv.uint64pow10",Rows.laid_internal_strconv_uint64pow10),("unicode/utf8.acceptRanges",Rows.laid_unicode_utf8_acceptRanges),("strconv.ErrRange",Rows.laid_strconv_ErrRange),("strconv.ErrSyntax",Rows.laid_strconv_ErrSyntax),("sccsettle/value.texts",Rows.laid_sccsettle_value_texts),("sccsettle/formula.loose",Rows.laid_sccsettle_formula_loose),("unicode/utf8.first",Rows.laid_unicode_utf8_first)]) with heap:=(World.laidAll Tryz.prog os [("math/bits.deBruijn32tab",Rows.laid_math_bits_deBruijn32tab),("math/bits.deBruijn64tab",Rows.laid_math_bits_deBruijn64tab),("internal/strconv.uint64pow10",Rows.laid_internal_strconv_uint64pow10),("unicode/utf8.acceptRanges",Rows.laid_unicode_utf8_acceptRanges),("strconv.ErrRange",Rows.laid_strconv_ErrRange),("strconv.ErrSyntax",Rows.laid_strconv_ErrSyntax),("sccsettle/value.texts",Rows.laid_sccsettle_value_texts),("sccsettle/formula.loose",Rows.laid_sccsettle_formula_loose),("unicode/utf8.first",Rows.laid_unicode_utf8_first)]).heap.modify 0 fun|.cells _ t frozen=>.cells #[.iface 186 (.agg #[.pointer (some ⟨11,24,none⟩)])] t frozen|o=>o }:World).forCall (fun _ _=>0) ⟨#[],#[.agg #[.int .i64 0,.int .i64 0,.string ⟨#[]⟩,.int .i64 0,.int .i64 0,.bool false,.bool false,.int .i64 0,.int .i64 0,.bool false,.bool false,.slice none 0 0]],[]⟩).memory Tryz.f4.params.toList Rows.refsOfSpec.vars false [.agg #[.int .i64 0,.int .i64 0,.string ⟨#[]⟩,.int .i64 0,.int .i64 0,.bool false,.bool false,.int .i64 0,.int .i64 0,.bool false,.bool false,.slice none 0 0]] 8).map (fun x=>Rows.uptoSmall H (x.1++x.2.1))=some true:=by kernel_rfl
 obtain ⟨x,hx,hxb⟩:=Option.map_eq_some_iff.1 hq
 refine returnsInHanded_of_row (C:=Tryz.checked) (s:=Rows.OpenSpec.upto Rows.refsOfSpec) Door.own started (by kernel_rfl) Tryz.func4
  (refsOf_witness (enc:=enc) (C:=Tryz.checked) (os:=os) ({ (World.laidAll Tryz.prog os [("math/bits.deBruijn32tab",Rows.laid_math_bits_deBruijn32tab),("math/bits.deBruijn64tab",Rows.laid_math_bits_deBruijn64tab),("internal/strconv.uint64pow10",Rows.laid_internal_strconv_uint64pow10),("unicode/utf8.acceptRanges",Rows.laid_unicode_utf8_acceptRanges),("strconv.ErrRange",Rows.laid_strconv_ErrRange),("strconv.ErrSyntax",Rows.laid_strconv_ErrSyntax),("sccsettle/value.texts",Rows.laid_sccsettle_value_texts),("sccsettle/formula.loose",Rows.laid_sccsettle_formula_loose),("unicode/utf8.first",Rows.laid_unicode_utf8_first)]) with heap:=(World.laidAll Tryz.prog os [("math/bits.deBruijn32tab",Rows.laid_math_bits_deBruijn32tab),("math/bits.deBruijn64tab",Rows.laid_math_bits_deBruijn64tab),("internal/strconv.uint64pow10",Rows.laid_internal_strconv_uint64pow10),("unicode/utf8.acceptRanges",Rows.laid_unicode_utf8_acceptRanges),("strconv.ErrRange",Rows.laid_strconv_ErrRange),("strconv.ErrSyntax",Rows.laid_strconv_ErrSyntax),("sccsettle/value.texts",Rows.laid_sccsettle_value_texts),("sccsettle/formula.loose",Rows.laid_sccsettle_formula_loose),("unicode/utf8.first",Rows.laid_unicode_utf8_first)]).heap.modify 0 fun|.cells _ t frozen=>.cells #[.iface 186 (.agg #[.pointer (some ⟨11,24,none⟩)])] t frozen|o=>o }:World) #[.agg #[.int .i64 0,.int .i64 0,.string ⟨#[]⟩,.int .i64 0,.int .i64 0,.bool false,.bool false,.int .i64 0,.int .i64 0,.bool false,.bool false,.slice none 0 0]] (World.laidAll_os _ _ _)
   (World.shaped_of_ZipB (by kernel_rfl) (by kernel_rfl)) (by kernel_rfl)
   (OpenSpec.preRow_of_cond 8 hx rfl (fun k hk=>by cases hk;exact hxb) (by kernel_rfl) (laidMetH_of_parts (laidMet_of_run' 8 (by kernel_rfl) (by kernel_rfl)) (by kernel_rfl)))) ?_
 intro W base args ds gs before hval0 hW _ hcond hsz hL hsh _
 exact refsOf_contract H enc W base args ds gs before hval0 hW (hcond _ rfl) hsz hL hsh
set_option maxHeartbeats 400000000 in
theorem refsOf_facts:joinedFacts Tryz.checked.prog 4 Tryz.f4 (Rows.OpenSpec.upto Rows.refsOfSpec).bare Rows.refsOfUptoRow=true:=by
 simp only[joinedFacts,Bool.and_eq_true]
 repeat' apply And.intro
 all_goals as_aux_lemma=>kernel_rfl
theorem refsOf_over:Rows.RefsOfUptoSaid :=
 OpenClaim.holds_of_cond 4 Tryz.f4 rfl rfl rfl rfl rfl rfl rfl ⟨rfl,rfl,rfl,rfl,rfl⟩ rfl rfl rfl rfl rfl (by kernel_rfl) Tryz.func4 refsOf_facts
  (of_decide_eq_true (by kernel_rfl)) (by unfold Func.isWrapper;rw[if_neg (of_decide_eq_false (by kernel_rfl))];exact ⟨rfl,rfl⟩)
  (fun os started H enc _ F=>by rw[OpenClaim.pre_eq_preRow];exact refsOf_lifted os started H enc F)
theorem wantsRefsOf:∀ t ∈ ([38]:List TypeId),Tryz.prog.wantsStandIn t=false:=by
 have h:([38]:List TypeId).all (fun t=>!Tryz.prog.wantsStandIn t)=true:=by kernel_rfl
 intro t ht
 simpa using List.all_eq_true.1 h t ht
theorem refsOfUpto_proved:Rows.RefsOfUptoCardSaid :=
 Claim7.holds_tied_plain_at .later [] [.data,.data,.data,.data,.handle,.sentinel,.sentinel,.data,.data,.pinned] true (true, "1bed95a2ccc88b01f7ef0eb8cdc5efd29e481780f848e83c356a33484e2fd0ec") true
  refsOf_over (fun _ h=>by cases h) (by kernel_rfl) (fun _ h=>by cases h) refsOfUpto_row_tie rfl ⟨rfl,rfl⟩ (by kernel_rfl) rfl
  (fun f fn hf hfn=>by
   obtain rfl:f=4:=Option.some.inj ((show Tryz.prog.funcNamed "sccsettle/scclaw1.RefsOf" = some 4 by kernel_rfl).symm.trans hf) |>.symm
   obtain rfl:fn=Tryz.f4:=(Option.some.inj (Tryz.func4.symm.trans hfn)).symm
   exact ⟨by kernel_rfl,fun j t ht=>by
    rw[Tryz.params4] at ht
    exact wantsRefsOf t (List.mem_of_getElem? (l:=[38]) (by simpa using ht))⟩)
  (by kernel_rfl)
#print axioms refsOfUpto_proved
end Go.Proofs.YtcdjjjokniinkaaGreatDoor
end
