/- Proved: the law of this seat, and its card. Condition: the variables that its row lists read as laid (the card ties them to the text). -/
import Derived.Test.YtfcmhmglpcimiaaGreatDoorKGb
import Derived.Test.YtfcmhmglpcimiaaGreatDoorKTja
import Derived.Test.YtfcmhmglpcimiaaGreatDoorKTlh
namespace Go.Proofs.YtfcmhmglpcimiaaGreatDoor
open Go Go.ChangeShapes Go.WideShapes Go.ChangeAt Go.RowKit Go.EYtfcmhmglpcimiaaGreatDoor
set_option linter.unusedVariables false
set_option maxRecDepth 100000
theorem readGraphChecks:∀ t ∈ ([22]:List TypeId),Tryz.prog.readableRec t=true∧t<Tryz.prog.types.size:=by
 rw[Door.size]
 have h:([22]:List TypeId).all (fun t=>Tryz.prog.readableRec t && decide (t<308))=true:=by kernel_rfl
 intro t ht
 simpa using List.all_eq_true.1 h t ht
theorem graphChecks_lifted (os:Os) (started:os.Started) (H:Type) (enc:TypeId×Value→H) :
 ReturnsInHanded {} Tryz.checked os 3 .any (fun w args=>(Rows.graphChecksSpec.pre enc Tryz.prog Tryz.f3 [] false w args∧laidMetH Tryz.prog Rows.graphChecksRow.laid w)∧sizedMet enc Tryz.prog Tryz.f3 (OpenSpec.ofChange Rows.graphChecksSpec) false w args)
  (Rows.graphChecksSpec.post enc Tryz.prog Tryz.f3 false true false false):=by
 refine wrapYtfcmhmglpcimiaaGreatDoor (C:=Tryz.checked) (X:=fun w _=>laidMetH Tryz.prog Rows.graphChecksRow.laid w) (fun _ _ _ hh h=>h.of_heap hh) Door.own started (by kernel_rfl) Tryz.func3
  (ChangeSpec.witness_shaped (enc:=enc) (C:=Tryz.checked) (os:=os) (X:=fun w _=>laidMetH Tryz.prog Rows.graphChecksRow.laid w) false ({ (World.laidAll Tryz.prog os [("math/bits.deBruijn32tab",Rows.laid_math_bits_deBruijn32tab),("math/bits.deBruijn64tab",Rows.laid_math_bits_deBruijn64tab),("internal/strconv.uint64pow10",Rows.laid_internal_strconv_uint64pow10),("unicode/utf8.acceptRanges",Rows.laid_unicode_utf8_acceptRanges),("strconv.ErrRange",Rows.laid_strconv_ErrRange),("strconv.ErrSyntax",Rows.laid_strconv_ErrSyntax),("sccsettle/value.texts",Rows.laid_sccsettle_value_texts),("sccsettle/formula.loose",Rows.laid_sccsettle_formula_loose),("unicode/utf8.first",Rows.laid_unicode_utf8_first)]) with heap:=(World.laidAll Tryz.prog os [("math/bits.deBruijn32tab",Rows.laid_math_bits_deBruijn32tab),("math/bits.deBruijn64tab",Rows.laid_math_bits_deBruijn64tab),("internal/strconv.uint64pow10",Rows.laid_internal_strconv_uint64pow10),("unicode/utf8.acceptRanges",Rows.laid_unicode_utf8_acceptRanges),("strconv.ErrRange",Rows.laid_strconv_ErrRange),("strconv.ErrSyntax",Rows.laid_strconv_ErrSyntax),("sccsettle/value.texts",Rows.laid_sccsettle_value_texts),("sccsettle/formula.loose",Rows.laid_sccsettle_formula_loose),("unicode/utf8.first",Rows.laid_unicode_utf8_first)]).heap.modify 0 fun|.cells _ t frozen=>.cells #[.iface 148 (.agg #[.pointer (some ⟨11,25,none⟩)])] t frozen|o=>o }:World)
   #[.slice none 0 0] 8 (World.laidAll_os _ _ _)
   (World.shaped_of_ZipB (by kernel_rfl) (by kernel_rfl)) (by kernel_rfl) (by kernel_rfl) (by kernel_rfl)
   (laidMetH_of_parts (laidMet_of_run' 8 (by kernel_rfl) (by kernel_rfl)) (by kernel_rfl))) ?_
 intro W base args ds gs before hval0 hW _ hsz hL hsh
 have hval:∀ (j:Nat) t v,Tryz.f3.params[j]?=some t→args[j]?=some v→Value.okWide Tryz.prog W .any base t v:=hval0
 have hW':=hW
 obtain ⟨p,q,hA0,hV,rfl,hfz,hnd⟩:=hW
 have hA1:DataW.TrodAll enc Tryz.prog W 0 (fun _=>true) true Tryz.f3.params.toList args.toList ds p:=hA0
 rw[Tryz.params3] at hA1 hval
 obtain ⟨rfl,rfl⟩:=trodVars_none hV
 have hA:=hA1
 obtain ⟨argl⟩:=args
 obtain ⟨v0,vs0,d0,ds0,p0,q0,e,rfl,-,h0,hA⟩:=trodAll_cons hA
 obtain ⟨rfl,rfl,-⟩:=trodAll_nil hA
 cases e
 obtain ⟨l,rl,hl,hBl⟩:=open_fls (hval 0 22 v0 rfl rfl) h0 (fun m hm=>by have:=List.all_eq_true.1 hsz m (DataW.weights_mem_each (j:=0) (t:=22) rfl rfl m hm);simpa using this)
 have hL':laidMet Tryz.prog [("math/bits.deBruijn32tab",Rows.laid_math_bits_deBruijn32tab),("math/bits.deBruijn64tab",Rows.laid_math_bits_deBruijn64tab),("internal/strconv.uint64pow10",Rows.laid_internal_strconv_uint64pow10),("unicode/utf8.acceptRanges",Rows.laid_unicode_utf8_acceptRanges),("strconv.ErrRange",Rows.laid_strconv_ErrRange),("strconv.ErrSyntax",Rows.laid_strconv_ErrSyntax),("sccsettle/value.texts",Rows.laid_sccsettle_value_texts),("sccsettle/formula.loose",Rows.laid_sccsettle_formula_loose),("unicode/utf8.first",Rows.laid_unicode_utf8_first)] W∧handlesMet Tryz.prog [("errors.errorType",Rows.laid_errors_errorType)] W:=hL
 obtain ⟨te,pe,hg0⟩:=glob_V (Lib.laidMet.reads hL'.1 (List.mem_of_getElem? (i:=6) (by rfl))) ⟨_,Lib.laidMet.reads hL'.1 (List.mem_of_getElem? (i:=4) (by rfl))⟩ (Lib.laidMet.reads hL'.1 (List.mem_of_getElem? (i:=2) (by rfl)))
 have hg1:=Glob.cons (var_errT hL'.2) hg0
 have hg:=Glob.cons (var_loose (Lib.laidMet.reads hL'.1 (List.mem_of_getElem? (i:=7) (by rfl)))) hg1
 simp only[List.append_nil] at hW'
 refine (FnP.calls (gl:=glF te pe) (GraphChecks_g te pe l) hoB (hg)
  (xs:=[_]) ⟨rl,trivial⟩).mono fun e W' ⟨he,hb⟩=>?_
 subst he
 have hlt:∀ x ∈ p,x.block<W.heap.size:=fun x hx=>by simpa using hW'.lt x (by simpa using hx)
 exact ⟨_,rfl,_,_,_,[],p,[],hW',trodAll_mk1 (shut_bool Tryz.underlying4 _),trodAll_below Door.out (ts:=[22]) hb readGraphChecks hA1 hlt (fun x hx=>by simpa using hlt x hx),rfl,hb.frame _,fun h=>by cases h⟩
set_option maxHeartbeats 400000000 in
theorem graphChecks_facts:joinedFacts Tryz.checked.prog 3 Tryz.f3 Rows.graphChecksSpec Rows.graphChecksRow=true:=by
 simp only[joinedFacts,Bool.and_eq_true]
 repeat' apply And.intro
 all_goals as_aux_lemma=>kernel_rfl
theorem graphChecks_over:Rows.GraphChecksSaid :=
 OpenClaim.holds_of_wide 3 Tryz.f3 rfl rfl rfl rfl rfl rfl rfl ⟨rfl,rfl,rfl,rfl,rfl⟩ rfl rfl rfl rfl rfl (by kernel_rfl) Tryz.func3 graphChecks_facts
  (of_decide_eq_true (by kernel_rfl)) (by unfold Func.isWrapper;rw[if_neg (of_decide_eq_false (by kernel_rfl))];exact ⟨rfl,rfl⟩)
  (fun os started H enc _=>graphChecks_lifted os started H enc)
theorem wantsGraphChecks:∀ t ∈ ([22]:List TypeId),Tryz.prog.wantsStandIn t=false:=by
 have h:([22]:List TypeId).all (fun t=>!Tryz.prog.wantsStandIn t)=true:=by kernel_rfl
 intro t ht
 simpa using List.all_eq_true.1 h t ht
theorem graphChecks_proved:Rows.GraphChecksCardSaid :=
 Claim7.holds_tied_plain_at .later [] [.data,.data,.data,.data,.handle,.sentinel,.sentinel,.data,.data,.pinned] true (true, "3df7938e40d5a9b7e5e689a60386304707ad29b963c925c61d8a0edbdbc00e1a") true
  graphChecks_over (fun _ h=>by cases h) (by kernel_rfl) (fun _ h=>by cases h) graphChecks_row_tie rfl ⟨rfl,rfl⟩ (by kernel_rfl) rfl
  (fun f fn hf hfn=>by
   obtain rfl:f=3:=Option.some.inj ((show Tryz.prog.funcNamed "sccsettle/scclaw2.GraphChecks" = some 3 by kernel_rfl).symm.trans hf) |>.symm
   obtain rfl:fn=Tryz.f3:=(Option.some.inj (Tryz.func3.symm.trans hfn)).symm
   exact ⟨by kernel_rfl,fun j t ht=>by
    rw[Tryz.params3] at ht
    exact wantsGraphChecks t (List.mem_of_getElem? (l:=[22]) (by simpa using ht))⟩)
  (by kernel_rfl)
#print axioms graphChecks_proved
end Go.Proofs.YtfcmhmglpcimiaaGreatDoor
