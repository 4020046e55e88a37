/- Proved: a part of what the law is proved with (the reckoner, contracts of functions, plain laws). Conditions: as each says. -/
import Derived.Lib.LaidU8
import Derived.Shelf.Vars
import Derived.Test.YtfkjhfdpphfjhaaGreatDoorXBa
import Derived.Test.YtfkjhfdpphfjhaaGreatDoorXBg
import Derived.Test.YtfkjhfdpphfjhaaGreatDoorXFo
import Derived.Test.YtfkjhfdpphfjhaaGreatDoorXSg
namespace Go.Proofs.YtfkjhfdpphfjhaaGreatDoor
set_option maxRecDepth 100000
section
open Go Go.ChangeShapes Go.WideShapes Go.ChangeAt Go.RowKit Go.EYtfkjhfdpphfjhaaGreatDoor
set_option linter.unusedVariables false
theorem var_cells {w:World} {n:String} {g:Nat} {cs:Array Value} (hg:Tryz.prog.globalNamed n=some g) (h:w.var? Tryz.prog n=some cs):∃ t f,w.heap[g]?=some (Obj.cells cs t f):=by
 unfold World.var? at h
 rw[hg] at h
 simp only[Option.bind_some] at h
 split at h
 ·rename_i c t f hc;cases h;exact ⟨t,f,hc⟩
 ·cases h
theorem cells_of_strs {H:Type} {enc:TypeId×Value→H} {P:Program} {w:World} {base:Nat} {sp:Nat→Bool} {held:Bool} {fuel:Nat} {t e:TypeId} {n:Nat} {cs:List Value} {zs:List (List UInt8)} {p:List MemPlace}
 (ht:P.underlying t=some (.array n e)) (he:P.underlying e=some .string) (hce:P.cellsOf e=1) (hct:P.cellsOf t=n)
 (h:DataW.trod enc P w base sp held fuel t cs=some (.agg (zs.map fun z=>.lit (.string z)),p)):cs=zs.map fun z=>Value.string ⟨z.toArray⟩:=by
 cases fuel with
 | zero=>simp[DataW.trod] at h
 | succ fuel =>
  simp only[DataW.trod,ht,hce,hct,Nat.mul_one] at h
  split at h
  ·rename_i hl
   obtain ⟨xs,hm,hx⟩:=Option.map_eq_some_iff.1 h
   have hxs:xs.map (·.1)=zs.map fun z=>(DataW.lit (.string z):DataW H):=by
    have:=congrArg Prod.fst hx
    simpa using this
   have hxl:xs.length=n:=by simpa using Lib.mapM_length hm
   have hzl:zs.length=n:=by
    have:=congrArg List.length hxs
    simp at this
    omega
   apply List.ext_getElem?
   intro i
   by_cases hi:i<n
   ·obtain ⟨b,hb,hf⟩:=Lib.mapM_at hm i i (by simp[hi])
    obtain ⟨z,hc,rfl,_⟩:=DataW.trod_string he hf
    have h1:cs[i]?=some (.string z):=by
     have:=congrArg (·[0]?) hc
     simpa[List.getElem?_take,List.getElem?_drop] using this
    have h2:(xs.map (·.1))[i]?=some (DataW.lit (.string z.data.toList):DataW H):=by simp[hb]
    rw[hxs] at h2
    simp only[List.getElem?_map,Option.map_eq_some_iff,DataW.lit.injEq,Lit.string.injEq] at h2
    obtain ⟨z',hz',rfl⟩:=h2
    simp[h1,hz']
   ·rw[List.getElem?_eq_none (by omega),List.getElem?_eq_none (by simp;omega)]
  ·cases h
theorem all2_map {M:Nat→Prop} {w:World} {α:Type} {f:α→D} {g:α→Value} (h:∀ a,DenD M w (f a) (g a)):∀ l:List α,DenL M w (l.map f) (l.map g)
 | []=>trivial
 | a::l=>⟨h a,all2_map h l⟩
theorem lt_of_cells {w:World} {g:Nat} {cs:Array Value} (h:∃ t f,w.heap[g]?=some (Obj.cells cs t f)):g<w.heap.size:=by
 obtain ⟨t,f,h⟩:=h
 exact (Array.getElem?_eq_some_iff.1 h).1
def Holds1 (w:World) (g:Nat) (l:List D):Prop:=∃ xs:List Value,(∃ t f,w.heap[g]?=some (Obj.cells xs.toArray t f))∧DenL (fun _=>False) w l xs
theorem Glob.cons {w:World} {g:Nat} {l:List D} {gl:List (Nat×List D)} (h:Holds1 w g l) (hg:Glob gl (fun _=>False) w):Glob ((g,l)::gl) (fun _=>False) w:=by
 intro k m hl
 rw[look_cons] at hl
 split at hl
 ·rename_i e;cases hl;rw[← e]
  obtain ⟨xs,h1,h2⟩:=h
  exact ⟨fun h=>h,xs,h1,lt_of_cells h1,h2⟩
 ·exact hg k m hl
theorem var_texts {w:World} (h1:Lib.VarReads Tryz.prog w "sccsettle/value.texts" (.agg (tx.map fun z=>.lit (.string z)))):Holds1 w 3 (tx.map D.str):=by
 obtain ⟨g,t,cs,fuel,p,hg,ht,hv,hd⟩:=h1
 have e:(some g:Option Nat)=some 3:=hg.symm.trans (show Tryz.prog.globalNamed "sccsettle/value.texts" = some 3 by kernel_rfl)
 cases e
 have e:(some t:Option Nat)=some 207:=ht.symm.trans (by kernel_rfl)
 cases e
 have c1:=cells_of_strs (n:=7) (e:=9) Tryz.underlying207 Tryz.underlying9 (by kernel_rfl) (by kernel_rfl) hd
 have b1:=var_cells hg hv
 have c1':cs=(tx.map fun z=>Value.string ⟨z.toArray⟩).toArray:=by rw[← c1]
 subst c1'
 exact ⟨_,b1,all2_map (fun a=>.str a) tx⟩
theorem var_err {w:World} (h2:∃ d,Lib.VarReads Tryz.prog w "strconv.ErrRange" (.iface "*errors.errorString" d)):∃ te pe,Holds1 w 8 [.v (.iface te pe)]:=by
 obtain ⟨d2,g,t,cs2,fuel,p,hg2,ht2,hv2,hd2⟩:=h2
 have e:(some g:Option Nat)=some 8:=hg2.symm.trans (show Tryz.prog.globalNamed "strconv.ErrRange" = some 8 by kernel_rfl)
 cases e
 have e:(some t:Option Nat)=some 33:=ht2.symm.trans (by kernel_rfl)
 cases e
 obtain ⟨_,te,pe,c2,_,_⟩:=iface_of_trod Tryz.underlying33 hd2
 have b2:=var_cells hg2 hv2
 have c2':cs2=[Value.iface te pe].toArray:=by rw[← c2]
 subst c2'
 exact ⟨te,pe,_,b2,.v _,trivial⟩
theorem var_pow {w:World} (h3:Lib.VarReads Tryz.prog w "internal/strconv.uint64pow10" (Lib.tabData .u64 Lib.pow10Tab)):Holds1 w 9 (Lib.pow10Tab.map fun z=>D.v (.int .u64 z)):=by
 obtain ⟨g,t,cs3,fuel,p,hg3,ht3,hv3,hd3⟩:=h3
 have e:(some g:Option Nat)=some 9:=hg3.symm.trans (show Tryz.prog.globalNamed "internal/strconv.uint64pow10" = some 9 by kernel_rfl)
 cases e
 have e:(some t:Option Nat)=some 304:=ht3.symm.trans (by kernel_rfl)
 cases e
 have c3:=Lib.cells_of_tab (n:=20) (e:=169) Tryz.underlying304 Tryz.underlying169 (by kernel_rfl) (by kernel_rfl) hd3
 have b3:=var_cells hg3 hv3
 have c3':cs3=(Lib.pow10Tab.map fun z=>Value.int .u64 z).toArray:=by rw[← c3]
 subst c3'
 exact ⟨_,b3,all2_map (fun a=>.v _) Lib.pow10Tab⟩
theorem glob_V {w:World} (h1:Lib.VarReads Tryz.prog w "sccsettle/value.texts" (.agg (tx.map fun z=>.lit (.string z)))) (h2:∃ d,Lib.VarReads Tryz.prog w "strconv.ErrRange" (.iface "*errors.errorString" d)) (h3:Lib.VarReads Tryz.prog w "internal/strconv.uint64pow10" (Lib.tabData .u64 Lib.pow10Tab)) :
 ∃ te pe,Glob (glV te pe) (fun _=>False) w:=by
 obtain ⟨te,pe,h⟩:=var_err h2
 exact ⟨te,pe,Glob.cons (var_texts h1) (Glob.cons h (Glob.cons (var_pow h3) glob_none))⟩
end
section
open Go Go.EYtfkjhfdpphfjhaaGreatDoor
variable {gl:List (Nat×List D)}
theorem Check_s {c r:Int} (h:okP c r):FnP Tryz.prog gl 37 [cellD c r] (errD 0):=by
 refine S0 Tryz.func37 rfl ?_
 ((repeat' ((conv=>whnf);first|exact .intro|refine G ?_|intro _|refine C1 (ok_d _ _) ?_|refine .mk ?_ ?_|refine H ?_|fail));all_goals conv=>whnf)
 exact LeD.rfl
theorem Check_n {c r:Int} (h:¬ okP c r):FnP Tryz.prog gl 37 [cellD c r] (errD 1):=by
 refine S0 Tryz.func37 rfl ?_
 ((repeat' ((conv=>whnf);first|exact .intro|refine G ?_|intro _|refine C1 (ok_d _ _) ?_|refine .mk ?_ ?_|refine H ?_|fail));all_goals conv=>whnf)
 exact LeD.rfl
abbrev rrBad:D:=.tup [refD 0 0 false false,tD false]
theorem rrBad_le:LeD (retD [D.agg [iD 0,iD 0,.v (.bool false),.v (.bool false)],.v (.bool false)]) rrBad:=noneR_le
theorem w01:IntKind.i64.wrap (0+1)=1:=by decide
theorem w011:IntKind.i64.wrap (IntKind.i64.wrap (0+1)+1)=2:=by decide
theorem w0111:IntKind.i64.wrap (IntKind.i64.wrap (IntKind.i64.wrap (0+1)+1)+1)=3:=by decide
theorem dl_inv1 {s:List UInt8} {b:Bool} (h:dl s=(b,[])):s=[]∨s=[36]:=by
 cases s with
 | nil=>exact .inl rfl
 | cons a s =>
  right
  by_cases ha:a=36
  ·simp only[dl,if_pos ha,Prod.mk.injEq] at h;rw[ha,h.2]
  ·simp only[dl,if_neg ha,Prod.mk.injEq] at h;cases h.2
theorem dl_inv2 {s t:List UInt8} {b:Bool} {ch:UInt8} (h:dl s=(b,ch::t)):(s=36::ch::t∧b=true)∨(s=ch::t∧ch≠36∧b=false):=by
 cases s with
 | nil=>cases h
 | cons a s =>
  by_cases ha:a=36
  ·simp only[dl,if_pos ha,Prod.mk.injEq] at h;left;rw[ha,h.2];exact ⟨rfl,h.1.symm⟩
  ·simp only[dl,if_neg ha,Prod.mk.injEq] at h;right;cases h.2;exact ⟨rfl,ha,h.1.symm⟩
theorem ne36 {c:UInt8} (h:c≠36):¬ ((c.toNat:Nat):Int)=36:=fun e=>h (UInt8.toNat_inj.1 (Int.ofNat.inj e))
theorem rRef_1 {s:List UInt8} {b:Bool} (h:dl s=(b,[])):FnP Tryz.prog gl 196 [.str s] rrBad:=by
 rcases dl_inv1 h with rfl|rfl
 ·refine S0 Tryz.func196 rfl ?_
  ((repeat' ((conv=>whnf);first|exact .intro|refine G ?_|intro _|refine .mk ?_ ?_|refine AK ?_|refine And.intro (by first|(first|assumption|omega|(simp;done)|(rw[w01];simp;done)|(rw[w01];simp;omega);done)|fail) ?_|fail));all_goals conv=>whnf)
  exact rrBad_le
 ·have f1:((([36]:List UInt8).length:Nat):Int)≤IntKind.i64.wrap (0+1):=by decide
  refine S0 Tryz.func196 rfl ?_
  ((repeat' ((conv=>whnf);first|exact .intro|refine G ?_|intro _|refine .mk ?_ ?_|refine AK ?_|refine And.intro (by first|(first|assumption|omega|(simp;done)|(rw[w01];simp;done)|(rw[w01];simp;omega);done)|fail) ?_|fail));all_goals conv=>whnf)
  all_goals first|exact rrBad_le
theorem rRef_2 {s t:List UInt8} {b:Bool} {ch:UInt8} (h:dl s=(b,ch::t)) (hc:¬ (65≤ch.toNat∧ch.toNat≤90)):FnP Tryz.prog gl 196 [.str s] rrBad:=by
 rcases dl_inv2 h with ⟨rfl,_⟩|⟨rfl,h36,_⟩
 ·have f1:¬ (((36::ch::t).length:Nat):Int)≤IntKind.i64.wrap (0+1):=by rw[w01];simp;try omega
  have fe:(36::ch::t).getD (IntKind.i64.wrap (0+1)).toNat 0=ch:=by rw[w01];rfl
  by_cases hlo:(((36::ch::t).getD (IntKind.i64.wrap (0+1)).toNat 0).toNat:Int)<65
  ·refine S0 Tryz.func196 rfl ?_
   ((repeat' ((conv=>whnf);first|exact .intro|refine G ?_|intro _|refine .mk ?_ ?_|refine AK ?_|refine And.intro (by first|(first|assumption|omega|(simp;done)|(rw[w01];simp;done)|(rw[w01];simp;omega);done)|fail) ?_|fail));all_goals conv=>whnf)
   all_goals first|exact rrBad_le
  ·have hhi:90<(((36::ch::t).getD (IntKind.i64.wrap (0+1)).toNat 0).toNat:Int):=by rw[fe] at hlo ⊢;omega
   refine S0 Tryz.func196 rfl ?_
   ((repeat' ((conv=>whnf);first|exact .intro|refine G ?_|intro _|refine .mk ?_ ?_|refine AK ?_|refine And.intro (by first|(first|assumption|omega|(simp;done)|(rw[w01];simp;done)|(rw[w01];simp;omega);done)|fail) ?_|fail));all_goals conv=>whnf)
   all_goals first|exact rrBad_le
 ·have f0:¬ (((ch::t).getD (Int.toNat 0) 0).toNat:Int)=36:=ne36 h36
  have f1:¬ (((ch::t).length:Nat):Int)≤0:=by simp;try omega
  by_cases hlo:(((ch::t).getD (Int.toNat 0) 0).toNat:Int)<65
  ·refine S0 Tryz.func196 rfl ?_
   ((repeat' ((conv=>whnf);first|exact .intro|refine G ?_|intro _|refine .mk ?_ ?_|refine AK ?_|refine And.intro (by first|(first|assumption|omega|(simp;done)|(rw[w01];simp;done)|(rw[w01];simp;omega);done)|fail) ?_|fail));all_goals conv=>whnf)
   all_goals first|exact rrBad_le
  ·have hhi:90<(((ch::t).getD (Int.toNat 0) 0).toNat:Int):=by
    have hlo':¬ ((ch.toNat:Nat):Int)<65:=hlo
    show 90<((ch.toNat:Nat):Int)
    omega
   refine S0 Tryz.func196 rfl ?_
   ((repeat' ((conv=>whnf);first|exact .intro|refine G ?_|intro _|refine .mk ?_ ?_|refine AK ?_|refine And.intro (by first|(first|assumption|omega|(simp;done)|(rw[w01];simp;done)|(rw[w01];simp;omega);done)|fail) ?_|fail));all_goals conv=>whnf)
   all_goals first|exact rrBad_le
end
section
open Go Go.ChangeShapes Go.WideShapes Go.ChangeAt Go.RowKit Go.EYtfkjhfdpphfjhaaGreatDoor
set_option linter.unusedVariables false
section
variable {B n:Nat} {ds:List D}
theorem sh_int (h:Sh Tryz.prog B n 3 ds):∃ m,ds=[iD m]∧(Lit.int .i64 m).wf=true:=by
 cases n with
 | zero=>exact h.elim
 | succ n=>unfold Sh at h;rw[Tryz.underlying3] at h;exact h
theorem sh_str (h:Sh Tryz.prog B n 9 ds):∃ s,ds=[.str s]∧s.length≤B:=by
 cases n with
 | zero=>exact h.elim
 | succ n=>unfold Sh at h;rw[Tryz.underlying9] at h;exact h
theorem map_of {α:Type} {g:α→List D} {p:α→Prop}:∀ {rows:List (List D)},(∀ r ∈ rows,∃ f,r=g f∧p f)→∃ l:List α,rows=l.map g∧∀ f ∈ l,p f
 | [],_=>⟨[],rfl,fun f hf=>by cases hf⟩
 | r::rows,h=>by
  obtain ⟨f,rfl,hf⟩:=h r (List.mem_cons_self ..)
  obtain ⟨l,rfl,hl⟩:=map_of fun r hr=>h r (List.mem_cons_of_mem _ hr)
  exact ⟨f::l,rfl,fun g hg=>by rcases List.mem_cons.1 hg with rfl|hg;exact hf;exact hl g hg⟩
end
theorem var_maxLen {w:World} (h:w.ShapedOpen Tryz.prog):∃ m:Int,Holds1 w 4 [iD m]:=by
 have h0:((begin Tryz.prog (fun _ _=>0) default).world.heap[4]?).bind Obj.row?=some (#[.int .i64 0],3):=by kernel_rfl
 obtain ⟨m,hm⟩:=cell_of_shapedOpen_int (P:=Tryz.prog) (g:=4) (t:=3) (zero:=#[.int .i64 0]) h (of_decide_eq_true (by kernel_rfl)) h0 rfl (by kernel_rfl) (by kernel_rfl) Tryz.underlying3
 obtain ⟨⟨l⟩,hh,hs,_⟩:=h.1 4 _ _ (of_decide_eq_true (by kernel_rfl)) h0
 match l,hs with
 | [x],_ =>
  have:x=.int .i64 m:=by simpa[World.cell?,hh] using hm
  subst this
  exact ⟨m,[_],⟨_,_,hh⟩,.v _,trivial⟩
end
end Go.Proofs.YtfkjhfdpphfjhaaGreatDoor
