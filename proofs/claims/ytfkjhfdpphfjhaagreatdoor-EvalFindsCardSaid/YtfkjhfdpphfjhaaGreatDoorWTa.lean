/- Proved: a part of what the law is proved with (the reckoner, contracts of functions, plain laws). Conditions: as each says. -/
import Derived.Lib.LaidU8
import Derived.Shelf.Vars
import Derived.Test.YtfkjhfdpphfjhaaGreatDoorWBa
import Derived.Test.YtfkjhfdpphfjhaaGreatDoorWFo
import Derived.Test.YtfkjhfdpphfjhaaGreatDoorWSd
import Derived.Test.YtfkjhfdpphfjhaaGreatDoorWSg
import Derived.Test.YtfkjhfdpphfjhaaGreatDoorWVb
section
namespace Go.Proofs.YtfkjhfdpphfjhaaGreatDoor
open Go Go.ChangeShapes Go.WideShapes Go.ChangeAt Go.RowKit Go.EYtfkjhfdpphfjhaaGreatDoor
set_option linter.unusedVariables false
set_option maxRecDepth 100000
theorem var_cells {w:World} {n:String} {g:Nat} {cs:Array Value} (hg:Tryz.prog.globalNamed n=some g) (h:w.var? Tryz.prog n=some cs):∃ t f,w.heap[g]?=some (Obj.cells cs t f):=by
 unfold World.var? at h
 rw[hg] at h
 simp only[Option.bind_some] at h
 split at h
 ·rename_i c t f hc;cases h;exact ⟨t,f,hc⟩
 ·cases h
theorem cells_of_strs {H:Type} {enc:TypeId×Value→H} {P:Program} {w:World} {base:Nat} {sp:Nat→Bool} {held:Bool} {fuel:Nat} {t e:TypeId} {n:Nat} {cs:List Value} {zs:List (List UInt8)} {p:List MemPlace}
 (ht:P.underlying t=some (.array n e)) (he:P.underlying e=some .string) (hce:P.cellsOf e=1) (hct:P.cellsOf t=n)
 (h:DataW.trod enc P w base sp held fuel t cs=some (.agg (zs.map fun z=>.lit (.string z)),p)):cs=zs.map fun z=>Value.string ⟨z.toArray⟩:=by
 cases fuel with
 | zero=>simp[DataW.trod] at h
 | succ fuel =>
  simp only[DataW.trod,ht,hce,hct,Nat.mul_one] at h
  split at h
  ·rename_i hl
   obtain ⟨xs,hm,hx⟩:=Option.map_eq_some_iff.1 h
   have hxs:xs.map (·.1)=zs.map fun z=>(DataW.lit (.string z):DataW H):=by
    have:=congrArg Prod.fst hx
    simpa using this
   have hxl:xs.length=n:=by simpa using Lib.mapM_length hm
   have hzl:zs.length=n:=by
    have:=congrArg List.length hxs
    simp at this
    omega
   apply List.ext_getElem?
   intro i
   by_cases hi:i<n
   ·obtain ⟨b,hb,hf⟩:=Lib.mapM_at hm i i (by simp[hi])
    obtain ⟨z,hc,rfl,_⟩:=DataW.trod_string he hf
    have h1:cs[i]?=some (.string z):=by
     have:=congrArg (·[0]?) hc
     simpa[List.getElem?_take,List.getElem?_drop] using this
    have h2:(xs.map (·.1))[i]?=some (DataW.lit (.string z.data.toList):DataW H):=by simp[hb]
    rw[hxs] at h2
    simp only[List.getElem?_map,Option.map_eq_some_iff,DataW.lit.injEq,Lit.string.injEq] at h2
    obtain ⟨z',hz',rfl⟩:=h2
    simp[h1,hz']
   ·rw[List.getElem?_eq_none (by omega),List.getElem?_eq_none (by simp;omega)]
  ·cases h
theorem all2_map {M:Nat→Prop} {w:World} {α:Type} {f:α→D} {g:α→Value} (h:∀ a,DenD M w (f a) (g a)):∀ l:List α,DenL M w (l.map f) (l.map g)
 | []=>trivial
 | a::l=>⟨h a,all2_map h l⟩
theorem lt_of_cells {w:World} {g:Nat} {cs:Array Value} (h:∃ t f,w.heap[g]?=some (Obj.cells cs t f)):g<w.heap.size:=by
 obtain ⟨t,f,h⟩:=h
 exact (Array.getElem?_eq_some_iff.1 h).1
def Holds1 (w:World) (g:Nat) (l:List D):Prop:=∃ xs:List Value,(∃ t f,w.heap[g]?=some (Obj.cells xs.toArray t f))∧DenL (fun _=>False) w l xs
theorem Glob.cons {w:World} {g:Nat} {l:List D} {gl:List (Nat×List D)} (h:Holds1 w g l) (hg:Glob gl (fun _=>False) w):Glob ((g,l)::gl) (fun _=>False) w:=by
 intro k m hl
 rw[look_cons] at hl
 split at hl
 ·rename_i e;cases hl;rw[← e]
  obtain ⟨xs,h1,h2⟩:=h
  exact ⟨fun h=>h,xs,h1,lt_of_cells h1,h2⟩
 ·exact hg k m hl
theorem var_texts {w:World} (h1:Lib.VarReads Tryz.prog w "sccsettle/value.texts" (.agg (tx.map fun z=>.lit (.string z)))):Holds1 w 3 (tx.map D.str):=by
 obtain ⟨g,t,cs,fuel,p,hg,ht,hv,hd⟩:=h1
 have e:(some g:Option Nat)=some 3:=hg.symm.trans (show Tryz.prog.globalNamed "sccsettle/value.texts" = some 3 by kernel_rfl)
 cases e
 have e:(some t:Option Nat)=some 207:=ht.symm.trans (by kernel_rfl)
 cases e
 have c1:=cells_of_strs (n:=7) (e:=9) Tryz.underlying207 Tryz.underlying9 (by kernel_rfl) (by kernel_rfl) hd
 have b1:=var_cells hg hv
 have c1':cs=(tx.map fun z=>Value.string ⟨z.toArray⟩).toArray:=by rw[← c1]
 subst c1'
 exact ⟨_,b1,all2_map (fun a=>.str a) tx⟩
theorem var_err {w:World} (h2:∃ d,Lib.VarReads Tryz.prog w "strconv.ErrRange" (.iface "*errors.errorString" d)):∃ te pe,Holds1 w 8 [.v (.iface te pe)]:=by
 obtain ⟨d2,g,t,cs2,fuel,p,hg2,ht2,hv2,hd2⟩:=h2
 have e:(some g:Option Nat)=some 8:=hg2.symm.trans (show Tryz.prog.globalNamed "strconv.ErrRange" = some 8 by kernel_rfl)
 cases e
 have e:(some t:Option Nat)=some 33:=ht2.symm.trans (by kernel_rfl)
 cases e
 obtain ⟨_,te,pe,c2,_,_⟩:=iface_of_trod Tryz.underlying33 hd2
 have b2:=var_cells hg2 hv2
 have c2':cs2=[Value.iface te pe].toArray:=by rw[← c2]
 subst c2'
 exact ⟨te,pe,_,b2,.v _,trivial⟩
theorem var_pow {w:World} (h3:Lib.VarReads Tryz.prog w "internal/strconv.uint64pow10" (Lib.tabData .u64 Lib.pow10Tab)):Holds1 w 9 (Lib.pow10Tab.map fun z=>D.v (.int .u64 z)):=by
 obtain ⟨g,t,cs3,fuel,p,hg3,ht3,hv3,hd3⟩:=h3
 have e:(some g:Option Nat)=some 9:=hg3.symm.trans (show Tryz.prog.globalNamed "internal/strconv.uint64pow10" = some 9 by kernel_rfl)
 cases e
 have e:(some t:Option Nat)=some 304:=ht3.symm.trans (by kernel_rfl)
 cases e
 have c3:=Lib.cells_of_tab (n:=20) (e:=169) Tryz.underlying304 Tryz.underlying169 (by kernel_rfl) (by kernel_rfl) hd3
 have b3:=var_cells hg3 hv3
 have c3':cs3=(Lib.pow10Tab.map fun z=>Value.int .u64 z).toArray:=by rw[← c3]
 subst c3'
 exact ⟨_,b3,all2_map (fun a=>.v _) Lib.pow10Tab⟩
theorem glob_V {w:World} (h1:Lib.VarReads Tryz.prog w "sccsettle/value.texts" (.agg (tx.map fun z=>.lit (.string z)))) (h2:∃ d,Lib.VarReads Tryz.prog w "strconv.ErrRange" (.iface "*errors.errorString" d)) (h3:Lib.VarReads Tryz.prog w "internal/strconv.uint64pow10" (Lib.tabData .u64 Lib.pow10Tab)) :
 ∃ te pe,Glob (glV te pe) (fun _=>False) w:=by
 obtain ⟨te,pe,h⟩:=var_err h2
 exact ⟨te,pe,Glob.cons (var_texts h1) (Glob.cons h (Glob.cons (var_pow h3) glob_none))⟩
end Go.Proofs.YtfkjhfdpphfjhaaGreatDoor
end
section
namespace Go.Proofs.YtfkjhfdpphfjhaaGreatDoor
open Go Go.EYtfkjhfdpphfjhaaGreatDoor
set_option maxRecDepth 100000
variable {gl:List (Nat×List D)}
theorem Check_s {c r:Int} (h:okP c r):FnP Tryz.prog gl 37 [cellD c r] (errD 0):=by
 refine fnP_of_vc (nv:=9999) (cu:=[]) fits mixed Tryz.func37 rfl hoB rfl ?_
 ((repeat' ((conv=>whnf);first|exact .intro|refine G ?_|intro _|refine C1 (ok_d _ _) ?_|refine .mk ?_ ?_|refine H ?_|fail));all_goals conv=>whnf)
 exact LeD.rfl
theorem Check_n {c r:Int} (h:¬ okP c r):FnP Tryz.prog gl 37 [cellD c r] (errD 1):=by
 refine fnP_of_vc (nv:=9999) (cu:=[]) fits mixed Tryz.func37 rfl hoB rfl ?_
 ((repeat' ((conv=>whnf);first|exact .intro|refine G ?_|intro _|refine C1 (ok_d _ _) ?_|refine .mk ?_ ?_|refine H ?_|fail));all_goals conv=>whnf)
 exact LeD.rfl
abbrev rrBad:D:=.tup [refD 0 0 false false,tD false]
theorem rrBad_le:LeD (retD [D.agg [iD 0,iD 0,.v (.bool false),.v (.bool false)],.v (.bool false)]) rrBad:=noneR_le
theorem w01:IntKind.i64.wrap (0+1)=1:=by decide
theorem w011:IntKind.i64.wrap (IntKind.i64.wrap (0+1)+1)=2:=by decide
theorem w0111:IntKind.i64.wrap (IntKind.i64.wrap (IntKind.i64.wrap (0+1)+1)+1)=3:=by decide
theorem dl_inv1 {s:List UInt8} {b:Bool} (h:dl s=(b,[])):s=[]∨s=[36]:=by
 cases s with
 | nil=>exact .inl rfl
 | cons a s =>
  right
  by_cases ha:a=36
  ·simp only[dl,if_pos ha,Prod.mk.injEq] at h;rw[ha,h.2]
  ·simp only[dl,if_neg ha,Prod.mk.injEq] at h;cases h.2
theorem dl_inv2 {s t:List UInt8} {b:Bool} {ch:UInt8} (h:dl s=(b,ch::t)):(s=36::ch::t∧b=true)∨(s=ch::t∧ch≠36∧b=false):=by
 cases s with
 | nil=>cases h
 | cons a s =>
  by_cases ha:a=36
  ·simp only[dl,if_pos ha,Prod.mk.injEq] at h;left;rw[ha,h.2];exact ⟨rfl,h.1.symm⟩
  ·simp only[dl,if_neg ha,Prod.mk.injEq] at h;right;cases h.2;exact ⟨rfl,ha,h.1.symm⟩
theorem ne36 {c:UInt8} (h:c≠36):¬ ((c.toNat:Nat):Int)=36:=fun e=>h (UInt8.toNat_inj.1 (Int.ofNat.inj e))
theorem rRef_1 {s:List UInt8} {b:Bool} (h:dl s=(b,[])):FnP Tryz.prog gl 196 [.str s] rrBad:=by
 rcases dl_inv1 h with rfl|rfl
 ·refine fnP_of_vc (nv:=9999) (cu:=[]) fits mixed Tryz.func196 rfl hoB rfl ?_
  ((repeat' ((conv=>whnf);first|exact .intro|refine G ?_|intro _|refine .mk ?_ ?_|refine AK ?_|refine And.intro (by first|(first|assumption|omega|(simp;done)|(rw[w01];simp;done)|(rw[w01];simp;omega);done)|fail) ?_|fail));all_goals conv=>whnf)
  exact rrBad_le
 ·have f1:((([36]:List UInt8).length:Nat):Int)≤IntKind.i64.wrap (0+1):=by decide
  refine fnP_of_vc (nv:=9999) (cu:=[]) fits mixed Tryz.func196 rfl hoB rfl ?_
  ((repeat' ((conv=>whnf);first|exact .intro|refine G ?_|intro _|refine .mk ?_ ?_|refine AK ?_|refine And.intro (by first|(first|assumption|omega|(simp;done)|(rw[w01];simp;done)|(rw[w01];simp;omega);done)|fail) ?_|fail));all_goals conv=>whnf)
  all_goals first|exact rrBad_le
theorem rRef_2 {s t:List UInt8} {b:Bool} {ch:UInt8} (h:dl s=(b,ch::t)) (hc:¬ (65≤ch.toNat∧ch.toNat≤90)):FnP Tryz.prog gl 196 [.str s] rrBad:=by
 rcases dl_inv2 h with ⟨rfl,_⟩|⟨rfl,h36,_⟩
 ·have f1:¬ (((36::ch::t).length:Nat):Int)≤IntKind.i64.wrap (0+1):=by rw[w01];simp;try omega
  have fe:(36::ch::t).getD (IntKind.i64.wrap (0+1)).toNat 0=ch:=by rw[w01];rfl
  by_cases hlo:(((36::ch::t).getD (IntKind.i64.wrap (0+1)).toNat 0).toNat:Int)<65
  ·refine fnP_of_vc (nv:=9999) (cu:=[]) fits mixed Tryz.func196 rfl hoB rfl ?_
   ((repeat' ((conv=>whnf);first|exact .intro|refine G ?_|intro _|refine .mk ?_ ?_|refine AK ?_|refine And.intro (by first|(first|assumption|omega|(simp;done)|(rw[w01];simp;done)|(rw[w01];simp;omega);done)|fail) ?_|fail));all_goals conv=>whnf)
   all_goals first|exact rrBad_le
  ·have hhi:90<(((36::ch::t).getD (IntKind.i64.wrap (0+1)).toNat 0).toNat:Int):=by rw[fe] at hlo ⊢;omega
   refine fnP_of_vc (nv:=9999) (cu:=[]) fits mixed Tryz.func196 rfl hoB rfl ?_
   ((repeat' ((conv=>whnf);first|exact .intro|refine G ?_|intro _|refine .mk ?_ ?_|refine AK ?_|refine And.intro (by first|(first|assumption|omega|(simp;done)|(rw[w01];simp;done)|(rw[w01];simp;omega);done)|fail) ?_|fail));all_goals conv=>whnf)
   all_goals first|exact rrBad_le
 ·have f0:¬ (((ch::t).getD (Int.toNat 0) 0).toNat:Int)=36:=ne36 h36
  have f1:¬ (((ch::t).length:Nat):Int)≤0:=by simp;try omega
  by_cases hlo:(((ch::t).getD (Int.toNat 0) 0).toNat:Int)<65
  ·refine fnP_of_vc (nv:=9999) (cu:=[]) fits mixed Tryz.func196 rfl hoB rfl ?_
   ((repeat' ((conv=>whnf);first|exact .intro|refine G ?_|intro _|refine .mk ?_ ?_|refine AK ?_|refine And.intro (by first|(first|assumption|omega|(simp;done)|(rw[w01];simp;done)|(rw[w01];simp;omega);done)|fail) ?_|fail));all_goals conv=>whnf)
   all_goals first|exact rrBad_le
  ·have hhi:90<(((ch::t).getD (Int.toNat 0) 0).toNat:Int):=by
    have hlo':¬ ((ch.toNat:Nat):Int)<65:=hlo
    show 90<((ch.toNat:Nat):Int)
    omega
   refine fnP_of_vc (nv:=9999) (cu:=[]) fits mixed Tryz.func196 rfl hoB rfl ?_
   ((repeat' ((conv=>whnf);first|exact .intro|refine G ?_|intro _|refine .mk ?_ ?_|refine AK ?_|refine And.intro (by first|(first|assumption|omega|(simp;done)|(rw[w01];simp;done)|(rw[w01];simp;omega);done)|fail) ?_|fail));all_goals conv=>whnf)
   all_goals first|exact rrBad_le
end Go.Proofs.YtfkjhfdpphfjhaaGreatDoor
end
section
namespace Go.Proofs.YtfkjhfdpphfjhaaGreatDoor
open Go Go.ChangeShapes Go.WideShapes Go.ChangeAt Go.RowKit Go.EYtfkjhfdpphfjhaaGreatDoor
set_option linter.unusedVariables false
set_option maxRecDepth 100000
section
variable {B n:Nat} {ds:List D}
theorem sh_int (h:Sh Tryz.prog B n 3 ds):∃ m,ds=[iD m]∧(Lit.int .i64 m).wf=true:=by
 cases n with
 | zero=>exact h.elim
 | succ n=>unfold Sh at h;rw[Tryz.underlying3] at h;exact h
theorem sh_str (h:Sh Tryz.prog B n 9 ds):∃ s,ds=[.str s]∧s.length≤B:=by
 cases n with
 | zero=>exact h.elim
 | succ n=>unfold Sh at h;rw[Tryz.underlying9] at h;exact h
theorem map_of {α:Type} {g:α→List D} {p:α→Prop}:∀ {rows:List (List D)},(∀ r ∈ rows,∃ f,r=g f∧p f)→∃ l:List α,rows=l.map g∧∀ f ∈ l,p f
 | [],_=>⟨[],rfl,fun f hf=>by cases hf⟩
 | r::rows,h=>by
  obtain ⟨f,rfl,hf⟩:=h r (List.mem_cons_self ..)
  obtain ⟨l,rfl,hl⟩:=map_of fun r hr=>h r (List.mem_cons_of_mem _ hr)
  exact ⟨f::l,rfl,fun g hg=>by rcases List.mem_cons.1 hg with rfl|hg;exact hf;exact hl g hg⟩
end
theorem var_maxLen {w:World} (h:w.ShapedOpen Tryz.prog):∃ m:Int,Holds1 w 4 [iD m]:=by
 have h0:((begin Tryz.prog (fun _ _=>0) default).world.heap[4]?).bind Obj.row?=some (#[.int .i64 0],3):=by kernel_rfl
 obtain ⟨m,hm⟩:=cell_of_shapedOpen_int (P:=Tryz.prog) (g:=4) (t:=3) (zero:=#[.int .i64 0]) h (of_decide_eq_true (by kernel_rfl)) h0 rfl (by kernel_rfl) (by kernel_rfl) Tryz.underlying3
 obtain ⟨⟨l⟩,hh,hs,_⟩:=h.1 4 _ _ (of_decide_eq_true (by kernel_rfl)) h0
 match l,hs with
 | [x],_ =>
  have:x=.int .i64 m:=by simpa[World.cell?,hh] using hm
  subst this
  exact ⟨m,[_],⟨_,_,hh⟩,.v _,trivial⟩
end Go.Proofs.YtfkjhfdpphfjhaaGreatDoor
end
section
namespace Go.Proofs.YtfkjhfdpphfjhaaGreatDoor
open Go Go.EYtfkjhfdpphfjhaaGreatDoor
set_option maxRecDepth 100000
variable {gl:List (Nat×List D)}
abbrev zD (z:Int):List D:=[.b (z<0) inferInstance,W z.natAbs]
theorem wlen {m:Nat}:0<(((wD (ws m)).length:Nat):Int)↔m≠0:=by
 have h2:=ws_nil (n:=m)
 rw[wD_len]
 cases hw:ws m with
 | nil=>rw[hw] at h2;have:=h2.1 rfl;simp[this]
 | cons a l=>rw[hw] at h2;exact ⟨fun _ e=>(by cases h2.2 e),fun _=>(by simp)⟩
theorem give_z {p:Prop} (i:Decidable p) (m:Nat) (u v:Value) {z:Int} (hz:(p∧m≠0)↔z<0):Go.EYtfkjhfdpphfjhaaGreatDoor.Fn Tryz.prog gl 120 [.c (.ptr 0 0),.c (.d (.b p i)),.c (.d (W m))] [(0,.var [.d (.v u),.d (.v v)] 118)] 1 (.ret (.c (.ptr 0 0))) [(0,.var [.d (.b (z<0) inferInstance),.d (W m)] 118)] 1 []:=by
 have hw:=wlen (m:=m)
 by_cases hp:p
 ·refine fn_of_vc (nv:=9999) (cu:=[]) fits mixed Tryz.func120 rfl hoB rfl rfl rfl rfl ?_
  ((repeat' ((conv=>whnf);first|exact .intro|refine G ?_|intro _|refine .mk ?_ ?_|refine H ?_|fail));all_goals conv=>whnf)
  ((repeat' first|exact rfl|((conv=>whnf);first|done|exact suL|refine And.intro ?_ ?_|fail));all_goals conv=>whnf)
  exact .inr (.inr (.inr (show LeD _ _ from LeD.b (by rw[hw,← hz];simp[hp]))))
 ·have h0:¬ z<0:=fun h=>hp (hz.2 h).1
  refine fn_of_vc (nv:=9999) (cu:=[]) fits mixed Tryz.func120 rfl hoB rfl rfl rfl rfl ?_
  ((repeat' ((conv=>whnf);first|exact .intro|refine G ?_|intro _|refine .mk ?_ ?_|refine H ?_|fail));all_goals conv=>whnf)
  ((repeat' first|exact rfl|((conv=>whnf);first|done|exact suL|refine And.intro ?_ ?_|fail));all_goals conv=>whnf)
  exact .inr (.inr (.inr (show LeD _ _ from LeD.bf h0)))
theorem NewInt_z {x:Int} (hx:okI x):FnP Tryz.prog gl 69 [iD x] (.imm (zD x)):=by
 have e1:=u64w x
 have e2:=u64w (0 - IntKind.u64.wrap x)
 have set:Go.EYtfkjhfdpphfjhaaGreatDoor.Fn Tryz.prog gl 119 [.c (.ptr 0 0),.c (.d (iD x))] [(0,.var [.d (.v (.bool false)),.d (.v (.slice none 0 0))] 118)] 1 (.ret (.c (.ptr 0 0))) [(0,.var [.d (.b (x<0) inferInstance),.d (W x.natAbs)] 118)] 1 []:=by
  have hg:=fun (d:Decidable (x<0))=>give_z (gl:=gl) d x.natAbs (.bool false) (.slice none 0 0) (z:=x) (by omega)
  by_cases h:x<0
  ·have hw:FnP Tryz.prog gl 184 [.v (.int .u64 (IntKind.u64.wrap (0 - IntKind.u64.wrap x)))] (W x.natAbs):=by
    rw[show IntKind.u64.wrap (0 - IntKind.u64.wrap x)=(x.natAbs:Int) by omega];exact words_d _ (by omega)
   refine fn_of_vc (nv:=9999) (cu:=[]) fits mixed Tryz.func119 rfl hoB rfl rfl rfl rfl ?_
   ((repeat' ((conv=>whnf);first|exact .intro|refine G ?_|intro _|refine C5 (hg _) [0] ?_|refine C1 hw ?_|refine .mk ?_ ?_|refine H ?_|fail));all_goals conv=>whnf)
   ((repeat' first|exact rfl|((conv=>whnf);first|done|exact suL|refine And.intro ?_ ?_|fail));all_goals conv=>whnf)
  ·have hw:FnP Tryz.prog gl 184 [.v (.int .u64 (IntKind.u64.wrap x))] (W x.natAbs):=by
    rw[show IntKind.u64.wrap x=(x.natAbs:Int) by omega];exact words_d _ (by omega)
   refine fn_of_vc (nv:=9999) (cu:=[]) fits mixed Tryz.func119 rfl hoB rfl rfl rfl rfl ?_
   ((repeat' ((conv=>whnf);first|exact .intro|refine G ?_|intro _|refine C5 (hg _) [0] ?_|refine C1 hw ?_|refine .mk ?_ ?_|refine H ?_|fail));all_goals conv=>whnf)
   ((repeat' first|exact rfl|((conv=>whnf);first|done|exact suL|refine And.intro ?_ ?_|fail));all_goals conv=>whnf)
 refine fnP_of_vc (nv:=9999) (cu:=[]) fits mixed Tryz.func69 rfl hoB rfl ?_
 ((repeat' ((conv=>whnf);first|exact .intro|refine G ?_|intro _|refine C5 set [0] ?_|refine .mk ?_ ?_|refine H ?_|fail));all_goals conv=>whnf)
 exact LeD.rfl
def sv (p:Prop) (i:Decidable p) (m:Nat):Int:=@ite _ p i (-(m:Int)) m
theorem sv_t {p:Prop} {i:Decidable p} {m:Nat} (h:p):sv p i m=-(m:Int):=if_pos h
theorem sv_f {p:Prop} {i:Decidable p} {m:Nat} (h:¬ p):sv p i m=m:=if_neg h
theorem sum_z {p q:Prop} (i:Decidable p) (j:Decidable q) (m n:Nat) (hm:(ws m).length≤35184372088832) (hn:(ws n).length≤35184372088832) :
 ∃ (r:Prop) (k:Decidable r) (t:Nat),sv r k t=sv p i m+sv q j n∧FnP Tryz.prog gl 121 [.b p i,W m,.b q j,W n] (.tup [.b r k,W t]):=by
 have ha:=add_d (gl:=gl) m n hm hn
 have hc:=cmp_d (gl:=gl) m n hm hn
 by_cases hpq:p↔q
 ·refine ⟨p,i,m+n,?_,?_⟩
  ·by_cases hp:p
   ·rw[sv_t hp,sv_t hp,sv_t (hpq.1 hp)];omega
   ·rw[sv_f hp,sv_f hp,sv_f (fun h=>hp (hpq.2 h))];omega
  ·refine fnP_of_vc (nv:=9999) (cu:=[]) fits mixed Tryz.func121 rfl hoB rfl ?_
   ((repeat' ((conv=>whnf);first|exact .intro|refine G ?_|intro _|refine C1 ha ?_|refine .mk ?_ ?_|refine H ?_|fail));all_goals conv=>whnf)
   exact LeD.rfl
 ·by_cases hle:n≤m
  ·have hs:=sub_d (gl:=gl) m n hm hle
   have h0:0≤cmpZ m n:=by unfold cmpZ;split <;> (try split) <;> omega
   refine ⟨p,i,m - n,?_,?_⟩
   ·by_cases hp:p
    ·have hq:¬ q:=fun h=>hpq ⟨fun _=>h,fun _=>hp⟩
     rw[sv_t hp,sv_t hp,sv_f hq];omega
    ·have hq:q:=Classical.byContradiction fun h=>hpq ⟨fun h'=>absurd h' hp,fun h'=>absurd h' h⟩
     rw[sv_f hp,sv_f hp,sv_t hq];omega
   ·refine fnP_of_vc (nv:=9999) (cu:=[]) fits mixed Tryz.func121 rfl hoB rfl ?_
    ((repeat' ((conv=>whnf);first|exact .intro|refine G ?_|intro _|refine C1 hc ?_|refine C1 hs ?_|refine .mk ?_ ?_|refine H ?_|fail));all_goals conv=>whnf)
    exact LeD.rfl
  ·have hs:=sub_d (gl:=gl) n m hn (by omega)
   have h0:¬ 0≤cmpZ m n:=by unfold cmpZ;split <;> (try split) <;> omega
   refine ⟨q,j,n - m,?_,?_⟩
   ·by_cases hp:p
    ·have hq:¬ q:=fun h=>hpq ⟨fun _=>h,fun _=>hp⟩
     rw[sv_f hq,sv_t hp,sv_f hq];omega
    ·have hq:q:=Classical.byContradiction fun h=>hpq ⟨fun h'=>absurd h' hp,fun h'=>absurd h' h⟩
     rw[sv_t hq,sv_f hp,sv_t hq];omega
   ·refine fnP_of_vc (nv:=9999) (cu:=[]) fits mixed Tryz.func121 rfl hoB rfl ?_
    ((repeat' ((conv=>whnf);first|exact .intro|refine G ?_|intro _|refine C1 hc ?_|refine C1 hs ?_|refine .mk ?_ ?_|refine H ?_|fail));all_goals conv=>whnf)
    exact LeD.rfl
abbrev zB (z:Int):List (Nat×Blk):=[(0,.var [.d (.b (z<0) inferInstance),.d (W z.natAbs)] 118)]
abbrev zI0:List (Nat×Blk):=[(0,.var [.d (.v (.bool false)),.d (.v (.slice none 0 0))] 118)]
theorem ws2 {n:Nat} (h:n≤18446744073709551615):(ws n).length≤2:=ws_len_le (Nat.lt_of_le_of_lt h (by decide))
theorem sv_flag {r:Prop} {k:Decidable r} {t:Nat} {z:Int} (h:sv r k t=z):t=z.natAbs∧((r∧t≠0)↔z<0):=by
 by_cases hr:r
 ·rw[sv_t hr] at h;exact ⟨by omega,⟨fun hh=>by omega,fun hh=>⟨hr,by omega⟩⟩⟩
 ·rw[sv_f hr] at h;exact ⟨by omega,⟨fun hh=>absurd hh.1 hr,fun hh=>by omega⟩⟩
theorem sv_z (z:Int):sv (z<0) inferInstance z.natAbs=z:=by
 by_cases h:z<0
 ·rw[sv_t h];omega
 ·rw[sv_f h];omega
theorem Add_z {x y:Int} (hx:okI x) (hy:okI y):Go.EYtfkjhfdpphfjhaaGreatDoor.Fn Tryz.prog gl 70 [.c (.ptr 0 0),.c (.d (.imm (zD x))),.c (.d (.imm (zD y)))] zI0 1 (.ret (.c (.ptr 0 0))) (zB (x+y)) 1 []:=by
 have h2:=ws2 (n:=x.natAbs) (by omega)
 have h3:=ws2 (n:=y.natAbs) (by omega)
 obtain ⟨r,k,t,h1,hs⟩:=sum_z (gl:=gl) (p:=x<0) (q:=y<0) inferInstance inferInstance x.natAbs y.natAbs (by omega) (by omega)
 rw[sv_z,sv_z] at h1
 obtain ⟨rfl,h4⟩:=sv_flag h1
 have hg:=give_z (gl:=gl) k _ (.bool false) (.slice none 0 0) h4
 refine fn_of_vc (nv:=9999) (cu:=[]) fits mixed Tryz.func70 rfl hoB rfl rfl rfl rfl ?_
 ((repeat' ((conv=>whnf);first|exact .intro|refine G ?_|intro _|refine C5 hg [0] ?_|refine C1 hs ?_|refine .mk ?_ ?_|refine H ?_|fail));all_goals conv=>whnf)
 ((repeat' first|exact rfl|((conv=>whnf);first|done|exact suL|refine And.intro ?_ ?_|fail));all_goals conv=>whnf)
theorem Sub_z {x y:Int} (hx:okI x) (hy:okI y):Go.EYtfkjhfdpphfjhaaGreatDoor.Fn Tryz.prog gl 71 [.c (.ptr 0 0),.c (.d (.imm (zD x))),.c (.d (.imm (zD y)))] zI0 1 (.ret (.c (.ptr 0 0))) (zB (x - y)) 1 []:=by
 have h2:=ws2 (n:=x.natAbs) (by omega)
 have h3:=ws2 (n:=y.natAbs) (by omega)
 obtain ⟨r,k,t,h1,hs⟩:=sum_z (gl:=gl) (p:=x<0) (q:=¬ y<0) inferInstance inferInstance x.natAbs y.natAbs (by omega) (by omega)
 have h5:sv (¬ y<0) inferInstance y.natAbs=-y:=by
  by_cases h:y<0
  ·rw[sv_f (by omega)];omega
  ·rw[sv_t h];omega
 rw[sv_z,h5,show x + -y=x - y by omega] at h1
 obtain ⟨rfl,h4⟩:=sv_flag h1
 have hg:=give_z (gl:=gl) k _ (.bool false) (.slice none 0 0) h4
 refine fn_of_vc (nv:=9999) (cu:=[]) fits mixed Tryz.func71 rfl hoB rfl rfl rfl rfl ?_
 ((repeat' ((conv=>whnf);first|exact .intro|refine G ?_|intro _|refine C5 hg [0] ?_|refine C1 hs ?_|refine .mk ?_ ?_|refine H ?_|fail));all_goals conv=>whnf)
 ((repeat' first|exact rfl|((conv=>whnf);first|done|exact suL|refine And.intro ?_ ?_|fail));all_goals conv=>whnf)
theorem Mul_z {x y:Int} (hx:okI x) (hy:okI y):Go.EYtfkjhfdpphfjhaaGreatDoor.Fn Tryz.prog gl 72 [.c (.ptr 0 0),.c (.d (.imm (zD x))),.c (.d (.imm (zD y)))] zI0 1 (.ret (.c (.ptr 0 0))) (zB (x * y)) 1 []:=by
 have h2:=ws2 (n:=x.natAbs) (by omega)
 have h3:=ws2 (n:=y.natAbs) (by omega)
 have hm:=mul_d (gl:=gl) x.natAbs y.natAbs (by omega) (by omega)
 rw[← Int.natAbs_mul] at hm
 have h4:((¬ (x<0↔y<0))∧(x * y).natAbs≠0)↔x * y<0:=by
  obtain ⟨s1,s2,s3,s4⟩:=mul_sgn x y
  generalize x * y=z at *
  omega
 have hg:=fun d=>give_z (gl:=gl) d _ (.bool false) (.slice none 0 0) h4
 refine fn_of_vc (nv:=9999) (cu:=[]) fits mixed Tryz.func72 rfl hoB rfl rfl rfl rfl ?_
 ((repeat' ((conv=>whnf);first|exact .intro|refine G ?_|intro _|refine C5 (hg _) [0] ?_|refine C1 hm ?_|refine .mk ?_ ?_|refine H ?_|fail));all_goals conv=>whnf)
 ((repeat' first|exact rfl|((conv=>whnf);first|done|exact suL|refine And.intro ?_ ?_|fail));all_goals conv=>whnf)
theorem IsInt64_z {z:Int} (hz:(ws z.natAbs).length≤35184372088832):FnP Tryz.prog gl 124 [.imm (zD z)] (.b (okI z) inferInstance):=by
 have hl:=length_d (gl:=gl) z.natAbs (by omega)
 have hb:=blen_le (n:=z.natAbs) (k:=63)
 have hb2:=blen_le (n:=z.natAbs) (k:=64)
 have e63:(2:Nat) ^ 63=9223372036854775808:=by decide
 have e64:(2:Nat) ^ 64=18446744073709551616:=by decide
 rw[e63] at hb
 rw[e64] at hb2
 by_cases h64:blen z.natAbs=64
 ·have h0:z.natAbs≠0:=fun e=>by rw[e] at h64;simp[blen] at h64
  have h1:9223372036854775808≤z.natAbs:=by omega
  have h2:z.natAbs<18446744073709551616:=by omega
  obtain ⟨K,k1,k2,k3,k4⟩:=TZB_d (gl:=gl) (.b (z<0) inferInstance) z.natAbs h0 h2
  have k5:=tz63 h1 h2 k2 k3
  rw[h64] at hl
  refine fnP_of_vc (nv:=9999) (cu:=[]) fits mixed Tryz.func124 rfl hoB rfl ?_
  ((repeat' ((conv=>whnf);first|exact .intro|refine G ?_|intro _|refine C1 hl ?_|refine C1 k4 ?_|refine .mk ?_ ?_|refine H ?_|fail));all_goals conv=>whnf)
  all_goals first|exact LeD.bt (by omega)|exact LeD.bf (by omega)|exact LeD.b (by omega)
 ·have h65:¬ (blen z.natAbs:Int)=64:=by omega
  refine fnP_of_vc (nv:=9999) (cu:=[]) fits mixed Tryz.func124 rfl hoB rfl ?_
  ((repeat' ((conv=>whnf);first|exact .intro|refine G ?_|intro _|refine C1 hl ?_|refine .mk ?_ ?_|refine H ?_|fail));all_goals conv=>whnf)
  all_goals first|exact LeD.bt (by omega)|exact LeD.bf (by omega)|exact LeD.b (by omega)
theorem Fits_z {z:Int} (hz:(ws z.natAbs).length≤35184372088832):FnP Tryz.prog gl 74 [.imm (zD z)] (.b (okI z) inferInstance):=by
 have hl:=IsInt64_z (gl:=gl) hz
 refine fnP_of_vc (nv:=9999) (cu:=[]) fits mixed Tryz.func74 rfl hoB rfl ?_
 ((repeat' ((conv=>whnf);first|exact .intro|refine G ?_|intro _|refine C1 hl ?_|refine .mk ?_ ?_|refine H ?_|fail));all_goals conv=>whnf)
 exact LeD.rfl
theorem Int64_z {z:Int} (hz:okI z):FnP Tryz.prog gl 75 [.imm (zD z)] (iD z):=by
 have hl:=Uint64_x (gl:=gl) (.b (z<0) inferInstance) z.natAbs (by omega)
 refine fnP_of_vc (nv:=9999) (cu:=[]) fits mixed Tryz.func75 rfl hoB rfl ?_
 ((repeat' ((conv=>whnf);first|exact .intro|refine G ?_|intro _|refine C1 hl ?_|refine .mk ?_ ?_|refine H ?_|fail));all_goals conv=>whnf)
 all_goals exact LeD.of (congrArg iD (by (try rw[i64w]);(try rw[i64w]);omega))
theorem plain_d (n:Nat) (hn:n<18446744073709551616):FnP Tryz.prog gl 222 [W n] (.v (.int .u64 n)):=by
 by_cases h0:n=0
 ·subst h0
  simp only[W,ws_zero,wD,List.map]
  refine fnP_of_vc (nv:=9999) (cu:=[]) fits mixed Tryz.func222 rfl hoB rfl ?_
  ((repeat' ((conv=>whnf);first|exact .intro|refine G ?_|intro _|refine .mk ?_ ?_|refine AK ?_|refine AO ?_|fail));all_goals conv=>whnf)
  exact LeD.rfl
 by_cases h1:n<B32
 ·have e:ws n=[n]:=by rw[ws_pos h0,Nat.div_eq_of_lt h1,Nat.mod_eq_of_lt h1,ws_zero]
  simp only[W,e,wD,List.map]
  refine fnP_of_vc (nv:=9999) (cu:=[]) fits mixed Tryz.func222 rfl hoB rfl ?_
  ((repeat' ((conv=>whnf);first|exact .intro|refine G ?_|intro _|refine .mk ?_ ?_|refine AK ?_|refine AO ?_|fail));all_goals conv=>whnf)
  refine ⟨_,rfl,?_⟩
  ((repeat' ((conv=>whnf);first|exact .intro|refine G ?_|intro _|refine .mk ?_ ?_|refine AK ?_|refine AO ?_|fail));all_goals conv=>whnf)
  exact LeD.of (by rw[w64 hn];rfl)
 have h2:n / B32<B32:=by simp only[B32] at *;omega
 have h3:n % B32<B32:=Nat.mod_lt _ (by decide)
 have e:ws n=[n % B32,n / B32]:=by rw[ws_pos h0,ws_pos (n:=n / B32) (by simp only[B32] at *;omega),Nat.mod_eq_of_lt h2,Nat.div_eq_of_lt h2,ws_zero]
 have ec:n=n % B32+B32 * (n / B32):=(Nat.mod_add_div n B32).symm
 generalize n % B32=a at *
 generalize n / B32=b at *
 simp only[W,e,wD,List.map]
 refine fnP_of_vc (nv:=9999) (cu:=[]) fits mixed Tryz.func222 rfl hoB rfl ?_
 ((repeat' ((conv=>whnf);first|exact .intro|refine G ?_|intro _|refine .mk ?_ ?_|refine AK ?_|refine AO ?_|fail));all_goals conv=>whnf)
 refine ⟨_,rfl,?_⟩
 ((repeat' ((conv=>whnf);first|exact .intro|refine G ?_|intro _|refine .mk ?_ ?_|refine AK ?_|refine AO ?_|fail));all_goals conv=>whnf)
 refine ⟨_,rfl,?_⟩
 ((repeat' ((conv=>whnf);first|exact .intro|refine G ?_|intro _|refine .mk ?_ ?_|refine AK ?_|refine AO ?_|fail));all_goals conv=>whnf)
 refine LeD.of ?_
 show D.v (.int .u64 (IntKind.u64.wrap ((BitVec.ofInt 64 (IntKind.u64.wrap (a:Int)) ||| BitVec.ofInt 64 (IntKind.u64.wrap (IntKind.u64.wrap (b:Int) * 4294967296))).toNat:Int)))=_
 have h2':=h2
 have h3':=h3
 simp only[B32] at h2' h3'
 rw[w64 (x:=a) (by omega),w64 (x:=b) (by omega),show (b:Int) * 4294967296=((b * 4294967296:Nat):Int) by omega,w64 (x:=b * 4294967296) (by omega),or32 h3 h2,← ec,w64 hn]
theorem nilW_W0:LeD (.v (.slice none 0 0)) (W 0):=by rw[W,ws_zero];exact nilW_le 1
theorem div_d (m n:Nat) (hm:m<18446744073709551616) (hn:n<18446744073709551616) (h0:n≠0):FnP Tryz.prog gl 189 [W m,W n] (.tup [W (m / n),W (m % n)]):=by
 have wa:=wD_len (ws m)
 have wb:=wD_len (ws n)
 have h2:=ws2 (n:=m) (by omega)
 have h3:=ws2 (n:=n) (by omega)
 have hc:=cmp_d (gl:=gl) m n (by omega) (by omega)
 have ht:=twin_d (gl:=gl) (ws m) (by omega)
 have hw:=wlen (m:=n)
 have hl0:¬ (((wD (ws n)).length:Nat):Int)=0:=by have:=hw.2 h0;omega
 by_cases hlt:m<n
 ·have hz:cmpZ m n=-1:=cmpZ_lt hlt
  rw[hz] at hc
  rw[Nat.div_eq_of_lt hlt,Nat.mod_eq_of_lt hlt]
  refine fnP_of_vc (nv:=9999) (cu:=[]) fits mixed Tryz.func189 rfl hoB rfl ?_
  ((repeat' ((conv=>whnf);first|exact .intro|refine G ?_|intro _|refine C1 hc ?_|refine C1 ht ?_|refine .mk ?_ ?_|refine H ?_|fail));all_goals conv=>whnf)
  exact LeD.tup ⟨nilW_W0,LeD.rfl,trivial⟩
 ·have hz:¬ cmpZ m n<0:=by unfold cmpZ;split <;> (try split) <;> omega
  have hl2:(((wD (ws m)).length:Nat):Int)≤2:=by rw[wa];omega
  have p1:=plain_d (gl:=gl) m hm
  have p2:=plain_d (gl:=gl) n hn
  have hq:=Nat.div_le_self m n
  have hr:=Nat.mod_lt m (Nat.pos_of_ne_zero h0)
  have e1:IntKind.u64.wrap ((m:Int).tdiv (n:Int))=((m / n:Nat):Int):=by
   rw[Int.tdiv_eq_ediv_of_nonneg (by omega),← Int.natCast_ediv,w64 (by omega)]
  have e2:(m:Int).tmod (n:Int)=((m % n:Nat):Int):=by
   rw[Int.tmod_eq_emod_of_nonneg (by omega),← Int.natCast_emod]
  have w1:=words_d (gl:=gl) (m / n) (by omega)
  have w2:=words_d (gl:=gl) (m % n) (by omega)
  rw[← e1] at w1
  rw[← e2] at w2
  have hn0:¬ (n:Int)=0:=by omega
  refine fnP_of_vc (nv:=9999) (cu:=[]) fits mixed Tryz.func189 rfl hoB rfl ?_
  ((repeat' ((conv=>whnf);first|exact .intro|refine G ?_|intro _|refine C1 hc ?_|refine C1 p1 ?_|refine C1 p2 ?_|refine C1 w1 ?_|refine C1 w2 ?_|refine .mk ?_ ?_|refine H ?_|fail));all_goals conv=>whnf)
  exact LeD.rfl
theorem tdiv_sgn {x y:Int} (_hy:y≠0):((¬ (x<0↔y<0))∧x.natAbs / y.natAbs≠0)↔x.tdiv y<0:=by
 have h1:(x.tdiv y).natAbs=x.natAbs / y.natAbs:=Int.natAbs_tdiv x y
 have h2:(x<0↔y<0)→0≤x.tdiv y:=fun h=>by
  by_cases hx:x<0
  ·exact Int.tdiv_nonneg_of_nonpos_of_nonpos (by omega) (by omega)
  ·exact Int.tdiv_nonneg (by omega) (by omega)
 have h3:¬ (x<0↔y<0)→x.tdiv y≤0:=fun h=>by
  by_cases hx:x<0
  ·have:=Int.tdiv_nonneg (a:=-x) (b:=y) (by omega) (by omega)
   rw[Int.neg_tdiv] at this;omega
  ·have:=Int.tdiv_nonneg (a:=x) (b:=-y) (by omega) (by omega)
   rw[Int.tdiv_neg] at this;omega
 rw[← h1]
 generalize x.tdiv y=q at *
 omega
theorem tmod_sgn (x:Int) {y:Int}:(x<0∧x.natAbs % y.natAbs≠0)↔x.tmod y<0:=by
 have h1:(x.tmod y).natAbs=x.natAbs % y.natAbs:=Int.natAbs_tmod x y
 have h2:0≤x→0≤x.tmod y:=fun h=>Int.tmod_nonneg y h
 have h3:x<0→x.tmod y≤0:=fun h=>by
  have:=Int.tmod_nonneg y (show 0≤-x by omega)
  rw[Int.neg_tmod] at this;omega
 rw[← h1]
 generalize x.tmod y=q at *
 omega
theorem QuoRem_z {x y:Int} (hx:okI x) (hy:okI y) (h0:y≠0):Go.EYtfkjhfdpphfjhaaGreatDoor.Fn Tryz.prog gl 123 [.c (.ptr 0 0),.c (.d (.imm (zD x))),.c (.d (.imm (zD y))),.c (.ptr 1 0)] [(0,.var [.d (.v (.bool false)),.d (.v (.slice none 0 0))] 118),(1,.var [.d (.v (.bool false)),.d (.v (.slice none 0 0))] 118)] 2 (.ret (.tup [(false,[.ptr 0 0]),(false,[.ptr 1 0])])) [(0,.var [.d (.b (x.tdiv y<0) inferInstance),.d (W (x.tdiv y).natAbs)] 118),(1,.var [.d (.b (x.tmod y<0) inferInstance),.d (W (x.tmod y).natAbs)] 118)] 2 []:=by
 have hd:=div_d (gl:=gl) x.natAbs y.natAbs (by omega) (by omega) (by omega)
 have h1:(x.tdiv y).natAbs=x.natAbs / y.natAbs:=Int.natAbs_tdiv x y
 have h2:(x.tmod y).natAbs=x.natAbs % y.natAbs:=Int.natAbs_tmod x y
 have hg:=fun d=>give_z (gl:=gl) d (x.natAbs / y.natAbs) (.bool false) (.slice none 0 0) (tdiv_sgn (x:=x) h0)
 have hr:=fun d=>give_z (gl:=gl) d (x.natAbs % y.natAbs) (.bool false) (.slice none 0 0) (tmod_sgn x (y:=y))
 rw[← h1] at hd hg
 rw[← h2] at hd hr
 refine fn_of_vc (nv:=9999) (cu:=[]) fits mixed Tryz.func123 rfl hoB rfl rfl rfl rfl ?_
 ((repeat' ((conv=>whnf);first|exact .intro|refine G ?_|intro _|refine C5 (hg _) [0] ?_|refine C5 (hr _) [1] ?_|refine C1 hd ?_|refine .mk ?_ ?_|refine H ?_|fail));all_goals conv=>whnf)
 ((repeat' first|exact rfl|((conv=>whnf);first|done|exact suL|refine And.intro ?_ ?_|fail));all_goals conv=>whnf)
theorem Quo_z {x y:Int} (hx:okI x) (hy:okI y) (h0:y≠0):Go.EYtfkjhfdpphfjhaaGreatDoor.Fn Tryz.prog gl 73 [.c (.ptr 0 0),.c (.d (.imm (zD x))),.c (.d (.imm (zD y)))] zI0 1 (.ret (.c (.ptr 0 0))) (zB (x.tdiv y)) 1 []:=by
 have hq:=QuoRem_z (gl:=gl) hx hy h0
 refine fn_of_vc (nv:=9999) (cu:=[]) fits mixed Tryz.func73 rfl hoB rfl rfl rfl rfl ?_
 ((repeat' ((conv=>whnf);first|exact .intro|refine G ?_|intro _|refine C5 hq [0,1] ?_|refine .mk ?_ ?_|refine H ?_|fail));all_goals conv=>whnf)
 ((repeat' first|exact rfl|((conv=>whnf);first|done|exact suL|refine And.intro ?_ ?_|fail));all_goals conv=>whnf)
theorem rr8 {a b:Int} (ha:okI a) (hb:okI b):FnP Tryz.prog gl 42 [iD 8,iD a,iD b] (if okI (a+b) then vlD 1 (a+b) [] else vlD 4 5 []):=by
 have c1:=NewInt_z (gl:=gl) ha
 have c2:=NewInt_z (gl:=gl) hb
 have c3:=Add_z (gl:=gl) ha hb
 have hbig:(a+b).natAbs<B32 ^ 4:=Nat.lt_of_le_of_lt (show (a+b).natAbs≤18446744073709551616 by omega) (by decide)
 have c4:=Fits_z (gl:=gl) (z:=a+b) (by have:=ws_len_le hbig;omega)
 by_cases h:okI (a+b)
 ·have c5:=Int64_z (gl:=gl) h
  rw[if_pos h]
  refine fnP_of_vc (nv:=9999) (cu:=[]) fits mixed Tryz.func42 rfl hoB rfl ?_
  ((repeat' ((conv=>whnf);first|exact .intro|refine G ?_|intro _|refine C5 c3 [1] ?_|refine C1 c1 ?_|refine C1 c2 ?_|refine C1 c4 ?_|refine C1 c5 ?_|refine C1 (rNum_d _) ?_|refine C1 (rBad_d _) ?_|refine .mk ?_ ?_|refine H ?_|fail));all_goals conv=>whnf)
  all_goals exact LeD.rfl
 ·rw[if_neg h]
  refine fnP_of_vc (nv:=9999) (cu:=[]) fits mixed Tryz.func42 rfl hoB rfl ?_
  ((repeat' ((conv=>whnf);first|exact .intro|refine G ?_|intro _|refine C5 c3 [1] ?_|refine C1 c1 ?_|refine C1 c2 ?_|refine C1 c4 ?_|refine C1 (rNum_d _) ?_|refine C1 (rBad_d _) ?_|refine .mk ?_ ?_|refine H ?_|fail));all_goals conv=>whnf)
  all_goals exact LeD.rfl
theorem rr9 {a b:Int} (ha:okI a) (hb:okI b):FnP Tryz.prog gl 42 [iD 9,iD a,iD b] (if okI (a - b) then vlD 1 (a - b) [] else vlD 4 5 []):=by
 have c1:=NewInt_z (gl:=gl) ha
 have c2:=NewInt_z (gl:=gl) hb
 have c3:=Sub_z (gl:=gl) ha hb
 have hbig:(a - b).natAbs<B32 ^ 4:=Nat.lt_of_le_of_lt (show (a - b).natAbs≤18446744073709551616 by omega) (by decide)
 have c4:=Fits_z (gl:=gl) (z:=a - b) (by have:=ws_len_le hbig;omega)
 by_cases h:okI (a - b)
 ·have c5:=Int64_z (gl:=gl) h
  rw[if_pos h]
  refine fnP_of_vc (nv:=9999) (cu:=[]) fits mixed Tryz.func42 rfl hoB rfl ?_
  ((repeat' ((conv=>whnf);first|exact .intro|refine G ?_|intro _|refine C5 c3 [1] ?_|refine C1 c1 ?_|refine C1 c2 ?_|refine C1 c4 ?_|refine C1 c5 ?_|refine C1 (rNum_d _) ?_|refine C1 (rBad_d _) ?_|refine .mk ?_ ?_|refine H ?_|fail));all_goals conv=>whnf)
  all_goals exact LeD.rfl
 ·rw[if_neg h]
  refine fnP_of_vc (nv:=9999) (cu:=[]) fits mixed Tryz.func42 rfl hoB rfl ?_
  ((repeat' ((conv=>whnf);first|exact .intro|refine G ?_|intro _|refine C5 c3 [1] ?_|refine C1 c1 ?_|refine C1 c2 ?_|refine C1 c4 ?_|refine C1 (rNum_d _) ?_|refine C1 (rBad_d _) ?_|refine .mk ?_ ?_|refine H ?_|fail));all_goals conv=>whnf)
  all_goals exact LeD.rfl
theorem rr10 {a b:Int} (ha:okI a) (hb:okI b):FnP Tryz.prog gl 42 [iD 10,iD a,iD b] (if okI (a * b) then vlD 1 (a * b) [] else vlD 4 5 []):=by
 have c1:=NewInt_z (gl:=gl) ha
 have c2:=NewInt_z (gl:=gl) hb
 have c3:=Mul_z (gl:=gl) ha hb
 have hbig:(a * b).natAbs<B32 ^ 4:=by rw[Int.natAbs_mul];exact Nat.lt_of_le_of_lt (Nat.mul_le_mul (show a.natAbs≤9223372036854775808 by omega) (show b.natAbs≤9223372036854775808 by omega)) (by decide)
 have c4:=Fits_z (gl:=gl) (z:=a * b) (by have:=ws_len_le hbig;omega)
 by_cases h:okI (a * b)
 ·have c5:=Int64_z (gl:=gl) h
  rw[if_pos h]
  refine fnP_of_vc (nv:=9999) (cu:=[]) fits mixed Tryz.func42 rfl hoB rfl ?_
  ((repeat' ((conv=>whnf);first|exact .intro|refine G ?_|intro _|refine C5 c3 [1] ?_|refine C1 c1 ?_|refine C1 c2 ?_|refine C1 c4 ?_|refine C1 c5 ?_|refine C1 (rNum_d _) ?_|refine C1 (rBad_d _) ?_|refine .mk ?_ ?_|refine H ?_|fail));all_goals conv=>whnf)
  all_goals exact LeD.rfl
 ·rw[if_neg h]
  refine fnP_of_vc (nv:=9999) (cu:=[]) fits mixed Tryz.func42 rfl hoB rfl ?_
  ((repeat' ((conv=>whnf);first|exact .intro|refine G ?_|intro _|refine C5 c3 [1] ?_|refine C1 c1 ?_|refine C1 c2 ?_|refine C1 c4 ?_|refine C1 (rNum_d _) ?_|refine C1 (rBad_d _) ?_|refine .mk ?_ ?_|refine H ?_|fail));all_goals conv=>whnf)
  all_goals exact LeD.rfl
theorem rr11 {a b:Int} (ha:okI a) (hb:okI b) (h0:¬ b=0):FnP Tryz.prog gl 42 [iD 11,iD a,iD b] (if okI (a.tdiv b) then vlD 1 (a.tdiv b) [] else vlD 4 5 []):=by
 have c1:=NewInt_z (gl:=gl) ha
 have c2:=NewInt_z (gl:=gl) hb
 have c3:=Quo_z (gl:=gl) ha hb h0
 have hbig:(a.tdiv b).natAbs<B32 ^ 4:=Nat.lt_of_le_of_lt (Nat.le_trans (tdiv_abs_le a b) (show a.natAbs≤9223372036854775808 by omega)) (by decide)
 have c4:=Fits_z (gl:=gl) (z:=a.tdiv b) (by have:=ws_len_le hbig;omega)
 by_cases h:okI (a.tdiv b)
 ·have c5:=Int64_z (gl:=gl) h
  rw[if_pos h]
  refine fnP_of_vc (nv:=9999) (cu:=[]) fits mixed Tryz.func42 rfl hoB rfl ?_
  ((repeat' ((conv=>whnf);first|exact .intro|refine G ?_|intro _|refine C5 c3 [1] ?_|refine C1 c1 ?_|refine C1 c2 ?_|refine C1 c4 ?_|refine C1 c5 ?_|refine C1 (rNum_d _) ?_|refine C1 (rBad_d _) ?_|refine .mk ?_ ?_|refine H ?_|fail));all_goals conv=>whnf)
  all_goals exact LeD.rfl
 ·rw[if_neg h]
  refine fnP_of_vc (nv:=9999) (cu:=[]) fits mixed Tryz.func42 rfl hoB rfl ?_
  ((repeat' ((conv=>whnf);first|exact .intro|refine G ?_|intro _|refine C5 c3 [1] ?_|refine C1 c1 ?_|refine C1 c2 ?_|refine C1 c4 ?_|refine C1 (rNum_d _) ?_|refine C1 (rBad_d _) ?_|refine .mk ?_ ?_|refine H ?_|fail));all_goals conv=>whnf)
  all_goals exact LeD.rfl
theorem rr11_0 (a:Int) (ha:okI a):FnP Tryz.prog gl 42 [iD 11,iD a,iD 0] (vlD 4 1 []):=by
 have c1:=NewInt_z (gl:=gl) ha
 have c2:=NewInt_z (gl:=gl) (x:=0) (by decide)
 refine fnP_of_vc (nv:=9999) (cu:=[]) fits mixed Tryz.func42 rfl hoB rfl ?_
 ((repeat' ((conv=>whnf);first|exact .intro|refine G ?_|intro _|refine C1 c1 ?_|refine C1 c2 ?_|refine C1 (rNum_d _) ?_|refine C1 (rBad_d _) ?_|refine .mk ?_ ?_|refine H ?_|fail));all_goals conv=>whnf)
 all_goals exact LeD.rfl
end Go.Proofs.YtfkjhfdpphfjhaaGreatDoor
end
