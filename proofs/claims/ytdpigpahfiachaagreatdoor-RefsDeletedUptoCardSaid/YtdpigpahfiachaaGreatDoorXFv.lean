/- Proved: a part of what the law is proved with (the reckoner, contracts of functions, plain laws). Conditions: as each says. -/
import Derived.Lib.AppendIntMem
import Derived.Lib.LaidU8
import Derived.Test.YtdpigpahfiachaaGreatDoorXRa
import Derived.Test.YtdpigpahfiachaaGreatDoorXSf
section
namespace Go.Proofs.YtdpigpahfiachaaGreatDoor
open Go Go.EYtdpigpahfiachaaGreatDoor
set_option maxRecDepth 100000
variable {gl:List (Nat×List D)}
theorem decDigits_small {u:Nat} (h:u<10):Lib.decDigits u=[UInt8.ofNat (48+u)]:=by rw[Lib.decDigits];simp[h]
theorem decDigits_big {u:Nat} (h:¬ u<10):Lib.decDigits u=Lib.decDigits (u / 10)++[UInt8.ofNat (48+u % 10)]:=by rw[Lib.decDigits];simp[h]
theorem Itoa_w (te:TypeId) (pe:Value) {n:Int} (h:okI n):FnP Tryz.prog (glV te pe) 157 [iD n] (.str (Lib.itoa n)) :=
 FnP.of_below (xs:=[.int .i64 n]) (v:=.string ⟨(Lib.itoa n).toArray⟩) hoB (fun M w ys hd=>by
  obtain ⟨y,rfl,h1⟩:=All2.one_iff.1 hd
  rw[DenD.v_inv h1]) (fun _ _=>.str _) (fun M w hg=>by
  obtain ⟨_,xs,⟨t,f,hx⟩,_,hd⟩:=hg 6 _ rfl
  have ex:xs=Lib.pow10Tab.map fun z=>Value.int .u64 z:=by
   have key:∀ (l:List Int) (xs:List Value),DenL M w (l.map fun z=>D.v (.int .u64 z)) xs→xs=l.map fun z=>Value.int .u64 z:=by
    intro l
    induction l with
    | nil=>intro xs h;cases xs with|nil=>rfl|cons _ _=>exact h.elim
    | cons a l ih=>intro xs h;cases xs with|nil=>exact h.elim|cons x xs=>rw[DenD.v_inv h.1,ih xs h.2];rfl
   exact key _ _ hd
  have ht:Lib.TabIs Tryz.prog w "internal/strconv.uint64pow10" .u64 Lib.pow10Tab:=by
   have hn:Tryz.prog.globalNamed "internal/strconv.uint64pow10" = some 6:=by kernel_rfl
   show World.var? _ _ _=_
   unfold World.var?
   rw[hn,← ex]
   show (match w.heap[6]? with|some (.cells cs _ _)=>some cs|_=>none)=_
   rw[hx]
  have h:=Any.strconv_Itoa Tryz.laysM171 n h.1 h.2 w ht
  refine h.mono ?_
  rintro e w' ⟨rfl,k,os,rfl⟩
  exact ⟨rfl,Lib.below_grow w.heap.size w (Nat.le_refl _) k os⟩)
def show3 (k n:Int) (s:List UInt8):List UInt8:=if k=1 then Lib.itoa n else if k=2 then s else if k=3 then (if n=1 then tT else tF) else if k=4 then (if 0<n∧n<7 then tx.getD n.toNat [] else []) else []
theorem tx_cut {k:Nat} (h:k<7):cut (tx.map D.str) (k * 1) 1=[.str (tx.getD k [])]:=by
 have h':k<(tx.map D.str).length:=h
 have h2:k<tx.length:=h
 unfold cut
 rw[Nat.mul_one,List.drop_eq_getElem_cons h',List.take_succ_cons,List.take_zero,List.getElem_map]
 simp[List.getD,List.getElem?_eq_getElem h2]
theorem Show_3 (te:TypeId) (pe:Value) (k n:Int) (s:List UInt8) (hn:okI n):FnP Tryz.prog (glV te pe) 112 [vlD k n s] (.str (show3 k n s)):=by
 unfold show3
 by_cases h1:k=1
 ·subst h1
  refine fnP_of_vc (nv:=9999) (cu:=[]) fits mixed Tryz.func112 rfl hoB rfl ?_
  ((repeat' ((conv=>whnf);first|exact .intro|refine .ya ?_|refine .na ?_|refine .ys ?_|refine .ns ?_|refine .neg (fun _=>?_) (fun _=>?_)|refine .mk (fun _=>?_) (fun _=>?_)|refine .inl (.inl (X1 (Itoa_w te pe hn) ?_))|refine .inl (X1 (Itoa_w te pe hn) ?_)|refine X1 (Itoa_w te pe hn) ?_|refine .mk ?_ ?_|refine AK ?_|refine AT ?_|fail));all_goals conv=>whnf)
  exact LeD.rfl
 ·by_cases h2:k=2
  ·subst h2
   refine fnP_of_vc (nv:=9999) (cu:=[]) fits mixed Tryz.func112 rfl hoB rfl ?_
   ((repeat' ((conv=>whnf);first|exact .intro|refine .ya ?_|refine .na ?_|refine .ys ?_|refine .ns ?_|refine .neg (fun _=>?_) (fun _=>?_)|refine .mk (fun _=>?_) (fun _=>?_)|refine .mk ?_ ?_|refine AK ?_|refine AT ?_|fail));all_goals conv=>whnf)
   exact LeD.rfl
  ·by_cases h3:k=3
   ·subst h3
    by_cases h4:n=1
    ·subst h4
     refine fnP_of_vc (nv:=9999) (cu:=[]) fits mixed Tryz.func112 rfl hoB rfl ?_
     ((repeat' ((conv=>whnf);first|exact .intro|refine .ya ?_|refine .na ?_|refine .ys ?_|refine .ns ?_|refine .neg (fun _=>?_) (fun _=>?_)|refine .mk (fun _=>?_) (fun _=>?_)|refine .mk ?_ ?_|refine AK ?_|refine AT ?_|fail));all_goals conv=>whnf)
     exact LeD.rfl
    ·refine fnP_of_vc (nv:=9999) (cu:=[]) fits mixed Tryz.func112 rfl hoB rfl ?_
     ((repeat' ((conv=>whnf);first|exact .intro|refine .ya ?_|refine .na ?_|refine .ys ?_|refine .ns ?_|refine .neg (fun _=>?_) (fun _=>?_)|refine .mk (fun _=>?_) (fun _=>?_)|refine .mk ?_ ?_|refine AK ?_|refine AT ?_|fail));all_goals conv=>whnf)
     simp only[h4,if_false]
     exact LeD.rfl
   ·by_cases h4:k=4
    ·subst h4
     by_cases h5:0<n∧n<7
     ·obtain ⟨h6,h7⟩:=h5
      refine fnP_of_vc (nv:=9999) (cu:=[]) fits mixed Tryz.func112 rfl hoB rfl ?_
      ((repeat' ((conv=>whnf);first|exact .intro|refine .ya ?_|refine .na ?_|refine .ys ?_|refine .ns ?_|refine .neg (fun _=>?_) (fun _=>?_)|refine .mk (fun _=>?_) (fun _=>?_)|refine .mk ?_ ?_|refine AK ?_|refine AT ?_|fail));all_goals conv=>whnf)
      refine ⟨_,tx_cut (k:=n.toNat) (by omega),?_⟩
      ((repeat' ((conv=>whnf);first|exact .intro|refine .ya ?_|refine .na ?_|refine .ys ?_|refine .ns ?_|refine .neg (fun _=>?_) (fun _=>?_)|refine .mk (fun _=>?_) (fun _=>?_)|refine .mk ?_ ?_|refine AK ?_|refine AT ?_|fail));all_goals conv=>whnf)
      simp only[h6,h7,and_self,if_true]
      exact LeD.rfl
     ·refine fnP_of_vc (nv:=9999) (cu:=[]) fits mixed Tryz.func112 rfl hoB rfl ?_
      ((repeat' ((conv=>whnf);first|exact .intro|refine .ya ?_|refine .na ?_|refine .ys ?_|refine .ns ?_|refine .neg (fun _=>?_) (fun _=>?_)|refine .mk (fun _=>?_) (fun _=>?_)|refine .mk ?_ ?_|refine AK ?_|refine AT ?_|fail));all_goals conv=>whnf)
      all_goals first
       | (exfalso;omega)
       | (simp only[h5,if_false];exact LeD.rfl)
    ·refine fnP_of_vc (nv:=9999) (cu:=[]) fits mixed Tryz.func112 rfl hoB rfl ?_
     ((repeat' ((conv=>whnf);first|exact .intro|refine .ya ?_|refine .na ?_|refine .ys ?_|refine .ns ?_|refine .neg (fun _=>?_) (fun _=>?_)|refine .mk (fun _=>?_) (fun _=>?_)|refine .mk ?_ ?_|refine AK ?_|refine AT ?_|fail));all_goals conv=>whnf)
     all_goals first
      | (exfalso;omega)
      | (simp only[h1,h2,h3,h4,if_false];exact LeD.rfl)
theorem dec_len:∀ (k u:Nat),u<10 ^ (k+1)→(Lib.decDigits u).length≤k+1
 | 0,u,h=>by rw[decDigits_small (by simpa using h)];exact Nat.le_refl _
 | k+1,u,h=>by
  by_cases hu:u<10
  ·rw[decDigits_small hu];simp
  ·have:=dec_len k (u / 10) (by rw[Nat.pow_succ] at h;omega)
   rw[decDigits_big hu];simp;omega
theorem itoa_len {n:Int} (h:okI n):(Lib.itoa n).length≤20:=by
 unfold Lib.itoa
 have h1:n.natAbs<10 ^ (18+1):=Nat.lt_of_le_of_lt (show n.natAbs≤9223372036854775808 by omega) (by decide)
 have h2:n.toNat<10 ^ (18+1):=Nat.lt_of_le_of_lt (show n.toNat≤9223372036854775808 by omega) (by decide)
 split
 ·have:=dec_len 18 n.natAbs h1;simp;omega
 ·have:=dec_len 18 n.toNat h2;omega
end Go.Proofs.YtdpigpahfiachaaGreatDoor
end
section
namespace Go.Proofs.YtdpigpahfiachaaGreatDoor
open Go Go.ChangeShapes Go.WideShapes Go.ChangeAt Go.RowKit Go.EYtdpigpahfiachaaGreatDoor
set_option linter.unusedVariables false
set_option maxRecDepth 100000
theorem var_cells {w:World} {n:String} {g:Nat} {cs:Array Value} (hg:Tryz.prog.globalNamed n=some g) (h:w.var? Tryz.prog n=some cs):∃ t f,w.heap[g]?=some (Obj.cells cs t f):=by
 unfold World.var? at h
 rw[hg] at h
 simp only[Option.bind_some] at h
 split at h
 ·rename_i c t f hc;cases h;exact ⟨t,f,hc⟩
 ·cases h
theorem cells_of_strs {H:Type} {enc:TypeId×Value→H} {P:Program} {w:World} {base:Nat} {sp:Nat→Bool} {held:Bool} {fuel:Nat} {t e:TypeId} {n:Nat} {cs:List Value} {zs:List (List UInt8)} {p:List MemPlace}
 (ht:P.underlying t=some (.array n e)) (he:P.underlying e=some .string) (hce:P.cellsOf e=1) (hct:P.cellsOf t=n)
 (h:DataW.trod enc P w base sp held fuel t cs=some (.agg (zs.map fun z=>.lit (.string z)),p)):cs=zs.map fun z=>Value.string ⟨z.toArray⟩:=by
 cases fuel with
 | zero=>simp[DataW.trod] at h
 | succ fuel =>
  simp only[DataW.trod,ht,hce,hct,Nat.mul_one] at h
  split at h
  ·rename_i hl
   obtain ⟨xs,hm,hx⟩:=Option.map_eq_some_iff.1 h
   have hxs:xs.map (·.1)=zs.map fun z=>(DataW.lit (.string z):DataW H):=by
    have:=congrArg Prod.fst hx
    simpa using this
   have hxl:xs.length=n:=by simpa using Lib.mapM_length hm
   have hzl:zs.length=n:=by
    have:=congrArg List.length hxs
    simp at this
    omega
   apply List.ext_getElem?
   intro i
   by_cases hi:i<n
   ·obtain ⟨b,hb,hf⟩:=Lib.mapM_at hm i i (by simp[hi])
    obtain ⟨z,hc,rfl,_⟩:=DataW.trod_string he hf
    have h1:cs[i]?=some (.string z):=by
     have:=congrArg (·[0]?) hc
     simpa[List.getElem?_take,List.getElem?_drop] using this
    have h2:(xs.map (·.1))[i]?=some (DataW.lit (.string z.data.toList):DataW H):=by simp[hb]
    rw[hxs] at h2
    simp only[List.getElem?_map,Option.map_eq_some_iff,DataW.lit.injEq,Lit.string.injEq] at h2
    obtain ⟨z',hz',rfl⟩:=h2
    simp[h1,hz']
   ·rw[List.getElem?_eq_none (by omega),List.getElem?_eq_none (by simp;omega)]
  ·cases h
theorem all2_map {M:Nat→Prop} {w:World} {α:Type} {f:α→D} {g:α→Value} (h:∀ a,DenD M w (f a) (g a)):∀ l:List α,DenL M w (l.map f) (l.map g)
 | []=>trivial
 | a::l=>⟨h a,all2_map h l⟩
theorem lt_of_cells {w:World} {g:Nat} {cs:Array Value} (h:∃ t f,w.heap[g]?=some (Obj.cells cs t f)):g<w.heap.size:=by
 obtain ⟨t,f,h⟩:=h
 exact (Array.getElem?_eq_some_iff.1 h).1
def Holds1 (w:World) (g:Nat) (l:List D):Prop:=∃ xs:List Value,(∃ t f,w.heap[g]?=some (Obj.cells xs.toArray t f))∧DenL (fun _=>False) w l xs
theorem Glob.cons {w:World} {g:Nat} {l:List D} {gl:List (Nat×List D)} (h:Holds1 w g l) (hg:Glob gl (fun _=>False) w):Glob ((g,l)::gl) (fun _=>False) w:=by
 intro k m hl
 rw[look_cons] at hl
 split at hl
 ·rename_i e;cases hl;rw[← e]
  obtain ⟨xs,h1,h2⟩:=h
  exact ⟨fun h=>h,xs,h1,lt_of_cells h1,h2⟩
 ·exact hg k m hl
theorem var_texts {w:World} (h1:Lib.VarReads Tryz.prog w "sccsettle/value.texts" (.agg (tx.map fun z=>.lit (.string z)))):Holds1 w 2 (tx.map D.str):=by
 obtain ⟨g,t,cs,fuel,p,hg,ht,hv,hd⟩:=h1
 have e:(some g:Option Nat)=some 2:=hg.symm.trans (show Tryz.prog.globalNamed "sccsettle/value.texts" = some 2 by kernel_rfl)
 cases e
 have e:(some t:Option Nat)=some 194:=ht.symm.trans (by kernel_rfl)
 cases e
 have c1:=cells_of_strs (n:=7) (e:=9) Tryz.underlying194 Tryz.underlying9 (by kernel_rfl) (by kernel_rfl) hd
 have b1:=var_cells hg hv
 have c1':cs=(tx.map fun z=>Value.string ⟨z.toArray⟩).toArray:=by rw[← c1]
 subst c1'
 exact ⟨_,b1,all2_map (fun a=>.str a) tx⟩
theorem var_err {w:World} (h2:∃ d,Lib.VarReads Tryz.prog w "strconv.ErrRange" (.iface "*errors.errorString" d)):∃ te pe,Holds1 w 8 [.v (.iface te pe)]:=by
 obtain ⟨d2,g,t,cs2,fuel,p,hg2,ht2,hv2,hd2⟩:=h2
 have e:(some g:Option Nat)=some 8:=hg2.symm.trans (show Tryz.prog.globalNamed "strconv.ErrRange" = some 8 by kernel_rfl)
 cases e
 have e:(some t:Option Nat)=some 32:=ht2.symm.trans (by kernel_rfl)
 cases e
 obtain ⟨_,te,pe,c2,_,_⟩:=iface_of_trod Tryz.underlying32 hd2
 have b2:=var_cells hg2 hv2
 have c2':cs2=[Value.iface te pe].toArray:=by rw[← c2]
 subst c2'
 exact ⟨te,pe,_,b2,.v _,trivial⟩
theorem var_pow {w:World} (h3:Lib.VarReads Tryz.prog w "internal/strconv.uint64pow10" (Lib.tabData .u64 Lib.pow10Tab)):Holds1 w 6 (Lib.pow10Tab.map fun z=>D.v (.int .u64 z)):=by
 obtain ⟨g,t,cs3,fuel,p,hg3,ht3,hv3,hd3⟩:=h3
 have e:(some g:Option Nat)=some 6:=hg3.symm.trans (show Tryz.prog.globalNamed "internal/strconv.uint64pow10" = some 6 by kernel_rfl)
 cases e
 have e:(some t:Option Nat)=some 270:=ht3.symm.trans (by kernel_rfl)
 cases e
 have c3:=Lib.cells_of_tab (n:=20) (e:=239) Tryz.underlying270 Tryz.underlying239 (by kernel_rfl) (by kernel_rfl) hd3
 have b3:=var_cells hg3 hv3
 have c3':cs3=(Lib.pow10Tab.map fun z=>Value.int .u64 z).toArray:=by rw[← c3]
 subst c3'
 exact ⟨_,b3,all2_map (fun a=>.v _) Lib.pow10Tab⟩
theorem var_errT {w:World} (h:handlesMet Tryz.prog [("errors.errorType",Rows.laid_errors_errorType)] w):Holds1 w 1 errT:=by
 have et:Tryz.prog.globalNamed "errors.errorType" = some 1:=by kernel_rfl
 obtain ⟨name,u,ty,e1,e2,e3,e4,e5⟩:=h _ (List.mem_singleton.2 rfl)
 have en:name=[101,114,114,111,114]:=(Option.some.inj e1).symm
 subst en
 obtain rfl:=Option.some.inj ((show (Tryz.prog.cutTypes.find? (·.1 == "internal/reflectlite.rtype")).map (·.2)=some 210 by kernel_rfl).symm.trans e2)
 have hm:ty ∈ (List.range 324).filter fun t=>Tryz.prog.rowNamed t [101,114,114,111,114]:=List.mem_filter.2 ⟨List.mem_range.2 (by rw[← Door.size];exact e3),e4⟩
 rw[show ((List.range 324).filter fun t=>Tryz.prog.rowNamed t [101,114,114,111,114])=[32] by kernel_rfl] at hm
 obtain rfl:=List.mem_singleton.1 hm
 rw[show typeHandle Tryz.prog 32=.pointer (some ⟨11,32,none⟩) by kernel_rfl] at e5
 have b:=var_cells et e5
 exact ⟨[_],b,.v _,trivial⟩
theorem glob_V {w:World} (h1:Lib.VarReads Tryz.prog w "sccsettle/value.texts" (.agg (tx.map fun z=>.lit (.string z)))) (h2:∃ d,Lib.VarReads Tryz.prog w "strconv.ErrRange" (.iface "*errors.errorString" d)) (h3:Lib.VarReads Tryz.prog w "internal/strconv.uint64pow10" (Lib.tabData .u64 Lib.pow10Tab)) :
 ∃ te pe,Glob (glV te pe) (fun _=>False) w:=by
 obtain ⟨te,pe,h⟩:=var_err h2
 exact ⟨te,pe,Glob.cons (var_texts h1) (Glob.cons h (Glob.cons (var_pow h3) glob_none))⟩
end Go.Proofs.YtdpigpahfiachaaGreatDoor
end
