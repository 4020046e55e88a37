/- Proved: a part of what the law is proved with (the reckoner, contracts of functions, plain laws). Conditions: as each says. -/
import Derived.Lib.AppendIntMem
import Derived.Lib.LaidU8
import Derived.Shelf.Vars
import Derived.Test.YtfkjhfdpphfjhaaGreatDoorYBa
import Derived.Test.YtfkjhfdpphfjhaaGreatDoorYBg
import Derived.Test.YtfkjhfdpphfjhaaGreatDoorYFo
import Derived.Test.YtfkjhfdpphfjhaaGreatDoorYSf
section
namespace Go.Proofs.YtfkjhfdpphfjhaaGreatDoor
open Go Go.EYtfkjhfdpphfjhaaGreatDoor
set_option maxRecDepth 100000
variable {gl:List (Nat×List D)}
theorem rvF_snoc (l:List UInt8) (c:UInt8) (acc:Nat):rvF acc (l++[c])=rvF acc l * 10+(c.toNat - 48):=by
 unfold rvF;rw[List.foldl_append];rfl
theorem decDigits_small {u:Nat} (h:u<10):Lib.decDigits u=[UInt8.ofNat (48+u)]:=by rw[Lib.decDigits];simp[h]
theorem decDigits_big {u:Nat} (h:¬ u<10):Lib.decDigits u=Lib.decDigits (u / 10)++[UInt8.ofNat (48+u % 10)]:=by rw[Lib.decDigits];simp[h]
theorem ofNat_dig {k:Nat} (h:k<10):(UInt8.ofNat (48+k)).toNat=48+k:=by rw[UInt8.toNat_ofNat'];omega
theorem dec_facts (u:Nat):rvF 0 (Lib.decDigits u)=u∧(∀ d ∈ Lib.decDigits u,isDig d)∧Lib.decDigits u≠[]∧(u≠0→(Lib.decDigits u).head?≠some 48):=by
 induction u using Nat.strongRecOn with
 | ind u ih =>
  by_cases h:u<10
  ·have hd:=ofNat_dig h
   rw[decDigits_small h]
   refine ⟨?_,?_,by simp,fun h0 e=>?_⟩
   ·show 0 * 10+((UInt8.ofNat (48+u)).toNat - 48)=u
    omega
   ·intro d hd'
    rw[List.mem_singleton.1 hd']
    unfold isDig;omega
   ·have e':UInt8.ofNat (48+u)=48:=by simpa using e
    rw[e'] at hd
    have:(48:UInt8).toNat=48:=rfl
    omega
  ·obtain ⟨h1,h2,h3,h4⟩:=ih (u / 10) (by omega)
   have hd:=ofNat_dig (k:=u % 10) (by omega)
   rw[decDigits_big h]
   refine ⟨?_,?_,by simp,fun h0 e=>?_⟩
   ·rw[rvF_snoc,h1];omega
   ·intro d hd'
    rcases List.mem_append.1 hd' with hd'|hd'
    ·exact h2 d hd'
    ·rw[List.mem_singleton.1 hd'];unfold isDig;omega
   ·rw[List.head?_append] at e
    cases hh:(Lib.decDigits (u / 10)).head? with
    | none=>exact h3 (by cases hq:Lib.decDigits (u / 10) with|nil=>rfl|cons a l=>rw[hq] at hh;cases hh)
    | some a=>rw[hh] at e;exact h4 (by omega) (by rw[hh];exact e)
theorem whole_itoa {n:Int} (h:okI n):wholeZ (Lib.itoa n)=some n:=by
 unfold Lib.itoa
 by_cases hn:n<0
 ·rw[if_pos hn]
  obtain ⟨h1,h2,h3,h4⟩:=dec_facts n.natAbs
  have h5:=h4 (by omega)
  generalize Lib.decDigits n.natAbs=d at *
  have eu:unsg (45::d)=d:=rfl
  have hv:wholeV (45::d)=n:=by
   unfold wholeV
   rw[if_pos (show (45::d).head?=some 45 from rfl),eu,rv_all,h1];omega
  unfold wholeZ
  rw[hv,if_pos]
  exact ⟨⟨by rw[eu];exact h3,fun hh=>by rw[eu] at hh;exact h5 hh.1,by rw[eu];exact h2⟩,h⟩
 ·rw[if_neg hn]
  obtain ⟨h1,h2,h3,h4⟩:=dec_facts n.toNat
  have h45:¬ (Lib.decDigits n.toNat).head?=some 45:=by
   intro e
   cases hd:Lib.decDigits n.toNat with
   | nil=>rw[hd] at e;cases e
   | cons a l=>rw[hd] at e h2;cases e;have:=(h2 45 (by simp)).1;simp at this
  have h0:n.toNat=0→Lib.decDigits n.toNat=[48]:=fun e=>by rw[e];rw[decDigits_small (by omega)];rfl
  generalize Lib.decDigits n.toNat=d at *
  have eu:unsg d=d:=by unfold unsg;rw[if_neg h45]
  have hv:wholeV d=n:=by
   unfold wholeV
   rw[if_neg h45,eu,rv_all,h1];omega
  unfold wholeZ
  rw[hv,if_pos]
  refine ⟨⟨by rw[eu];exact h3,fun hh=>?_,by rw[eu];exact h2⟩,h⟩
  rw[eu] at hh
  by_cases hz:n.toNat=0
  ·exact hh.2 (h0 hz)
  ·exact h4 hz hh.1
theorem Itoa_w (te:TypeId) (pe:Value) {n:Int} (h:okI n):FnP Tryz.prog (glV te pe) 163 [iD n] (.str (Lib.itoa n)) :=
 FnP.of_below (xs:=[.int .i64 n]) (v:=.string ⟨(Lib.itoa n).toArray⟩) hoB (fun M w ys hd=>by
  obtain ⟨y,rfl,h1⟩:=All2.one_iff.1 hd
  rw[DenD.v_inv h1]) (fun _ _=>.str _) (fun M w hg=>by
  obtain ⟨_,xs,⟨t,f,hx⟩,_,hd⟩:=hg 9 _ rfl
  have ex:xs=Lib.pow10Tab.map fun z=>Value.int .u64 z:=by
   have key:∀ (l:List Int) (xs:List Value),DenL M w (l.map fun z=>D.v (.int .u64 z)) xs→xs=l.map fun z=>Value.int .u64 z:=by
    intro l
    induction l with
    | nil=>intro xs h;cases xs with|nil=>rfl|cons _ _=>exact h.elim
    | cons a l ih=>intro xs h;cases xs with|nil=>exact h.elim|cons x xs=>rw[DenD.v_inv h.1,ih xs h.2];rfl
   exact key _ _ hd
  have ht:Lib.TabIs Tryz.prog w "internal/strconv.uint64pow10" .u64 Lib.pow10Tab:=by
   have hn:Tryz.prog.globalNamed "internal/strconv.uint64pow10" = some 9:=by kernel_rfl
   show World.var? _ _ _=_
   unfold World.var?
   rw[hn,← ex]
   show (match w.heap[9]? with|some (.cells cs _ _)=>some cs|_=>none)=_
   rw[hx]
  have h:=Any.strconv_Itoa Tryz.laysM171 n h.1 h.2 w ht
  refine h.mono ?_
  rintro e w' ⟨rfl,k,os,rfl⟩
  exact ⟨rfl,Lib.below_grow w.heap.size w (Nat.le_refl _) k os⟩)
def show3 (k n:Int) (s:List UInt8):List UInt8:=if k=1 then Lib.itoa n else if k=2 then s else if k=3 then (if n=1 then tT else tF) else if k=4 then (if 0<n∧n<7 then tx.getD n.toNat [] else []) else []
def showV (v:Vl):List UInt8:=show3 v.k v.n v.s
theorem tx_cut {k:Nat} (h:k<7):cut (tx.map D.str) (k * 1) 1=[.str (tx.getD k [])]:=by
 have h':k<(tx.map D.str).length:=h
 have h2:k<tx.length:=h
 unfold cut
 rw[Nat.mul_one,List.drop_eq_getElem_cons h',List.take_succ_cons,List.take_zero,List.getElem_map]
 simp[List.getD,List.getElem?_eq_getElem h2]
theorem Show_3 (te:TypeId) (pe:Value) (k n:Int) (s:List UInt8) (hn:okI n):FnP Tryz.prog (glV te pe) 109 [vlD k n s] (.str (show3 k n s)):=by
 unfold show3
 by_cases h1:k=1
 ·subst h1
  refine fnP_of_vc (nv:=9999) (cu:=[]) fits mixed Tryz.func109 rfl hoB rfl ?_
  ((repeat' ((conv=>whnf);first|exact .intro|refine G ?_|intro _|refine C1 (Itoa_w te pe hn) ?_|refine .mk ?_ ?_|refine H ?_|fail));all_goals conv=>whnf)
  exact LeD.rfl
 ·by_cases h2:k=2
  ·subst h2
   refine fnP_of_vc (nv:=9999) (cu:=[]) fits mixed Tryz.func109 rfl hoB rfl ?_
   ((repeat' ((conv=>whnf);first|exact .intro|refine G ?_|intro _|refine .mk ?_ ?_|refine H ?_|fail));all_goals conv=>whnf)
   exact LeD.rfl
  ·by_cases h3:k=3
   ·subst h3
    by_cases h4:n=1
    ·subst h4
     refine fnP_of_vc (nv:=9999) (cu:=[]) fits mixed Tryz.func109 rfl hoB rfl ?_
     ((repeat' ((conv=>whnf);first|exact .intro|refine G ?_|intro _|refine .mk ?_ ?_|refine H ?_|fail));all_goals conv=>whnf)
     exact LeD.rfl
    ·refine fnP_of_vc (nv:=9999) (cu:=[]) fits mixed Tryz.func109 rfl hoB rfl ?_
     ((repeat' ((conv=>whnf);first|exact .intro|refine G ?_|intro _|refine .mk ?_ ?_|refine H ?_|fail));all_goals conv=>whnf)
     simp only[h4,if_false]
     exact LeD.rfl
   ·by_cases h4:k=4
    ·subst h4
     by_cases h5:0<n∧n<7
     ·obtain ⟨h6,h7⟩:=h5
      refine fnP_of_vc (nv:=9999) (cu:=[]) fits mixed Tryz.func109 rfl hoB rfl ?_
      ((repeat' ((conv=>whnf);first|exact .intro|refine G ?_|intro _|refine .mk ?_ ?_|refine H ?_|fail));all_goals conv=>whnf)
      refine ⟨_,tx_cut (k:=n.toNat) (by omega),?_⟩
      ((repeat' ((conv=>whnf);first|exact .intro|refine G ?_|intro _|refine .mk ?_ ?_|refine H ?_|fail));all_goals conv=>whnf)
      simp only[h6,h7,and_self,if_true]
      exact LeD.rfl
     ·refine fnP_of_vc (nv:=9999) (cu:=[]) fits mixed Tryz.func109 rfl hoB rfl ?_
      ((repeat' ((conv=>whnf);first|exact .intro|refine G ?_|intro _|refine .mk ?_ ?_|refine H ?_|fail));all_goals conv=>whnf)
      all_goals first
       | (exfalso;omega)
       | (simp only[h5,if_false];exact LeD.rfl)
    ·refine fnP_of_vc (nv:=9999) (cu:=[]) fits mixed Tryz.func109 rfl hoB rfl ?_
     ((repeat' ((conv=>whnf);first|exact .intro|refine G ?_|intro _|refine .mk ?_ ?_|refine H ?_|fail));all_goals conv=>whnf)
     all_goals first
      | (exfalso;omega)
      | (simp only[h1,h2,h3,h4,if_false];exact LeD.rfl)
theorem Show_d (te:TypeId) (pe:Value) (v:Vl) (hn:okI v.n):FnP Tryz.prog (glV te pe) 109 [v.d] (.str (showV v)):=Show_3 te pe v.k v.n v.s hn
theorem wholeZ_no {s:List UInt8} (h:∃ a ∈ unsg s,¬ isDig a):wholeZ s=none:=by
 unfold wholeZ
 rw[if_neg]
 rintro ⟨⟨_,_,h3⟩,_⟩
 obtain ⟨a,h1,h2⟩:=h
 exact h2 (h3 a h1)
theorem dec_len:∀ (k u:Nat),u<10 ^ (k+1)→(Lib.decDigits u).length≤k+1
 | 0,u,h=>by rw[decDigits_small (by simpa using h)];exact Nat.le_refl _
 | k+1,u,h=>by
  by_cases hu:u<10
  ·rw[decDigits_small hu];simp
  ·have:=dec_len k (u / 10) (by rw[Nat.pow_succ] at h;omega)
   rw[decDigits_big hu];simp;omega
theorem itoa_len {n:Int} (h:okI n):(Lib.itoa n).length≤20:=by
 unfold Lib.itoa
 have h1:n.natAbs<10 ^ (18+1):=Nat.lt_of_le_of_lt (show n.natAbs≤9223372036854775808 by omega) (by decide)
 have h2:n.toNat<10 ^ (18+1):=Nat.lt_of_le_of_lt (show n.toNat≤9223372036854775808 by omega) (by decide)
 split
 ·have:=dec_len 18 n.natAbs h1;simp;omega
 ·have:=dec_len 18 n.toNat h2;omega
end Go.Proofs.YtfkjhfdpphfjhaaGreatDoor
end
section
namespace Go.Proofs.YtfkjhfdpphfjhaaGreatDoor
open Go Go.ChangeShapes Go.WideShapes Go.ChangeAt Go.RowKit Go.EYtfkjhfdpphfjhaaGreatDoor
set_option linter.unusedVariables false
set_option maxRecDepth 100000
theorem var_cells {w:World} {n:String} {g:Nat} {cs:Array Value} (hg:Tryz.prog.globalNamed n=some g) (h:w.var? Tryz.prog n=some cs):∃ t f,w.heap[g]?=some (Obj.cells cs t f):=by
 unfold World.var? at h
 rw[hg] at h
 simp only[Option.bind_some] at h
 split at h
 ·rename_i c t f hc;cases h;exact ⟨t,f,hc⟩
 ·cases h
theorem cells_of_strs {H:Type} {enc:TypeId×Value→H} {P:Program} {w:World} {base:Nat} {sp:Nat→Bool} {held:Bool} {fuel:Nat} {t e:TypeId} {n:Nat} {cs:List Value} {zs:List (List UInt8)} {p:List MemPlace}
 (ht:P.underlying t=some (.array n e)) (he:P.underlying e=some .string) (hce:P.cellsOf e=1) (hct:P.cellsOf t=n)
 (h:DataW.trod enc P w base sp held fuel t cs=some (.agg (zs.map fun z=>.lit (.string z)),p)):cs=zs.map fun z=>Value.string ⟨z.toArray⟩:=by
 cases fuel with
 | zero=>simp[DataW.trod] at h
 | succ fuel =>
  simp only[DataW.trod,ht,hce,hct,Nat.mul_one] at h
  split at h
  ·rename_i hl
   obtain ⟨xs,hm,hx⟩:=Option.map_eq_some_iff.1 h
   have hxs:xs.map (·.1)=zs.map fun z=>(DataW.lit (.string z):DataW H):=by
    have:=congrArg Prod.fst hx
    simpa using this
   have hxl:xs.length=n:=by simpa using Lib.mapM_length hm
   have hzl:zs.length=n:=by
    have:=congrArg List.length hxs
    simp at this
    omega
   apply List.ext_getElem?
   intro i
   by_cases hi:i<n
   ·obtain ⟨b,hb,hf⟩:=Lib.mapM_at hm i i (by simp[hi])
    obtain ⟨z,hc,rfl,_⟩:=DataW.trod_string he hf
    have h1:cs[i]?=some (.string z):=by
     have:=congrArg (·[0]?) hc
     simpa[List.getElem?_take,List.getElem?_drop] using this
    have h2:(xs.map (·.1))[i]?=some (DataW.lit (.string z.data.toList):DataW H):=by simp[hb]
    rw[hxs] at h2
    simp only[List.getElem?_map,Option.map_eq_some_iff,DataW.lit.injEq,Lit.string.injEq] at h2
    obtain ⟨z',hz',rfl⟩:=h2
    simp[h1,hz']
   ·rw[List.getElem?_eq_none (by omega),List.getElem?_eq_none (by simp;omega)]
  ·cases h
theorem all2_map {M:Nat→Prop} {w:World} {α:Type} {f:α→D} {g:α→Value} (h:∀ a,DenD M w (f a) (g a)):∀ l:List α,DenL M w (l.map f) (l.map g)
 | []=>trivial
 | a::l=>⟨h a,all2_map h l⟩
theorem lt_of_cells {w:World} {g:Nat} {cs:Array Value} (h:∃ t f,w.heap[g]?=some (Obj.cells cs t f)):g<w.heap.size:=by
 obtain ⟨t,f,h⟩:=h
 exact (Array.getElem?_eq_some_iff.1 h).1
def Holds1 (w:World) (g:Nat) (l:List D):Prop:=∃ xs:List Value,(∃ t f,w.heap[g]?=some (Obj.cells xs.toArray t f))∧DenL (fun _=>False) w l xs
theorem Glob.cons {w:World} {g:Nat} {l:List D} {gl:List (Nat×List D)} (h:Holds1 w g l) (hg:Glob gl (fun _=>False) w):Glob ((g,l)::gl) (fun _=>False) w:=by
 intro k m hl
 rw[look_cons] at hl
 split at hl
 ·rename_i e;cases hl;rw[← e]
  obtain ⟨xs,h1,h2⟩:=h
  exact ⟨fun h=>h,xs,h1,lt_of_cells h1,h2⟩
 ·exact hg k m hl
theorem var_texts {w:World} (h1:Lib.VarReads Tryz.prog w "sccsettle/value.texts" (.agg (tx.map fun z=>.lit (.string z)))):Holds1 w 3 (tx.map D.str):=by
 obtain ⟨g,t,cs,fuel,p,hg,ht,hv,hd⟩:=h1
 have e:(some g:Option Nat)=some 3:=hg.symm.trans (show Tryz.prog.globalNamed "sccsettle/value.texts" = some 3 by kernel_rfl)
 cases e
 have e:(some t:Option Nat)=some 207:=ht.symm.trans (by kernel_rfl)
 cases e
 have c1:=cells_of_strs (n:=7) (e:=9) Tryz.underlying207 Tryz.underlying9 (by kernel_rfl) (by kernel_rfl) hd
 have b1:=var_cells hg hv
 have c1':cs=(tx.map fun z=>Value.string ⟨z.toArray⟩).toArray:=by rw[← c1]
 subst c1'
 exact ⟨_,b1,all2_map (fun a=>.str a) tx⟩
theorem var_err {w:World} (h2:∃ d,Lib.VarReads Tryz.prog w "strconv.ErrRange" (.iface "*errors.errorString" d)):∃ te pe,Holds1 w 8 [.v (.iface te pe)]:=by
 obtain ⟨d2,g,t,cs2,fuel,p,hg2,ht2,hv2,hd2⟩:=h2
 have e:(some g:Option Nat)=some 8:=hg2.symm.trans (show Tryz.prog.globalNamed "strconv.ErrRange" = some 8 by kernel_rfl)
 cases e
 have e:(some t:Option Nat)=some 33:=ht2.symm.trans (by kernel_rfl)
 cases e
 obtain ⟨_,te,pe,c2,_,_⟩:=iface_of_trod Tryz.underlying33 hd2
 have b2:=var_cells hg2 hv2
 have c2':cs2=[Value.iface te pe].toArray:=by rw[← c2]
 subst c2'
 exact ⟨te,pe,_,b2,.v _,trivial⟩
theorem var_pow {w:World} (h3:Lib.VarReads Tryz.prog w "internal/strconv.uint64pow10" (Lib.tabData .u64 Lib.pow10Tab)):Holds1 w 9 (Lib.pow10Tab.map fun z=>D.v (.int .u64 z)):=by
 obtain ⟨g,t,cs3,fuel,p,hg3,ht3,hv3,hd3⟩:=h3
 have e:(some g:Option Nat)=some 9:=hg3.symm.trans (show Tryz.prog.globalNamed "internal/strconv.uint64pow10" = some 9 by kernel_rfl)
 cases e
 have e:(some t:Option Nat)=some 304:=ht3.symm.trans (by kernel_rfl)
 cases e
 have c3:=Lib.cells_of_tab (n:=20) (e:=169) Tryz.underlying304 Tryz.underlying169 (by kernel_rfl) (by kernel_rfl) hd3
 have b3:=var_cells hg3 hv3
 have c3':cs3=(Lib.pow10Tab.map fun z=>Value.int .u64 z).toArray:=by rw[← c3]
 subst c3'
 exact ⟨_,b3,all2_map (fun a=>.v _) Lib.pow10Tab⟩
theorem glob_V {w:World} (h1:Lib.VarReads Tryz.prog w "sccsettle/value.texts" (.agg (tx.map fun z=>.lit (.string z)))) (h2:∃ d,Lib.VarReads Tryz.prog w "strconv.ErrRange" (.iface "*errors.errorString" d)) (h3:Lib.VarReads Tryz.prog w "internal/strconv.uint64pow10" (Lib.tabData .u64 Lib.pow10Tab)) :
 ∃ te pe,Glob (glV te pe) (fun _=>False) w:=by
 obtain ⟨te,pe,h⟩:=var_err h2
 exact ⟨te,pe,Glob.cons (var_texts h1) (Glob.cons h (Glob.cons (var_pow h3) glob_none))⟩
end Go.Proofs.YtfkjhfdpphfjhaaGreatDoor
end
section
namespace Go.Proofs.YtfkjhfdpphfjhaaGreatDoor
open Go Go.EYtfkjhfdpphfjhaaGreatDoor
set_option maxRecDepth 100000
variable {gl:List (Nat×List D)}
theorem Check_s {c r:Int} (h:okP c r):FnP Tryz.prog gl 37 [cellD c r] (errD 0):=by
 refine fnP_of_vc (nv:=9999) (cu:=[]) fits mixed Tryz.func37 rfl hoB rfl ?_
 ((repeat' ((conv=>whnf);first|exact .intro|refine G ?_|intro _|refine C1 (ok_d _ _) ?_|refine .mk ?_ ?_|refine H ?_|fail));all_goals conv=>whnf)
 exact LeD.rfl
theorem Check_n {c r:Int} (h:¬ okP c r):FnP Tryz.prog gl 37 [cellD c r] (errD 1):=by
 refine fnP_of_vc (nv:=9999) (cu:=[]) fits mixed Tryz.func37 rfl hoB rfl ?_
 ((repeat' ((conv=>whnf);first|exact .intro|refine G ?_|intro _|refine C1 (ok_d _ _) ?_|refine .mk ?_ ?_|refine H ?_|fail));all_goals conv=>whnf)
 exact LeD.rfl
abbrev rrBad:D:=.tup [refD 0 0 false false,tD false]
theorem rrBad_le:LeD (retD [D.agg [iD 0,iD 0,.v (.bool false),.v (.bool false)],.v (.bool false)]) rrBad:=noneR_le
theorem w01:IntKind.i64.wrap (0+1)=1:=by decide
theorem w011:IntKind.i64.wrap (IntKind.i64.wrap (0+1)+1)=2:=by decide
theorem w0111:IntKind.i64.wrap (IntKind.i64.wrap (IntKind.i64.wrap (0+1)+1)+1)=3:=by decide
theorem dl_inv1 {s:List UInt8} {b:Bool} (h:dl s=(b,[])):s=[]∨s=[36]:=by
 cases s with
 | nil=>exact .inl rfl
 | cons a s =>
  right
  by_cases ha:a=36
  ·simp only[dl,if_pos ha,Prod.mk.injEq] at h;rw[ha,h.2]
  ·simp only[dl,if_neg ha,Prod.mk.injEq] at h;cases h.2
theorem dl_inv2 {s t:List UInt8} {b:Bool} {ch:UInt8} (h:dl s=(b,ch::t)):(s=36::ch::t∧b=true)∨(s=ch::t∧ch≠36∧b=false):=by
 cases s with
 | nil=>cases h
 | cons a s =>
  by_cases ha:a=36
  ·simp only[dl,if_pos ha,Prod.mk.injEq] at h;left;rw[ha,h.2];exact ⟨rfl,h.1.symm⟩
  ·simp only[dl,if_neg ha,Prod.mk.injEq] at h;right;cases h.2;exact ⟨rfl,ha,h.1.symm⟩
theorem ne36 {c:UInt8} (h:c≠36):¬ ((c.toNat:Nat):Int)=36:=fun e=>h (UInt8.toNat_inj.1 (Int.ofNat.inj e))
theorem rRef_1 {s:List UInt8} {b:Bool} (h:dl s=(b,[])):FnP Tryz.prog gl 196 [.str s] rrBad:=by
 rcases dl_inv1 h with rfl|rfl
 ·refine fnP_of_vc (nv:=9999) (cu:=[]) fits mixed Tryz.func196 rfl hoB rfl ?_
  ((repeat' ((conv=>whnf);first|exact .intro|refine G ?_|intro _|refine .mk ?_ ?_|refine AK ?_|refine And.intro (by first|(first|assumption|omega|(simp;done)|(rw[w01];simp;done)|(rw[w01];simp;omega);done)|fail) ?_|fail));all_goals conv=>whnf)
  exact rrBad_le
 ·have f1:((([36]:List UInt8).length:Nat):Int)≤IntKind.i64.wrap (0+1):=by decide
  refine fnP_of_vc (nv:=9999) (cu:=[]) fits mixed Tryz.func196 rfl hoB rfl ?_
  ((repeat' ((conv=>whnf);first|exact .intro|refine G ?_|intro _|refine .mk ?_ ?_|refine AK ?_|refine And.intro (by first|(first|assumption|omega|(simp;done)|(rw[w01];simp;done)|(rw[w01];simp;omega);done)|fail) ?_|fail));all_goals conv=>whnf)
  all_goals first|exact rrBad_le
theorem rRef_2 {s t:List UInt8} {b:Bool} {ch:UInt8} (h:dl s=(b,ch::t)) (hc:¬ (65≤ch.toNat∧ch.toNat≤90)):FnP Tryz.prog gl 196 [.str s] rrBad:=by
 rcases dl_inv2 h with ⟨rfl,_⟩|⟨rfl,h36,_⟩
 ·have f1:¬ (((36::ch::t).length:Nat):Int)≤IntKind.i64.wrap (0+1):=by rw[w01];simp;try omega
  have fe:(36::ch::t).getD (IntKind.i64.wrap (0+1)).toNat 0=ch:=by rw[w01];rfl
  by_cases hlo:(((36::ch::t).getD (IntKind.i64.wrap (0+1)).toNat 0).toNat:Int)<65
  ·refine fnP_of_vc (nv:=9999) (cu:=[]) fits mixed Tryz.func196 rfl hoB rfl ?_
   ((repeat' ((conv=>whnf);first|exact .intro|refine G ?_|intro _|refine .mk ?_ ?_|refine AK ?_|refine And.intro (by first|(first|assumption|omega|(simp;done)|(rw[w01];simp;done)|(rw[w01];simp;omega);done)|fail) ?_|fail));all_goals conv=>whnf)
   all_goals first|exact rrBad_le
  ·have hhi:90<(((36::ch::t).getD (IntKind.i64.wrap (0+1)).toNat 0).toNat:Int):=by rw[fe] at hlo ⊢;omega
   refine fnP_of_vc (nv:=9999) (cu:=[]) fits mixed Tryz.func196 rfl hoB rfl ?_
   ((repeat' ((conv=>whnf);first|exact .intro|refine G ?_|intro _|refine .mk ?_ ?_|refine AK ?_|refine And.intro (by first|(first|assumption|omega|(simp;done)|(rw[w01];simp;done)|(rw[w01];simp;omega);done)|fail) ?_|fail));all_goals conv=>whnf)
   all_goals first|exact rrBad_le
 ·have f0:¬ (((ch::t).getD (Int.toNat 0) 0).toNat:Int)=36:=ne36 h36
  have f1:¬ (((ch::t).length:Nat):Int)≤0:=by simp;try omega
  by_cases hlo:(((ch::t).getD (Int.toNat 0) 0).toNat:Int)<65
  ·refine fnP_of_vc (nv:=9999) (cu:=[]) fits mixed Tryz.func196 rfl hoB rfl ?_
   ((repeat' ((conv=>whnf);first|exact .intro|refine G ?_|intro _|refine .mk ?_ ?_|refine AK ?_|refine And.intro (by first|(first|assumption|omega|(simp;done)|(rw[w01];simp;done)|(rw[w01];simp;omega);done)|fail) ?_|fail));all_goals conv=>whnf)
   all_goals first|exact rrBad_le
  ·have hhi:90<(((ch::t).getD (Int.toNat 0) 0).toNat:Int):=by
    have hlo':¬ ((ch.toNat:Nat):Int)<65:=hlo
    show 90<((ch.toNat:Nat):Int)
    omega
   refine fnP_of_vc (nv:=9999) (cu:=[]) fits mixed Tryz.func196 rfl hoB rfl ?_
   ((repeat' ((conv=>whnf);first|exact .intro|refine G ?_|intro _|refine .mk ?_ ?_|refine AK ?_|refine And.intro (by first|(first|assumption|omega|(simp;done)|(rw[w01];simp;done)|(rw[w01];simp;omega);done)|fail) ?_|fail));all_goals conv=>whnf)
   all_goals first|exact rrBad_le
end Go.Proofs.YtfkjhfdpphfjhaaGreatDoor
end
section
namespace Go.Proofs.YtfkjhfdpphfjhaaGreatDoor
open Go Go.ChangeShapes Go.WideShapes Go.ChangeAt Go.RowKit Go.EYtfkjhfdpphfjhaaGreatDoor
set_option linter.unusedVariables false
set_option maxRecDepth 100000
section
variable {B n:Nat} {ds:List D}
end
theorem var_maxLen {w:World} (h:w.ShapedOpen Tryz.prog):∃ m:Int,Holds1 w 4 [iD m]:=by
 have h0:((begin Tryz.prog (fun _ _=>0) default).world.heap[4]?).bind Obj.row?=some (#[.int .i64 0],3):=by kernel_rfl
 obtain ⟨m,hm⟩:=cell_of_shapedOpen_int (P:=Tryz.prog) (g:=4) (t:=3) (zero:=#[.int .i64 0]) h (of_decide_eq_true (by kernel_rfl)) h0 rfl (by kernel_rfl) (by kernel_rfl) Tryz.underlying3
 obtain ⟨⟨l⟩,hh,hs,_⟩:=h.1 4 _ _ (of_decide_eq_true (by kernel_rfl)) h0
 match l,hs with
 | [x],_ =>
  have:x=.int .i64 m:=by simpa[World.cell?,hh] using hm
  subst this
  exact ⟨m,[_],⟨_,_,hh⟩,.v _,trivial⟩
end Go.Proofs.YtfkjhfdpphfjhaaGreatDoor
end
