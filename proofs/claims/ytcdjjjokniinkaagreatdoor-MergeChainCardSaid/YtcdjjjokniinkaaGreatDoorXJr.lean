/- Proved: a part of what the law is proved with (the reckoner, contracts of functions, plain laws). Conditions: as each says. -/
import Derived.Lib.LaidU8
import Derived.Shelf.Vars
import Derived.Test.YtcdjjjokniinkaaGreatDoorXBase
import Derived.Test.YtcdjjjokniinkaaGreatDoorXFo
import Derived.Test.YtcdjjjokniinkaaGreatDoorXRa
import Derived.Test.YtcdjjjokniinkaaGreatDoorXSf
import Derived.Test.YtcdjjjokniinkaaGreatDoorXWa
section
namespace Go.Proofs.YtcdjjjokniinkaaGreatDoor
open Go Go.ChangeShapes Go.WideShapes Go.ChangeAt Go.RowKit Go.EYtcdjjjokniinkaaGreatDoor
set_option linter.unusedVariables false
set_option maxRecDepth 100000
theorem var_cells {w:World} {n:String} {g:Nat} {cs:Array Value} (hg:Tryz.prog.globalNamed n=some g) (h:w.var? Tryz.prog n=some cs):∃ t f,w.heap[g]?=some (Obj.cells cs t f):=by
 unfold World.var? at h
 rw[hg] at h
 simp only[Option.bind_some] at h
 split at h
 ·rename_i c t f hc;cases h;exact ⟨t,f,hc⟩
 ·cases h
theorem cells_of_strs {H:Type} {enc:TypeId×Value→H} {P:Program} {w:World} {base:Nat} {sp:Nat→Bool} {held:Bool} {fuel:Nat} {t e:TypeId} {n:Nat} {cs:List Value} {zs:List (List UInt8)} {p:List MemPlace}
 (ht:P.underlying t=some (.array n e)) (he:P.underlying e=some .string) (hce:P.cellsOf e=1) (hct:P.cellsOf t=n)
 (h:DataW.trod enc P w base sp held fuel t cs=some (.agg (zs.map fun z=>.lit (.string z)),p)):cs=zs.map fun z=>Value.string ⟨z.toArray⟩:=by
 cases fuel with
 | zero=>simp[DataW.trod] at h
 | succ fuel =>
  simp only[DataW.trod,ht,hce,hct,Nat.mul_one] at h
  split at h
  ·rename_i hl
   obtain ⟨xs,hm,hx⟩:=Option.map_eq_some_iff.1 h
   have hxs:xs.map (·.1)=zs.map fun z=>(DataW.lit (.string z):DataW H):=by
    have:=congrArg Prod.fst hx
    simpa using this
   have hxl:xs.length=n:=by simpa using Lib.mapM_length hm
   have hzl:zs.length=n:=by
    have:=congrArg List.length hxs
    simp at this
    omega
   apply List.ext_getElem?
   intro i
   by_cases hi:i<n
   ·obtain ⟨b,hb,hf⟩:=Lib.mapM_at hm i i (by simp[hi])
    obtain ⟨z,hc,rfl,_⟩:=DataW.trod_string he hf
    have h1:cs[i]?=some (.string z):=by
     have:=congrArg (·[0]?) hc
     simpa[List.getElem?_take,List.getElem?_drop] using this
    have h2:(xs.map (·.1))[i]?=some (DataW.lit (.string z.data.toList):DataW H):=by simp[hb]
    rw[hxs] at h2
    simp only[List.getElem?_map,Option.map_eq_some_iff,DataW.lit.injEq,Lit.string.injEq] at h2
    obtain ⟨z',hz',rfl⟩:=h2
    simp[h1,hz']
   ·rw[List.getElem?_eq_none (by omega),List.getElem?_eq_none (by simp;omega)]
  ·cases h
theorem all2_map {M:Nat→Prop} {w:World} {α:Type} {f:α→D} {g:α→Value} (h:∀ a,DenD M w (f a) (g a)):∀ l:List α,DenL M w (l.map f) (l.map g)
 | []=>trivial
 | a::l=>⟨h a,all2_map h l⟩
theorem lt_of_cells {w:World} {g:Nat} {cs:Array Value} (h:∃ t f,w.heap[g]?=some (Obj.cells cs t f)):g<w.heap.size:=by
 obtain ⟨t,f,h⟩:=h
 exact (Array.getElem?_eq_some_iff.1 h).1
def Holds1 (w:World) (g:Nat) (l:List D):Prop:=∃ xs:List Value,(∃ t f,w.heap[g]?=some (Obj.cells xs.toArray t f))∧DenL (fun _=>False) w l xs
theorem Glob.cons {w:World} {g:Nat} {l:List D} {gl:List (Nat×List D)} (h:Holds1 w g l) (hg:Glob gl (fun _=>False) w):Glob ((g,l)::gl) (fun _=>False) w:=by
 intro k m hl
 rw[look_cons] at hl
 split at hl
 ·rename_i e;cases hl;rw[← e]
  obtain ⟨xs,h1,h2⟩:=h
  exact ⟨fun h=>h,xs,h1,lt_of_cells h1,h2⟩
 ·exact hg k m hl
theorem var_texts {w:World} (h1:Lib.VarReads Tryz.prog w "sccsettle/value.texts" (.agg (tx.map fun z=>.lit (.string z)))):Holds1 w 2 (tx.map D.str):=by
 obtain ⟨g,t,cs,fuel,p,hg,ht,hv,hd⟩:=h1
 have e:(some g:Option Nat)=some 2:=hg.symm.trans (show Tryz.prog.globalNamed "sccsettle/value.texts" = some 2 by kernel_rfl)
 cases e
 have e:(some t:Option Nat)=some 217:=ht.symm.trans (by kernel_rfl)
 cases e
 have c1:=cells_of_strs (n:=7) (e:=9) Tryz.underlying217 Tryz.underlying9 (by kernel_rfl) (by kernel_rfl) hd
 have b1:=var_cells hg hv
 have c1':cs=(tx.map fun z=>Value.string ⟨z.toArray⟩).toArray:=by rw[← c1]
 subst c1'
 exact ⟨_,b1,all2_map (fun a=>.str a) tx⟩
theorem var_err {w:World} (h2:∃ d,Lib.VarReads Tryz.prog w "strconv.ErrRange" (.iface "*errors.errorString" d)):∃ te pe,Holds1 w 8 [.v (.iface te pe)]:=by
 obtain ⟨d2,g,t,cs2,fuel,p,hg2,ht2,hv2,hd2⟩:=h2
 have e:(some g:Option Nat)=some 8:=hg2.symm.trans (show Tryz.prog.globalNamed "strconv.ErrRange" = some 8 by kernel_rfl)
 cases e
 have e:(some t:Option Nat)=some 24:=ht2.symm.trans (by kernel_rfl)
 cases e
 obtain ⟨_,te,pe,c2,_,_⟩:=iface_of_trod Tryz.underlying24 hd2
 have b2:=var_cells hg2 hv2
 have c2':cs2=[Value.iface te pe].toArray:=by rw[← c2]
 subst c2'
 exact ⟨te,pe,_,b2,.v _,trivial⟩
theorem var_pow {w:World} (h3:Lib.VarReads Tryz.prog w "internal/strconv.uint64pow10" (Lib.tabData .u64 Lib.pow10Tab)):Holds1 w 6 (Lib.pow10Tab.map fun z=>D.v (.int .u64 z)):=by
 obtain ⟨g,t,cs3,fuel,p,hg3,ht3,hv3,hd3⟩:=h3
 have e:(some g:Option Nat)=some 6:=hg3.symm.trans (show Tryz.prog.globalNamed "internal/strconv.uint64pow10" = some 6 by kernel_rfl)
 cases e
 have e:(some t:Option Nat)=some 263:=ht3.symm.trans (by kernel_rfl)
 cases e
 have c3:=Lib.cells_of_tab (n:=20) (e:=169) Tryz.underlying263 Tryz.underlying169 (by kernel_rfl) (by kernel_rfl) hd3
 have b3:=var_cells hg3 hv3
 have c3':cs3=(Lib.pow10Tab.map fun z=>Value.int .u64 z).toArray:=by rw[← c3]
 subst c3'
 exact ⟨_,b3,all2_map (fun a=>.v _) Lib.pow10Tab⟩
theorem glob_V {w:World} (h1:Lib.VarReads Tryz.prog w "sccsettle/value.texts" (.agg (tx.map fun z=>.lit (.string z)))) (h2:∃ d,Lib.VarReads Tryz.prog w "strconv.ErrRange" (.iface "*errors.errorString" d)) (h3:Lib.VarReads Tryz.prog w "internal/strconv.uint64pow10" (Lib.tabData .u64 Lib.pow10Tab)) :
 ∃ te pe,Glob (glV te pe) (fun _=>False) w:=by
 obtain ⟨te,pe,h⟩:=var_err h2
 exact ⟨te,pe,Glob.cons (var_texts h1) (Glob.cons h (Glob.cons (var_pow h3) glob_none))⟩
end Go.Proofs.YtcdjjjokniinkaaGreatDoor
end
section
namespace Go.Proofs.YtcdjjjokniinkaaGreatDoor
open Go Go.EYtcdjjjokniinkaaGreatDoor
set_option maxRecDepth 100000
variable {gl:List (Nat×List D)}
theorem Check_s {c r:Int} (h:okP c r):FnP Tryz.prog gl 15 [cellD c r] (errD 0):=by
 refine fnP_of_vc (nv:=9999) (cu:=[]) fits mixed Tryz.func15 rfl hoB rfl ?_
 ((repeat' ((conv=>whnf);first|exact .intro|refine .ya ?_|refine .na ?_|refine .ys ?_|refine .ns ?_|refine .neg (fun _=>?_) (fun _=>?_)|refine .mk (fun _=>?_) (fun _=>?_)|refine .inl (.inl (X1 (ok_d _ _) ?_))|refine .inl (X1 (ok_d _ _) ?_)|refine X1 (ok_d _ _) ?_|refine .mk ?_ ?_|refine AK ?_|refine AT ?_|fail));all_goals conv=>whnf)
 exact LeD.rfl
theorem Check_n {c r:Int} (h:¬ okP c r):FnP Tryz.prog gl 15 [cellD c r] (errD 1):=by
 refine fnP_of_vc (nv:=9999) (cu:=[]) fits mixed Tryz.func15 rfl hoB rfl ?_
 ((repeat' ((conv=>whnf);first|exact .intro|refine .ya ?_|refine .na ?_|refine .ys ?_|refine .ns ?_|refine .neg (fun _=>?_) (fun _=>?_)|refine .mk (fun _=>?_) (fun _=>?_)|refine .inl (.inl (X1 (ok_d _ _) ?_))|refine .inl (X1 (ok_d _ _) ?_)|refine X1 (ok_d _ _) ?_|refine .mk ?_ ?_|refine AK ?_|refine AT ?_|fail));all_goals conv=>whnf)
 exact LeD.rfl
end Go.Proofs.YtcdjjjokniinkaaGreatDoor
end
section
namespace Go.Proofs.YtcdjjjokniinkaaGreatDoor
open Go Go.EYtcdjjjokniinkaaGreatDoor
structure Fl where
 c:Int
 r:Int
 t:List UInt8
abbrev flD (f:Fl):List D:=[iD f.c,iD f.r,.str f.t]
abbrev lessF (a b:Fl):Prop:=a.r<b.r∨a.r=b.r∧a.c<b.c
end Go.Proofs.YtcdjjjokniinkaaGreatDoor
end
section
namespace Go.Proofs.YtcdjjjokniinkaaGreatDoor
open Go Go.ChangeShapes Go.WideShapes Go.ChangeAt Go.RowKit Go.EYtcdjjjokniinkaaGreatDoor
set_option linter.unusedVariables false
set_option maxRecDepth 100000
section
variable {B n:Nat} {ds:List D}
theorem sh_int (h:Sh Tryz.prog B n 3 ds):∃ m,ds=[iD m]∧(Lit.int .i64 m).wf=true:=by
 cases n with
 | zero=>exact h.elim
 | succ n=>unfold Sh at h;rw[Tryz.underlying3] at h;exact h
theorem sh_str (h:Sh Tryz.prog B n 9 ds):∃ s,ds=[.str s]∧s.length≤B:=by
 cases n with
 | zero=>exact h.elim
 | succ n=>unfold Sh at h;rw[Tryz.underlying9] at h;exact h
theorem sh_two {t a b:TypeId} {f g:Field} (hu:Tryz.prog.underlying t=some (.struct #[f,g])) (ha:f.type=a) (hb:g.type=b) (h:Sh Tryz.prog B n t ds):∃ m x y,n=m+1∧ds=x++y∧Sh Tryz.prog B m a x∧Sh Tryz.prog B m b y:=by
 cases n with
 | zero=>exact h.elim
 | succ n =>
  unfold Sh at h;rw[hu] at h
  obtain ⟨dss,h1,h2⟩:=h
  match dss,h2 with
  | [x,y],h2 =>
   subst ha;subst hb
   exact ⟨n,x,y,rfl,by simpa using h1,h2.1,h2.2.1⟩
theorem sh_cell (h:Sh Tryz.prog B n 28 ds):∃ c r,ds=[iD c,iD r]∧(Lit.int .i64 c).wf=true∧(Lit.int .i64 r).wf=true:=by
 obtain ⟨m,x,y,rfl,rfl,h1,h2⟩:=sh_two Tryz.underlying28 rfl rfl h
 obtain ⟨c,rfl,hc⟩:=sh_int h1
 obtain ⟨r,rfl,hr⟩:=sh_int h2
 exact ⟨c,r,rfl,hc,hr⟩
theorem sh_fl (h:Sh Tryz.prog B n 31 ds):∃ f:Fl,ds=flD f∧f.t.length≤B:=by
 obtain ⟨m,x,y,rfl,rfl,h1,h2⟩:=sh_two Tryz.underlying31 rfl rfl h
 obtain ⟨c,r,rfl,_,_⟩:=sh_cell h1
 obtain ⟨s,rfl,hs⟩:=sh_str h2
 exact ⟨⟨c,r,s⟩,rfl,hs⟩
theorem map_of {α:Type} {g:α→List D} {p:α→Prop}:∀ {rows:List (List D)},(∀ r ∈ rows,∃ f,r=g f∧p f)→∃ l:List α,rows=l.map g∧∀ f ∈ l,p f
 | [],_=>⟨[],rfl,fun f hf=>by cases hf⟩
 | r::rows,h=>by
  obtain ⟨f,rfl,hf⟩:=h r (List.mem_cons_self ..)
  obtain ⟨l,rfl,hl⟩:=map_of fun r hr=>h r (List.mem_cons_of_mem _ hr)
  exact ⟨f::l,rfl,fun g hg=>by rcases List.mem_cons.1 hg with rfl|hg;exact hf;exact hl g hg⟩
theorem sh_fls (h:Sh Tryz.prog B n 22 ds):∃ l:List Fl,ds=[.lst 3 (l.map flD)]∧l.length≤maxLen∧∀ f ∈ l,f.t.length≤B:=by
 cases n with
 | zero=>exact h.elim
 | succ n =>
  unfold Sh at h;rw[Tryz.underlying22] at h
  obtain ⟨rows,rfl,h1,_,h2⟩:=h
  obtain ⟨l,rfl,hl⟩:=map_of (g:=flD) (p:=fun f=>f.t.length≤B) fun r hr=>sh_fl (h2 r hr)
  exact ⟨l,by rw[show Tryz.prog.cellsOf 31=3 by kernel_rfl],by simpa using h1,hl⟩
end
theorem open_fls {H:Type} {enc:TypeId×Value→H} {W:World} {sp:Nat→Bool} {hd:Bool} {v:Value} {d:DataW H} {p:List MemPlace} {b0:Nat} (hv:Value.okWide Tryz.prog W .any b0 22 v) (h:DataW.Trod enc Tryz.prog W 0 sp hd 22 v d p)
 (hw:∀ m ∈ d.weights Tryz.prog 22,m≤reachBytes):∃ l:List Fl,DenD (fun _=>False) W (.lst 3 (l.map flD)) v∧l.length≤maxLen∧∀ f ∈ l,f.t.length≤reachBytes:=by
 obtain ⟨a,n,c,rfl⟩:=okWide_slice Tryz.underlying22 hv
 obtain ⟨f,hf⟩:=h
 obtain ⟨ds,h1,h2⟩:=sh_open (ts:=[22,31,28,3,9]) (by kernel_rfl) f _ _ _ hf (by decide) hw
 obtain ⟨l,rfl,h3,h4⟩:=sh_fls h2
 exact ⟨l,h1.1,h3,h4⟩
theorem var_maxLen {w:World} (h:w.ShapedOpen Tryz.prog):∃ m:Int,Holds1 w 3 [iD m]:=by
 have h0:((begin Tryz.prog (fun _ _=>0) default).world.heap[3]?).bind Obj.row?=some (#[.int .i64 0],3):=by kernel_rfl
 obtain ⟨m,hm⟩:=cell_of_shapedOpen_int (P:=Tryz.prog) (g:=3) (t:=3) (zero:=#[.int .i64 0]) h (of_decide_eq_true (by kernel_rfl)) h0 rfl (by kernel_rfl) (by kernel_rfl) Tryz.underlying3
 obtain ⟨⟨l⟩,hh,hs,_⟩:=h.1 3 _ _ (of_decide_eq_true (by kernel_rfl)) h0
 match l,hs with
 | [x],_ =>
  have:x=.int .i64 m:=by simpa[World.cell?,hh] using hm
  subst this
  exact ⟨m,[_],⟨_,_,hh⟩,.v _,trivial⟩
end Go.Proofs.YtcdjjjokniinkaaGreatDoor
end
section
namespace Go.Proofs.YtcdjjjokniinkaaGreatDoor
open Go Go.EYtcdjjjokniinkaaGreatDoor
abbrev rowC (p:Int×Int):List D:=[iD p.1,iD p.2]
end Go.Proofs.YtcdjjjokniinkaaGreatDoor
end
