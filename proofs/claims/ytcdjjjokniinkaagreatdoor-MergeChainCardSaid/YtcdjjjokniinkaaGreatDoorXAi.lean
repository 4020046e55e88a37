/- Proved: a part of what the law is proved with (the reckoner, contracts of functions, plain laws). Conditions: as each says. -/
import Derived.Deep.Slices
import Derived.OpenShut
import Derived.Test.YtcdjjjokniinkaaGreatDoorXAa
import Derived.Test.YtcdjjjokniinkaaGreatDoorXAh
import Derived.Test.YtcdjjjokniinkaaGreatDoorXAu
import Derived.Test.YtcdjjjokniinkaaGreatDoorXGi
import Derived.Test.YtcdjjjokniinkaaGreatDoorXGm
import Derived.Test.YtcdjjjokniinkaaGreatDoorXIe
import Derived.Test.YtcdjjjokniinkaaGreatDoorXIg
import Derived.Test.YtcdjjjokniinkaaGreatDoorXJr
import Derived.Test.YtcdjjjokniinkaaGreatDoorXPd
section
namespace Go.Proofs.YtcdjjjokniinkaaGreatDoor
open Go.ChangeShapes Go.WideShapes Go.ChangeAt Go.RowKit Go.EYtcdjjjokniinkaaGreatDoor
set_option linter.unusedVariables false
set_option maxRecDepth 100000
theorem strs_of_slice {H:Type} {enc:TypeId×Value→H} {P:Program} {w:World} {base:Nat} {sp:Nat→Bool} {held:Bool} {fuel:Nat} {t e:TypeId} {v:Value} {zs:List (List UInt8)} {rest:List (DataW H)} {p:List MemPlace}
 (ht:P.underlying t=some (.slice e)) (he:P.underlying e=some .string) (hc:P.cellsOf e=1) (hz:zs≠[])
 (h:DataW.trod enc P w base sp held fuel t [v]=some (.slice (zs.map fun z=>.lit (.string z)) rest,p)):DenD (fun _=>False) w (.lst 1 (zs.map fun z=>[D.str z])) v:=by
 rcases Go.Deep.open_slice1 ht hc h with ⟨_,h2⟩|⟨a,len,cap,m,n,V,DD,Pl,h1,hb,hl,hm,hmm,hx,hi⟩
 ·cases h2
 ·cases h1
  have hD:(List.range len).map DD=zs.map fun z=>(DataW.lit (.string z):DataW H):=by
   have:=congrArg Prod.fst hx
   simp only[DataW.slice.injEq] at this
   exact this.1.symm
  have hlen:len=zs.length:=by
   have:=congrArg List.length hD
   simpa using this
  have hle:len≤m:=by rw[hmm];split <;> omega
  have hV:∀ i (hi':i<zs.length),w.cell? (a.add i)=some (V i)∧V i=.string ⟨(zs[i]).toArray⟩:=fun i hi'=>by
   obtain ⟨h1,h2⟩:=hi i (by omega)
   obtain ⟨s,h3,h4,_⟩:=DataW.trod_string he h2
   refine ⟨h1,?_⟩
   have h5:V i=.string s:=by simpa using h3
   have h6:DD i=.lit (.string s.data.toList):=(Prod.mk.inj h4).1
   have h7:=congrArg (·[i]?) hD
   simp only[List.getElem?_map,List.getElem?_range (show i<len by omega),Option.map_some,List.getElem?_eq_getElem hi',h6,Option.some.injEq,DataW.lit.injEq,Lit.string.injEq] at h7
   rw[h5,← h7]
  obtain ⟨ab,ao,asp⟩:=a
  have h0:0<zs.length:=List.length_pos_iff.2 hz
  have hsp:asp=none:=by
   have:=(hV 0 h0).1
   unfold World.cell? at this
   cases asp with
   | none=>rfl
   | some q =>
    have e:(⟨ab,ao,some q⟩:Addr).add 0=⟨ab,ao,some q⟩:=by simp[Addr.add]
    rw[e] at this
    revert this
    simp only[]
    split <;> simp
  subst hsp
  have hbl:ab<w.heap.size:=by
   have:=World.block_lt_of_cell? w _ (hV 0 h0).1
   rw[addr_add] at this
   exact this
  have hlm:len=(zs.map fun z=>[D.str z]).length:=by simpa using hlen
  rw[hlm]
  refine DenD.lst 1 _ ab ao cap (fun i _=>V i) hbl (fun h=>h) (by rw[← hlm];exact hl) hm (fun e he=>?_) (fun i j d hg=>?_) (fun i j d hg=>?_)
  ·obtain ⟨z,_,rfl⟩:=List.mem_map.1 he;rfl
  ·unfold get2 at hg
   rw[List.getElem?_map] at hg
   cases hq:zs[i]? with
   | none=>rw[hq] at hg;cases hg
   | some z =>
    have hi':=(List.getElem?_eq_some_iff.1 hq).1
    rw[hq] at hg
    have hj:j=0:=by
     cases j with
     | zero=>rfl
     | succ j=>simp at hg
    subst hj
    have:=(hV i hi').1
    rw[addr_add] at this
    simpa using this
  ·unfold get2 at hg
   rw[List.getElem?_map] at hg
   cases hq:zs[i]? with
   | none=>rw[hq] at hg;cases hg
   | some z =>
    obtain ⟨hi',hz'⟩:=List.getElem?_eq_some_iff.1 hq
    rw[hq] at hg
    have hj:j=0:=by
     cases j with
     | zero=>rfl
     | succ j=>simp at hg
    subst hj
    have hd:d=.str z:=by simpa using hg.symm
    rw[hd,(hV i hi').2,hz']
    exact .str z
theorem var_loose {w:World} (h1:Lib.VarReads Tryz.prog w "sccsettle/formula.loose" Rows.laid_sccsettle_formula_loose):Holds1 w 1 lvAll:=by
 obtain ⟨g,t,cs,fuel,p,hg,ht,hv,hd⟩:=h1
 have e:(some g:Option Nat)=some 1:=hg.symm.trans (show Tryz.prog.globalNamed "sccsettle/formula.loose" = some 1 by kernel_rfl)
 cases e
 have e:(some t:Option Nat)=some 158:=ht.symm.trans (by kernel_rfl)
 cases e
 obtain ⟨xs,m,_,hx,hcl,hxl,hi⟩:=DataW.trod_array (n:=4) (e:=130) Tryz.underlying158 hd
 have hc1:Tryz.prog.cellsOf 130=1:=by kernel_rfl
 rw[show Tryz.prog.cellsOf 158=4 by kernel_rfl] at hcl
 simp only[hc1,Nat.mul_one] at hi
 have b1:=var_cells hg hv
 obtain ⟨csl⟩:=cs
 match csl,hcl with
 | [v0,v1,v2,v3],_ =>
  match xs,hxl with
  | [x0,x1,x2,x3],_ =>
   have hq:[x0.1,x1.1,x2.1,x3.1]=[DataW.slice [.lit (.string [60,62]),.lit (.string [60,61]),.lit (.string [62,61]),.lit (.string [61]),.lit (.string [60]),.lit (.string [62])] [],.slice [.lit (.string [38])] [],.slice [.lit (.string [43]),.lit (.string [45])] [],.slice [.lit (.string [42]),.lit (.string [47])] []]:=by
    have:=(Prod.mk.inj hx).1
    simpa[Rows.laid_sccsettle_formula_loose] using this.symm
   obtain ⟨q0,q0p⟩:=x0
   obtain ⟨q1,q1p⟩:=x1
   obtain ⟨q2,q2p⟩:=x2
   obtain ⟨q3,q3p⟩:=x3
   simp only[List.cons.injEq,and_true] at hq
   obtain ⟨rfl,rfl,rfl,rfl⟩:=hq
   have i0:=hi 0 (by decide)
   have i1:=hi 1 (by decide)
   have i2:=hi 2 (by decide)
   have i3:=hi 3 (by decide)
   have d0:=strs_of_slice (zs:=[[60,62],[60,61],[62,61],[61],[60],[62]]) Tryz.underlying130 Tryz.underlying9 (by kernel_rfl) (by simp) i0
   have d1:=strs_of_slice (zs:=[[38]]) Tryz.underlying130 Tryz.underlying9 (by kernel_rfl) (by simp) i1
   have d2:=strs_of_slice (zs:=[[43],[45]]) Tryz.underlying130 Tryz.underlying9 (by kernel_rfl) (by simp) i2
   have d3:=strs_of_slice (zs:=[[42],[47]]) Tryz.underlying130 Tryz.underlying9 (by kernel_rfl) (by simp) i3
   exact ⟨[v0,v1,v2,v3],b1,d0,d1,d2,d3,trivial⟩
end Go.Proofs.YtcdjjjokniinkaaGreatDoor
end
section
namespace Go.Proofs.YtcdjjjokniinkaaGreatDoor
open Go Go.EYtcdjjjokniinkaaGreatDoor
set_option maxRecDepth 100000
abbrev glM (te:TypeId) (pe:Value) (mx:Int):List (Nat×List D):=(1,lvAll)::(3,[iD mx])::glV te pe
theorem glM_has (te:TypeId) (pe:Value) (mx:Int):Has (glM te pe mx) (glV te pe):=by
 intro g l hl
 rw[look_cons]
 split
 ·rename_i e;subst e;exact absurd hl (by rw[show Go.EYtcdjjjokniinkaaGreatDoor.look (glV te pe) 1=none from rfl];simp)
 ·rw[look_cons]
  split
  ·rename_i e;subst e;exact absurd hl (by rw[show Go.EYtcdjjjokniinkaaGreatDoor.look (glV te pe) 3=none from rfl];simp)
  ·exact hl
end Go.Proofs.YtcdjjjokniinkaaGreatDoor
end
section
namespace Go.Proofs.YtcdjjjokniinkaaGreatDoor
open Go Go.EYtcdjjjokniinkaaGreatDoor
set_option maxRecDepth 100000
theorem MergeChain_g (te:TypeId) (pe:Value) (mx:Int) (a b c:List Fl):FnP Tryz.prog (glM te pe mx) 3 [.lst 3 (a.map flD),.lst 3 (b.map flD),.lst 3 (c.map flD)] (.v (.bool true)):=by
 obtain ⟨rf,hR,_⟩:=refs_ok
 exact MergeChain_d te pe (glM_has te pe mx) rfl hR (fun m hm=>Sort_x m (by omega)) a b c
end Go.Proofs.YtcdjjjokniinkaaGreatDoor
end
