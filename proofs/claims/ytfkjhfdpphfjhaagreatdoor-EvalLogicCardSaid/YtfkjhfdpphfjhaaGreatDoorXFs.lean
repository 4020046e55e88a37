/- Proved: a part of what the law is proved with (the reckoner, contracts of functions, plain laws). Conditions: as each says. -/
import Derived.Deep.Slices
import Derived.OpenShut
import Derived.Test.YtfkjhfdpphfjhaaGreatDoorXBa
import Derived.Test.YtfkjhfdpphfjhaaGreatDoorXFp
import Derived.Test.YtfkjhfdpphfjhaaGreatDoorXGl
import Derived.Test.YtfkjhfdpphfjhaaGreatDoorXGm
import Derived.Test.YtfkjhfdpphfjhaaGreatDoorXIe
import Derived.Test.YtfkjhfdpphfjhaaGreatDoorXKg
import Derived.Test.YtfkjhfdpphfjhaaGreatDoorXKk
import Derived.Test.YtfkjhfdpphfjhaaGreatDoorXLaysB
import Derived.Test.YtfkjhfdpphfjhaaGreatDoorXOa
import Derived.Test.YtfkjhfdpphfjhaaGreatDoorXOf
import Derived.Test.YtfkjhfdpphfjhaaGreatDoorXPe
import Derived.Test.YtfkjhfdpphfjhaaGreatDoorXSg
namespace Go.Proofs.YtfkjhfdpphfjhaaGreatDoor
set_option maxRecDepth 100000
section
open Go.ChangeShapes Go.WideShapes Go.ChangeAt Go.RowKit Go.EYtfkjhfdpphfjhaaGreatDoor
set_option linter.unusedVariables false
theorem strs_of_slice {H:Type} {enc:TypeId×Value→H} {P:Program} {w:World} {base:Nat} {sp:Nat→Bool} {held:Bool} {fuel:Nat} {t e:TypeId} {v:Value} {zs:List (List UInt8)} {rest:List (DataW H)} {p:List MemPlace}
 (ht:P.underlying t=some (.slice e)) (he:P.underlying e=some .string) (hc:P.cellsOf e=1) (hz:zs≠[])
 (h:DataW.trod enc P w base sp held fuel t [v]=some (.slice (zs.map fun z=>.lit (.string z)) rest,p)):DenD (fun _=>False) w (.lst 1 (zs.map fun z=>[D.str z])) v:=by
 rcases Go.Deep.open_slice1 ht hc h with ⟨_,h2⟩|⟨a,len,cap,m,n,V,DD,Pl,h1,hb,hl,hm,hmm,hx,hi⟩
 ·cases h2
 ·cases h1
  have hD:(List.range len).map DD=zs.map fun z=>(DataW.lit (.string z):DataW H):=by
   have:=congrArg Prod.fst hx
   simp only[DataW.slice.injEq] at this
   exact this.1.symm
  have hlen:len=zs.length:=by
   have:=congrArg List.length hD
   simpa using this
  have hle:len≤m:=by rw[hmm];split <;> omega
  have hV:∀ i (hi':i<zs.length),w.cell? (a.add i)=some (V i)∧V i=.string ⟨(zs[i]).toArray⟩:=fun i hi'=>by
   obtain ⟨h1,h2⟩:=hi i (by omega)
   obtain ⟨s,h3,h4,_⟩:=DataW.trod_string he h2
   refine ⟨h1,?_⟩
   have h5:V i=.string s:=by simpa using h3
   have h6:DD i=.lit (.string s.data.toList):=(Prod.mk.inj h4).1
   have h7:=congrArg (·[i]?) hD
   simp only[List.getElem?_map,List.getElem?_range (show i<len by omega),Option.map_some,List.getElem?_eq_getElem hi',h6,Option.some.injEq,DataW.lit.injEq,Lit.string.injEq] at h7
   rw[h5,← h7]
  obtain ⟨ab,ao,asp⟩:=a
  have h0:0<zs.length:=List.length_pos_iff.2 hz
  have hsp:asp=none:=by
   have:=(hV 0 h0).1
   unfold World.cell? at this
   cases asp with
   | none=>rfl
   | some q =>
    have e:(⟨ab,ao,some q⟩:Addr).add 0=⟨ab,ao,some q⟩:=by simp[Addr.add]
    rw[e] at this
    revert this
    simp only[]
    split <;> simp
  subst hsp
  have hbl:ab<w.heap.size:=by
   have:=World.block_lt_of_cell? w _ (hV 0 h0).1
   rw[addr_add] at this
   exact this
  have hlm:len=(zs.map fun z=>[D.str z]).length:=by simpa using hlen
  rw[hlm]
  refine DenD.lst 1 _ ab ao cap (fun i _=>V i) hbl (fun h=>h) (by rw[← hlm];exact hl) hm (fun e he=>?_) (fun i j d hg=>?_) (fun i j d hg=>?_)
  ·obtain ⟨z,_,rfl⟩:=List.mem_map.1 he;rfl
  ·unfold get2 at hg
   rw[List.getElem?_map] at hg
   cases hq:zs[i]? with
   | none=>rw[hq] at hg;cases hg
   | some z =>
    have hi':=(List.getElem?_eq_some_iff.1 hq).1
    rw[hq] at hg
    have hj:j=0:=by
     cases j with
     | zero=>rfl
     | succ j=>simp at hg
    subst hj
    have:=(hV i hi').1
    rw[addr_add] at this
    simpa using this
  ·unfold get2 at hg
   rw[List.getElem?_map] at hg
   cases hq:zs[i]? with
   | none=>rw[hq] at hg;cases hg
   | some z =>
    obtain ⟨hi',hz'⟩:=List.getElem?_eq_some_iff.1 hq
    rw[hq] at hg
    have hj:j=0:=by
     cases j with
     | zero=>rfl
     | succ j=>simp at hg
    subst hj
    have hd:d=.str z:=by simpa using hg.symm
    rw[hd,(hV i hi').2,hz']
    exact .str z
theorem var_loose {w:World} (h1:Lib.VarReads Tryz.prog w "sccsettle/formula.loose" Rows.laid_sccsettle_formula_loose):Holds1 w 0 lvAll:=by
 obtain ⟨g,t,cs,fuel,p,hg,ht,hv,hd⟩:=h1
 have e:(some g:Option Nat)=some 0:=hg.symm.trans (show Tryz.prog.globalNamed "sccsettle/formula.loose" = some 0 by kernel_rfl)
 cases e
 have e:(some t:Option Nat)=some 105:=ht.symm.trans (by kernel_rfl)
 cases e
 obtain ⟨xs,m,_,hx,hcl,hxl,hi⟩:=DataW.trod_array (n:=4) (e:=54) Tryz.underlying105 hd
 have hc1:Tryz.prog.cellsOf 54=1:=by kernel_rfl
 rw[show Tryz.prog.cellsOf 105=4 by kernel_rfl] at hcl
 simp only[hc1,Nat.mul_one] at hi
 have b1:=var_cells hg hv
 obtain ⟨csl⟩:=cs
 match csl,hcl with
 | [v0,v1,v2,v3],_ =>
  match xs,hxl with
  | [x0,x1,x2,x3],_ =>
   have hq:[x0.1,x1.1,x2.1,x3.1]=[DataW.slice [.lit (.string [60,62]),.lit (.string [60,61]),.lit (.string [62,61]),.lit (.string [61]),.lit (.string [60]),.lit (.string [62])] [],.slice [.lit (.string [38])] [],.slice [.lit (.string [43]),.lit (.string [45])] [],.slice [.lit (.string [42]),.lit (.string [47])] []]:=by
    have:=(Prod.mk.inj hx).1
    simpa[Rows.laid_sccsettle_formula_loose] using this.symm
   obtain ⟨q0,q0p⟩:=x0
   obtain ⟨q1,q1p⟩:=x1
   obtain ⟨q2,q2p⟩:=x2
   obtain ⟨q3,q3p⟩:=x3
   simp only[List.cons.injEq,and_true] at hq
   obtain ⟨rfl,rfl,rfl,rfl⟩:=hq
   have i0:=hi 0 (by decide)
   have i1:=hi 1 (by decide)
   have i2:=hi 2 (by decide)
   have i3:=hi 3 (by decide)
   have d0:=strs_of_slice (zs:=[[60,62],[60,61],[62,61],[61],[60],[62]]) Tryz.underlying54 Tryz.underlying9 (by kernel_rfl) (by simp) i0
   have d1:=strs_of_slice (zs:=[[38]]) Tryz.underlying54 Tryz.underlying9 (by kernel_rfl) (by simp) i1
   have d2:=strs_of_slice (zs:=[[43],[45]]) Tryz.underlying54 Tryz.underlying9 (by kernel_rfl) (by simp) i2
   have d3:=strs_of_slice (zs:=[[42],[47]]) Tryz.underlying54 Tryz.underlying9 (by kernel_rfl) (by simp) i3
   exact ⟨[v0,v1,v2,v3],b1,d0,d1,d2,d3,trivial⟩
end
section
open Go Go.EYtfkjhfdpphfjhaaGreatDoor
set_option maxHeartbeats 4000000
variable {gl:List (Nat×List D)}
theorem prZ_y {rf:List UInt8→Option Rf} {n:Nd} (h:(prZ rf n).2=0):(prZ rf n).1=61::wrN n∧cntN n≤200∧frmN n False:=by
 by_cases h1:cntN n≤200
 ·by_cases h2:frmN n False
  ·rw[prZ_w h1 h2] at h ⊢
   cases hp:parseZ rf (61::wrN n) with
   | no a e=>rw[hp] at h;cases h
   | ok m i=>exact ⟨rfl,h1,h2⟩
  ·rw[prZ_f h1 h2] at h;cases h
 ·rw[prZ_k h1] at h;cases h
theorem prZ_p {rf:List UInt8→Option Rf} {n:Nd} (h:(prZ rf n).2=0):∃ m i,parseZ rf (61::wrN n)=.ok m i:=by
 obtain ⟨-,h1,h2⟩:=prZ_y h
 rw[prZ_w h1 h2] at h
 cases hp:parseZ rf (61::wrN n) with
 | no a e=>rw[hp] at h;cases h
 | ok m i=>exact ⟨m,i,rfl⟩
theorem prZ_s {rf:List UInt8→Option Rf} {n:Nd} (h1:frmN n False) (h2:cntN n≤200) (h:∃ i,parseZ rf (61::wrN n)=.ok n i):prZ rf n=(61::wrN n,0):=by
 obtain ⟨i,h⟩:=h
 rw[prZ_w h2 h1,h]
end
section
open Go Go.EYtfkjhfdpphfjhaaGreatDoor
theorem index_le:∀ (s t:List UInt8),Lib.index s t≤s.length
 | [],t=>by unfold Lib.index;split <;> simp
 | b::l,t=>by
  have:=index_le l t
  unfold Lib.index
  split
  ·simp;omega
  ·split
   ·simp;omega
   ·simp;omega
theorem index_okI (x y:List UInt8) (h:x.length≤200):okI (Lib.index x y+1):=by
 have h1:=index_le x y
 have h2:=Lib.index_ge x y
 show -9223372036854775808≤_∧_
 omega
theorem len_br (s:List UInt8) (p:Prop) [Decidable p]:s.length≤(brN s p).length:=by
 unfold brN
 split
 ·simp
  omega
 ·exact Nat.le_refl _
theorem len_com:∀ {l:List (List UInt8)} {s:List UInt8},s ∈ l→s.length≤(comN l).length
 | [x],s,h=>by rw[List.mem_singleton.1 h];simp[comN]
 | x::y::l,s,h=>by
  rw[comN_cons]
  rcases List.mem_cons.1 h with rfl|h
  ·simp
  ·have:=len_com h
   simp;omega
theorem kid_wr {k m:Int} {t:List UInt8} {a b:Rf} {ks:List Nd} {box:Prop} (hf:frmN (.mk k m t a b ks) box):∀ x (h:x<ks.length),(wrN ks[x]).length≤(wrN (.mk k m t a b ks)).length:=fun x h=>by
 by_cases h7:k=7
 ·subst h7
  rw[frm_7] at hf
  match ks,hf.1,x,h with
  | [y],_,0,_ =>
   have:=len_br (wrN y) (tgtN y<5)
   simp[wrN,wrL,wr7]
   omega
 by_cases h8:k=8
 ·subst h8
  rw[frm_8] at hf
  match ks,hf.1,x,h with
  | [y,z],_,0,_ =>
   have:=len_br (wrN y) (tgtN y<tgtN (.mk 8 m t a b [y,z]))
   simp[wrN,wrL,wr8]
   omega
  | [y,z],_,1,_ =>
   have:=len_br (wrN z) (tgtN z≤tgtN (.mk 8 m t a b [y,z]))
   simp[wrN,wrL,wr8]
   omega
 by_cases h9:k=9
 ·subst h9
  have h1:wrN ks[x] ∈ wrL ks:=by rw[← wrL_get h];exact List.getElem_mem _
  have:=len_com h1
  simp[wrN]
  omega
 exfalso
 unfold frmN at hf
 omega
theorem dqN_ge:∀ t:List UInt8,t.length≤(dqN t).length
 | []=>Nat.le_refl _
 | c::r=>by
  have:=dqN_ge r
  unfold dqN
  split <;> simp <;> omega
theorem box_ok {ev:Int→Int→Vl} (hev:∀ c r,(ev c r).ok) {a b:Rf} (ha:okP a.c a.r) (hb:okP b.c b.r):(boxA ev a b).ok:=by
 refine ⟨fun v hv=>?_,?_,?_⟩
 ·obtain ⟨p,_,rfl⟩:=List.mem_map.1 hv
  exact hev _ _
 ·rw[List.length_map];exact boxC_len ha hb
 ·obtain ⟨h1,h2,h3,h4⟩:=ha
  obtain ⟨h5,h6,h7,h8⟩:=hb
  omega
theorem evA_ok {ev:Int→Int→Vl} (hev:∀ c r,(ev c r).ok) (n:Nd):∀ {box:Prop},frmN n box→cntN n≤200→(wrN n).length≤200→okN n→(evA ev n).ok:=by
 match n with
 | .mk k m t a b ks =>
  intro box hf hc hw ho
  have hcx:∀ x (h:x<ks.length),cntN ks[x]≤200:=fun x h=>by
   have h1:=cntL_take h
   have h2:=cntL_le ks (x+1)
   unfold cntN at hc
   omega
  have hfx:=frm_kid hf
  have hwx:=kid_wr hf
  have ho':okI m∧t.length≤1048576∧okL ks:=by unfold okN at ho;exact ho
  obtain ⟨hm,_,hol⟩:=ho'
  have ih:∀ x (h:x<ks.length),(evA ev ks[x]).ok:=fun x h=>evA_ok hev ks[x] (hfx x h).choose_spec (hcx x h) (Nat.le_trans (hwx x h) hw) (okL_get hol h)
  have has:∀ a ∈ evK ev ks,a.ok:=fun a ha=>by
   rw[evK_map] at ha
   obtain ⟨n,hn,rfl⟩:=List.mem_map.1 ha
   obtain ⟨x,hx,rfl⟩:=List.getElem_of_mem hn
   exact ih x hx
  have hlen:(evK ev ks).length≤200:=by
   rw[evK_map,List.length_map]
   have:=len_cnt ks
   unfold cntN at hc
   omega
  rw[evA]
  unfold nodeA
  split
  ·rename_i h6
   subst h6
   rw[frm_6] at hf
   exact box_ok hev hf.2.2.2.2.1 hf.2.2.2.2.2
  ·show (nodeV ev k m t a (evK ev ks)).ok
   unfold nodeV
   split
   ·exact ok_num hm
   split
   ·rename_i h2
    subst h2
    refine ok_txt ?_
    have:=dqN_ge t
    simp[wrN] at hw
    omega
   split
   ·exact ok_truD _
   split
   ·rename_i h4
    subst h4
    rw[frm_4] at hf
    exact ok_bad hf.2.2.2.1 hf.2.2.2.2
   split
   ·exact hev _ _
   split
   ·exact neg_ok (Ar.v_ok (aI_ok has 0))
   split
   ·exact twoV_ok m (Ar.v_ok (aI_ok has 0)) (Ar.v_ok (aI_ok has 1))
   split
   ·exact callV_ok t has hlen fun x y h=>index_okI x y h
   ·exact ok_wr
termination_by SizeOf.sizeOf n
decreasing_by
 simp only[Nd.mk.sizeOf_spec]
 have:=List.sizeOf_lt_of_mem (List.getElem_mem h)
 omega
theorem prZ_small {n:Nd} (hf:frmN n False) (ho:okN n) (hc:cntN n≤200) (hd:depN n≤30) (hw:(wrN n).length≤199):prZ rfZ n=(61::wrN n,0):=by
 refine prZ_s hf hc ⟨0,?_⟩
 unfold parseZ
 rw[if_neg (by simp;omega),List.head?_cons,if_pos rfl]
 exact (parse_wr pbZ hf ho).1 hd
theorem prZ_len {n:Nd} (h:(prZ rfZ n).2=0):(wrN n).length≤199:=by
 obtain ⟨m,i,hp⟩:=prZ_p h
 unfold parseZ at hp
 split at hp
 ·cases hp
 ·simp at *;omega
end
section
open Go Go.EYtfkjhfdpphfjhaaGreatDoor
structure Shw where
 c:Int
 r:Int
 v:Vl
 st:Int
 rd:Int
abbrev shwD (x:Shw):List D:=[iD x.c,iD x.r,iD x.v.k,iD x.v.n,.str x.v.s,iD x.st,iD x.rd]
def evS (f:Int→Int→Vl) (x:Shw):Int→Int→Vl:=fun c r=>if c=x.c∧r=x.r then x.v else f c r
def evF (l:List Shw):Int→Int→Vl:=l.foldl evS fun _ _=>⟨0,0,[]⟩
theorem evF_take {l:List Shw} {k:Nat} (h:k<l.length):evF (l.take (k+1))=evS (evF (l.take k)) l[k]:=by
 unfold evF
 rw[List.take_succ_eq_append_getElem h,List.foldl_append]
 rfl
theorem evF_inv {p:Vl→Prop}:∀ (l:List Shw) (f:Int→Int→Vl),(∀ c r,p (f c r))→(∀ x ∈ l,p x.v)→∀ c r,p (l.foldl evS f c r)
 | [],f,hf,_,c,r=>hf c r
 | x::l,f,hf,hl,c,r=>evF_inv l (evS f x) (fun c r=>by unfold evS;split;exact hl x (by simp);exact hf c r) (fun y hy=>hl y (by simp[hy])) c r
theorem evF_ok {l:List Shw} (h:∀ x ∈ l,x.v.ok) (c r:Int):(evF l c r).ok:=evF_inv l _ (fun _ _=>ok_blank) h c r
structure MapOk (ks:List (Int×Int)) (vs:List Vl) (ev:Int→Int→Vl):Prop where
 nd:ks.Nodup
 len:ks.length=vs.length
 at':∀ c r,(∃ (i:Nat),ks[i]?=some (c,r)∧vs[i]?=some (ev c r))∨((c,r) ∉ ks∧ev c r=⟨0,0,[]⟩)
theorem MapOk.nil:MapOk [] [] fun _ _=>⟨0,0,[]⟩:=⟨List.nodup_nil,rfl,fun _ _=>.inr ⟨by simp,rfl⟩⟩
theorem MapOk.push {ks:List (Int×Int)} {vs:List Vl} {ev:Int→Int→Vl} (h:MapOk ks vs ev) (x:Shw) (hx:(x.c,x.r) ∉ ks):MapOk (ks++[(x.c,x.r)]) (vs++[x.v]) (evS ev x) where
 nd:=List.nodup_append.2 ⟨h.nd,by simp,fun a ha b hb he=>hx (by rw[List.mem_singleton.1 hb] at he;exact he ▸ ha)⟩
 len:=by simp[h.len]
 at':=fun c r=>by
  unfold evS
  by_cases hc:c=x.c∧r=x.r
  ·rw[if_pos hc]
   refine .inl ⟨ks.length,?_,?_⟩
   ·rw[List.getElem?_append_right (Nat.le_refl _),hc.1,hc.2];simp
   ·rw[List.getElem?_append_right (by rw[h.len];exact Nat.le_refl _),h.len];simp
  ·rw[if_neg hc]
   rcases h.at' c r with ⟨i,h1,h2⟩|⟨h1,h2⟩
   ·refine .inl ⟨i,?_,?_⟩
    ·rw[List.getElem?_append_left (List.getElem?_eq_some_iff.1 h1).1];exact h1
    ·rw[List.getElem?_append_left (List.getElem?_eq_some_iff.1 h2).1];exact h2
   ·refine .inr ⟨fun hm=>?_,h2⟩
    rcases List.mem_append.1 hm with hm|hm
    ·exact h1 hm
    ·have:=List.mem_singleton.1 hm
     exact hc ⟨congrArg Prod.fst this,congrArg Prod.snd this⟩
theorem MapOk.set {ks:List (Int×Int)} {vs:List Vl} {ev:Int→Int→Vl} (h:MapOk ks vs ev) (x:Shw) {i:Nat} (hx:ks[i]?=some (x.c,x.r)):MapOk ks (vs.set i x.v) (evS ev x) where
 nd:=h.nd
 len:=by simp[h.len]
 at':=fun c r=>by
  have hi:i<ks.length:=(List.getElem?_eq_some_iff.1 hx).1
  unfold evS
  by_cases hc:c=x.c∧r=x.r
  ·rw[if_pos hc]
   refine .inl ⟨i,by rw[hc.1,hc.2];exact hx,?_⟩
   rw[List.getElem?_set_self (by rw[← h.len];exact hi)]
  ·rw[if_neg hc]
   rcases h.at' c r with ⟨j,h1,h2⟩|⟨h1,h2⟩
   ·refine .inl ⟨j,h1,?_⟩
    by_cases hij:i=j
    ·subst hij
     rw[hx] at h1
     cases h1
     exact absurd ⟨rfl,rfl⟩ hc
    ·rw[List.getElem?_set_ne hij];exact h2
   ·exact .inr ⟨h1,h2⟩
end
section
open Go Go.ChangeShapes Go.WideShapes Go.ChangeAt Go.RowKit Go.EYtfkjhfdpphfjhaaGreatDoor
set_option linter.unusedVariables false
abbrev vlR (v:Vl):List D:=[iD v.k,iD v.n,.str v.s]
abbrev inV (v:Vl):Prop:=okI v.n∧v.s.length≤140737488355328
section
variable {B n:Nat} {ds:List D}
theorem sh_vl (h:Sh Tryz.prog B n 31 ds):∃ v:Vl,ds=vlR v∧okI v.n∧v.s.length≤B:=by
 cases n with
 | zero=>exact h.elim
 | succ n =>
  unfold Sh at h;rw[Tryz.underlying31] at h
  obtain ⟨dss,h1,h2⟩:=h
  match dss,h2 with
  | [x,y,z],h2 =>
   obtain ⟨k,rfl,_⟩:=sh_int h2.1
   obtain ⟨m,rfl,hm⟩:=sh_int h2.2.1
   obtain ⟨s,rfl,hs⟩:=sh_str h2.2.2.1
   exact ⟨⟨k,m,s⟩,by simpa using h1,okI_of_wf hm,hs⟩
theorem sh_vls (h:Sh Tryz.prog B n 46 ds):∃ l:List Vl,ds=[.lst 3 (l.map vlR)]∧l.length≤maxLen∧∀ v ∈ l,okI v.n∧v.s.length≤B:=by
 cases n with
 | zero=>exact h.elim
 | succ n =>
  unfold Sh at h;rw[Tryz.underlying46] at h
  obtain ⟨rows,rfl,h1,_,h2⟩:=h
  obtain ⟨l,rfl,hl⟩:=map_of (g:=vlR) (p:=fun v=>okI v.n∧v.s.length≤B) fun r hr=>sh_vl (h2 r hr)
  exact ⟨l,by rw[show Tryz.prog.cellsOf 31=3 by kernel_rfl],by simpa using h1,hl⟩
end
theorem open_vls {H:Type} {enc:TypeId×Value→H} {W:World} {sp:Nat→Bool} {hd:Bool} {v:Value} {d:DataW H} {p:List MemPlace} {b0:Nat} (hv:Value.okWide Tryz.prog W .any b0 46 v) (h:DataW.Trod enc Tryz.prog W 0 sp hd 46 v d p)
 (hw:∀ m ∈ d.weights Tryz.prog 46,m≤reachBytes):∃ l:List Vl,DenD (fun _=>False) W (.lst 3 (l.map vlR)) v∧l.length≤maxLen∧∀ v ∈ l,inV v:=by
 obtain ⟨a,n,c,rfl⟩:=okWide_slice Tryz.underlying46 hv
 obtain ⟨f,hf⟩:=h
 obtain ⟨ds,h1,h2⟩:=sh_open (ts:=[46,31,3,9]) (by kernel_rfl) f _ _ _ hf (by decide) hw
 obtain ⟨l,rfl,h3,h4⟩:=sh_vls h2
 exact ⟨l,h1.1,h3,fun v hv=>⟨(h4 v hv).1,Nat.le_trans (h4 v hv).2 (by decide)⟩⟩
end
end Go.Proofs.YtfkjhfdpphfjhaaGreatDoor
