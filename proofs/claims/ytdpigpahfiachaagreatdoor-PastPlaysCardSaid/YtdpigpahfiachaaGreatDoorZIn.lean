/- Proved: a part of what the law is proved with (the reckoner, contracts of functions, plain laws). Conditions: as each says. -/
import Derived.Deep.Slices
import Derived.OpenShut
import Derived.Test.YtdpigpahfiachaaGreatDoorZFv
import Derived.Test.YtdpigpahfiachaaGreatDoorZIg
import Derived.Test.YtdpigpahfiachaaGreatDoorZIk
import Derived.Test.YtdpigpahfiachaaGreatDoorZPd
section
namespace Go.Proofs.YtdpigpahfiachaaGreatDoor
open Go Go.EYtdpigpahfiachaaGreatDoor
set_option maxRecDepth 100000
set_option maxHeartbeats 4000000
variable {gl:List (Nat×List D)}
theorem loose_all {s:List UInt8} {d:Nat} {one:Nat→Rs Nd} (hd:d≤30) (hs:s.length≤200) (hf:Fwd s one)
 (h1:∀ j,j≤s.length→GivesP gl 90 [.c (.ptr 0 0)] s j d d (one j)):∀ (k least:Nat),5≤k+least→least≤5→∀ i,i≤s.length→GivesP gl 47 [.c (.ptr 0 0),.c (.d (iD (least:Int)))] s i d d (Lo s one k least i)
 | 0,least,hk,hl,i,hi=>by
  obtain rfl:least=5:=by omega
  refine loose_l (sub:=fun op=>Lo s one 0 (tgt op+1)) hd hs hf (fun op=>Lo_fwd hf 0 _) hi h1 (fun op j h _=>absurd (tgt_le op) (by omega)) ?_
  exact Lo_more 0 5 i (by omega)
 | k+1,least,hk,hl,i,hi =>
  loose_l (sub:=fun op=>Lo s one k (tgt op+1)) hd hs hf (fun op=>Lo_fwd hf k _) hi h1 (fun op j h hj=>loose_all hd hs hf h1 k (tgt op+1) (by omega) (by have:=tgt_le op;omega) j hj) rfl
theorem oneB_fwd {p:Par} {s:List UInt8} (d:Nat):Fwd s (oneB p s d):=by
 have e:oneB p s d=oneA p s d:=by funext i;exact (one_eq d i).symm
 rw[e]
 exact oneA_fwd d
theorem one_all {rf:List UInt8→Option Rf} (hR:RefsOk rf) (hE:rf []=none) {s:List UInt8} (hs:s.length≤200) :
 ∀ (x d:Nat),d+x=30→∀ i,i≤s.length→GivesP gl 90 [.c (.ptr 0 0)] s i d d (oneB (parZ rf) s x i)
 | 0,d,hd,i,hi=>by
  obtain rfl:d=30:=by omega
  exact one_d hR hs (Nat.le_refl _) hi no_fwd (fun h=>absurd h (by omega)) (fun h=>absurd h (by omega)) (fun h=>absurd h (by omega))
 | x+1,d,hd,i,hi=>by
  have ih:=one_all hR hE hs x (d+1) (by omega)
  have hf1:=oneB_fwd (p:=parZ rf) (s:=s) x
  have h2:=loose_all (by omega) hs hf1 ih 4 1 (by omega) (by omega)
  have hf:=Lo_fwd hf1 4 1
  have:=one_d hR hs (show d≤30 by omega) hi hf (fun _=>ih) (fun _=>h2) (fun hd w k hk=>rcall_d hR hE hk hs hd hf (fun i=>Lo_skp _ _ _ _ _) h2)
  rw[show decide (d=30)=false from decide_eq_false (by omega)] at this
  exact this
def rparseD:Rs Nd→D
 | .ok n _=>.tup [.agg n.cs,iD 0,iD 0]
 | .no a e=>.tup [.agg n00.cs,iD (a:Int),iD e]
theorem rn00 {i e:Int} {f:Nat} {ds:List D} (h:Go.EYtdpigpahfiachaaGreatDoor.Fn Tryz.prog gl f (ds.map vD) [] 0 (.ret (.tup [(true,[.d (iD 0),.d (iD 0),.d (.str []),.d (iD 0),.d (iD 0),.d (.v (.bool false)),.d (.v (.bool false)),.d (iD 0),.d (iD 0),.d (.v (.bool false)),.d (.v (.bool false)),.d (.v (.slice none 0 0))]),(false,[.d (iD i)]),(false,[.d (iD e)])])) [] 0 []):FnP Tryz.prog gl f ds (.tup [.agg n00.cs,iD i,iD e]) :=
 FnP.le (fnP_of_fn h rfl) (LeD.tup (LeD.cons n00_le (LeD.cons LeD.rfl (LeD.cons LeD.rfl LeD.nil))))
theorem rParse_d {rf:List UInt8→Option Rf} (hR:RefsOk rf) (hE:rf []=none) (s:List UInt8):FnP Tryz.prog gl 15 [.str s] (rparseD (parseZ rf s)):=by
 unfold parseZ
 by_cases h200:200<s.length
 ·rw[if_pos h200]
  have h1:((s.length:Nat):Int)>200:=by omega
  refine rn00 ?_
  refine fn_of_vc (nv:=9999) (cu:=[]) fits mixed Tryz.func15 rfl hoB rfl rfl rfl rfl ?_
  ((repeat' ((conv=>whnf);first|exact .intro|refine .ya ?_|refine .na ?_|refine .ys ?_|refine .ns ?_|refine .neg (fun _=>?_) (fun _=>?_)|refine .mk (fun _=>?_) (fun _=>?_)|refine .mk ?_ ?_|refine AK ?_|refine AT ?_|fail));all_goals conv=>whnf)
  ((repeat' first|exact rfl|((conv=>whnf);first|done|exact suL|refine And.intro ?_ ?_|fail));all_goals conv=>whnf)
 ·rw[if_neg h200]
  have h1:¬ ((s.length:Nat):Int)>200:=by omega
  have hs:s.length≤200:=by omega
  cases s with
  | nil =>
   rw[if_neg (by simp)]
   refine rn00 ?_
   refine fn_of_vc (nv:=9999) (cu:=[]) fits mixed Tryz.func15 rfl hoB rfl rfl rfl rfl ?_
   ((repeat' ((conv=>whnf);first|exact .intro|refine .ya ?_|refine .na ?_|refine .ys ?_|refine .ns ?_|refine .neg (fun _=>?_) (fun _=>?_)|refine .mk (fun _=>?_) (fun _=>?_)|refine .mk ?_ ?_|refine AK ?_|refine AT ?_|fail));all_goals conv=>whnf)
   ((repeat' first|exact rfl|((conv=>whnf);first|done|exact suL|refine And.intro ?_ ?_|fail));all_goals conv=>whnf)
  | cons c r =>
   have hn:¬ c::r=(⟨#[]⟩:ByteArray).data.toList:=by simp
   have hl0:(0:Int)<(((c::r).length:Nat):Int):=Int.natCast_pos.2 (Nat.succ_pos _)
   by_cases h61:(c::r).head?=some 61
   ·rw[if_pos h61]
    have hl1:1≤(c::r).length:=by simp
    have hc:c=61:=by simpa using h61
    have h2:¬ ¬ ((((c::r).getD (0:Int).toNat 0).toNat:Nat):Int)=61:=fun h=>h (by subst hc;rfl)
    rw[all_eq 30 hl1]
    have hone:=one_all (gl:=gl) hR hE hs 30 0 rfl
    have c1:=loose_all (by omega) hs (oneB_fwd (p:=parZ rf) 30) hone 4 1 (by omega) (by omega) 1 hl1
    have hf:=Lo_fwd (oneB_fwd (p:=parZ rf) (s:=c::r) 30) 4 1
    generalize c::r=s at *
    unfold allF
    cases hx:Lo s (oneB (parZ rf) s 30) 4 1 1 with
    | no a e =>
     rw[hx] at c1
     simp only[Rs.bind_no]
     obtain ⟨m,J,X,hJ,he,c1⟩:=c1
     have he':¬ e=0:=he
     have c2:=tok_d (gl:=gl) hJ hs
     generalize tokZ s J=tk at *
     obtain ⟨K1,K2,K3,K4⟩:=tk
     change FnP Tryz.prog gl 48 _ (.agg [iD (K1:Int),iD ((K2:Nat):Int),iD ((K3:Nat):Int),.str K4]) at c2
     obtain ⟨k1,m1,t1,a1,b1,ks1⟩:=m
     refine rn00 ?_
     refine fn_of_vc (nv:=9999) (cu:=[]) fits mixed Tryz.func15 rfl hoB rfl rfl rfl rfl ?_
     ((repeat' ((conv=>whnf);first|exact .intro|refine .ya ?_|refine .na ?_|refine .ys ?_|refine .ns ?_|refine .neg (fun _=>?_) (fun _=>?_)|refine .mk (fun _=>?_) (fun _=>?_)|refine .inr (X5 (c1.r [1] _) ?_)|refine .inl (.inr (X5 (c1.r [1] _) ?_))|refine .inl (X5 (c1.r [1] _) ?_)|refine .inl (.inl (X1 (c2) ?_))|refine .inl (X1 (c2) ?_)|refine X1 (c2) ?_|(refine ⟨⟨Int.le_refl _,hl0⟩,?_⟩)|refine .mk ?_ ?_|refine AK ?_|refine AT ?_|fail));all_goals conv=>whnf)
     ((repeat' first|exact rfl|((conv=>whnf);first|done|exact suL|refine And.intro ?_ ?_|fail));all_goals conv=>whnf)
    | ok n j =>
     rw[hx] at c1
     unfold GivesP at c1
     simp only[Rs.bind_ok]
     have hj:=(hf _ _ _ hl1 hx).2
     have c2:=tok_d (gl:=gl) hj hs
     have hte:=tok_end hj
     have hta:=tok_a s j
     generalize tokZ s j=tk at *
     obtain ⟨K1,K2,K3,K4⟩:=tk
     simp only at hte hta
     subst hta
     change FnP Tryz.prog gl 48 _ (.agg [iD (K1:Int),iD ((skp s j:Nat):Int),iD ((K3:Nat):Int),.str K4]) at c2
     have c3:=pfail_0 (gl:=gl) s j (skp s j) ((0:Nat):Int) 2
     obtain ⟨k1,m1,t1,a1,b1,ks1⟩:=n
     by_cases hend:skp s j=s.length
     ·rw[if_pos hend]
      have h3:¬ ¬ ((K1:Nat):Int)=0:=fun h=>h (by have:=hte.2 hend;omega)
      have h3':((K1:Nat):Int)=0:=by have:=hte.2 hend;omega
      generalize skp s j=y at *
      refine fnP_of_fn (v:=.tup [(true,ndC (.mk k1 m1 t1 a1 b1 ks1)),(false,[.d (iD 0)]),(false,[.d (iD 0)])]) ?_ (parts_cs _ _ _)
      refine fn_of_vc (nv:=9999) (cu:=[]) fits mixed Tryz.func15 rfl hoB rfl rfl rfl rfl ?_
      ((repeat' ((conv=>whnf);first|exact .intro|refine .ya ?_|refine .na ?_|refine .ys ?_|refine .ns ?_|refine .neg (fun _=>?_) (fun _=>?_)|refine .mk (fun _=>?_) (fun _=>?_)|refine .inr (X5 (c1.r [1] _) ?_)|refine .inl (.inr (X5 (c1.r [1] _) ?_))|refine .inl (X5 (c1.r [1] _) ?_)|refine .inr (X5 (c3.r [1] _) ?_)|refine .inl (.inr (X5 (c3.r [1] _) ?_))|refine .inl (X5 (c3.r [1] _) ?_)|refine .inl (.inl (X1 (c2) ?_))|refine .inl (X1 (c2) ?_)|refine X1 (c2) ?_|(refine ⟨⟨Int.le_refl _,hl0⟩,?_⟩)|refine .mk ?_ ?_|refine AK ?_|refine AT ?_|fail));all_goals conv=>whnf)
      ((repeat' first|exact rfl|((conv=>whnf);first|done|exact suL|refine And.intro ?_ ?_|fail));all_goals conv=>whnf)
     ·rw[if_neg hend]
      have h3:¬ ((K1:Nat):Int)=0:=fun h=>hend (hte.1 (by omega))
      generalize skp s j=y at *
      refine rn00 ?_
      refine fn_of_vc (nv:=9999) (cu:=[]) fits mixed Tryz.func15 rfl hoB rfl rfl rfl rfl ?_
      ((repeat' ((conv=>whnf);first|exact .intro|refine .ya ?_|refine .na ?_|refine .ys ?_|refine .ns ?_|refine .neg (fun _=>?_) (fun _=>?_)|refine .mk (fun _=>?_) (fun _=>?_)|refine .inr (X5 (c1.r [1] _) ?_)|refine .inl (.inr (X5 (c1.r [1] _) ?_))|refine .inl (X5 (c1.r [1] _) ?_)|refine .inr (X5 (c3.r [1] _) ?_)|refine .inl (.inr (X5 (c3.r [1] _) ?_))|refine .inl (X5 (c3.r [1] _) ?_)|refine .inl (.inl (X1 (c2) ?_))|refine .inl (X1 (c2) ?_)|refine X1 (c2) ?_|(refine ⟨⟨Int.le_refl _,hl0⟩,?_⟩)|refine .mk ?_ ?_|refine AK ?_|refine AT ?_|fail));all_goals conv=>whnf)
      ((repeat' first|exact rfl|((conv=>whnf);first|done|exact suL|refine And.intro ?_ ?_|fail));all_goals conv=>whnf)
   ·rw[if_neg h61]
    have h2:¬ ((((c::r).getD (0:Int).toNat 0).toNat:Nat):Int)=61:=fun h=>h61 (by
     have:c=61:=UInt8.toNat_inj.1 (Int.ofNat.inj h)
     simp[this])
    generalize c::r=s at *
    refine rn00 ?_
    refine fn_of_vc (nv:=9999) (cu:=[]) fits mixed Tryz.func15 rfl hoB rfl rfl rfl rfl ?_
    ((repeat' ((conv=>whnf);first|exact .intro|refine .ya ?_|refine .na ?_|refine .ys ?_|refine .ns ?_|refine .neg (fun _=>?_) (fun _=>?_)|refine .mk (fun _=>?_) (fun _=>?_)|(refine ⟨⟨Int.le_refl _,hl0⟩,?_⟩)|refine .mk ?_ ?_|refine AK ?_|refine AT ?_|fail));all_goals conv=>whnf)
    ((repeat' first|exact rfl|((conv=>whnf);first|done|exact suL|refine And.intro ?_ ?_|fail));all_goals conv=>whnf)
end Go.Proofs.YtdpigpahfiachaaGreatDoor
end
section
namespace Go.Proofs.YtdpigpahfiachaaGreatDoor
open Go Go.EYtdpigpahfiachaaGreatDoor
set_option maxRecDepth 100000
set_option maxHeartbeats 4000000
variable {gl:List (Nat×List D)}
theorem parseZ_ne {rf:List UInt8→Option Rf} (hR:RefsOk rf) (hE:rf []=none) {s:List UInt8} {a:Nat} {e:Int} (h:parseZ rf s=.no a e):e≠0:=by
 unfold parseZ at h
 split at h
 ·cases h;decide
 ·rename_i h200
  split at h
  ·rename_i h61
   have hs:s.length≤200:=by omega
   have hl1:1≤s.length:=by
    cases s with
    | nil=>cases h61
    | cons c r=>simp
   rw[all_eq 30 hl1] at h
   have hone:=one_all (gl:=[]) hR hE hs 30 0 rfl
   have c1:=loose_all (by omega) hs (oneB_fwd (p:=parZ rf) 30) hone 4 1 (by omega) (by omega) 1 hl1
   unfold allF at h
   cases hx:Lo s (oneB (parZ rf) s 30) 4 1 1 with
   | no a' e' =>
    rw[hx] at h c1
    cases h
    obtain ⟨_,_,_,_,he,_⟩:=c1
    exact he
   | ok n j =>
    rw[hx] at h
    simp only[Rs.bind_ok] at h
    split at h
    ·cases h
    ·cases h;decide
  ·cases h;decide
end Go.Proofs.YtdpigpahfiachaaGreatDoor
end
section
namespace Go.Proofs.YtdpigpahfiachaaGreatDoor
open Go.ChangeShapes Go.WideShapes Go.ChangeAt Go.RowKit Go.EYtdpigpahfiachaaGreatDoor
set_option linter.unusedVariables false
set_option maxRecDepth 100000
theorem strs_of_slice {H:Type} {enc:TypeId×Value→H} {P:Program} {w:World} {base:Nat} {sp:Nat→Bool} {held:Bool} {fuel:Nat} {t e:TypeId} {v:Value} {zs:List (List UInt8)} {rest:List (DataW H)} {p:List MemPlace}
 (ht:P.underlying t=some (.slice e)) (he:P.underlying e=some .string) (hc:P.cellsOf e=1) (hz:zs≠[])
 (h:DataW.trod enc P w base sp held fuel t [v]=some (.slice (zs.map fun z=>.lit (.string z)) rest,p)):DenD (fun _=>False) w (.lst 1 (zs.map fun z=>[D.str z])) v:=by
 rcases Go.Deep.open_slice1 ht hc h with ⟨_,h2⟩|⟨a,len,cap,m,n,V,DD,Pl,h1,hb,hl,hm,hmm,hx,hi⟩
 ·cases h2
 ·cases h1
  have hD:(List.range len).map DD=zs.map fun z=>(DataW.lit (.string z):DataW H):=by
   have:=congrArg Prod.fst hx
   simp only[DataW.slice.injEq] at this
   exact this.1.symm
  have hlen:len=zs.length:=by
   have:=congrArg List.length hD
   simpa using this
  have hle:len≤m:=by rw[hmm];split <;> omega
  have hV:∀ i (hi':i<zs.length),w.cell? (a.add i)=some (V i)∧V i=.string ⟨(zs[i]).toArray⟩:=fun i hi'=>by
   obtain ⟨h1,h2⟩:=hi i (by omega)
   obtain ⟨s,h3,h4,_⟩:=DataW.trod_string he h2
   refine ⟨h1,?_⟩
   have h5:V i=.string s:=by simpa using h3
   have h6:DD i=.lit (.string s.data.toList):=(Prod.mk.inj h4).1
   have h7:=congrArg (·[i]?) hD
   simp only[List.getElem?_map,List.getElem?_range (show i<len by omega),Option.map_some,List.getElem?_eq_getElem hi',h6,Option.some.injEq,DataW.lit.injEq,Lit.string.injEq] at h7
   rw[h5,← h7]
  obtain ⟨ab,ao,asp⟩:=a
  have h0:0<zs.length:=List.length_pos_iff.2 hz
  have hsp:asp=none:=by
   have:=(hV 0 h0).1
   unfold World.cell? at this
   cases asp with
   | none=>rfl
   | some q =>
    have e:(⟨ab,ao,some q⟩:Addr).add 0=⟨ab,ao,some q⟩:=by simp[Addr.add]
    rw[e] at this
    revert this
    simp only[]
    split <;> simp
  subst hsp
  have hbl:ab<w.heap.size:=by
   have:=World.block_lt_of_cell? w _ (hV 0 h0).1
   rw[addr_add] at this
   exact this
  have hlm:len=(zs.map fun z=>[D.str z]).length:=by simpa using hlen
  rw[hlm]
  refine DenD.lst 1 _ ab ao cap (fun i _=>V i) hbl (fun h=>h) (by rw[← hlm];exact hl) hm (fun e he=>?_) (fun i j d hg=>?_) (fun i j d hg=>?_)
  ·obtain ⟨z,_,rfl⟩:=List.mem_map.1 he;rfl
  ·unfold get2 at hg
   rw[List.getElem?_map] at hg
   cases hq:zs[i]? with
   | none=>rw[hq] at hg;cases hg
   | some z =>
    have hi':=(List.getElem?_eq_some_iff.1 hq).1
    rw[hq] at hg
    have hj:j=0:=by
     cases j with
     | zero=>rfl
     | succ j=>simp at hg
    subst hj
    have:=(hV i hi').1
    rw[addr_add] at this
    simpa using this
  ·unfold get2 at hg
   rw[List.getElem?_map] at hg
   cases hq:zs[i]? with
   | none=>rw[hq] at hg;cases hg
   | some z =>
    obtain ⟨hi',hz'⟩:=List.getElem?_eq_some_iff.1 hq
    rw[hq] at hg
    have hj:j=0:=by
     cases j with
     | zero=>rfl
     | succ j=>simp at hg
    subst hj
    have hd:d=.str z:=by simpa using hg.symm
    rw[hd,(hV i hi').2,hz']
    exact .str z
theorem var_loose {w:World} (h1:Lib.VarReads Tryz.prog w "sccsettle/formula.loose" Rows.laid_sccsettle_formula_loose):Holds1 w 0 lvAll:=by
 obtain ⟨g,t,cs,fuel,p,hg,ht,hv,hd⟩:=h1
 have e:(some g:Option Nat)=some 0:=hg.symm.trans (show Tryz.prog.globalNamed "sccsettle/formula.loose" = some 0 by kernel_rfl)
 cases e
 have e:(some t:Option Nat)=some 142:=ht.symm.trans (by kernel_rfl)
 cases e
 obtain ⟨xs,m,_,hx,hcl,hxl,hi⟩:=DataW.trod_array (n:=4) (e:=140) Tryz.underlying142 hd
 have hc1:Tryz.prog.cellsOf 140=1:=by kernel_rfl
 rw[show Tryz.prog.cellsOf 142=4 by kernel_rfl] at hcl
 simp only[hc1,Nat.mul_one] at hi
 have b1:=var_cells hg hv
 obtain ⟨csl⟩:=cs
 match csl,hcl with
 | [v0,v1,v2,v3],_ =>
  match xs,hxl with
  | [x0,x1,x2,x3],_ =>
   have hq:[x0.1,x1.1,x2.1,x3.1]=[DataW.slice [.lit (.string [60,62]),.lit (.string [60,61]),.lit (.string [62,61]),.lit (.string [61]),.lit (.string [60]),.lit (.string [62])] [],.slice [.lit (.string [38])] [],.slice [.lit (.string [43]),.lit (.string [45])] [],.slice [.lit (.string [42]),.lit (.string [47])] []]:=by
    have:=(Prod.mk.inj hx).1
    simpa[Rows.laid_sccsettle_formula_loose] using this.symm
   obtain ⟨q0,q0p⟩:=x0
   obtain ⟨q1,q1p⟩:=x1
   obtain ⟨q2,q2p⟩:=x2
   obtain ⟨q3,q3p⟩:=x3
   simp only[List.cons.injEq,and_true] at hq
   obtain ⟨rfl,rfl,rfl,rfl⟩:=hq
   have i0:=hi 0 (by decide)
   have i1:=hi 1 (by decide)
   have i2:=hi 2 (by decide)
   have i3:=hi 3 (by decide)
   have d0:=strs_of_slice (zs:=[[60,62],[60,61],[62,61],[61],[60],[62]]) Tryz.underlying140 Tryz.underlying9 (by kernel_rfl) (by simp) i0
   have d1:=strs_of_slice (zs:=[[38]]) Tryz.underlying140 Tryz.underlying9 (by kernel_rfl) (by simp) i1
   have d2:=strs_of_slice (zs:=[[43],[45]]) Tryz.underlying140 Tryz.underlying9 (by kernel_rfl) (by simp) i2
   have d3:=strs_of_slice (zs:=[[42],[47]]) Tryz.underlying140 Tryz.underlying9 (by kernel_rfl) (by simp) i3
   exact ⟨[v0,v1,v2,v3],b1,d0,d1,d2,d3,trivial⟩
abbrev glF (te:TypeId) (pe:Value):List (Nat×List D):=(0,lvAll)::(1,errT)::glV te pe
theorem glF_has (te:TypeId) (pe:Value):Has (glF te pe) (glV te pe):=by
 intro g l hl
 rw[look_cons]
 split
 ·rename_i e;subst e;exact absurd hl (by rw[show Go.EYtdpigpahfiachaaGreatDoor.look (glV te pe) 0=none from rfl];simp)
 ·rw[look_cons]
  split
  ·rename_i e;subst e;exact absurd hl (by rw[show Go.EYtdpigpahfiachaaGreatDoor.look (glV te pe) 1=none from rfl];simp)
  ·exact hl
end Go.Proofs.YtdpigpahfiachaaGreatDoor
end
