/- Proved: a part of what the law is proved with (the reckoner, contracts of functions, plain laws). Conditions: as each says. -/
import Derived.Deep.Slices
import Derived.OpenShut
import Derived.Shelf.SlSortCmp.NoneTotal
import Derived.Test.YtfcmhmglpcimiaaGreatDoorKErrAs
import Derived.Test.YtfcmhmglpcimiaaGreatDoorKIg
import Derived.Test.YtfcmhmglpcimiaaGreatDoorKIk
import Derived.Test.YtfcmhmglpcimiaaGreatDoorKJk
import Derived.Test.YtfcmhmglpcimiaaGreatDoorKWa
namespace Go.Proofs.YtfcmhmglpcimiaaGreatDoor
section
open Go Go.EYtfcmhmglpcimiaaGreatDoor
set_option maxRecDepth 100000
set_option maxHeartbeats 4000000
variable {gl:List (Nat×List D)}
theorem loose_all {s:List UInt8} {d:Nat} {one:Nat→Rs Nd} (hd:d≤30) (hs:s.length≤200) (hf:Fwd s one)
 (h1:∀ j,j≤s.length→GivesP gl 52 [.c (.ptr 0 0)] s j d d (one j)):∀ (k least:Nat),5≤k+least→least≤5→∀ i,i≤s.length→GivesP gl 34 [.c (.ptr 0 0),.c (.d (iD (least:Int)))] s i d d (Lo s one k least i)
 | 0,least,hk,hl,i,hi=>by
  obtain rfl:least=5:=by omega
  refine loose_l (sub:=fun op=>Lo s one 0 (tgt op+1)) hd hs hf (fun op=>Lo_fwd hf 0 _) hi h1 (fun op j h _=>absurd (tgt_le op) (by omega)) ?_
  exact Lo_more 0 5 i (by omega)
 | k+1,least,hk,hl,i,hi =>
  loose_l (sub:=fun op=>Lo s one k (tgt op+1)) hd hs hf (fun op=>Lo_fwd hf k _) hi h1 (fun op j h hj=>loose_all hd hs hf h1 k (tgt op+1) (by omega) (by have:=tgt_le op;omega) j hj) rfl
theorem oneB_fwd {p:Par} {s:List UInt8} (d:Nat):Fwd s (oneB p s d):=by
 have e:oneB p s d=oneA p s d:=by funext i;exact (one_eq d i).symm
 rw[e]
 exact oneA_fwd d
theorem one_all {rf:List UInt8→Option Rf} (hR:RefsOk rf) (hE:rf []=none) {s:List UInt8} (hs:s.length≤200) :
 ∀ (x d:Nat),d+x=30→∀ i,i≤s.length→GivesP gl 52 [.c (.ptr 0 0)] s i d d (oneB (parZ rf) s x i)
 | 0,d,hd,i,hi=>by
  obtain rfl:d=30:=by omega
  exact one_d hR hs (Nat.le_refl _) hi no_fwd (fun h=>absurd h (by omega)) (fun h=>absurd h (by omega)) (fun h=>absurd h (by omega))
 | x+1,d,hd,i,hi=>by
  have ih:=one_all hR hE hs x (d+1) (by omega)
  have hf1:=oneB_fwd (p:=parZ rf) (s:=s) x
  have h2:=loose_all (by omega) hs hf1 ih 4 1 (by omega) (by omega)
  have hf:=Lo_fwd hf1 4 1
  have:=one_d hR hs (show d≤30 by omega) hi hf (fun _=>ih) (fun _=>h2) (fun hd w k hk=>rcall_d hR hE hk hs hd hf (fun i=>Lo_skp _ _ _ _ _) h2)
  rw[show decide (d=30)=false from decide_eq_false (by omega)] at this
  exact this
def rparseD:Rs Nd→D
 | .ok n _=>.tup [.agg n.cs,iD 0,iD 0]
 | .no a e=>.tup [.agg n00.cs,iD (a:Int),iD e]
theorem rn00 {i e:Int} {f:Nat} {ds:List D} (h:Go.EYtfcmhmglpcimiaaGreatDoor.Fn Tryz.prog gl f (ds.map vD) [] 0 (.ret (.tup [(true,[.d (iD 0),.d (iD 0),.d (.str []),.d (iD 0),.d (iD 0),.d (.v (.bool false)),.d (.v (.bool false)),.d (iD 0),.d (iD 0),.d (.v (.bool false)),.d (.v (.bool false)),.d (.v (.slice none 0 0))]),(false,[.d (iD i)]),(false,[.d (iD e)])])) [] 0 []):FnP Tryz.prog gl f ds (.tup [.agg n00.cs,iD i,iD e]) :=
 FnP.le (fnP_of_fn h rfl) (LeD.tup (LeD.cons n00_le (LeD.cons LeD.rfl (LeD.cons LeD.rfl LeD.nil))))
theorem rParse_d {rf:List UInt8→Option Rf} (hR:RefsOk rf) (hE:rf []=none) (s:List UInt8):FnP Tryz.prog gl 23 [.str s] (rparseD (parseZ rf s)):=by
 unfold parseZ
 by_cases h200:200<s.length
 ·rw[if_pos h200]
  have h1:((s.length:Nat):Int)>200:=by omega
  refine rn00 ?_
  refine S1 Tryz.func23 rfl ?_
  ((repeat' ((conv=>whnf);first|exact .intro|refine G ?_|intro _|refine .mk ?_ ?_|refine H ?_|fail));all_goals conv=>whnf)
  ((repeat' first|exact rfl|((conv=>whnf);first|done|exact suL|refine And.intro ?_ ?_|fail));all_goals conv=>whnf)
 ·rw[if_neg h200]
  have h1:¬ ((s.length:Nat):Int)>200:=by omega
  have hs:s.length≤200:=by omega
  cases s with
  | nil =>
   rw[if_neg (by simp)]
   refine rn00 ?_
   refine S1 Tryz.func23 rfl ?_
   ((repeat' ((conv=>whnf);first|exact .intro|refine G ?_|intro _|refine .mk ?_ ?_|refine H ?_|fail));all_goals conv=>whnf)
   ((repeat' first|exact rfl|((conv=>whnf);first|done|exact suL|refine And.intro ?_ ?_|fail));all_goals conv=>whnf)
  | cons c r =>
   have hn:¬ c::r=(⟨#[]⟩:ByteArray).data.toList:=by simp
   have hl0:(0:Int)<(((c::r).length:Nat):Int):=Int.natCast_pos.2 (Nat.succ_pos _)
   by_cases h61:(c::r).head?=some 61
   ·rw[if_pos h61]
    have hl1:1≤(c::r).length:=by simp
    have hc:c=61:=by simpa using h61
    have h2:¬ ¬ ((((c::r).getD (0:Int).toNat 0).toNat:Nat):Int)=61:=fun h=>h (by subst hc;rfl)
    rw[all_eq 30 hl1]
    have hone:=one_all (gl:=gl) hR hE hs 30 0 rfl
    have c1:=loose_all (by omega) hs (oneB_fwd (p:=parZ rf) 30) hone 4 1 (by omega) (by omega) 1 hl1
    have hf:=Lo_fwd (oneB_fwd (p:=parZ rf) (s:=c::r) 30) 4 1
    generalize c::r=s at *
    unfold allF
    cases hx:Lo s (oneB (parZ rf) s 30) 4 1 1 with
    | no a e =>
     rw[hx] at c1
     simp only[Rs.bind_no]
     obtain ⟨m,J,X,hJ,he,c1⟩:=c1
     have he':¬ e=0:=he
     have c2:=tok_d (gl:=gl) hJ hs
     generalize tokZ s J=tk at *
     obtain ⟨K1,K2,K3,K4⟩:=tk
     change FnP Tryz.prog gl 35 _ (.agg [iD (K1:Int),iD ((K2:Nat):Int),iD ((K3:Nat):Int),.str K4]) at c2
     obtain ⟨k1,m1,t1,a1,b1,ks1⟩:=m
     refine rn00 ?_
     refine S1 Tryz.func23 rfl ?_
     ((repeat' ((conv=>whnf);first|exact .intro|refine G ?_|intro _|refine C5 c1 [1] ?_|refine C1 c2 ?_|(refine ⟨⟨Int.le_refl _,hl0⟩,?_⟩)|refine .mk ?_ ?_|refine H ?_|fail));all_goals conv=>whnf)
     ((repeat' first|exact rfl|((conv=>whnf);first|done|exact suL|refine And.intro ?_ ?_|fail));all_goals conv=>whnf)
    | ok n j =>
     rw[hx] at c1
     unfold GivesP at c1
     simp only[Rs.bind_ok]
     have hj:=(hf _ _ _ hl1 hx).2
     have c2:=tok_d (gl:=gl) hj hs
     have hte:=tok_end hj
     have hta:=tok_a s j
     generalize tokZ s j=tk at *
     obtain ⟨K1,K2,K3,K4⟩:=tk
     simp only at hte hta
     subst hta
     change FnP Tryz.prog gl 35 _ (.agg [iD (K1:Int),iD ((skp s j:Nat):Int),iD ((K3:Nat):Int),.str K4]) at c2
     have c3:=pfail_0 (gl:=gl) s j (skp s j) ((0:Nat):Int) 2
     obtain ⟨k1,m1,t1,a1,b1,ks1⟩:=n
     by_cases hend:skp s j=s.length
     ·rw[if_pos hend]
      have h3:¬ ¬ ((K1:Nat):Int)=0:=fun h=>h (by have:=hte.2 hend;omega)
      have h3':((K1:Nat):Int)=0:=by have:=hte.2 hend;omega
      generalize skp s j=y at *
      refine fnP_of_fn (v:=.tup [(true,ndC (.mk k1 m1 t1 a1 b1 ks1)),(false,[.d (iD 0)]),(false,[.d (iD 0)])]) ?_ (parts_cs _ _ _)
      refine S1 Tryz.func23 rfl ?_
      ((repeat' ((conv=>whnf);first|exact .intro|refine G ?_|intro _|refine C5 c1 [1] ?_|refine C5 c3 [1] ?_|refine C1 c2 ?_|(refine ⟨⟨Int.le_refl _,hl0⟩,?_⟩)|refine .mk ?_ ?_|refine H ?_|fail));all_goals conv=>whnf)
      ((repeat' first|exact rfl|((conv=>whnf);first|done|exact suL|refine And.intro ?_ ?_|fail));all_goals conv=>whnf)
     ·rw[if_neg hend]
      have h3:¬ ((K1:Nat):Int)=0:=fun h=>hend (hte.1 (by omega))
      generalize skp s j=y at *
      refine rn00 ?_
      refine S1 Tryz.func23 rfl ?_
      ((repeat' ((conv=>whnf);first|exact .intro|refine G ?_|intro _|refine C5 c1 [1] ?_|refine C5 c3 [1] ?_|refine C1 c2 ?_|(refine ⟨⟨Int.le_refl _,hl0⟩,?_⟩)|refine .mk ?_ ?_|refine H ?_|fail));all_goals conv=>whnf)
      ((repeat' first|exact rfl|((conv=>whnf);first|done|exact suL|refine And.intro ?_ ?_|fail));all_goals conv=>whnf)
   ·rw[if_neg h61]
    have h2:¬ ((((c::r).getD (0:Int).toNat 0).toNat:Nat):Int)=61:=fun h=>h61 (by
     have:c=61:=UInt8.toNat_inj.1 (Int.ofNat.inj h)
     simp[this])
    generalize c::r=s at *
    refine rn00 ?_
    refine S1 Tryz.func23 rfl ?_
    ((repeat' ((conv=>whnf);first|exact .intro|refine G ?_|intro _|(refine ⟨⟨Int.le_refl _,hl0⟩,?_⟩)|refine .mk ?_ ?_|refine H ?_|fail));all_goals conv=>whnf)
    ((repeat' first|exact rfl|((conv=>whnf);first|done|exact suL|refine And.intro ?_ ?_|fail));all_goals conv=>whnf)
end
section
open Go Go.EYtfcmhmglpcimiaaGreatDoor
set_option maxRecDepth 100000
set_option maxHeartbeats 4000000
variable {gl:List (Nat×List D)}
theorem parseZ_ne {rf:List UInt8→Option Rf} (hR:RefsOk rf) (hE:rf []=none) {s:List UInt8} {a:Nat} {e:Int} (h:parseZ rf s=.no a e):e≠0:=by
 unfold parseZ at h
 split at h
 ·cases h;decide
 ·rename_i h200
  split at h
  ·rename_i h61
   have hs:s.length≤200:=by omega
   have hl1:1≤s.length:=by
    cases s with
    | nil=>cases h61
    | cons c r=>simp
   rw[all_eq 30 hl1] at h
   have hone:=one_all (gl:=[]) hR hE hs 30 0 rfl
   have c1:=loose_all (by omega) hs (oneB_fwd (p:=parZ rf) 30) hone 4 1 (by omega) (by omega) 1 hl1
   unfold allF at h
   cases hx:Lo s (oneB (parZ rf) s 30) 4 1 1 with
   | no a' e' =>
    rw[hx] at h c1
    cases h
    obtain ⟨_,_,_,_,he,_⟩:=c1
    exact he
   | ok n j =>
    rw[hx] at h
    simp only[Rs.bind_ok] at h
    split at h
    ·cases h
    ·cases h;decide
  ·cases h;decide
end
section
open Go.ChangeShapes Go.WideShapes Go.ChangeAt Go.RowKit Go.EYtfcmhmglpcimiaaGreatDoor
set_option linter.unusedVariables false
set_option maxRecDepth 100000
theorem strs_of_slice {H:Type} {enc:TypeId×Value→H} {P:Program} {w:World} {base:Nat} {sp:Nat→Bool} {held:Bool} {fuel:Nat} {t e:TypeId} {v:Value} {zs:List (List UInt8)} {rest:List (DataW H)} {p:List MemPlace}
 (ht:P.underlying t=some (.slice e)) (he:P.underlying e=some .string) (hc:P.cellsOf e=1) (hz:zs≠[])
 (h:DataW.trod enc P w base sp held fuel t [v]=some (.slice (zs.map fun z=>.lit (.string z)) rest,p)):DenD (fun _=>False) w (.lst 1 (zs.map fun z=>[D.str z])) v:=by
 rcases Go.Deep.open_slice1 ht hc h with ⟨_,h2⟩|⟨a,len,cap,m,n,V,DD,Pl,h1,hb,hl,hm,hmm,hx,hi⟩
 ·cases h2
 ·cases h1
  have hD:(List.range len).map DD=zs.map fun z=>(DataW.lit (.string z):DataW H):=by
   have:=congrArg Prod.fst hx
   simp only[DataW.slice.injEq] at this
   exact this.1.symm
  have hlen:len=zs.length:=by
   have:=congrArg List.length hD
   simpa using this
  have hle:len≤m:=by rw[hmm];split <;> omega
  have hV:∀ i (hi':i<zs.length),w.cell? (a.add i)=some (V i)∧V i=.string ⟨(zs[i]).toArray⟩:=fun i hi'=>by
   obtain ⟨h1,h2⟩:=hi i (by omega)
   obtain ⟨s,h3,h4,_⟩:=DataW.trod_string he h2
   refine ⟨h1,?_⟩
   have h5:V i=.string s:=by simpa using h3
   have h6:DD i=.lit (.string s.data.toList):=(Prod.mk.inj h4).1
   have h7:=congrArg (·[i]?) hD
   simp only[List.getElem?_map,List.getElem?_range (show i<len by omega),Option.map_some,List.getElem?_eq_getElem hi',h6,Option.some.injEq,DataW.lit.injEq,Lit.string.injEq] at h7
   rw[h5,← h7]
  obtain ⟨ab,ao,asp⟩:=a
  have h0:0<zs.length:=List.length_pos_iff.2 hz
  have hsp:asp=none:=by
   have:=(hV 0 h0).1
   unfold World.cell? at this
   cases asp with
   | none=>rfl
   | some q =>
    have e:(⟨ab,ao,some q⟩:Addr).add 0=⟨ab,ao,some q⟩:=by simp[Addr.add]
    rw[e] at this
    revert this
    simp only[]
    split <;> simp
  subst hsp
  have hbl:ab<w.heap.size:=by
   have:=World.block_lt_of_cell? w _ (hV 0 h0).1
   rw[addr_add] at this
   exact this
  have hlm:len=(zs.map fun z=>[D.str z]).length:=by simpa using hlen
  rw[hlm]
  refine DenD.lst 1 _ ab ao cap (fun i _=>V i) hbl (fun h=>h) (by rw[← hlm];exact hl) hm (fun e he=>?_) (fun i j d hg=>?_) (fun i j d hg=>?_)
  ·obtain ⟨z,_,rfl⟩:=List.mem_map.1 he;rfl
  ·unfold get2 at hg
   rw[List.getElem?_map] at hg
   cases hq:zs[i]? with
   | none=>rw[hq] at hg;cases hg
   | some z =>
    have hi':=(List.getElem?_eq_some_iff.1 hq).1
    rw[hq] at hg
    have hj:j=0:=by
     cases j with
     | zero=>rfl
     | succ j=>simp at hg
    subst hj
    have:=(hV i hi').1
    rw[addr_add] at this
    simpa using this
  ·unfold get2 at hg
   rw[List.getElem?_map] at hg
   cases hq:zs[i]? with
   | none=>rw[hq] at hg;cases hg
   | some z =>
    obtain ⟨hi',hz'⟩:=List.getElem?_eq_some_iff.1 hq
    rw[hq] at hg
    have hj:j=0:=by
     cases j with
     | zero=>rfl
     | succ j=>simp at hg
    subst hj
    have hd:d=.str z:=by simpa using hg.symm
    rw[hd,(hV i hi').2,hz']
    exact .str z
theorem var_loose {w:World} (h1:Lib.VarReads Tryz.prog w "sccsettle/formula.loose" Rows.laid_sccsettle_formula_loose):Holds1 w 1 lvAll:=by
 obtain ⟨g,t,cs,fuel,p,hg,ht,hv,hd⟩:=h1
 have e:(some g:Option Nat)=some 1:=hg.symm.trans (show Tryz.prog.globalNamed "sccsettle/formula.loose" = some 1 by kernel_rfl)
 cases e
 have e:(some t:Option Nat)=some 146:=ht.symm.trans (by kernel_rfl)
 cases e
 obtain ⟨xs,m,_,hx,hcl,hxl,hi⟩:=DataW.trod_array (n:=4) (e:=125) Tryz.underlying146 hd
 have hc1:Tryz.prog.cellsOf 125=1:=by kernel_rfl
 rw[show Tryz.prog.cellsOf 146=4 by kernel_rfl] at hcl
 simp only[hc1,Nat.mul_one] at hi
 have b1:=var_cells hg hv
 obtain ⟨csl⟩:=cs
 match csl,hcl with
 | [v0,v1,v2,v3],_ =>
  match xs,hxl with
  | [x0,x1,x2,x3],_ =>
   have hq:[x0.1,x1.1,x2.1,x3.1]=[DataW.slice [.lit (.string [60,62]),.lit (.string [60,61]),.lit (.string [62,61]),.lit (.string [61]),.lit (.string [60]),.lit (.string [62])] [],.slice [.lit (.string [38])] [],.slice [.lit (.string [43]),.lit (.string [45])] [],.slice [.lit (.string [42]),.lit (.string [47])] []]:=by
    have:=(Prod.mk.inj hx).1
    simpa[Rows.laid_sccsettle_formula_loose] using this.symm
   obtain ⟨q0,q0p⟩:=x0
   obtain ⟨q1,q1p⟩:=x1
   obtain ⟨q2,q2p⟩:=x2
   obtain ⟨q3,q3p⟩:=x3
   simp only[List.cons.injEq,and_true] at hq
   obtain ⟨rfl,rfl,rfl,rfl⟩:=hq
   have i0:=hi 0 (by decide)
   have i1:=hi 1 (by decide)
   have i2:=hi 2 (by decide)
   have i3:=hi 3 (by decide)
   have d0:=strs_of_slice (zs:=[[60,62],[60,61],[62,61],[61],[60],[62]]) Tryz.underlying125 Tryz.underlying9 (by kernel_rfl) (by simp) i0
   have d1:=strs_of_slice (zs:=[[38]]) Tryz.underlying125 Tryz.underlying9 (by kernel_rfl) (by simp) i1
   have d2:=strs_of_slice (zs:=[[43],[45]]) Tryz.underlying125 Tryz.underlying9 (by kernel_rfl) (by simp) i2
   have d3:=strs_of_slice (zs:=[[42],[47]]) Tryz.underlying125 Tryz.underlying9 (by kernel_rfl) (by simp) i3
   exact ⟨[v0,v1,v2,v3],b1,d0,d1,d2,d3,trivial⟩
abbrev glF (te:TypeId) (pe:Value):List (Nat×List D):=(1,lvAll)::(0,errT)::glV te pe
theorem glF_has (te:TypeId) (pe:Value):Has (glF te pe) (glV te pe):=by
 intro g l hl
 rw[look_cons]
 split
 ·rename_i e;subst e;exact absurd hl (by rw[show Go.EYtfcmhmglpcimiaaGreatDoor.look (glV te pe) 1=none from rfl];simp)
 ·rw[look_cons]
  split
  ·rename_i e;subst e;exact absurd hl (by rw[show Go.EYtfcmhmglpcimiaaGreatDoor.look (glV te pe) 0=none from rfl];simp)
  ·exact hl
end
section
open Go Go.EYtfcmhmglpcimiaaGreatDoor
abbrev rowC (p:Int×Int):List D:=[iD p.1,iD p.2]
end
section
open Go Go.RowKit Go.EYtfcmhmglpcimiaaGreatDoor Go.Sort
set_option maxRecDepth 100000
set_option maxHeartbeats 4000000
variable {gl:List (Nat×List D)}
abbrev encC (p:Int×Int):List Value:=[.int .i64 p.1,.int .i64 p.2]
abbrev cfC (p q:Int×Int):Int:=orZ (cmpZ p.2 q.2) (cmpZ p.1 q.1)
abbrev lesP (p q:Int×Int):Prop:=p.2<q.2∨p.2=q.2∧p.1<q.1
theorem ltC_eq (p q:Int×Int):ltOf cfC p q=decide (lesP p q):=by
 unfold ltOf
 have:cfC p q<0↔lesP p q:=by
  unfold cfC orZ cmpZ lesP
  (repeat' split) <;> omega
 simp[this]
theorem swoC:SWO (ltOf cfC) where
 irrefl x:=by rw[ltC_eq];simp[lesP]
 trans x y z h1 h2:=by
  rw[ltC_eq] at *
  simp only[decide_eq_true_eq] at *
  unfold lesP at *
  omega
 ntrans x y z h1 h2:=by
  rw[ltC_eq] at *
  simp only[decide_eq_false_iff_not] at *
  unfold lesP at *
  omega
theorem totC (x y:Int×Int) (h1:ltOf cfC x y=false) (h2:ltOf cfC y x=false):x=y:=by
 rw[ltC_eq] at *
 simp only[decide_eq_false_iff_not] at *
 unfold lesP at *
 exact Prod.ext (by omega) (by omega)
def sortC (m:List (Int×Int)):List (Int×Int):=m.mergeSort fun x y=>!(ltOf cfC) y x
theorem sortC_perm (m:List (Int×Int)):(sortC m).Perm m:=List.mergeSort_perm m _
theorem sortC_len (m:List (Int×Int)):(sortC m).length=m.length:=(sortC_perm m).length_eq
theorem sortC_mem {m:List (Int×Int)} {p:Int×Int}:p ∈ sortC m↔p ∈ m:=(sortC_perm m).mem_iff
theorem sortC_sorted (m:List (Int×Int)):(sortC m).Pairwise fun x y=>¬ lesP y x:=by
 have h:=List.pairwise_mergeSort (le:=fun x y:Int×Int=>!(ltOf cfC) y x) (fun a b c h1 h2=>by
  simp only[ltC_eq,Bool.not_eq_true',decide_eq_false_iff_not] at *
  unfold lesP at *
  omega) (fun a b=>by
  simp only[ltC_eq,Bool.or_eq_true,Bool.not_eq_true',decide_eq_false_iff_not]
  unfold lesP
  omega) m
 refine h.imp fun {a b} hab=>?_
 simp only[ltC_eq,Bool.not_eq_true',decide_eq_false_iff_not] at hab
 exact hab
theorem flatC (m:List (Int×Int)):(flatK encC 2 m.toArray).toList=m.flatMap encC:=by
 have key:∀ (m:List (Int×Int)) (t:Nat),t<m.length * 2→(m.flatMap encC)[t]?=some ((encC m.toArray[t / 2]!)[t % 2]!):=by
  intro m
  induction m with
  | nil=>intro t h;simp at h
  | cons p m ih =>
   intro t h
   match t with
   | 0=>simp
   | 1=>simp
   | t+2 =>
    have h':t<m.length * 2:=by simp at h;omega
    have e1:(t+2) / 2=t / 2+1:=by omega
    have e2:(t+2) % 2=t % 2:=by omega
    rw[e1,e2]
    have:=ih t h'
    simp only[List.flatMap_cons,encC,List.cons_append,List.nil_append,List.getElem?_cons_succ]
    rw[show (List.flatMap (fun p:Int×Int=>[Value.int .i64 p.1,Value.int .i64 p.2]) m)[t]?=(m.flatMap encC)[t]? from rfl,this]
    simp
 apply List.ext_getElem?
 intro t
 by_cases h:t<m.length * 2
 ·rw[key m t h]
  simp only[flatK,Array.toList_map,List.getElem?_map]
  have:t<m.toArray.size * 2:=by simpa using h
  simp
  exact ⟨t,by rw[List.getElem?_range h],rfl⟩
 ·have hl:(m.flatMap encC).length=m.length * 2:=by
   clear key h
   induction m with
   | nil=>rfl
   | cons p m ih=>rw[List.flatMap_cons,List.length_append,ih,List.length_cons];simp;omega
  rw[List.getElem?_eq_none (by simp;omega),List.getElem?_eq_none (by omega)]
theorem rowsC_val {M:Nat→Prop} {w:World}:∀ {m:List (Int×Int)} {xs:List Value},DenL M w (m.map rowC).flatten xs→xs=m.flatMap encC
 | [],[],_=>rfl
 | [],_::_,h=>h.elim
 | p::m,xs,h=>by
  rw[List.map_cons,List.flatten_cons] at h
  match xs,h with
  | x::y::xs,⟨h1,h2,h3⟩ =>
   rw[DenD.v_inv h1,DenD.v_inv h2,rowsC_val h3]
   rfl
  | [x],⟨_,h2⟩=>exact h2.elim
  | [],h=>exact h.elim
theorem rowsC_den {M:Nat→Prop} {w:World}:∀ m:List (Int×Int),DenL M w (m.map rowC).flatten (m.flatMap encC)
 | []=>trivial
 | p::m=>by
  rw[List.map_cons,List.flatten_cons,List.flatMap_cons]
  exact ⟨.v _,.v _,rowsC_den m⟩
theorem put_take {F cur:Array Value} (h:F.size≤cur.size):(putCells id 0 F cur).toList.take F.size=F.toList∧(putCells id 0 F cur).size=cur.size:=by
 refine ⟨?_,by simp[putCells]⟩
 apply List.ext_getElem?
 intro k
 rw[List.getElem?_take]
 by_cases hk:k<F.size
 ·rw[if_pos hk]
  have hc:k<cur.size:=by omega
  simp[putCells,hk,hc]
 ·rw[if_neg hk,List.getElem?_eq_none (by simpa using Nat.le_of_not_lt hk)]
theorem sort_world {w:World} {b n:Nat} {cur:Array Value} {e:TypeId} (d:Array (Int×Int)) (os:Array Obj) (h:w.heap[b]?=some (Obj.cells cur e (0,0))) :
 (sortWorldK encC 2 w b 0 n d os).heap[b]?=some (Obj.cells (putCells id 0 (flatK encC 2 d) cur) e (0,0))∧Evo (fun x=>x=b) w (sortWorldK encC 2 w b 0 n d os):=by
 have hb:b<w.heap.size:=(Array.getElem?_eq_some_iff.1 h).1
 have hat:∀ x,x<w.heap.size→(sortWorldK encC 2 w b 0 n d os).heap[x]?=(w.heap[x]?).map (fun o=>if b=x then onCells (putCells id 0 (flatK encC 2 d)) o else o):=fun x hx=>by
  show ((w.heap.modify b (onCells (putCells id 0 (flatK encC 2 d))))++os)[x]?=_
  rw[Array.getElem?_append_left (by simpa using hx),Array.getElem?_modify]
  by_cases hbx:b=x
  ·rw[if_pos hbx]
   simp[hbx]
  ·rw[if_neg hbx]
   simp[hbx]
 refine ⟨by rw[hat b hb,h];simp[onCells],rfl,rfl,rfl,?_,fun x hx hn=>?_,fun x c e' f' hc=>?_⟩
 ·show w.heap.size≤((w.heap.modify b _)++os).size
  simp
 ·rw[hat x hx]
  have:¬ b=x:=fun e=>hn e.symm
  simp[this]
 ·have hx:x<w.heap.size:=(Array.getElem?_eq_some_iff.1 hc).1
  rw[hat x hx,hc]
  by_cases hbx:b=x
  ·refine ⟨putCells id 0 (flatK encC 2 d) c,by simp[hbx,onCells],by simp[putCells]⟩
  ·exact ⟨c,by simp[hbx],rfl⟩
theorem rows_keep {M0:Nat→Prop} {adr:Env} {w w':World} {b n c z e:Nat} {cur2:Array Value} {l l':List (List D)} {v:V} {x:Value} (hW:WOk M0 adr [(0,.rows z l e)] 1 w) (ha:adr 0=some (some b,n)) (hE:Evo (fun x=>x=b) w w') (hh:w'.heap[b]?=some (Obj.cells cur2 e (0,0)))
 (hs:cur2.size=c * z) (hz:0<z) (hr:∀ r ∈ l',r.length=z) (hn:l'.length=n) (hl:n≤c) (hc:c≤maxLen) (hden:DenL (Mut M0 adr [(0,.rows z l e)]) w l'.flatten (cur2.toList.take (l'.length * z))) (hv:DenV adr (Mut M0 adr [(0,.rows z l' e)]) w' v x) :
 ∃ adr':Env,Evo (Trk adr [(0,.rows z l e)]) w w'∧WOk M0 adr' [(0,.rows z l' e)] 1 w'∧(∀ k,k<1→k ∉ []→adr' k=adr k)∧(∀ k B b' m,Go.EYtfcmhmglpcimiaaGreatDoor.look [(0,Blk.rows z l' e)] k=some B→adr' k=some (some b',m)→Trk adr [(0,.rows z l e)] b'∨w.heap.size≤b')∧
  RetOk adr' (Mut M0 adr' [(0,.rows z l' e)]) w' (.ret v) (.returned x):=by
 have hE':Evo (Trk adr [(0,.rows z l e)]) w w':=hE.mono fun x _ hx=>by subst hx;exact ⟨0,_,n,rfl,ha⟩
 have hM:∀ x,x<w.heap.size→Mut M0 adr [(0,.rows z l' e)] x→Mut M0 adr [(0,.rows z l e)] x:=by
  rintro x _ (h|⟨k,B,m,h1,h2⟩)
  ·exact .inl h
  ·match k,h1 with
   | 0,_=>exact .inr ⟨0,_,m,rfl,h2⟩
 refine ⟨adr,hE',⟨fun k B h=>?_,hW.fresh,fun k B h=>?_,fun k k' B B' b' m m' h h' _ _=>?_,fun k B b' m h he=>?_,fun x hx=>Nat.lt_of_lt_of_le (hW.bound x hx) hE'.size⟩,fun k _ _=>rfl,fun k B b' m h he=>?_,x,rfl,hv⟩
 ·match k,h with
  | 0,_=>decide
 ·match k,h with
  | 0,h =>
   cases h
   rw[ha]
   exact ⟨hz,hn,hr,cur2,c,hh,hs,by rw[hn];exact hl,hc,DenL.evo hE' (fun x _ ⟨k,B,m,h1,h2⟩=>.inr ⟨k,B,m,h1,h2⟩) hM hden⟩
 ·match k,k',h,h' with
  | 0,0,_,_=>rfl
 ·match k,h with
  | 0,_=>exact hW.prot 0 _ b' m rfl he
 ·match k,h with
  | 0,_=>exact .inl ⟨0,_,m,rfl,he⟩
end
section
set_option maxRecDepth 100000
abbrev Cl:=Int×Int
structure Gr where
 on:Cl→List Cl
 has:Cl→Bool
inductive Rch (g:Gr):Cl→Cl→Prop
 | refl (a:Cl):Rch g a a
 | step {a b c:Cl}:b ∈ g.on a→g.has b=true→Rch g b c→Rch g a c
theorem Rch.trans {g:Gr} {a b c:Cl} (h:Rch g a b) (k:Rch g b c):Rch g a c:=by
 induction h with
 | refl=>exact k
 | step h1 h2 _ ih=>exact .step h1 h2 (ih k)
theorem Rch.one {g:Gr} {a b:Cl} (h:b ∈ g.on a) (k:g.has b=true):Rch g a b:=.step h k (.refl b)
structure TS where
 D:List Cl
 S:List Cl
 F:List (Cl×Nat)
 P:List (List Cl)
 low:Cl→Nat
def num (D:List Cl) (c:Cl):Nat:=if c ∈ D then D.idxOf c+1 else 0
theorem num_in {D:List Cl} {c:Cl} (h:c ∈ D):num D c=D.idxOf c+1:=if_pos h
theorem num_out {D:List Cl} {c:Cl} (h:c ∉ D):num D c=0:=if_neg h
theorem num_pos {D:List Cl} {c:Cl}:0<num D c↔c ∈ D:=by
 by_cases h:c ∈ D
 ·rw[num_in h];exact ⟨fun _=>h,fun _=>Nat.succ_pos _⟩
 ·rw[num_out h];exact ⟨fun h=>absurd h (Nat.lt_irrefl 0),fun k=>absurd k h⟩
theorem num_le {D:List Cl} {c:Cl}:num D c≤D.length:=by
 by_cases h:c ∈ D
 ·rw[num_in h];exact List.idxOf_lt_length_iff.2 h
 ·rw[num_out h];exact Nat.zero_le _
theorem num_app {D:List Cl} {c x:Cl} (h:c ∈ D):num (D++[x]) c=num D c:=by
 rw[num_in h,num_in (List.mem_append_left _ h),List.idxOf_append,if_pos h]
theorem num_new {D:List Cl} {x:Cl} (h:x ∉ D):num (D++[x]) x=D.length+1:=by
 rw[num_in (by simp),List.idxOf_append,if_neg h]
 simp
theorem num_sorted:∀ {D:List Cl},D.Nodup→D.Pairwise fun a b=>num D a<num D b:=fun {D} hD=>by
 rw[List.pairwise_iff_getElem]
 intro i j hi hj hij
 rw[num_in (List.getElem_mem hi),num_in (List.getElem_mem hj),List.Nodup.idxOf_getElem hD,List.Nodup.idxOf_getElem hD]
 omega
def Prc (g:Gr) (F:List (Cl×Nat)) (v w:Cl):Prop:=(∃ k,(v,k) ∈ F∧w ∈ (g.on v).take k)∨((∀ k,(v,k) ∉ F)∧w ∈ g.on v)
def les (a b:Cl):Prop:=a.2<b.2∨a.2=b.2∧a.1<b.1
structure Part (g:Gr) (p:List Cl):Prop where
 ne:p≠[]
 scc:∀ c ∈ p,∀ v,v ∈ p↔Rch g c v∧Rch g v c
structure Inv (g:Gr) (s:TS):Prop where
 dn:s.D.Nodup
 dh:∀ c ∈ s.D,g.has c=true
 sd:s.S.Sublist s.D
 fs:(s.F.map (·.1)).Sublist s.S
 lo:∀ f ∈ s.F.map (·.1),s.low f≤num s.D f∧∃ u ∈ s.S,num s.D u=s.low f∧Rch g f u
 pd:∀ v ∈ s.S,∀ w,Prc g s.F v w→g.has w=true→w ∈ s.D
 cl:∀ v ∈ s.D,v ∉ s.S→∀ w ∈ g.on v,g.has w=true→w ∈ s.D∧w ∉ s.S
 pl:∀ f ∈ s.F.map (·.1),∀ v ∈ s.S,num s.D f≤num s.D v→∀ w ∈ s.S,Prc g s.F v w→∃ h ∈ s.F.map (·.1),num s.D f≤num s.D h∧s.low h≤num s.D w
 bk:∀ v ∈ s.S,v ∉ s.F.map (·.1)→∃ u ∈ s.S,num s.D u<num s.D v∧Rch g v u
 fr:∀ f ∈ s.F.map (·.1),∀ v ∈ s.S,num s.D f≤num s.D v→Rch g f v
 bt:∀ v ∈ s.S,∃ f ∈ s.F.map (·.1),num s.D f≤num s.D v
 ps:∀ p ∈ s.P,Part g p∧∀ c ∈ p,c ∈ s.D∧c ∉ s.S
 pc:∀ c ∈ s.D,c ∉ s.S→∃ p ∈ s.P,c ∈ p
 pp:s.P.Pairwise fun p q=>∀ c ∈ p,c ∉ q
 pn:∀ p ∈ s.P,p.Pairwise les
section
variable {g:Gr} {s:TS}
theorem Inv.inD (h:Inv g s) {c:Cl} (hc:c ∈ s.S):c ∈ s.D:=h.sd.subset hc
theorem Inv.inS (h:Inv g s) {c:Cl} (hc:c ∈ s.F.map (·.1)):c ∈ s.S:=h.fs.subset hc
theorem Inv.top (h:Inv g s) {F0:List (Cl×Nat)} {t:Cl} {k:Nat} (hF:s.F=F0++[(t,k)]) {f:Cl} (hf:f ∈ s.F.map (·.1)):num s.D f≤num s.D t∧(f≠t→f ∈ F0.map (·.1)∧num s.D f<num s.D t):=by
 have hs:(s.F.map (·.1)).Pairwise fun a b=>num s.D a<num s.D b:=(num_sorted h.dn).sublist (h.fs.trans h.sd)
 rw[hF,List.map_append] at hs hf
 rcases List.mem_append.1 hf with h1|h1
 ·have:=(List.pairwise_append.1 hs).2.2 f h1 t (by simp)
  exact ⟨Nat.le_of_lt this,fun _=>⟨h1,this⟩⟩
 ·obtain rfl:f=t:=by simpa using h1
  exact ⟨Nat.le_refl _,fun hh=>absurd rfl hh⟩
theorem Inv.fnd (h:Inv g s):(s.F.map (·.1)).Nodup:=h.dn.sublist (h.fs.trans h.sd)
theorem Inv.at (h:Inv g s) {F0:List (Cl×Nat)} {t:Cl} {k j:Nat} (hF:s.F=F0++[(t,k)]) (hj:(t,j) ∈ s.F):j=k:=by
 have hn:=h.fnd
 rw[hF] at hj hn
 rcases List.mem_append.1 hj with h1|h1
 ·exfalso
  rw[List.map_append] at hn
  exact (List.nodup_append.1 hn).2.2 t (List.mem_map.2 ⟨(t,j),h1,rfl⟩) t (by simp) rfl
 ·simpa using h1
theorem Inv.front (h:Inv g s) {F0:List (Cl×Nat)} {t:Cl} {k:Nat} (hF:s.F=F0++[(t,k)]):t ∉ F0.map (·.1):=fun hh=>by
 have hn:=h.fnd
 rw[hF,List.map_append] at hn
 exact (List.nodup_append.1 hn).2.2 t hh t (by simp) rfl
theorem prc_step {F0:List (Cl×Nat)} {t:Cl} {k:Nat} (ht:t ∉ F0.map (·.1)) {v w:Cl} (h:Prc g (F0++[(t,k+1)]) v w):Prc g (F0++[(t,k)]) v w∨(v=t∧(g.on t)[k]?=some w):=by
 rcases h with ⟨j,hj,hw⟩|⟨hj,hw⟩
 ·rcases List.mem_append.1 hj with h1|h1
  ·exact .inl (.inl ⟨j,List.mem_append_left _ h1,hw⟩)
  ·obtain ⟨rfl,rfl⟩:v=t∧j=k+1:=by simpa using h1
   by_cases hk:k<(g.on v).length
   ·rw[List.take_succ_eq_append_getElem hk] at hw
    rcases List.mem_append.1 hw with h2|h2
    ·exact .inl (.inl ⟨k,by simp,h2⟩)
    ·obtain rfl:=List.mem_singleton.1 h2
     exact .inr ⟨rfl,List.getElem?_eq_getElem hk⟩
   ·rw[List.take_of_length_le (by omega)] at hw
    exact .inl (.inl ⟨k,by simp,by rw[List.take_of_length_le (by omega)];exact hw⟩)
 ·refine .inl (.inr ⟨fun j hh=>?_,hw⟩)
  rcases List.mem_append.1 hh with h1|h1
  ·exact hj j (List.mem_append_left _ h1)
  ·obtain ⟨rfl,rfl⟩:v=t∧j=k:=by simpa using h1
   exact hj (j+1) (by simp)
theorem map_step {F0:List (Cl×Nat)} {t:Cl} {k j:Nat}:(F0++[(t,k)]).map (·.1)=(F0++[(t,j)]).map (·.1):=by simp
theorem Inv.skip (h:Inv g s) {F0:List (Cl×Nat)} {t x:Cl} {k:Nat} (hF:s.F=F0++[(t,k)]) (hx:(g.on t)[k]?=some x) (hs:g.has x=false∨(x ∈ s.D∧x ∉ s.S)):Inv g { s with F:=F0++[(t,k+1)] }:=by
 have ht:=h.front hF
 have hm:(F0++[(t,k+1)]:List (Cl×Nat)).map (·.1)=s.F.map (·.1):=by rw[hF];exact map_step
 refine ⟨h.dn,h.dh,h.sd,by rw[hm];exact h.fs,by rw[hm];exact h.lo,fun v hv w hw hh=>?_,h.cl,?_,by rw[hm];exact h.bk,by rw[hm];exact h.fr,by rw[hm];exact h.bt,h.ps,h.pc,h.pp,h.pn⟩
 ·rcases prc_step ht hw with h1|⟨rfl,h1⟩
  ·rw[← hF] at h1;exact h.pd v hv w h1 hh
  ·rw[hx] at h1
   cases h1
   rcases hs with hs|hs
   ·rw[hs] at hh;cases hh
   ·exact hs.1
 ·show ∀ f ∈ (F0++[(t,k+1)]:List (Cl×Nat)).map (·.1),_
  rw[hm]
  intro f hf v hv hfv w hw hp
  rcases prc_step ht hp with h1|⟨rfl,h1⟩
  ·rw[← hF] at h1
   obtain ⟨a,ha,h2⟩:=h.pl f hf v hv hfv w hw h1
   exact ⟨a,ha,h2⟩
  ·rw[hx] at h1
   cases h1
   rcases hs with hs|hs
   ·have:=h.dh x (h.inD hw)
    rw[hs] at this
    cases this
   ·exact absurd hw hs.2
theorem Inv.lower (h:Inv g s) {F0:List (Cl×Nat)} {t x:Cl} {k:Nat} (hF:s.F=F0++[(t,k)]) (hx:(g.on t)[k]?=some x) (hs:x ∈ s.S):Inv g { s with F:=F0++[(t,k+1)],low:=fun c=>if c=t then min (s.low t) (num s.D x) else s.low c }:=by
 have ht:=h.front hF
 have htF:t ∈ s.F.map (·.1):=by rw[hF];simp
 have hm:(F0++[(t,k+1)]:List (Cl×Nat)).map (·.1)=s.F.map (·.1):=by rw[hF];exact map_step
 have hxh:=h.dh x (h.inD hs)
 have hle:∀ c,(if c=t then min (s.low t) (num s.D x) else s.low c)≤s.low c:=fun c=>by
  by_cases hc:c=t
  ·subst hc;rw[if_pos rfl];exact Nat.min_le_left _ _
  ·rw[if_neg hc];exact Nat.le_refl _
 refine ⟨h.dn,h.dh,h.sd,by rw[hm];exact h.fs,?_,fun v hv w hw hh=>?_,h.cl,?_,by rw[hm];exact h.bk,by rw[hm];exact h.fr,by rw[hm];exact h.bt,h.ps,h.pc,h.pp,h.pn⟩
 ·show ∀ f ∈ (F0++[(t,k+1)]:List (Cl×Nat)).map (·.1),_
  rw[hm]
  intro f hf
  obtain ⟨h1,u,hu,h2,h3⟩:=h.lo f hf
  refine ⟨Nat.le_trans (hle f) h1,?_⟩
  show ∃ u ∈ s.S,num s.D u=(if f=t then min (s.low t) (num s.D x) else s.low f)∧Rch g f u
  by_cases hft:f=t
  ·subst hft
   rw[if_pos rfl]
   by_cases hlt:s.low f≤num s.D x
   ·exact ⟨u,hu,by rw[Nat.min_eq_left hlt];exact h2,h3⟩
   ·exact ⟨x,hs,by rw[Nat.min_eq_right (by omega)],Rch.one (List.mem_of_getElem? hx) hxh⟩
  ·rw[if_neg hft]
   exact ⟨u,hu,h2,h3⟩
 ·rcases prc_step ht hw with h1|⟨rfl,h1⟩
  ·rw[← hF] at h1;exact h.pd v hv w h1 hh
  ·rw[hx] at h1
   cases h1
   exact h.inD hs
 ·show ∀ f ∈ (F0++[(t,k+1)]:List (Cl×Nat)).map (·.1),_
  rw[hm]
  intro f hf v hv hfv w hw hp
  rcases prc_step ht hp with h1|⟨rfl,h1⟩
  ·rw[← hF] at h1
   obtain ⟨a,ha,h2,h3⟩:=h.pl f hf v hv hfv w hw h1
   exact ⟨a,ha,h2,Nat.le_trans (hle a) h3⟩
  ·rw[hx] at h1
   cases h1
   refine ⟨v,htF,hfv,?_⟩
   show (if v=v then min (s.low v) (num s.D x) else s.low v)≤num s.D x
   rw[if_pos rfl]
   exact Nat.min_le_right _ _
theorem prc_front {F0:List (Cl×Nat)} {t:Cl} {k:Nat} {v w:Cl} (hv:v≠t) (h:Prc g (F0++[(t,k)]) v w):Prc g F0 v w:=by
 rcases h with ⟨j,hj,hw⟩|⟨hj,hw⟩
 ·rcases List.mem_append.1 hj with h1|h1
  ·exact .inl ⟨j,h1,hw⟩
  ·exact absurd (by simpa using h1:v=t∧j=k).1 hv
 ·exact .inr ⟨fun j hh=>hj j (List.mem_append_left _ hh),hw⟩
theorem prc_back {F0:List (Cl×Nat)} {t:Cl} {k:Nat} (ht:t ∉ F0.map (·.1)) (hk:(g.on t).length≤k) {v w:Cl}:Prc g F0 v w→Prc g (F0++[(t,k)]) v w:=by
 intro h
 by_cases hv:v=t
 ·subst hv
  rcases h with ⟨j,hj,_⟩|⟨_,hw⟩
  ·exact absurd (List.mem_map.2 ⟨_,hj,rfl⟩) ht
  ·exact .inl ⟨k,by simp,by rw[List.take_of_length_le hk];exact hw⟩
 ·rcases h with ⟨j,hj,hw⟩|⟨hj,hw⟩
  ·exact .inl ⟨j,List.mem_append_left _ hj,hw⟩
  ·refine .inr ⟨fun j hh=>?_,hw⟩
   rcases List.mem_append.1 hh with h1|h1
   ·exact hj j h1
   ·exact hv (by simpa using h1:v=t∧j=k).1
theorem Inv.enter (h:Inv g s) {F0:List (Cl×Nat)} {t x:Cl} {k:Nat} (hF:s.F=F0++[(t,k)]) (hx:(g.on t)[k]?=some x) (hh:g.has x=true) (hn:x ∉ s.D):Inv g { s with D:=s.D++[x],S:=s.S++[x],F:=F0++[(t,k+1)]++[(x,0)],low:=fun c=>if c=x then s.D.length+1 else s.low c }:=by
 have ht:=h.front hF
 have htF:t ∈ s.F.map (·.1):=by rw[hF];simp
 have hm:(F0++[(t,k+1)]++[(x,0)]:List (Cl×Nat)).map (·.1)=s.F.map (·.1)++[x]:=by rw[hF];simp
 have hxS:x ∉ s.S:=fun hh=>hn (h.inD hh)
 have hxF:x ∉ s.F.map (·.1):=fun hh=>hxS (h.inS hh)
 have htx:t≠x:=fun e=>hxF (e ▸ htF)
 have nS:∀ {c},c ∈ s.S→num (s.D++[x]) c=num s.D c:=fun hc=>num_app (h.inD hc)
 have nF:∀ {c},c ∈ s.F.map (·.1)→num (s.D++[x]) c=num s.D c:=fun hc=>nS (h.inS hc)
 have nx:num (s.D++[x]) x=s.D.length+1:=num_new hn
 have hlF:∀ {c},c ∈ s.F.map (·.1)→(if c=x then s.D.length+1 else s.low c)=s.low c:=fun {c} hc=>if_neg fun (e:c=x)=>hxF (e ▸ hc)
 have rtx:Rch g t x:=Rch.one (List.mem_of_getElem? hx) hh
 -- what was looked at
 have hp:∀ {v w:Cl},v≠x→Prc g (F0++[(t,k+1)]++[(x,0)]) v w→Prc g s.F v w∨(v=t∧w=x):=fun {v w} hv hp=>by
  have h1:Prc g (F0++[(t,k+1)]) v w:=prc_front hv hp
  rcases prc_step ht h1 with h2|⟨rfl,h2⟩
  ·rw[← hF] at h2;exact .inl h2
  ·rw[hx] at h2;cases h2;exact .inr ⟨rfl,rfl⟩
 have hp0:∀ {w:Cl},¬ Prc g (F0++[(t,k+1)]++[(x,0)]) x w:=fun {w} hp=>by
  rcases hp with ⟨j,hj,hw⟩|⟨hj,_⟩
  ·rcases List.mem_append.1 hj with h1|h1
   ·rcases List.mem_append.1 h1 with h2|h2
    ·exact hxF (by rw[hF,List.map_append];exact List.mem_append_left _ (List.mem_map.2 ⟨_,h2,rfl⟩))
    ·exact htx (congrArg Prod.fst (List.mem_singleton.1 h2)).symm
   ·obtain rfl:j=0:=by simpa using h1
    cases hw
  ·exact hj 0 (by simp)
 refine ⟨?_,?_,?_,?_,?_,?_,?_,?_,?_,?_,?_,?_,?_,h.pp,h.pn⟩
 ·exact List.nodup_append.2 ⟨h.dn,by simp,fun a ha b hb=>by obtain rfl:=List.mem_singleton.1 hb;exact fun e=>hn (e ▸ ha)⟩
 ·intro c hc
  rcases List.mem_append.1 hc with h1|h1
  ·exact h.dh c h1
  ·obtain rfl:=List.mem_singleton.1 h1;exact hh
 ·exact h.sd.append (List.Sublist.refl _)
 ·show ((F0++[(t,k+1)]++[(x,0)]:List (Cl×Nat)).map (·.1)).Sublist (s.S++[x])
  rw[hm]
  exact h.fs.append (List.Sublist.refl _)
 ·show ∀ f ∈ (F0++[(t,k+1)]++[(x,0)]:List (Cl×Nat)).map (·.1),(if f=x then s.D.length+1 else s.low f)≤num (s.D++[x]) f∧∃ u ∈ s.S++[x],num (s.D++[x]) u=(if f=x then s.D.length+1 else s.low f)∧Rch g f u
  rw[hm]
  intro f hf
  rcases List.mem_append.1 hf with h1|h1
  ·obtain ⟨h2,u,hu,h3,h4⟩:=h.lo f h1
   rw[hlF h1,nF h1]
   exact ⟨h2,u,List.mem_append_left _ hu,by rw[nS hu];exact h3,h4⟩
  ·obtain rfl:=List.mem_singleton.1 h1
   rw[if_pos rfl,nx]
   exact ⟨Nat.le_refl _,f,by simp,nx,.refl f⟩
 ·intro v hv w hw hwh
  by_cases hvx:v=x
  ·subst hvx;exact absurd hw hp0
  ·have hvS:v ∈ s.S:=by simpa[hvx] using hv
   rcases hp hvx hw with h1|⟨_,rfl⟩
   ·exact List.mem_append_left _ (h.pd v hvS w h1 hwh)
   ·simp
 ·intro v hv hvS w hw hwh
  have hvx:v≠x:=fun e=>hvS (by rw[e];simp)
  have hvD:v ∈ s.D:=by simpa[hvx] using hv
  obtain ⟨h1,h2⟩:=h.cl v hvD (fun hh=>hvS (List.mem_append_left _ hh)) w hw hwh
  refine ⟨List.mem_append_left _ h1,fun hh=>?_⟩
  rcases List.mem_append.1 hh with h3|h3
  ·exact h2 h3
  ·obtain rfl:=List.mem_singleton.1 h3;exact hn h1
 ·show ∀ f ∈ (F0++[(t,k+1)]++[(x,0)]:List (Cl×Nat)).map (·.1),∀ v ∈ s.S++[x],num (s.D++[x]) f≤num (s.D++[x]) v→∀ w ∈ s.S++[x],Prc g (F0++[(t,k+1)]++[(x,0)]) v w→∃ a ∈ (F0++[(t,k+1)]++[(x,0)]:List (Cl×Nat)).map (·.1),num (s.D++[x]) f≤num (s.D++[x]) a∧(if a=x then s.D.length+1 else s.low a)≤num (s.D++[x]) w
  rw[hm]
  intro f hf v hv hfv w hw hpr
  by_cases hvx:v=x
  ·subst hvx;exact absurd hpr hp0
  have hvS:v ∈ s.S:=by simpa[hvx] using hv
  have hfF:f ∈ s.F.map (·.1):=by
   rcases List.mem_append.1 hf with h1|h1
   ·exact h1
   ·obtain rfl:=List.mem_singleton.1 h1
    rw[nx,nS hvS] at hfv
    have:=@num_le s.D v
    omega
  rw[nF hfF,nS hvS] at hfv
  rcases hp hvx hpr with h1|⟨rfl,rfl⟩
  ·have hwS:w ∈ s.S:=by
    rcases List.mem_append.1 hw with h2|h2
    ·exact h2
    ·obtain rfl:=List.mem_singleton.1 h2
     exact absurd (h.pd v hvS w h1 hh) hn
   obtain ⟨a,ha,h2,h3⟩:=h.pl f hfF v hvS hfv w hwS h1
   exact ⟨a,List.mem_append_left _ ha,by rw[nF hfF,nF ha];exact h2,by rw[hlF ha,nS hwS];exact h3⟩
  ·refine ⟨f,hf,Nat.le_refl _,?_⟩
   rw[hlF hfF,nx]
   have:=(h.lo f hfF).1
   have:=@num_le s.D f
   omega
 ·show ∀ v ∈ s.S++[x],v ∉ (F0++[(t,k+1)]++[(x,0)]:List (Cl×Nat)).map (·.1)→∃ u ∈ s.S++[x],num (s.D++[x]) u<num (s.D++[x]) v∧Rch g v u
  rw[hm]
  intro v hv hvF
  have hvx:v≠x:=fun e=>hvF (by rw[e];simp)
  have hvS:v ∈ s.S:=by simpa[hvx] using hv
  obtain ⟨u,hu,h1,h2⟩:=h.bk v hvS fun hh=>hvF (List.mem_append_left _ hh)
  exact ⟨u,List.mem_append_left _ hu,by rw[nS hu,nS hvS];exact h1,h2⟩
 ·show ∀ f ∈ (F0++[(t,k+1)]++[(x,0)]:List (Cl×Nat)).map (·.1),∀ v ∈ s.S++[x],num (s.D++[x]) f≤num (s.D++[x]) v→Rch g f v
  rw[hm]
  intro f hf v hv hfv
  rcases List.mem_append.1 hf with h1|h1
  ·rcases List.mem_append.1 hv with h2|h2
   ·rw[nF h1,nS h2] at hfv
    exact h.fr f h1 v h2 hfv
   ·obtain rfl:=List.mem_singleton.1 h2
    exact (h.fr f h1 t (h.inS htF) (h.top hF h1).1).trans rtx
  ·obtain rfl:=List.mem_singleton.1 h1
   rcases List.mem_append.1 hv with h2|h2
   ·rw[nx,nS h2] at hfv
    have:=@num_le s.D v
    omega
   ·obtain rfl:=List.mem_singleton.1 h2
    exact .refl _
 ·show ∀ v ∈ s.S++[x],∃ f ∈ (F0++[(t,k+1)]++[(x,0)]:List (Cl×Nat)).map (·.1),num (s.D++[x]) f≤num (s.D++[x]) v
  rw[hm]
  intro v hv
  rcases List.mem_append.1 hv with h2|h2
  ·obtain ⟨f,hf,h3⟩:=h.bt v h2
   exact ⟨f,List.mem_append_left _ hf,by rw[nF hf,nS h2];exact h3⟩
  ·obtain rfl:=List.mem_singleton.1 h2
   exact ⟨v,by simp,Nat.le_refl _⟩
 ·intro p hp
  obtain ⟨h1,h2⟩:=h.ps p hp
  refine ⟨h1,fun c hc=>?_⟩
  obtain ⟨h3,h4⟩:=h2 c hc
  refine ⟨List.mem_append_left _ h3,fun hh=>?_⟩
  rcases List.mem_append.1 hh with h5|h5
  ·exact h4 h5
  ·obtain rfl:=List.mem_singleton.1 h5;exact hn h3
 ·intro c hc hcS
  have hcx:c≠x:=fun e=>hcS (by rw[e];simp)
  exact h.pc c (by simpa[hcx] using hc) fun hh=>hcS (List.mem_append_left _ hh)
end
end
end Go.Proofs.YtfcmhmglpcimiaaGreatDoor
