/- Proved: a part of what the law is proved with (the reckoner, contracts of functions, plain laws). Conditions: as each says. -/
import Derived.Test.YtdpigpahfiachaaGreatDoorXIg
import Derived.Test.YtdpigpahfiachaaGreatDoorXIk
import Derived.Test.YtdpigpahfiachaaGreatDoorXPd
section
namespace Go.Proofs.YtdpigpahfiachaaGreatDoor
open Go Go.EYtdpigpahfiachaaGreatDoor
set_option maxRecDepth 100000
set_option maxHeartbeats 4000000
variable {gl:List (Nat×List D)}
theorem loose_all {s:List UInt8} {d:Nat} {one:Nat→Rs Nd} (hd:d≤30) (hs:s.length≤200) (hf:Fwd s one)
 (h1:∀ j,j≤s.length→GivesP gl 90 [.c (.ptr 0 0)] s j d d (one j)):∀ (k least:Nat),5≤k+least→least≤5→∀ i,i≤s.length→GivesP gl 47 [.c (.ptr 0 0),.c (.d (iD (least:Int)))] s i d d (Lo s one k least i)
 | 0,least,hk,hl,i,hi=>by
  obtain rfl:least=5:=by omega
  refine loose_l (sub:=fun op=>Lo s one 0 (tgt op+1)) hd hs hf (fun op=>Lo_fwd hf 0 _) hi h1 (fun op j h _=>absurd (tgt_le op) (by omega)) ?_
  exact Lo_more 0 5 i (by omega)
 | k+1,least,hk,hl,i,hi =>
  loose_l (sub:=fun op=>Lo s one k (tgt op+1)) hd hs hf (fun op=>Lo_fwd hf k _) hi h1 (fun op j h hj=>loose_all hd hs hf h1 k (tgt op+1) (by omega) (by have:=tgt_le op;omega) j hj) rfl
theorem oneB_fwd {p:Par} {s:List UInt8} (d:Nat):Fwd s (oneB p s d):=by
 have e:oneB p s d=oneA p s d:=by funext i;exact (one_eq d i).symm
 rw[e]
 exact oneA_fwd d
theorem one_all {rf:List UInt8→Option Rf} (hR:RefsOk rf) (hE:rf []=none) {s:List UInt8} (hs:s.length≤200) :
 ∀ (x d:Nat),d+x=30→∀ i,i≤s.length→GivesP gl 90 [.c (.ptr 0 0)] s i d d (oneB (parZ rf) s x i)
 | 0,d,hd,i,hi=>by
  obtain rfl:d=30:=by omega
  exact one_d hR hs (Nat.le_refl _) hi no_fwd (fun h=>absurd h (by omega)) (fun h=>absurd h (by omega)) (fun h=>absurd h (by omega))
 | x+1,d,hd,i,hi=>by
  have ih:=one_all hR hE hs x (d+1) (by omega)
  have hf1:=oneB_fwd (p:=parZ rf) (s:=s) x
  have h2:=loose_all (by omega) hs hf1 ih 4 1 (by omega) (by omega)
  have hf:=Lo_fwd hf1 4 1
  have:=one_d hR hs (show d≤30 by omega) hi hf (fun _=>ih) (fun _=>h2) (fun hd w k hk=>rcall_d hR hE hk hs hd hf (fun i=>Lo_skp _ _ _ _ _) h2)
  rw[show decide (d=30)=false from decide_eq_false (by omega)] at this
  exact this
def rparseD:Rs Nd→D
 | .ok n _=>.tup [.agg n.cs,iD 0,iD 0]
 | .no a e=>.tup [.agg n00.cs,iD (a:Int),iD e]
theorem rn00 {i e:Int} {f:Nat} {ds:List D} (h:Go.EYtdpigpahfiachaaGreatDoor.Fn Tryz.prog gl f (ds.map vD) [] 0 (.ret (.tup [(true,[.d (iD 0),.d (iD 0),.d (.str []),.d (iD 0),.d (iD 0),.d (.v (.bool false)),.d (.v (.bool false)),.d (iD 0),.d (iD 0),.d (.v (.bool false)),.d (.v (.bool false)),.d (.v (.slice none 0 0))]),(false,[.d (iD i)]),(false,[.d (iD e)])])) [] 0 []):FnP Tryz.prog gl f ds (.tup [.agg n00.cs,iD i,iD e]) :=
 FnP.le (fnP_of_fn h rfl) (LeD.tup (LeD.cons n00_le (LeD.cons LeD.rfl (LeD.cons LeD.rfl LeD.nil))))
theorem rParse_d {rf:List UInt8→Option Rf} (hR:RefsOk rf) (hE:rf []=none) (s:List UInt8):FnP Tryz.prog gl 15 [.str s] (rparseD (parseZ rf s)):=by
 unfold parseZ
 by_cases h200:200<s.length
 ·rw[if_pos h200]
  have h1:((s.length:Nat):Int)>200:=by omega
  refine rn00 ?_
  refine fn_of_vc (nv:=9999) (cu:=[]) fits mixed Tryz.func15 rfl hoB rfl rfl rfl rfl ?_
  ((repeat' ((conv=>whnf);first|exact .intro|refine .ya ?_|refine .na ?_|refine .ys ?_|refine .ns ?_|refine .neg (fun _=>?_) (fun _=>?_)|refine .mk (fun _=>?_) (fun _=>?_)|refine .mk ?_ ?_|refine AK ?_|refine AT ?_|fail));all_goals conv=>whnf)
  ((repeat' first|exact rfl|((conv=>whnf);first|done|exact suL|refine And.intro ?_ ?_|fail));all_goals conv=>whnf)
 ·rw[if_neg h200]
  have h1:¬ ((s.length:Nat):Int)>200:=by omega
  have hs:s.length≤200:=by omega
  cases s with
  | nil =>
   rw[if_neg (by simp)]
   refine rn00 ?_
   refine fn_of_vc (nv:=9999) (cu:=[]) fits mixed Tryz.func15 rfl hoB rfl rfl rfl rfl ?_
   ((repeat' ((conv=>whnf);first|exact .intro|refine .ya ?_|refine .na ?_|refine .ys ?_|refine .ns ?_|refine .neg (fun _=>?_) (fun _=>?_)|refine .mk (fun _=>?_) (fun _=>?_)|refine .mk ?_ ?_|refine AK ?_|refine AT ?_|fail));all_goals conv=>whnf)
   ((repeat' first|exact rfl|((conv=>whnf);first|done|exact suL|refine And.intro ?_ ?_|fail));all_goals conv=>whnf)
  | cons c r =>
   have hn:¬ c::r=(⟨#[]⟩:ByteArray).data.toList:=by simp
   have hl0:(0:Int)<(((c::r).length:Nat):Int):=Int.natCast_pos.2 (Nat.succ_pos _)
   by_cases h61:(c::r).head?=some 61
   ·rw[if_pos h61]
    have hl1:1≤(c::r).length:=by simp
    have hc:c=61:=by simpa using h61
    have h2:¬ ¬ ((((c::r).getD (0:Int).toNat 0).toNat:Nat):Int)=61:=fun h=>h (by subst hc;rfl)
    rw[all_eq 30 hl1]
    have hone:=one_all (gl:=gl) hR hE hs 30 0 rfl
    have c1:=loose_all (by omega) hs (oneB_fwd (p:=parZ rf) 30) hone 4 1 (by omega) (by omega) 1 hl1
    have hf:=Lo_fwd (oneB_fwd (p:=parZ rf) (s:=c::r) 30) 4 1
    generalize c::r=s at *
    unfold allF
    cases hx:Lo s (oneB (parZ rf) s 30) 4 1 1 with
    | no a e =>
     rw[hx] at c1
     simp only[Rs.bind_no]
     obtain ⟨m,J,X,hJ,he,c1⟩:=c1
     have he':¬ e=0:=he
     have c2:=tok_d (gl:=gl) hJ hs
     generalize tokZ s J=tk at *
     obtain ⟨K1,K2,K3,K4⟩:=tk
     change FnP Tryz.prog gl 48 _ (.agg [iD (K1:Int),iD ((K2:Nat):Int),iD ((K3:Nat):Int),.str K4]) at c2
     obtain ⟨k1,m1,t1,a1,b1,ks1⟩:=m
     refine rn00 ?_
     refine fn_of_vc (nv:=9999) (cu:=[]) fits mixed Tryz.func15 rfl hoB rfl rfl rfl rfl ?_
     ((repeat' ((conv=>whnf);first|exact .intro|refine .ya ?_|refine .na ?_|refine .ys ?_|refine .ns ?_|refine .neg (fun _=>?_) (fun _=>?_)|refine .mk (fun _=>?_) (fun _=>?_)|refine .inr (X5 (c1.r [1] _) ?_)|refine .inl (.inr (X5 (c1.r [1] _) ?_))|refine .inl (X5 (c1.r [1] _) ?_)|refine .inl (.inl (X1 (c2) ?_))|refine .inl (X1 (c2) ?_)|refine X1 (c2) ?_|(refine ⟨⟨Int.le_refl _,hl0⟩,?_⟩)|refine .mk ?_ ?_|refine AK ?_|refine AT ?_|fail));all_goals conv=>whnf)
     ((repeat' first|exact rfl|((conv=>whnf);first|done|exact suL|refine And.intro ?_ ?_|fail));all_goals conv=>whnf)
    | ok n j =>
     rw[hx] at c1
     unfold GivesP at c1
     simp only[Rs.bind_ok]
     have hj:=(hf _ _ _ hl1 hx).2
     have c2:=tok_d (gl:=gl) hj hs
     have hte:=tok_end hj
     have hta:=tok_a s j
     generalize tokZ s j=tk at *
     obtain ⟨K1,K2,K3,K4⟩:=tk
     simp only at hte hta
     subst hta
     change FnP Tryz.prog gl 48 _ (.agg [iD (K1:Int),iD ((skp s j:Nat):Int),iD ((K3:Nat):Int),.str K4]) at c2
     have c3:=pfail_0 (gl:=gl) s j (skp s j) ((0:Nat):Int) 2
     obtain ⟨k1,m1,t1,a1,b1,ks1⟩:=n
     by_cases hend:skp s j=s.length
     ·rw[if_pos hend]
      have h3:¬ ¬ ((K1:Nat):Int)=0:=fun h=>h (by have:=hte.2 hend;omega)
      have h3':((K1:Nat):Int)=0:=by have:=hte.2 hend;omega
      generalize skp s j=y at *
      refine fnP_of_fn (v:=.tup [(true,ndC (.mk k1 m1 t1 a1 b1 ks1)),(false,[.d (iD 0)]),(false,[.d (iD 0)])]) ?_ (parts_cs _ _ _)
      refine fn_of_vc (nv:=9999) (cu:=[]) fits mixed Tryz.func15 rfl hoB rfl rfl rfl rfl ?_
      ((repeat' ((conv=>whnf);first|exact .intro|refine .ya ?_|refine .na ?_|refine .ys ?_|refine .ns ?_|refine .neg (fun _=>?_) (fun _=>?_)|refine .mk (fun _=>?_) (fun _=>?_)|refine .inr (X5 (c1.r [1] _) ?_)|refine .inl (.inr (X5 (c1.r [1] _) ?_))|refine .inl (X5 (c1.r [1] _) ?_)|refine .inr (X5 (c3.r [1] _) ?_)|refine .inl (.inr (X5 (c3.r [1] _) ?_))|refine .inl (X5 (c3.r [1] _) ?_)|refine .inl (.inl (X1 (c2) ?_))|refine .inl (X1 (c2) ?_)|refine X1 (c2) ?_|(refine ⟨⟨Int.le_refl _,hl0⟩,?_⟩)|refine .mk ?_ ?_|refine AK ?_|refine AT ?_|fail));all_goals conv=>whnf)
      ((repeat' first|exact rfl|((conv=>whnf);first|done|exact suL|refine And.intro ?_ ?_|fail));all_goals conv=>whnf)
     ·rw[if_neg hend]
      have h3:¬ ((K1:Nat):Int)=0:=fun h=>hend (hte.1 (by omega))
      generalize skp s j=y at *
      refine rn00 ?_
      refine fn_of_vc (nv:=9999) (cu:=[]) fits mixed Tryz.func15 rfl hoB rfl rfl rfl rfl ?_
      ((repeat' ((conv=>whnf);first|exact .intro|refine .ya ?_|refine .na ?_|refine .ys ?_|refine .ns ?_|refine .neg (fun _=>?_) (fun _=>?_)|refine .mk (fun _=>?_) (fun _=>?_)|refine .inr (X5 (c1.r [1] _) ?_)|refine .inl (.inr (X5 (c1.r [1] _) ?_))|refine .inl (X5 (c1.r [1] _) ?_)|refine .inr (X5 (c3.r [1] _) ?_)|refine .inl (.inr (X5 (c3.r [1] _) ?_))|refine .inl (X5 (c3.r [1] _) ?_)|refine .inl (.inl (X1 (c2) ?_))|refine .inl (X1 (c2) ?_)|refine X1 (c2) ?_|(refine ⟨⟨Int.le_refl _,hl0⟩,?_⟩)|refine .mk ?_ ?_|refine AK ?_|refine AT ?_|fail));all_goals conv=>whnf)
      ((repeat' first|exact rfl|((conv=>whnf);first|done|exact suL|refine And.intro ?_ ?_|fail));all_goals conv=>whnf)
   ·rw[if_neg h61]
    have h2:¬ ((((c::r).getD (0:Int).toNat 0).toNat:Nat):Int)=61:=fun h=>h61 (by
     have:c=61:=UInt8.toNat_inj.1 (Int.ofNat.inj h)
     simp[this])
    generalize c::r=s at *
    refine rn00 ?_
    refine fn_of_vc (nv:=9999) (cu:=[]) fits mixed Tryz.func15 rfl hoB rfl rfl rfl rfl ?_
    ((repeat' ((conv=>whnf);first|exact .intro|refine .ya ?_|refine .na ?_|refine .ys ?_|refine .ns ?_|refine .neg (fun _=>?_) (fun _=>?_)|refine .mk (fun _=>?_) (fun _=>?_)|(refine ⟨⟨Int.le_refl _,hl0⟩,?_⟩)|refine .mk ?_ ?_|refine AK ?_|refine AT ?_|fail));all_goals conv=>whnf)
    ((repeat' first|exact rfl|((conv=>whnf);first|done|exact suL|refine And.intro ?_ ?_|fail));all_goals conv=>whnf)
end Go.Proofs.YtdpigpahfiachaaGreatDoor
end
section
namespace Go.Proofs.YtdpigpahfiachaaGreatDoor
open Go Go.EYtdpigpahfiachaaGreatDoor
set_option maxRecDepth 100000
set_option maxHeartbeats 4000000
variable {gl:List (Nat×List D)}
theorem csL_get {ks:List Nd} {x:Nat} (h:x<ks.length):(Nd.csL ks)[((x:Nat):Int).toNat]?=some (ks[x]).cs:=by
 rw[Int.toNat_natCast]
 induction ks generalizing x with
 | nil=>simp at h
 | cons a r ih =>
  cases x with
  | zero=>rfl
  | succ x=>exact ih (by simpa using h)
theorem kids_max {M:Nat→Prop} {w:World} {k m:Int} {t:List UInt8} {a b:Rf} {ks:List Nd} {x:Value} (h:DenD M w (.agg (Nd.mk k m t a b ks).cs) x):ks.length≤maxLen:=by
 obtain ⟨xs,_,hd⟩:=h.agg_inv
 obtain ⟨y,_,hy⟩:=All2.get hd (j:=11) (a:=.lst 12 (Nd.csL ks)) rfl
 rw[← csL_len]
 generalize Nd.csL ks=l at hy
 cases hy with
 | lst0 z a c hc=>exact Nat.zero_le _
 | lst z l b o c cs hb hM hl hc _ _ _=>exact Nat.le_trans hl hc
theorem same_y (n:Nd):FnP Tryz.prog gl 18 [.agg n.cs,.agg n.cs] (.v (.bool true)):=by
 match n with
 | .mk k m t a b ks =>
  have ih:∀ x (h:x<ks.length),FnP Tryz.prog gl 18 [.agg (ks[x]).cs,.agg (ks[x]).cs] (.v (.bool true)):=fun x h=>same_y ks[x]
  suffices hh:ks.length≤9223372036854775807→FnP Tryz.prog gl 18 [.agg (Nd.mk k m t a b ks).cs,.agg (Nd.mk k m t a b ks).cs] (.v (.bool true)) from fun w M xs hM hg hd=>(match xs,hd with
   | x::ys,hd=>hh (kids_max hd.1) w M (x::ys) hM hg hd
   | [],hd=>hd.elim)
  intro hks
  refine fnP_of_vc (nv:=9999) (cu:=[]) fits mixed Tryz.func18 rfl hoB rfl ?_
  ((repeat' ((conv=>whnf);first|exact .intro|refine .ya ?_|refine .na ?_|refine .ys ?_|refine .ns ?_|refine .neg (fun _=>?_) (fun _=>?_)|refine .mk (fun _=>?_) (fun _=>?_)|refine .mk ?_ ?_|refine AK ?_|refine AT ?_|fail));all_goals conv=>whnf)
  refine ⟨{ σ:=Nat,fr:=fun x=>[(5,.c (.d (iD (x:Int))))],ks:=[],L:=fun x=>[],ex:=0,I:=fun x=>x≤ks.length,μ:=fun x=>ks.length - x },⟨0,Nat.zero_le _,?_⟩,fun (x:Nat) hx=>?_⟩
  ·((repeat' first|exact rfl|((conv=>whnf);first|done|exact suL|refine And.intro ?_ ?_|fail));all_goals conv=>whnf)
  ·have hlen:=csL_len ks
   by_cases hx7:x<ks.length
   ·have hx7':(x:Int)<((Nd.csL ks).length:Int):=by omega
    have hget:=csL_get hx7
    have c1:=ih x hx7
    generalize ks[x]=q at *
    obtain ⟨k1,m1,t1,a1,b1,ks1⟩:=q
    change (Nd.csL ks)[((x:Nat):Int).toNat]?=some [iD k1,iD m1,.str t1,iD a1.c,iD a1.r,tD a1.fc,tD a1.fr,iD b1.c,iD b1.r,tD b1.fc,tD b1.fr,.lst 12 (Nd.csL ks1)] at hget
    ((repeat' ((conv=>whnf);first|exact .intro|refine .ya ?_|refine .na ?_|refine .ys ?_|refine .ns ?_|refine .neg (fun _=>?_) (fun _=>?_)|refine .mk (fun _=>?_) (fun _=>?_)|refine .inl (.inl (X1 (c1) ?_))|refine .inl (X1 (c1) ?_)|refine X1 (c1) ?_|(refine ⟨_,hget,?_⟩)|refine .mk ?_ ?_|refine AK ?_|refine AT ?_|fail));all_goals conv=>whnf)
    refine ⟨x+1,⟨hx7,by show ks.length - (x+1)<ks.length - x;omega⟩,?_⟩
    ((repeat' first|exact rfl|((conv=>whnf);first|done|exact suL|refine And.intro ?_ ?_|fail));all_goals conv=>whnf)
    exact ceq (by rw[wrapI (by have:=Nat.lt_of_lt_of_le hx7 hks;omega)];rfl)
   ·have hx8:¬ (x:Int)<((Nd.csL ks).length:Int):=by omega
    ((repeat' ((conv=>whnf);first|exact .intro|refine .ya ?_|refine .na ?_|refine .ys ?_|refine .ns ?_|refine .neg (fun _=>?_) (fun _=>?_)|refine .mk (fun _=>?_) (fun _=>?_)|refine .mk ?_ ?_|refine AK ?_|refine AT ?_|fail));all_goals conv=>whnf)
    exact LeD.rfl
termination_by SizeOf.sizeOf n
decreasing_by
 simp only[Nd.mk.sizeOf_spec]
 have:=List.sizeOf_lt_of_mem (List.getElem_mem h)
 omega
theorem parseZ_ne {rf:List UInt8→Option Rf} (hR:RefsOk rf) (hE:rf []=none) {s:List UInt8} {a:Nat} {e:Int} (h:parseZ rf s=.no a e):e≠0:=by
 unfold parseZ at h
 split at h
 ·cases h;decide
 ·rename_i h200
  split at h
  ·rename_i h61
   have hs:s.length≤200:=by omega
   have hl1:1≤s.length:=by
    cases s with
    | nil=>cases h61
    | cons c r=>simp
   rw[all_eq 30 hl1] at h
   have hone:=one_all (gl:=[]) hR hE hs 30 0 rfl
   have c1:=loose_all (by omega) hs (oneB_fwd (p:=parZ rf) 30) hone 4 1 (by omega) (by omega) 1 hl1
   unfold allF at h
   cases hx:Lo s (oneB (parZ rf) s 30) 4 1 1 with
   | no a' e' =>
    rw[hx] at h c1
    cases h
    obtain ⟨_,_,_,_,he,_⟩:=c1
    exact he
   | ok n j =>
    rw[hx] at h
    simp only[Rs.bind_ok] at h
    split at h
    ·cases h
    ·cases h;decide
  ·cases h;decide
end Go.Proofs.YtdpigpahfiachaaGreatDoor
end
