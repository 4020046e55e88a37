/- Proved: a part of what the law is proved with (the reckoner, contracts of functions, plain laws). Conditions: as each says. -/
import Derived.ChangeMaps5
import Derived.Lib.LaidU8
import Derived.Deep.Slices
import Derived.OpenShut
import Derived.Test.YtcdjjjokniinkaaGreatDoorYBase
import Derived.Test.YtcdjjjokniinkaaGreatDoorYIk
import Derived.Test.YtcdjjjokniinkaaGreatDoorYLa
import Derived.Test.YtcdjjjokniinkaaGreatDoorYMd
import Derived.Test.YtcdjjjokniinkaaGreatDoorYPe
import Derived.Test.YtcdjjjokniinkaaGreatDoorYRa
import Derived.Test.YtcdjjjokniinkaaGreatDoorYSg
section
namespace Go.Proofs.YtcdjjjokniinkaaGreatDoor
open Go Go.EYtcdjjjokniinkaaGreatDoor
set_option maxRecDepth 100000
set_option maxHeartbeats 4000000
variable {gl:List (Nat×List D)}
theorem loose_all {s:List UInt8} {d:Nat} {one:Nat→Rs Nd} (hd:d≤30) (hs:s.length≤200) (hf:Fwd s one)
 (h1:∀ j,j≤s.length→GivesP gl 76 [.c (.ptr 0 0)] s j d d (one j)):∀ (k least:Nat),5≤k+least→least≤5→∀ i,i≤s.length→GivesP gl 52 [.c (.ptr 0 0),.c (.d (iD (least:Int)))] s i d d (Lo s one k least i)
 | 0,least,hk,hl,i,hi=>by
  obtain rfl:least=5:=by omega
  refine loose_l (sub:=fun op=>Lo s one 0 (tgt op+1)) hd hs hf (fun op=>Lo_fwd hf 0 _) hi h1 (fun op j h _=>absurd (tgt_le op) (by omega)) ?_
  exact Lo_more 0 5 i (by omega)
 | k+1,least,hk,hl,i,hi =>
  loose_l (sub:=fun op=>Lo s one k (tgt op+1)) hd hs hf (fun op=>Lo_fwd hf k _) hi h1 (fun op j h hj=>loose_all hd hs hf h1 k (tgt op+1) (by omega) (by have:=tgt_le op;omega) j hj) rfl
theorem oneB_fwd {p:Par} {s:List UInt8} (d:Nat):Fwd s (oneB p s d):=by
 have e:oneB p s d=oneA p s d:=by funext i;exact (one_eq d i).symm
 rw[e]
 exact oneA_fwd d
theorem one_all {rf:List UInt8→Option Rf} (hR:RefsOk rf) (hE:rf []=none) {s:List UInt8} (hs:s.length≤200) :
 ∀ (x d:Nat),d+x=30→∀ i,i≤s.length→GivesP gl 76 [.c (.ptr 0 0)] s i d d (oneB (parZ rf) s x i)
 | 0,d,hd,i,hi=>by
  obtain rfl:d=30:=by omega
  exact one_d hR hs (Nat.le_refl _) hi no_fwd (fun h=>absurd h (by omega)) (fun h=>absurd h (by omega)) (fun h=>absurd h (by omega))
 | x+1,d,hd,i,hi=>by
  have ih:=one_all hR hE hs x (d+1) (by omega)
  have hf1:=oneB_fwd (p:=parZ rf) (s:=s) x
  have h2:=loose_all (by omega) hs hf1 ih 4 1 (by omega) (by omega)
  have hf:=Lo_fwd hf1 4 1
  have:=one_d hR hs (show d≤30 by omega) hi hf (fun _=>ih) (fun _=>h2) (fun hd w k hk=>rcall_d hR hE hk hs hd hf (fun i=>Lo_skp _ _ _ _ _) h2)
  rw[show decide (d=30)=false from decide_eq_false (by omega)] at this
  exact this
def rparseD:Rs Nd→D
 | .ok n _=>.tup [.agg n.cs,iD 0,iD 0]
 | .no a e=>.tup [.agg n00.cs,iD (a:Int),iD e]
theorem rn00 {i e:Int} {f:Nat} {ds:List D} (h:Go.EYtcdjjjokniinkaaGreatDoor.Fn Tryz.prog gl f (ds.map vD) [] 0 (.ret (.tup [(true,[.d (iD 0),.d (iD 0),.d (.str []),.d (iD 0),.d (iD 0),.d (.v (.bool false)),.d (.v (.bool false)),.d (iD 0),.d (iD 0),.d (.v (.bool false)),.d (.v (.bool false)),.d (.v (.slice none 0 0))]),(false,[.d (iD i)]),(false,[.d (iD e)])])) [] 0 []):FnP Tryz.prog gl f ds (.tup [.agg n00.cs,iD i,iD e]) :=
 FnP.le (fnP_of_fn h rfl) (LeD.tup (LeD.cons n00_le (LeD.cons LeD.rfl (LeD.cons LeD.rfl LeD.nil))))
theorem rParse_d {rf:List UInt8→Option Rf} (hR:RefsOk rf) (hE:rf []=none) (s:List UInt8):FnP Tryz.prog gl 25 [.str s] (rparseD (parseZ rf s)):=by
 unfold parseZ
 by_cases h200:200<s.length
 ·rw[if_pos h200]
  have h1:((s.length:Nat):Int)>200:=by omega
  refine rn00 ?_
  refine fn_of_vc (nv:=9999) (cu:=[]) fits mixed Tryz.func25 rfl hoB rfl rfl rfl rfl ?_
  ((repeat' ((conv=>whnf);first|exact .intro|refine .ya ?_|refine .na ?_|refine .ys ?_|refine .ns ?_|refine .neg (fun _=>?_) (fun _=>?_)|refine .mk (fun _=>?_) (fun _=>?_)|refine .mk ?_ ?_|refine AK ?_|refine AT ?_|fail));all_goals conv=>whnf)
  ((repeat' first|exact rfl|((conv=>whnf);first|done|exact suL|refine And.intro ?_ ?_|fail));all_goals conv=>whnf)
 ·rw[if_neg h200]
  have h1:¬ ((s.length:Nat):Int)>200:=by omega
  have hs:s.length≤200:=by omega
  cases s with
  | nil =>
   rw[if_neg (by simp)]
   refine rn00 ?_
   refine fn_of_vc (nv:=9999) (cu:=[]) fits mixed Tryz.func25 rfl hoB rfl rfl rfl rfl ?_
   ((repeat' ((conv=>whnf);first|exact .intro|refine .ya ?_|refine .na ?_|refine .ys ?_|refine .ns ?_|refine .neg (fun _=>?_) (fun _=>?_)|refine .mk (fun _=>?_) (fun _=>?_)|refine .mk ?_ ?_|refine AK ?_|refine AT ?_|fail));all_goals conv=>whnf)
   ((repeat' first|exact rfl|((conv=>whnf);first|done|exact suL|refine And.intro ?_ ?_|fail));all_goals conv=>whnf)
  | cons c r =>
   have hn:¬ c::r=(⟨#[]⟩:ByteArray).data.toList:=by simp
   have hl0:(0:Int)<(((c::r).length:Nat):Int):=Int.natCast_pos.2 (Nat.succ_pos _)
   by_cases h61:(c::r).head?=some 61
   ·rw[if_pos h61]
    have hl1:1≤(c::r).length:=by simp
    have hc:c=61:=by simpa using h61
    have h2:¬ ¬ ((((c::r).getD (0:Int).toNat 0).toNat:Nat):Int)=61:=fun h=>h (by subst hc;rfl)
    rw[all_eq 30 hl1]
    have hone:=one_all (gl:=gl) hR hE hs 30 0 rfl
    have c1:=loose_all (by omega) hs (oneB_fwd (p:=parZ rf) 30) hone 4 1 (by omega) (by omega) 1 hl1
    have hf:=Lo_fwd (oneB_fwd (p:=parZ rf) (s:=c::r) 30) 4 1
    generalize c::r=s at *
    unfold allF
    cases hx:Lo s (oneB (parZ rf) s 30) 4 1 1 with
    | no a e =>
     rw[hx] at c1
     simp only[Rs.bind_no]
     obtain ⟨m,J,X,hJ,he,c1⟩:=c1
     have he':¬ e=0:=he
     have c2:=tok_d (gl:=gl) hJ hs
     generalize tokZ s J=tk at *
     obtain ⟨K1,K2,K3,K4⟩:=tk
     change FnP Tryz.prog gl 53 _ (.agg [iD (K1:Int),iD ((K2:Nat):Int),iD ((K3:Nat):Int),.str K4]) at c2
     obtain ⟨k1,m1,t1,a1,b1,ks1⟩:=m
     refine rn00 ?_
     refine fn_of_vc (nv:=9999) (cu:=[]) fits mixed Tryz.func25 rfl hoB rfl rfl rfl rfl ?_
     ((repeat' ((conv=>whnf);first|exact .intro|refine .ya ?_|refine .na ?_|refine .ys ?_|refine .ns ?_|refine .neg (fun _=>?_) (fun _=>?_)|refine .mk (fun _=>?_) (fun _=>?_)|refine .inr (X5 (c1.r [1] _) ?_)|refine .inl (.inr (X5 (c1.r [1] _) ?_))|refine .inl (X5 (c1.r [1] _) ?_)|refine .inl (.inl (X1 (c2) ?_))|refine .inl (X1 (c2) ?_)|refine X1 (c2) ?_|(refine ⟨⟨Int.le_refl _,hl0⟩,?_⟩)|refine .mk ?_ ?_|refine AK ?_|refine AT ?_|fail));all_goals conv=>whnf)
     ((repeat' first|exact rfl|((conv=>whnf);first|done|exact suL|refine And.intro ?_ ?_|fail));all_goals conv=>whnf)
    | ok n j =>
     rw[hx] at c1
     unfold GivesP at c1
     simp only[Rs.bind_ok]
     have hj:=(hf _ _ _ hl1 hx).2
     have c2:=tok_d (gl:=gl) hj hs
     have hte:=tok_end hj
     have hta:=tok_a s j
     generalize tokZ s j=tk at *
     obtain ⟨K1,K2,K3,K4⟩:=tk
     simp only at hte hta
     subst hta
     change FnP Tryz.prog gl 53 _ (.agg [iD (K1:Int),iD ((skp s j:Nat):Int),iD ((K3:Nat):Int),.str K4]) at c2
     have c3:=pfail_0 (gl:=gl) s j (skp s j) ((0:Nat):Int) 2
     obtain ⟨k1,m1,t1,a1,b1,ks1⟩:=n
     by_cases hend:skp s j=s.length
     ·rw[if_pos hend]
      have h3:¬ ¬ ((K1:Nat):Int)=0:=fun h=>h (by have:=hte.2 hend;omega)
      have h3':((K1:Nat):Int)=0:=by have:=hte.2 hend;omega
      generalize skp s j=y at *
      refine fnP_of_fn (v:=.tup [(true,ndC (.mk k1 m1 t1 a1 b1 ks1)),(false,[.d (iD 0)]),(false,[.d (iD 0)])]) ?_ (parts_cs _ _ _)
      refine fn_of_vc (nv:=9999) (cu:=[]) fits mixed Tryz.func25 rfl hoB rfl rfl rfl rfl ?_
      ((repeat' ((conv=>whnf);first|exact .intro|refine .ya ?_|refine .na ?_|refine .ys ?_|refine .ns ?_|refine .neg (fun _=>?_) (fun _=>?_)|refine .mk (fun _=>?_) (fun _=>?_)|refine .inr (X5 (c1.r [1] _) ?_)|refine .inl (.inr (X5 (c1.r [1] _) ?_))|refine .inl (X5 (c1.r [1] _) ?_)|refine .inr (X5 (c3.r [1] _) ?_)|refine .inl (.inr (X5 (c3.r [1] _) ?_))|refine .inl (X5 (c3.r [1] _) ?_)|refine .inl (.inl (X1 (c2) ?_))|refine .inl (X1 (c2) ?_)|refine X1 (c2) ?_|(refine ⟨⟨Int.le_refl _,hl0⟩,?_⟩)|refine .mk ?_ ?_|refine AK ?_|refine AT ?_|fail));all_goals conv=>whnf)
      ((repeat' first|exact rfl|((conv=>whnf);first|done|exact suL|refine And.intro ?_ ?_|fail));all_goals conv=>whnf)
     ·rw[if_neg hend]
      have h3:¬ ((K1:Nat):Int)=0:=fun h=>hend (hte.1 (by omega))
      generalize skp s j=y at *
      refine rn00 ?_
      refine fn_of_vc (nv:=9999) (cu:=[]) fits mixed Tryz.func25 rfl hoB rfl rfl rfl rfl ?_
      ((repeat' ((conv=>whnf);first|exact .intro|refine .ya ?_|refine .na ?_|refine .ys ?_|refine .ns ?_|refine .neg (fun _=>?_) (fun _=>?_)|refine .mk (fun _=>?_) (fun _=>?_)|refine .inr (X5 (c1.r [1] _) ?_)|refine .inl (.inr (X5 (c1.r [1] _) ?_))|refine .inl (X5 (c1.r [1] _) ?_)|refine .inr (X5 (c3.r [1] _) ?_)|refine .inl (.inr (X5 (c3.r [1] _) ?_))|refine .inl (X5 (c3.r [1] _) ?_)|refine .inl (.inl (X1 (c2) ?_))|refine .inl (X1 (c2) ?_)|refine X1 (c2) ?_|(refine ⟨⟨Int.le_refl _,hl0⟩,?_⟩)|refine .mk ?_ ?_|refine AK ?_|refine AT ?_|fail));all_goals conv=>whnf)
      ((repeat' first|exact rfl|((conv=>whnf);first|done|exact suL|refine And.intro ?_ ?_|fail));all_goals conv=>whnf)
   ·rw[if_neg h61]
    have h2:¬ ((((c::r).getD (0:Int).toNat 0).toNat:Nat):Int)=61:=fun h=>h61 (by
     have:c=61:=UInt8.toNat_inj.1 (Int.ofNat.inj h)
     simp[this])
    generalize c::r=s at *
    refine rn00 ?_
    refine fn_of_vc (nv:=9999) (cu:=[]) fits mixed Tryz.func25 rfl hoB rfl rfl rfl rfl ?_
    ((repeat' ((conv=>whnf);first|exact .intro|refine .ya ?_|refine .na ?_|refine .ys ?_|refine .ns ?_|refine .neg (fun _=>?_) (fun _=>?_)|refine .mk (fun _=>?_) (fun _=>?_)|(refine ⟨⟨Int.le_refl _,hl0⟩,?_⟩)|refine .mk ?_ ?_|refine AK ?_|refine AT ?_|fail));all_goals conv=>whnf)
    ((repeat' first|exact rfl|((conv=>whnf);first|done|exact suL|refine And.intro ?_ ?_|fail));all_goals conv=>whnf)
end Go.Proofs.YtcdjjjokniinkaaGreatDoor
end
section
namespace Go.Proofs.YtcdjjjokniinkaaGreatDoor
open Go Go.EYtcdjjjokniinkaaGreatDoor
set_option maxRecDepth 100000
set_option maxHeartbeats 4000000
variable {gl:List (Nat×List D)}
theorem parseZ_ne {rf:List UInt8→Option Rf} (hR:RefsOk rf) (hE:rf []=none) {s:List UInt8} {a:Nat} {e:Int} (h:parseZ rf s=.no a e):e≠0:=by
 unfold parseZ at h
 split at h
 ·cases h;decide
 ·rename_i h200
  split at h
  ·rename_i h61
   have hs:s.length≤200:=by omega
   have hl1:1≤s.length:=by
    cases s with
    | nil=>cases h61
    | cons c r=>simp
   rw[all_eq 30 hl1] at h
   have hone:=one_all (gl:=[]) hR hE hs 30 0 rfl
   have c1:=loose_all (by omega) hs (oneB_fwd (p:=parZ rf) 30) hone 4 1 (by omega) (by omega) 1 hl1
   unfold allF at h
   cases hx:Lo s (oneB (parZ rf) s 30) 4 1 1 with
   | no a' e' =>
    rw[hx] at h c1
    cases h
    obtain ⟨_,_,_,_,he,_⟩:=c1
    exact he
   | ok n j =>
    rw[hx] at h
    simp only[Rs.bind_ok] at h
    split at h
    ·cases h
    ·cases h;decide
  ·cases h;decide
end Go.Proofs.YtcdjjjokniinkaaGreatDoor
end
section
namespace Go.Proofs.YtcdjjjokniinkaaGreatDoor
open Go Go.EYtcdjjjokniinkaaGreatDoor
set_option maxRecDepth 100000
set_option maxHeartbeats 4000000
variable {gl:List (Nat×List D)}
theorem rPrint_d {rf:List UInt8→Option Rf} (hR:RefsOk rf) (hE:rf []=none) (n:Nd) (ho:okN n):FnP Tryz.prog gl 9 [.agg n.cs] (.tup [.str (prZ rf n).1,iD (prZ rf n).2]):=by
 have c1:=rCount_d (gl:=gl) n 200 (Nat.le_refl _)
 have c2:=rFormed_d (gl:=gl) n false
 by_cases h:cntN n≤200
 ·have h1:¬ ((min (cntN n) (200+1):Nat):Int)>200:=by omega
  by_cases hf:frmN n False
  ·have hf':frmN n (false=true):=by rwa [show (false=true)=False by simp]
   have c3:=rText_d (gl:=gl) n hf ho h
   have hl:=wr_len n hf ho
   have q1:1+(wrN n).length≤9223372036854775807:=by omega
   have hp0:=fun a e=>parseZ_ne (a:=a) (e:=e) hR hE (s:=61::wrN n)
   have c4:=rParse_d (gl:=gl) hR hE (61::wrN n)
   rw[prZ_w h hf]
   unfold TxOk at c3
   have hlong:200<(61::wrN n).length→∃ e,parseZ rf (61::wrN n)=.no 0 e:=fun h2=>by
    unfold parseZ
    rw[if_pos h2]
    exact ⟨_,rfl⟩
   by_cases h2:200<(61::wrN n).length
   ·obtain ⟨e,he⟩:=hlong h2
    rw[he]
    have h2':((([61]++wrN n).length:Nat):Int)>200:=by
     show (((61::wrN n).length:Nat):Int)>200
     omega
    generalize wrN n=s at *
    obtain ⟨k,m,t,a,b,ks⟩:=n
    refine fnP_of_vc (nv:=9999) (cu:=[]) fits mixed Tryz.func9 rfl hoB rfl ?_
    ((repeat' ((conv=>whnf);first|exact .intro|refine .ya ?_|refine .na ?_|refine .ys ?_|refine .ns ?_|refine .neg (fun _=>?_) (fun _=>?_)|refine .mk (fun _=>?_) (fun _=>?_)|refine .inl (.inl (X1 (by first|exact c1|exact c2|exact c3) ?_))|refine .inl (X1 (by first|exact c1|exact c2|exact c3) ?_)|refine X1 (by first|exact c1|exact c2|exact c3) ?_|(refine ⟨q1,?_⟩)|refine .mk ?_ ?_|refine AK ?_|refine AT ?_|fail));all_goals conv=>whnf)
    exact LeD.rfl
   ·have h2':¬ ((([61]++wrN n).length:Nat):Int)>200:=by
     show ¬ (((61::wrN n).length:Nat):Int)>200
     omega
    cases hp:parseZ rf (61::wrN n) with
    | ok n' q =>
     rw[hp] at c4
     clear hp0 hlong hp
     generalize wrN n=s at *
     obtain ⟨k,m,t,a,b,ks⟩:=n
     obtain ⟨k',m',t',a',b',ks'⟩:=n'
     change FnP Tryz.prog gl 25 [.str ([61]++s)] (.tup [.agg [iD k',iD m',.str t',iD a'.c,iD a'.r,tD a'.fc,tD a'.fr,iD b'.c,iD b'.r,tD b'.fc,tD b'.fr,.lst 12 (Nd.csL ks')],iD 0,iD 0]) at c4
     refine fnP_of_vc (nv:=9999) (cu:=[]) fits mixed Tryz.func9 rfl hoB rfl ?_
     ((repeat' ((conv=>whnf);first|exact .intro|refine .ya ?_|refine .na ?_|refine .ys ?_|refine .ns ?_|refine .neg (fun _=>?_) (fun _=>?_)|refine .mk (fun _=>?_) (fun _=>?_)|refine .inl (.inl (X1 (by first|exact c1|exact c2|exact c3|exact c4) ?_))|refine .inl (X1 (by first|exact c1|exact c2|exact c3|exact c4) ?_)|refine X1 (by first|exact c1|exact c2|exact c3|exact c4) ?_|(refine ⟨q1,?_⟩)|refine .mk ?_ ?_|refine AK ?_|refine AT ?_|fail));all_goals conv=>whnf)
     exact LeD.rfl
    | no q e =>
     have he:=hp0 _ _ hp
     rw[hp] at c4
     clear hp0 hlong hp
     generalize wrN n=s at *
     obtain ⟨k,m,t,a,b,ks⟩:=n
     change FnP Tryz.prog gl 25 [.str ([61]++s)] (.tup [.agg n00.cs,iD (q:Int),iD e]) at c4
     generalize n00=n' at c4
     obtain ⟨k',m',t',a',b',ks'⟩:=n'
     change FnP Tryz.prog gl 25 [.str ([61]++s)] (.tup [.agg [iD k',iD m',.str t',iD a'.c,iD a'.r,tD a'.fc,tD a'.fr,iD b'.c,iD b'.r,tD b'.fc,tD b'.fr,.lst 12 (Nd.csL ks')],iD (q:Int),iD e]) at c4
     refine fnP_of_vc (nv:=9999) (cu:=[]) fits mixed Tryz.func9 rfl hoB rfl ?_
     ((repeat' ((conv=>whnf);first|exact .intro|refine .ya ?_|refine .na ?_|refine .ys ?_|refine .ns ?_|refine .neg (fun _=>?_) (fun _=>?_)|refine .mk (fun _=>?_) (fun _=>?_)|refine .inl (.inl (X1 (by first|exact c1|exact c2|exact c3|exact c4) ?_))|refine .inl (X1 (by first|exact c1|exact c2|exact c3|exact c4) ?_)|refine X1 (by first|exact c1|exact c2|exact c3|exact c4) ?_|(refine ⟨q1,?_⟩)|refine .mk ?_ ?_|refine AK ?_|refine AT ?_|fail));all_goals conv=>whnf)
     exact LeD.rfl
  ·have hf':¬ frmN n (false=true):=by rwa [show (false=true)=False by simp]
   rw[prZ_f h hf]
   obtain ⟨k,m,t,a,b,ks⟩:=n
   refine fnP_of_vc (nv:=9999) (cu:=[]) fits mixed Tryz.func9 rfl hoB rfl ?_
   ((repeat' ((conv=>whnf);first|exact .intro|refine .ya ?_|refine .na ?_|refine .ys ?_|refine .ns ?_|refine .neg (fun _=>?_) (fun _=>?_)|refine .mk (fun _=>?_) (fun _=>?_)|refine .inl (.inl (X1 (by first|exact c1|exact c2) ?_))|refine .inl (X1 (by first|exact c1|exact c2) ?_)|refine X1 (by first|exact c1|exact c2) ?_|refine .mk ?_ ?_|refine AK ?_|refine AT ?_|fail));all_goals conv=>whnf)
   exact LeD.rfl
 ·have h1:((min (cntN n) (200+1):Nat):Int)>200:=by omega
  rw[prZ_k h]
  obtain ⟨k,m,t,a,b,ks⟩:=n
  refine fnP_of_vc (nv:=9999) (cu:=[]) fits mixed Tryz.func9 rfl hoB rfl ?_
  ((repeat' ((conv=>whnf);first|exact .intro|refine .ya ?_|refine .na ?_|refine .ys ?_|refine .ns ?_|refine .neg (fun _=>?_) (fun _=>?_)|refine .mk (fun _=>?_) (fun _=>?_)|refine .inl (.inl (X1 (c1) ?_))|refine .inl (X1 (c1) ?_)|refine X1 (c1) ?_|refine .mk ?_ ?_|refine AK ?_|refine AT ?_|fail));all_goals conv=>whnf)
  exact LeD.rfl
end Go.Proofs.YtcdjjjokniinkaaGreatDoor
end
section
namespace Go.Proofs.YtcdjjjokniinkaaGreatDoor
open Go Go.ChangeShapes Go.WideShapes Go.ChangeAt Go.RowKit Go.EYtcdjjjokniinkaaGreatDoor
set_option linter.unusedVariables false
set_option maxRecDepth 100000
theorem glob_none {M:Nat→Prop} {w:World}:Glob [] M w:=fun g l hl=>by cases hl
theorem okI_of_wf {n:Int} (h:(Lit.int .i64 n).wf=true):-9223372036854775808≤n∧n≤9223372036854775807:=by
 simp[Lit.wf,IntKind.min,IntKind.max,IntKind.signed,IntKind.bits] at h
 omega
end Go.Proofs.YtcdjjjokniinkaaGreatDoor
end
section
namespace Go.Proofs.YtcdjjjokniinkaaGreatDoor
open Go Go.ChangeShapes Go.WideShapes Go.ChangeAt Go.RowKit Go.EYtcdjjjokniinkaaGreatDoor
set_option linter.unusedVariables false
set_option maxRecDepth 100000
theorem var_cells {w:World} {n:String} {g:Nat} {cs:Array Value} (hg:Tryz.prog.globalNamed n=some g) (h:w.var? Tryz.prog n=some cs):∃ t f,w.heap[g]?=some (Obj.cells cs t f):=by
 unfold World.var? at h
 rw[hg] at h
 simp only[Option.bind_some] at h
 split at h
 ·rename_i c t f hc;cases h;exact ⟨t,f,hc⟩
 ·cases h
theorem cells_of_strs {H:Type} {enc:TypeId×Value→H} {P:Program} {w:World} {base:Nat} {sp:Nat→Bool} {held:Bool} {fuel:Nat} {t e:TypeId} {n:Nat} {cs:List Value} {zs:List (List UInt8)} {p:List MemPlace}
 (ht:P.underlying t=some (.array n e)) (he:P.underlying e=some .string) (hce:P.cellsOf e=1) (hct:P.cellsOf t=n)
 (h:DataW.trod enc P w base sp held fuel t cs=some (.agg (zs.map fun z=>.lit (.string z)),p)):cs=zs.map fun z=>Value.string ⟨z.toArray⟩:=by
 cases fuel with
 | zero=>simp[DataW.trod] at h
 | succ fuel =>
  simp only[DataW.trod,ht,hce,hct,Nat.mul_one] at h
  split at h
  ·rename_i hl
   obtain ⟨xs,hm,hx⟩:=Option.map_eq_some_iff.1 h
   have hxs:xs.map (·.1)=zs.map fun z=>(DataW.lit (.string z):DataW H):=by
    have:=congrArg Prod.fst hx
    simpa using this
   have hxl:xs.length=n:=by simpa using Lib.mapM_length hm
   have hzl:zs.length=n:=by
    have:=congrArg List.length hxs
    simp at this
    omega
   apply List.ext_getElem?
   intro i
   by_cases hi:i<n
   ·obtain ⟨b,hb,hf⟩:=Lib.mapM_at hm i i (by simp[hi])
    obtain ⟨z,hc,rfl,_⟩:=DataW.trod_string he hf
    have h1:cs[i]?=some (.string z):=by
     have:=congrArg (·[0]?) hc
     simpa[List.getElem?_take,List.getElem?_drop] using this
    have h2:(xs.map (·.1))[i]?=some (DataW.lit (.string z.data.toList):DataW H):=by simp[hb]
    rw[hxs] at h2
    simp only[List.getElem?_map,Option.map_eq_some_iff,DataW.lit.injEq,Lit.string.injEq] at h2
    obtain ⟨z',hz',rfl⟩:=h2
    simp[h1,hz']
   ·rw[List.getElem?_eq_none (by omega),List.getElem?_eq_none (by simp;omega)]
  ·cases h
theorem all2_map {M:Nat→Prop} {w:World} {α:Type} {f:α→D} {g:α→Value} (h:∀ a,DenD M w (f a) (g a)):∀ l:List α,DenL M w (l.map f) (l.map g)
 | []=>trivial
 | a::l=>⟨h a,all2_map h l⟩
theorem lt_of_cells {w:World} {g:Nat} {cs:Array Value} (h:∃ t f,w.heap[g]?=some (Obj.cells cs t f)):g<w.heap.size:=by
 obtain ⟨t,f,h⟩:=h
 exact (Array.getElem?_eq_some_iff.1 h).1
def Holds1 (w:World) (g:Nat) (l:List D):Prop:=∃ xs:List Value,(∃ t f,w.heap[g]?=some (Obj.cells xs.toArray t f))∧DenL (fun _=>False) w l xs
theorem Glob.cons {w:World} {g:Nat} {l:List D} {gl:List (Nat×List D)} (h:Holds1 w g l) (hg:Glob gl (fun _=>False) w):Glob ((g,l)::gl) (fun _=>False) w:=by
 intro k m hl
 rw[look_cons] at hl
 split at hl
 ·rename_i e;cases hl;rw[← e]
  obtain ⟨xs,h1,h2⟩:=h
  exact ⟨fun h=>h,xs,h1,lt_of_cells h1,h2⟩
 ·exact hg k m hl
theorem var_texts {w:World} (h1:Lib.VarReads Tryz.prog w "sccsettle/value.texts" (.agg (tx.map fun z=>.lit (.string z)))):Holds1 w 2 (tx.map D.str):=by
 obtain ⟨g,t,cs,fuel,p,hg,ht,hv,hd⟩:=h1
 have e:(some g:Option Nat)=some 2:=hg.symm.trans (show Tryz.prog.globalNamed "sccsettle/value.texts" = some 2 by kernel_rfl)
 cases e
 have e:(some t:Option Nat)=some 217:=ht.symm.trans (by kernel_rfl)
 cases e
 have c1:=cells_of_strs (n:=7) (e:=9) Tryz.underlying217 Tryz.underlying9 (by kernel_rfl) (by kernel_rfl) hd
 have b1:=var_cells hg hv
 have c1':cs=(tx.map fun z=>Value.string ⟨z.toArray⟩).toArray:=by rw[← c1]
 subst c1'
 exact ⟨_,b1,all2_map (fun a=>.str a) tx⟩
theorem var_err {w:World} (h2:∃ d,Lib.VarReads Tryz.prog w "strconv.ErrRange" (.iface "*errors.errorString" d)):∃ te pe,Holds1 w 8 [.v (.iface te pe)]:=by
 obtain ⟨d2,g,t,cs2,fuel,p,hg2,ht2,hv2,hd2⟩:=h2
 have e:(some g:Option Nat)=some 8:=hg2.symm.trans (show Tryz.prog.globalNamed "strconv.ErrRange" = some 8 by kernel_rfl)
 cases e
 have e:(some t:Option Nat)=some 24:=ht2.symm.trans (by kernel_rfl)
 cases e
 obtain ⟨_,te,pe,c2,_,_⟩:=iface_of_trod Tryz.underlying24 hd2
 have b2:=var_cells hg2 hv2
 have c2':cs2=[Value.iface te pe].toArray:=by rw[← c2]
 subst c2'
 exact ⟨te,pe,_,b2,.v _,trivial⟩
theorem var_pow {w:World} (h3:Lib.VarReads Tryz.prog w "internal/strconv.uint64pow10" (Lib.tabData .u64 Lib.pow10Tab)):Holds1 w 6 (Lib.pow10Tab.map fun z=>D.v (.int .u64 z)):=by
 obtain ⟨g,t,cs3,fuel,p,hg3,ht3,hv3,hd3⟩:=h3
 have e:(some g:Option Nat)=some 6:=hg3.symm.trans (show Tryz.prog.globalNamed "internal/strconv.uint64pow10" = some 6 by kernel_rfl)
 cases e
 have e:(some t:Option Nat)=some 263:=ht3.symm.trans (by kernel_rfl)
 cases e
 have c3:=Lib.cells_of_tab (n:=20) (e:=169) Tryz.underlying263 Tryz.underlying169 (by kernel_rfl) (by kernel_rfl) hd3
 have b3:=var_cells hg3 hv3
 have c3':cs3=(Lib.pow10Tab.map fun z=>Value.int .u64 z).toArray:=by rw[← c3]
 subst c3'
 exact ⟨_,b3,all2_map (fun a=>.v _) Lib.pow10Tab⟩
theorem var_errT {w:World} (h:handlesMet Tryz.prog [("errors.errorType",Rows.laid_errors_errorType)] w):Holds1 w 0 errT:=by
 have et:Tryz.prog.globalNamed "errors.errorType" = some 0:=by kernel_rfl
 obtain ⟨name,u,ty,e1,e2,e3,e4,e5⟩:=h _ (List.mem_singleton.2 rfl)
 have en:name=[101,114,114,111,114]:=(Option.some.inj e1).symm
 subst en
 obtain rfl:=Option.some.inj ((show (Tryz.prog.cutTypes.find? (·.1 == "internal/reflectlite.rtype")).map (·.2)=some 186 by kernel_rfl).symm.trans e2)
 have hm:ty ∈ (List.range 317).filter fun t=>Tryz.prog.rowNamed t [101,114,114,111,114]:=List.mem_filter.2 ⟨List.mem_range.2 (by rw[← Door.size];exact e3),e4⟩
 rw[show ((List.range 317).filter fun t=>Tryz.prog.rowNamed t [101,114,114,111,114])=[24] by kernel_rfl] at hm
 obtain rfl:=List.mem_singleton.1 hm
 rw[show typeHandle Tryz.prog 24=.pointer (some ⟨11,24,none⟩) by kernel_rfl] at e5
 have b:=var_cells et e5
 exact ⟨[_],b,.v _,trivial⟩
theorem glob_V {w:World} (h1:Lib.VarReads Tryz.prog w "sccsettle/value.texts" (.agg (tx.map fun z=>.lit (.string z)))) (h2:∃ d,Lib.VarReads Tryz.prog w "strconv.ErrRange" (.iface "*errors.errorString" d)) (h3:Lib.VarReads Tryz.prog w "internal/strconv.uint64pow10" (Lib.tabData .u64 Lib.pow10Tab)) :
 ∃ te pe,Glob (glV te pe) (fun _=>False) w:=by
 obtain ⟨te,pe,h⟩:=var_err h2
 exact ⟨te,pe,Glob.cons (var_texts h1) (Glob.cons h (Glob.cons (var_pow h3) glob_none))⟩
end Go.Proofs.YtcdjjjokniinkaaGreatDoor
end
section
namespace Go.Proofs.YtcdjjjokniinkaaGreatDoor
open Go.ChangeShapes Go.WideShapes Go.ChangeAt Go.RowKit Go.EYtcdjjjokniinkaaGreatDoor
set_option linter.unusedVariables false
set_option maxRecDepth 100000
theorem strs_of_slice {H:Type} {enc:TypeId×Value→H} {P:Program} {w:World} {base:Nat} {sp:Nat→Bool} {held:Bool} {fuel:Nat} {t e:TypeId} {v:Value} {zs:List (List UInt8)} {rest:List (DataW H)} {p:List MemPlace}
 (ht:P.underlying t=some (.slice e)) (he:P.underlying e=some .string) (hc:P.cellsOf e=1) (hz:zs≠[])
 (h:DataW.trod enc P w base sp held fuel t [v]=some (.slice (zs.map fun z=>.lit (.string z)) rest,p)):DenD (fun _=>False) w (.lst 1 (zs.map fun z=>[D.str z])) v:=by
 rcases Go.Deep.open_slice1 ht hc h with ⟨_,h2⟩|⟨a,len,cap,m,n,V,DD,Pl,h1,hb,hl,hm,hmm,hx,hi⟩
 ·cases h2
 ·cases h1
  have hD:(List.range len).map DD=zs.map fun z=>(DataW.lit (.string z):DataW H):=by
   have:=congrArg Prod.fst hx
   simp only[DataW.slice.injEq] at this
   exact this.1.symm
  have hlen:len=zs.length:=by
   have:=congrArg List.length hD
   simpa using this
  have hle:len≤m:=by rw[hmm];split <;> omega
  have hV:∀ i (hi':i<zs.length),w.cell? (a.add i)=some (V i)∧V i=.string ⟨(zs[i]).toArray⟩:=fun i hi'=>by
   obtain ⟨h1,h2⟩:=hi i (by omega)
   obtain ⟨s,h3,h4,_⟩:=DataW.trod_string he h2
   refine ⟨h1,?_⟩
   have h5:V i=.string s:=by simpa using h3
   have h6:DD i=.lit (.string s.data.toList):=(Prod.mk.inj h4).1
   have h7:=congrArg (·[i]?) hD
   simp only[List.getElem?_map,List.getElem?_range (show i<len by omega),Option.map_some,List.getElem?_eq_getElem hi',h6,Option.some.injEq,DataW.lit.injEq,Lit.string.injEq] at h7
   rw[h5,← h7]
  obtain ⟨ab,ao,asp⟩:=a
  have h0:0<zs.length:=List.length_pos_iff.2 hz
  have hsp:asp=none:=by
   have:=(hV 0 h0).1
   unfold World.cell? at this
   cases asp with
   | none=>rfl
   | some q =>
    have e:(⟨ab,ao,some q⟩:Addr).add 0=⟨ab,ao,some q⟩:=by simp[Addr.add]
    rw[e] at this
    revert this
    simp only[]
    split <;> simp
  subst hsp
  have hbl:ab<w.heap.size:=by
   have:=World.block_lt_of_cell? w _ (hV 0 h0).1
   rw[addr_add] at this
   exact this
  have hlm:len=(zs.map fun z=>[D.str z]).length:=by simpa using hlen
  rw[hlm]
  refine DenD.lst 1 _ ab ao cap (fun i _=>V i) hbl (fun h=>h) (by rw[← hlm];exact hl) hm (fun e he=>?_) (fun i j d hg=>?_) (fun i j d hg=>?_)
  ·obtain ⟨z,_,rfl⟩:=List.mem_map.1 he;rfl
  ·unfold get2 at hg
   rw[List.getElem?_map] at hg
   cases hq:zs[i]? with
   | none=>rw[hq] at hg;cases hg
   | some z =>
    have hi':=(List.getElem?_eq_some_iff.1 hq).1
    rw[hq] at hg
    have hj:j=0:=by
     cases j with
     | zero=>rfl
     | succ j=>simp at hg
    subst hj
    have:=(hV i hi').1
    rw[addr_add] at this
    simpa using this
  ·unfold get2 at hg
   rw[List.getElem?_map] at hg
   cases hq:zs[i]? with
   | none=>rw[hq] at hg;cases hg
   | some z =>
    obtain ⟨hi',hz'⟩:=List.getElem?_eq_some_iff.1 hq
    rw[hq] at hg
    have hj:j=0:=by
     cases j with
     | zero=>rfl
     | succ j=>simp at hg
    subst hj
    have hd:d=.str z:=by simpa using hg.symm
    rw[hd,(hV i hi').2,hz']
    exact .str z
theorem var_loose {w:World} (h1:Lib.VarReads Tryz.prog w "sccsettle/formula.loose" Rows.laid_sccsettle_formula_loose):Holds1 w 1 lvAll:=by
 obtain ⟨g,t,cs,fuel,p,hg,ht,hv,hd⟩:=h1
 have e:(some g:Option Nat)=some 1:=hg.symm.trans (show Tryz.prog.globalNamed "sccsettle/formula.loose" = some 1 by kernel_rfl)
 cases e
 have e:(some t:Option Nat)=some 158:=ht.symm.trans (by kernel_rfl)
 cases e
 obtain ⟨xs,m,_,hx,hcl,hxl,hi⟩:=DataW.trod_array (n:=4) (e:=130) Tryz.underlying158 hd
 have hc1:Tryz.prog.cellsOf 130=1:=by kernel_rfl
 rw[show Tryz.prog.cellsOf 158=4 by kernel_rfl] at hcl
 simp only[hc1,Nat.mul_one] at hi
 have b1:=var_cells hg hv
 obtain ⟨csl⟩:=cs
 match csl,hcl with
 | [v0,v1,v2,v3],_ =>
  match xs,hxl with
  | [x0,x1,x2,x3],_ =>
   have hq:[x0.1,x1.1,x2.1,x3.1]=[DataW.slice [.lit (.string [60,62]),.lit (.string [60,61]),.lit (.string [62,61]),.lit (.string [61]),.lit (.string [60]),.lit (.string [62])] [],.slice [.lit (.string [38])] [],.slice [.lit (.string [43]),.lit (.string [45])] [],.slice [.lit (.string [42]),.lit (.string [47])] []]:=by
    have:=(Prod.mk.inj hx).1
    simpa[Rows.laid_sccsettle_formula_loose] using this.symm
   obtain ⟨q0,q0p⟩:=x0
   obtain ⟨q1,q1p⟩:=x1
   obtain ⟨q2,q2p⟩:=x2
   obtain ⟨q3,q3p⟩:=x3
   simp only[List.cons.injEq,and_true] at hq
   obtain ⟨rfl,rfl,rfl,rfl⟩:=hq
   have i0:=hi 0 (by decide)
   have i1:=hi 1 (by decide)
   have i2:=hi 2 (by decide)
   have i3:=hi 3 (by decide)
   have d0:=strs_of_slice (zs:=[[60,62],[60,61],[62,61],[61],[60],[62]]) Tryz.underlying130 Tryz.underlying9 (by kernel_rfl) (by simp) i0
   have d1:=strs_of_slice (zs:=[[38]]) Tryz.underlying130 Tryz.underlying9 (by kernel_rfl) (by simp) i1
   have d2:=strs_of_slice (zs:=[[43],[45]]) Tryz.underlying130 Tryz.underlying9 (by kernel_rfl) (by simp) i2
   have d3:=strs_of_slice (zs:=[[42],[47]]) Tryz.underlying130 Tryz.underlying9 (by kernel_rfl) (by simp) i3
   exact ⟨[v0,v1,v2,v3],b1,d0,d1,d2,d3,trivial⟩
abbrev glF (te:TypeId) (pe:Value):List (Nat×List D):=(1,lvAll)::(0,errT)::glV te pe
theorem glF_has (te:TypeId) (pe:Value):Has (glF te pe) (glV te pe):=by
 intro g l hl
 rw[look_cons]
 split
 ·rename_i e;subst e;exact absurd hl (by rw[show Go.EYtcdjjjokniinkaaGreatDoor.look (glV te pe) 1=none from rfl];simp)
 ·rw[look_cons]
  split
  ·rename_i e;subst e;exact absurd hl (by rw[show Go.EYtcdjjjokniinkaaGreatDoor.look (glV te pe) 0=none from rfl];simp)
  ·exact hl
end Go.Proofs.YtcdjjjokniinkaaGreatDoor
end
section
namespace Go.Proofs.YtcdjjjokniinkaaGreatDoor
open Go Go.EYtcdjjjokniinkaaGreatDoor
set_option maxRecDepth 100000
abbrev glU (te:TypeId) (pe:Value) (mx:Int):List (Nat×List D):=(3,[iD mx])::glF te pe
theorem glU_has (te:TypeId) (pe:Value) (mx:Int):Has (glU te pe mx) (glV te pe):=by
 intro g l hl
 rw[look_cons]
 split
 ·rename_i e;subst e;exact absurd hl (by rw[show Go.EYtcdjjjokniinkaaGreatDoor.look (glV te pe) 3=none from rfl];simp)
 ·exact glF_has te pe g l hl
end Go.Proofs.YtcdjjjokniinkaaGreatDoor
end
