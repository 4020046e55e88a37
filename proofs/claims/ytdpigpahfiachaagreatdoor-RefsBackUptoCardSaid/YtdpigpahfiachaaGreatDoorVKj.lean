/- Proved: a part of what the law is proved with (the reckoner, contracts of functions, plain laws). Conditions: as each says. -/
import Derived.Test.YtdpigpahfiachaaGreatDoorVGm
import Derived.Test.YtdpigpahfiachaaGreatDoorVKd
import Derived.Test.YtdpigpahfiachaaGreatDoorVKe
import Derived.Test.YtdpigpahfiachaaGreatDoorVRa
section
namespace Go.Proofs.YtdpigpahfiachaaGreatDoor
open Go Go.EYtdpigpahfiachaaGreatDoor
set_option maxRecDepth 100000
set_option maxHeartbeats 4000000
variable {gl:List (Nat×List D)}
def WrOk (gl:List (Nat×List D)) (n:Nd):Prop:=∀ s:List UInt8,s.length+cntN n * 2097200≤140737488355328→
 Go.EYtdpigpahfiachaaGreatDoor.Fn Tryz.prog gl 65 [.c (.ptr 0 0),.agg (ndC n)] [(0,bld1),(1,bytB s)] 2 (.ret (.tup [])) [(0,bld1),(1,bytB (s++wrN n))] 2 [1]
theorem brackets_d {n:Nd} (hw:WrOk gl n) (hl:(wrN n).length+3≤cntN n * 2097200) (p:Prop) [i:Decidable p] (s:List UInt8) (hs:s.length+cntN n * 2097200+2≤140737488355328) :
 Go.EYtdpigpahfiachaaGreatDoor.Fn Tryz.prog gl 118 [.c (.ptr 0 0),.agg (ndC n),.c (.d (.b p i))] [(0,bld1),(1,bytB s)] 2 (.ret (.tup [])) [(0,bld1),(1,bytB (s++brN (wrN n) p))] 2 [1]:=by
 obtain ⟨k,m,t,a,b,ks⟩:=n
 by_cases hp:p
 ·have c1:=WriteByte_d (gl:=gl) (.inr rfl) s 40 (by omega)
  have c2:=hw (s++[40]) (by rw[List.length_append,List.length_singleton];omega)
  have c3:=WriteByte_d (gl:=gl) (.inr rfl) (s++[40]++wrN (.mk k m t a b ks)) 41 (by rw[List.length_append,List.length_append,List.length_singleton];omega)
  rw[show s++brN (wrN (.mk k m t a b ks)) p=s++[40]++wrN (.mk k m t a b ks)++[41] by unfold brN;rw[if_pos hp];simp]
  refine fn_of_vc (nv:=9999) (cu:=[]) fits mixed Tryz.func118 rfl hoB rfl rfl rfl rfl ?_
  ((repeat' ((conv=>whnf);first|exact .intro|refine .ya ?_|refine .na ?_|refine .ys ?_|refine .ns ?_|refine .neg (fun _=>?_) (fun _=>?_)|refine .mk (fun _=>?_) (fun _=>?_)|refine .inr (X5 (c1.r [0,1] _) ?_)|refine .inl (.inr (X5 (c1.r [0,1] _) ?_))|refine .inl (X5 (c1.r [0,1] _) ?_)|refine .inr (X5 (c2.r [0,1] _) ?_)|refine .inl (.inr (X5 (c2.r [0,1] _) ?_))|refine .inl (X5 (c2.r [0,1] _) ?_)|refine .inr (X5 (c3.r [0,1] _) ?_)|refine .inl (.inr (X5 (c3.r [0,1] _) ?_))|refine .inl (X5 (c3.r [0,1] _) ?_)|refine .mk ?_ ?_|refine AK ?_|refine AT ?_|fail));all_goals conv=>whnf)
  ((repeat' first|exact rfl|((conv=>whnf);first|done|exact suL|refine And.intro ?_ ?_|fail));all_goals conv=>whnf)
 ·have c2:=hw s (by omega)
  rw[show brN (wrN (.mk k m t a b ks)) p=wrN (.mk k m t a b ks) by unfold brN;rw[if_neg hp]]
  refine fn_of_vc (nv:=9999) (cu:=[]) fits mixed Tryz.func118 rfl hoB rfl rfl rfl rfl ?_
  ((repeat' ((conv=>whnf);first|exact .intro|refine .ya ?_|refine .na ?_|refine .ys ?_|refine .ns ?_|refine .neg (fun _=>?_) (fun _=>?_)|refine .mk (fun _=>?_) (fun _=>?_)|refine .inr (X5 (c2.r [0,1] _) ?_)|refine .inl (.inr (X5 (c2.r [0,1] _) ?_))|refine .inl (X5 (c2.r [0,1] _) ?_)|refine .mk ?_ ?_|refine AK ?_|refine AT ?_|fail));all_goals conv=>whnf)
  ((repeat' first|exact rfl|((conv=>whnf);first|done|exact suL|refine And.intro ?_ ?_|fail));all_goals conv=>whnf)
theorem write_leaf (te:TypeId) (pe:Value) (hV:Has gl (glV te pe)) {mx:Int} (hm:Go.EYtdpigpahfiachaaGreatDoor.look gl 3=some [iD mx]) (k m:Int) (t:List UInt8) (a b:Rf) (ks:List Nd) {box:Prop} (hk:1≤k∧k≤6) (hf:frmN (.mk k m t a b ks) box) (ho:okN (.mk k m t a b ks)):WrOk gl (.mk k m t a b ks):=by
 intro s hs
 have hl:=wr_len _ hf ho
 obtain ⟨hmI,ht,_⟩:=ho
 have c9:=WriteString_d (gl:=gl) (.inr rfl) s (wrN (.mk k m t a b ks)) (by omega)
 have hk':k=1∨k=2∨k=3∨k=4∨k=5∨k=6:=by omega
 rcases hk' with rfl|rfl|rfl|rfl|rfl|rfl
 ·have c1:=Num_d (gl:=gl) m
  have c2:=FnP.moreG (Show_3 te pe 1 m [] hmI) hV
  rw[show show3 1 m []=wrN (.mk 1 m t a b ks) by rw[wrN];rfl] at c2
  refine fn_of_vc (nv:=9999) (cu:=[]) fits mixed Tryz.func65 rfl hoB rfl rfl rfl rfl ?_
  ((repeat' ((conv=>whnf);first|exact .intro|refine .ya ?_|refine .na ?_|refine .ys ?_|refine .ns ?_|refine .neg (fun _=>?_) (fun _=>?_)|refine .mk (fun _=>?_) (fun _=>?_)|refine .inr (X5 (c9.r [0,1] _) ?_)|refine .inl (.inr (X5 (c9.r [0,1] _) ?_))|refine .inl (X5 (c9.r [0,1] _) ?_)|refine .inl (.inl (X1 (by first|exact c1|exact c2) ?_))|refine .inl (X1 (by first|exact c1|exact c2) ?_)|refine X1 (by first|exact c1|exact c2) ?_|refine .mk ?_ ?_|refine AK ?_|refine AT ?_|fail));all_goals conv=>whnf)
  ((repeat' first|exact rfl|((conv=>whnf);first|done|exact suL|refine And.intro ?_ ?_|fail));all_goals conv=>whnf)
 ·have c1:=Replace_d hm t ht
  rw[show wrN (.mk 2 m t a b ks)=[34]++dqN t++[34] by rw[wrN,if_neg (by decide),if_pos rfl];simp] at c9 hl ⊢
  have hd:=dqN_len t
  have q1:1+(dqN t).length≤9223372036854775807:=by omega
  have q2:([34]++dqN t).length+1≤9223372036854775807:=by rw[List.length_append,List.length_singleton];omega
  refine fn_of_vc (nv:=9999) (cu:=[]) fits mixed Tryz.func65 rfl hoB rfl rfl rfl rfl ?_
  ((repeat' ((conv=>whnf);first|exact .intro|refine .ya ?_|refine .na ?_|refine .ys ?_|refine .ns ?_|refine .neg (fun _=>?_) (fun _=>?_)|refine .mk (fun _=>?_) (fun _=>?_)|refine .inr (X5 (c9.r [0,1] _) ?_)|refine .inl (.inr (X5 (c9.r [0,1] _) ?_))|refine .inl (X5 (c9.r [0,1] _) ?_)|refine .inl (.inl (X1 (c1) ?_))|refine .inl (X1 (c1) ?_)|refine X1 (c1) ?_|(first|refine ⟨q1,?_⟩|refine ⟨q2,?_⟩)|refine .mk ?_ ?_|refine AK ?_|refine AT ?_|fail));all_goals conv=>whnf)
  ((repeat' first|exact rfl|((conv=>whnf);first|done|exact suL|refine And.intro ?_ ?_|fail));all_goals conv=>whnf)
 ·by_cases h1:m=1
  ·have c1:=Is_y (gl:=gl) (inferInstanceAs (Decidable (m=1))) h1
   have c2:=FnP.moreG (Show_3 te pe 3 1 [] (by decide)) hV
   rw[show show3 3 1 []=wrN (.mk 3 m t a b ks) by rw[wrN,if_neg (by decide),if_neg (by decide),if_pos rfl,if_pos h1];rfl] at c2
   refine fn_of_vc (nv:=9999) (cu:=[]) fits mixed Tryz.func65 rfl hoB rfl rfl rfl rfl ?_
   ((repeat' ((conv=>whnf);first|exact .intro|refine .ya ?_|refine .na ?_|refine .ys ?_|refine .ns ?_|refine .neg (fun _=>?_) (fun _=>?_)|refine .mk (fun _=>?_) (fun _=>?_)|refine .inr (X5 (c9.r [0,1] _) ?_)|refine .inl (.inr (X5 (c9.r [0,1] _) ?_))|refine .inl (X5 (c9.r [0,1] _) ?_)|refine .inl (.inl (X1 (by first|exact c1|exact c2) ?_))|refine .inl (X1 (by first|exact c1|exact c2) ?_)|refine X1 (by first|exact c1|exact c2) ?_|refine .mk ?_ ?_|refine AK ?_|refine AT ?_|fail));all_goals conv=>whnf)
   ((repeat' first|exact rfl|((conv=>whnf);first|done|exact suL|refine And.intro ?_ ?_|fail));all_goals conv=>whnf)
  ·have c1:=Is_n (gl:=gl) (inferInstanceAs (Decidable (m=1))) h1
   have c2:=FnP.moreG (Show_3 te pe 3 0 [] (by decide)) hV
   rw[show show3 3 0 []=wrN (.mk 3 m t a b ks) by rw[wrN,if_neg (by decide),if_neg (by decide),if_pos rfl,if_neg h1];rfl] at c2
   refine fn_of_vc (nv:=9999) (cu:=[]) fits mixed Tryz.func65 rfl hoB rfl rfl rfl rfl ?_
   ((repeat' ((conv=>whnf);first|exact .intro|refine .ya ?_|refine .na ?_|refine .ys ?_|refine .ns ?_|refine .neg (fun _=>?_) (fun _=>?_)|refine .mk (fun _=>?_) (fun _=>?_)|refine .inr (X5 (c9.r [0,1] _) ?_)|refine .inl (.inr (X5 (c9.r [0,1] _) ?_))|refine .inl (X5 (c9.r [0,1] _) ?_)|refine .inl (.inl (X1 (by first|exact c1|exact c2) ?_))|refine .inl (X1 (by first|exact c1|exact c2) ?_)|refine X1 (by first|exact c1|exact c2) ?_|refine .mk ?_ ?_|refine AK ?_|refine AT ?_|fail));all_goals conv=>whnf)
   ((repeat' first|exact rfl|((conv=>whnf);first|done|exact suL|refine And.intro ?_ ?_|fail));all_goals conv=>whnf)
 ·rw[frm_4] at hf
  have c1:=Wrong_d (gl:=gl) m
  have c2:=FnP.moreG (Show_3 te pe 4 m [] hmI) hV
  rw[show show3 4 m []=wrN (.mk 4 m t a b ks) by rw[wrN,if_neg (by decide),if_neg (by decide),if_neg (by decide),if_pos rfl];unfold show3;rw[if_neg (by decide),if_neg (by decide),if_neg (by decide),if_pos rfl,if_pos (by omega)]] at c2
  refine fn_of_vc (nv:=9999) (cu:=[]) fits mixed Tryz.func65 rfl hoB rfl rfl rfl rfl ?_
  ((repeat' ((conv=>whnf);first|exact .intro|refine .ya ?_|refine .na ?_|refine .ys ?_|refine .ns ?_|refine .neg (fun _=>?_) (fun _=>?_)|refine .mk (fun _=>?_) (fun _=>?_)|refine .inr (X5 (c9.r [0,1] _) ?_)|refine .inl (.inr (X5 (c9.r [0,1] _) ?_))|refine .inl (X5 (c9.r [0,1] _) ?_)|refine .inl (.inl (X1 (by first|exact c1|exact c2) ?_))|refine .inl (X1 (by first|exact c1|exact c2) ?_)|refine X1 (by first|exact c1|exact c2) ?_|refine .mk ?_ ?_|refine AK ?_|refine AT ?_|fail));all_goals conv=>whnf)
  ((repeat' first|exact rfl|((conv=>whnf);first|done|exact suL|refine And.intro ?_ ?_|fail));all_goals conv=>whnf)
 ·rw[frm_5] at hf
  have c1:=RefName_s (gl:=gl) (fc:=a.fc) (fr:=a.fr) hf.2.2.2.2
  rw[show nameL a.c a.r a.fc a.fr=wrN (.mk 5 m t a b ks) by rw[wrN,if_neg (by decide),if_neg (by decide),if_neg (by decide),if_neg (by decide),if_pos rfl];rfl] at c1
  refine fn_of_vc (nv:=9999) (cu:=[]) fits mixed Tryz.func65 rfl hoB rfl rfl rfl rfl ?_
  ((repeat' ((conv=>whnf);first|exact .intro|refine .ya ?_|refine .na ?_|refine .ys ?_|refine .ns ?_|refine .neg (fun _=>?_) (fun _=>?_)|refine .mk (fun _=>?_) (fun _=>?_)|refine .inr (X5 (c9.r [0,1] _) ?_)|refine .inl (.inr (X5 (c9.r [0,1] _) ?_))|refine .inl (X5 (c9.r [0,1] _) ?_)|refine .inl (.inl (X1 (c1) ?_))|refine .inl (X1 (c1) ?_)|refine X1 (c1) ?_|refine .mk ?_ ?_|refine AK ?_|refine AT ?_|fail));all_goals conv=>whnf)
  ((repeat' first|exact rfl|((conv=>whnf);first|done|exact suL|refine And.intro ?_ ?_|fail));all_goals conv=>whnf)
 ·rw[frm_6] at hf
  have c1:=RefName_s (gl:=gl) (fc:=a.fc) (fr:=a.fr) hf.2.2.2.2.1
  have c2:=RefName_s (gl:=gl) (fc:=b.fc) (fr:=b.fr) hf.2.2.2.2.2
  have hb:=nmR_len b
  have ha:=nmR_len a
  rw[show wrN (.mk 6 m t a b ks)=nmR a++58::nmR b by rw[wrN,if_neg (by decide),if_neg (by decide),if_neg (by decide),if_neg (by decide),if_neg (by decide),if_pos rfl]] at c9 hl ⊢
  have c3:=WriteString_d (gl:=gl) (.inr rfl) s (nmR a) (by omega)
  have c4:=WriteString_d (gl:=gl) (.inr rfl) (s++nmR a) ([58]++nmR b) (by rw[List.length_append,List.length_append];simp;omega)
  have q1:1+(nmR b).length≤9223372036854775807:=by omega
  rw[show s++(nmR a++58::nmR b)=s++nmR a++([58]++nmR b) by simp]
  refine fn_of_vc (nv:=9999) (cu:=[]) fits mixed Tryz.func65 rfl hoB rfl rfl rfl rfl ?_
  ((repeat' ((conv=>whnf);first|exact .intro|refine .ya ?_|refine .na ?_|refine .ys ?_|refine .ns ?_|refine .neg (fun _=>?_) (fun _=>?_)|refine .mk (fun _=>?_) (fun _=>?_)|refine .inr (X5 (c3.r [0,1] _) ?_)|refine .inl (.inr (X5 (c3.r [0,1] _) ?_))|refine .inl (X5 (c3.r [0,1] _) ?_)|refine .inr (X5 (c4.r [0,1] _) ?_)|refine .inl (.inr (X5 (c4.r [0,1] _) ?_))|refine .inl (X5 (c4.r [0,1] _) ?_)|refine .inl (.inl (X1 (by first|exact c1|exact c2) ?_))|refine .inl (X1 (by first|exact c1|exact c2) ?_)|refine X1 (by first|exact c1|exact c2) ?_|(refine ⟨q1,?_⟩)|refine .mk ?_ ?_|refine AK ?_|refine AT ?_|fail));all_goals conv=>whnf)
  ((repeat' first|exact rfl|((conv=>whnf);first|done|exact suL|refine And.intro ?_ ?_|fail));all_goals conv=>whnf)
end Go.Proofs.YtdpigpahfiachaaGreatDoor
end
section
namespace Go.Proofs.YtdpigpahfiachaaGreatDoor
open Go Go.EYtdpigpahfiachaaGreatDoor
set_option maxRecDepth 100000
set_option maxHeartbeats 4000000
variable {gl:List (Nat×List D)}
theorem write_7 (m:Int) (t:List UInt8) (a b:Rf) (x:Nd) (hw:WrOk gl x) (hl:(wrN x).length+3≤cntN x * 2097200):WrOk gl (.mk 7 m t a b [x]):=by
 intro s hs
 have hc:cntN (.mk 7 m t a b [x])=cntN x+0+1:=rfl
 rw[hc] at hs
 have c1:=WriteByte_d (gl:=gl) (.inr rfl) s 45 (by omega)
 have c2:=tight_d (gl:=gl) x
 have c3:=brackets_d hw hl (tgtN x<5) (s++[45]) (by rw[List.length_append,List.length_singleton];omega)
 rw[show s++wrN (.mk 7 m t a b [x])=s++[45]++brN (wrN x) (tgtN x<5) by rw[wrN,if_neg (by decide),if_neg (by decide),if_neg (by decide),if_neg (by decide),if_neg (by decide),if_neg (by decide),if_pos rfl];simp[wr7,wrL]]
 obtain ⟨kx,mx,tx,ax,bx',sx⟩:=x
 have g1:(Nd.csL [.mk kx mx tx ax bx' sx])[(0:Int).toNat]?=some [iD kx,iD mx,.str tx,iD ax.c,iD ax.r,tD ax.fc,tD ax.fr,iD bx'.c,iD bx'.r,tD bx'.fc,tD bx'.fr,.lst 12 (Nd.csL sx)]:=rfl
 refine fn_of_vc (nv:=9999) (cu:=[]) fits mixed Tryz.func65 rfl hoB rfl rfl rfl rfl ?_
 ((repeat' ((conv=>whnf);first|exact .intro|refine .ya ?_|refine .na ?_|refine .ys ?_|refine .ns ?_|refine .neg (fun _=>?_) (fun _=>?_)|refine .mk (fun _=>?_) (fun _=>?_)|refine .inr (X5 (c1.r [0,1] _) ?_)|refine .inl (.inr (X5 (c1.r [0,1] _) ?_))|refine .inl (X5 (c1.r [0,1] _) ?_)|refine .inr (X5 (c3.r [0,1] _) ?_)|refine .inl (.inr (X5 (c3.r [0,1] _) ?_))|refine .inl (X5 (c3.r [0,1] _) ?_)|refine .inl (.inl (X1 (c2) ?_))|refine .inl (X1 (c2) ?_)|refine X1 (c2) ?_|(refine ⟨Int.le_refl _,_,g1,?_⟩)|refine .mk ?_ ?_|refine AK ?_|refine AT ?_|fail));all_goals conv=>whnf)
 all_goals ((repeat' first|exact rfl|((conv=>whnf);first|done|exact suL|refine And.intro ?_ ?_|fail));all_goals conv=>whnf)
theorem write_8 (m:Int) (t:List UInt8) (a b:Rf) (x y:Nd) (hm:1≤m∧m≤11) (hw:WrOk gl x) (hl:(wrN x).length+3≤cntN x * 2097200) (hw':WrOk gl y) (hl':(wrN y).length+3≤cntN y * 2097200):WrOk gl (.mk 8 m t a b [x,y]):=by
 intro s hs
 have hc:cntN (.mk 8 m t a b [x,y])=cntN x+(cntN y+0)+1:=rfl
 rw[hc] at hs
 obtain ⟨tg,htg⟩:∃ z,tgtN (.mk 8 m t a b [x,y])=z:=⟨_,rfl⟩
 have c0:=tight_d (gl:=gl) (.mk 8 m t a b [x,y])
 rw[htg] at c0
 have c1:=tight_d (gl:=gl) x
 have c2:=tight_d (gl:=gl) y
 have b1:=brN_len (wrN x) (tgtN x<tg)
 have b2:=sgnN_len hm
 have c3:=brackets_d hw hl (tgtN x<tg) s (by omega)
 have c4:=sgn_d (gl:=gl) m hm
 have c5:=WriteString_d (gl:=gl) (.inr rfl) (s++brN (wrN x) (tgtN x<tg)) (sgnN m) (by rw[List.length_append];omega)
 have c6:=brackets_d hw' hl' (tgtN y≤tg) (s++brN (wrN x) (tgtN x<tg)++sgnN m) (by rw[List.length_append,List.length_append];omega)
 rw[show s++wrN (.mk 8 m t a b [x,y])=s++brN (wrN x) (tgtN x<tg)++sgnN m++brN (wrN y) (tgtN y≤tg) by rw[wrN,if_neg (by decide),if_neg (by decide),if_neg (by decide),if_neg (by decide),if_neg (by decide),if_neg (by decide),if_neg (by decide),if_pos rfl,htg];simp[wr8,wrL]]
 clear hw hw' hl hl' hs hc
 obtain ⟨kx,mx,tx,ax,bx',sx⟩:=x
 obtain ⟨ky,my,ty,ay,by',sy⟩:=y
 have g1:(Nd.csL [.mk kx mx tx ax bx' sx,.mk ky my ty ay by' sy])[(0:Int).toNat]?=some [iD kx,iD mx,.str tx,iD ax.c,iD ax.r,tD ax.fc,tD ax.fr,iD bx'.c,iD bx'.r,tD bx'.fc,tD bx'.fr,.lst 12 (Nd.csL sx)]:=rfl
 have g2:(Nd.csL [.mk kx mx tx ax bx' sx,.mk ky my ty ay by' sy])[(1:Int).toNat]?=some [iD ky,iD my,.str ty,iD ay.c,iD ay.r,tD ay.fc,tD ay.fr,iD by'.c,iD by'.r,tD by'.fc,tD by'.fr,.lst 12 (Nd.csL sy)]:=rfl
 refine fn_of_vc (nv:=9999) (cu:=[22]) fits mixed Tryz.func65 rfl hoB rfl rfl rfl rfl ?_
 ((repeat' ((conv=>whnf);first|exact .intro|refine .ya ?_|refine .na ?_|refine .ys ?_|refine .ns ?_|refine .neg (fun _=>?_) (fun _=>?_)|refine .mk (fun _=>?_) (fun _=>?_)|refine .mk ?_ ?_|refine AK ?_|refine AT ?_|fail));all_goals conv=>whnf)
 refine ⟨{ σ:=Unit,fr:=fun _=>[],ks:=[1],L:=fun _=>[(1,bytB (s++brN (wrN (.mk kx mx tx ax bx' sx)) (tgtN (.mk kx mx tx ax bx' sx)<tg)))],ex:=0,I:=fun _=>True,μ:=fun _=>0 },?_,fun _ _=>?_⟩
 ·((repeat' ((conv=>whnf);first|exact .intro|refine .ya ?_|refine .na ?_|refine .ys ?_|refine .ns ?_|refine .neg (fun _=>?_) (fun _=>?_)|refine .mk (fun _=>?_) (fun _=>?_)|refine .inr (X5 (c3.r [0,1] _) ?_)|refine .inl (.inr (X5 (c3.r [0,1] _) ?_))|refine .inl (X5 (c3.r [0,1] _) ?_)|refine .inl (.inl (X1 (by first|exact c0|exact c1|exact c2) ?_))|refine .inl (X1 (by first|exact c0|exact c1|exact c2) ?_)|refine X1 (by first|exact c0|exact c1|exact c2) ?_|(refine ⟨Int.le_refl _,_,g1,?_⟩)|refine .mk ?_ ?_|refine AK ?_|refine AT ?_|fail));all_goals conv=>whnf)
  all_goals refine ⟨(),trivial,?_⟩
  all_goals ((repeat' first|exact rfl|((conv=>whnf);first|done|exact suL|refine And.intro ?_ ?_|fail));all_goals conv=>whnf)
 ·((repeat' ((conv=>whnf);first|exact .intro|refine .ya ?_|refine .na ?_|refine .ys ?_|refine .ns ?_|refine .neg (fun _=>?_) (fun _=>?_)|refine .mk (fun _=>?_) (fun _=>?_)|refine .inr (X5 (c5.r [0,1] _) ?_)|refine .inl (.inr (X5 (c5.r [0,1] _) ?_))|refine .inl (X5 (c5.r [0,1] _) ?_)|refine .inr (X5 (c6.r [0,1] _) ?_)|refine .inl (.inr (X5 (c6.r [0,1] _) ?_))|refine .inl (X5 (c6.r [0,1] _) ?_)|refine .inl (.inl (X1 (by first|exact c0|exact c2|exact c4) ?_))|refine .inl (X1 (by first|exact c0|exact c2|exact c4) ?_)|refine X1 (by first|exact c0|exact c2|exact c4) ?_|(refine ⟨by decide,_,g2,?_⟩)|refine .mk ?_ ?_|refine AK ?_|refine AT ?_|fail));all_goals conv=>whnf)
  all_goals ((repeat' first|exact rfl|((conv=>whnf);first|done|exact suL|refine And.intro ?_ ?_|fail));all_goals conv=>whnf)
end Go.Proofs.YtdpigpahfiachaaGreatDoor
end
section
namespace Go.Proofs.YtdpigpahfiachaaGreatDoor
open Go Go.EYtdpigpahfiachaaGreatDoor
set_option maxRecDepth 100000
set_option maxHeartbeats 4000000
variable {gl:List (Nat×List D)}
theorem com_snoc (l:List (List UInt8)) (w:List UInt8):comN (l++[w])=comN l++(if l.length=0 then [] else [44])++w:=by
 cases l with
 | nil=>simp[comN]
 | cons s r=>simp[comN]
theorem wrL_take:∀ (ks:List Nd) (x:Nat),wrL (ks.take x)=(wrL ks).take x
 | [],x=>by simp[wrL]
 | y::r,0=>by simp[wrL]
 | y::r,x+1=>by simp[wrL,wrL_take r x]
theorem wrL_succ {ks:List Nd} {x:Nat} (h:x<ks.length):wrL (ks.take (x+1))=wrL (ks.take x)++[wrN ks[x]]:=by
 rw[wrL_take,wrL_take,List.take_succ_eq_append_getElem (by rw[wrL_len];exact h),wrL_get h]
theorem sum_len:∀ l:List Nd,(∀ x (h:x<l.length),(wrN l[x]).length+3≤cntN l[x] * 2097200)→((wrL l).map fun t=>t.length+1).sum≤cntL l * 2097200
 | [],_=>by simp[wrL]
 | y::r,hl=>by
  have h3:=hl 0 (by simp)
  have h4:=sum_len r fun x h=>hl (x+1) (by simpa using h)
  simp only[wrL,cntL,List.map_cons,List.sum_cons,List.getElem_cons_zero] at *
  omega
theorem write_9 (m:Int) (t:List UInt8) (a b:Rf) (ks:List Nd) (ht:t.length≤1048576) (hw:∀ x (h:x<ks.length),WrOk gl ks[x]) (hl:∀ x (h:x<ks.length),(wrN ks[x]).length+3≤cntN ks[x] * 2097200):WrOk gl (.mk 9 m t a b ks):=by
 intro s hs
 have hc:cntN (.mk 9 m t a b ks)=cntL ks+1:=rfl
 rw[hc] at hs
 have hlen:=kid_len ks
 have hkc:=len_cnt ks
 have q1:t.length+1≤9223372036854775807:=by omega
 have c1:=WriteString_d (gl:=gl) (.inr rfl) s (t++[40]) (by rw[List.length_append,List.length_singleton];omega)
 have com:∀ x,(comN (wrL (ks.take x))).length≤cntL (ks.take x) * 2097200:=fun x=>Nat.le_trans (com_len _) (sum_len _ fun y hy=>by
  rw[List.getElem_take]
  exact hl y (by rw[List.length_take] at hy;omega))
 rw[show s++wrN (.mk 9 m t a b ks)=s++(t++[40])++comN (wrL (ks.take ks.length))++[41] by rw[List.take_length,wrN,if_neg (by decide),if_neg (by decide),if_neg (by decide),if_neg (by decide),if_neg (by decide),if_neg (by decide),if_neg (by decide),if_neg (by decide),if_pos rfl];simp]
 refine fn_of_vc (nv:=9999) (cu:=[]) fits mixed Tryz.func65 rfl hoB rfl rfl rfl rfl ?_
 ((repeat' ((conv=>whnf);first|exact .intro|refine .ya ?_|refine .na ?_|refine .ys ?_|refine .ns ?_|refine .neg (fun _=>?_) (fun _=>?_)|refine .mk (fun _=>?_) (fun _=>?_)|refine .inr (X5 (c1.r [0,1] _) ?_)|refine .inl (.inr (X5 (c1.r [0,1] _) ?_))|refine .inl (X5 (c1.r [0,1] _) ?_)|(refine ⟨q1,?_⟩)|refine .mk ?_ ?_|refine AK ?_|refine AT ?_|fail));all_goals conv=>whnf)
 refine ⟨{ σ:=Nat,fr:=fun x=>[(130,.c (.d (iD (x:Int))))],ks:=[1],L:=fun x=>[(1,bytB (s++(t++[40])++comN (wrL (ks.take x))))],ex:=0,I:=fun x=>x≤ks.length,μ:=fun x=>ks.length - x },⟨0,Nat.zero_le _,?_⟩,fun (x:Nat) hx=>?_⟩
 ·((repeat' first|exact rfl|((conv=>whnf);first|done|exact suL|refine And.intro ?_ ?_|fail));all_goals conv=>whnf)
  simp[wrL,comN]
 ·replace hx:x≤ks.length:=hx
  have hcx:=com x
  have hls:(s++(t++[40])++comN (wrL (ks.take x))).length=s.length+(t.length+1)+(comN (wrL (ks.take x))).length:=by rw[List.length_append,List.length_append,List.length_append,List.length_singleton]
  by_cases hlt:x<ks.length
  ·have h2:(x:Int)<((Nd.csL ks).length:Nat):=by omega
   have g1:=kid_get hlt
   have hct:=cntL_take hlt
   have hcl:=cntL_le ks (x+1)
   have hlx:=hl x hlt
   have e0:IntKind.i64.wrap ((x:Int)+1)=((x+1:Nat):Int):=by rw[wrapI (by omega)];rfl
   have hsn:=com_snoc (wrL (ks.take x)) (wrN ks[x])
   rw[← wrL_succ hlt,wrL_len,List.length_take,Nat.min_eq_left hx] at hsn
   have c2:=WriteByte_d (gl:=gl) (.inr rfl) (s++(t++[40])++comN (wrL (ks.take x))) 44 (by omega)
   have hwx:=hw x hlt
   generalize ks[x]=q at *
   obtain ⟨k1,m1,t1,a1,b1,ks1⟩:=q
   change (Nd.csL ks)[((x:Nat):Int).toNat]?=some [iD k1,iD m1,.str t1,iD a1.c,iD a1.r,tD a1.fc,tD a1.fr,iD b1.c,iD b1.r,tD b1.fc,tD b1.fr,.lst 12 (Nd.csL ks1)] at g1
   by_cases h0:x=0
   ·subst h0
    rw[if_pos rfl,List.append_nil] at hsn
    have hp:¬ ((0:Nat):Int)>0:=by decide
    have c3:=hwx (s++(t++[40])++comN (wrL (ks.take 0))) (by omega)
    ((repeat' ((conv=>whnf);first|exact .intro|refine .ya ?_|refine .na ?_|refine .ys ?_|refine .ns ?_|refine .neg (fun _=>?_) (fun _=>?_)|refine .mk (fun _=>?_) (fun _=>?_)|refine .inr (X5 (c3.r [0,1] _) ?_)|refine .inl (.inr (X5 (c3.r [0,1] _) ?_))|refine .inl (X5 (c3.r [0,1] _) ?_)|(refine ⟨Int.natCast_nonneg _,_,g1,?_⟩)|refine .mk ?_ ?_|refine AK ?_|refine AT ?_|fail));all_goals conv=>whnf)
    refine ⟨0+1,⟨hlt,by show ks.length - (0+1)<ks.length - 0;omega⟩,?_⟩
    ((repeat' first|exact rfl|((conv=>whnf);first|done|exact suL|refine And.intro ?_ ?_|fail));all_goals conv=>whnf)
    rw[hsn];simp only[List.append_assoc]
   ·rw[if_neg h0] at hsn
    have hp:(x:Int)>0:=by omega
    have c3:=hwx (s++(t++[40])++comN (wrL (ks.take x))++[44]) (by rw[List.length_append,List.length_singleton];omega)
    ((repeat' ((conv=>whnf);first|exact .intro|refine .ya ?_|refine .na ?_|refine .ys ?_|refine .ns ?_|refine .neg (fun _=>?_) (fun _=>?_)|refine .mk (fun _=>?_) (fun _=>?_)|refine .inr (X5 (c2.r [0,1] _) ?_)|refine .inl (.inr (X5 (c2.r [0,1] _) ?_))|refine .inl (X5 (c2.r [0,1] _) ?_)|refine .inr (X5 (c3.r [0,1] _) ?_)|refine .inl (.inr (X5 (c3.r [0,1] _) ?_))|refine .inl (X5 (c3.r [0,1] _) ?_)|(refine ⟨Int.natCast_nonneg _,_,g1,?_⟩)|refine .mk ?_ ?_|refine AK ?_|refine AT ?_|fail));all_goals conv=>whnf)
    refine ⟨x+1,⟨hlt,by show ks.length - (x+1)<ks.length - x;omega⟩,?_⟩
    ((repeat' first|exact rfl|((conv=>whnf);first|done|exact suL|refine And.intro ?_ ?_|fail));all_goals conv=>whnf)
    ·exact ceq e0
    ·rw[hsn];simp only[List.append_assoc]
  ·have h2:¬ (x:Int)<((Nd.csL ks).length:Nat):=by omega
   obtain rfl:x=ks.length:=by omega
   have hcl:=cntL_le ks ks.length
   have c2:=WriteByte_d (gl:=gl) (.inr rfl) (s++(t++[40])++comN (wrL (ks.take ks.length))) 41 (by omega)
   ((repeat' ((conv=>whnf);first|exact .intro|refine .ya ?_|refine .na ?_|refine .ys ?_|refine .ns ?_|refine .neg (fun _=>?_) (fun _=>?_)|refine .mk (fun _=>?_) (fun _=>?_)|refine .inr (X5 (c2.r [0,1] _) ?_)|refine .inl (.inr (X5 (c2.r [0,1] _) ?_))|refine .inl (X5 (c2.r [0,1] _) ?_)|refine .mk ?_ ?_|refine AK ?_|refine AT ?_|fail));all_goals conv=>whnf)
   ((repeat' first|exact rfl|((conv=>whnf);first|done|exact suL|refine And.intro ?_ ?_|fail));all_goals conv=>whnf)
end Go.Proofs.YtdpigpahfiachaaGreatDoor
end
section
namespace Go.Proofs.YtdpigpahfiachaaGreatDoor
open Go Go.EYtdpigpahfiachaaGreatDoor
set_option maxRecDepth 100000
variable {gl:List (Nat×List D)}
theorem write_d (te:TypeId) (pe:Value) (hV:Has gl (glV te pe)) {mx:Int} (hm:Go.EYtdpigpahfiachaaGreatDoor.look gl 3=some [iD mx]) (n:Nd):∀ {box:Prop},frmN n box→okN n→WrOk gl n:=by
 match n with
 | .mk k m t a b ks =>
  intro box hf ho
  have ih:∀ x (h:x<ks.length),∀ {box:Prop},frmN ks[x] box→okN ks[x]→WrOk gl ks[x]:=fun x h=>write_d te pe hV hm ks[x]
  by_cases hk:k<1∨9<k
  ·exact absurd hf (frm_0 hk)
  by_cases h6:k≤6
  ·exact write_leaf te pe hV hm k m t a b ks ⟨by omega,h6⟩ hf ho
  have hok:=ho.2.2
  have hk':k=7∨k=8∨k=9:=by omega
  rcases hk' with rfl|rfl|rfl
  ·rw[frm_7] at hf
   obtain ⟨x,rfl⟩:=List.length_eq_one_iff.1 hf.1
   have h1:=frmL_iff.1 hf.2.2.2.2 0 (by simp)
   have h2:=okL_get hok (x:=0) (by simp)
   exact write_7 m t a b x (ih 0 (by simp) h1 h2) (wr_len x h1 h2)
  ·rw[frm_8] at hf
   obtain ⟨x,y,rfl⟩:∃ x y,ks=[x,y]:=by
    match ks,hf.1 with
    | [x,y],_=>exact ⟨x,y,rfl⟩
   have h1:=frmL_iff.1 hf.2.2.2.2.2 0 (by simp)
   have h2:=okL_get hok (x:=0) (by simp)
   have h3:=frmL_iff.1 hf.2.2.2.2.2 1 (by simp)
   have h4:=okL_get hok (x:=1) (by simp)
   exact write_8 m t a b x y ⟨hf.2.2.2.1,hf.2.2.2.2.1⟩ (ih 0 (by simp) h1 h2) (wr_len x h1 h2) (ih 1 (by simp) h3 h4) (wr_len y h3 h4)
  ·rw[frm_9] at hf
   have h1:=frmL_iff.1 hf.2.2.2
   exact write_9 m t a b ks ho.2.1 (fun x h=>ih x h (h1 x h) (okL_get hok h)) (fun x h=>wr_len ks[x] (h1 x h) (okL_get hok h))
termination_by SizeOf.sizeOf n
decreasing_by
 simp only[Nd.mk.sizeOf_spec]
 have:=List.sizeOf_lt_of_mem (List.getElem_mem h)
 omega
end Go.Proofs.YtdpigpahfiachaaGreatDoor
end
