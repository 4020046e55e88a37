/- Proved: a part of what the law is proved with (the reckoner, contracts of functions, plain laws). Conditions: as each says. -/
import Derived.Test.YtdpigpahfiachaaGreatDoorXKk
import Derived.Test.YtdpigpahfiachaaGreatDoorXLb
import Derived.Test.YtdpigpahfiachaaGreatDoorXLf
import Derived.Test.YtdpigpahfiachaaGreatDoorXLg
import Derived.Test.YtdpigpahfiachaaGreatDoorXNMc
import Derived.Test.YtdpigpahfiachaaGreatDoorXPc
section
namespace Go.Proofs.YtdpigpahfiachaaGreatDoor
open Go Go.EYtdpigpahfiachaaGreatDoor
set_option maxRecDepth 100000
set_option maxHeartbeats 4000000
variable {gl:List (Nat×List D)}
theorem noR_eq {b:Rf} (h:noR b):b=⟨0,0,false,false⟩:=by
 obtain ⟨c,r,f,g⟩:=b
 obtain ⟨⟨h1,h2,_⟩,h3,h4,_⟩:=h
 simp only at h1 h2 h3 h4
 subst h1;subst h2
 cases f <;> cases g <;> simp_all
theorem chL_snoc {ρ:Rf→Rf×Bool} {β:Rf→Rf→Rf×Rf×Bool} {ks:List Nd} {x:Nat} (h:x<ks.length):Nd.csL (chL ρ β (ks.take (x+1)))=Nd.csL (chL ρ β (ks.take x))++[(chN ρ β ks[x]).cs]:=by
 induction ks generalizing x with
 | nil=>simp at h
 | cons y r ih =>
  cases x with
  | zero=>simp[chL,Nd.csL]
  | succ x =>
   have h':x<r.length:=by simpa using h
   show _::_=_::_
   exact congrArg (List.cons (chN ρ β y).cs) (ih h')
theorem bad_le:LeD (.agg [iD 4,iD 3,.str [],iD 0,iD 0,.v (.bool false),.v (.bool false),iD 0,iD 0,.v (.bool false),.v (.bool false),.v (.slice none 0 0)]) (.agg badN.cs):=by
 refine LeD.agg ?_
 repeat' first|exact LeD.rfl|exact LeD.bf (by simp)|exact LeD.nil0|refine LeD.cons ?_ ?_|exact LeD.nil
theorem ref_le {k:Int} {c r:Int} {f g:Bool} {c' r':Int} {f' g':Bool} (fb gb:D) (hf:LeD fb (tD f')) (hg:LeD gb (tD g')):LeD (.agg [iD k,iD 0,.str [],iD c,iD r,tD f,tD g,iD c',iD r',fb,gb,.v (.slice none 0 0)]) (.agg (Nd.mk k 0 [] ⟨c,r,f,g⟩ ⟨c',r',f',g'⟩ []).cs):=by
 refine LeD.agg ?_
 repeat' first|exact LeD.rfl|exact hf|exact hg|exact LeD.nil0|refine LeD.cons ?_ ?_|exact LeD.nil
end Go.Proofs.YtdpigpahfiachaaGreatDoor
end
section
namespace Go.Proofs.YtdpigpahfiachaaGreatDoor
open Go Go.EYtdpigpahfiachaaGreatDoor
set_option maxRecDepth 100000
set_option maxHeartbeats 4000000
variable {gl:List (Nat×List D)}
theorem prZ_ok {rf:List UInt8→Option Rf} {n:Nd} (h:(prZ rf n).2=0):cntN n≤200∧frmN n False:=by
 by_cases h1:cntN n≤200
 ·by_cases h2:frmN n False
  ·exact ⟨h1,h2⟩
  ·rw[prZ_f h1 h2] at h;cases h
 ·rw[prZ_k h1] at h;cases h
end Go.Proofs.YtdpigpahfiachaaGreatDoor
end
section
namespace Go.Proofs.YtdpigpahfiachaaGreatDoor
open Go Go.EYtdpigpahfiachaaGreatDoor
set_option maxRecDepth 100000
set_option maxHeartbeats 4000000
variable {gl:List (Nat×List D)}
abbrev zNd:D:=.agg [iD 0,iD 0,.str [],iD 0,iD 0,.v (.bool false),.v (.bool false),iD 0,iD 0,.v (.bool false),.v (.bool false),.v (.slice none 0 0)]
theorem same_z:FnP Tryz.prog gl 18 [.agg n00.cs,zNd] (.v (.bool true)):=fun w M xs hM hg hd=>by
 match xs,hd with
 | [x,y],⟨h1,h2,_⟩=>exact same_y n00 w M [x,y] hM hg ⟨h1,n00_le.1 _ _ _ h2,trivial⟩
theorem node_y (q:Nd) (he:Go.EYtdpigpahfiachaaGreatDoor.look gl 1=some errT):FnP Tryz.prog gl 43 [.agg q.cs,.v .nilIface,.agg q.cs,iD 0] (.v (.bool true)):=by
 have c1:FnP Tryz.prog gl 17 [.v .nilIface,iD 0] (.b ((0:Int)=0) inferInstance):=Error_d (gl:=gl) 0 0 he
 have c2:=same_y (gl:=gl) q
 obtain ⟨k,m,t,a,b,ks⟩:=q
 refine fnP_of_vc (nv:=9999) (cu:=[]) fits mixed Tryz.func43 rfl hoB rfl ?_
 ((repeat' ((conv=>whnf);first|exact .intro|refine .ya ?_|refine .na ?_|refine .ys ?_|refine .ns ?_|refine .neg (fun _=>?_) (fun _=>?_)|refine .mk (fun _=>?_) (fun _=>?_)|refine .inl (.inl (X1 (by first|exact c1|exact c2) ?_))|refine .inl (X1 (by first|exact c1|exact c2) ?_)|refine X1 (by first|exact c1|exact c2) ?_|refine .mk ?_ ?_|refine AK ?_|refine AT ?_|fail));all_goals conv=>whnf)
 all_goals first|exact LeD.rfl|exact LeD.vt rfl|exact LeD.vt (by simp)
theorem node_n (e:Int) (h0:e≠0) (he:Go.EYtdpigpahfiachaaGreatDoor.look gl 1=some errT):FnP Tryz.prog gl 43 [.agg n00.cs,erD e,zNd,iD e] (.v (.bool true)):=by
 have c1:FnP Tryz.prog gl 17 [erD e,iD e] (.b (e=e) inferInstance):=by
  have:=Error_d (gl:=gl) e e he
  unfold errD at this
  rwa [if_neg h0] at this
 have c2:=same_z (gl:=gl)
 generalize n00=q at *
 obtain ⟨k,m,t,a,b,ks⟩:=q
 refine fnP_of_vc (nv:=9999) (cu:=[]) fits mixed Tryz.func43 rfl hoB rfl ?_
 ((repeat' ((conv=>whnf);first|exact .intro|refine .ya ?_|refine .na ?_|refine .ys ?_|refine .ns ?_|refine .neg (fun _=>?_) (fun _=>?_)|refine .mk (fun _=>?_) (fun _=>?_)|refine .inl (.inl (X1 (by first|exact c1|exact c2) ?_))|refine .inl (X1 (by first|exact c1|exact c2) ?_)|refine X1 (by first|exact c1|exact c2) ?_|refine .mk ?_ ?_|refine AK ?_|refine AT ?_|fail));all_goals conv=>whnf)
 all_goals first|exact LeD.rfl|exact LeD.vt rfl|exact LeD.vt (by simp)
end Go.Proofs.YtdpigpahfiachaaGreatDoor
end
section
namespace Go.Proofs.YtdpigpahfiachaaGreatDoor
open Go Go.EYtdpigpahfiachaaGreatDoor
set_option maxRecDepth 100000
variable {gl:List (Nat×List D)}
def mostZ (row:Bool):Int:=match row with
 | true=>99
 | false=>26
abbrev spnP (row:Bool) (p q:Int):Prop:=1≤p∧p≤mostZ row∧0≤q∧q≤mostZ row
theorem Span_d (row:Bool) (p q:Int):FnP Tryz.prog gl 72 [.v (.bool row),iD p,iD q] (.b (spnP row p q) inferInstance):=by
 cases row
 all_goals refine fnP_of_vc (nv:=9999) (cu:=[]) fits mixed Tryz.func72 rfl hoB rfl ?_
 all_goals ((repeat' ((conv=>whnf);(first|refine Fork.yes (by assumption) ?_|refine Fork.no (by assumption) ?_|refine Fork.nono (by assumption) ?_|(refine Fork.yes ?_ ?_;focus (simp[andPD];done))|(refine Fork.no ?_ ?_;focus (simp;done))|refine Fork.neg (fun _=>?_) (fun _=>?_)|refine Fork.mk (fun _=>?_) (fun _=>?_))));(all_goals (conv=>whnf)))
 all_goals first|exact LeD.bt (by simp only[spnP,mostZ];omega)|exact LeD.bf (by simp only[spnP,mostZ];omega)|exact LeD.b (by simp only[spnP,mostZ];omega)
theorem rSpan_d (row:Bool) (p q:Int):FnP Tryz.prog gl 44 [.v (.bool row),iD p,iD q] (.b (spnP row p q) inferInstance):=by
 cases row
 all_goals refine fnP_of_vc (nv:=9999) (cu:=[]) fits mixed Tryz.func44 rfl hoB rfl ?_
 all_goals ((repeat' ((conv=>whnf);(first|refine Fork.yes (by assumption) ?_|refine Fork.no (by assumption) ?_|refine Fork.nono (by assumption) ?_|(refine Fork.yes ?_ ?_;focus (simp[andPD];done))|(refine Fork.no ?_ ?_;focus (simp;done))|refine Fork.neg (fun _=>?_) (fun _=>?_)|refine Fork.mk (fun _=>?_) (fun _=>?_))));(all_goals (conv=>whnf)))
 all_goals first|exact LeD.bt (by simp only[spnP,mostZ];omega)|exact LeD.bf (by simp only[spnP,mostZ];omega)|exact LeD.b (by simp only[spnP,mostZ];omega)
end Go.Proofs.YtdpigpahfiachaaGreatDoor
end
section
namespace Go.Proofs.YtdpigpahfiachaaGreatDoor
open Go Go.EYtdpigpahfiachaaGreatDoor
variable {gl:List (Nat×List D)}
theorem fn_mono {P:Program} {g:Nat} {vs:List V} {H:List (Nat×Blk)} {n:Nat} {r r':Ret} {H':List (Nat×Blk)} {n':Nat} {mv:List Nat} (hF:Go.EYtdpigpahfiachaaGreatDoor.Fn P gl g vs H n r H' n' mv) (h:∀ adr M w e,RetOk adr M w r e→RetOk adr M w r' e):Go.EYtdpigpahfiachaaGreatDoor.Fn P gl g vs H n r' H' n' mv :=
 ⟨hF.1,hF.2.1,hF.2.2.1,fun w M0 adr xs h1 h2 h3=>(hF.2.2.2 w M0 adr xs h1 h2 h3).mono fun e _ ⟨adr',a,b,c,d,k⟩=>⟨adr',a,b,c,d,h _ _ _ e k⟩⟩
theorem fn_leT1 {P:Program} {g:Nat} {vs:List V} {H:List (Nat×Blk)} {n:Nat} {x:List C} {d d':D} {H':List (Nat×Blk)} {n':Nat} {mv:List Nat} (hF:Go.EYtdpigpahfiachaaGreatDoor.Fn P gl g vs H n (.ret (.tup [(true,x),(false,[.d d])])) H' n' mv) (hd:LeD d d'):Go.EYtdpigpahfiachaaGreatDoor.Fn P gl g vs H n (.ret (.tup [(true,x),(false,[.d d'])])) H' n' mv:=fn_mono hF fun adr M w e h=>by
 obtain ⟨y,rfl,xs,rfl,h⟩:=h
 match xs,h with
 | [a,b],⟨h1,⟨c,hc,h2⟩,h3⟩ =>
  cases hc
  exact ⟨_,rfl,_,rfl,h1,⟨_,rfl,hd.1 _ _ _ h2⟩,h3⟩
theorem fn_leT2 {P:Program} {g:Nat} {vs:List V} {H:List (Nat×Blk)} {n:Nat} {x y:List C} {d d':D} {H':List (Nat×Blk)} {n':Nat} {mv:List Nat} (hF:Go.EYtdpigpahfiachaaGreatDoor.Fn P gl g vs H n (.ret (.tup [(true,x),(true,y),(false,[.d d])])) H' n' mv) (hd:LeD d d'):Go.EYtdpigpahfiachaaGreatDoor.Fn P gl g vs H n (.ret (.tup [(true,x),(true,y),(false,[.d d'])])) H' n' mv:=fn_mono hF fun adr M w e h=>by
 obtain ⟨z,rfl,xs,rfl,h⟩:=h
 match xs,h with
 | [a,b,k],⟨h0,h1,⟨c,hc,h2⟩,h3⟩ =>
  cases hc
  exact ⟨_,rfl,_,rfl,h0,h1,⟨_,rfl,hd.1 _ _ _ h2⟩,h3⟩
theorem le_tD {p:Prop} {i:Decidable p} {b:Bool} (h:p↔b=true):LeD (.b p i) (tD b):=LeD.b h
theorem andB_le (p q:Bool):LeD (andB p q) (tD (p && q)):=by
 cases p
 ·exact LeD.bf (by simp)
 ·exact LeD.b (by simp)
abbrev rf3 (z:Rf×Rf×Bool):D:=.tup [rfD z.1,rfD z.2.1,tD z.2.2]
abbrev rf2 (z:Rf×Bool):D:=.tup [rfD z.1,tD z.2]
theorem frm_kid {k m:Int} {t:List UInt8} {a b:Rf} {ks:List Nd} {box:Prop} (hf:frmN (.mk k m t a b ks) box) (x:Nat) (h:x<ks.length):∃ bx:Prop,frmN ks[x] bx:=by
 by_cases h7:k=7
 ·subst h7;rw[frm_7] at hf;exact ⟨_,frmL_iff.1 hf.2.2.2.2 x h⟩
 by_cases h8:k=8
 ·subst h8;rw[frm_8] at hf;exact ⟨_,frmL_iff.1 hf.2.2.2.2.2 x h⟩
 by_cases h9:k=9
 ·subst h9;rw[frm_9] at hf;exact ⟨_,frmL_iff.1 hf.2.2.2 x h⟩
 exfalso
 unfold frmN at hf
 omega
end Go.Proofs.YtdpigpahfiachaaGreatDoor
end
