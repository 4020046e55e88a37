/- Proved: a part of what the law is proved with (the reckoner, contracts of functions, plain laws). Conditions: as each says. -/
import Derived.Test.YtdpigpahfiachaaGreatDoorXKk
import Derived.Test.YtdpigpahfiachaaGreatDoorXLb
import Derived.Test.YtdpigpahfiachaaGreatDoorXLf
import Derived.Test.YtdpigpahfiachaaGreatDoorXLg
import Derived.Test.YtdpigpahfiachaaGreatDoorXQMb
import Derived.Test.YtdpigpahfiachaaGreatDoorXPc
section
namespace Go.Proofs.YtdpigpahfiachaaGreatDoor
open Go Go.EYtdpigpahfiachaaGreatDoor
set_option maxRecDepth 100000
set_option maxHeartbeats 4000000
variable {gl:List (Nat×List D)}
theorem noR_eq {b:Rf} (h:noR b):b=⟨0,0,false,false⟩:=by
 obtain ⟨c,r,f,g⟩:=b
 obtain ⟨⟨h1,h2,_⟩,h3,h4,_⟩:=h
 simp only at h1 h2 h3 h4
 subst h1;subst h2
 cases f <;> cases g <;> simp_all
theorem chL_snoc {ρ:Rf→Rf×Bool} {β:Rf→Rf→Rf×Rf×Bool} {ks:List Nd} {x:Nat} (h:x<ks.length):Nd.csL (chL ρ β (ks.take (x+1)))=Nd.csL (chL ρ β (ks.take x))++[(chN ρ β ks[x]).cs]:=by
 induction ks generalizing x with
 | nil=>simp at h
 | cons y r ih =>
  cases x with
  | zero=>simp[chL,Nd.csL]
  | succ x =>
   have h':x<r.length:=by simpa using h
   show _::_=_::_
   exact congrArg (List.cons (chN ρ β y).cs) (ih h')
theorem bad_le:LeD (.agg [iD 4,iD 3,.str [],iD 0,iD 0,.v (.bool false),.v (.bool false),iD 0,iD 0,.v (.bool false),.v (.bool false),.v (.slice none 0 0)]) (.agg badN.cs):=by
 refine LeD.agg ?_
 repeat' first|exact LeD.rfl|exact LeD.bf (by simp)|exact LeD.nil0|refine LeD.cons ?_ ?_|exact LeD.nil
theorem ref_le {k:Int} {c r:Int} {f g:Bool} {c' r':Int} {f' g':Bool} (fb gb:D) (hf:LeD fb (tD f')) (hg:LeD gb (tD g')):LeD (.agg [iD k,iD 0,.str [],iD c,iD r,tD f,tD g,iD c',iD r',fb,gb,.v (.slice none 0 0)]) (.agg (Nd.mk k 0 [] ⟨c,r,f,g⟩ ⟨c',r',f',g'⟩ []).cs):=by
 refine LeD.agg ?_
 repeat' first|exact LeD.rfl|exact hf|exact hg|exact LeD.nil0|refine LeD.cons ?_ ?_|exact LeD.nil
end Go.Proofs.YtdpigpahfiachaaGreatDoor
end
section
namespace Go.Proofs.YtdpigpahfiachaaGreatDoor
open Go Go.EYtdpigpahfiachaaGreatDoor
set_option maxRecDepth 100000
set_option maxHeartbeats 4000000
variable {gl:List (Nat×List D)}
theorem prZ_ok {rf:List UInt8→Option Rf} {n:Nd} (h:(prZ rf n).2=0):cntN n≤200∧frmN n False:=by
 by_cases h1:cntN n≤200
 ·by_cases h2:frmN n False
  ·exact ⟨h1,h2⟩
  ·rw[prZ_f h1 h2] at h;cases h
 ·rw[prZ_k h1] at h;cases h
end Go.Proofs.YtdpigpahfiachaaGreatDoor
end
section
namespace Go.Proofs.YtdpigpahfiachaaGreatDoor
open Go Go.EYtdpigpahfiachaaGreatDoor
set_option maxRecDepth 100000
set_option maxHeartbeats 4000000
variable {gl:List (Nat×List D)}
abbrev zNd:D:=.agg [iD 0,iD 0,.str [],iD 0,iD 0,.v (.bool false),.v (.bool false),iD 0,iD 0,.v (.bool false),.v (.bool false),.v (.slice none 0 0)]
theorem same_z:FnP Tryz.prog gl 18 [.agg n00.cs,zNd] (.v (.bool true)):=fun w M xs hM hg hd=>by
 match xs,hd with
 | [x,y],⟨h1,h2,_⟩=>exact same_y n00 w M [x,y] hM hg ⟨h1,n00_le.1 _ _ _ h2,trivial⟩
theorem node_y (q:Nd) (he:Go.EYtdpigpahfiachaaGreatDoor.look gl 1=some errT):FnP Tryz.prog gl 43 [.agg q.cs,.v .nilIface,.agg q.cs,iD 0] (.v (.bool true)):=by
 have c1:FnP Tryz.prog gl 17 [.v .nilIface,iD 0] (.b ((0:Int)=0) inferInstance):=Error_d (gl:=gl) 0 0 he
 have c2:=same_y (gl:=gl) q
 obtain ⟨k,m,t,a,b,ks⟩:=q
 refine fnP_of_vc (nv:=9999) (cu:=[]) fits mixed Tryz.func43 rfl hoB rfl ?_
 ((repeat' ((conv=>whnf);first|exact .intro|refine .ya ?_|refine .na ?_|refine .ys ?_|refine .ns ?_|refine .neg (fun _=>?_) (fun _=>?_)|refine .mk (fun _=>?_) (fun _=>?_)|refine .inl (.inl (X1 (by first|exact c1|exact c2) ?_))|refine .inl (X1 (by first|exact c1|exact c2) ?_)|refine X1 (by first|exact c1|exact c2) ?_|refine .mk ?_ ?_|refine AK ?_|refine AT ?_|fail));all_goals conv=>whnf)
 all_goals first|exact LeD.rfl|exact LeD.vt rfl|exact LeD.vt (by simp)
theorem node_n (e:Int) (h0:e≠0) (he:Go.EYtdpigpahfiachaaGreatDoor.look gl 1=some errT):FnP Tryz.prog gl 43 [.agg n00.cs,erD e,zNd,iD e] (.v (.bool true)):=by
 have c1:FnP Tryz.prog gl 17 [erD e,iD e] (.b (e=e) inferInstance):=by
  have:=Error_d (gl:=gl) e e he
  unfold errD at this
  rwa [if_neg h0] at this
 have c2:=same_z (gl:=gl)
 generalize n00=q at *
 obtain ⟨k,m,t,a,b,ks⟩:=q
 refine fnP_of_vc (nv:=9999) (cu:=[]) fits mixed Tryz.func43 rfl hoB rfl ?_
 ((repeat' ((conv=>whnf);first|exact .intro|refine .ya ?_|refine .na ?_|refine .ys ?_|refine .ns ?_|refine .neg (fun _=>?_) (fun _=>?_)|refine .mk (fun _=>?_) (fun _=>?_)|refine .inl (.inl (X1 (by first|exact c1|exact c2) ?_))|refine .inl (X1 (by first|exact c1|exact c2) ?_)|refine X1 (by first|exact c1|exact c2) ?_|refine .mk ?_ ?_|refine AK ?_|refine AT ?_|fail));all_goals conv=>whnf)
 all_goals first|exact LeD.rfl|exact LeD.vt rfl|exact LeD.vt (by simp)
end Go.Proofs.YtdpigpahfiachaaGreatDoor
end
section
namespace Go.Proofs.YtdpigpahfiachaaGreatDoor
open Go Go.EYtdpigpahfiachaaGreatDoor
set_option maxRecDepth 100000
variable {gl:List (Nat×List D)}
def mostZ (row:Bool):Int:=match row with
 | true=>99
 | false=>26
abbrev spnP (row:Bool) (p q:Int):Prop:=1≤p∧p≤mostZ row∧0≤q∧q≤mostZ row
theorem Span_d (row:Bool) (p q:Int):FnP Tryz.prog gl 72 [.v (.bool row),iD p,iD q] (.b (spnP row p q) inferInstance):=by
 cases row
 all_goals refine fnP_of_vc (nv:=9999) (cu:=[]) fits mixed Tryz.func72 rfl hoB rfl ?_
 all_goals ((repeat' ((conv=>whnf);(first|refine Fork.yes (by assumption) ?_|refine Fork.no (by assumption) ?_|refine Fork.nono (by assumption) ?_|(refine Fork.yes ?_ ?_;focus (simp[andPD];done))|(refine Fork.no ?_ ?_;focus (simp;done))|refine Fork.neg (fun _=>?_) (fun _=>?_)|refine Fork.mk (fun _=>?_) (fun _=>?_))));(all_goals (conv=>whnf)))
 all_goals first|exact LeD.bt (by simp only[spnP,mostZ];omega)|exact LeD.bf (by simp only[spnP,mostZ];omega)|exact LeD.b (by simp only[spnP,mostZ];omega)
theorem rSpan_d (row:Bool) (p q:Int):FnP Tryz.prog gl 44 [.v (.bool row),iD p,iD q] (.b (spnP row p q) inferInstance):=by
 cases row
 all_goals refine fnP_of_vc (nv:=9999) (cu:=[]) fits mixed Tryz.func44 rfl hoB rfl ?_
 all_goals ((repeat' ((conv=>whnf);(first|refine Fork.yes (by assumption) ?_|refine Fork.no (by assumption) ?_|refine Fork.nono (by assumption) ?_|(refine Fork.yes ?_ ?_;focus (simp[andPD];done))|(refine Fork.no ?_ ?_;focus (simp;done))|refine Fork.neg (fun _=>?_) (fun _=>?_)|refine Fork.mk (fun _=>?_) (fun _=>?_))));(all_goals (conv=>whnf)))
 all_goals first|exact LeD.bt (by simp only[spnP,mostZ];omega)|exact LeD.bf (by simp only[spnP,mostZ];omega)|exact LeD.b (by simp only[spnP,mostZ];omega)
end Go.Proofs.YtdpigpahfiachaaGreatDoor
end
section
namespace Go.Proofs.YtdpigpahfiachaaGreatDoor
open Go Go.EYtdpigpahfiachaaGreatDoor
variable {gl:List (Nat×List D)}
theorem fn_mono {P:Program} {g:Nat} {vs:List V} {H:List (Nat×Blk)} {n:Nat} {r r':Ret} {H':List (Nat×Blk)} {n':Nat} {mv:List Nat} (hF:Go.EYtdpigpahfiachaaGreatDoor.Fn P gl g vs H n r H' n' mv) (h:∀ adr M w e,RetOk adr M w r e→RetOk adr M w r' e):Go.EYtdpigpahfiachaaGreatDoor.Fn P gl g vs H n r' H' n' mv :=
 ⟨hF.1,hF.2.1,hF.2.2.1,fun w M0 adr xs h1 h2 h3=>(hF.2.2.2 w M0 adr xs h1 h2 h3).mono fun e _ ⟨adr',a,b,c,d,k⟩=>⟨adr',a,b,c,d,h _ _ _ e k⟩⟩
theorem fn_leT1 {P:Program} {g:Nat} {vs:List V} {H:List (Nat×Blk)} {n:Nat} {x:List C} {d d':D} {H':List (Nat×Blk)} {n':Nat} {mv:List Nat} (hF:Go.EYtdpigpahfiachaaGreatDoor.Fn P gl g vs H n (.ret (.tup [(true,x),(false,[.d d])])) H' n' mv) (hd:LeD d d'):Go.EYtdpigpahfiachaaGreatDoor.Fn P gl g vs H n (.ret (.tup [(true,x),(false,[.d d'])])) H' n' mv:=fn_mono hF fun adr M w e h=>by
 obtain ⟨y,rfl,xs,rfl,h⟩:=h
 match xs,h with
 | [a,b],⟨h1,⟨c,hc,h2⟩,h3⟩ =>
  cases hc
  exact ⟨_,rfl,_,rfl,h1,⟨_,rfl,hd.1 _ _ _ h2⟩,h3⟩
theorem fn_leT2 {P:Program} {g:Nat} {vs:List V} {H:List (Nat×Blk)} {n:Nat} {x y:List C} {d d':D} {H':List (Nat×Blk)} {n':Nat} {mv:List Nat} (hF:Go.EYtdpigpahfiachaaGreatDoor.Fn P gl g vs H n (.ret (.tup [(true,x),(true,y),(false,[.d d])])) H' n' mv) (hd:LeD d d'):Go.EYtdpigpahfiachaaGreatDoor.Fn P gl g vs H n (.ret (.tup [(true,x),(true,y),(false,[.d d'])])) H' n' mv:=fn_mono hF fun adr M w e h=>by
 obtain ⟨z,rfl,xs,rfl,h⟩:=h
 match xs,h with
 | [a,b,k],⟨h0,h1,⟨c,hc,h2⟩,h3⟩ =>
  cases hc
  exact ⟨_,rfl,_,rfl,h0,h1,⟨_,rfl,hd.1 _ _ _ h2⟩,h3⟩
theorem le_t1 {b:Bool} (h:b=true):LeD (.v (.bool true)) (tD b):=LeD.bt h
theorem le_t0 {b:Bool} (h:¬ b=true):LeD (.v (.bool false)) (tD b):=LeD.bf h
abbrev rf3 (z:Rf×Rf×Bool):D:=.tup [rfD z.1,rfD z.2.1,tD z.2.2]
abbrev rf2 (z:Rf×Bool):D:=.tup [rfD z.1,tD z.2]
theorem frm_kid {k m:Int} {t:List UInt8} {a b:Rf} {ks:List Nd} {box:Prop} (hf:frmN (.mk k m t a b ks) box) (x:Nat) (h:x<ks.length):∃ bx:Prop,frmN ks[x] bx:=by
 by_cases h7:k=7
 ·subst h7;rw[frm_7] at hf;exact ⟨_,frmL_iff.1 hf.2.2.2.2 x h⟩
 by_cases h8:k=8
 ·subst h8;rw[frm_8] at hf;exact ⟨_,frmL_iff.1 hf.2.2.2.2.2 x h⟩
 by_cases h9:k=9
 ·subst h9;rw[frm_9] at hf;exact ⟨_,frmL_iff.1 hf.2.2.2 x h⟩
 exfalso
 unfold frmN at hf
 omega
end Go.Proofs.YtdpigpahfiachaaGreatDoor
end
section
namespace Go.Proofs.YtdpigpahfiachaaGreatDoor
open Go Go.EYtdpigpahfiachaaGreatDoor
set_option maxRecDepth 100000
set_option maxHeartbeats 4000000
variable {gl:List (Nat×List D)}
structure Cg where
 k:Int
 row:Bool
 p:Int
 q:Int
 dc:Int
 dr:Int
 a:Int
 b:Int
 c:Int
 d:Int
abbrev cG (z:Cg):D:=.agg [iD z.k,.v (.bool z.row),iD z.p,iD z.q,iD z.dc,iD z.dr,iD z.a,iD z.b,iD z.c,iD z.d]
structure RefG (gl:List (Nat×List D)) (z:Cg) (ρ:Rf→Rf×Bool) (β:Rf→Rf→Rf×Rf×Bool):Prop where
 ref:∀ a:Rf,okP a.c a.r→FnP Tryz.prog gl 83 [cG z,rfD a] (rf2 (ρ a))
 box:∀ a b:Rf,okP a.c a.r→okP b.c b.r→FnP Tryz.prog gl 84 [cG z,rfD a,rfD b] (rf3 (β a b))
abbrev OnG (gl:List (Nat×List D)) (z:Cg) (ρ:Rf→Rf×Bool) (β:Rf→Rf→Rf×Rf×Bool) (n:Nd):Prop:=FnP Tryz.prog gl 42 [cG z,.agg n.cs] (.agg (chN ρ β n).cs)
section
variable {z:Cg} {ρ:Rf→Rf×Bool} {β:Rf→Rf→Rf×Rf×Bool}
theorem ong_k (k m:Int) (t:List UInt8) (a b:Rf) (ks:List Nd) (h5:¬ k=5) (h6:¬ k=6) (hn:ks.length≤200) (ih:∀ x (h:x<ks.length),OnG gl z ρ β ks[x]):OnG gl z ρ β (.mk k m t a b ks):=by
 have hlen:=kid_len ks
 unfold OnG chN
 rw[if_neg h5,if_neg h6]
 refine fnP_of_vc (nv:=9999) (cu:=[]) fits mixed Tryz.func42 rfl hoB rfl ?_
 ((repeat' ((conv=>whnf);first|exact .intro|refine .ya ?_|refine .na ?_|refine .ys ?_|refine .ns ?_|refine .neg (fun _=>?_) (fun _=>?_)|refine .mk (fun _=>?_) (fun _=>?_)|refine .mk ?_ ?_|refine AK ?_|refine AT ?_|fail));all_goals conv=>whnf)
 refine ⟨{ σ:=Nat,fr:=fun x=>[(11,.c (.d (iD (x:Int)))),(10,.c (.all 12 3))],ks:=[],L:=fun x=>[(3,.rows 12 (Nd.csL (chL ρ β (ks.take x))) 28)],ex:=1,I:=fun x=>x≤ks.length,μ:=fun x=>ks.length - x },⟨0,Nat.zero_le _,?_⟩,fun (x:Nat) hx=>?_⟩
 ·((repeat' first|exact rfl|((conv=>whnf);first|done|exact suL|refine And.intro ?_ ?_|fail));all_goals conv=>whnf)
  exact ⟨12,_,rfl,by decide,Nat.le_refl _⟩
 ·replace hx:x≤ks.length:=hx
  by_cases hlt:x<ks.length
  ·have h2:(x:Int)<((Nd.csL ks).length:Nat):=by omega
   have e0:IntKind.i64.wrap ((x:Int)+1)=((x+1:Nat):Int):=by rw[wrapI (by omega)];rfl
   have g1:=kid_get hlt
   have g2:=chL_snoc (ρ:=ρ) (β:=β) hlt
   have hq:(Nd.csL (chL ρ β (ks.take x))).length+1≤1000:=by rw[kid_len,chL_len,List.length_take];omega
   have c1:=ih x hlt
   unfold OnG at c1
   generalize hch:chN ρ β ks[x]=q' at *
   generalize ks[x]=q at *
   obtain ⟨k1,m1,t1,a1,b1,ks1⟩:=q
   obtain ⟨k2,m2,t2,a2,b2,ks2⟩:=q'
   change (Nd.csL ks)[((x:Nat):Int).toNat]?=some [iD k1,iD m1,.str t1,iD a1.c,iD a1.r,tD a1.fc,tD a1.fr,iD b1.c,iD b1.r,tD b1.fc,tD b1.fr,.lst 12 (Nd.csL ks1)] at g1
   ((repeat' ((conv=>whnf);first|exact .intro|refine .ya ?_|refine .na ?_|refine .ys ?_|refine .ns ?_|refine .neg (fun _=>?_) (fun _=>?_)|refine .mk (fun _=>?_) (fun _=>?_)|refine .inl (.inl (X1 (c1) ?_))|refine .inl (X1 (c1) ?_)|refine X1 (c1) ?_|(first|refine ⟨Int.natCast_nonneg _,_,g1,?_⟩|refine ⟨⟨rfl,by show (_+1) * 104≤_;omega,by show _+1≤maxLen;unfold maxLen;omega⟩,?_⟩)|refine .mk ?_ ?_|refine AK ?_|refine AT ?_|fail));all_goals conv=>whnf)
   all_goals refine ⟨x+1,⟨hlt,by show ks.length - (x+1)<ks.length - x;omega⟩,?_⟩
   all_goals ((repeat' first|exact rfl|((conv=>whnf);first|done|exact suL|refine And.intro ?_ ?_|fail));all_goals conv=>whnf)
   all_goals first
    | exact ceq e0
    | exact g2.symm
  ·have h2:¬ (x:Int)<((Nd.csL ks).length:Nat):=by omega
   obtain rfl:x=ks.length:=by omega
   ((repeat' ((conv=>whnf);first|exact .intro|refine .ya ?_|refine .na ?_|refine .ys ?_|refine .ns ?_|refine .neg (fun _=>?_) (fun _=>?_)|refine .mk (fun _=>?_) (fun _=>?_)|refine .mk ?_ ?_|refine AK ?_|refine AT ?_|fail));all_goals conv=>whnf)
   exact LeD.of (by rw[List.take_length];rfl)
theorem ong_5 (hz:RefG gl z ρ β) (a:Rf) (ha:okP a.c a.r):OnG gl z ρ β (.mk 5 0 [] a ⟨0,0,false,false⟩ []):=by
 have c1:=hz.ref a ha
 unfold OnG chN
 rw[if_pos rfl]
 generalize ρ a=y at *
 obtain ⟨⟨c,r,f,g⟩,ok⟩:=y
 cases ok
 ·rw[if_neg (by simp)]
  refine fnP_of_vc (nv:=9999) (cu:=[]) fits mixed Tryz.func42 rfl hoB rfl ?_
  ((repeat' ((conv=>whnf);first|exact .intro|refine .ya ?_|refine .na ?_|refine .ys ?_|refine .ns ?_|refine .neg (fun _=>?_) (fun _=>?_)|refine .mk (fun _=>?_) (fun _=>?_)|refine .inl (.inl (X1 (c1) ?_))|refine .inl (X1 (c1) ?_)|refine X1 (c1) ?_|refine .mk ?_ ?_|refine AK ?_|refine AT ?_|fail));all_goals conv=>whnf)
  exact bad_le
 ·refine fnP_of_vc (nv:=9999) (cu:=[]) fits mixed Tryz.func42 rfl hoB rfl ?_
  ((repeat' ((conv=>whnf);first|exact .intro|refine .ya ?_|refine .na ?_|refine .ys ?_|refine .ns ?_|refine .neg (fun _=>?_) (fun _=>?_)|refine .mk (fun _=>?_) (fun _=>?_)|refine .inl (.inl (X1 (c1) ?_))|refine .inl (X1 (c1) ?_)|refine X1 (c1) ?_|refine .mk ?_ ?_|refine AK ?_|refine AT ?_|fail));all_goals conv=>whnf)
  exact ref_le _ _ (LeD.bf (by simp)) (LeD.bf (by simp))
theorem ong_6 (hz:RefG gl z ρ β) (a b:Rf) (ha:okP a.c a.r) (hb:okP b.c b.r):OnG gl z ρ β (.mk 6 0 [] a b []):=by
 have c1:=hz.box a b ha hb
 unfold OnG chN
 rw[if_neg (by decide),if_pos rfl]
 generalize β a b=y at *
 obtain ⟨⟨c,r,f,g⟩,⟨c',r',f',g'⟩,ok⟩:=y
 cases ok
 ·rw[if_neg (by simp)]
  refine fnP_of_vc (nv:=9999) (cu:=[]) fits mixed Tryz.func42 rfl hoB rfl ?_
  ((repeat' ((conv=>whnf);first|exact .intro|refine .ya ?_|refine .na ?_|refine .ys ?_|refine .ns ?_|refine .neg (fun _=>?_) (fun _=>?_)|refine .mk (fun _=>?_) (fun _=>?_)|refine .inl (.inl (X1 (c1) ?_))|refine .inl (X1 (c1) ?_)|refine X1 (c1) ?_|refine .mk ?_ ?_|refine AK ?_|refine AT ?_|fail));all_goals conv=>whnf)
  exact bad_le
 ·refine fnP_of_vc (nv:=9999) (cu:=[]) fits mixed Tryz.func42 rfl hoB rfl ?_
  ((repeat' ((conv=>whnf);first|exact .intro|refine .ya ?_|refine .na ?_|refine .ys ?_|refine .ns ?_|refine .neg (fun _=>?_) (fun _=>?_)|refine .mk (fun _=>?_) (fun _=>?_)|refine .inl (.inl (X1 (c1) ?_))|refine .inl (X1 (c1) ?_)|refine X1 (c1) ?_|refine .mk ?_ ?_|refine AK ?_|refine AT ?_|fail));all_goals conv=>whnf)
  exact ref_le _ _ LeD.rfl LeD.rfl
theorem ong (hz:RefG gl z ρ β) (n:Nd):∀ {box:Prop},frmN n box→cntN n≤200→OnG gl z ρ β n:=by
 match n with
 | .mk k m t a b ks =>
  intro box hf hc
  have hcl:cntL ks+1≤200:=hc
  have hlk:=len_cnt ks
  have hcx:∀ x (h:x<ks.length),cntN ks[x]≤200:=fun x h=>by
   have h1:=cntL_take h
   have h2:=cntL_le ks (x+1)
   omega
  have ih:∀ x (h:x<ks.length),OnG gl z ρ β ks[x]:=fun x h=>ong hz ks[x] (frm_kid hf x h).choose_spec (hcx x h)
  by_cases h5:k=5
  ·subst h5
   rw[frm_5] at hf
   obtain ⟨h1,rfl,rfl,h4,h5⟩:=hf
   obtain rfl:=List.eq_nil_of_length_eq_zero h1
   rw[noR_eq h4]
   exact ong_5 hz a h5
  by_cases h6:k=6
  ·subst h6
   rw[frm_6] at hf
   obtain ⟨_,h1,rfl,rfl,h4,h5⟩:=hf
   obtain rfl:=List.eq_nil_of_length_eq_zero h1
   exact ong_6 hz a b h4 h5
  exact ong_k k m t a b ks h5 h6 (by omega) ih
termination_by SizeOf.sizeOf n
decreasing_by
 simp only[Nd.mk.sizeOf_spec]
 have:=List.sizeOf_lt_of_mem (List.getElem_mem h)
 omega
end
end Go.Proofs.YtdpigpahfiachaaGreatDoor
end
