/- Proved: a part of what the law is proved with (the reckoner, contracts of functions, plain laws). Conditions: as each says. -/
import Derived.Test.YtdpigpahfiachaaGreatDoorXIg
import Derived.Test.YtdpigpahfiachaaGreatDoorXNNd
import Derived.Test.YtdpigpahfiachaaGreatDoorXNNo
section
namespace Go.Proofs.YtdpigpahfiachaaGreatDoor
open Go Go.EYtdpigpahfiachaaGreatDoor
set_option maxRecDepth 100000
set_option maxHeartbeats 4000000
variable {gl:List (Nat×List D)}
structure Cg where
 k:Int
 row:Bool
 p:Int
 q:Int
 dc:Int
 dr:Int
 a:Int
 b:Int
 c:Int
 d:Int
abbrev cG (z:Cg):D:=.agg [iD z.k,.v (.bool z.row),iD z.p,iD z.q,iD z.dc,iD z.dr,iD z.a,iD z.b,iD z.c,iD z.d]
structure RefG (gl:List (Nat×List D)) (z:Cg) (ρ:Rf→Rf×Bool) (β:Rf→Rf→Rf×Rf×Bool):Prop where
 ref:∀ a:Rf,okP a.c a.r→FnP Tryz.prog gl 83 [cG z,rfD a] (rf2 (ρ a))
 box:∀ a b:Rf,okP a.c a.r→okP b.c b.r→FnP Tryz.prog gl 84 [cG z,rfD a,rfD b] (rf3 (β a b))
abbrev OnG (gl:List (Nat×List D)) (z:Cg) (ρ:Rf→Rf×Bool) (β:Rf→Rf→Rf×Rf×Bool) (n:Nd):Prop:=FnP Tryz.prog gl 42 [cG z,.agg n.cs] (.agg (chN ρ β n).cs)
section
variable {z:Cg} {ρ:Rf→Rf×Bool} {β:Rf→Rf→Rf×Rf×Bool}
theorem ong_k (k m:Int) (t:List UInt8) (a b:Rf) (ks:List Nd) (h5:¬ k=5) (h6:¬ k=6) (hn:ks.length≤200) (ih:∀ x (h:x<ks.length),OnG gl z ρ β ks[x]):OnG gl z ρ β (.mk k m t a b ks):=by
 have hlen:=kid_len ks
 unfold OnG chN
 rw[if_neg h5,if_neg h6]
 refine fnP_of_vc (nv:=9999) (cu:=[]) fits mixed Tryz.func42 rfl hoB rfl ?_
 ((repeat' ((conv=>whnf);first|exact .intro|refine .ya ?_|refine .na ?_|refine .ys ?_|refine .ns ?_|refine .neg (fun _=>?_) (fun _=>?_)|refine .mk (fun _=>?_) (fun _=>?_)|refine .mk ?_ ?_|refine AK ?_|refine AT ?_|fail));all_goals conv=>whnf)
 refine ⟨{ σ:=Nat,fr:=fun x=>[(11,.c (.d (iD (x:Int)))),(10,.c (.all 12 3))],ks:=[],L:=fun x=>[(3,.rows 12 (Nd.csL (chL ρ β (ks.take x))) 28)],ex:=1,I:=fun x=>x≤ks.length,μ:=fun x=>ks.length - x },⟨0,Nat.zero_le _,?_⟩,fun (x:Nat) hx=>?_⟩
 ·((repeat' first|exact rfl|((conv=>whnf);first|done|exact suL|refine And.intro ?_ ?_|fail));all_goals conv=>whnf)
  exact ⟨12,_,rfl,by decide,Nat.le_refl _⟩
 ·replace hx:x≤ks.length:=hx
  by_cases hlt:x<ks.length
  ·have h2:(x:Int)<((Nd.csL ks).length:Nat):=by omega
   have e0:IntKind.i64.wrap ((x:Int)+1)=((x+1:Nat):Int):=by rw[wrapI (by omega)];rfl
   have g1:=kid_get hlt
   have g2:=chL_snoc (ρ:=ρ) (β:=β) hlt
   have hq:(Nd.csL (chL ρ β (ks.take x))).length+1≤1000:=by rw[kid_len,chL_len,List.length_take];omega
   have c1:=ih x hlt
   unfold OnG at c1
   generalize hch:chN ρ β ks[x]=q' at *
   generalize ks[x]=q at *
   obtain ⟨k1,m1,t1,a1,b1,ks1⟩:=q
   obtain ⟨k2,m2,t2,a2,b2,ks2⟩:=q'
   change (Nd.csL ks)[((x:Nat):Int).toNat]?=some [iD k1,iD m1,.str t1,iD a1.c,iD a1.r,tD a1.fc,tD a1.fr,iD b1.c,iD b1.r,tD b1.fc,tD b1.fr,.lst 12 (Nd.csL ks1)] at g1
   ((repeat' ((conv=>whnf);first|exact .intro|refine .ya ?_|refine .na ?_|refine .ys ?_|refine .ns ?_|refine .neg (fun _=>?_) (fun _=>?_)|refine .mk (fun _=>?_) (fun _=>?_)|refine .inl (.inl (X1 (c1) ?_))|refine .inl (X1 (c1) ?_)|refine X1 (c1) ?_|(first|refine ⟨Int.natCast_nonneg _,_,g1,?_⟩|refine ⟨⟨rfl,by show (_+1) * 104≤_;omega,by show _+1≤maxLen;unfold maxLen;omega⟩,?_⟩)|refine .mk ?_ ?_|refine AK ?_|refine AT ?_|fail));all_goals conv=>whnf)
   all_goals refine ⟨x+1,⟨hlt,by show ks.length - (x+1)<ks.length - x;omega⟩,?_⟩
   all_goals ((repeat' first|exact rfl|((conv=>whnf);first|done|exact suL|refine And.intro ?_ ?_|fail));all_goals conv=>whnf)
   all_goals first
    | exact ceq e0
    | exact g2.symm
  ·have h2:¬ (x:Int)<((Nd.csL ks).length:Nat):=by omega
   obtain rfl:x=ks.length:=by omega
   ((repeat' ((conv=>whnf);first|exact .intro|refine .ya ?_|refine .na ?_|refine .ys ?_|refine .ns ?_|refine .neg (fun _=>?_) (fun _=>?_)|refine .mk (fun _=>?_) (fun _=>?_)|refine .mk ?_ ?_|refine AK ?_|refine AT ?_|fail));all_goals conv=>whnf)
   exact LeD.of (by rw[List.take_length];rfl)
theorem ong_5 (hz:RefG gl z ρ β) (a:Rf) (ha:okP a.c a.r):OnG gl z ρ β (.mk 5 0 [] a ⟨0,0,false,false⟩ []):=by
 have c1:=hz.ref a ha
 unfold OnG chN
 rw[if_pos rfl]
 generalize ρ a=y at *
 obtain ⟨⟨c,r,f,g⟩,ok⟩:=y
 cases ok
 ·rw[if_neg (by simp)]
  refine fnP_of_vc (nv:=9999) (cu:=[]) fits mixed Tryz.func42 rfl hoB rfl ?_
  ((repeat' ((conv=>whnf);first|exact .intro|refine .ya ?_|refine .na ?_|refine .ys ?_|refine .ns ?_|refine .neg (fun _=>?_) (fun _=>?_)|refine .mk (fun _=>?_) (fun _=>?_)|refine .inl (.inl (X1 (c1) ?_))|refine .inl (X1 (c1) ?_)|refine X1 (c1) ?_|refine .mk ?_ ?_|refine AK ?_|refine AT ?_|fail));all_goals conv=>whnf)
  exact bad_le
 ·refine fnP_of_vc (nv:=9999) (cu:=[]) fits mixed Tryz.func42 rfl hoB rfl ?_
  ((repeat' ((conv=>whnf);first|exact .intro|refine .ya ?_|refine .na ?_|refine .ys ?_|refine .ns ?_|refine .neg (fun _=>?_) (fun _=>?_)|refine .mk (fun _=>?_) (fun _=>?_)|refine .inl (.inl (X1 (c1) ?_))|refine .inl (X1 (c1) ?_)|refine X1 (c1) ?_|refine .mk ?_ ?_|refine AK ?_|refine AT ?_|fail));all_goals conv=>whnf)
  exact ref_le _ _ (LeD.bf (by simp)) (LeD.bf (by simp))
theorem ong_6 (hz:RefG gl z ρ β) (a b:Rf) (ha:okP a.c a.r) (hb:okP b.c b.r):OnG gl z ρ β (.mk 6 0 [] a b []):=by
 have c1:=hz.box a b ha hb
 unfold OnG chN
 rw[if_neg (by decide),if_pos rfl]
 generalize β a b=y at *
 obtain ⟨⟨c,r,f,g⟩,⟨c',r',f',g'⟩,ok⟩:=y
 cases ok
 ·rw[if_neg (by simp)]
  refine fnP_of_vc (nv:=9999) (cu:=[]) fits mixed Tryz.func42 rfl hoB rfl ?_
  ((repeat' ((conv=>whnf);first|exact .intro|refine .ya ?_|refine .na ?_|refine .ys ?_|refine .ns ?_|refine .neg (fun _=>?_) (fun _=>?_)|refine .mk (fun _=>?_) (fun _=>?_)|refine .inl (.inl (X1 (c1) ?_))|refine .inl (X1 (c1) ?_)|refine X1 (c1) ?_|refine .mk ?_ ?_|refine AK ?_|refine AT ?_|fail));all_goals conv=>whnf)
  exact bad_le
 ·refine fnP_of_vc (nv:=9999) (cu:=[]) fits mixed Tryz.func42 rfl hoB rfl ?_
  ((repeat' ((conv=>whnf);first|exact .intro|refine .ya ?_|refine .na ?_|refine .ys ?_|refine .ns ?_|refine .neg (fun _=>?_) (fun _=>?_)|refine .mk (fun _=>?_) (fun _=>?_)|refine .inl (.inl (X1 (c1) ?_))|refine .inl (X1 (c1) ?_)|refine X1 (c1) ?_|refine .mk ?_ ?_|refine AK ?_|refine AT ?_|fail));all_goals conv=>whnf)
  exact ref_le _ _ LeD.rfl LeD.rfl
theorem ong (hz:RefG gl z ρ β) (n:Nd):∀ {box:Prop},frmN n box→cntN n≤200→OnG gl z ρ β n:=by
 match n with
 | .mk k m t a b ks =>
  intro box hf hc
  have hcl:cntL ks+1≤200:=hc
  have hlk:=len_cnt ks
  have hcx:∀ x (h:x<ks.length),cntN ks[x]≤200:=fun x h=>by
   have h1:=cntL_take h
   have h2:=cntL_le ks (x+1)
   omega
  have ih:∀ x (h:x<ks.length),OnG gl z ρ β ks[x]:=fun x h=>ong hz ks[x] (frm_kid hf x h).choose_spec (hcx x h)
  by_cases h5:k=5
  ·subst h5
   rw[frm_5] at hf
   obtain ⟨h1,rfl,rfl,h4,h5⟩:=hf
   obtain rfl:=List.eq_nil_of_length_eq_zero h1
   rw[noR_eq h4]
   exact ong_5 hz a h5
  by_cases h6:k=6
  ·subst h6
   rw[frm_6] at hf
   obtain ⟨_,h1,rfl,rfl,h4,h5⟩:=hf
   obtain rfl:=List.eq_nil_of_length_eq_zero h1
   exact ong_6 hz a b h4 h5
  exact ong_k k m t a b ks h5 h6 (by omega) ih
termination_by SizeOf.sizeOf n
decreasing_by
 simp only[Nd.mk.sizeOf_spec]
 have:=List.sizeOf_lt_of_mem (List.getElem_mem h)
 omega
end
end Go.Proofs.YtdpigpahfiachaaGreatDoor
end
section
namespace Go.Proofs.YtdpigpahfiachaaGreatDoor
open Go Go.EYtdpigpahfiachaaGreatDoor
set_option maxRecDepth 100000
set_option maxHeartbeats 4000000
variable {gl:List (Nat×List D)}
abbrev cIn (row:Bool) (p q:Int):Cg:=⟨2,row,p,q,0,0,0,0,0,0⟩
theorem rref_in (row:Bool) (p q:Int) (a:Rf):FnP Tryz.prog gl 83 [cG (cIn row p q),rfD a] (rf2 (insZ row p q a)):=by
 obtain ⟨c,r,f,g⟩:=a
 unfold insZ
 cases row
 ·by_cases h:c≥p
  ·rw[show inZ false p q ⟨c,r,f,g⟩=⟨IntKind.i64.wrap (c+q),r,f,g⟩ from if_pos h]
   have c1:=In_d (gl:=gl) (IntKind.i64.wrap (c+q)) r
   refine fnP_of_vc (nv:=9999) (cu:=[]) fits mixed Tryz.func83 rfl hoB rfl ?_
   ((repeat' ((conv=>whnf);first|exact .intro|refine .ya ?_|refine .na ?_|refine .ys ?_|refine .ns ?_|refine .neg (fun _=>?_) (fun _=>?_)|refine .mk (fun _=>?_) (fun _=>?_)|refine .inl (.inl (X1 (c1) ?_))|refine .inl (X1 (c1) ?_)|refine X1 (c1) ?_|refine .mk ?_ ?_|refine AK ?_|refine AT ?_|fail));all_goals conv=>whnf)
   all_goals exact LeD.tup (LeD.cons LeD.rfl (LeD.cons (le_tD (by simp)) LeD.nil))
  ·rw[show inZ false p q ⟨c,r,f,g⟩=⟨c,r,f,g⟩ from if_neg h]
   have c1:=In_d (gl:=gl) c r
   refine fnP_of_vc (nv:=9999) (cu:=[]) fits mixed Tryz.func83 rfl hoB rfl ?_
   ((repeat' ((conv=>whnf);first|exact .intro|refine .ya ?_|refine .na ?_|refine .ys ?_|refine .ns ?_|refine .neg (fun _=>?_) (fun _=>?_)|refine .mk (fun _=>?_) (fun _=>?_)|refine .inl (.inl (X1 (c1) ?_))|refine .inl (X1 (c1) ?_)|refine X1 (c1) ?_|refine .mk ?_ ?_|refine AK ?_|refine AT ?_|fail));all_goals conv=>whnf)
   all_goals exact LeD.tup (LeD.cons LeD.rfl (LeD.cons (le_tD (by simp)) LeD.nil))
 ·by_cases h:r≥p
  ·rw[show inZ true p q ⟨c,r,f,g⟩=⟨c,IntKind.i64.wrap (r+q),f,g⟩ from if_pos h]
   have c1:=In_d (gl:=gl) c (IntKind.i64.wrap (r+q))
   refine fnP_of_vc (nv:=9999) (cu:=[]) fits mixed Tryz.func83 rfl hoB rfl ?_
   ((repeat' ((conv=>whnf);first|exact .intro|refine .ya ?_|refine .na ?_|refine .ys ?_|refine .ns ?_|refine .neg (fun _=>?_) (fun _=>?_)|refine .mk (fun _=>?_) (fun _=>?_)|refine .inl (.inl (X1 (c1) ?_))|refine .inl (X1 (c1) ?_)|refine X1 (c1) ?_|refine .mk ?_ ?_|refine AK ?_|refine AT ?_|fail));all_goals conv=>whnf)
   all_goals exact LeD.tup (LeD.cons LeD.rfl (LeD.cons (le_tD (by simp)) LeD.nil))
  ·rw[show inZ true p q ⟨c,r,f,g⟩=⟨c,r,f,g⟩ from if_neg h]
   have c1:=In_d (gl:=gl) c r
   refine fnP_of_vc (nv:=9999) (cu:=[]) fits mixed Tryz.func83 rfl hoB rfl ?_
   ((repeat' ((conv=>whnf);first|exact .intro|refine .ya ?_|refine .na ?_|refine .ys ?_|refine .ns ?_|refine .neg (fun _=>?_) (fun _=>?_)|refine .mk (fun _=>?_) (fun _=>?_)|refine .inl (.inl (X1 (c1) ?_))|refine .inl (X1 (c1) ?_)|refine X1 (c1) ?_|refine .mk ?_ ?_|refine AK ?_|refine AT ?_|fail));all_goals conv=>whnf)
   all_goals exact LeD.tup (LeD.cons LeD.rfl (LeD.cons (le_tD (by simp)) LeD.nil))
theorem rbox_in (row:Bool) (p q:Int) (a b:Rf):FnP Tryz.prog gl 84 [cG (cIn row p q),rfD a,rfD b] (rf3 (bxZ (insZ row p q) a b)):=by
 refine FnP.le (r:=.tup [rfD (insZ row p q a).1,rfD (insZ row p q b).1,andB (insZ row p q a).2 (insZ row p q b).2]) ?_ (LeD.tup (LeD.cons LeD.rfl (LeD.cons LeD.rfl (LeD.cons (andB_le _ _) LeD.nil))))
 have c1:=rref_in (gl:=gl) row p q a
 have c2:=rref_in (gl:=gl) row p q b
 generalize insZ row p q a=z at *
 generalize insZ row p q b=y at *
 obtain ⟨⟨c,r,f,g⟩,ok⟩:=z
 obtain ⟨⟨c',r',f',g'⟩,ok'⟩:=y
 obtain ⟨ac,ar,af,ag⟩:=a
 obtain ⟨bc,br,bf,bg⟩:=b
 cases ok
 all_goals refine fnP_of_vc (nv:=9999) (cu:=[]) fits mixed Tryz.func84 rfl hoB rfl ?_
 all_goals ((repeat' ((conv=>whnf);first|exact .intro|refine .ya ?_|refine .na ?_|refine .ys ?_|refine .ns ?_|refine .neg (fun _=>?_) (fun _=>?_)|refine .mk (fun _=>?_) (fun _=>?_)|refine .inl (.inl (X1 (by first|exact c1|exact c2) ?_))|refine .inl (X1 (by first|exact c1|exact c2) ?_)|refine X1 (by first|exact c1|exact c2) ?_|refine .mk ?_ ?_|refine AK ?_|refine AT ?_|fail));all_goals conv=>whnf)
 all_goals exact LeD.rfl
theorem refG_in (row:Bool) (p q:Int):RefG gl (cIn row p q) (insZ row p q) (bxZ (insZ row p q)):=⟨fun a _=>rref_in row p q a,fun a b _ _=>rbox_in row p q a b⟩
end Go.Proofs.YtdpigpahfiachaaGreatDoor
end
section
namespace Go.Proofs.YtdpigpahfiachaaGreatDoor
open Go Go.EYtdpigpahfiachaaGreatDoor
set_option maxRecDepth 100000
set_option maxHeartbeats 4000000
variable {gl:List (Nat×List D)}
theorem RefsInserted_d (te:TypeId) (pe:Value) (hV:Has gl (glV te pe)) (hl:Go.EYtdpigpahfiachaaGreatDoor.look gl 0=some lvAll) (he:Go.EYtdpigpahfiachaaGreatDoor.look gl 1=some errT) {mx:Int} (hm:Go.EYtdpigpahfiachaaGreatDoor.look gl 3=some [iD mx]) (n:Nd) (ho:okN n) (row:Bool) (p q:Int):FnP Tryz.prog gl 12 [.agg n.cs,.v (.bool row),iD p,iD q] (.v (.bool true)):=by
 obtain ⟨rf,hR,hE⟩:=refs_ok
 have c1:=rPrint_d (gl:=gl) hR hE n ho
 have c2:=fCheck_d te pe hV hl hR hm n ho
 have c0:=rSpan_d (gl:=gl) row p q
 by_cases h0:(prZ rf n).2=0
 ·obtain ⟨hc,hf⟩:=prZ_ok h0
  rw[h0] at c1 c2
  change FnP Tryz.prog gl 37 [_] (.v .nilIface) at c2
  by_cases hs:spnP row p q
  ·have c3:=ong (gl:=gl) (refG_in row p q) n hf hc
   have c4:=Inserted_y (gl:=gl) n row p q hs hc hf c2
   unfold OnG at c3
   generalize chN (insZ row p q) (bxZ (insZ row p q)) n=nq at *
   have c5:=node_y (gl:=gl) nq he
   generalize (prZ rf n).1=s at *
   obtain ⟨k,m,t,a,b,ks⟩:=n
   obtain ⟨k',m',t',a',b',ks'⟩:=nq
   refine fnP_of_vc (nv:=9999) (cu:=[]) fits mixed Tryz.func12 rfl hoB rfl ?_
   ((repeat' ((conv=>whnf);first|exact .intro|refine .ya ?_|refine .na ?_|refine .ys ?_|refine .ns ?_|refine .neg (fun _=>?_) (fun _=>?_)|refine .mk (fun _=>?_) (fun _=>?_)|refine .inl (.inl (X1 (by first|exact c1|exact c0|exact c3|exact c4|exact c5) ?_))|refine .inl (X1 (by first|exact c1|exact c0|exact c3|exact c4|exact c5) ?_)|refine X1 (by first|exact c1|exact c0|exact c3|exact c4|exact c5) ?_|refine .mk ?_ ?_|refine AK ?_|refine AT ?_|fail));all_goals conv=>whnf)
   all_goals first|exact LeD.rfl|exact LeD.vt rfl|exact LeD.vt (by simp)
  ·have c4:=Inserted_s (gl:=gl) n row p q hs c2
   have c5:=node_n (gl:=gl) 1 (by decide) he
   generalize (prZ rf n).1=s at *
   generalize n00=nq at *
   obtain ⟨k,m,t,a,b,ks⟩:=n
   obtain ⟨k',m',t',a',b',ks'⟩:=nq
   refine fnP_of_vc (nv:=9999) (cu:=[]) fits mixed Tryz.func12 rfl hoB rfl ?_
   ((repeat' ((conv=>whnf);first|exact .intro|refine .ya ?_|refine .na ?_|refine .ys ?_|refine .ns ?_|refine .neg (fun _=>?_) (fun _=>?_)|refine .mk (fun _=>?_) (fun _=>?_)|refine .inl (.inl (X1 (by first|exact c1|exact c0|exact c4|exact c5) ?_))|refine .inl (X1 (by first|exact c1|exact c0|exact c4|exact c5) ?_)|refine X1 (by first|exact c1|exact c0|exact c4|exact c5) ?_|refine .mk ?_ ?_|refine AK ?_|refine AT ?_|fail));all_goals conv=>whnf)
   all_goals first|exact LeD.rfl|exact LeD.vt rfl|exact LeD.vt (by simp)
 ·have c5:=node_n (gl:=gl) (prZ rf n).2 h0 he
  simp only[errD,if_neg h0] at c2
  have c4:=Inserted_n (gl:=gl) n row p q _ c2
  generalize prZ rf n=z at *
  obtain ⟨s,e⟩:=z
  simp only at h0 c1 c2 c4 c5
  generalize n00=nq at *
  obtain ⟨k,m,t,a,b,ks⟩:=n
  obtain ⟨k',m',t',a',b',ks'⟩:=nq
  refine fnP_of_vc (nv:=9999) (cu:=[]) fits mixed Tryz.func12 rfl hoB rfl ?_
  ((repeat' ((conv=>whnf);first|exact .intro|refine .ya ?_|refine .na ?_|refine .ys ?_|refine .ns ?_|refine .neg (fun _=>?_) (fun _=>?_)|refine .mk (fun _=>?_) (fun _=>?_)|refine .inl (.inl (X1 (by first|exact c1|exact c0|exact c4|exact c5) ?_))|refine .inl (X1 (by first|exact c1|exact c0|exact c4|exact c5) ?_)|refine X1 (by first|exact c1|exact c0|exact c4|exact c5) ?_|refine .mk ?_ ?_|refine AK ?_|refine AT ?_|fail));all_goals conv=>whnf)
  all_goals first|exact LeD.rfl|exact LeD.vt rfl|exact LeD.vt (by simp)
theorem RefsInserted_g (te:TypeId) (pe:Value) (mx:Int) (n:Nd) (ho:okN n) (row:Bool) (p q:Int):FnP Tryz.prog (glU te pe mx) 12 [.agg n.cs,.v (.bool row),iD p,iD q] (.v (.bool true)) :=
 RefsInserted_d te pe (glU_has te pe mx) rfl rfl rfl n ho row p q
end Go.Proofs.YtdpigpahfiachaaGreatDoor
end
