/- Proved: a part of what the law is proved with (the reckoner, contracts of functions, plain laws). Conditions: as each says. -/
import Derived.Test.YtcdjjjokniinkaaGreatDoorYEp
import Derived.Test.YtcdjjjokniinkaaGreatDoorYKg
section
namespace Go.Proofs.YtcdjjjokniinkaaGreatDoor
open Go Go.EYtcdjjjokniinkaaGreatDoor
set_option maxRecDepth 100000
set_option maxHeartbeats 4000000
variable {gl:List (Nat×List D)}
theorem write_7 (m:Int) (t:List UInt8) (a b:Rf) (x:Nd) (hw:WrOk gl x) (hl:(wrN x).length+3≤cntN x * 2097200):WrOk gl (.mk 7 m t a b [x]):=by
 intro s hs
 have hc:cntN (.mk 7 m t a b [x])=cntN x+0+1:=rfl
 rw[hc] at hs
 have c1:=WriteByte_d (gl:=gl) (.inr rfl) s 45 (by omega)
 have c2:=tight_d (gl:=gl) x
 have c3:=brackets_d hw hl (tgtN x<5) (s++[45]) (by rw[List.length_append,List.length_singleton];omega)
 rw[show s++wrN (.mk 7 m t a b [x])=s++[45]++brN (wrN x) (tgtN x<5) by rw[wrN,if_neg (by decide),if_neg (by decide),if_neg (by decide),if_neg (by decide),if_neg (by decide),if_neg (by decide),if_pos rfl];simp[wr7,wrL]]
 obtain ⟨kx,mx,tx,ax,bx',sx⟩:=x
 have g1:(Nd.csL [.mk kx mx tx ax bx' sx])[(0:Int).toNat]?=some [iD kx,iD mx,.str tx,iD ax.c,iD ax.r,tD ax.fc,tD ax.fr,iD bx'.c,iD bx'.r,tD bx'.fc,tD bx'.fr,.lst 12 (Nd.csL sx)]:=rfl
 refine fn_of_vc (nv:=9999) (cu:=[]) fits mixed Tryz.func82 rfl hoB rfl rfl rfl rfl ?_
 ((repeat' ((conv=>whnf);first|exact .intro|refine .ya ?_|refine .na ?_|refine .ys ?_|refine .ns ?_|refine .neg (fun _=>?_) (fun _=>?_)|refine .mk (fun _=>?_) (fun _=>?_)|refine .inr (X5 (c1.r [0,1] _) ?_)|refine .inl (.inr (X5 (c1.r [0,1] _) ?_))|refine .inl (X5 (c1.r [0,1] _) ?_)|refine .inr (X5 (c3.r [0,1] _) ?_)|refine .inl (.inr (X5 (c3.r [0,1] _) ?_))|refine .inl (X5 (c3.r [0,1] _) ?_)|refine .inl (.inl (X1 (c2) ?_))|refine .inl (X1 (c2) ?_)|refine X1 (c2) ?_|(refine ⟨Int.le_refl _,_,g1,?_⟩)|refine .mk ?_ ?_|refine AK ?_|refine AT ?_|fail));all_goals conv=>whnf)
 all_goals ((repeat' first|exact rfl|((conv=>whnf);first|done|exact suL|refine And.intro ?_ ?_|fail));all_goals conv=>whnf)
theorem write_8 (m:Int) (t:List UInt8) (a b:Rf) (x y:Nd) (hm:1≤m∧m≤11) (hw:WrOk gl x) (hl:(wrN x).length+3≤cntN x * 2097200) (hw':WrOk gl y) (hl':(wrN y).length+3≤cntN y * 2097200):WrOk gl (.mk 8 m t a b [x,y]):=by
 intro s hs
 have hc:cntN (.mk 8 m t a b [x,y])=cntN x+(cntN y+0)+1:=rfl
 rw[hc] at hs
 obtain ⟨tg,htg⟩:∃ z,tgtN (.mk 8 m t a b [x,y])=z:=⟨_,rfl⟩
 have c0:=tight_d (gl:=gl) (.mk 8 m t a b [x,y])
 rw[htg] at c0
 have c1:=tight_d (gl:=gl) x
 have c2:=tight_d (gl:=gl) y
 have b1:=brN_len (wrN x) (tgtN x<tg)
 have b2:=sgnN_len hm
 have c3:=brackets_d hw hl (tgtN x<tg) s (by omega)
 have c4:=sgn_d (gl:=gl) m hm
 have c5:=WriteString_d (gl:=gl) (.inr rfl) (s++brN (wrN x) (tgtN x<tg)) (sgnN m) (by rw[List.length_append];omega)
 have c6:=brackets_d hw' hl' (tgtN y≤tg) (s++brN (wrN x) (tgtN x<tg)++sgnN m) (by rw[List.length_append,List.length_append];omega)
 rw[show s++wrN (.mk 8 m t a b [x,y])=s++brN (wrN x) (tgtN x<tg)++sgnN m++brN (wrN y) (tgtN y≤tg) by rw[wrN,if_neg (by decide),if_neg (by decide),if_neg (by decide),if_neg (by decide),if_neg (by decide),if_neg (by decide),if_neg (by decide),if_pos rfl,htg];simp[wr8,wrL]]
 clear hw hw' hl hl' hs hc
 obtain ⟨kx,mx,tx,ax,bx',sx⟩:=x
 obtain ⟨ky,my,ty,ay,by',sy⟩:=y
 have g1:(Nd.csL [.mk kx mx tx ax bx' sx,.mk ky my ty ay by' sy])[(0:Int).toNat]?=some [iD kx,iD mx,.str tx,iD ax.c,iD ax.r,tD ax.fc,tD ax.fr,iD bx'.c,iD bx'.r,tD bx'.fc,tD bx'.fr,.lst 12 (Nd.csL sx)]:=rfl
 have g2:(Nd.csL [.mk kx mx tx ax bx' sx,.mk ky my ty ay by' sy])[(1:Int).toNat]?=some [iD ky,iD my,.str ty,iD ay.c,iD ay.r,tD ay.fc,tD ay.fr,iD by'.c,iD by'.r,tD by'.fc,tD by'.fr,.lst 12 (Nd.csL sy)]:=rfl
 refine fn_of_vc (nv:=9999) (cu:=[22]) fits mixed Tryz.func82 rfl hoB rfl rfl rfl rfl ?_
 ((repeat' ((conv=>whnf);first|exact .intro|refine .ya ?_|refine .na ?_|refine .ys ?_|refine .ns ?_|refine .neg (fun _=>?_) (fun _=>?_)|refine .mk (fun _=>?_) (fun _=>?_)|refine .mk ?_ ?_|refine AK ?_|refine AT ?_|fail));all_goals conv=>whnf)
 refine ⟨{ σ:=Unit,fr:=fun _=>[],ks:=[1],L:=fun _=>[(1,bytB (s++brN (wrN (.mk kx mx tx ax bx' sx)) (tgtN (.mk kx mx tx ax bx' sx)<tg)))],ex:=0,I:=fun _=>True,μ:=fun _=>0 },?_,fun _ _=>?_⟩
 ·((repeat' ((conv=>whnf);first|exact .intro|refine .ya ?_|refine .na ?_|refine .ys ?_|refine .ns ?_|refine .neg (fun _=>?_) (fun _=>?_)|refine .mk (fun _=>?_) (fun _=>?_)|refine .inr (X5 (c3.r [0,1] _) ?_)|refine .inl (.inr (X5 (c3.r [0,1] _) ?_))|refine .inl (X5 (c3.r [0,1] _) ?_)|refine .inl (.inl (X1 (by first|exact c0|exact c1|exact c2) ?_))|refine .inl (X1 (by first|exact c0|exact c1|exact c2) ?_)|refine X1 (by first|exact c0|exact c1|exact c2) ?_|(refine ⟨Int.le_refl _,_,g1,?_⟩)|refine .mk ?_ ?_|refine AK ?_|refine AT ?_|fail));all_goals conv=>whnf)
  all_goals refine ⟨(),trivial,?_⟩
  all_goals ((repeat' first|exact rfl|((conv=>whnf);first|done|exact suL|refine And.intro ?_ ?_|fail));all_goals conv=>whnf)
 ·((repeat' ((conv=>whnf);first|exact .intro|refine .ya ?_|refine .na ?_|refine .ys ?_|refine .ns ?_|refine .neg (fun _=>?_) (fun _=>?_)|refine .mk (fun _=>?_) (fun _=>?_)|refine .inr (X5 (c5.r [0,1] _) ?_)|refine .inl (.inr (X5 (c5.r [0,1] _) ?_))|refine .inl (X5 (c5.r [0,1] _) ?_)|refine .inr (X5 (c6.r [0,1] _) ?_)|refine .inl (.inr (X5 (c6.r [0,1] _) ?_))|refine .inl (X5 (c6.r [0,1] _) ?_)|refine .inl (.inl (X1 (by first|exact c0|exact c2|exact c4) ?_))|refine .inl (X1 (by first|exact c0|exact c2|exact c4) ?_)|refine X1 (by first|exact c0|exact c2|exact c4) ?_|(refine ⟨by decide,_,g2,?_⟩)|refine .mk ?_ ?_|refine AK ?_|refine AT ?_|fail));all_goals conv=>whnf)
  all_goals ((repeat' first|exact rfl|((conv=>whnf);first|done|exact suL|refine And.intro ?_ ?_|fail));all_goals conv=>whnf)
end Go.Proofs.YtcdjjjokniinkaaGreatDoor
end
section
namespace Go.Proofs.YtcdjjjokniinkaaGreatDoor
open Go Go.EYtcdjjjokniinkaaGreatDoor
set_option maxRecDepth 100000
set_option maxHeartbeats 4000000
variable {gl:List (Nat×List D)}
theorem com_snoc (l:List (List UInt8)) (w:List UInt8):comN (l++[w])=comN l++(if l.length=0 then [] else [44])++w:=by
 cases l with
 | nil=>simp[comN]
 | cons s r=>simp[comN]
theorem wrL_take:∀ (ks:List Nd) (x:Nat),wrL (ks.take x)=(wrL ks).take x
 | [],x=>by simp[wrL]
 | y::r,0=>by simp[wrL]
 | y::r,x+1=>by simp[wrL,wrL_take r x]
theorem wrL_succ {ks:List Nd} {x:Nat} (h:x<ks.length):wrL (ks.take (x+1))=wrL (ks.take x)++[wrN ks[x]]:=by
 rw[wrL_take,wrL_take,List.take_succ_eq_append_getElem (by rw[wrL_len];exact h),wrL_get h]
theorem sum_len:∀ l:List Nd,(∀ x (h:x<l.length),(wrN l[x]).length+3≤cntN l[x] * 2097200)→((wrL l).map fun t=>t.length+1).sum≤cntL l * 2097200
 | [],_=>by simp[wrL]
 | y::r,hl=>by
  have h3:=hl 0 (by simp)
  have h4:=sum_len r fun x h=>hl (x+1) (by simpa using h)
  simp only[wrL,cntL,List.map_cons,List.sum_cons,List.getElem_cons_zero] at *
  omega
theorem write_9 (m:Int) (t:List UInt8) (a b:Rf) (ks:List Nd) (ht:t.length≤1048576) (hw:∀ x (h:x<ks.length),WrOk gl ks[x]) (hl:∀ x (h:x<ks.length),(wrN ks[x]).length+3≤cntN ks[x] * 2097200):WrOk gl (.mk 9 m t a b ks):=by
 intro s hs
 have hc:cntN (.mk 9 m t a b ks)=cntL ks+1:=rfl
 rw[hc] at hs
 have hlen:=kid_len ks
 have hkc:=len_cnt ks
 have q1:t.length+1≤9223372036854775807:=by omega
 have c1:=WriteString_d (gl:=gl) (.inr rfl) s (t++[40]) (by rw[List.length_append,List.length_singleton];omega)
 have com:∀ x,(comN (wrL (ks.take x))).length≤cntL (ks.take x) * 2097200:=fun x=>Nat.le_trans (com_len _) (sum_len _ fun y hy=>by
  rw[List.getElem_take]
  exact hl y (by rw[List.length_take] at hy;omega))
 rw[show s++wrN (.mk 9 m t a b ks)=s++(t++[40])++comN (wrL (ks.take ks.length))++[41] by rw[List.take_length,wrN,if_neg (by decide),if_neg (by decide),if_neg (by decide),if_neg (by decide),if_neg (by decide),if_neg (by decide),if_neg (by decide),if_neg (by decide),if_pos rfl];simp]
 refine fn_of_vc (nv:=9999) (cu:=[]) fits mixed Tryz.func82 rfl hoB rfl rfl rfl rfl ?_
 ((repeat' ((conv=>whnf);first|exact .intro|refine .ya ?_|refine .na ?_|refine .ys ?_|refine .ns ?_|refine .neg (fun _=>?_) (fun _=>?_)|refine .mk (fun _=>?_) (fun _=>?_)|refine .inr (X5 (c1.r [0,1] _) ?_)|refine .inl (.inr (X5 (c1.r [0,1] _) ?_))|refine .inl (X5 (c1.r [0,1] _) ?_)|(refine ⟨q1,?_⟩)|refine .mk ?_ ?_|refine AK ?_|refine AT ?_|fail));all_goals conv=>whnf)
 refine ⟨{ σ:=Nat,fr:=fun x=>[(130,.c (.d (iD (x:Int))))],ks:=[1],L:=fun x=>[(1,bytB (s++(t++[40])++comN (wrL (ks.take x))))],ex:=0,I:=fun x=>x≤ks.length,μ:=fun x=>ks.length - x },⟨0,Nat.zero_le _,?_⟩,fun (x:Nat) hx=>?_⟩
 ·((repeat' first|exact rfl|((conv=>whnf);first|done|exact suL|refine And.intro ?_ ?_|fail));all_goals conv=>whnf)
  simp[wrL,comN]
 ·replace hx:x≤ks.length:=hx
  have hcx:=com x
  have hls:(s++(t++[40])++comN (wrL (ks.take x))).length=s.length+(t.length+1)+(comN (wrL (ks.take x))).length:=by rw[List.length_append,List.length_append,List.length_append,List.length_singleton]
  by_cases hlt:x<ks.length
  ·have h2:(x:Int)<((Nd.csL ks).length:Nat):=by omega
   have g1:=kid_get hlt
   have hct:=cntL_take hlt
   have hcl:=cntL_le ks (x+1)
   have hlx:=hl x hlt
   have e0:IntKind.i64.wrap ((x:Int)+1)=((x+1:Nat):Int):=by rw[wrapI (by omega)];rfl
   have hsn:=com_snoc (wrL (ks.take x)) (wrN ks[x])
   rw[← wrL_succ hlt,wrL_len,List.length_take,Nat.min_eq_left hx] at hsn
   have c2:=WriteByte_d (gl:=gl) (.inr rfl) (s++(t++[40])++comN (wrL (ks.take x))) 44 (by omega)
   have hwx:=hw x hlt
   generalize ks[x]=q at *
   obtain ⟨k1,m1,t1,a1,b1,ks1⟩:=q
   change (Nd.csL ks)[((x:Nat):Int).toNat]?=some [iD k1,iD m1,.str t1,iD a1.c,iD a1.r,tD a1.fc,tD a1.fr,iD b1.c,iD b1.r,tD b1.fc,tD b1.fr,.lst 12 (Nd.csL ks1)] at g1
   by_cases h0:x=0
   ·subst h0
    rw[if_pos rfl,List.append_nil] at hsn
    have hp:¬ ((0:Nat):Int)>0:=by decide
    have c3:=hwx (s++(t++[40])++comN (wrL (ks.take 0))) (by omega)
    ((repeat' ((conv=>whnf);first|exact .intro|refine .ya ?_|refine .na ?_|refine .ys ?_|refine .ns ?_|refine .neg (fun _=>?_) (fun _=>?_)|refine .mk (fun _=>?_) (fun _=>?_)|refine .inr (X5 (c3.r [0,1] _) ?_)|refine .inl (.inr (X5 (c3.r [0,1] _) ?_))|refine .inl (X5 (c3.r [0,1] _) ?_)|(refine ⟨Int.natCast_nonneg _,_,g1,?_⟩)|refine .mk ?_ ?_|refine AK ?_|refine AT ?_|fail));all_goals conv=>whnf)
    refine ⟨0+1,⟨hlt,by show ks.length - (0+1)<ks.length - 0;omega⟩,?_⟩
    ((repeat' first|exact rfl|((conv=>whnf);first|done|exact suL|refine And.intro ?_ ?_|fail));all_goals conv=>whnf)
    rw[hsn];simp only[List.append_assoc]
   ·rw[if_neg h0] at hsn
    have hp:(x:Int)>0:=by omega
    have c3:=hwx (s++(t++[40])++comN (wrL (ks.take x))++[44]) (by rw[List.length_append,List.length_singleton];omega)
    ((repeat' ((conv=>whnf);first|exact .intro|refine .ya ?_|refine .na ?_|refine .ys ?_|refine .ns ?_|refine .neg (fun _=>?_) (fun _=>?_)|refine .mk (fun _=>?_) (fun _=>?_)|refine .inr (X5 (c2.r [0,1] _) ?_)|refine .inl (.inr (X5 (c2.r [0,1] _) ?_))|refine .inl (X5 (c2.r [0,1] _) ?_)|refine .inr (X5 (c3.r [0,1] _) ?_)|refine .inl (.inr (X5 (c3.r [0,1] _) ?_))|refine .inl (X5 (c3.r [0,1] _) ?_)|(refine ⟨Int.natCast_nonneg _,_,g1,?_⟩)|refine .mk ?_ ?_|refine AK ?_|refine AT ?_|fail));all_goals conv=>whnf)
    refine ⟨x+1,⟨hlt,by show ks.length - (x+1)<ks.length - x;omega⟩,?_⟩
    ((repeat' first|exact rfl|((conv=>whnf);first|done|exact suL|refine And.intro ?_ ?_|fail));all_goals conv=>whnf)
    ·exact ceq e0
    ·rw[hsn];simp only[List.append_assoc]
  ·have h2:¬ (x:Int)<((Nd.csL ks).length:Nat):=by omega
   obtain rfl:x=ks.length:=by omega
   have hcl:=cntL_le ks ks.length
   have c2:=WriteByte_d (gl:=gl) (.inr rfl) (s++(t++[40])++comN (wrL (ks.take ks.length))) 41 (by omega)
   ((repeat' ((conv=>whnf);first|exact .intro|refine .ya ?_|refine .na ?_|refine .ys ?_|refine .ns ?_|refine .neg (fun _=>?_) (fun _=>?_)|refine .mk (fun _=>?_) (fun _=>?_)|refine .inr (X5 (c2.r [0,1] _) ?_)|refine .inl (.inr (X5 (c2.r [0,1] _) ?_))|refine .inl (X5 (c2.r [0,1] _) ?_)|refine .mk ?_ ?_|refine AK ?_|refine AT ?_|fail));all_goals conv=>whnf)
   ((repeat' first|exact rfl|((conv=>whnf);first|done|exact suL|refine And.intro ?_ ?_|fail));all_goals conv=>whnf)
end Go.Proofs.YtcdjjjokniinkaaGreatDoor
end
section
namespace Go.Proofs.YtcdjjjokniinkaaGreatDoor
open Go Go.EYtcdjjjokniinkaaGreatDoor
set_option maxRecDepth 100000
variable {gl:List (Nat×List D)}
theorem write_d (te:TypeId) (pe:Value) (hV:Has gl (glV te pe)) {mx:Int} (hm:Go.EYtcdjjjokniinkaaGreatDoor.look gl 3=some [iD mx]) (n:Nd):∀ {box:Prop},frmN n box→okN n→WrOk gl n:=by
 match n with
 | .mk k m t a b ks =>
  intro box hf ho
  have ih:∀ x (h:x<ks.length),∀ {box:Prop},frmN ks[x] box→okN ks[x]→WrOk gl ks[x]:=fun x h=>write_d te pe hV hm ks[x]
  by_cases hk:k<1∨9<k
  ·exact absurd hf (frm_0 hk)
  by_cases h6:k≤6
  ·exact write_leaf te pe hV hm k m t a b ks ⟨by omega,h6⟩ hf ho
  have hok:=ho.2.2
  have hk':k=7∨k=8∨k=9:=by omega
  rcases hk' with rfl|rfl|rfl
  ·rw[frm_7] at hf
   obtain ⟨x,rfl⟩:=List.length_eq_one_iff.1 hf.1
   have h1:=frmL_iff.1 hf.2.2.2.2 0 (by simp)
   have h2:=okL_get hok (x:=0) (by simp)
   exact write_7 m t a b x (ih 0 (by simp) h1 h2) (wr_len x h1 h2)
  ·rw[frm_8] at hf
   obtain ⟨x,y,rfl⟩:∃ x y,ks=[x,y]:=by
    match ks,hf.1 with
    | [x,y],_=>exact ⟨x,y,rfl⟩
   have h1:=frmL_iff.1 hf.2.2.2.2.2 0 (by simp)
   have h2:=okL_get hok (x:=0) (by simp)
   have h3:=frmL_iff.1 hf.2.2.2.2.2 1 (by simp)
   have h4:=okL_get hok (x:=1) (by simp)
   exact write_8 m t a b x y ⟨hf.2.2.2.1,hf.2.2.2.2.1⟩ (ih 0 (by simp) h1 h2) (wr_len x h1 h2) (ih 1 (by simp) h3 h4) (wr_len y h3 h4)
  ·rw[frm_9] at hf
   have h1:=frmL_iff.1 hf.2.2.2
   exact write_9 m t a b ks ho.2.1 (fun x h=>ih x h (h1 x h) (okL_get hok h)) (fun x h=>wr_len ks[x] (h1 x h) (okL_get hok h))
termination_by SizeOf.sizeOf n
decreasing_by
 simp only[Nd.mk.sizeOf_spec]
 have:=List.sizeOf_lt_of_mem (List.getElem_mem h)
 omega
end Go.Proofs.YtcdjjjokniinkaaGreatDoor
end
section
namespace Go.EYtcdjjjokniinkaaGreatDoor
open Go Go.RowKit
inductive Stp where
 | code (c:Code)
 | cut
def seqs:List Stp→Code→Code
 | [],t=>t
 | .code a::r,t=>.seq a (seqs r t)
 | .cut::r,t=>seqs r t
def vcPre (P:Program) (gl:List (Nat×List D)) (tt:List (Nat×TI)) (fx:List Nat) (N nv:Nat) (cu:List Nat):List Stp→List (Nat×V)→List (Nat×Blk)→Nat→SK→XK→Prop
 | [],fr,L,n,T,_=>T fr L n
 | .code a::r,fr,L,n,T,K=>vcCode P gl tt fx N nv cu a fr L n fun x fr1 L1 n1=>match x with
  | .normal=>vcPre P gl tt fx N nv cu r fr1 L1 n1 T K
  | x=>K x fr1 L1 n1
 | .cut::r,fr,L,n,T,K=>∃ fr' L' n',sub3 fx n fr L n' fr' L'∧vcPre P gl tt fx N nv cu r fr' L' n' T K
section
variable {P:Program} {gl:List (Nat×List D)} {tt:List (Nat×TI)} {M0 S0:Nat→Prop} {w0:Base} {N:Nat} {nv:Nat} {cu:List Nat}
theorem vcPre_ok (hT:Fits P tt) (hm:P.follows .mixedOrders=true) {t:Code} {T:SK} {K:XK} {Q:Exit→Act→World→Prop}
 (ht:∀ fr L n adr a w,T fr L n→Ok gl M0 S0 w0 N adr fr L n a w→t.wp P Q a w)
 (hQ:(∀ id fr L n adr a w,K (.exit id) fr L n→Ok gl M0 S0 w0 N adr fr L n a w→Q (.exit id) a w)∧(∀ l fr L n adr a w,K (.goto l) fr L n→Ok gl M0 S0 w0 N adr fr L n a w→Q (.goto l) a w)∧
  (∀ fr L n adr a w,K .ret fr L n→Ok gl M0 S0 w0 N adr fr L n a w→Q .ret a w)∧PanOk gl M0 S0 w0 N (fun c=>K (.panic c)) Q∧(∀ c a d v w,Q (.panic c) (a.put d v) w→Q (.panic c) a w)) :
 ∀ (l:List Stp) fr L n adr a w,vcPre P gl tt w0.fx N nv cu l fr L n T K→Ok gl M0 S0 w0 N adr fr L n a w→(seqs l t).wp P Q a w
 | [],fr,L,n,adr,a,w,h,hx=>ht _ _ _ _ _ _ h hx
 | .cut::r,fr,L,n,adr,a,w,h,hx=>by
  obtain ⟨fr',L',n',h1,h2⟩:=h
  exact vcPre_ok hT hm ht hQ r _ _ _ _ _ _ h2 (sub3_ok hx h1)
 | .code c::r,fr,L,n,adr,a,w,h,hx=>by
  refine wp_seq (vcCode_ok hT hm c _ _ _ _ _ _ _ _ h hx ⟨?_,?_,?_,?_,?_,?_⟩)
  ·intro fr1 L1 n1 adr1 a1 w1 h1 hx1
   exact vcPre_ok hT hm ht hQ r _ _ _ _ _ _ h1 hx1
  ·intro id fr1 L1 n1 adr1 a1 w1 h1 hx1;exact hQ.1 _ _ _ _ _ _ _ h1 hx1
  ·intro id fr1 L1 n1 adr1 a1 w1 h1 hx1;exact hQ.2.1 _ _ _ _ _ _ _ h1 hx1
  ·intro fr1 L1 n1 adr1 a1 w1 h1 hx1;exact hQ.2.2.1 _ _ _ _ _ _ h1 hx1
  ·exact hQ.2.2.2.1
  ·intro _ c a d v w h;exact hQ.2.2.2.2 c a d v w h
theorem fnP_of_pre (hT:Fits P tt) (hm:P.follows .mixedOrders=true) {f:FuncId} {fn:Func} {l:List Stp} {t:Code} {ds:List D} {r:D} {T:SK} (hf:P.funcs[f]?=some fn) (hb:fn.body=some (seqs l t)) (hB:HasBody P f) (hN:Nat.ble ds.length fn.ntmps=true)
 (ht:∀ (w:World) (M:Nat→Prop) fr L n adr a w',(∀ b,M b→b<w.heap.size)→Glob gl M w→T fr L n→Ok gl M (fun _=>False) ⟨w,fun _=>none,[],[]⟩ fn.ntmps adr fr L n a w'→
  t.wp P (bodyPost P fn fun e w'=>Evo (fun _=>False) w w'∧∃ x,e=.returned x∧DenD M w' r x) a w')
 (h:vsK ds fun vs=>vcPre P gl tt [] fn.ntmps nv cu l (argFr 0 vs) [] 0 T (endP tt fn.results.toList r)):FnP P gl f ds r:=by
 rw[vsK_eq] at h
 intro w M xs hM hg hd
 refine .inl ⟨hB,?_⟩
 have hN':=Nat.le_of_ble_eq_true hN
 have hlen:=All2.length hd
 have hmut:Mut M (fun _=>none) []=M:=by
  funext b
  apply propext
  constructor
  ·rintro (h1|⟨k,B,m,h1,_⟩)
   ·exact h1
   ·cases h1
  ·exact .inl
 have fin:∀ {fr L n adr a w'},vcRes tt L fr fn.results.toList (fun l=>lendVs L l fun ds _=>LeD (retD ds) r)→Ok gl M (fun _=>False) ⟨w,fun _=>none,[],[]⟩ fn.ntmps adr fr L n a w'→
  a.defers=[]∧∃ v,(results fn a.tmps).run P w'=.ok v w'∧(Evo (fun _=>False) w w'∧∃ x,Ending.returned v=.returned x∧DenD M w' r x):=by
  intro fr L n adr a w' hr hx
  obtain ⟨l,ys,hK,h1,h2⟩:=vcRes_ok hT hx hr
  obtain ⟨es,ks,⟨h3,h5⟩,h4⟩:=lendVs_ok (lendVs_look hK)
  refine ⟨hx.defers,_,run_results h1,hx.base,_,rfl,?_⟩
  refine h3.out _ _ _ (retD_den (h4 M adr n w' ys M hx.wok h2 (fun b _ hb=>.inl hb) (fun k hk b m ha hb=>?_)))
  have hlt:=hM b hb
  obtain ⟨B,hB'⟩:=Option.isSome_iff_exists.1 (h5 k hk)
  exact hx.wok.prot k B b m hB' ha hb
 refine calls_of_wp hf hb (vcPre_ok (M0:=M) (S0:=fun _=>False) (w0:=⟨w,fun _=>none,[],[]⟩) hT hm (fun fr L n adr a w' h1 h2=>ht w M fr L n adr a w' hM hg h1 h2) ⟨?_,?_,?_,?_,?_⟩ l _ _ _ (fun _=>none) _ w h ⟨?_,rfl,fun t s hl=>?_,⟨(fun k B hk=>by cases hk),(fun _ _=>rfl),(fun k B hk=>by cases hk),(fun k k' B B' b m m' hk=>by cases hk),(fun k B b m hk=>by cases hk),hM⟩,by rw[hmut];exact hg,Evo.refl _ _,(fun k B b m hk=>by cases hk),(fun k hk=>by simp at hk)⟩)
 ·intro id fr L n adr a w' hk hx;exact hk.elim
 ·intro id fr L n adr a w' hk hx;exact hk.elim
 ·intro fr L n adr a w' hk hx;exact fin hk hx
 ·intro c fr L n adr x a w' hk hx hd;exact hk.elim
 ·intro c a d v w h;cases d <;> exact h
 ·simp;omega
 ·obtain ⟨_,h2⟩:=look_argFr hl
  simp only[Nat.sub_zero] at h2
  rw[List.getElem?_map] at h2
  obtain ⟨d,hd1,rfl⟩:=Option.map_eq_some_iff.1 h2
  obtain ⟨x,hx1,hx2⟩:=All2.get hd hd1
  have hlt:t<xs.length:=(List.getElem?_eq_some_iff.1 hx1).1
  rw[Array.getD_eq_getD_getElem?,Array.getElem?_append_left (by simpa using hlt)]
  rw[hmut]
  simp only[List.getElem?_toArray,hx1,Option.getD_some]
  exact vD_den hx2
theorem Evo.thenB {w w' w1:World} (h:Evo (fun _=>False) w w') (hb:Below w.heap.size w' w1):Evo (fun _=>False) w w1 :=
 ⟨hb.os.trans h.os,hb.tape.trans h.tape,hb.output.trans h.output,Nat.le_trans h.size hb.size,fun b hlt hn=>(hb.block b hlt).trans (h.block b hlt hn),fun b cur e f hc=>by
  have hlt:=(Array.getElem?_eq_some_iff.1 hc).1
  exact ⟨cur,((hb.block b hlt).trans (h.block b hlt fun h=>h)).trans hc,rfl⟩⟩
theorem FnP.callsE {g:Nat} {ds:List D} {r:D} {xs:List Value} {w:World} {M:Nat→Prop} (h:FnP P gl g ds r) (hb:HasBody P g) (hM:∀ b,M b→b<w.heap.size) (hg:Glob gl M w) (hd:DenL M w ds xs) :
 Calls P g xs.toArray w fun e w'=>Evo (fun _=>False) w w'∧∃ x,e=.returned x∧DenD M w' r x:=by
 rcases h w M xs hM hg hd with ⟨_,h1⟩|⟨v,w',h1,h2⟩
 ·exact h1
 ·rw[hb.enters] at h1;cases h1
end
end Go.EYtcdjjjokniinkaaGreatDoor
end
section
namespace Go.Proofs.YtcdjjjokniinkaaGreatDoor
open Go Go.EYtcdjjjokniinkaaGreatDoor
set_option maxRecDepth 100000
theorem wd_len {s:List UInt8} {i:Nat} (hs:s.length≤200):(wdAt s i).length≤200:=by
 unfold wdAt
 rw[List.length_take,List.length_drop]
 omega
theorem nw {s:List UInt8} {i:Nat} (_hi:i<s.length) (hw:wordlyP (s.getD ((i:Nat):Int).toNat 0)) (x:UInt8) (hx:¬ wordlyP x):¬ (((s.getD ((i:Nat):Int).toNat 0).toNat:Nat):Int)=((x.toNat:Nat):Int):=fun e=>hx (by
 have:s.getD ((i:Nat):Int).toNat 0=x:=UInt8.toNat_inj.1 (by omega)
 rw[← this];exact hw)
theorem getD_of {s:List UInt8} {i:Nat} {c:UInt8} (h:s[i]?=some c):s.getD ((i:Nat):Int).toNat 0=c:=by
 rw[List.getD,show ((i:Nat):Int).toNat=i by omega,h]
 rfl
theorem prim_other {gl:List (Nat×List D)} {s:List UInt8} {i d:Nat} {c:UInt8} (_hs:s.length≤200) (h:s[i]?=some c) (h40:c≠40) (h34:c≠34) (h35:c≠35) (hw:¬ wordlyP c):Gives1 gl 130 [.c (.ptr 0 0)] s i d (.no i 2):=by
 have hi:=lt_of_get h
 have hne:∀ x:UInt8,c≠x→¬ (((s.getD ((i:Nat):Int).toNat 0).toNat:Nat):Int)=((x.toNat:Nat):Int):=fun x hx e=>hx (by rw[getD_of h] at e;exact UInt8.toNat_inj.1 (by omega))
 have c2:=fail_d (gl:=gl) s i d i 2
 have c0:=wordly_n (gl:=gl) (fun hh=>hw ((wdly_iff c).1 hh))
 rw[← getD_of h] at c0
 have h2:¬ ((i:Nat):Int)=((s.length:Nat):Int):=by omega
 have h3:¬ (((s.getD ((i:Nat):Int).toNat 0).toNat:Nat):Int)=40:=hne 40 h40
 have h4:¬ (((s.getD ((i:Nat):Int).toNat 0).toNat:Nat):Int)=34:=hne 34 h34
 have h5:¬ (((s.getD ((i:Nat):Int).toNat 0).toNat:Nat):Int)=35:=hne 35 h35
 unfold Gives1
 refine fn_of_vc (nv:=9999) (cu:=[]) fits mixed Tryz.func130 rfl hoB rfl rfl rfl rfl ?_
 ((repeat' ((conv=>whnf);first|exact .intro|refine .ya ?_|refine .na ?_|refine .ys ?_|refine .ns ?_|refine .neg (fun _=>?_) (fun _=>?_)|refine .mk (fun _=>?_) (fun _=>?_)|refine .inr (X5 (c2.r [0] _) ?_)|refine .inl (.inr (X5 (c2.r [0] _) ?_))|refine .inl (X5 (c2.r [0] _) ?_)|refine .inl (.inl (X1 (c0) ?_))|refine .inl (X1 (c0) ?_)|refine X1 (c0) ?_|refine .mk ?_ ?_|refine AK ?_|refine AT ?_|fail));all_goals conv=>whnf)
 ((repeat' first|exact rfl|((conv=>whnf);first|done|exact suL|refine And.intro ?_ ?_|fail));all_goals conv=>whnf)
theorem prim_plain {gl:List (Nat×List D)} (te:TypeId) (pe:Value) (hV:Has gl (glV te pe)) {rf:List UInt8→Option Rf} (hR:RefsOk rf) {s:List UInt8} {i d:Nat} {c:UInt8} (hs:s.length≤200) (h:s[i]?=some c) (hw:wordlyP c) (hq:¬ (s[wdE s i]?=some 40∧clZ (wdAt s i)=true)) {n:Nd} (hn:plZ rf (wdAt s i)=some n) :
 Gives1 gl 130 [.c (.ptr 0 0)] s i d (.ok n (wdE s i)):=by
 have hi:=lt_of_get h
 have hwl:=wd_len (i:=i) hs
 have he:=wdE_le (show i≤s.length by omega)
 rw[← getD_of h] at hw
 have c0:=wordly_y (gl:=gl) ((wdly_iff _).2 hw)
 have h2:¬ ((i:Nat):Int)=((s.length:Nat):Int):=by omega
 have h3:¬ (((s.getD ((i:Nat):Int).toNat 0).toNat:Nat):Int)=40:=nw hi hw 40 (by decide)
 have h4:¬ (((s.getD ((i:Nat):Int).toNat 0).toNat:Nat):Int)=34:=nw hi hw 34 (by decide)
 have h5:¬ (((s.getD ((i:Nat):Int).toNat 0).toNat:Nat):Int)=35:=nw hi hw 35 (by decide)
 have c1:=word_d (gl:=gl) s i d (by omega) hs
 have c2:=FnP.moreG (plain_s te pe hR hwl hn) hV
 obtain ⟨k,m,t,a,b,ks⟩:=n
 change FnP Tryz.prog (gl) 158 _ (.tup [.agg [iD k,iD m,.str t,iD a.c,iD a.r,tD a.fc,tD a.fr,iD b.c,iD b.r,tD b.fc,tD b.fr,.lst 12 (Nd.csL ks)],.v (.bool true)]) at c2
 unfold Gives1
 rcases Nat.lt_or_ge (wdE s i) s.length with hl2|hl2
 ·have h6:((wdE s i:Nat):Int)<((s.length:Nat):Int):=by omega
  by_cases h7:(((s.getD ((wdE s i:Nat):Int).toNat 0).toNat:Nat):Int)=40
  ·have c3:=called_n (gl:=gl) hwl (by
    cases hc:clZ (wdAt s i) with
    | false=>rfl
    | true=>exact absurd ⟨(byt 40 hl2).1 h7,hc⟩ hq)
   generalize wdE s i=j at *
   generalize wdAt s i=w at *
   refine fn_of_vc (nv:=9999) (cu:=[]) fits mixed Tryz.func130 rfl hoB rfl rfl rfl rfl ?_
   ((repeat' ((conv=>whnf);first|exact .intro|refine .ya ?_|refine .na ?_|refine .ys ?_|refine .ns ?_|refine .neg (fun _=>?_) (fun _=>?_)|refine .mk (fun _=>?_) (fun _=>?_)|refine .inr (X5 (c1.r [0] _) ?_)|refine .inl (.inr (X5 (c1.r [0] _) ?_))|refine .inl (X5 (c1.r [0] _) ?_)|refine .inl (.inl (X1 (by first|exact c0|exact c2|exact c3) ?_))|refine .inl (X1 (by first|exact c0|exact c2|exact c3) ?_)|refine X1 (by first|exact c0|exact c2|exact c3) ?_|refine .mk ?_ ?_|refine AK ?_|refine AT ?_|fail));all_goals conv=>whnf)
   ((repeat' first|exact rfl|((conv=>whnf);first|done|exact suL|refine And.intro ?_ ?_|fail));all_goals conv=>whnf)
  ·generalize wdE s i=j at *
   generalize wdAt s i=w at *
   refine fn_of_vc (nv:=9999) (cu:=[]) fits mixed Tryz.func130 rfl hoB rfl rfl rfl rfl ?_
   ((repeat' ((conv=>whnf);first|exact .intro|refine .ya ?_|refine .na ?_|refine .ys ?_|refine .ns ?_|refine .neg (fun _=>?_) (fun _=>?_)|refine .mk (fun _=>?_) (fun _=>?_)|refine .inr (X5 (c1.r [0] _) ?_)|refine .inl (.inr (X5 (c1.r [0] _) ?_))|refine .inl (X5 (c1.r [0] _) ?_)|refine .inl (.inl (X1 (by first|exact c0|exact c2) ?_))|refine .inl (X1 (by first|exact c0|exact c2) ?_)|refine X1 (by first|exact c0|exact c2) ?_|refine .mk ?_ ?_|refine AK ?_|refine AT ?_|fail));all_goals conv=>whnf)
   ((repeat' first|exact rfl|((conv=>whnf);first|done|exact suL|refine And.intro ?_ ?_|fail));all_goals conv=>whnf)
 ·have h6:¬ ((wdE s i:Nat):Int)<((s.length:Nat):Int):=by omega
  generalize wdE s i=j at *
  generalize wdAt s i=w at *
  refine fn_of_vc (nv:=9999) (cu:=[]) fits mixed Tryz.func130 rfl hoB rfl rfl rfl rfl ?_
  ((repeat' ((conv=>whnf);first|exact .intro|refine .ya ?_|refine .na ?_|refine .ys ?_|refine .ns ?_|refine .neg (fun _=>?_) (fun _=>?_)|refine .mk (fun _=>?_) (fun _=>?_)|refine .inr (X5 (c1.r [0] _) ?_)|refine .inl (.inr (X5 (c1.r [0] _) ?_))|refine .inl (X5 (c1.r [0] _) ?_)|refine .inl (.inl (X1 (by first|exact c0|exact c2) ?_))|refine .inl (X1 (by first|exact c0|exact c2) ?_)|refine X1 (by first|exact c0|exact c2) ?_|refine .mk ?_ ?_|refine AK ?_|refine AT ?_|fail));all_goals conv=>whnf)
  ((repeat' first|exact rfl|((conv=>whnf);first|done|exact suL|refine And.intro ?_ ?_|fail));all_goals conv=>whnf)
theorem prim_plainn {gl:List (Nat×List D)} (te:TypeId) (pe:Value) (hV:Has gl (glV te pe)) {rf:List UInt8→Option Rf} (hR:RefsOk rf) {s:List UInt8} {i d:Nat} {c:UInt8} (hs:s.length≤200) (h:s[i]?=some c) (hw:wordlyP c) (hq:¬ (s[wdE s i]?=some 40∧clZ (wdAt s i)=true)) (hn:plZ rf (wdAt s i)=none) :
 Gives1 gl 130 [.c (.ptr 0 0)] s i d (.no i 2):=by
 have hi:=lt_of_get h
 have hwl:=wd_len (i:=i) hs
 have he:=wdE_le (show i≤s.length by omega)
 rw[← getD_of h] at hw
 have c0:=wordly_y (gl:=gl) ((wdly_iff _).2 hw)
 have h2:¬ ((i:Nat):Int)=((s.length:Nat):Int):=by omega
 have h3:¬ (((s.getD ((i:Nat):Int).toNat 0).toNat:Nat):Int)=40:=nw hi hw 40 (by decide)
 have h4:¬ (((s.getD ((i:Nat):Int).toNat 0).toNat:Nat):Int)=34:=nw hi hw 34 (by decide)
 have h5:¬ (((s.getD ((i:Nat):Int).toNat 0).toNat:Nat):Int)=35:=nw hi hw 35 (by decide)
 have c1:=word_d (gl:=gl) s i d (by omega) hs
 have c2:=FnP.moreG (plain_n te pe hR hwl hn) hV
 have c4:=fail_d (gl:=gl) s (wdE s i) d i 2
 unfold Gives1
 rcases Nat.lt_or_ge (wdE s i) s.length with hl2|hl2
 ·have h6:((wdE s i:Nat):Int)<((s.length:Nat):Int):=by omega
  by_cases h7:(((s.getD ((wdE s i:Nat):Int).toNat 0).toNat:Nat):Int)=40
  ·have c3:=called_n (gl:=gl) hwl (by
    cases hc:clZ (wdAt s i) with
    | false=>rfl
    | true=>exact absurd ⟨(byt 40 hl2).1 h7,hc⟩ hq)
   generalize wdE s i=j at *
   generalize wdAt s i=w at *
   refine fn_of_vc (nv:=9999) (cu:=[]) fits mixed Tryz.func130 rfl hoB rfl rfl rfl rfl ?_
   ((repeat' ((conv=>whnf);first|exact .intro|refine .ya ?_|refine .na ?_|refine .ys ?_|refine .ns ?_|refine .neg (fun _=>?_) (fun _=>?_)|refine .mk (fun _=>?_) (fun _=>?_)|refine .inr (X5 (c1.r [0] _) ?_)|refine .inl (.inr (X5 (c1.r [0] _) ?_))|refine .inl (X5 (c1.r [0] _) ?_)|refine .inr (X5 (c4.r [0] _) ?_)|refine .inl (.inr (X5 (c4.r [0] _) ?_))|refine .inl (X5 (c4.r [0] _) ?_)|refine .inl (.inl (X1 (by first|exact c0|exact c2|exact c3) ?_))|refine .inl (X1 (by first|exact c0|exact c2|exact c3) ?_)|refine X1 (by first|exact c0|exact c2|exact c3) ?_|refine .mk ?_ ?_|refine AK ?_|refine AT ?_|fail));all_goals conv=>whnf)
   ((repeat' first|exact rfl|((conv=>whnf);first|done|exact suL|refine And.intro ?_ ?_|fail));all_goals conv=>whnf)
  ·generalize wdE s i=j at *
   generalize wdAt s i=w at *
   refine fn_of_vc (nv:=9999) (cu:=[]) fits mixed Tryz.func130 rfl hoB rfl rfl rfl rfl ?_
   ((repeat' ((conv=>whnf);first|exact .intro|refine .ya ?_|refine .na ?_|refine .ys ?_|refine .ns ?_|refine .neg (fun _=>?_) (fun _=>?_)|refine .mk (fun _=>?_) (fun _=>?_)|refine .inr (X5 (c1.r [0] _) ?_)|refine .inl (.inr (X5 (c1.r [0] _) ?_))|refine .inl (X5 (c1.r [0] _) ?_)|refine .inr (X5 (c4.r [0] _) ?_)|refine .inl (.inr (X5 (c4.r [0] _) ?_))|refine .inl (X5 (c4.r [0] _) ?_)|refine .inl (.inl (X1 (by first|exact c0|exact c2) ?_))|refine .inl (X1 (by first|exact c0|exact c2) ?_)|refine X1 (by first|exact c0|exact c2) ?_|refine .mk ?_ ?_|refine AK ?_|refine AT ?_|fail));all_goals conv=>whnf)
   ((repeat' first|exact rfl|((conv=>whnf);first|done|exact suL|refine And.intro ?_ ?_|fail));all_goals conv=>whnf)
 ·have h6:¬ ((wdE s i:Nat):Int)<((s.length:Nat):Int):=by omega
  generalize wdE s i=j at *
  generalize wdAt s i=w at *
  refine fn_of_vc (nv:=9999) (cu:=[]) fits mixed Tryz.func130 rfl hoB rfl rfl rfl rfl ?_
  ((repeat' ((conv=>whnf);first|exact .intro|refine .ya ?_|refine .na ?_|refine .ys ?_|refine .ns ?_|refine .neg (fun _=>?_) (fun _=>?_)|refine .mk (fun _=>?_) (fun _=>?_)|refine .inr (X5 (c1.r [0] _) ?_)|refine .inl (.inr (X5 (c1.r [0] _) ?_))|refine .inl (X5 (c1.r [0] _) ?_)|refine .inr (X5 (c4.r [0] _) ?_)|refine .inl (.inr (X5 (c4.r [0] _) ?_))|refine .inl (X5 (c4.r [0] _) ?_)|refine .inl (.inl (X1 (by first|exact c0|exact c2) ?_))|refine .inl (X1 (by first|exact c0|exact c2) ?_)|refine X1 (by first|exact c0|exact c2) ?_|refine .mk ?_ ?_|refine AK ?_|refine AT ?_|fail));all_goals conv=>whnf)
  ((repeat' first|exact rfl|((conv=>whnf);first|done|exact suL|refine And.intro ?_ ?_|fail));all_goals conv=>whnf)
end Go.Proofs.YtcdjjjokniinkaaGreatDoor
end
