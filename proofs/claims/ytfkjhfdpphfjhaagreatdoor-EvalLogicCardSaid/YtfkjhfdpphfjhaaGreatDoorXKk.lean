/- Proved: a part of what the law is proved with (the reckoner, contracts of functions, plain laws). Conditions: as each says. -/
import Derived.Shelf.Strings.BuilderK
import Derived.Deep.WholeRow
import Derived.Test.YtfkjhfdpphfjhaaGreatDoorXEq
import Derived.Test.YtfkjhfdpphfjhaaGreatDoorXKg
import Derived.Test.YtfkjhfdpphfjhaaGreatDoorXLaysB
namespace Go.Proofs.YtfkjhfdpphfjhaaGreatDoor
open Go Go.EYtfkjhfdpphfjhaaGreatDoor
set_option maxRecDepth 100000
section
set_option maxHeartbeats 4000000
variable {gl:List (Nat×List D)}
theorem write_7 (m:Int) (t:List UInt8) (a b:Rf) (x:Nd) (hw:WrOk gl x) (hl:(wrN x).length+3≤cntN x * 2097200):WrOk gl (.mk 7 m t a b [x]):=by
 intro s hs
 have hc:cntN (.mk 7 m t a b [x])=cntN x+0+1:=rfl
 rw[hc] at hs
 have c1:=WriteByte_d (gl:=gl) (.inr rfl) s 45 (by omega)
 have c2:=tight_d (gl:=gl) x
 have c3:=brackets_d hw hl (tgtN x<5) (s++[45]) (by rw[List.length_append,List.length_singleton];omega)
 rw[show s++wrN (.mk 7 m t a b [x])=s++[45]++brN (wrN x) (tgtN x<5) by rw[wrN,if_neg (by decide),if_neg (by decide),if_neg (by decide),if_neg (by decide),if_neg (by decide),if_neg (by decide),if_pos rfl];simp[wr7,wrL]]
 obtain ⟨kx,mx,tx,ax,bx',sx⟩:=x
 have g1:(Nd.csL [.mk kx mx tx ax bx' sx])[(0:Int).toNat]?=some [iD kx,iD mx,.str tx,iD ax.c,iD ax.r,tD ax.fc,tD ax.fr,iD bx'.c,iD bx'.r,tD bx'.fc,tD bx'.fr,.lst 12 (Nd.csL sx)]:=rfl
 refine S1 Tryz.func104 rfl ?_
 ((repeat' ((conv=>whnf);first|exact .intro|refine G ?_|intro _|refine C5 c1 [0,1] ?_|refine C5 c3 [0,1] ?_|refine C1 c2 ?_|(refine ⟨Int.le_refl _,_,g1,?_⟩)|refine .mk ?_ ?_|refine H ?_|fail));all_goals conv=>whnf)
 all_goals ((repeat' first|exact rfl|((conv=>whnf);first|done|exact suL|refine And.intro ?_ ?_|fail));all_goals conv=>whnf)
theorem write_8 (m:Int) (t:List UInt8) (a b:Rf) (x y:Nd) (hm:1≤m∧m≤11) (hw:WrOk gl x) (hl:(wrN x).length+3≤cntN x * 2097200) (hw':WrOk gl y) (hl':(wrN y).length+3≤cntN y * 2097200):WrOk gl (.mk 8 m t a b [x,y]):=by
 intro s hs
 have hc:cntN (.mk 8 m t a b [x,y])=cntN x+(cntN y+0)+1:=rfl
 rw[hc] at hs
 obtain ⟨tg,htg⟩:∃ z,tgtN (.mk 8 m t a b [x,y])=z:=⟨_,rfl⟩
 have c0:=tight_d (gl:=gl) (.mk 8 m t a b [x,y])
 rw[htg] at c0
 have c1:=tight_d (gl:=gl) x
 have c2:=tight_d (gl:=gl) y
 have b1:=brN_len (wrN x) (tgtN x<tg)
 have b2:=sgnN_len hm
 have c3:=brackets_d hw hl (tgtN x<tg) s (by omega)
 have c4:=sgn_d (gl:=gl) m hm
 have c5:=WriteString_d (gl:=gl) (.inr rfl) (s++brN (wrN x) (tgtN x<tg)) (sgnN m) (by rw[List.length_append];omega)
 have c6:=brackets_d hw' hl' (tgtN y≤tg) (s++brN (wrN x) (tgtN x<tg)++sgnN m) (by rw[List.length_append,List.length_append];omega)
 rw[show s++wrN (.mk 8 m t a b [x,y])=s++brN (wrN x) (tgtN x<tg)++sgnN m++brN (wrN y) (tgtN y≤tg) by rw[wrN,if_neg (by decide),if_neg (by decide),if_neg (by decide),if_neg (by decide),if_neg (by decide),if_neg (by decide),if_neg (by decide),if_pos rfl,htg];simp[wr8,wrL]]
 clear hw hw' hl hl' hs hc
 obtain ⟨kx,mx,tx,ax,bx',sx⟩:=x
 obtain ⟨ky,my,ty,ay,by',sy⟩:=y
 have g1:(Nd.csL [.mk kx mx tx ax bx' sx,.mk ky my ty ay by' sy])[(0:Int).toNat]?=some [iD kx,iD mx,.str tx,iD ax.c,iD ax.r,tD ax.fc,tD ax.fr,iD bx'.c,iD bx'.r,tD bx'.fc,tD bx'.fr,.lst 12 (Nd.csL sx)]:=rfl
 have g2:(Nd.csL [.mk kx mx tx ax bx' sx,.mk ky my ty ay by' sy])[(1:Int).toNat]?=some [iD ky,iD my,.str ty,iD ay.c,iD ay.r,tD ay.fc,tD ay.fr,iD by'.c,iD by'.r,tD by'.fc,tD by'.fr,.lst 12 (Nd.csL sy)]:=rfl
 refine fn_of_vc (nv:=9999) (cu:=[22]) fits mixed Tryz.func104 rfl hoB rfl rfl rfl rfl ?_
 ((repeat' ((conv=>whnf);first|exact .intro|refine G ?_|intro _|refine .mk ?_ ?_|refine H ?_|fail));all_goals conv=>whnf)
 refine ⟨{ σ:=Unit,fr:=fun _=>[],ks:=[1],L:=fun _=>[(1,bytB (s++brN (wrN (.mk kx mx tx ax bx' sx)) (tgtN (.mk kx mx tx ax bx' sx)<tg)))],ex:=0,I:=fun _=>True,μ:=fun _=>0 },?_,fun _ _=>?_⟩
 ·((repeat' ((conv=>whnf);first|exact .intro|refine G ?_|intro _|refine C5 c3 [0,1] ?_|refine C1 c0 ?_|refine C1 c1 ?_|refine C1 c2 ?_|(refine ⟨Int.le_refl _,_,g1,?_⟩)|refine .mk ?_ ?_|refine H ?_|fail));all_goals conv=>whnf)
  all_goals refine ⟨(),trivial,?_⟩
  all_goals ((repeat' first|exact rfl|((conv=>whnf);first|done|exact suL|refine And.intro ?_ ?_|fail));all_goals conv=>whnf)
 ·((repeat' ((conv=>whnf);first|exact .intro|refine G ?_|intro _|refine C5 c5 [0,1] ?_|refine C5 c6 [0,1] ?_|refine C1 c0 ?_|refine C1 c2 ?_|refine C1 c4 ?_|(refine ⟨by decide,_,g2,?_⟩)|refine .mk ?_ ?_|refine H ?_|fail));all_goals conv=>whnf)
  all_goals ((repeat' first|exact rfl|((conv=>whnf);first|done|exact suL|refine And.intro ?_ ?_|fail));all_goals conv=>whnf)
end
section
set_option maxHeartbeats 4000000
variable {gl:List (Nat×List D)}
theorem com_snoc (l:List (List UInt8)) (w:List UInt8):comN (l++[w])=comN l++(if l.length=0 then [] else [44])++w:=by
 cases l with
 | nil=>simp[comN]
 | cons s r=>simp[comN]
theorem wrL_take:∀ (ks:List Nd) (x:Nat),wrL (ks.take x)=(wrL ks).take x
 | [],x=>by simp[wrL]
 | y::r,0=>by simp[wrL]
 | y::r,x+1=>by simp[wrL,wrL_take r x]
theorem wrL_succ {ks:List Nd} {x:Nat} (h:x<ks.length):wrL (ks.take (x+1))=wrL (ks.take x)++[wrN ks[x]]:=by
 rw[wrL_take,wrL_take,List.take_succ_eq_append_getElem (by rw[wrL_len];exact h),wrL_get h]
theorem sum_len:∀ l:List Nd,(∀ x (h:x<l.length),(wrN l[x]).length+3≤cntN l[x] * 2097200)→((wrL l).map fun t=>t.length+1).sum≤cntL l * 2097200
 | [],_=>by simp[wrL]
 | y::r,hl=>by
  have h3:=hl 0 (by simp)
  have h4:=sum_len r fun x h=>hl (x+1) (by simpa using h)
  simp only[wrL,cntL,List.map_cons,List.sum_cons,List.getElem_cons_zero] at *
  omega
theorem write_9 (m:Int) (t:List UInt8) (a b:Rf) (ks:List Nd) (ht:t.length≤1048576) (hw:∀ x (h:x<ks.length),WrOk gl ks[x]) (hl:∀ x (h:x<ks.length),(wrN ks[x]).length+3≤cntN ks[x] * 2097200):WrOk gl (.mk 9 m t a b ks):=by
 intro s hs
 have hc:cntN (.mk 9 m t a b ks)=cntL ks+1:=rfl
 rw[hc] at hs
 have hlen:=kid_len ks
 have hkc:=len_cnt ks
 have q1:t.length+1≤9223372036854775807:=by omega
 have c1:=WriteString_d (gl:=gl) (.inr rfl) s (t++[40]) (by rw[List.length_append,List.length_singleton];omega)
 have com:∀ x,(comN (wrL (ks.take x))).length≤cntL (ks.take x) * 2097200:=fun x=>Nat.le_trans (com_len _) (sum_len _ fun y hy=>by
  rw[List.getElem_take]
  exact hl y (by rw[List.length_take] at hy;omega))
 rw[show s++wrN (.mk 9 m t a b ks)=s++(t++[40])++comN (wrL (ks.take ks.length))++[41] by rw[List.take_length,wrN,if_neg (by decide),if_neg (by decide),if_neg (by decide),if_neg (by decide),if_neg (by decide),if_neg (by decide),if_neg (by decide),if_neg (by decide),if_pos rfl];simp]
 refine S1 Tryz.func104 rfl ?_
 ((repeat' ((conv=>whnf);first|exact .intro|refine G ?_|intro _|refine C5 c1 [0,1] ?_|(refine ⟨q1,?_⟩)|refine .mk ?_ ?_|refine H ?_|fail));all_goals conv=>whnf)
 refine ⟨{ σ:=Nat,fr:=fun x=>[(130,.c (.d (iD (x:Int))))],ks:=[1],L:=fun x=>[(1,bytB (s++(t++[40])++comN (wrL (ks.take x))))],ex:=0,I:=fun x=>x≤ks.length,μ:=fun x=>ks.length - x },⟨0,Nat.zero_le _,?_⟩,fun (x:Nat) hx=>?_⟩
 ·((repeat' first|exact rfl|((conv=>whnf);first|done|exact suL|refine And.intro ?_ ?_|fail));all_goals conv=>whnf)
  simp[wrL,comN]
 ·replace hx:x≤ks.length:=hx
  have hcx:=com x
  have hls:(s++(t++[40])++comN (wrL (ks.take x))).length=s.length+(t.length+1)+(comN (wrL (ks.take x))).length:=by rw[List.length_append,List.length_append,List.length_append,List.length_singleton]
  by_cases hlt:x<ks.length
  ·have h2:(x:Int)<((Nd.csL ks).length:Nat):=by omega
   have g1:=kid_get hlt
   have hct:=cntL_take hlt
   have hcl:=cntL_le ks (x+1)
   have hlx:=hl x hlt
   have e0:IntKind.i64.wrap ((x:Int)+1)=((x+1:Nat):Int):=by rw[wrapI (by omega)];rfl
   have hsn:=com_snoc (wrL (ks.take x)) (wrN ks[x])
   rw[← wrL_succ hlt,wrL_len,List.length_take,Nat.min_eq_left hx] at hsn
   have c2:=WriteByte_d (gl:=gl) (.inr rfl) (s++(t++[40])++comN (wrL (ks.take x))) 44 (by omega)
   have hwx:=hw x hlt
   generalize ks[x]=q at *
   obtain ⟨k1,m1,t1,a1,b1,ks1⟩:=q
   change (Nd.csL ks)[((x:Nat):Int).toNat]?=some [iD k1,iD m1,.str t1,iD a1.c,iD a1.r,tD a1.fc,tD a1.fr,iD b1.c,iD b1.r,tD b1.fc,tD b1.fr,.lst 12 (Nd.csL ks1)] at g1
   by_cases h0:x=0
   ·subst h0
    rw[if_pos rfl,List.append_nil] at hsn
    have hp:¬ ((0:Nat):Int)>0:=by decide
    have c3:=hwx (s++(t++[40])++comN (wrL (ks.take 0))) (by omega)
    ((repeat' ((conv=>whnf);first|exact .intro|refine G ?_|intro _|refine C5 c3 [0,1] ?_|(refine ⟨Int.natCast_nonneg _,_,g1,?_⟩)|refine .mk ?_ ?_|refine H ?_|fail));all_goals conv=>whnf)
    refine ⟨0+1,⟨hlt,by show ks.length - (0+1)<ks.length - 0;omega⟩,?_⟩
    ((repeat' first|exact rfl|((conv=>whnf);first|done|exact suL|refine And.intro ?_ ?_|fail));all_goals conv=>whnf)
    rw[hsn];simp only[List.append_assoc]
   ·rw[if_neg h0] at hsn
    have hp:(x:Int)>0:=by omega
    have c3:=hwx (s++(t++[40])++comN (wrL (ks.take x))++[44]) (by rw[List.length_append,List.length_singleton];omega)
    ((repeat' ((conv=>whnf);first|exact .intro|refine G ?_|intro _|refine C5 c2 [0,1] ?_|refine C5 c3 [0,1] ?_|(refine ⟨Int.natCast_nonneg _,_,g1,?_⟩)|refine .mk ?_ ?_|refine H ?_|fail));all_goals conv=>whnf)
    refine ⟨x+1,⟨hlt,by show ks.length - (x+1)<ks.length - x;omega⟩,?_⟩
    ((repeat' first|exact rfl|((conv=>whnf);first|done|exact suL|refine And.intro ?_ ?_|fail));all_goals conv=>whnf)
    ·exact ceq e0
    ·rw[hsn];simp only[List.append_assoc]
  ·have h2:¬ (x:Int)<((Nd.csL ks).length:Nat):=by omega
   obtain rfl:x=ks.length:=by omega
   have hcl:=cntL_le ks ks.length
   have c2:=WriteByte_d (gl:=gl) (.inr rfl) (s++(t++[40])++comN (wrL (ks.take ks.length))) 41 (by omega)
   ((repeat' ((conv=>whnf);first|exact .intro|refine G ?_|intro _|refine C5 c2 [0,1] ?_|refine .mk ?_ ?_|refine H ?_|fail));all_goals conv=>whnf)
   ((repeat' first|exact rfl|((conv=>whnf);first|done|exact suL|refine And.intro ?_ ?_|fail));all_goals conv=>whnf)
end
section
variable {gl:List (Nat×List D)}
theorem write_d (te:TypeId) (pe:Value) (hV:Has gl (glV te pe)) {mx:Int} (hm:Go.EYtfkjhfdpphfjhaaGreatDoor.look gl 4=some [iD mx]) (n:Nd):∀ {box:Prop},frmN n box→okN n→WrOk gl n:=by
 match n with
 | .mk k m t a b ks =>
  intro box hf ho
  have ih:∀ x (h:x<ks.length),∀ {box:Prop},frmN ks[x] box→okN ks[x]→WrOk gl ks[x]:=fun x h=>write_d te pe hV hm ks[x]
  by_cases hk:k<1∨9<k
  ·exact absurd hf (frm_0 hk)
  by_cases h6:k≤6
  ·exact write_leaf te pe hV hm k m t a b ks ⟨by omega,h6⟩ hf ho
  have hok:=ho.2.2
  have hk':k=7∨k=8∨k=9:=by omega
  rcases hk' with rfl|rfl|rfl
  ·rw[frm_7] at hf
   obtain ⟨x,rfl⟩:=List.length_eq_one_iff.1 hf.1
   have h1:=frmL_iff.1 hf.2.2.2.2 0 (by simp)
   have h2:=okL_get hok (x:=0) (by simp)
   exact write_7 m t a b x (ih 0 (by simp) h1 h2) (wr_len x h1 h2)
  ·rw[frm_8] at hf
   obtain ⟨x,y,rfl⟩:∃ x y,ks=[x,y]:=by
    match ks,hf.1 with
    | [x,y],_=>exact ⟨x,y,rfl⟩
   have h1:=frmL_iff.1 hf.2.2.2.2.2 0 (by simp)
   have h2:=okL_get hok (x:=0) (by simp)
   have h3:=frmL_iff.1 hf.2.2.2.2.2 1 (by simp)
   have h4:=okL_get hok (x:=1) (by simp)
   exact write_8 m t a b x y ⟨hf.2.2.2.1,hf.2.2.2.2.1⟩ (ih 0 (by simp) h1 h2) (wr_len x h1 h2) (ih 1 (by simp) h3 h4) (wr_len y h3 h4)
  ·rw[frm_9] at hf
   have h1:=frmL_iff.1 hf.2.2.2
   exact write_9 m t a b ks ho.2.1 (fun x h=>ih x h (h1 x h) (okL_get hok h)) (fun x h=>wr_len ks[x] (h1 x h) (okL_get hok h))
termination_by SizeOf.sizeOf n
decreasing_by
 simp only[Nd.mk.sizeOf_spec]
 have:=List.sizeOf_lt_of_mem (List.getElem_mem h)
 omega
end
end Go.Proofs.YtfkjhfdpphfjhaaGreatDoor
namespace Go.EYtfkjhfdpphfjhaaGreatDoor
open Go Go.RowKit
inductive Stp where
 | code (c:Code)
 | cut
def seqs:List Stp→Code→Code
 | [],t=>t
 | .code a::r,t=>.seq a (seqs r t)
 | .cut::r,t=>seqs r t
def vcPre (P:Program) (gl:List (Nat×List D)) (tt:List (Nat×TI)) (fx:List Nat) (N nv:Nat) (cu:List Nat):List Stp→List (Nat×V)→List (Nat×Blk)→Nat→SK→XK→Prop
 | [],fr,L,n,T,_=>T fr L n
 | .code a::r,fr,L,n,T,K=>vcCode P gl tt fx N nv cu a fr L n fun x fr1 L1 n1=>match x with
  | .normal=>vcPre P gl tt fx N nv cu r fr1 L1 n1 T K
  | x=>K x fr1 L1 n1
 | .cut::r,fr,L,n,T,K=>∃ fr' L' n',sub3 fx n fr L n' fr' L'∧vcPre P gl tt fx N nv cu r fr' L' n' T K
section
variable {P:Program} {gl:List (Nat×List D)} {tt:List (Nat×TI)} {M0 S0:Nat→Prop} {w0:Base} {N:Nat} {nv:Nat} {cu:List Nat}
theorem vcPre_ok (hT:Fits P tt) (hm:P.follows .mixedOrders=true) {t:Code} {T:SK} {K:XK} {Q:Exit→Act→World→Prop}
 (ht:∀ fr L n adr a w,T fr L n→Ok gl M0 S0 w0 N adr fr L n a w→t.wp P Q a w)
 (hQ:(∀ id fr L n adr a w,K (.exit id) fr L n→Ok gl M0 S0 w0 N adr fr L n a w→Q (.exit id) a w)∧(∀ l fr L n adr a w,K (.goto l) fr L n→Ok gl M0 S0 w0 N adr fr L n a w→Q (.goto l) a w)∧
  (∀ fr L n adr a w,K .ret fr L n→Ok gl M0 S0 w0 N adr fr L n a w→Q .ret a w)∧PanOk gl M0 S0 w0 N (fun c=>K (.panic c)) Q∧(∀ c a d v w,Q (.panic c) (a.put d v) w→Q (.panic c) a w)) :
 ∀ (l:List Stp) fr L n adr a w,vcPre P gl tt w0.fx N nv cu l fr L n T K→Ok gl M0 S0 w0 N adr fr L n a w→(seqs l t).wp P Q a w
 | [],fr,L,n,adr,a,w,h,hx=>ht _ _ _ _ _ _ h hx
 | .cut::r,fr,L,n,adr,a,w,h,hx=>by
  obtain ⟨fr',L',n',h1,h2⟩:=h
  exact vcPre_ok hT hm ht hQ r _ _ _ _ _ _ h2 (sub3_ok hx h1)
 | .code c::r,fr,L,n,adr,a,w,h,hx=>by
  refine wp_seq (vcCode_ok hT hm c _ _ _ _ _ _ _ _ h hx ⟨?_,?_,?_,?_,?_,?_⟩)
  ·intro fr1 L1 n1 adr1 a1 w1 h1 hx1
   exact vcPre_ok hT hm ht hQ r _ _ _ _ _ _ h1 hx1
  ·intro id fr1 L1 n1 adr1 a1 w1 h1 hx1;exact hQ.1 _ _ _ _ _ _ _ h1 hx1
  ·intro id fr1 L1 n1 adr1 a1 w1 h1 hx1;exact hQ.2.1 _ _ _ _ _ _ _ h1 hx1
  ·intro fr1 L1 n1 adr1 a1 w1 h1 hx1;exact hQ.2.2.1 _ _ _ _ _ _ h1 hx1
  ·exact hQ.2.2.2.1
  ·intro _ c a d v w h;exact hQ.2.2.2.2 c a d v w h
theorem fnP_of_pre (hT:Fits P tt) (hm:P.follows .mixedOrders=true) {f:FuncId} {fn:Func} {l:List Stp} {t:Code} {ds:List D} {r:D} {T:SK} (hf:P.funcs[f]?=some fn) (hb:fn.body=some (seqs l t)) (hB:HasBody P f) (hN:Nat.ble ds.length fn.ntmps=true)
 (ht:∀ (w:World) (M:Nat→Prop) fr L n adr a w',(∀ b,M b→b<w.heap.size)→Glob gl M w→T fr L n→Ok gl M (fun _=>False) ⟨w,fun _=>none,[],[]⟩ fn.ntmps adr fr L n a w'→
  t.wp P (bodyPost P fn fun e w'=>Evo (fun _=>False) w w'∧∃ x,e=.returned x∧DenD M w' r x) a w')
 (h:vsK ds fun vs=>vcPre P gl tt [] fn.ntmps nv cu l (argFr 0 vs) [] 0 T (endP tt fn.results.toList r)):FnP P gl f ds r:=by
 rw[vsK_eq] at h
 intro w M xs hM hg hd
 refine .inl ⟨hB,?_⟩
 have hN':=Nat.le_of_ble_eq_true hN
 have hlen:=All2.length hd
 have hmut:Mut M (fun _=>none) []=M:=by
  funext b
  apply propext
  constructor
  ·rintro (h1|⟨k,B,m,h1,_⟩)
   ·exact h1
   ·cases h1
  ·exact .inl
 have fin:∀ {fr L n adr a w'},vcRes tt L fr fn.results.toList (fun l=>lendVs L l fun ds _=>LeD (retD ds) r)→Ok gl M (fun _=>False) ⟨w,fun _=>none,[],[]⟩ fn.ntmps adr fr L n a w'→
  a.defers=[]∧∃ v,(results fn a.tmps).run P w'=.ok v w'∧(Evo (fun _=>False) w w'∧∃ x,Ending.returned v=.returned x∧DenD M w' r x):=by
  intro fr L n adr a w' hr hx
  obtain ⟨l,ys,hK,h1,h2⟩:=vcRes_ok hT hx hr
  obtain ⟨es,ks,⟨h3,h5⟩,h4⟩:=lendVs_ok (lendVs_look hK)
  refine ⟨hx.defers,_,run_results h1,hx.base,_,rfl,?_⟩
  refine h3.out _ _ _ (retD_den (h4 M adr n w' ys M hx.wok h2 (fun b _ hb=>.inl hb) (fun k hk b m ha hb=>?_)))
  have hlt:=hM b hb
  obtain ⟨B,hB'⟩:=Option.isSome_iff_exists.1 (h5 k hk)
  exact hx.wok.prot k B b m hB' ha hb
 refine calls_of_wp hf hb (vcPre_ok (M0:=M) (S0:=fun _=>False) (w0:=⟨w,fun _=>none,[],[]⟩) hT hm (fun fr L n adr a w' h1 h2=>ht w M fr L n adr a w' hM hg h1 h2) ⟨?_,?_,?_,?_,?_⟩ l _ _ _ (fun _=>none) _ w h ⟨?_,rfl,fun t s hl=>?_,⟨(fun k B hk=>by cases hk),(fun _ _=>rfl),(fun k B hk=>by cases hk),(fun k k' B B' b m m' hk=>by cases hk),(fun k B b m hk=>by cases hk),hM⟩,by rw[hmut];exact hg,Evo.refl _ _,(fun k B b m hk=>by cases hk),(fun k hk=>by simp at hk)⟩)
 ·intro id fr L n adr a w' hk hx;exact hk.elim
 ·intro id fr L n adr a w' hk hx;exact hk.elim
 ·intro fr L n adr a w' hk hx;exact fin hk hx
 ·intro c fr L n adr x a w' hk hx hd;exact hk.elim
 ·intro c a d v w h;cases d <;> exact h
 ·simp;omega
 ·obtain ⟨_,h2⟩:=look_argFr hl
  simp only[Nat.sub_zero] at h2
  rw[List.getElem?_map] at h2
  obtain ⟨d,hd1,rfl⟩:=Option.map_eq_some_iff.1 h2
  obtain ⟨x,hx1,hx2⟩:=All2.get hd hd1
  have hlt:t<xs.length:=(List.getElem?_eq_some_iff.1 hx1).1
  rw[Array.getD_eq_getD_getElem?,Array.getElem?_append_left (by simpa using hlt)]
  rw[hmut]
  simp only[List.getElem?_toArray,hx1,Option.getD_some]
  exact vD_den hx2
theorem Evo.thenB {w w' w1:World} (h:Evo (fun _=>False) w w') (hb:Below w.heap.size w' w1):Evo (fun _=>False) w w1 :=
 ⟨hb.os.trans h.os,hb.tape.trans h.tape,hb.output.trans h.output,Nat.le_trans h.size hb.size,fun b hlt hn=>(hb.block b hlt).trans (h.block b hlt hn),fun b cur e f hc=>by
  have hlt:=(Array.getElem?_eq_some_iff.1 hc).1
  exact ⟨cur,((hb.block b hlt).trans (h.block b hlt fun h=>h)).trans hc,rfl⟩⟩
theorem FnP.callsE {g:Nat} {ds:List D} {r:D} {xs:List Value} {w:World} {M:Nat→Prop} (h:FnP P gl g ds r) (hb:HasBody P g) (hM:∀ b,M b→b<w.heap.size) (hg:Glob gl M w) (hd:DenL M w ds xs) :
 Calls P g xs.toArray w fun e w'=>Evo (fun _=>False) w w'∧∃ x,e=.returned x∧DenD M w' r x:=by
 rcases h w M xs hM hg hd with ⟨_,h1⟩|⟨v,w',h1,h2⟩
 ·exact h1
 ·rw[hb.enters] at h1;cases h1
end
end Go.EYtfkjhfdpphfjhaaGreatDoor
namespace Go.Proofs.YtfkjhfdpphfjhaaGreatDoor
open Go Go.EYtfkjhfdpphfjhaaGreatDoor
set_option maxRecDepth 100000
set_option maxHeartbeats 4000000
variable {gl:List (Nat×List D)}
theorem Print_k (n:Nd) (h:¬ cntN n≤200):FnP Tryz.prog gl 58 [.agg n.cs] (.tup [.str [],erD 4]):=by
 have c1:=count_d (gl:=gl) n 200 (Nat.le_refl _)
 rw[decide_eq_false h,if_neg h] at c1
 obtain ⟨k,m,t,a,b,ks⟩:=n
 refine S0 Tryz.func58 rfl ?_
 ((repeat' ((conv=>whnf);first|exact .intro|refine G ?_|intro _|refine C5 c1 [1] ?_|refine .mk ?_ ?_|refine H ?_|fail));all_goals conv=>whnf)
 exact LeD.rfl
theorem Print_f (n:Nd) (h:cntN n≤200) (hf:¬ frmN n (false=true)):FnP Tryz.prog gl 58 [.agg n.cs] (.tup [.str [],erD 2]):=by
 have c1:=count_d (gl:=gl) n 200 (Nat.le_refl _)
 rw[decide_eq_true h,if_pos h] at c1
 have c2:=form_d (gl:=gl) n false
 obtain ⟨k,m,t,a,b,ks⟩:=n
 refine S0 Tryz.func58 rfl ?_
 ((repeat' ((conv=>whnf);first|exact .intro|refine G ?_|intro _|refine C5 c1 [1] ?_|refine C1 c2 ?_|refine .mk ?_ ?_|refine H ?_|fail));all_goals conv=>whnf)
 exact LeD.rfl
theorem xtra169:Builder.Extra Tryz.prog Tryz.lays169_ren:={ sizeBuilder:=by kernel_rfl,liesBuilder:=by kernel_rfl,t5:=Tryz.underlying5,a5:=Tryz.isAgg5,z5:=Tryz.sizeOf5,v5:=Tryz.zeroValue5,infoByte:=by kernel_rfl,cellsByte:=by kernel_rfl,sizeByte:=by kernel_rfl,neB5:=by decide }
theorem bytes_den {M:Nat→Prop} {w:World}:∀ {l:List UInt8} {xs:List Value},DenL M w (l.map u8D).flatten xs→xs=Lib.byteCells l
 | [],[],_=>rfl
 | [],_::_,h=>h.elim
 | _::_,[],h=>h.elim
 | b::l,x::xs,⟨h1,h2⟩=>by
  rw[h1.v_inv,bytes_den h2]
  rfl
theorem nod12 {M:Nat→Prop} {w:World} {n:Nd} {z:Value} (h:DenD M w (.agg n.cs) z):∃ c:Array Value,z=.agg c∧c.size=12∧c.all (·.oneCell')=true:=by
 obtain ⟨k,m,t,a,b,ks⟩:=n
 obtain ⟨xs,rfl,hx⟩:=h.agg_inv
 match xs,hx with
 | [a0,a1,a2,a3,a4,a5,a6,a7,a8,a9,a10,a11],⟨h0,h1,h2,h3,h4,h5,h6,h7,h8,h9,h10,h11,_⟩ =>
  refine ⟨_,rfl,rfl,?_⟩
  simp only[List.all_toArray,List.all_cons,List.all_nil,h0.one rfl,h1.one rfl,h2.one rfl,h3.one rfl,h4.one rfl,h5.one rfl,h6.one rfl,h7.one rfl,h8.one rfl,h9.one rfl,h10.one rfl,h11.one rfl,Bool.and_self]
theorem den_tup2 {M:Nat→Prop} {w:World} {d1 d2:D} {x1 x2:Value} (h1:DenD M w d1 x1) (h2:DenD M w d2 x2):DenD M w (.tup [d1,d2]) (.tuple #[x1,x2]) :=
 have h:All2 (DenD M w) [d1,d2] [x1,x2]:=⟨h1,h2,trivial⟩
 .tup [d1,d2] [x1,x2] rfl fun j d x=>h.get2 j d x
theorem isB_keep {T e:TypeId} {B b:Nat} {l:List Value} {w w':World} (h:Lib.IsBuilderF T e B b l w) (hk:∀ k,k<w.heap.size→w'.heap[k]?=w.heap[k]?):Lib.IsBuilderF T e B b l w':=by
 have key:∀ {p:Value},Lib.BuilderAtF T e B b p l w→Lib.BuilderAtF T e B b p l w':=by
  rintro p ⟨h1,v,h2,⟨h3,h4⟩,h5⟩
  refine ⟨h1,v,(hk b (Array.getElem?_eq_some_iff.1 h2).1).trans h2,⟨h3,?_⟩,h5⟩
  rcases h4 with h4|⟨g,cap,cur,fz,q1,q2,q3,q4⟩
  ·exact .inl h4
  ·exact .inr ⟨g,cap,cur,fz,q1,q2,(hk g (Array.getElem?_eq_some_iff.1 q3).1).trans q3,q4⟩
 exact h.elim (fun x=>.inl (key x)) fun x=>.inr (key x)
theorem Print_w (te:TypeId) (pe:Value) (hV:Has gl (glV te pe)) (hl:Go.EYtfkjhfdpphfjhaaGreatDoor.look gl 0=some lvAll) {rf:List UInt8→Option Rf} (hR:RefsOk rf) {mx:Int} (hm:Go.EYtfkjhfdpphfjhaaGreatDoor.look gl 4=some [iD mx]) (n:Nd) (h:cntN n≤200) (hf:frmN n (false=true)) (ho:okN n) :
 FnP Tryz.prog gl 58 [.agg n.cs] (match parseZ rf (61::wrN n) with|.ok _ _=>.tup [.str (61::wrN n),.v .nilIface]|.no _ _=>.tup [.str [],erD 4]):=by
 have c1:=count_d (gl:=gl) n 200 (Nat.le_refl _)
 rw[decide_eq_true h,if_pos h] at c1
 have c2:=form_d (gl:=gl) n false
 have c3:=WriteByte_d (gl:=gl) (.inl rfl) [] 61 (by decide)
 have c4:=write_d te pe hV hm n hf ho [61] (by simp only[List.length_singleton];omega)
 obtain ⟨k,m,t,a_,b,ks⟩:=n
 obtain ⟨rz,hrz⟩:∃ rz:D,rz=(match parseZ rf (61::wrN (.mk k m t a_ b ks)) with|.ok _ _=>.tup [.str (61::wrN (.mk k m t a_ b ks)),.v .nilIface]|.no _ _=>.tup [.str [],erD 4]):=⟨_,rfl⟩
 rw[← hrz]
 refine fnP_of_pre (nv:=9999) (cu:=[]) (l:=[.code _,.code _,.code _,.code _,.code _,.cut,.code _,.code _]) (T:=fun fr L _=>Go.EYtfkjhfdpphfjhaaGreatDoor.look fr 5=some (.c (.ptr 2 0))∧Go.EYtfkjhfdpphfjhaaGreatDoor.look L 2=some (.var [.ptr 2 0,.all 1 3] 156)∧Go.EYtfkjhfdpphfjhaaGreatDoor.look L 3=some (.rows 1 ((61::wrN (.mk k m t a_ b ks)).map u8D) 5)) fits mixed Tryz.func58 rfl hoB rfl ?_ ?_
 ·intro w M fr L nn adr a w' hM hg0 ⟨h5,hb,hr⟩ hx
  have hnil:a.defers=[]:=hx.defers
  obtain ⟨b0,m0,ha,hv⟩:=hx.fr 5 _ h5
  have hloc2:=hx.wok.loc 2 _ hb
  have hloc3:=hx.wok.loc 3 _ hr
  rw[ha] at hloc2
  obtain ⟨ys,g1,g2⟩:=hloc2
  obtain ⟨y0,y1,rfl,g3,g4⟩:∃ y0 y1,ys=[y0,y1]∧DenC adr (Mut M adr L) w' (.ptr 2 0) y0∧DenC adr (Mut M adr L) w' (.all 1 3) y1:=by
   match ys,g2 with
   | [y0,y1],g2=>exact ⟨y0,y1,rfl,g2.1,g2.2.1⟩
  obtain ⟨b',m',ha',rfl⟩:=g3
  rw[ha] at ha'
  cases ha'
  have hBb:w.heap.size≤b0:=by
   rcases hx.new 2 _ b0 m0 hb ha with h|h
   ·exact h.elim
   ·exact h
  have hB:Lib.IsBuilderF 156 5 w.heap.size b0 (Lib.byteCells (61::wrN (.mk k m t a_ b ks))) w':=by
   rcases g4 with ⟨e1,-⟩|⟨b3,n3,c3_,cur,e3,f3,e1,e2,e4,e5,e6,rfl⟩
   ·rw[e1] at hloc3
    cases hloc3.2.1
   ·rw[e1] at hloc3
    obtain ⟨-,q2,-,cur2,c2_,q4,q5,q6,q7,q8⟩:=hloc3
    have hne:b3≠b0:=by
     rintro rfl
     cases hx.wok.inj 2 3 _ _ _ _ _ hb hr ha e1
    have hBr:w.heap.size≤b3:=by
     rcases hx.new 3 _ b3 n3 hr e1 with h|h
     ·exact h.elim
     ·exact h
    rw[q4] at e2
    cases e2
    have hq:=bytes_den q8
    simp only[List.length_map,Nat.mul_one] at q2 q5 q6 hq
    refine Lib.IsBuilderF.of (.inr ⟨hBb,_,g1,⟨by simp[Lib.byteCells],.inr ⟨b3,_,cur,by rw[← q2];simp[Lib.byteCells],hBr,q4,by simp only[Lib.byteCells,List.length_map];omega,e6,by omega,?_⟩⟩,?_⟩)
    ·simp only[Lib.byteCells,List.length_map,Nat.mul_one]
     exact hq
    ·intro h
     cases h
     exact hne rfl
  have hsz:=hx.base.size
  have hsize:=hx.size
  have hg:=hx.glob
  obtain ⟨⟨tm⟩,df⟩:=a
  simp only at hnil
  subst hnil
  match tm,hsize with
  | [x0,x1,x2,x3,x4,x5,x6,x7,x8,x9,x10,x11,x12,x13,x14,x15,x16,x17,x18,x19,x20,x21,x22,x23,x24,x25,x26,x27,x28,x29],_ =>
   have hv5:x5=.pointer (some ⟨b0,0,none⟩):=hv
   subst hv5
   go_wp2_with (go_at_call 105;refine (Any.Builder_String_any_k Tryz.lays169 xtra169 w.heap.size b0 (61::wrN (.mk k m t a_ b ks)) w' hB hsz).mono ?_;rintro e w1 ⟨rfl,hB1,hb1,ho1⟩)
   have hE1:=hx.base.thenB hb1
   have hM1:∀ b,M b→b<w1.heap.size:=fun b hb=>Nat.lt_of_lt_of_le (hM b hb) hE1.size
   have hg1:Glob gl M w1:=hg0.evo hE1 (fun _ _ h=>h.elim) fun _ _ h=>h
   have hP:=(Parse_d te pe hV hl hR (61::wrN (.mk k m t a_ b ks))).callsE (M:=M) (xs:=[.string ⟨(61::wrN (.mk k m t a_ b ks)).toArray⟩]) hoB hM1 hg1 ⟨.str _,trivial⟩
   refine hP.mono ?_
   rintro e w2 ⟨hE2,x,rfl,hx2⟩
   have hE2':Evo (fun _=>False) w1 w2:=hE2
   cases hp:parseZ rf (61::wrN (.mk k m t a_ b ks)) with
   | no q e =>
    rw[hp] at hx2
    obtain ⟨xs,rfl,hxs⟩:=DenD.tup_inv hx2
    match xs,hxs with
    | [z0,z1,z2],⟨hn,_,hz,_⟩ =>
    cases hz.v_inv
    obtain ⟨c,rfl,hc12,hone⟩:=nod12 hn
    have hst:(storeCells ⟨w2.heap.size,0,none⟩ c.toList 0).run Tryz.prog (w2.alloc (.cells #[.int .i64 0,.int .i64 0,.string ⟨#[]⟩,.int .i64 0,.int .i64 0,.bool false,.bool false,.int .i64 0,.int .i64 0,.bool false,.bool false,.slice none 0 0] 28))=.ok () (w2.alloc (.cells c 28)) :=
     run_storeCells_new w2 28 _ c (by rw[hc12];rfl) (by rw[hc12];rfl) hone
    go_wp2
    rw[hp] at hrz
    subst hrz
    exact ⟨rfl,_,run_results (xs:=[_,_]) rfl,(hE1.trans hE2').trans (Evo.alloc _ _ _),_,rfl,den_tup2 (.str _) (.v _)⟩
   | ok n' q =>
    rw[hp] at hx2
    obtain ⟨xs,rfl,hxs⟩:=DenD.tup_inv hx2
    match xs,hxs with
    | [z0,z1,z2],⟨hn,_,hz,_⟩ =>
    cases hz.v_inv
    obtain ⟨c,rfl,hc12,hone⟩:=nod12 hn
    have hst:(storeCells ⟨w2.heap.size,0,none⟩ c.toList 0).run Tryz.prog (w2.alloc (.cells #[.int .i64 0,.int .i64 0,.string ⟨#[]⟩,.int .i64 0,.int .i64 0,.bool false,.bool false,.int .i64 0,.int .i64 0,.bool false,.bool false,.slice none 0 0] 28))=.ok () (w2.alloc (.cells c 28)) :=
     run_storeCells_new w2 28 _ c (by rw[hc12];rfl) (by rw[hc12];rfl) hone
    have hB2:=isB_keep hB1 (w':=w2.alloc (.cells c 28)) fun k hk=>((Evo.alloc (fun _=>False) w2 (.cells c 28)).block k (Nat.lt_of_lt_of_le hk hE2.size) fun h=>h).trans (hE2.block k hk fun h=>h)
    have hE3:=(hE1.trans hE2').trans (Evo.alloc (fun _=>False) w2 (.cells c 28))
    go_wp2_with (go_at_call 105;refine (Any.Builder_String_any_k Tryz.lays169 xtra169 w.heap.size b0 (61::wrN (.mk k m t a_ b ks)) (w2.alloc (.cells c 28)) hB2 hE3.size).mono ?_;rintro e w4 ⟨rfl,-,hb4,-⟩)
    rw[hp] at hrz
    subst hrz
    exact ⟨rfl,_,run_results (xs:=[_,_]) rfl,hE3.thenB hb4,_,rfl,den_tup2 (.str _) (.v _)⟩
 ·((repeat' ((conv=>whnf);first|exact .intro|refine G ?_|intro _|refine C5 c1 [1] ?_|refine C1 c2 ?_|refine .mk ?_ ?_|refine H ?_|fail));all_goals conv=>whnf)
  refine ⟨[(1,.c (.ptr 0 0)),(5,.c (.ptr 2 0))],[(0,nodB (.mk k m t a_ b ks)),(2,.var [.d (.v (.pointer none)),.all 1 3] 156),(3,bytB [])],4,?_,?_⟩
  ·((repeat' first|exact rfl|((conv=>whnf);first|done|exact suL|refine And.intro ?_ ?_|fail));all_goals conv=>whnf)
   exact ⟨_,_,rfl,by omega,by omega⟩
  ·clear hrz
   ((repeat' ((conv=>whnf);first|exact .intro|refine G ?_|intro _|refine C5 c3 [2,3] ?_|refine C5 c4 [2,3] ?_|refine .mk ?_ ?_|refine H ?_|fail));all_goals conv=>whnf)
   exact rfl
open Classical in
noncomputable def prZ (rf:List UInt8→Option Rf) (n:Nd):List UInt8×Int :=
 if cntN n≤200 then (if frmN n False then (match parseZ rf (61::wrN n) with|.ok _ _=>(61::wrN n,0)|.no _ _=>([],4)) else ([],2)) else ([],4)
theorem prZ_k {rf:List UInt8→Option Rf} {n:Nd} (h:¬ cntN n≤200):prZ rf n=([],4):=if_neg h
theorem prZ_f {rf:List UInt8→Option Rf} {n:Nd} (h:cntN n≤200) (hf:¬ frmN n False):prZ rf n=([],2):=by
 unfold prZ
 rw[if_pos h,if_neg hf]
theorem prZ_w {rf:List UInt8→Option Rf} {n:Nd} (h:cntN n≤200) (hf:frmN n False):prZ rf n=(match parseZ rf (61::wrN n) with|.ok _ _=>(61::wrN n,0)|.no _ _=>([],4)):=by
 unfold prZ
 rw[if_pos h,if_pos hf]
theorem Print_d (te:TypeId) (pe:Value) (hV:Has gl (glV te pe)) (hl:Go.EYtfkjhfdpphfjhaaGreatDoor.look gl 0=some lvAll) {rf:List UInt8→Option Rf} (hR:RefsOk rf) {mx:Int} (hm:Go.EYtfkjhfdpphfjhaaGreatDoor.look gl 4=some [iD mx]) (n:Nd) (ho:okN n) :
 FnP Tryz.prog gl 58 [.agg n.cs] (.tup [.str (prZ rf n).1,errD (prZ rf n).2]):=by
 have e0:(false=true)=False:=by simp
 by_cases h:cntN n≤200
 ·by_cases hf:frmN n False
  ·rw[prZ_w h hf]
   have:=Print_w te pe hV hl hR hm n h (by rw[e0];exact hf) ho
   cases hp:parseZ rf (61::wrN n) with
   | no q e=>rw[hp] at this;exact this
   | ok n' q=>rw[hp] at this;exact this
  ·rw[prZ_f h hf]
   exact Print_f n h (by rw[e0];exact hf)
 ·rw[prZ_k h]
  exact Print_k n h
theorem fCheck_d (te:TypeId) (pe:Value) (hV:Has gl (glV te pe)) (hl:Go.EYtfkjhfdpphfjhaaGreatDoor.look gl 0=some lvAll) {rf:List UInt8→Option Rf} (hR:RefsOk rf) {mx:Int} (hm:Go.EYtfkjhfdpphfjhaaGreatDoor.look gl 4=some [iD mx]) (n:Nd) (ho:okN n) :
 FnP Tryz.prog gl 36 [.agg n.cs] (errD (prZ rf n).2):=by
 have c1:=Print_d te pe hV hl hR hm n ho
 generalize prZ rf n=z at c1 ⊢
 obtain ⟨s,e⟩:=z
 obtain ⟨k,m,t,a,b,ks⟩:=n
 by_cases he:e=0
 ·subst he
  change FnP Tryz.prog gl 58 [_] (.tup [.str s,.v .nilIface]) at c1
  refine S0 Tryz.func36 rfl ?_
  ((repeat' ((conv=>whnf);first|exact .intro|refine G ?_|intro _|refine C1 c1 ?_|refine .mk ?_ ?_|refine H ?_|fail));all_goals conv=>whnf)
  exact LeD.rfl
 ·simp only[errD,if_neg he] at c1 ⊢
  refine S0 Tryz.func36 rfl ?_
  ((repeat' ((conv=>whnf);first|exact .intro|refine G ?_|intro _|refine C1 c1 ?_|refine .mk ?_ ?_|refine H ?_|fail));all_goals conv=>whnf)
  exact LeD.rfl
end Go.Proofs.YtfkjhfdpphfjhaaGreatDoor
