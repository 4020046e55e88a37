/- Proved: a part of what the law is proved with (the reckoner, contracts of functions, plain laws). Conditions: as each says. -/
import Derived.ScopeJumps
import Derived.Test.YtfcmhmglpcimiaaGreatDoorKBj
import Derived.Test.YtfcmhmglpcimiaaGreatDoorKFo
import Derived.Test.YtfcmhmglpcimiaaGreatDoorKGb
import Derived.Test.YtfcmhmglpcimiaaGreatDoorKJk
namespace Go.EYtfcmhmglpcimiaaGreatDoor
open Go Go.RowKit
theorem wp_scope_ghost {P:Program} {a:Act} {w:World} {Q:Exit→Act→World→Prop} {c rest:Code} (l:Nat) (J:Nat→Act→World→Prop) (hf:findLabel c l=some rest)
 (first:c.wp P (Exit.jump l (fun a w=>∃ k,J k a w) Q) a w)
 (pass:∀ k a w,J k a w→rest.wp P (Exit.jump l (fun a' w'=>∃ j,j<k∧J j a' w') Q) a w):(Code.scope c).wp P Q a w:=by
 have least:∀ a w,(∃ k,J k a w)→∃ k,J k a w∧∀ j,J j a w→k≤j:=by
  rintro a w ⟨k,hk⟩
  obtain ⟨j,hj,hmin⟩:=exists_least (p:=fun k=>J k a w) ⟨k,hk⟩
  exact ⟨j,hj,hmin⟩
 refine wp_scope_jumps l (fun a w=>∃ k,J k a w) (fun a w=>Classical.epsilon fun k=>J k a w∧∀ j,J j a w→k≤j) hf first ?_
 intro a w hJ
 have h0:=Classical.epsilon_spec (least a w hJ)
 refine Go.wp_mono (pass _ a w h0.1) ?_
 intro e a' w' h
 cases e with
 | goto l' =>
  obtain ⟨rfl,j,hj,hJ'⟩:=h
  have h1:=Classical.epsilon_spec (least a' w' ⟨j,hJ'⟩)
  exact ⟨rfl,⟨j,hJ'⟩,Nat.lt_of_le_of_lt (h1.2 j hJ') hj⟩
 | _=>exact h
def atLab (l:Nat) (J:List (Nat×V)→List (Nat×Blk)→Nat→Prop) (K:XK):XK:=fun x fr L n=>match x with
 | .goto l'=>(match Nat.beq l' l with
  | true=>J fr L n
  | false=>False)
 | x=>K x fr L n
def vcS (P:Program) (gl:List (Nat×List D)) (tt:List (Nat×TI)) (fx:List Nat) (N nv:Nat) (cu:List Nat) (a c rest:Code) (l:Nat) (fr:List (Nat×V)) (L:List (Nat×Blk)) (n:Nat) (K:XK):Prop :=
 vcCode P gl tt fx N nv cu a fr L n fun x fr1 L1 n1=>match x with
  | .normal=>fF (keepFr nv (dsts c) fr1) fun kept=>∃ S:Spec,vcCode P gl tt fx N nv cu c fr1 L1 n1 (atLab l (fun fr2 L2 n2=>∃ s,S.I s∧frzAll S.fz fr2 L2 fun fr4 L4=>sub3 fx n2 fr4 L4 (n1+S.ex) (S.fr s++kept) (S.L s++keepL S.ks L1)) K)∧
   ∀ s,S.I s→nK (n1+S.ex) fun n2=>fF (S.fr s++kept) fun fr2=>fBs (S.L s++keepL S.ks L1) fun L2=>vcCode P gl tt fx N nv cu rest fr2 L2 n2 (atLab l (fun fr3 L3 n3=>∃ s',(S.I s'∧S.μ s'<S.μ s)∧frzAll S.fz fr3 L3 fun fr4 L4=>sub3 fx n3 fr4 L4 n2 (S.fr s'++kept) (S.L s'++keepL S.ks L1)) K)
  | x=>K x fr1 L1 n1
section
variable {P:Program} {gl:List (Nat×List D)} {tt:List (Nat×TI)} {M0 S0:Nat→Prop} {w0:Base} {N nv:Nat} {cu:List Nat}
theorem QX.lab {K:XK} {Q:Exit→Act→World→Prop} {l:Nat} {J:List (Nat×V)→List (Nat×Blk)→Nat→Prop} {J':Act→World→Prop} (hQ:QX true gl M0 S0 w0 N K Q)
 (hJ:∀ fr L n adr a w,J fr L n→Ok gl M0 S0 w0 N adr fr L n a w→J' a w):QX true gl M0 S0 w0 N (atLab l J K) (Exit.jump l J' Q):=by
 refine ⟨?_,?_,?_,?_,?_,?_⟩
 ·intro fr1 L1 n1 adr1 a1 w1 hk hx1;exact hQ.1 _ _ _ _ _ _ hk hx1
 ·intro id fr1 L1 n1 adr1 a1 w1 hk hx1;exact hQ.2.1 _ _ _ _ _ _ _ hk hx1
 ·intro l' fr1 L1 n1 adr1 a1 w1 hk hx1
  replace hk:(match Nat.beq l' l with
   | true=>J fr1 L1 n1
   | false=>False):=hk
  cases hb:Nat.beq l' l with
  | false=>rw[hb] at hk;exact hk.elim
  | true=>rw[hb] at hk;exact ⟨Nat.eq_of_beq_eq_true hb,hJ _ _ _ _ _ _ hk hx1⟩
 ·intro fr1 L1 n1 adr1 a1 w1 hk hx1;exact hQ.2.2.2.1 _ _ _ _ _ _ hk hx1
 ·intro c fr1 L1 n1 adr1 x a1 w1 hk hx1 hd;exact hQ.2.2.2.2.1 _ _ _ _ _ _ _ _ hk hx1 hd
 ·intro e c a d v w h;exact hQ.2.2.2.2.2 rfl c a d v w h
theorem vcS_ok (hT:Fits P tt) (hm:P.follows .mixedOrders=true) {a c rest:Code} {l:Nat} (hl:findLabel c l=some rest) {fr:List (Nat×V)} {L:List (Nat×Blk)} {n:Nat} {adr:Env} {K:XK} {Q:Exit→Act→World→Prop} {act:Act} {w:World}
 (h:vcS P gl tt w0.fx N nv cu a c rest l fr L n K) (hx:Ok gl M0 S0 w0 N adr fr L n act w) (hQ:QX true gl M0 S0 w0 N K Q):(Code.seq a (.scope c)).wp P Q act w:=by
 refine wp_seq (vcCode_ok hT hm a _ _ _ adr _ _ act w h hx ⟨?_,?_,?_,?_,?_,?_⟩)
 ·intro fr1 L1 n1 adr1 a1 w1 hk hx1
  replace hk:fF (keepFr nv (dsts c) fr1) fun kept=>∃ S:Spec,vcCode P gl tt w0.fx N nv cu c fr1 L1 n1 (atLab l (fun fr2 L2 n2=>∃ s,S.I s∧frzAll S.fz fr2 L2 fun fr4 L4=>sub3 w0.fx n2 fr4 L4 (n1+S.ex) (S.fr s++kept) (S.L s++keepL S.ks L1)) K)∧
   ∀ s,S.I s→nK (n1+S.ex) fun n2=>fF (S.fr s++kept) fun fr2=>fBs (S.L s++keepL S.ks L1) fun L2=>vcCode P gl tt w0.fx N nv cu rest fr2 L2 n2 (atLab l (fun fr3 L3 n3=>∃ s',(S.I s'∧S.μ s'<S.μ s)∧frzAll S.fz fr3 L3 fun fr4 L4=>sub3 w0.fx n3 fr4 L4 n2 (S.fr s'++kept) (S.L s'++keepL S.ks L1)) K):=hk
  rw[fF_eq] at hk
  obtain ⟨S,h1,h2⟩:=hk
  refine wp_scope_ghost l (fun k a w=>∃ s adr,S.μ s=k∧S.I s∧Ok gl M0 S0 w0 N adr (S.fr s++keepFr nv (dsts c) fr1) (S.L s++keepL S.ks L1) (n1+S.ex) a w) hl (vcCode_ok hT hm c _ _ _ adr1 _ _ a1 w1 h1 hx1 ((hQ.lab ?_).sub fun _=>rfl)) ?_
  ·rintro fr2 L2 n2 adr2 a2 w2 ⟨s,hI,hs⟩ hx2
   obtain ⟨fr4,L4,hs4,hx4⟩:=frzAll_ok hs hx2
   exact ⟨S.μ s,s,_,rfl,hI,sub3_ok hx4 hs4⟩
  ·rintro _ a2 w2 ⟨s,adr2,rfl,hI,hok⟩
   have h3:=h2 s hI
   rw[nK_eq,fF_eq,fBs_eq] at h3
   refine vcCode_ok hT hm rest _ _ _ adr2 _ _ a2 w2 h3 hok ((hQ.lab ?_).sub fun _=>rfl)
   rintro fr3 L3 n3 adr3 a3 w3 ⟨s',⟨hI',hlt⟩,hs'⟩ hx3
   obtain ⟨fr4,L4,hs4,hx4⟩:=frzAll_ok hs' hx3
   exact ⟨S.μ s',hlt,s',_,rfl,hI',sub3_ok hx4 hs4⟩
 ·intro id fr1 L1 n1 adr1 a1 w1 hk hx1;exact hQ.2.1 _ _ _ _ _ _ _ hk hx1
 ·intro id fr1 L1 n1 adr1 a1 w1 hk hx1;exact hQ.2.2.1 _ _ _ _ _ _ _ hk hx1
 ·intro fr1 L1 n1 adr1 a1 w1 hk hx1;exact hQ.2.2.2.1 _ _ _ _ _ _ hk hx1
 ·intro c fr1 L1 n1 adr1 x a1 w1 hk hx1 hd;exact hQ.2.2.2.2.1 _ _ _ _ _ _ _ _ hk hx1 hd
 ·intro e c a d v w h;exact hQ.2.2.2.2.2 rfl c a d v w h
theorem fn_of_vcS (hT:Fits P tt) (hm:P.follows .mixedOrders=true) {f:FuncId} {fn:Func} {a c rest:Code} {l:Nat} {vs:List V} {H:List (Nat×Blk)} {h:Nat} {r:Ret} {H':List (Nat×Blk)} {n':Nat} {mv:List Nat} (hf:P.funcs[f]?=some fn) (hb:fn.body=some (.seq a (.scope c))) (hl:findLabel c l=some rest) (hB:HasBody P f) (hN:Nat.ble vs.length fn.ntmps=true)
 (hh:Nat.ble h n'=true) (hk:keysIn h H H'=true) (hmv:allIn H mv=true) (hv:vcS P gl tt (fxOf mv h) fn.ntmps nv cu a c rest l (argFr 0 vs) H h (endF (fxOf mv h) fn.results.toList tt r H' n')):Fn P gl f vs H h r H' n' mv :=
 fn_of_ok hT hm hf hb hB hN hh hk hmv fun M0 S0 w0 adr Q a w hfx hx hQ=>vcS_ok hT hm hl (by rw[hfx];exact hv) hx hQ
end
end Go.EYtfcmhmglpcimiaaGreatDoor
namespace Go.Proofs.YtfcmhmglpcimiaaGreatDoor
open Go Go.EYtfcmhmglpcimiaaGreatDoor
set_option maxRecDepth 100000
section
variable {gl:List (Nat×List D)}
abbrev rdB (s:List UInt8) (i:Nat) (d:Nat):Blk:=.var [.d (.str s),.d (iD (i:Int)),.d (iD (d:Int))] 106
abbrev erD (e:Int):D:=.v (.iface 57 (.int .i64 e))
abbrev fltD (i:Nat) (e:Int):D:=.ifc 102 true [iD (i:Int),erD e]
theorem skp_32 {s:List UInt8} {i:Nat} (h:s[i]?=some 32):skp s (i+1)=skp s i:=by
 have hl:=(List.getElem?_eq_some_iff.1 h)
 obtain ⟨hl,he⟩:=hl
 unfold skp
 rw[List.drop_eq_getElem_cons hl,he]
 simp only[blk,if_true]
 omega
theorem skp_n {s:List UInt8} {i:Nat} (h:s[i]?≠some 32):skp s i=i:=by
 unfold skp
 rcases Nat.lt_or_ge i s.length with hl|hl
 ·rw[List.drop_eq_getElem_cons hl]
  have:s[i]≠32:=fun e=>h (by rw[List.getElem?_eq_getElem hl,e])
  simp only[blk,if_neg this,Nat.add_zero]
 ·rw[List.drop_eq_nil_of_le hl]
  rfl
theorem fail_d (s:List UInt8) (i d j:Nat) (e:Int):Go.EYtfcmhmglpcimiaaGreatDoor.Fn Tryz.prog gl 45 [.c (.ptr 0 0),.c (.d (iD (j:Int))),.c (.d (erD e))] [(0,rdB s i d)] 1 (.panic (.d (fltD j e))) [] 1 []:=by
 refine S1 Tryz.func45 rfl ?_
 ((repeat' ((conv=>whnf);first|exact .intro|refine G ?_|intro _|refine .mk ?_ ?_|refine H ?_|fail));all_goals conv=>whnf)
 ((repeat' first|exact rfl|((conv=>whnf);first|done|exact suL|refine And.intro ?_ ?_|fail));all_goals conv=>whnf)
theorem byt {s:List UInt8} {k:Nat} (c:UInt8) (hk:k<s.length):(((s.getD ((k:Nat):Int).toNat 0).toNat:Nat):Int)=((c.toNat:Nat):Int)↔s[k]?=some c:=by
 have e:((k:Nat):Int).toNat=k:=by omega
 rw[e,List.getD,List.getElem?_eq_getElem hk]
 simp only[Option.getD_some,Option.some.injEq]
 constructor
 ·intro h
  exact UInt8.toNat_inj.1 (by omega)
 ·intro h
  rw[h]
theorem blanks_d (s:List UInt8) (i d:Nat) (hi:i≤s.length) (hs:s.length≤200):Go.EYtfcmhmglpcimiaaGreatDoor.Fn Tryz.prog gl 47 [.c (.ptr 0 0)] [(0,rdB s i d)] 1 (.ret (.tup [])) [(0,rdB s (skp s i) d)] 1 []:=by
 refine S1 Tryz.func47 rfl ?_
 ((repeat' ((conv=>whnf);first|exact .intro|refine G ?_|intro _|refine .mk ?_ ?_|refine H ?_|fail));all_goals conv=>whnf)
 refine ⟨{ σ:=Nat,fr:=fun k=>[],ks:=[0],L:=fun k=>[(0,rdB s k d)],ex:=0,I:=fun k=>k≤s.length∧skp s k=skp s i,μ:=fun k=>s.length - k },⟨i,⟨hi,rfl⟩,?_⟩,fun (k:Nat) hk=>?_⟩
 ·((repeat' first|exact rfl|((conv=>whnf);first|done|exact suL|refine And.intro ?_ ?_|fail));all_goals conv=>whnf)
 ·obtain ⟨hk1,hk2⟩:=hk
  by_cases hk7:k<s.length
  ·have hk7':(k:Int)<(s.length:Int):=by omega
   by_cases hc:(((s.getD ((k:Nat):Int).toNat 0).toNat:Nat):Int)=32
   ·have hc':=(byt 32 hk7).1 hc
    ((repeat' ((conv=>whnf);first|exact .intro|refine G ?_|intro _|refine .mk ?_ ?_|refine H ?_|fail));all_goals conv=>whnf)
    refine ⟨k+1,⟨⟨hk7,by rw[skp_32 hc',hk2]⟩,by show s.length - (k+1)<s.length - k;omega⟩,?_⟩
    ((repeat' first|exact rfl|((conv=>whnf);first|done|exact suL|refine And.intro ?_ ?_|fail));all_goals conv=>whnf)
    exact ceq (by rw[wrapI (by omega)];rfl)
   ·have hc':s[k]?≠some 32:=fun h=>hc ((byt 32 hk7).2 h)
    rw[skp_n hc'] at hk2
    subst hk2
    ((repeat' ((conv=>whnf);first|exact .intro|refine G ?_|intro _|refine .mk ?_ ?_|refine H ?_|fail));all_goals conv=>whnf)
    ((repeat' first|exact rfl|((conv=>whnf);first|done|exact suL|refine And.intro ?_ ?_|fail));all_goals conv=>whnf)
  ·have hk8:¬ (k:Int)<(s.length:Int):=by omega
   have hc':s[k]?≠some 32:=by rw[List.getElem?_eq_none (by omega)];simp
   rw[skp_n hc'] at hk2
   subst hk2
   ((repeat' ((conv=>whnf);first|exact .intro|refine G ?_|intro _|refine .mk ?_ ?_|refine H ?_|fail));all_goals conv=>whnf)
   ((repeat' first|exact rfl|((conv=>whnf);first|done|exact suL|refine And.intro ?_ ?_|fail));all_goals conv=>whnf)
abbrev wdlyP (n:Int):Prop:=n=36∨(48≤n∧n≤57)∨(65≤n∧n≤90)∨(97≤n∧n≤122)
theorem wdly_iff (c:UInt8):wdlyP ((c.toNat:Nat):Int)↔wordlyP c:=by
 unfold wdlyP wordlyP
 have h1:c=36↔((c.toNat:Nat):Int)=36:=by
  constructor
  ·rintro rfl;rfl
  ·intro h;exact UInt8.toNat_inj.1 (by show c.toNat=36;omega)
 have h2:∀ (a b:UInt8),a≤b↔((a.toNat:Nat):Int)≤((b.toNat:Nat):Int):=fun a b=>by
  rw[UInt8.le_iff_toNat_le];omega
 rw[h1,h2 48 c,h2 c 57,h2 65 c,h2 c 90,h2 97 c,h2 c 122]
 exact Iff.rfl
theorem wordly_y {n:Int} (h:wdlyP n):FnP Tryz.prog gl 120 [.v (.int .u8 n)] (.v (.bool true)):=by
 refine S0 Tryz.func120 rfl ?_
 ((repeat' ((conv=>whnf);first|exact .intro|refine G ?_|intro _|refine .mk ?_ ?_|refine H ?_|fail));all_goals conv=>whnf)
 all_goals first|exact LeD.rfl|exact LeD.vt (by omega)|(exfalso;omega)
theorem wordly_n {n:Int} (h:¬ wdlyP n):FnP Tryz.prog gl 120 [.v (.int .u8 n)] (.v (.bool false)):=by
 refine S0 Tryz.func120 rfl ?_
 ((repeat' ((conv=>whnf);first|exact .intro|refine G ?_|intro _|refine .mk ?_ ?_|refine H ?_|fail));all_goals conv=>whnf)
 all_goals first|exact LeD.rfl|exact LeD.vf (by omega)|(exfalso;omega)
theorem wdE_y {s:List UInt8} {i:Nat} {c:UInt8} (h:s[i]?=some c) (hw:wordlyP c):wdE s (i+1)=wdE s i:=by
 obtain ⟨hl,he⟩:=List.getElem?_eq_some_iff.1 h
 unfold wdE
 rw[List.drop_eq_getElem_cons hl,he]
 simp only[wdl,if_pos hw]
 omega
theorem wdE_n {s:List UInt8} {i:Nat} (h:∀ c,s[i]?=some c→¬ wordlyP c):wdE s i=i:=by
 unfold wdE
 rcases Nat.lt_or_ge i s.length with hl|hl
 ·rw[List.drop_eq_getElem_cons hl]
  simp only[wdl,if_neg (h _ (List.getElem?_eq_getElem hl)),Nat.add_zero]
 ·rw[List.drop_eq_nil_of_le hl]
  rfl
theorem wd_slice (s:List UInt8) (i:Nat):List.drop ((some ((i:Nat):Int)).getD 0).toNat (List.take ((some ((wdE s i:Nat):Int)).getD ((s.length:Nat):Int)).toNat s)=wdAt s i:=by
 simp only[Option.getD_some,Int.toNat_natCast]
 unfold wdAt wdE
 rw[List.drop_take]
 congr 1
 omega
theorem strq {a b:List UInt8} (h:a=b) {P:Prop}:C.d (.str b)=C.junk∨C.d (.str a)=C.d (.str b)∨P:=.inr (.inl (by rw[h]))
theorem word_d (s:List UInt8) (i d:Nat) (hi:i≤s.length) (hs:s.length≤200):Go.EYtfcmhmglpcimiaaGreatDoor.Fn Tryz.prog gl 121 [.c (.ptr 0 0)] [(0,rdB s i d)] 1 (.ret (.c (.d (.str (wdAt s i))))) [(0,rdB s (wdE s i) d)] 1 []:=by
 refine S1 Tryz.func121 rfl ?_
 ((repeat' ((conv=>whnf);first|exact .intro|refine G ?_|intro _|refine .mk ?_ ?_|refine H ?_|fail));all_goals conv=>whnf)
 refine ⟨{ σ:=Nat,fr:=fun k=>[],ks:=[0],L:=fun k=>[(0,rdB s k d)],ex:=0,I:=fun k=>i≤k∧k≤s.length∧wdE s k=wdE s i,μ:=fun k=>s.length - k },⟨i,⟨Nat.le_refl _,hi,rfl⟩,?_⟩,fun (k:Nat) hk=>?_⟩
 ·((repeat' first|exact rfl|((conv=>whnf);first|done|exact suL|refine And.intro ?_ ?_|fail));all_goals conv=>whnf)
 ·obtain ⟨hk0,hk1,hk2⟩:=hk
  by_cases hk7:k<s.length
  ·have hk7':(k:Int)<(s.length:Int):=by omega
   have hg:s[k]?=some (s.getD ((k:Nat):Int).toNat 0):=(byt _ hk7).1 rfl
   by_cases hc:wordlyP (s.getD ((k:Nat):Int).toNat 0)
   ·have c1:=wordly_y (gl:=gl) ((wdly_iff _).2 hc)
    ((repeat' ((conv=>whnf);first|exact .intro|refine G ?_|intro _|refine C1 c1 ?_|refine .mk ?_ ?_|refine H ?_|fail));all_goals conv=>whnf)
    refine ⟨k+1,⟨⟨by omega,hk7,by rw[wdE_y hg hc,hk2]⟩,by show s.length - (k+1)<s.length - k;omega⟩,?_⟩
    ((repeat' first|exact rfl|((conv=>whnf);first|done|exact suL|refine And.intro ?_ ?_|fail));all_goals conv=>whnf)
    exact ceq (by rw[wrapI (by omega)];rfl)
   ·have c1:=wordly_n (gl:=gl) (fun h=>hc ((wdly_iff _).1 h))
    rw[wdE_n fun c h=>by rw[hg] at h;cases h;exact hc] at hk2
    subst hk2
    ((repeat' ((conv=>whnf);first|exact .intro|refine G ?_|intro _|refine C1 c1 ?_|refine .mk ?_ ?_|refine H ?_|fail));all_goals conv=>whnf)
    ((repeat' first|exact rfl|((conv=>whnf);first|done|exact suL|refine And.intro ?_ ?_|fail));all_goals conv=>whnf)
    ·exact (show (0:Int)≤((i:Nat):Int) by omega)
    ·exact (show ((i:Nat):Int)≤((wdE s i:Nat):Int) by omega)
    ·exact (show ((wdE s i:Nat):Int)≤((s.length:Nat):Int) by omega)
    ·exact strq (wd_slice s i)
  ·have hk8:¬ (k:Int)<(s.length:Int):=by omega
   rw[wdE_n fun c h=>absurd (lt_of_get h) hk7] at hk2
   subst hk2
   ((repeat' ((conv=>whnf);first|exact .intro|refine G ?_|intro _|refine .mk ?_ ?_|refine H ?_|fail));all_goals conv=>whnf)
   ((repeat' first|exact rfl|((conv=>whnf);first|done|exact suL|refine And.intro ?_ ?_|fail));all_goals conv=>whnf)
   ·exact (show (0:Int)≤((i:Nat):Int) by omega)
   ·exact (show ((i:Nat):Int)≤((wdE s i:Nat):Int) by omega)
   ·exact (show ((wdE s i:Nat):Int)≤((s.length:Nat):Int) by omega)
   ·exact strq (wd_slice s i)
theorem want_y {s:List UInt8} {i d:Nat} (hi:i≤s.length) (hs:s.length≤200) (h:s[skp s i]?=some 41):Go.EYtfcmhmglpcimiaaGreatDoor.Fn Tryz.prog gl 117 [.c (.ptr 0 0),.c (.d (.v (.int .u8 41)))] [(0,rdB s i d)] 1 (.ret (.tup [])) [(0,rdB s (skp s i+1) d)] 1 []:=by
 have hl:=lt_of_get h
 have h1:=(byt 41 hl).2 h
 have h2:¬ ((skp s i:Nat):Int)=((s.length:Nat):Int):=by omega
 have h3:¬ ¬ (((s.getD ((skp s i:Nat):Int).toNat 0).toNat:Nat):Int)=41:=fun hh=>hh h1
 have c1:=blanks_d (gl:=gl) s i d hi hs
 generalize skp s i=j at *
 refine S1 Tryz.func117 rfl ?_
 ((repeat' ((conv=>whnf);first|exact .intro|refine G ?_|intro _|refine C5 c1 [0] ?_|refine .mk ?_ ?_|refine H ?_|fail));all_goals conv=>whnf)
 ((repeat' first|exact rfl|((conv=>whnf);first|done|exact suL|refine And.intro ?_ ?_|fail));all_goals conv=>whnf)
 exact ceq (by rw[wrapI (by omega)];rfl)
theorem want_n {s:List UInt8} {i d:Nat} (hi:i≤s.length) (hs:s.length≤200) (h:s[skp s i]?≠some 41):Go.EYtfcmhmglpcimiaaGreatDoor.Fn Tryz.prog gl 117 [.c (.ptr 0 0),.c (.d (.v (.int .u8 41)))] [(0,rdB s i d)] 1 (.panic (.d (fltD (skp s i) 2))) [] 1 []:=by
 have hk:=skp_le hi
 have c1:=blanks_d (gl:=gl) s i d hi hs
 have c2:=fail_d (gl:=gl) s (skp s i) d (skp s i) 2
 rcases Nat.lt_or_ge (skp s i) s.length with hl|hl
 ·have h1:¬ (((s.getD ((skp s i:Nat):Int).toNat 0).toNat:Nat):Int)=41:=fun hh=>h ((byt 41 hl).1 hh)
  have h2:¬ ((skp s i:Nat):Int)=((s.length:Nat):Int):=by omega
  generalize skp s i=j at *
  refine S1 Tryz.func117 rfl ?_
  ((repeat' ((conv=>whnf);first|exact .intro|refine G ?_|intro _|refine C5 c1 [0] ?_|refine C5 c2 [0] ?_|refine .mk ?_ ?_|refine H ?_|fail));all_goals conv=>whnf)
  ((repeat' first|exact rfl|((conv=>whnf);first|done|exact suL|refine And.intro ?_ ?_|fail));all_goals conv=>whnf)
 ·have h2:((skp s i:Nat):Int)=((s.length:Nat):Int):=by omega
  generalize skp s i=j at *
  refine S1 Tryz.func117 rfl ?_
  ((repeat' ((conv=>whnf);first|exact .intro|refine G ?_|intro _|refine C5 c1 [0] ?_|refine C5 c2 [0] ?_|refine .mk ?_ ?_|refine H ?_|fail));all_goals conv=>whnf)
  ((repeat' first|exact rfl|((conv=>whnf);first|done|exact suL|refine And.intro ?_ ?_|fail));all_goals conv=>whnf)
end
section
variable {gl:List (Nat×List D)}
mutual
def Nd.cs:Nd→List D
 | .mk k n s a b ks=>[iD k,iD n,.str s,iD a.c,iD a.r,tD a.fc,tD a.fr,iD b.c,iD b.r,tD b.fc,tD b.fr,.lst 12 (Nd.csL ks)]
def Nd.csL:List Nd→List (List D)
 | []=>[]
 | x::r=>x.cs::Nd.csL r
end
abbrev ndC (n:Nd):List C:=n.cs.map C.d
theorem lf0 {A P:Prop} {L:List (Nat×Blk)}:A∨C.d (.v (.bool false))=C.d (tD false)∨P∨LeC L (C.d (.v (.bool false))) (C.d (tD false)):=.inr (.inr (.inr (LeD.bf (by simp))))
theorem LeD.nil0 {z:Nat}:LeD (.v (.slice none 0 0)) (.lst z []):=⟨fun M w x hx=>by
 rw[DenD.v_inv hx]
 exact .lst0 z none 0 (Nat.zero_le _)⟩
theorem ln0 {z:Nat} {A P:Prop} {L:List (Nat×Blk)}:A∨C.d (.v (.slice none 0 0))=C.d (.lst z [])∨P∨LeC L (C.d (.v (.slice none 0 0))) (C.d (.lst z [])):=.inr (.inr (.inr LeD.nil0))
theorem txtF_c {c:UInt8} (h:c≠34) (t:List UInt8):txtF (c::t)=(txtF t).map fun q=>(c::q.1,q.2+1):=by
 cases t with
 | nil=>simp[txtF,h]
 | cons d r=>rw[txtF];simp[h]
theorem txtF_2 (t:List UInt8):txtF (34::34::t)=(txtF t).map fun q=>(34::q.1,q.2+2):=by
 rw[txtF];simp
theorem txtF_1 {t:List UInt8} (h:t.head?≠some 34):txtF (34::t)=some ([],1):=by
 cases t with
 | nil=>rfl
 | cons d r =>
  have:d≠34:=fun e=>h (by simp[e])
  rw[txtF];simp[this]
theorem text_d (s:List UInt8) (i d:Nat) (hs:s.length≤200) (h:s[i]?=some 34) {b:List UInt8} {l:Nat} (ht:txtF (s.drop (i+1))=some (b,l)) :
 Go.EYtfcmhmglpcimiaaGreatDoor.Fn Tryz.prog gl 118 [.c (.ptr 0 0)] [(0,rdB s i d)] 1 (.ret (.agg (ndC (.mk 2 0 b z0 z0 [])))) [(0,rdB s (i+1+l) d)] 1 []:=by
 have hl:=lt_of_get h
 refine S1 Tryz.func118 rfl ?_
 ((repeat' ((conv=>whnf);first|exact .intro|refine G ?_|intro _|refine .mk ?_ ?_|refine H ?_|fail));all_goals conv=>whnf)
 refine ⟨{ σ:=(Nat×List UInt8),fr:=fun q=>[(4,.c (.all 1 2))],ks:=[0],L:=fun q=>[(0,rdB s q.1 d),(2,.rows 1 (bD q.2) 5)],ex:=1,I:=fun q=>i+1≤q.1∧q.1≤s.length∧q.2.length≤q.1∧txtF (s.drop (i+1))=(txtF (s.drop q.1)).map fun r=>(q.2++r.1,q.1 - (i+1)+r.2),μ:=fun q=>s.length - q.1 },⟨(i+1,[]),⟨Nat.le_refl _,hl,Nat.zero_le _,by simp⟩,?_⟩,?_⟩
 ·((repeat' first|exact rfl|((conv=>whnf);first|done|exact suL|refine And.intro ?_ ?_|fail));all_goals conv=>whnf)
  ·exact ceq (by rw[wrapI (by omega)];rfl)
  ·exact ⟨1,_,rfl,by decide,Nat.le_refl _⟩
 ·rintro ⟨k,a⟩ ⟨h1,h2,h3,h4⟩
  simp only at h1 h2 h3 h4
  by_cases hk7:k<s.length
  ·have hk7':(k:Int)<(s.length:Int):=by omega
   by_cases hc:(((s.getD ((k:Nat):Int).toNat 0).toNat:Nat):Int)=34
   ·have hg:=(byt 34 hk7).1 hc
    have e1:IntKind.i64.wrap ((((k,a):Nat×List UInt8).1:Int)+1)=((k+1:Nat):Int):=by rw[wrapI (by show _≤(k:Int)+1∧(k:Int)+1≤_;omega)];rfl
    rw[List.drop_eq_getElem_cons hk7,(List.getElem?_eq_some_iff.1 hg).2] at h4
    by_cases hk9:k+1<s.length
    ·have hk9':¬ ((k+1:Nat):Int)=((s.length:Nat):Int):=by omega
     by_cases hc2:(((s.getD ((k+1:Nat):Int).toNat 0).toNat:Nat):Int)=34
     ·have hg2:=(byt 34 hk9).1 hc2
      have hc3:¬ ¬ (((s.getD ((k+1:Nat):Int).toNat 0).toNat:Nat):Int)=34:=fun hh=>hh hc2
      rw[List.drop_eq_getElem_cons hk9,(List.getElem?_eq_some_iff.1 hg2).2,txtF_2,Option.map_map] at h4
      ((repeat' ((conv=>whnf);first|exact .intro|refine G ?_|intro _|(rw[e1])|refine .mk ?_ ?_|refine H ?_|fail));all_goals conv=>whnf)
      refine ⟨⟨rfl,by show ((bD a).length+1) * 1≤140737488355328;rw[bD_len];omega,by show (bD a).length+1≤maxLen;rw[bD_len];unfold maxLen;omega⟩,?_⟩
      ((repeat' ((conv=>whnf);first|exact .intro|refine G ?_|intro _|(rw[e1])|refine .mk ?_ ?_|refine H ?_|fail));all_goals conv=>whnf)
      refine ⟨(k+2,a++[34]),⟨⟨by show i+1≤k+2;omega,hk9,by show (a++[34]).length≤k+2;simp;omega,?_⟩,by show s.length - (k+2)<s.length - k;omega⟩,?_⟩
      ·rw[h4]
       show _=(txtF (s.drop (k+1+1))).map _
       congr 1
       funext q
       simp;omega
      ·((repeat' first|exact rfl|((conv=>whnf);first|done|exact suL|refine And.intro ?_ ?_|fail));all_goals conv=>whnf)
       ·exact ceq (by rw[wrapI (by omega)];rfl)
       show bD a++[[D.v (.int .u8 (((s.getD ((k+1:Nat):Int).toNat 0).toNat:Nat):Int))]]=bD (a++[34])
       rw[hc2,bD_app]
       rfl
     ·have hn:(s.drop (k+1)).head?≠some 34:=by
       rw[List.head?_drop]
       exact fun e=>hc2 ((byt 34 hk9).2 e)
      rw[txtF_1 hn,ht] at h4
      obtain ⟨rfl,rfl⟩:a=b∧k - (i+1)+1=l:=by simpa[eq_comm] using h4
      ((repeat' ((conv=>whnf);first|exact .intro|refine G ?_|intro _|(rw[e1])|refine .mk ?_ ?_|refine H ?_|fail));all_goals conv=>whnf)
      refine ⟨a,rfl,?_⟩
      ((repeat' ((conv=>whnf);first|exact .intro|refine G ?_|intro _|(rw[e1])|refine .mk ?_ ?_|refine H ?_|fail));all_goals conv=>whnf)
      ((repeat' first|exact rfl|((conv=>whnf);first|done|exact suL|refine And.intro ?_ ?_|fail));all_goals conv=>whnf)
      ·(refine .inr ?_;repeat' first|exact .intro|exact .inr (.inl rfl)|exact lf0|exact ln0|((conv=>whnf);first|exact .intro|exact .inr (.inl rfl)|exact lf0|exact ln0|refine And.intro ?_ ?_|fail))
      ·exact ceq (by omega)
    ·have hk9':((k+1:Nat):Int)=((s.length:Nat):Int):=by omega
     rw[show s.drop (k+1)=[] from List.drop_eq_nil_of_le (by omega),txtF_1 (by simp),ht] at h4
     obtain ⟨rfl,rfl⟩:a=b∧k - (i+1)+1=l:=by simpa[eq_comm] using h4
     ((repeat' ((conv=>whnf);first|exact .intro|refine G ?_|intro _|(rw[e1])|refine .mk ?_ ?_|refine H ?_|fail));all_goals conv=>whnf)
     refine ⟨a,rfl,?_⟩
     ((repeat' ((conv=>whnf);first|exact .intro|refine G ?_|intro _|(rw[e1])|refine .mk ?_ ?_|refine H ?_|fail));all_goals conv=>whnf)
     ((repeat' first|exact rfl|((conv=>whnf);first|done|exact suL|refine And.intro ?_ ?_|fail));all_goals conv=>whnf)
     ·(refine .inr ?_;repeat' first|exact .intro|exact .inr (.inl rfl)|exact lf0|exact ln0|((conv=>whnf);first|exact .intro|exact .inr (.inl rfl)|exact lf0|exact ln0|refine And.intro ?_ ?_|fail))
     ·exact ceq (by omega)
   ·have hg:s[k]?=some (s.getD ((k:Nat):Int).toNat 0):=(byt _ hk7).1 rfl
    have hne:s.getD ((k:Nat):Int).toNat 0≠34:=fun e=>hc (by rw[e];rfl)
    rw[List.drop_eq_getElem_cons hk7,(List.getElem?_eq_some_iff.1 hg).2,txtF_c hne,Option.map_map] at h4
    ((repeat' ((conv=>whnf);first|exact .intro|refine G ?_|intro _|refine .mk ?_ ?_|refine H ?_|fail));all_goals conv=>whnf)
    refine ⟨⟨rfl,by show ((bD a).length+1) * 1≤140737488355328;rw[bD_len];omega,by show (bD a).length+1≤maxLen;rw[bD_len];unfold maxLen;omega⟩,?_⟩
    ((repeat' ((conv=>whnf);first|exact .intro|refine G ?_|intro _|refine .mk ?_ ?_|refine H ?_|fail));all_goals conv=>whnf)
    refine ⟨(k+1,a++[s.getD ((k:Nat):Int).toNat 0]),⟨⟨by show i+1≤k+1;omega,hk7,by show (a++[_]).length≤k+1;simp;omega,?_⟩,by show s.length - (k+1)<s.length - k;omega⟩,?_⟩
    ·rw[h4]
     show _=(txtF (s.drop (k+1))).map _
     congr 1
     funext q
     simp;omega
    ·((repeat' first|exact rfl|((conv=>whnf);first|done|exact suL|refine And.intro ?_ ?_|fail));all_goals conv=>whnf)
     ·exact ceq (by rw[wrapI (by omega)];rfl)
     show bD a++[[D.v (.int .u8 (((s.getD ((k:Nat):Int).toNat 0).toNat:Nat):Int))]]=bD (a++[_])
     rw[bD_app]
  ·rw[show s.drop k=[] from List.drop_eq_nil_of_le (by omega),ht] at h4
   cases h4
theorem text_n (s:List UInt8) (i d:Nat) (hs:s.length≤200) (h:s[i]?=some 34) (ht:txtF (s.drop (i+1))=none) :
 Go.EYtfcmhmglpcimiaaGreatDoor.Fn Tryz.prog gl 118 [.c (.ptr 0 0)] [(0,rdB s i d)] 1 (.panic (.d (fltD i 2))) [] 1 []:=by
 have hl:=lt_of_get h
 refine S1 Tryz.func118 rfl ?_
 ((repeat' ((conv=>whnf);first|exact .intro|refine G ?_|intro _|refine .mk ?_ ?_|refine H ?_|fail));all_goals conv=>whnf)
 refine ⟨{ σ:=(Nat×List UInt8),fr:=fun q=>[(4,.c (.all 1 2))],ks:=[0],L:=fun q=>[(0,rdB s q.1 d),(2,.rows 1 (bD q.2) 5)],ex:=1,I:=fun q=>i+1≤q.1∧q.1≤s.length∧q.2.length≤q.1∧txtF (s.drop q.1)=none,μ:=fun q=>s.length - q.1 },⟨(i+1,[]),⟨Nat.le_refl _,hl,Nat.zero_le _,ht⟩,?_⟩,?_⟩
 ·((repeat' first|exact rfl|((conv=>whnf);first|done|exact suL|refine And.intro ?_ ?_|fail));all_goals conv=>whnf)
  ·exact ceq (by rw[wrapI (by omega)];rfl)
  ·exact ⟨1,_,rfl,by decide,Nat.le_refl _⟩
 ·rintro ⟨k,a⟩ ⟨h1,h2,h3,h4⟩
  simp only at h1 h2 h3 h4
  by_cases hk7:k<s.length
  ·have hk7':(k:Int)<(s.length:Int):=by omega
   by_cases hc:(((s.getD ((k:Nat):Int).toNat 0).toNat:Nat):Int)=34
   ·have hg:=(byt 34 hk7).1 hc
    have e1:IntKind.i64.wrap ((((k,a):Nat×List UInt8).1:Int)+1)=((k+1:Nat):Int):=by rw[wrapI (by show _≤(k:Int)+1∧(k:Int)+1≤_;omega)];rfl
    rw[List.drop_eq_getElem_cons hk7,(List.getElem?_eq_some_iff.1 hg).2] at h4
    by_cases hk9:k+1<s.length
    ·have hk9':¬ ((k+1:Nat):Int)=((s.length:Nat):Int):=by omega
     by_cases hc2:(((s.getD ((k+1:Nat):Int).toNat 0).toNat:Nat):Int)=34
     ·have hg2:=(byt 34 hk9).1 hc2
      have hc3:¬ ¬ (((s.getD ((k+1:Nat):Int).toNat 0).toNat:Nat):Int)=34:=fun hh=>hh hc2
      rw[List.drop_eq_getElem_cons hk9,(List.getElem?_eq_some_iff.1 hg2).2,txtF_2,Option.map_eq_none_iff] at h4
      ((repeat' ((conv=>whnf);first|exact .intro|refine G ?_|intro _|(rw[e1])|refine .mk ?_ ?_|refine H ?_|fail));all_goals conv=>whnf)
      refine ⟨⟨rfl,by show ((bD a).length+1) * 1≤140737488355328;rw[bD_len];omega,by show (bD a).length+1≤maxLen;rw[bD_len];unfold maxLen;omega⟩,?_⟩
      ((repeat' ((conv=>whnf);first|exact .intro|refine G ?_|intro _|(rw[e1])|refine .mk ?_ ?_|refine H ?_|fail));all_goals conv=>whnf)
      refine ⟨(k+2,a++[34]),⟨⟨by show i+1≤k+2;omega,hk9,by show (a++[34]).length≤k+2;simp;omega,h4⟩,by show s.length - (k+2)<s.length - k;omega⟩,?_⟩
      ((repeat' first|exact rfl|((conv=>whnf);first|done|exact suL|refine And.intro ?_ ?_|fail));all_goals conv=>whnf)
      ·exact ceq (by rw[wrapI (by omega)];rfl)
      show bD a++[[D.v (.int .u8 (((s.getD ((k+1:Nat):Int).toNat 0).toNat:Nat):Int))]]=bD (a++[34])
      rw[hc2,bD_app]
      rfl
     ·have hn:(s.drop (k+1)).head?≠some 34:=by
       rw[List.head?_drop]
       exact fun e=>hc2 ((byt 34 hk9).2 e)
      rw[txtF_1 hn] at h4
      cases h4
    ·rw[show s.drop (k+1)=[] from List.drop_eq_nil_of_le (by omega),txtF_1 (by simp)] at h4
     cases h4
   ·have hg:s[k]?=some (s.getD ((k:Nat):Int).toNat 0):=(byt _ hk7).1 rfl
    have hne:s.getD ((k:Nat):Int).toNat 0≠34:=fun e=>hc (by rw[e];rfl)
    rw[List.drop_eq_getElem_cons hk7,(List.getElem?_eq_some_iff.1 hg).2,txtF_c hne,Option.map_eq_none_iff] at h4
    ((repeat' ((conv=>whnf);first|exact .intro|refine G ?_|intro _|refine .mk ?_ ?_|refine H ?_|fail));all_goals conv=>whnf)
    refine ⟨⟨rfl,by show ((bD a).length+1) * 1≤140737488355328;rw[bD_len];omega,by show (bD a).length+1≤maxLen;rw[bD_len];unfold maxLen;omega⟩,?_⟩
    ((repeat' ((conv=>whnf);first|exact .intro|refine G ?_|intro _|refine .mk ?_ ?_|refine H ?_|fail));all_goals conv=>whnf)
    refine ⟨(k+1,a++[s.getD ((k:Nat):Int).toNat 0]),⟨⟨by show i+1≤k+1;omega,hk7,by show (a++[_]).length≤k+1;simp;omega,h4⟩,by show s.length - (k+1)<s.length - k;omega⟩,?_⟩
    ((repeat' first|exact rfl|((conv=>whnf);first|done|exact suL|refine And.intro ?_ ?_|fail));all_goals conv=>whnf)
    ·exact ceq (by rw[wrapI (by omega)];rfl)
    show bD a++[[D.v (.int .u8 (((s.getD ((k:Nat):Int).toNat 0).toNat:Nat):Int))]]=bD (a++[_])
    rw[bD_app]
  ·have hk8:¬ (k:Int)<(s.length:Int):=by omega
   have c2:=fail_d (gl:=gl) s k d i 2
   ((repeat' ((conv=>whnf);first|exact .intro|refine G ?_|intro _|refine C5 c2 [0] ?_|refine .mk ?_ ?_|refine H ?_|fail));all_goals conv=>whnf)
   ((repeat' first|exact rfl|((conv=>whnf);first|done|exact suL|refine And.intro ?_ ?_|fail));all_goals conv=>whnf)
end
section
variable {gl:List (Nat×List D)}
def RefsOk (rf:List UInt8→Option Rf):Prop:=∀ (gl:List (Nat×List D)) (s:List UInt8),s.length≤200→
 (∀ a,rf s=some a→FnP Tryz.prog gl 146 [.str s] (.tup [refD a.c a.r a.fc a.fr,errD 0])∧FnP Tryz.prog gl 80 [.str s] (.tup [refD a.c a.r a.fc a.fr,tD true]))∧
 (rf s=none→FnP Tryz.prog gl 146 [.str s] refBad∧FnP Tryz.prog gl 80 [.str s] rrBad)
def plZ (rf:List UInt8→Option Rf) (s:List UInt8):Option Nd:=match wholeZ s with
 | some n=>some (.mk 1 n [] z0 z0 [])
 | none=>match litZ s with
  | some (_,n)=>some (.mk 3 n [] z0 z0 [])
  | none=>(rf s).map fun a=>.mk 5 0 [] a z0 []
theorem plain_s (te:TypeId) (pe:Value) {rf:List UInt8→Option Rf} (hR:RefsOk rf) {s:List UInt8} (hs:s.length≤200) {n:Nd} (h:plZ rf s=some n):FnP Tryz.prog (glV te pe) 125 [.str s] (.tup [.agg n.cs,.v (.bool true)]):=by
 have hs':s.length≤140737488355328:=by omega
 have hr:errR (glV te pe):=⟨te,pe,rfl⟩
 have c2:=Literal_d te pe s
 unfold plZ at h
 cases hw:wholeZ s with
 | some v =>
  rw[hw] at h
  cases h
  have c1:=Whole_some (gl:=glV te pe) hs' hw
  refine S0 Tryz.func125 rfl ?_
  ((repeat' ((conv=>whnf);first|exact .intro|refine G ?_|intro _|refine C1 c1 ?_|refine .mk ?_ ?_|refine H ?_|fail));all_goals conv=>whnf)
  repeat' first|exact LeD.rfl|exact LeD.bf (by simp[z0])|exact LeD.nil0|refine LeD.tup ?_|refine LeD.agg ?_|refine LeD.cons ?_ ?_|exact LeD.nil
 | none =>
  rw[hw] at h
  obtain ⟨v,c1⟩:=Whole_none (gl:=glV te pe) hs' hr hw
  cases hl:litZ s with
  | some q =>
   obtain ⟨k,m⟩:=q
   rw[hl] at h c2
   cases h
   change FnP Tryz.prog (glV te pe) 119 [.str s] (.tup [vlD k m [],.v (.bool true)]) at c2
   refine S0 Tryz.func125 rfl ?_
   ((repeat' ((conv=>whnf);first|exact .intro|refine G ?_|intro _|refine C1 c1 ?_|refine C1 c2 ?_|refine .mk ?_ ?_|refine H ?_|fail));all_goals conv=>whnf)
   repeat' first|exact LeD.rfl|exact LeD.bf (by simp[z0])|exact LeD.nil0|refine LeD.tup ?_|refine LeD.agg ?_|refine LeD.cons ?_ ?_|exact LeD.nil
  | none =>
   rw[hl] at h c2
   simp only at h
   obtain ⟨a,ha,h⟩:=Option.map_eq_some_iff.1 h
   cases h
   have c3:=((hR (glV te pe) s hs).1 a ha).1
   change FnP Tryz.prog (glV te pe) 119 [.str s] _ at c2
   refine S0 Tryz.func125 rfl ?_
   ((repeat' ((conv=>whnf);first|exact .intro|refine G ?_|intro _|refine C1 c1 ?_|refine C1 c2 ?_|refine C1 c3 ?_|refine .mk ?_ ?_|refine H ?_|fail));all_goals conv=>whnf)
   repeat' first|exact LeD.rfl|exact LeD.bf (by simp[z0])|exact LeD.nil0|refine LeD.tup ?_|refine LeD.agg ?_|refine LeD.cons ?_ ?_|exact LeD.nil
theorem plain_n (te:TypeId) (pe:Value) {rf:List UInt8→Option Rf} (hR:RefsOk rf) {s:List UInt8} (hs:s.length≤200) (h:plZ rf s=none):FnP Tryz.prog (glV te pe) 125 [.str s] (.tup [.agg (Nd.mk 0 0 [] z0 z0 []).cs,.v (.bool false)]):=by
 have hs':s.length≤140737488355328:=by omega
 have hr:errR (glV te pe):=⟨te,pe,rfl⟩
 have c2:=Literal_d te pe s
 unfold plZ at h
 cases hw:wholeZ s with
 | some v=>rw[hw] at h;cases h
 | none =>
  rw[hw] at h
  obtain ⟨v,c1⟩:=Whole_none (gl:=glV te pe) hs' hr hw
  cases hl:litZ s with
  | some q=>rw[hl] at h;cases h
  | none =>
   rw[hl] at h c2
   simp only[Option.map_eq_none_iff] at h
   have c3:=((hR (glV te pe) s hs).2 h).1
   refine S0 Tryz.func125 rfl ?_
   ((repeat' ((conv=>whnf);first|exact .intro|refine G ?_|intro _|refine C1 c1 ?_|refine C1 c2 ?_|refine C1 c3 ?_|refine .mk ?_ ?_|refine H ?_|fail));all_goals conv=>whnf)
   repeat' first|exact LeD.rfl|exact LeD.bf (by simp[z0])|exact LeD.nil0|refine LeD.tup ?_|refine LeD.agg ?_|refine LeD.cons ?_ ?_|exact LeD.nil
end
end Go.Proofs.YtfcmhmglpcimiaaGreatDoor
