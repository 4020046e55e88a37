/- Proved: a part of what the law is proved with (the reckoner, contracts of functions, plain laws). Conditions: as each says. -/
import Derived.Test.YtfcmhmglpcimiaaGreatDoorKEf
namespace Go.EYtfcmhmglpcimiaaGreatDoor
open Go Go.RowKit
section
variable {P:Program} {L:List (Nat×Blk)}
theorem dsOf_ok:∀ {l:List C} {ds:List D},dsOf l=some ds→l=ds.map C.d
 | [],ds,h=>by simp only[dsOf,Option.some.injEq] at h;subst h;rfl
 | c::r,ds,h=>by
  simp only[dsOf] at h
  split at h
  ·rename_i d l hd hl
   cases h
   rw[List.map_cons,← dsOf_ok hl]
   cases c <;> simp only[dOfC,Option.some.injEq,reduceCtorEq] at hd
   rw[hd]
  ·cases h
theorem rIface_ok {t:Nat} {ti:TI} (h:FitsOne P t ti) {s:V} {K:V→Prop} (hr:rIface ti t s K):∃ r,K r∧∀ (adr:Env) (M:Nat→Prop) (w:World) (x:Value),DenV adr M w s x→∃ v,(Instr.makeInterface t x).run P w=.ok v w∧DenV adr M w r v:=by
 unfold rIface at hr
 obtain ⟨hi,hr2⟩:=onB_ok hr
 have hi:ti.iface=false:=by cases hq:ti.iface <;> simp[hq] at hi ⊢
 obtain ⟨d,hd,_,_,hd2,_⟩:=h.desc
 have hrun:∀ (w:World) (x:Value),(Instr.makeInterface t x).run P w=.ok (.iface t x) w:=by
  intro w x
  unfold Instr.makeInterface
  simp only[Sem.run_bind,run_underlying hd,Result.andThen_ok]
  rw[hi] at hd2
  cases d <;> first|rfl|(simp[ifaceOf] at hd2)
 split at hr2
 ·exact ⟨_,hr2,fun adr M w x hx=>⟨_,hrun w x,by obtain rfl:=DenD.v_inv hx;exact DenD.v _⟩⟩
 ·exact ⟨_,hr2,fun adr M w x hx=>⟨_,hrun w x,DenD.ifc1 _ _ _ hx⟩⟩
 ·exact ⟨_,hr2,fun adr M w x hx=>⟨_,hrun w x,DenD.ifc1 _ _ _ hx⟩⟩
 ·exact ⟨_,hr2,fun adr M w x hx=>⟨_,hrun w x,DenD.ifc1 _ _ _ hx⟩⟩
 ·split at hr2
  ·rename_i l ds hds
   refine ⟨_,hr2,fun adr M w x hx=>⟨_,hrun w x,?_⟩⟩
   obtain ⟨xs,rfl,h2⟩:=hx
   rw[dsOf_ok hds] at h2
   exact DenD.ifc2_mk ((All2.map_left (R:=DenC adr M w) (f:=C.d)).1 h2)
  ·exact hr2.elim
 ·exact hr2.elim
def fD (l:List D):(List C→Prop)→Prop :=
 List.rec (motive:=fun _=>(List C→Prop)→Prop) (fun K=>K []) (fun d _ ih K=>ih fun r=>K (.d d::r)) l
theorem fD_eq:∀ (l:List D) (K:List C→Prop),fD l K=K (l.map C.d)
 | [],K=>rfl
 | d::r,K=>by show fD r (fun r'=>K (.d d::r'))=_;rw[fD_eq r];rfl
def rAssert (ti:TI) (t:Nat) (ok:Bool) (c:C) (K:V→Prop):Prop:=match c with
 | .d (.ifc t' true l)=>onB (match ti.iface with|true=>false|false=>true) (onB (Nat.beq t' t) (fD l fun cs=>match ok with
  | true=>K (.tup [(true,cs),(false,[.d (.v (.bool true))])])
  | false=>K (.agg cs)))
 | _=>False
theorem rAssert_ok {t:Nat} {ti:TI} (h:FitsOne P t ti) {ok:Bool} {c:C} {K:V→Prop} (hr:rAssert ti t ok c K):∃ r,K r∧∀ (adr:Env) (M:Nat→Prop) (w:World) (x:Value) (xt:Nat),DenC adr M w c x→∃ v,(Instr.typeAssert x xt t ok).run P w=.ok v w∧DenV adr M w r v:=by
 unfold rAssert at hr
 split at hr
 ·rename_i t' l
  obtain ⟨hi,hr1⟩:=onB_ok hr
  have hi:ti.iface=false:=by cases hq:ti.iface <;> simp[hq] at hi ⊢
  obtain ⟨ht,hr2⟩:=onB_ok hr1
  obtain rfl:=Nat.eq_of_beq_eq_true ht
  obtain ⟨d,hd,_,_,hd2,_⟩:=h.desc
  rw[fD_eq] at hr2
  have hden:∀ (adr:Env) (M:Nat→Prop) (w:World) (x:Value),DenC adr M w (.d (.ifc t' true l)) x→∃ xs:List Value,x=.iface t' (.agg xs.toArray)∧DenCs adr M w (l.map C.d) xs:=fun adr M w x hx=>by
   have hx:DenD M w (.ifc t' true l) x:=hx
   cases hx with
   | ifc2 _ _ xs hl hy=>exact ⟨xs,rfl,(All2.map_left (R:=DenC adr M w) (f:=C.d)).2 (All2.of_get hl hy)⟩
  have hrun:∀ (w:World) (y:Value) (xt:Nat),(Instr.typeAssert (.iface t' y) xt t' ok).run P w=.ok (if ok=true then .tuple #[y,.bool true] else y) w:=by
   intro w y xt
   unfold Instr.typeAssert
   simp only[Sem.run_bind,run_underlying hd,Result.andThen_ok]
   rw[hi] at hd2
   cases d <;> first|(simp;done)|(simp[ifaceOf] at hd2;done)|(cases ok <;> simp)
  cases ok with
  | true =>
   refine ⟨_,hr2,fun adr M w x xt hx=>?_⟩
   obtain ⟨xs,rfl,hxs⟩:=hden adr M w x hx
   exact ⟨_,hrun w _ xt,[.agg xs.toArray,.bool true],rfl,⟨xs,rfl,hxs⟩,⟨_,rfl,DenD.v _⟩,trivial⟩
  | false =>
   refine ⟨_,hr2,fun adr M w x xt hx=>?_⟩
   obtain ⟨xs,rfl,hxs⟩:=hden adr M w x hx
   exact ⟨_,hrun w _ xt,xs,rfl,hxs⟩
 ·exact hr.elim
theorem capsOf_ok {adr:Env} {M:Nat→Prop} {w:World} {ev:Operand→Option V} {ρ:Operand→Value}:∀ {xs:List Operand} {l:List (Nat×Nat)},capsOf ev xs=some l→(∀ x ∈ xs,∀ s,ev x=some s→DenV adr M w s (ρ x))→All2 (DenP adr) l (xs.map ρ)
 | [],l,h,_=>by simp only[capsOf,Option.some.injEq] at h;subst h;trivial
 | x::r,l,h,hx=>by
  simp only[capsOf] at h
  split at h
  ·rename_i k o l' h1 h2
   cases h
   refine ⟨?_,capsOf_ok h2 (fun y hy=>hx y (by simp[hy]))⟩
   obtain ⟨b,m,e1,e2⟩:=hx x (by simp) _ h1
   exact ⟨b,m,e1,e2⟩
  ·cases h
theorem rIndex_ok {t:Nat} {ti:TI} (h:FitsOne P t ti) {c i:C} {K:V→Prop} (hr:rIndex ti c i K):∃ r,K r∧∀ (adr:Env) (M:Nat→Prop) (w:World) (x y:Value),DenC adr M w c x→DenC adr M w i y→∃ v,(Instr.index t x y).run P w=.ok v w∧DenV adr M w r v:=by
 unfold rIndex at hr
 split at hr
 ·rename_i l k m
  obtain ⟨hk,hr2⟩:=onB_ok hr
  obtain ⟨⟨h0,h1⟩,hK⟩:=hr2
  obtain ⟨d,hd,_,_,_,_,_,hkd⟩:=h.desc
  rw[Nat.eq_of_beq_eq_true hk] at hkd
  have hstr:P.underlying t=some .string:=by cases d <;> simp[kdOf] at hkd;exact hd
  refine ⟨_,hK,fun adr M w x y hx hy=>?_⟩
  obtain rfl:=DenD.str_inv hx
  obtain rfl:=DenD.v_inv hy
  have hlt:m.toNat<l.length:=by omega
  refine ⟨_,?_,.v _⟩
  have hg:(⟨l.toArray⟩:ByteArray)[m.toNat]?=some l[m.toNat]:=by
   rw[getElem?_pos (⟨l.toArray⟩:ByteArray) m.toNat (by simpa[ByteArray.size] using hlt)]
   rfl
  simp only[Instr.index,asIntOf,Sem.run_bind,Sem.run_pure,Result.andThen_ok,run_underlying hstr,h0,if_true,hg]
  rw[List.getD_eq_getElem?_getD,List.getElem?_eq_getElem hlt,Option.getD_some]
 ·exact hr.elim
theorem rIndexA_ok {t e:Nat} {ti te:TI} (h:FitsOne P t ti) (hel:ti.el=some e) (he:FitsOne P e te) {l:List C} {i:C} {K:V→Prop} (hr:rIndexA ti te l i K):∃ r,K r∧∀ (adr:Env) (M:Nat→Prop) (w:World) (x y:Value),DenV adr M w (.agg l) x→DenC adr M w i y→∃ v,(Instr.index t x y).run P w=.ok v w∧DenV adr M w r v:=by
 unfold rIndexA at hr
 split at hr
 ·rename_i k n m hsub
  obtain ⟨hk,hr1⟩:=onB_ok hr
  obtain ⟨ha,hr2⟩:=onB_ok hr1
  obtain ⟨hs,⟨h0,h1⟩,c,hc,hK⟩:=onB_ok hr2
  clear hr hr1 hr2
  have hs:=Nat.eq_of_beq_eq_true hs
  have ha:te.agg=false:=by cases hq:te.agg <;> simp[hq] at ha ⊢
  obtain ⟨d,hd,_,_,_,_,hdel,hkd⟩:=h.desc
  have hsb:=h.sub
  rw[hd,hsub] at hsb
  rw[hel] at hdel
  rw[Nat.eq_of_beq_eq_true hk] at hkd
  cases d <;> simp[kdOf] at hkd
  simp only[elOf,Option.some.injEq] at hdel;subst hdel
  simp only[Option.map_some,subOf,Option.some.injEq,List.cons.injEq,and_true] at hsb;subst hsb
  refine ⟨_,hK,fun adr M w x y hx hy=>?_⟩
  obtain ⟨xs,rfl,hx⟩:=hx
  obtain rfl:=DenD.v_inv hy
  obtain ⟨v,hv,hden⟩:=All2.get hx hc
  refine ⟨v,?_,hden⟩
  have hp:=run_part he (us:=xs) (off:=n.toNat * te.size) w (u:=v) (by
   rw[ha,hs]
   simp only[Bool.false_eq_true,if_false,cut,Nat.mul_one]
   have hlt:n.toNat<xs.length:=(List.getElem?_eq_some_iff.1 hv).1
   rw[List.drop_eq_getElem_cons hlt]
   have:xs[n.toNat]=v:=(List.getElem?_eq_some_iff.1 hv).2
   simp[this]) (fun _=>hs)
  simp only[Instr.index,asIntOf,Sem.run_bind,Sem.run_pure,Result.andThen_ok,run_underlying hd,h0,h1,and_self,if_true,he.size,hp]
 ·exact hr.elim
theorem rIndexAddr_ok {t e:Nat} {ti te:TI} (h:FitsOne P t ti) (hel:ti.el=some e) (he:FitsOne P e te) {c i:C} {K:V→Prop} (hr:rIndexAddr L ti te c i K) :
 ∃ s,K s∧∀ (M0:Nat→Prop) (adr:Env) (L':List (Nat×Blk)) (n:Nat) (w:World) (x y:Value),(∀ k B,look L k=some B→look L' k=some B)→WOk M0 adr L' n w→DenC adr (Mut M0 adr L') w c x→DenC adr (Mut M0 adr L') w i y→
  ∃ v,(Instr.indexAt t x y).run P w=.ok v w∧DenV adr (Mut M0 adr L') w s v:=by
 obtain ⟨d,hd,_,_,_,_,hdel,hkd⟩:=h.desc
 rw[hel] at hdel
 have hsl:Nat.beq ti.kd 3=true→P.underlying t=some (.slice e):=fun hk=>by
  rw[Nat.eq_of_beq_eq_true hk] at hkd
  cases d <;> simp[kdOf] at hkd
  simp only[elOf,Option.some.injEq] at hdel;subst hdel;exact hd
 have har:∀ m,Nat.beq ti.kd 4=true→ti.sub=[m]→P.underlying t=some (.array m e):=fun m hk hm=>by
  rw[Nat.eq_of_beq_eq_true hk] at hkd
  have hsb:=h.sub
  rw[hd,hm] at hsb
  cases d <;> simp[kdOf] at hkd
  simp only[elOf,Option.some.injEq] at hdel;subst hdel
  simp only[Option.map_some,subOf,Option.some.injEq,List.cons.injEq,and_true] at hsb;subst hsb
  exact hd
 have runA:∀ (len:Nat) (hu:P.underlying t=some (.array len e)) (w:World) (b o:Nat) (k:IntKind) (m:Int),0≤m→m<(len:Int)→(Instr.indexAt t (.pointer (some ⟨b,o,none⟩)) (.int k m)).run P w=.ok (.pointer (some ⟨b,o+m.toNat * te.size,none⟩)) w:=by
  intro len hu w b o k m h0 h1
  simp only[Instr.indexAt,asIntOf,Sem.run_bind,Sem.run_pure,Result.andThen_ok,run_underlying hu,Instr.sureAddr,h0,h1,and_self,if_true,he.size,addr_add]
 have run:∀ (hk:Nat.beq ti.kd 3=true) (w:World) (b o len c:Nat) (k:IntKind) (m:Int),0≤m→m<(len:Int)→(Instr.indexAt t (.slice (some ⟨b,o,none⟩) len c) (.int k m)).run P w=.ok (.pointer (some ⟨b,o+m.toNat * te.size,none⟩)) w:=by
  intro hk w b o len c k m h0 h1
  simp only[Instr.indexAt,asIntOf,Sem.run_bind,Sem.run_pure,Result.andThen_ok,run_underlying (hsl hk),h0,h1,and_self,if_true,he.size,addr_add]
 unfold rIndexAddr at hr
 split at hr
 ·rename_i k m
  split at hr
  ·rename_i z l
   obtain ⟨hk,hr2⟩:=onB_ok hr
   obtain ⟨hz,hr3⟩:=onB_ok hr2
   obtain ⟨h0,r,hr4,hK⟩:=hr3
   have hz:=Nat.eq_of_beq_eq_true hz
   have hlt:m.toNat<l.length:=(List.getElem?_eq_some_iff.1 hr4).1
   refine ⟨_,hK,fun M0 adr L' n w x y hL hw hx hy=>?_⟩
   obtain rfl:=DenD.v_inv hy
   cases hx with
   | lst0=>simp at hr4
   | lst _ _ b o cp cs hb hM hl hc hlz hcell hden =>
    refine ⟨_,run hk w b o l.length cp k m h0 (by omega),?_⟩
    refine DenD.imm r b (o+m.toNat * te.size) (fun j=>cs m.toNat j) hb hM (fun j d hj=>?_) (fun j d hj=>?_)
    ·have:=hcell m.toNat j d (by simp[get2,hr4,hj])
     rw[hz] at this;exact this
    ·exact hden m.toNat j d (by simp[get2,hr4,hj])
  ·rename_i z kk
   obtain ⟨hk,hr2⟩:=onB_ok hr
   obtain ⟨hz,hr3⟩:=onB_ok hr2
   have hz:=Nat.eq_of_beq_eq_true hz
   split at hr3
   ·rename_i z' l e' hlk
    obtain ⟨⟨h0,h1⟩,hK⟩:=hr3
    refine ⟨_,hK,fun M0 adr L' n w x y hL hw hx hy=>?_⟩
    obtain rfl:=DenD.v_inv hy
    have hloc:=hw.loc kk _ (hL kk _ hlk)
    rcases hx with ⟨h5,rfl⟩|⟨b,q,cp,cur,ee,f,h5,h6,h7,h8,h9,rfl⟩
    ·rw[h5] at hloc
     obtain ⟨_,h6,_⟩:=hloc
     subst h6;simp at h1;omega
    ·rw[h5] at hloc
     have hq:l.length=q:=hloc.2.1
     refine ⟨_,run hk w b 0 q cp k m h0 (by omega),b,q,h5,?_⟩
     rw[hz];simp
   ·exact hr3.elim
  ·rename_i z kk a mm
   obtain ⟨hk,hr2⟩:=onB_ok hr
   obtain ⟨hz,hr3⟩:=onB_ok hr2
   have hz:=Nat.eq_of_beq_eq_true hz
   obtain ⟨⟨h0,h1⟩,hK⟩:=hr3
   refine ⟨_,hK,fun M0 adr L' n w x y hL hw hx hy=>?_⟩
   obtain rfl:=DenD.v_inv hy
   rcases hx with ⟨_,_,h2⟩|⟨_,h2,_⟩|⟨b,q,cp,cur,ee,f,h5,h6,h7,h8,h9,rfl⟩
   ·omega
   ·omega
   ·refine ⟨_,run hk w b (a * z) mm (cp - a) k m h0 h1,b,q,h5,?_⟩
    rw[hz,Nat.add_mul,Nat.add_zero]
  ·rename_i l
   obtain ⟨hk,hr2⟩:=onB_ok hr
   split at hr2
   ·rename_i mm hsub
    obtain ⟨⟨h0,h1⟩,r,hrr,hK⟩:=hr2
    refine ⟨_,hK,fun M0 adr L' n w x y hL hw hx hy=>?_⟩
    obtain rfl:=DenD.v_inv hy
    cases hx with
    | imm _ b o cs hb hM hcell hden =>
     refine ⟨_,runA mm (har mm hk hsub) w b o k m h0 h1,?_⟩
     have hget:∀ (j:Nat) d,r[j]?=some d→l[m.toNat * te.size+j]?=some d:=fun j d hj=>by
      rw[← hrr] at hj
      simp only[cut,List.getElem?_take,List.getElem?_drop] at hj
      split at hj
      ·exact hj
      ·cases hj
     refine DenD.imm r b (o+m.toNat * te.size) (fun j=>cs (m.toNat * te.size+j)) hb hM (fun j d hj=>?_) (fun j d hj=>hden _ d (hget j d hj))
     rw[Nat.add_assoc];exact hcell _ d (hget j d hj)
   ·exact hr2.elim
  ·rename_i kk o
   split at hr
   ·rename_i z l e' hlk
    obtain ⟨hk,hr2⟩:=onB_ok hr
    obtain ⟨hz,hr3⟩:=onB_ok hr2
    obtain ⟨ho,hr4⟩:=onB_ok hr3
    have hz:=Nat.eq_of_beq_eq_true hz
    have ho:=Nat.eq_of_beq_eq_true ho
    subst ho
    split at hr4
    ·rename_i mm hsub
     obtain ⟨⟨h0,h1⟩,hK⟩:=hr4
     refine ⟨_,hK,fun M0 adr L' n w x y hL hw hx hy=>?_⟩
     obtain rfl:=DenD.v_inv hy
     obtain ⟨b,q,h5,rfl⟩:=hx
     refine ⟨_,runA mm (har mm hk hsub) w b 0 k m h0 h1,b,q,h5,?_⟩
     rw[hz,Nat.zero_add,Nat.add_zero]
    ·exact hr4.elim
   ·obtain ⟨hk,hr2⟩:=onB_ok hr
    split at hr2
    ·rename_i mm hsub
     obtain ⟨⟨h0,h1⟩,hK⟩:=hr2
     refine ⟨_,hK,fun M0 adr L' n w x y hL hw hx hy=>?_⟩
     obtain rfl:=DenD.v_inv hy
     obtain ⟨b,q,h5,rfl⟩:=hx
     exact ⟨_,runA mm (har mm hk hsub) w b o k m h0 h1,b,q,h5,rfl⟩
    ·exact hr2.elim
  ·exact hr.elim
 ·exact hr.elim
theorem optInt_ok {adr:Env} {M:Nat→Prop} {w:World} {ev:Operand→Option V} {ρ:Operand→Value} {o:Option Operand} {r:Option Int} (h:optInt ev o=some r) (hx:∀ x,o=some x→∀ s,ev x=some s→DenV adr M w s (ρ x)) :
 (r=none∧o.map ρ=none)∨∃ k m,r=some m∧o.map ρ=some (.int k m):=by
 unfold optInt at h
 split at h
 ·cases h;exact .inl ⟨rfl,rfl⟩
 ·rename_i x
  split at h
  ·rename_i k m hs
   cases h
   have:=DenD.v_inv (hx x rfl _ hs)
   exact .inr ⟨k,m,rfl,by rw[Option.map_some,this]⟩
  ·cases h
theorem run_bounds {w:World} {isSlice:Bool} {len cap:Nat} {lo hi:Option Int} {vlo vhi:Option Value} (h1:(lo=none∧vlo=none)∨∃ k m,lo=some m∧vlo=some (.int k m)) (h2:(hi=none∧vhi=none)∨∃ k m,hi=some m∧vhi=some (.int k m))
 (hlc:len≤cap) (g1:0≤lo.getD 0) (g2:lo.getD 0≤hi.getD len) (g3:hi.getD len≤len):(Instr.sliceBounds isSlice len cap vlo vhi none).run P w=.ok ((lo.getD 0).toNat,(hi.getD len).toNat,cap) w:=by
 rcases h1 with ⟨rfl,rfl⟩|⟨k,m,rfl,rfl⟩ <;> rcases h2 with ⟨rfl,rfl⟩|⟨k',m',rfl,rfl⟩ <;> simp only[Option.getD_none,Option.getD_some] at g1 g2 g3
 ·simp[Instr.sliceBounds]
 ·have e1:(0≤m'∧m'≤(cap:Int))=True:=by simp;omega
  simp[Instr.sliceBounds,Instr.sliceBound,asIntOf,e1]
 ·have e1:(0≤m∧m≤(len:Int))=True:=by simp;omega
  simp[Instr.sliceBounds,Instr.sliceBound,asIntOf,e1]
 ·have e1:(0≤m'∧m'≤(cap:Int))=True:=by simp;omega
  have e2:(0≤m∧m≤max m' 0)=True:=by simp;omega
  simp[Instr.sliceBounds,Instr.sliceBound,asIntOf,e1,e2]
theorem rSlice_ok {t:Nat} {ti:TI} (h:FitsOne P t ti) {te:Option TI} (he:∀ te',te=some te'→∃ e,ti.kd=3∧ti.el=some e∧FitsOne P e te') {c:C} {lo hi:Option Int} {K:V→Prop} (hr:rSlice L ti te c lo hi none K) :
 ∃ s,K s∧∀ (M0:Nat→Prop) (adr:Env) (L':List (Nat×Blk)) (n:Nat) (w:World) (x:Value) (vlo vhi:Option Value),(∀ k B,look L k=some B→look L' k=some B)→WOk M0 adr L' n w→DenC adr (Mut M0 adr L') w c x→
  ((lo=none∧vlo=none)∨∃ k m,lo=some m∧vlo=some (.int k m))→((hi=none∧vhi=none)∨∃ k m,hi=some m∧vhi=some (.int k m))→
  ∃ v,(Instr.sliceAt t x vlo vhi none).run P w=.ok v w∧DenV adr (Mut M0 adr L') w s v:=by
 obtain ⟨d,hd,_,_,_,_,hdel,hkd⟩:=h.desc
 have hsl:∀ te',Nat.beq ti.kd 3=true→te=some te'→∃ e,P.underlying t=some (.slice e)∧FitsOne P e te':=fun te' hk hte'=>by
  obtain ⟨e,h1,h2,h3⟩:=he te' hte'
  rw[h1] at hkd
  rw[h2] at hdel
  cases d <;> simp[kdOf] at hkd
  simp only[elOf,Option.some.injEq] at hdel;subst hdel
  exact ⟨_,hd,h3⟩
 have run:∀ (w:World) (te':TI) (hk:Nat.beq ti.kd 3=true) (hte':te=some te') (a:Option Addr) (len cap:Nat) (vlo vhi:Option Value),((lo=none∧vlo=none)∨∃ k m,lo=some m∧vlo=some (.int k m))→((hi=none∧vhi=none)∨∃ k m,hi=some m∧vhi=some (.int k m))→
  len≤cap→0≤lo.getD 0→lo.getD 0≤hi.getD len→hi.getD len≤len→
  (Instr.sliceAt t (.slice a len cap) vlo vhi none).run P w=.ok (.slice (if cap=(lo.getD 0).toNat then a else a.map (·.add ((lo.getD 0).toNat * te'.size))) ((hi.getD len).toNat - (lo.getD 0).toNat) (cap - (lo.getD 0).toNat)) w:=by
  intro w te' hk hte' a len cap vlo vhi h1 h2 hlc g1 g2 g3
  obtain ⟨e,hu,hfe⟩:=hsl te' hk hte'
  simp only[Instr.sliceAt,Sem.run_bind,run_underlying hu,Result.andThen_ok,Instr.slice,run_bounds h1 h2 hlc g1 g2 g3,hfe.size,Sem.run_pure]
 unfold rSlice at hr
 simp only at hr
 split at hr
 ·rename_i l
  obtain ⟨hk,hr2⟩:=onB_ok hr
  obtain ⟨⟨g1,g2,g3⟩,hK⟩:=hr2
  refine ⟨_,hK,fun M0 adr L' n w x vlo vhi hL hw hx h1 h2=>?_⟩
  obtain rfl:=DenD.str_inv hx
  rw[Nat.eq_of_beq_eq_true hk] at hkd
  have hstr:P.underlying t=some .string:=by cases d <;> simp[kdOf] at hkd;exact hd
  have hsz:(⟨l.toArray⟩:ByteArray).size=l.length:=by simp[ByteArray.size]
  refine ⟨_,?_,.str _⟩
  simp only[Instr.sliceAt,Sem.run_bind,run_underlying hstr,Result.andThen_ok,Instr.slice,Option.isSome_none,Bool.false_eq_true,if_false,hsz,run_bounds h1 h2 (Nat.le_refl _) g1 g2 g3,Sem.run_pure]
  congr 2
  apply ByteArray.ext
  apply Array.ext'
  simp[ByteArray.data_extract,List.extract_eq_take_drop,List.drop_take]
 ·rename_i z l
  obtain ⟨hk,hr2⟩:=onB_ok hr
  split at hr2
  ·rename_i te'
   obtain ⟨hz,⟨g1,g2,g3⟩,hK⟩:=onB_ok hr2
   have hz:=Nat.eq_of_beq_eq_true hz
   refine ⟨_,hK,fun M0 adr L' n w x vlo vhi hL hw hx h1 h2=>?_⟩
   have hlen:((l.take (hi.getD l.length).toNat).drop (lo.getD 0).toNat).length=(hi.getD l.length).toNat - (lo.getD 0).toNat:=by simp;omega
   generalize hlo:(lo.getD 0).toNat=a1 at *
   cases hx with
   | lst0 _ a c hc =>
    have e0:(hi.getD 0).toNat=0:=by simp at g3;omega
    have e1:a1=0:=by simp at g2 g3;omega
    have hr:=run w te' hk rfl a 0 c vlo vhi h1 h2 (by omega) g1 g2 g3
    refine ⟨_,hr,?_⟩
    simp only[List.take_nil,List.drop_nil]
    rw[e1]
    have:(hi.getD ↑(0:Nat)).toNat - 0=0:=by simpa using e0
    rw[this]
    exact DenD.lst0 _ _ _ (by omega)
   | lst _ _ b o cp cs hb hM hl hc hlz hcell hden =>
    have hr:=run w te' hk rfl (some ⟨b,o,none⟩) l.length cp vlo vhi h1 h2 hl g1 g2 g3
    refine ⟨_,hr,?_⟩
    by_cases hcp:cp=a1
    ·have h0:(hi.getD l.length).toNat - a1=0:=by omega
     rw[if_pos hcp,h0]
     have hnil:(l.take (hi.getD l.length).toNat).drop a1=[]:=List.eq_nil_of_length_eq_zero (by rw[hlen];exact h0)
     rw[hnil]
     exact DenD.lst0 _ _ _ (by omega)
    ·rw[if_neg hcp]
     simp only[Option.map_some,addr_add]
     rw[← hlen]
     have hget:∀ i j d,get2 ((l.take (hi.getD l.length).toNat).drop a1) i j=some d→get2 l (a1+i) j=some d:=by
      intro i j d hg
      simp only[get2,Option.bind_eq_some_iff,List.getElem?_drop,List.getElem?_take] at hg ⊢
      obtain ⟨r,hr1,hr2⟩:=hg
      split at hr1
      ·exact ⟨r,hr1,hr2⟩
      ·cases hr1
     refine DenD.lst z _ b (o+a1 * te'.size) (cp - a1) (fun i j=>cs (a1+i) j) hb hM (by rw[hlen];omega) (by omega) (fun e he=>hlz e (List.mem_of_mem_take (List.mem_of_mem_drop he))) (fun i j d hg=>?_) (fun i j d hg=>hden _ _ _ (hget i j d hg))
     have:=hcell (a1+i) j d (hget i j d hg)
     rw[Nat.add_mul] at this
     rw[← hz]
     simpa[Nat.add_assoc] using this
  ·exact hr2.elim
 ·rename_i z k
  obtain ⟨hk,hr2⟩:=onB_ok hr
  split at hr2
  ·rename_i te' z' l e' hlk
   obtain ⟨hz,⟨g1,g2,g3⟩,hK⟩:=onB_ok hr2
   have hz:=Nat.eq_of_beq_eq_true hz
   refine ⟨_,hK,fun M0 adr L' n w x vlo vhi hL hw hx h1 h2=>?_⟩
   have hloc:=hw.loc k _ (hL k _ hlk)
   generalize hlo:(lo.getD 0).toNat=a1 at *
   rcases hx with ⟨h5,rfl⟩|⟨b,q,cp,cur,ee,f,h5,h6,h7,h8,h9,rfl⟩
   ·rw[h5] at hloc
    obtain ⟨_,h6,_⟩:=hloc
    subst h6
    have e0:(hi.getD 0).toNat=0:=by simp at g3;omega
    have e1:a1=0:=by simp at g2 g3;omega
    have hr:=run w te' hk rfl none 0 0 vlo vhi h1 h2 (by omega) g1 g2 g3
    refine ⟨_,hr,.inl ⟨?_,e1,by simpa[e1] using e0⟩⟩
    simp[e1,e0]
   ·rw[h5] at hloc
    have hq:l.length=q:=hloc.2.1
    subst hq
    have hr:=run w te' hk rfl (some ⟨b,0,none⟩) l.length cp vlo vhi h1 h2 h8 g1 g2 g3
    refine ⟨_,hr,?_⟩
    by_cases hcp:cp=a1
    ·have h0:(hi.getD l.length).toNat - a1=0:=by omega
     rw[if_pos hcp]
     rcases Nat.eq_zero_or_pos a1 with e1|e1
     ·refine .inr (.inr ⟨b,_,cp,cur,ee,f,h5,h6,h7,by omega,h9,?_⟩)
      simp[e1]
     ·exact .inr (.inl ⟨by omega,h0,some ⟨b,0,none⟩,cp - a1,by omega,by rw[h0]⟩)
    ·rw[if_neg hcp]
     refine .inr (.inr ⟨b,_,cp,cur,ee,f,h5,h6,h7,by omega,h9,?_⟩)
     simp[addr_add,hz]
  ·exact hr2.elim
 ·rename_i z k i m
  obtain ⟨hk,hr2⟩:=onB_ok hr
  split at hr2
  ·rename_i te'
   obtain ⟨hz,⟨g1,g2,g3⟩,hK⟩:=onB_ok hr2
   have hz:=Nat.eq_of_beq_eq_true hz
   refine ⟨_,hK,fun M0 adr L' n w x vlo vhi hL hw hx h1 h2=>?_⟩
   generalize hlo:(lo.getD 0).toNat=a1 at *
   rcases hx with ⟨rfl,rfl,rfl⟩|⟨h5,rfl,a,c,h6,rfl⟩|⟨b,q,cp,cur,ee,f,h5,h6,h7,h8,h9,rfl⟩
   ·have e0:(hi.getD 0).toNat=0:=by simp at g3;omega
    have e1:a1=0:=by simp at g2 g3;omega
    have hr:=run w te' hk rfl none 0 0 vlo vhi h1 h2 (by omega) g1 g2 g3
    refine ⟨_,hr,.inl ⟨?_,by omega,by simpa[e1] using e0⟩⟩
    simp[e1,e0]
   ·have e0:(hi.getD 0).toNat=0:=by simp at g3;omega
    have e1:a1=0:=by simp at g2 g3;omega
    have hr:=run w te' hk rfl a 0 c vlo vhi h1 h2 (by omega) g1 g2 g3
    have e2:(hi.getD ((0:Nat):Int)).toNat - a1=0:=by rw[e1];simpa using e0
    refine ⟨_,hr,.inr (.inl ⟨by omega,e2,(if c=a1 then a else a.map (·.add (a1 * te'.size))),c - a1,by omega,?_⟩)⟩
    rw[e2]
   ·have hr:=run w te' hk rfl (some ⟨b,i * z,none⟩) m (cp - i) vlo vhi h1 h2 (by omega) g1 g2 g3
    refine ⟨_,hr,?_⟩
    by_cases hcp:cp - i=a1
    ·have h0:(hi.getD m).toNat - a1=0:=by omega
     rw[if_pos hcp]
     rcases Nat.eq_zero_or_pos (i+a1) with e1|e1
     ·refine .inr (.inr ⟨b,_,cp,cur,ee,f,h5,h6,h7,by omega,h9,?_⟩)
      have e2:i=0:=by omega
      have e3:a1=0:=by omega
      simp[e2,e3]
     ·exact .inr (.inl ⟨by omega,h0,some ⟨b,i * z,none⟩,cp - i - a1,by omega,by rw[h0]⟩)
    ·rw[if_neg hcp]
     refine .inr (.inr ⟨b,_,cp,cur,ee,f,h5,h6,h7,by omega,h9,?_⟩)
     simp only[Option.map_some,addr_add,hz,Nat.add_mul]
     rw[Nat.sub_sub]
  ·exact hr2.elim
 ·exact hr.elim
theorem cellsOf_ok {adr:Env} {M:Nat→Prop} {w:World} {s:V} {l:List C} {x:Value} (h:cellsOf s=some l) (hx:DenV adr M w s x):DenCs adr M w l x.cells.toList:=by
 have one:∀ c:C,DenC adr M w c x→(∀ a,x≠.agg a)→DenCs adr M w [c] x.cells.toList:=fun c hc hn=>by
  have:x.cells=#[x]:=by cases x <;> first|rfl|exact absurd rfl (hn _)
  rw[this];exact ⟨hc,trivial⟩
 unfold cellsOf at h
 split at h
 ·cases h;obtain ⟨xs,rfl,h1⟩:=hx;simpa[Value.cells] using h1
 ·cases h
 ·cases h
 ·cases h
 ·cases h
 ·cases h
 ·rename_i c hn1 hn2 hn3 hn4 hn5
  cases h
  refine one c hx (fun a ha=>?_)
  subst ha
  cases c with
  | d d=>cases hx with
   | v=>exact hn1 _ rfl
   | agg=>exact hn3 _ rfl
  | ptr k o=>obtain ⟨b,m,_,h2⟩:=hx;cases h2
  | elt z k i o=>obtain ⟨b,m,_,h2⟩:=hx;cases h2
  | own z k i n=>rcases hx with ⟨h1,_⟩|⟨_,_,_,_,_,h1⟩|⟨_,_,_,_,_,_,_,_,_,_,_,h1⟩ <;> cases h1
  | all z k=>rcases hx with ⟨_,h1⟩|⟨_,_,_,_,_,_,_,_,_,_,_,h1⟩ <;> cases h1
  | fn f cs=>obtain ⟨xs,h1,_⟩:=hx;cases h1
  | mref k=>obtain ⟨b,m,_,h2⟩:=hx;cases h2
  | junk=>exact hn5 rfl
 ·cases h
theorem foldl_set (vs:List Value):∀ (off k:Nat) (cs:Array Value),off+k+vs.length≤cs.size→
 ((vs.zipIdx k).foldl (fun cs (p:Value×Nat)=>cs.setIfInBounds (off+p.2) p.1) cs).toList=cs.toList.take (off+k)++vs++cs.toList.drop (off+k+vs.length):=by
 induction vs with
 | nil=>intro off k cs _;simp
 | cons v r ih =>
  intro off k cs h
  simp only[List.length_cons] at h
  simp only[List.zipIdx_cons,List.foldl_cons]
  rw[ih off (k+1) _ (by simp;omega)]
  simp only[Array.toList_setIfInBounds,List.length_cons]
  have e1:(cs.toList.set (off+k) v).take (off+(k+1))=cs.toList.take (off+k)++[v]:=by
   rw[show off+(k+1)=off+k+1 by omega,List.take_add_one,List.take_set_of_le (Nat.le_refl _)]
   simp[show off+k<cs.size by omega]
  have e2:(cs.toList.set (off+k) v).drop (off+(k+1)+r.length)=cs.toList.drop (off+k+(r.length+1)):=by
   rw[List.drop_set_of_lt (by omega)]
   congr 1;omega
  rw[e1,e2];simp
def All2P (adr:Env) (M:Nat→Prop) (w:World) (ps:List (Nat×V)) (qs:List (Nat×Value)):Prop:=All2 (fun p q=>p.1=q.1∧DenV adr M w p.2 q.2) ps qs
theorem fillC_ok {adr:Env} {M:Nat→Prop} {w:World} {flds:List (Nat×Nat)}:∀ {ps:List (Nat×V)} {qs:List (Nat×Value)} {cells out:List C} {xs:List Value},fillC flds cells ps=some out→DenCs adr M w cells xs→All2P adr M w ps qs→
 ∃ ys:List Value,DenCs adr M w out ys∧Instr.fill (fun i=>flds[i]?) xs.toArray qs=some ys.toArray
 | [],[],cells,out,xs,h,hc,_=>by simp only[fillC,Option.some.injEq] at h;subst h;exact ⟨xs,hc,rfl⟩
 | [],_::_,_,_,_,_,_,hp=>hp.elim
 | _::_,[],_,_,_,_,_,hp=>hp.elim
 | (i,s)::r,(i',u)::qs,cells,out,xs,h,hc,hp=>by
  obtain ⟨⟨hi,hu⟩,hp2⟩:=hp
  simp only at hi hu
  subst hi
  simp only[fillC] at h
  split at h
  ·rename_i off sz l hf hl
   rw[nth_eq] at hf
   have hd:=cellsOf_ok hl hu
   cases hb:Nat.beq l.length sz with
   | false=>rw[hb] at h;cases h
   | true =>
    rw[hb] at h
    cases hb2:Nat.ble (off+l.length) cells.length with
    | false=>rw[hb2] at h;cases h
    | true =>
     rw[hb2] at h
     simp only[cond_true] at h
     have e1:=Nat.eq_of_beq_eq_true hb
     have e2:=Nat.le_of_ble_eq_true hb2
     have hl1:=All2.length hd
     have hl2:=All2.length hc
     obtain ⟨ys,h3,h4⟩:=fillC_ok h (All2.over (o:=off) hc hd) hp2
     refine ⟨ys,h3,?_⟩
     have hsz:u.cells.size=l.length:=by rw[← Array.length_toList,hl1]
     have hov:u.cells.zipIdx.foldl (fun cs (x:Value×Nat)=>cs.setIfInBounds (off+x.2) x.1) xs.toArray=(over xs off u.cells.toList).toArray:=by
      apply Array.ext'
      rw[← Array.foldl_toList,Array.toList_zipIdx]
      have:=foldl_set u.cells.toList off 0 xs.toArray (by simp at hl1 hl2 ⊢;omega)
      rw[this]
      simp[over]
     simp only[Instr.fill,hf]
     rw[if_neg (by simp[hsz,e1];omega)]
     rw[hov]
     exact h4
  ·cases h
theorem pvals_ok {adr:Env} {M:Nat→Prop} {w:World} {ev:Operand→Option V} {ρ:Operand→Value}:∀ {ps:List (Nat×Operand)} {l:List (Nat×V)},pvals ev ps=some l→(∀ x ∈ ps.map (·.2),∀ s,ev x=some s→DenV adr M w s (ρ x))→All2P adr M w l (ps.map fun p=>(p.1,ρ p.2))
 | [],l,hl,_=>by simp only[pvals,Option.some.injEq] at hl;subst hl;trivial
 | (i,y)::r,l,hl,hx=>by
  simp only[pvals] at hl
  split at hl
  ·rename_i s l' hs hr
   cases hl
   exact ⟨⟨rfl,hx y (by simp) s hs⟩,pvals_ok hr (fun x hx'=>hx x (by simp only[List.map_cons,List.mem_cons];exact .inr hx'))⟩
  ·cases hl
theorem FitsOne.built {t:Nat} {ti:TI} (h:FitsOne P t ti) (_hel:ti.el=none) (hne:ti.flds≠[]) (ps:List (Nat×Value)):P.built t ps=Instr.fill (fun i=>ti.flds[i]?) (ti.zero.map undD).toArray ps:=by
 obtain ⟨d,hd,_,hfl,_,_,he,_⟩:=h.desc
 obtain ⟨i,z,hq,_,_,hz,hzc⟩:=h.infoE
 have hzc':z.cells=(ti.zero.map undD).toArray:=by rw[← hzc]
 cases d with
 | struct fs =>
  simp only[fldsOf] at hfl
  simp only[Program.built,hq,hd,hz,hfl,hzc']
  simp
 | _=>simp only[fldsOf,Option.some.injEq] at hfl;exact absurd hfl.symm hne
theorem fill_arr {m s:Nat}:∀ {qs:List (Nat×Value)} {xs ys:Array Value},Instr.fill (fun i=>(arrFl m s)[i]?) xs qs=some ys→Instr.fill (fun i=>some (i * s,s)) xs qs=some ys
 | [],_,_,h=>h
 | (i,v)::r,xs,ys,h=>by
  unfold Instr.fill at h ⊢
  by_cases hi:i<m
  ·have e:(arrFl m s)[i]?=some (i * s,s):=by
    unfold arrFl
    rw[List.getElem?_map,List.getElem?_range hi]
    rfl
   simp only[e] at h
   simp only
   split at h
   ·cases h
   ·rename_i hc
    rw[if_neg hc]
    exact fill_arr h
  ·have e:(arrFl m s)[i]?=none:=by
    unfold arrFl
    rw[List.getElem?_eq_none]
    rw[List.length_map,List.length_range]
    omega
   simp only[e] at h
   cases h
theorem rBuild_ok {tt:List (Nat×TI)} (hT:Fits P tt) {t:Nat} {ti:TI} (h:FitsOne P t ti) {ev:Operand→Option V} {ps:List (Nat×Operand)} {K:V→Prop} (hr:rBuild tt ti (pvals ev ps) K) :
 ∃ s,K s∧∀ (adr:Env) (M:Nat→Prop) (w:World) (ρ:Operand→Value),(∀ x ∈ ps.map (·.2),∀ s,ev x=some s→DenV adr M w s (ρ x))→∃ v,(∀ w',(Instr.build t (ps.map fun p=>(p.1,ρ p.2)).toArray).run P w'=.ok v w')∧DenV adr M w s v:=by
 unfold rBuild at hr
 split at hr
 ·rename_i l hp
  split at hr
  ·rename_i e hfl hel
   split at hr
   ·rename_i m hsub
    obtain ⟨hk,hr⟩:=onB_ok hr
    obtain ⟨te,hte,hr⟩:=onT_ok hr
    split at hr
    ·rename_i out hout
     refine ⟨_,hr,fun adr M w ρ hx=>?_⟩
     have hz:DenCs adr M w (ti.zero.map C.d) (ti.zero.map undD):=All2.map_left.2 (h.zeroDen M w)
     obtain ⟨ys,h1,h2⟩:=fillC_ok hout hz (pvals_ok hp hx)
     obtain ⟨d,hd,_,_,_,_,hde,hdk⟩:=h.desc
     obtain ⟨i,z,hq,_,_,hzz,hzc⟩:=h.infoE
     obtain ⟨ie,_,hqe,hse,_⟩:=(hT e te hte).infoE
     have hzc':z.cells=(ti.zero.map undD).toArray:=by rw[← hzc]
     rw[Nat.eq_of_beq_eq_true hk] at hdk
     rw[hel] at hde
     refine ⟨_,?_,ys,rfl,h1⟩
     cases d with
     | array n e' =>
      obtain rfl:e'=e:=by simpa[elOf] using hde
      refine fun w'=>run_build w' t _ _ ?_
      simp only[Program.built,hq,hd,hzz,hqe,hse,hzc']
      have h3:=fill_arr h2
      simpa using h3
     | _=>simp[kdOf] at hdk
    ·exact hr.elim
   ·exact hr.elim
  ·rename_i f0 fr0 hfl hel
   split at hr
   ·refine ⟨_,hr,fun adr M w ρ hx=>⟨.agg (ti.zero.map undD).toArray,?_,.v _⟩⟩
    have h0:=pvals_ok (adr:=adr) (M:=M) (w:=w) (ρ:=ρ) hp hx
    have e:ps=[]:=by
     cases ps with
     | nil=>rfl
     | cons p r=>exact h0.elim
    subst e
    exact fun w'=>run_build w' t _ _ (by rw[h.built hel (by rw[hfl];simp)];rfl)
   ·exact hr.elim
   ·split at hr
    ·rename_i out hout
     refine ⟨_,hr,fun adr M w ρ hx=>?_⟩
     have hz:DenCs adr M w (ti.zero.map C.d) (ti.zero.map undD):=All2.map_left.2 (h.zeroDen M w)
     obtain ⟨ys,h1,h2⟩:=fillC_ok hout hz (pvals_ok hp hx)
     refine ⟨_,?_,ys,rfl,h1⟩
     exact fun w'=>run_build w' t _ _ (by rw[h.built hel (by rw[hfl];simp)];simpa using h2)
    ·exact hr.elim
  ·exact hr.elim
 ·exact hr.elim
theorem rLen_ok {t:Nat} {ti:TI} (h:FitsOne P t ti) {c:C} {K:V→Prop} (hr:rLen L ti c K) :
 ∃ s,K s∧∀ (M0:Nat→Prop) (adr:Env) (L':List (Nat×Blk)) (n:Nat) (w:World) (x:Value) (ty:TypeId),(∀ k B,look L k=some B→look L' k=some B)→WOk M0 adr L' n w→DenC adr (Mut M0 adr L') w c x→
  ∃ v,(Builtin.len_ #[t] ty #[x]).run P w=.ok v w∧DenV adr (Mut M0 adr L') w s v:=by
 obtain ⟨d,hd,_,_,_,_,hdel,hkd⟩:=h.desc
 have hsl:Nat.beq ti.kd 3=true→∃ e,P.underlying t=some (.slice e):=fun hk=>by
  rw[Nat.eq_of_beq_eq_true hk] at hkd
  cases d <;> simp[kdOf] at hkd
  exact ⟨_,hd⟩
 have run:∀ (hk:Nat.beq ti.kd 3=true) (w:World) (ty:TypeId) (a:Option Addr) (m c:Nat),(Builtin.len_ #[t] ty #[.slice a m c]).run P w=.ok (.int .i64 (m:Int)) w:=by
  intro hk w ty a m c
  obtain ⟨e,he⟩:=hsl hk
  simp[Builtin.len_,run_underlying he,goInt]
 unfold rLen at hr
 split at hr
 ·obtain ⟨hk,hr2⟩:=onB_ok hr
  refine ⟨_,hr2,fun M0 adr L' n w x ty hL hw hx=>?_⟩
  obtain rfl:=DenD.str_inv hx
  rw[Nat.eq_of_beq_eq_true hk] at hkd
  have hstr:P.underlying t=some .string:=by cases d <;> simp[kdOf] at hkd;exact hd
  rename_i l
  refine ⟨.int .i64 (l.length:Int),?_,.v _⟩
  have hsz:(⟨l.toArray⟩:ByteArray).size=l.length:=rfl
  simp[Builtin.len_,run_underlying hstr,goInt,hsz]
 ·rename_i z l
  obtain ⟨hk,hr2⟩:=onB_ok hr
  refine ⟨_,hr2,fun M0 adr L' n w x ty hL hw hx=>?_⟩
  cases hx with
  | lst0=>exact ⟨_,run hk _ _ _ _ _,.v _⟩
  | lst=>exact ⟨_,run hk _ _ _ _ _,.v _⟩
 ·obtain ⟨hk,hr2⟩:=onB_ok hr
  refine ⟨_,hr2,fun M0 adr L' n w x ty hL hw hx=>?_⟩
  obtain rfl:=DenD.v_inv hx
  exact ⟨_,run hk _ _ _ _ _,.v _⟩
 ·rename_i z k
  obtain ⟨hk,hr2⟩:=onB_ok hr
  split at hr2
  ·rename_i z' l e hlk
   refine ⟨_,hr2,fun M0 adr L' n w x ty hL hw hx=>?_⟩
   have hloc:=hw.loc k _ (hL k _ hlk)
   rcases hx with ⟨h5,rfl⟩|⟨b,q,cp,cur,ee,f,h5,h6,h7,h8,h9,rfl⟩
   ·rw[h5] at hloc
    obtain ⟨_,h6,_⟩:=hloc
    subst h6
    exact ⟨_,run hk _ _ _ _ _,.v _⟩
   ·rw[h5] at hloc
    have hq:l.length=q:=hloc.2.1
    subst hq
    exact ⟨_,run hk _ _ _ _ _,.v _⟩
  ·exact hr2.elim
 ·rename_i z k i m
  obtain ⟨hk,hr2⟩:=onB_ok hr
  refine ⟨_,hr2,fun M0 adr L' n w x ty hL hw hx=>?_⟩
  rcases hx with ⟨rfl,h1,h2⟩|⟨_,h2,a,c,_,rfl⟩|⟨b,q,cp,cur,ee,f,h5,h6,h7,h8,h9,rfl⟩
  ·subst h2;exact ⟨_,run hk _ _ _ _ _,.v _⟩
  ·subst h2;exact ⟨_,run hk _ _ _ _ _,.v _⟩
  ·exact ⟨_,run hk _ _ _ _ _,.v _⟩
 ·rename_i k
  obtain ⟨hk,hr2⟩:=onB_ok hr
  split at hr2
  ·rename_i ks vs hlk
   refine ⟨_,hr2,fun M0 adr L' n w x ty hL hw hx=>?_⟩
   obtain ⟨b,m,h1,rfl⟩:=hx
   have hloc:=hw.loc k _ (hL k _ hlk)
   rw[h1] at hloc
   obtain ⟨es,cl,h2,h3⟩:=hloc
   rw[Nat.eq_of_beq_eq_true hk] at hkd
   cases d <;> simp[kdOf] at hkd
   refine ⟨.int .i64 (ks.length:Int),?_,.v _⟩
   rw[h3.1]
   simp[Builtin.len_,run_underlying hd,MapKept.run_getObj_map h2,goInt]
  ·exact hr2.elim
 ·rename_i ks vs
  obtain ⟨hk,hr2⟩:=onB_ok hr
  refine ⟨_,hr2,fun M0 adr L' n w x ty hL hw hx=>?_⟩
  rw[Nat.eq_of_beq_eq_true hk] at hkd
  cases d <;> simp[kdOf] at hkd
  cases hx with
  | mp0=>exact ⟨.int .i64 0,by simp[Builtin.len_,run_underlying hd,goInt],.v _⟩
  | mp _ _ b es cl hb hM hh hkl hv hn hkey hden =>
   refine ⟨.int .i64 (ks.length:Int),?_,.v _⟩
   rw[hkl]
   simp[Builtin.len_,run_underlying hd,MapKept.run_getObj_map hh,goInt]
 ·obtain ⟨hk,hr2⟩:=onB_ok hr
  refine ⟨_,hr2,fun M0 adr L' n w x ty hL hw hx=>?_⟩
  rw[Nat.eq_of_beq_eq_true hk] at hkd
  cases d <;> simp[kdOf] at hkd
  obtain rfl:=DenD.v_inv hx
  exact ⟨.int .i64 0,by simp[Builtin.len_,run_underlying hd,goInt],.v _⟩
 ·exact hr.elim
theorem rMinMax_ok {mn:Bool} {c d:C} {K:V→Prop} (hr:rMinMax mn c d K):∃ s,K s∧∀ (adr:Env) (M:Nat→Prop) (w:World) (x y:Value) (ts:Array TypeId) (ty:TypeId),DenC adr M w c x→DenC adr M w d y→
 ∃ v,(match mn with|true=>(Builtin.min_ ts ty #[x,y]).run P w|false=>(Builtin.max_ ts ty #[x,y]).run P w)=.ok v w∧DenV adr M w s v:=by
 unfold rMinMax at hr
 split at hr
 ·rename_i k a k' b
  obtain ⟨hk,hr2⟩:=onB_ok hr
  obtain rfl:=ikeq_ok hk
  cases mn with
  | true =>
   refine ⟨_,hr2,fun adr M w x y ts ty hx hy=>?_⟩
   obtain rfl:=DenD.v_inv hx
   obtain rfl:=DenD.v_inv hy
   exact ⟨_,by simp[Builtin.min_,Builtin.min2],.v _⟩
  | false =>
   refine ⟨_,hr2,fun adr M w x y ts ty hx hy=>?_⟩
   obtain rfl:=DenD.v_inv hx
   obtain rfl:=DenD.v_inv hy
   exact ⟨_,by simp[Builtin.max_,Builtin.max2],.v _⟩
 ·exact hr.elim
end
section
variable {P:Program} {L:List (Nat×Blk)}
theorem mapOf_ok {c:C} {K:List D→List D→Prop} (h:mapOf L c K):∃ ks vs,K ks vs∧∀ (M0:Nat→Prop) (adr:Env) (L':List (Nat×Blk)) (n:Nat) (w:World) (x:Value),(∀ k B,look L k=some B→look L' k=some B)→WOk M0 adr L' n w→DenC adr (Mut M0 adr L') w c x→
 (x=.map none∧ks=[]∧vs=[])∨∃ (b:Nat) (es:Array MapEntry) (cl:Nat),x=.map (some b)∧w.heap[b]?=some (.map es cl)∧MapOk (Mut M0 adr L') w ks vs es:=by
 unfold mapOf at h
 split at h
 ·rename_i k
  split at h
  ·rename_i ks vs hk
   refine ⟨ks,vs,h,fun M0 adr L' n w x hL hw hx=>.inr ?_⟩
   obtain ⟨b,m,h1,rfl⟩:=hx
   have hloc:=hw.loc k _ (hL k _ hk)
   rw[h1] at hloc
   obtain ⟨es,cl,h2,h3⟩:=hloc
   exact ⟨b,es,cl,rfl,h2,h3⟩
  ·exact h.elim
 ·rename_i ks vs
  refine ⟨ks,vs,h,fun M0 adr L' n w x hL hw hx=>?_⟩
  cases hx with
  | mp0=>exact .inl ⟨rfl,rfl,rfl⟩
  | mp _ _ b es cl hb hM hh hk hv hn hkey hden=>exact .inr ⟨b,es,cl,rfl,hh,hk,hv,hn,hkey,hden⟩
 ·refine ⟨[],[],h,fun M0 adr L' n w x hL hw hx=>.inl ?_⟩
  exact ⟨DenD.v_inv hx,rfl,rfl⟩
 ·exact h.elim
theorem keyOfV_ok {s:V} {d:D} (h:keyOfV s=some d) {adr:Env} {M:Nat→Prop} {w:World} {x:Value} (hx:DenV adr M w s x):DenD M w d x:=by
 unfold keyOfV at h
 split at h
 ·cases h;exact hx
 ·split at h
  ·rename_i l ds hds
   cases h
   obtain ⟨xs,rfl,h1⟩:=hx
   rw[dsOf_ok hds] at h1
   exact DenD.agg_mk ((All2.map_left (R:=DenC adr M w) (f:=C.d)).1 h1)
  ·cases h
 ·cases h
theorem lookR_den {adr:Env} {M:Nat→Prop} {w:World} {s:V} {v:Value} (hn:∀ l,s≠.tup l) (h:DenV adr M w s v) (ok b:Bool):DenV adr M w (lookR ok s b) (if ok=true then .tuple #[v,.bool b] else v):=by
 cases ok with
 | false=>exact h
 | true =>
  cases s with
  | c c=>exact ⟨[v,.bool b],rfl,⟨c,rfl,h⟩,⟨_,rfl,.v _⟩,trivial⟩
  | agg l =>
   obtain ⟨xs,h1,h2⟩:=h
   exact ⟨[v,.bool b],rfl,⟨xs,h1,h2⟩,⟨_,rfl,.v _⟩,trivial⟩
  | tup l=>exact absurd rfl (hn l)
theorem kd9 {t kt et:Nat} {ti:TI} (h:FitsOne P t ti) (h9:Nat.beq ti.kd 9=true) (hs:ti.sub=[kt,et]):P.underlying t=some (.map kt et):=by
 obtain ⟨d,hd,_,_,_,_,_,hkd⟩:=h.desc
 have hsub:=h.sub
 rw[hd,hs] at hsub
 rw[Nat.eq_of_beq_eq_true h9] at hkd
 cases d <;> simp[kdOf] at hkd
 simp[subOf] at hsub
 rw[hd,hsub.1,hsub.2]
theorem rLookup_ok {tt:List (Nat×TI)} (hT:Fits P tt) {t:Nat} {ti:TI} (h:FitsOne P t ti) {c:C} {kv:V} {ok:Bool} {K:V→Prop} (hr:rLookup P tt L ti c kv ok K) :
 ∃ s,K s∧∀ (M0:Nat→Prop) (adr:Env) (L':List (Nat×Blk)) (n:Nat) (w:World) (x y:Value),(∀ k B,look L k=some B→look L' k=some B)→WOk M0 adr L' n w→DenC adr (Mut M0 adr L') w c x→DenV adr (Mut M0 adr L') w kv y→
  ∃ v,(Instr.lookup t x y ok).run P w=.ok v w∧DenV adr (Mut M0 adr L') w s v:=by
 obtain ⟨h9,hr⟩:=onB_ok hr
 split at hr
 ·rename_i kt et kd hsub hkd
  have ht:=kd9 h h9 hsub
  obtain ⟨te,hle,hr⟩:=onT_ok hr
  obtain ⟨ks,vs,⟨s,⟨hK,hks,hall⟩,hz,hr⟩,hmap⟩:=mapOf_ok hr
  have hfe:=hT et te hle
  obtain ⟨i,z,hi,_,_,hzz,hzc⟩:=hfe.infoE
  have hzv:z=zeroW te:=by
   rw[hi] at hz
   simp only[Option.bind_some] at hz
   rw[hzz] at hz
   exact Option.some.inj hz
  have hzr:∀ w,(zeroValue et).run P w=.ok (zeroW te) w:=fun w=>by
   simp only[zeroValue,typeInfo,Sem.run_bind,run_program,Result.andThen_ok,hi,hzz,Sem.run_pure,hzv]
  obtain ⟨xk,hxk⟩:=keyS_some hks
  have hzd:∀ (adr:Env) (M:Nat→Prop) (w:World),DenV adr M w (zeroV te) (zeroW te):=fun adr M w=>by
   have hd:=hfe.zeroDen M w
   unfold zeroV zeroW
   split
   ·exact ⟨_,rfl,All2.map_left.2 hd⟩
   ·split
    ·rename_i d hd1
     rw[hd1] at hd
     obtain ⟨y,h1,h2⟩:=All2.one_iff.1 hd
     rw[hd1,h1]
     exact h2
    ·exact trivial
  have hzn:∀ l,zeroV te≠.tup l:=fun l=>by unfold zeroV;split <;> (try split) <;> simp
  have hchk:=fun (w:World) (em:Bool)=>hK.check w em kd xk hks hxk
  have miss:∀ (w:World) (em:Bool) (es:Array MapEntry),(Instr.findKey kt xk es.toList).run P w=.ok none w→es.isEmpty=em→∀ x,(x=.map none∧es=#[])∨(∃ b cl,x=.map (some b)∧w.heap[b]?=some (.map es cl))→
   (Instr.lookup t x xk ok).run P w=.ok (if ok=true then .tuple #[zeroW te,.bool false] else zeroW te) w:=by
   intro w em es hf he x hx
   rcases hx with ⟨rfl,rfl⟩|⟨b,cl,rfl,hb⟩
   ·simp only[Instr.lookup,Sem.run_bind,run_underlying ht,Result.andThen_ok,Sem.run_pure,hchk,hf,hzr]
    all_goals (cases ok <;> rfl)
   ·simp only[Instr.lookup,Sem.run_bind,run_underlying ht,Result.andThen_ok,Sem.run_pure,MapKept.run_getObj_map hb,hchk,hf,hzr]
    all_goals (cases ok <;> rfl)
  rcases hr with ⟨i0,v,⟨hi0,hv0⟩,hKr⟩|⟨hnot,hKr⟩
  ·refine ⟨_,hKr,fun M0 adr L' n w x y hL hw hx hy=>?_⟩
   obtain rfl:=keyV_den hks hxk (keyOfV_ok hkd hy)
   rcases hmap M0 adr L' n w x hL hw hx with ⟨_,rfl,_⟩|⟨b,es,cl,rfl,hb,hm⟩
   ·simp at hi0
   ·rcases hm.find hK hall hks hxk w with ⟨hn,_⟩|⟨j,e,hj,he,hek,hf⟩
    ·exact absurd (List.mem_of_getElem? hi0) hn
    ·have hji:j=i0:=by
      have hjl:j<ks.length:=(List.getElem?_eq_some_iff.1 hj).1
      exact (List.getElem?_inj hjl hm.2.2.1).1 (hj.trans hi0.symm)
     subst hji
     refine ⟨if ok=true then .tuple #[e.val,.bool true] else e.val,?_,lookR_den (fun l=>by cases v <;> simp[vD]) (vD_den (hm.2.2.2.2 j v e hv0 he)) ok true⟩
     simp only[Instr.lookup,Sem.run_bind,run_underlying ht,Result.andThen_ok,Sem.run_pure,MapKept.run_getObj_map hb,hchk,hf]
     all_goals (cases ok <;> rfl)
  ·refine ⟨_,hKr,fun M0 adr L' n w x y hL hw hx hy=>?_⟩
   obtain rfl:=keyV_den hks hxk (keyOfV_ok hkd hy)
   refine ⟨_,?_,lookR_den hzn (hzd adr _ w) ok false⟩
   rcases hmap M0 adr L' n w x hL hw hx with ⟨rfl,rfl,_⟩|⟨b,es,cl,rfl,hb,hm⟩
   ·refine miss w true #[] ?_ rfl _ (.inl ⟨rfl,rfl⟩)
    rcases hK.find w kd _ [] hks hxk (by simp) with ⟨h1,_⟩|⟨j,e,_,h2,_⟩
    ·exact h1
    ·simp at h2
   ·rcases hm.find hK hall hks hxk w with ⟨_,hf⟩|⟨j,e,hj,_⟩
    ·exact miss w _ es hf rfl _ (.inr ⟨b,cl,rfl,hb⟩)
    ·exact absurd (List.mem_of_getElem? hj) hnot
 ·exact hr.elim
end
def elTI (tt:List (Nat×TI)) (ti:TI):Option TI :=
 match Nat.beq ti.kd 3,ti.el with
 | true,some e=>look tt e
 | _,_=>none
theorem elTI_ok {P:Program} {tt:List (Nat×TI)} (hT:Fits P tt) {ti te:TI} (h:elTI tt ti=some te):∃ e,ti.kd=3∧ti.el=some e∧FitsOne P e te:=by
 unfold elTI at h
 split at h
 ·rename_i e h1 h2
  exact ⟨e,Nat.eq_of_beq_eq_true h1,h2,hT e te h⟩
 ·cases h
def pOp (P:Program) (tt:List (Nat×TI)) (ev:Operand→Option V) (L:List (Nat×Blk)) (op:Op) (K:V→Prop):Prop :=
 match op with
 | .move x=>onS (ev x) K
 | .assign x=>onS (ev x) K
 | .pick c a b=>onC (ev c) fun cc=>onBool cc fun t=>onS (ev (match t with|true=>a|false=>b)) K
 | .fieldAddr t x f=>onC (ev x) fun c=>onT tt t fun ti=>rField ti f c K
 | .field t x f=>onS (ev x) fun s=>onT tt t fun ti=>rFieldV tt ti f s K
 | .load t x=>onC (ev x) fun c=>onT tt t fun ti=>rLoad L ti c K
 | .extract x i=>onS (ev x) fun s=>rExtract s i K
 | .unOp o _ x=>onC (ev x) fun c=>rUn o c K
 | .binOp o t x y _=>onS (ev x) fun u=>onS (ev y) fun v=>rBin P tt o t x y u v K
 | .convert s d x=>onC (ev x) fun c=>onT tt s fun ts=>onT tt d fun td=>rConv L ts td (elTI tt ts) c K
 | .makeInterface t x=>onS (ev x) fun s=>onT tt t fun ti=>rIface ti t s K
 | .typeAssert x _ t ok=>onC (ev x) fun c=>onT tt t fun ti=>rAssert ti t ok c K
 | .makeFunc fn first caps=>match fn,first with
  | .func f,⟨[]⟩=>(match capsOf ev caps.toList with
   | some l=>K (.c (.fn f l))
   | none=>False)
  | _,_=>False
 | .nilCheck x=>onC (ev x) fun c=>rNil c K
 | .index t x i=>onS (ev x) fun s=>onC (ev i) fun d=>onT tt t fun ti=>match s with
  | .agg l=>(match ti.el with
   | some e=>onT tt e fun te=>rIndexA ti te l d K
   | none=>False)
  | .c c=>rIndex ti c d K
  | _=>False
 | .indexAddr t x i=>onC (ev x) fun c=>onC (ev i) fun d=>onT tt t fun ti=>match ti.el with
  | some e=>onT tt e fun te=>rIndexAddr L ti te c d K
  | none=>False
 | .slice t x lo hi mx=>onC (ev x) fun c=>onT tt t fun ti=>match optInt ev lo,optInt ev hi,mx with
  | some l,some h,none=>rSlice L ti (elTI tt ti) c l h none K
  | _,_,_=>False
 | .build t ps=>onT tt t fun ti=>rBuild tt ti (pvals ev ps.toList) K
 | .lookup t x y ok=>onC (ev x) fun c=>onS (ev y) fun s=>onT tt t fun ti=>rLookup P tt L ti c s ok K
 | .call c=>match c.callee,c.args,c.argTypes with
  | .builtin .len,⟨[x]⟩,⟨[t]⟩=>onC (ev x) fun cc=>onT tt t fun ti=>rLen L ti cc K
  | .builtin .min,⟨[x,y]⟩,_=>onC (ev x) fun cx=>onC (ev y) fun cy=>rMinMax true cx cy K
  | .builtin .max,⟨[x,y]⟩,_=>onC (ev x) fun cx=>onC (ev y) fun cy=>rMinMax false cx cy K
  | _,_,_=>False
 | _=>False
theorem pOp_ok {P:Program} {gl:List (Nat×List D)} {tt:List (Nat×TI)} (hT:Fits P tt) {ev:Operand→Option V} {L:List (Nat×Blk)} {o:Oper} {K:V→Prop} (h:pOp P tt ev L o.op K):∃ s,K s∧Gives P gl ev L o s:=by
 obtain ⟨dst,op,ty,pos,after,guard⟩:=o
 cases op with
 | move x =>
  obtain ⟨s,hs,hK⟩:=onS_ok h
  exact ⟨s,hK,fun M0 adr L' n w ρ hL hw hg hx=>⟨_,rfl,hx x (by simp[Op.operands]) s hs⟩⟩
 | assign x =>
  obtain ⟨s,hs,hK⟩:=onS_ok h
  exact ⟨s,hK,fun M0 adr L' n w ρ hL hw hg hx=>⟨_,rfl,hx x (by simp[Op.operands]) s hs⟩⟩
 | pick c y z =>
  obtain ⟨cc,hc,h1⟩:=onC_ok h
  obtain ⟨b,h2,h3⟩:=onBool_ok h1
  obtain ⟨s,hs,hK⟩:=onS_ok h2
  refine ⟨s,hK,fun M0 adr L' n w ρ hL hw hg hx=>?_⟩
  have hcv:=h3 _ _ _ _ (hx c (by simp[Op.operands]) _ hc)
  refine ⟨if b then ρ y else ρ z,by simp[execOp,hcv,asBool],?_⟩
  cases b
  ·exact hx z (by simp[Op.operands]) s hs
  ·exact hx y (by simp[Op.operands]) s hs
 | fieldAddr t x f =>
  obtain ⟨c,hc,h1⟩:=onC_ok h
  obtain ⟨ti,hl,h2⟩:=onT_ok h1
  obtain ⟨s,hK,hr⟩:=rField_ok (hT t ti hl) h2
  refine ⟨s,hK,fun M0 adr L' n w ρ hL hw hg hx=>?_⟩
  obtain ⟨v,h3,h4⟩:=hr adr _ w _ (hx x (by simp[Op.operands]) _ hc)
  exact ⟨v,by simp only[execOp,Sem.run_bind,h3,Result.andThen_ok,Sem.run_pure],h4⟩
 | field t x f =>
  obtain ⟨s0,hc,h1⟩:=onS_ok h
  obtain ⟨ti,hl,h2⟩:=onT_ok h1
  obtain ⟨s,hK,hr⟩:=rFieldV_ok hT (hT t ti hl) h2
  refine ⟨s,hK,fun M0 adr L' n w ρ hL hw hg hx=>?_⟩
  obtain ⟨v,h3,h4⟩:=hr adr _ w _ (hx x (by simp[Op.operands]) _ hc)
  exact ⟨v,by simp only[execOp,Sem.run_bind,h3,Result.andThen_ok,Sem.run_pure],h4⟩
 | load t x =>
  obtain ⟨c,hc,h1⟩:=onC_ok h
  obtain ⟨ti,hl,h2⟩:=onT_ok h1
  obtain ⟨s,hK,hr⟩:=rLoad_ok (hT t ti hl) h2
  refine ⟨s,hK,fun M0 adr L' n w ρ hL hw hg hx=>?_⟩
  obtain ⟨v,h3,h4⟩:=hr M0 adr L' n w _ hL hw (hx x (by simp[Op.operands]) _ hc)
  exact ⟨v,by simp only[execOp,Sem.run_bind,h3,Result.andThen_ok,Sem.run_pure],h4⟩
 | extract x i =>
  obtain ⟨c,hc,h1⟩:=onS_ok h
  obtain ⟨s,hK,hr⟩:=rExtract_ok (P:=P) h1
  refine ⟨s,hK,fun M0 adr L' n w ρ hL hw hg hx=>?_⟩
  obtain ⟨v,h3,h4⟩:=hr adr _ w _ (hx x (by simp[Op.operands]) _ hc)
  exact ⟨v,by simp only[execOp,Sem.run_bind,h3 w,Result.andThen_ok,Sem.run_pure],h4⟩
 | unOp op t x =>
  obtain ⟨c,hc,h1⟩:=onC_ok h
  obtain ⟨s,hK,hr⟩:=rUn_ok (P:=P) h1
  refine ⟨s,hK,fun M0 adr L' n w ρ hL hw hg hx=>?_⟩
  obtain ⟨v,h3,h4⟩:=hr adr _ w _ (hx x (by simp[Op.operands]) _ hc)
  exact ⟨v,by simp only[execOp,Sem.run_bind,h3,Result.andThen_ok,Sem.run_pure],h4⟩
 | binOp op t x y yt =>
  obtain ⟨u,hu,h1⟩:=onS_ok h
  obtain ⟨v,hv,h2⟩:=onS_ok h1
  obtain ⟨s,hK,hr⟩:=rBin_ok hT h2
  refine ⟨s,hK,fun M0 adr L' n w ρ hL hw hg hx=>?_⟩
  obtain ⟨r,h3,h4,h5⟩:=hr adr _ w _ _ (hx x (by simp[Op.operands]) _ hu) (hx y (by simp[Op.operands]) _ hv)
  exact ⟨r,by simp only[execOp,Sem.run_bind,h3,h4,Result.andThen_ok,Sem.run_pure],h5⟩
 | convert src dst x =>
  obtain ⟨c,hc,h1⟩:=onC_ok h
  obtain ⟨ts,hl,h2⟩:=onT_ok h1
  obtain ⟨td,hl2,h3⟩:=onT_ok h2
  obtain ⟨s,hK,hr⟩:=rConv_ok (hT src ts hl) (hT dst td hl2) (fun te hte=>elTI_ok hT hte) h3
  refine ⟨s,hK,fun M0 adr L' n w ρ hL hw hg hx=>?_⟩
  obtain ⟨v,h4,h5⟩:=hr M0 adr L' n w _ hL hw (hx x (by simp[Op.operands]) _ hc)
  exact ⟨v,by simp only[execOp,Sem.run_bind,h4,Result.andThen_ok,Sem.run_pure],h5⟩
 | makeInterface t x =>
  obtain ⟨u,hu,h1⟩:=onS_ok h
  obtain ⟨ti,hl,h2⟩:=onT_ok h1
  obtain ⟨s,hK,hr⟩:=rIface_ok (hT t ti hl) h2
  refine ⟨s,hK,fun M0 adr L' n w ρ hL hw hg hx=>?_⟩
  obtain ⟨v,h3,h4⟩:=hr adr _ w _ (hx x (by simp[Op.operands]) _ hu)
  exact ⟨v,by simp only[execOp,Sem.run_bind,h3,Result.andThen_ok,Sem.run_pure],h4⟩
 | typeAssert x xt t ok =>
  obtain ⟨c,hc,h1⟩:=onC_ok h
  obtain ⟨ti,hl,h2⟩:=onT_ok h1
  obtain ⟨s,hK,hr⟩:=rAssert_ok (hT t ti hl) h2
  refine ⟨s,hK,fun M0 adr L' n w ρ hL hw hg hx=>?_⟩
  obtain ⟨v,h3,h4⟩:=hr adr _ w _ xt (hx x (by simp[Op.operands]) _ hc)
  exact ⟨v,by simp only[execOp,Sem.run_bind,h3,Result.andThen_ok,Sem.run_pure],h4⟩
 | makeFunc fn first caps =>
  simp only[pOp] at h
  split at h
  ·rename_i f
   split at h
   ·rename_i l hl
    refine ⟨_,h,fun M0 adr L' n w ρ hL hw hg hx=>⟨.func (.func f) #[] (caps.map ρ),by simp[execOp,Instr.makeFunc],(caps.map ρ).toList,by rw[Array.toArray_toList],?_⟩⟩
    have:=capsOf_ok hl (fun y hy=>hx y (by simp[Op.operands] at hy ⊢;exact hy))
    simpa using this
   ·exact h.elim
  ·exact h.elim
 | nilCheck x =>
  obtain ⟨c,hc,h1⟩:=onC_ok h
  unfold rNil at h1
  split at h1
  ·refine ⟨_,h1,fun M0 adr L' n w ρ hL hw hg hx=>?_⟩
   have hd:=hx x (by simp[Op.operands]) _ hc
   obtain ⟨b,m,e1,e2⟩:=hd
   exact ⟨_,by simp[execOp,e2],b,m,e1,rfl⟩
  ·refine ⟨_,h1,fun M0 adr L' n w ρ hL hw hg hx=>?_⟩
   have hd:=hx x (by simp[Op.operands]) _ hc
   obtain ⟨b,m,e1,e2⟩:=hd
   exact ⟨_,by simp[execOp,e2],b,m,e1,rfl⟩
  ·refine ⟨_,h1,fun M0 adr L' n w ρ hL hw hg hx=>?_⟩
   have hd:DenD _ w _ _:=hx x (by simp[Op.operands]) _ hc
   refine ⟨ρ x,?_,hd⟩
   cases hq:ρ x <;> rw[hq] at hd <;> cases hd
   simp[execOp,hq]
  ·refine ⟨_,h1,fun M0 adr L' n w ρ hL hw hg hx=>?_⟩
   have hd:=hx x (by simp[Op.operands]) _ hc
   obtain ⟨xs,e1,e2⟩:=hd
   exact ⟨_,by simp[execOp,e1],xs,rfl,e2⟩
  ·refine ⟨_,h1,fun M0 adr L' n w ρ hL hw hg hx=>?_⟩
   have hd:=hx x (by simp[Op.operands]) _ hc
   have e1:=DenD.v_inv hd
   exact ⟨_,by simp[execOp,e1],DenD.v _⟩
  ·refine ⟨_,h1,fun M0 adr L' n w ρ hL hw hg hx=>?_⟩
   have hd:DenD _ w _ _:=hx x (by simp[Op.operands]) _ hc
   refine ⟨ρ x,?_,hd⟩
   cases hq:ρ x <;> rw[hq] at hd <;> cases hd
   all_goals simp[execOp,hq]
  ·exact h1.elim
 | index t x i =>
  obtain ⟨s,hs,h1⟩:=onS_ok h
  obtain ⟨d,hd,h2⟩:=onC_ok h1
  obtain ⟨ti,hl,h3⟩:=onT_ok h2
  clear h h1 h2
  split at h3
  ·rename_i l
   split at h3
   ·rename_i e he
    obtain ⟨te,hle,h4⟩:=onT_ok h3
    obtain ⟨s,hK,hr⟩:=rIndexA_ok (hT t ti hl) he (hT e te hle) h4
    refine ⟨s,hK,fun M0 adr L' n w ρ hL hw hg hx=>?_⟩
    obtain ⟨v,h4,h5⟩:=hr adr _ w _ _ (hx x (by simp[Op.operands]) _ hs) (hx i (by simp[Op.operands]) _ hd)
    exact ⟨v,by simp only[execOp,Sem.run_bind,h4,Result.andThen_ok,Sem.run_pure],h5⟩
   ·exact h3.elim
  ·obtain ⟨s,hK,hr⟩:=rIndex_ok (hT t ti hl) h3
   refine ⟨s,hK,fun M0 adr L' n w ρ hL hw hg hx=>?_⟩
   obtain ⟨v,h4,h5⟩:=hr adr _ w _ _ (hx x (by simp[Op.operands]) _ hs) (hx i (by simp[Op.operands]) _ hd)
   exact ⟨v,by simp only[execOp,Sem.run_bind,h4,Result.andThen_ok,Sem.run_pure],h5⟩
  ·exact h3.elim
 | indexAddr t x i =>
  obtain ⟨c,hc,h1⟩:=onC_ok h
  obtain ⟨d,hd,h2⟩:=onC_ok h1
  obtain ⟨ti,hl,h3⟩:=onT_ok h2
  split at h3
  ·rename_i e he
   obtain ⟨te,hle,h4⟩:=onT_ok h3
   obtain ⟨s,hK,hr⟩:=rIndexAddr_ok (hT t ti hl) he (hT e te hle) h4
   refine ⟨s,hK,fun M0 adr L' n w ρ hL hw hg hx=>?_⟩
   obtain ⟨v,h5,h6⟩:=hr M0 adr L' n w _ _ hL hw (hx x (by simp[Op.operands]) _ hc) (hx i (by simp[Op.operands]) _ hd)
   exact ⟨v,by simp only[execOp,Sem.run_bind,h5,Result.andThen_ok,Sem.run_pure],h6⟩
  ·exact h3.elim
 | slice t x lo hi mx =>
  obtain ⟨c,hc,h1⟩:=onC_ok h
  obtain ⟨ti,hl,h2⟩:=onT_ok h1
  split at h2
  ·rename_i l hh h3 h4
   obtain ⟨s,hK,hr⟩:=rSlice_ok (hT t ti hl) (fun te hte=>elTI_ok hT hte) h2
   refine ⟨s,hK,fun M0 adr L' n w ρ hL hw hg hx=>?_⟩
   obtain ⟨v,h5,h6⟩:=hr M0 adr L' n w _ (lo.map ρ) (hi.map ρ) hL hw (hx x (by simp[Op.operands]) _ hc)
    (optInt_ok h3 (fun y hy s hs=>hx y (by subst hy;simp[Op.operands]) s hs)) (optInt_ok h4 (fun y hy s hs=>hx y (by subst hy;simp[Op.operands]) s hs))
   exact ⟨v,by simp only[execOp,Option.map_none,Sem.run_bind,h5,Result.andThen_ok,Sem.run_pure],h6⟩
  ·exact h2.elim
 | lookup t x y ok =>
  obtain ⟨c,hc,h1⟩:=onC_ok h
  obtain ⟨s0,hs0,h2⟩:=onS_ok h1
  obtain ⟨ti,hl,h3⟩:=onT_ok h2
  obtain ⟨s,hK,hr⟩:=rLookup_ok hT (hT t ti hl) h3
  refine ⟨s,hK,fun M0 adr L' n w ρ hL hw hg hx=>?_⟩
  obtain ⟨v,h5,h6⟩:=hr M0 adr L' n w _ _ hL hw (hx x (by simp[Op.operands]) _ hc) (hx y (by simp[Op.operands]) _ hs0)
  exact ⟨v,by simp only[execOp,Sem.run_bind,h5,Result.andThen_ok,Sem.run_pure],h6⟩
 | build t ps =>
  obtain ⟨ti,hl,h1⟩:=onT_ok h
  obtain ⟨s,hK,hr⟩:=rBuild_ok hT (hT t ti hl) h1
  refine ⟨s,hK,fun M0 adr L' n w ρ hL hw hg hx=>?_⟩
  obtain ⟨v,h3,h4⟩:=hr adr (Mut M0 adr L') w ρ (fun x hx' s hs=>hx x (by simpa[Op.operands] using hx') s hs)
  have e:(ps.map fun (i,x)=>(i,ρ x))=(ps.toList.map fun p=>(p.1,ρ p.2)).toArray:=by apply Array.ext';simp
  exact ⟨v,by simp only[execOp,e,Sem.run_bind,h3 w,Result.andThen_ok,Sem.run_pure],h4⟩
 | call c =>
  obtain ⟨callee,args,ats⟩:=c
  simp only[pOp] at h
  split at h
  ·rename_i x t
   obtain ⟨c,hc,h1⟩:=onC_ok h
   obtain ⟨ti,hl,h2⟩:=onT_ok h1
   obtain ⟨s,hK,hr⟩:=rLen_ok (hT t ti hl) h2
   refine ⟨s,hK,fun M0 adr L' n w ρ hL hw hg hx=>?_⟩
   obtain ⟨v,h3,h4⟩:=hr M0 adr L' n w _ ty hL hw (hx x (by simp[Op.operands,Call.operands]) _ hc)
   have h3':(Builtin.len_ { toList:=[t] } ty #[ρ x]).run P w=.ok v w:=h3
   refine ⟨v,?_,h4⟩
   simp[execOp,resolve,invoke,builtin,h3']
  ·rename_i x y
   obtain ⟨cx,hcx,h1⟩:=onC_ok h
   obtain ⟨cy,hcy,h2⟩:=onC_ok h1
   obtain ⟨s,hK,hr⟩:=rMinMax_ok (P:=P) h2
   refine ⟨s,hK,fun M0 adr L' n w ρ hL hw hg hx=>?_⟩
   obtain ⟨v,h3,h4⟩:=hr adr _ w _ _ ats ty (hx x (by simp[Op.operands,Call.operands]) _ hcx) (hx y (by simp[Op.operands,Call.operands]) _ hcy)
   refine ⟨v,?_,h4⟩
   simp only at h3
   simp[execOp,resolve,invoke,builtin,h3]
  ·rename_i x y
   obtain ⟨cx,hcx,h1⟩:=onC_ok h
   obtain ⟨cy,hcy,h2⟩:=onC_ok h1
   obtain ⟨s,hK,hr⟩:=rMinMax_ok (P:=P) h2
   refine ⟨s,hK,fun M0 adr L' n w ρ hL hw hg hx=>?_⟩
   obtain ⟨v,h3,h4⟩:=hr adr _ w _ _ ats ty (hx x (by simp[Op.operands,Call.operands]) _ hcx) (hx y (by simp[Op.operands,Call.operands]) _ hcy)
   refine ⟨v,?_,h4⟩
   simp only at h3
   simp[execOp,resolve,invoke,builtin,h3]
  ·exact h.elim
 | _=>exact h.elim
end Go.EYtfcmhmglpcimiaaGreatDoor
