/- Proved: a part of what the law is proved with (the reckoner, contracts of functions, plain laws). Conditions: as each says. -/
import Derived.Test.YtaheflnnigocgaaGreatDoorHEl
section
namespace Go.EYtaheflnnigocgaaGreatDoor
open Go Go.RowKit
def dstAt (ops:List Oper) (j:Nat):Option Nat:=(nth ops j).bind (·.dst)
def guardOut (b want:Bool):Bool:=match b,want with
 | true,true=>true
 | false,false=>true
 | _,_=>false
def onGuard (ops:List Oper) (g:Option (Nat×Bool)) (fr:List (Nat×V)) (K:Bool→List (Nat×V)→Prop):Prop :=
 match g with
 | none=>K true fr
 | some (j,want)=>match dstAt ops j with
  | some d=>match look fr d with
   | some (.c (.d (.v (.bool b))))=>K (guardOut b want) fr
   | some (.c (.d (.v (.tuple ⟨[]⟩))))=>K false fr
   | some (.c (.d (.b p _)))=>Fork p (K (guardOut true want) ((d,.c (.d (.v (.bool true))))::fr)) (K (guardOut false want) ((d,.c (.d (.v (.bool false))))::fr))
   | _=>False
  | none=>False
def FrLe (fr fr':List (Nat×V)):Prop:=∀ t s,look fr' t=some s→∃ s0,look fr t=some s0∧∀ (adr:Env) (M:Nat→Prop) (w:World) (x:Value),DenV adr M w s0 x→DenV adr M w s x
theorem FrLe.refl (fr:List (Nat×V)):FrLe fr fr:=fun _ s h=>⟨s,h,fun _ _ _ _ h=>h⟩
def GuardIs (ops:Array Oper) (o:Oper) (fr:List (Nat×V)) (run:Bool):Prop :=
 match o.guard with
 | none=>run=true
 | some (j,want)=>∃ d s,(ops[j]?).bind (·.dst)=some d∧look fr d=some s∧∀ (adr:Env) (M:Nat→Prop) (w:World) (x:Value),DenV adr M w s x→((match x with|.bool b=>some b|_=>none)==some want)=run
theorem guardOut_eq (b want:Bool):((some b:Option Bool)==some want)=guardOut b want:=by cases b <;> cases want <;> rfl
theorem onGuard_ok {ops:Array Oper} {o:Oper} {fr:List (Nat×V)} {K:Bool→List (Nat×V)→Prop} (h:onGuard ops.toList o.guard fr K):∃ run fr',K run fr'∧GuardIs ops o fr run∧FrLe fr fr':=by
 unfold onGuard at h
 unfold GuardIs
 split at h
 ·rename_i hg;exact ⟨true,fr,h,rfl,.refl fr⟩
 ·rename_i j want hg
  split at h
  ·rename_i d hd
   have hd':(ops[j]?).bind (·.dst)=some d:=by
    have:=hd
    unfold dstAt at this
    rw[nth_eq,Array.getElem?_toList] at this
    exact this
   split at h
   ·rename_i b hb
    exact ⟨_,fr,h,⟨d,_,hd',hb,fun adr M w x hx=>by obtain rfl:=DenD.v_inv hx;exact guardOut_eq b want⟩,.refl fr⟩
   ·rename_i hb
    exact ⟨_,fr,h,⟨d,_,hd',hb,fun adr M w x hx=>by obtain rfl:=DenD.v_inv hx;rfl⟩,.refl fr⟩
   ·rename_i p i hb
    have le:∀ b:Bool,(∀ (adr:Env) (M:Nat→Prop) (w:World) (x:Value),DenV adr M w (.c (.d (.b p i))) x→x=.bool b)→FrLe fr ((d,.c (.d (.v (.bool b))))::fr):=fun b hx t s hl=>by
     rw[look_cons] at hl
     by_cases e:d=t
     ·rw[if_pos e] at hl;cases hl
      exact ⟨_,by rw[← e];exact hb,fun adr M w x hd=>by rw[hx adr M w x hd];exact DenD.v _⟩
     ·rw[if_neg e] at hl
      exact ⟨s,hl,fun _ _ _ _ h=>h⟩
    by_cases hp:p
    ·have hx:∀ (adr:Env) (M:Nat→Prop) (w:World) (x:Value),DenV adr M w (.c (.d (.b p i))) x→x=.bool true:=fun adr M w x hd=>by rw[DenD.b_inv hd,decide_eq_true hp]
     exact ⟨_,_,h.1 hp,⟨d,_,hd',hb,fun adr M w x hd=>by rw[hx adr M w x hd];exact guardOut_eq true want⟩,le true hx⟩
    ·have hx:∀ (adr:Env) (M:Nat→Prop) (w:World) (x:Value),DenV adr M w (.c (.d (.b p i))) x→x=.bool false:=fun adr M w x hd=>by rw[DenD.b_inv hd,decide_eq_false hp]
     exact ⟨_,_,h.2 hp,⟨d,_,hd',hb,fun adr M w x hd=>by rw[hx adr M w x hd];exact guardOut_eq false want⟩,le false hx⟩
   ·exact h.elim
  ·exact h.elim
theorem GuardIs.wanted {ops:Array Oper} {o:Oper} {fr:List (Nat×V)} {run:Bool} (h:GuardIs ops o fr run) {adr:Env} {M:Nat→Prop} {w:World} {a:Act} (hf:∀ t s,t ∈ o.looksAt ops→look fr t=some s→DenV adr M w s (a.tmps.getD t undef)) :
 Region.wanted o (yielded ops a.tmps)=run:=by
 unfold GuardIs at h
 unfold Region.wanted
 split at h
 ·rename_i hg;rw[hg];exact h.symm
 ·rename_i j want hg
  rw[hg]
  show (yielded ops a.tmps j==some want)=run
  obtain ⟨d,s,hd,hs,hx⟩:=h
  have hl:d ∈ o.looksAt ops:=by
   unfold Oper.looksAt
   rw[hg]
   simp only[hd,Option.toList_some]
   exact List.mem_append_right _ (by simp)
  have:=hx adr M w _ (hf d s hl hs)
  have hy:yielded ops a.tmps j=(match a.tmps.getD d undef with|.bool b=>some b|_=>none):=by
   unfold yielded
   rw[hd]
   simp only[Option.bind_some]
   rw[Array.getD_eq_getD_getElem?]
   cases ht:a.tmps[d]? with
   | none=>rfl
   | some u=>simp only[Option.getD_some];cases u <;> rfl
  rw[hy]
  exact this
theorem FrOk.le {adr:Env} {M:Nat→Prop} {w:World} {fr fr':List (Nat×V)} {a:Act} (h:FrOk adr M w fr a) (hl:FrLe fr fr'):FrOk adr M w fr' a:=fun t s hs=>by
 obtain ⟨s0,h1,h2⟩:=hl t s hs
 exact h2 _ _ _ _ (h t s0 h1)
theorem Ok.le {gl:List (Nat×List D)} {M0 S0:Nat→Prop} {w0:Base} {N:Nat} {adr:Env} {fr fr':List (Nat×V)} {L:List (Nat×Blk)} {n:Nat} {a:Act} {w:World} (h:Ok gl M0 S0 w0 N adr fr L n a w) (hl:FrLe fr fr') :
 Ok gl M0 S0 w0 N adr fr' L n a w:=⟨h.size,h.defers,h.fr.le hl,h.wok,h.glob,h.base,h.new,h.same⟩
abbrev undV:V:=.c (.d (.v undef))
def vcOps (P:Program) (gl:List (Nat×List D)) (tt:List (Nat×TI)) (fx:List Nat) (N:Nat) (all l:List Oper):List (Nat×V)→List (Nat×Blk)→Nat→SK→(C→SK)→Prop :=
 List.rec (motive:=fun _=>List (Nat×V)→List (Nat×Blk)→Nat→SK→(C→SK)→Prop) (fun fr L n k _=>k fr L n)
  (fun o _ ih fr L n k kp=>onB (dstB N o.dst) (onGuard all o.guard fr fun run fr1=>match run with
  | true=>xOp P gl tt fx o.op fr1 L n (fun s fr' L' n'=>putK o.dst s fr' fun f=>ih f L' n' k kp) kp
  | false=>putK o.dst undV fr1 fun f=>ih f L n k kp)) l
section
variable {P:Program} {gl:List (Nat×List D)} {tt:List (Nat×TI)} {M0 S0:Nat→Prop} {w0:Base} {N:Nat}
def PanOk (gl:List (Nat×List D)) (M0 S0:Nat→Prop) (w0:Base) (N:Nat) (kp:C→SK) (Q:Exit→Act→World→Prop):Prop :=
 ∀ c fr L n adr x a w,kp c fr L n→Ok gl M0 S0 w0 N adr fr L n a w→DenC adr (Mut M0 adr L) w c x→Q (.panic [{ v:=x,recovered:=false }]) a w
theorem vcOps_ok (hT:Fits P tt) {ops:Array Oper} {Q:Exit→Act→World→Prop} {k:SK} {kp:C→SK} (hQ:∀ fr L n adr a w,k fr L n→Ok gl M0 S0 w0 N adr fr L n a w→Q .normal a w) (hp:PanOk gl M0 S0 w0 N kp Q) :
 ∀ (l:List Oper) (fr:List (Nat×V)) (L:List (Nat×Blk)) (n:Nat) (adr:Env) (a:Act) (w:World),vcOps P gl tt w0.fx N ops.toList l fr L n k kp→Ok gl M0 S0 w0 N adr fr L n a w→wpList P ops Q l a w
 | [],fr,L,n,adr,a,w,h,hx=>hQ _ _ _ _ _ _ h hx
 | o::r,fr,L,n,adr,a,w,h,hx=>by
  obtain ⟨hd,h1⟩:=onB_ok (show onB (dstB N o.dst) _ from h)
  obtain ⟨run,fr1,h2,hg,hle⟩:=onGuard_ok h1
  have hw:=hg.wanted (adr:=adr) (M:=Mut M0 adr L) (w:=w) (a:=a) (fun t s _ hl=>hx.fr t s hl)
  have hx1:=hx.le hle
  unfold wpList
  rw[hw]
  cases run with
  | true =>
   simp only[if_true]
   refine .inl (xOp_ok hT h2 hx1 ?_ ?_)
   ·rintro v w' ⟨s,fr',L',n',adr',h3,h4,h5⟩
    rw[putK_eq] at h3
    exact vcOps_ok hT hQ hp r _ _ _ adr' _ _ h3 (h4.put hd h5)
   ·intro c fr' L' n' adr' x w' h3 h4 h5
    exact hp c fr' L' n' adr' x a w' h3 h4 h5
  | false =>
   simp only[Bool.false_eq_true,if_false]
   rw[putK_eq] at h2
   exact vcOps_ok hT hQ hp r _ _ _ adr _ w h2 (hx1.put hd (DenD.v _))
end
def qcall (P:Program) (gl:List (Nat×List D)) (g:Nat) (vs:List V) (L:List (Nat×Blk)) (K:V→Prop):Prop :=
 lendVs L vs fun ds ks=>∃ r,FnP P gl g ds r∧match ks with
  | []=>fV (vD r) K
  | _=>onB (flatD r) (fV (vD r) K)
def qOp (P:Program) (gl:List (Nat×List D)) (tt:List (Nat×TI)) (op:Op) (fr:List (Nat×V)) (L:List (Nat×Blk)) (K:V→Prop):Prop :=
 match op with
 | .buildSlice t len ps=>onT tt t fun ti=>match Nat.beq ti.kd 3,ti.el with
  | true,some e=>onT tt e fun te=>match svals gl fr (ps.toList.map (·.2)) with
   | some vs=>match rowsV vs with
    | some rs=>onB (Nat.blt 0 te.size) (onB (denseB 0 ps.toList) (onB (Nat.beq vs.length len) (onB (Nat.blt 0 len) (onB (Nat.ble (len * te.size) 16777216) (onB (eachLen te.size rs) (K (.c (.d (.lst te.size rs)))))))))
    | none=>False
   | none=>False
  | _,_=>False
 | .convert s d x=>onC (sval gl fr x) fun c=>onT tt s fun ts=>onT tt d fun td=>match Nat.beq td.kd 3,td.el,c with
  | true,some e,.d (.str l)=>onT tt e fun te=>onB (Nat.beq ts.kd 2) (onB (match te.ik with|some k=>ikeq k .u8|none=>false) (l.length≤maxLen∧K (.c (.d (.lst 1 (l.map u8D))))))
  | _,_,_=>rConv L ts td (elTI tt ts) c K
 | .call c=>match c.callee with
  | .value f=>onC (sval gl fr f) fun cf=>match svals gl fr c.args.toList with
   | some vs=>match cf with
    | .fn g []=>qcall P gl g vs L K
    | .d (.v (.func (.func g) ⟨[]⟩ ⟨[]⟩))=>qcall P gl g vs L K
    | _=>False
   | none=>False
  | _=>pOp P tt (sval gl fr) L op K
 | op=>pOp P tt (sval gl fr) L op K
def Quiet (P:Program) (gl:List (Nat×List D)) (fr:List (Nat×V)) (L:List (Nat×Blk)) (o:Oper) (s:V):Prop :=
 ∀ (M0:Nat→Prop) (adr:Env) (n:Nat) (w:World) (a:Act) (K:Act→World→Prop) (Q:Exit→Act→World→Prop),WOk M0 adr L n w→Glob gl (Mut M0 adr L) w→
  (∀ x ∈ o.op.operands.toList,∀ s,sval gl fr x=some s→DenV adr (Mut M0 adr L) w s (a.eval x))→
  (∀ v w',Evo (fun _=>False) w w'→DenV adr (Mut M0 adr L) w' s v→K (a.put o.dst v) w')→o.wp P a w K Q
theorem rows_new {M:Nat→Prop} {w:World} {z b cap e:Nat} {rs:List (List D)} {cur:Array Value} {f:Nat×Nat} (hc:w.heap[b]?=some (Obj.cells cur e f)) (hd:DenL M w rs.flatten (cur.toList.take (rs.length * z))) (hz:∀ r ∈ rs,r.length=z) (hl:rs.length≤cap) (hm:cap≤maxLen) (hM:¬ M b) :
 DenD M w (.lst z rs) (.slice (some ⟨b,0,none⟩) rs.length cap):=by
 have hg:∀ i j d,get2 rs i j=some d→∃ x,cur.toList[i * z+j]?=some x∧DenD M w d x:=fun i j d hd'=>by
  obtain ⟨h1,h2⟩:=get2_lt hz hd'
  rw[← get2_flat hz h2] at hd'
  obtain ⟨x,hx1,hx2⟩:=All2.get hd hd'
  rw[List.getElem?_take] at hx1
  split at hx1
  ·exact ⟨x,hx1,hx2⟩
  ·cases hx1
 refine DenD.lst z rs b 0 cap (fun i j=>cur.toList.getD (i * z+j) undef) (Array.getElem?_eq_some_iff.1 hc).1 hM hl hm hz (fun i j d hd=>?_) (fun i j d hd=>?_)
 ·obtain ⟨x,hx1,hx2⟩:=hg i j d hd
  simp only[World.cell?,hc]
  rw[Nat.zero_add]
  simp only[List.getD,hx1,Option.getD_some]
  simpa using hx1
 ·obtain ⟨x,hx1,hx2⟩:=hg i j d hd
  simp only[List.getD,hx1,Option.getD_some]
  exact hx2
section
variable {P:Program} {gl:List (Nat×List D)} {tt:List (Nat×TI)} {fr:List (Nat×V)} {L:List (Nat×Blk)}
theorem svals_den {adr:Env} {M:Nat→Prop} {w:World} {ρ:Operand→Value}:∀ {ys:List Operand} {l:List V},svals gl fr ys=some l→(∀ x ∈ ys,∀ s,sval gl fr x=some s→DenV adr M w s (ρ x))→All2 (DenV adr M w) l (ys.map ρ)
 | [],l,hl,_=>by simp only[svals,Option.some.injEq] at hl;subst hl;trivial
 | y::r,l,hl,hd=>by
  simp only[svals] at hl
  split at hl
  ·rename_i s l' hs hr
   cases hl
   exact ⟨hd y (by simp) s hs,svals_den hr (fun x hx=>hd x (by simp[hx]))⟩
  ·cases hl
theorem qcall_ok {g:Nat} {vs:List V} {K:V→Prop} (h:qcall P gl g vs L K):∃ s,K s∧∀ (M0:Nat→Prop) (adr:Env) (n:Nat) (w:World) (xs:List Value),WOk M0 adr L n w→Glob gl (Mut M0 adr L) w→All2 (DenV adr (Mut M0 adr L) w) vs xs→
 Does P g xs.toArray w fun e w'=>Evo (fun _=>False) w w'∧∃ x,e=.returned x∧DenV adr (Mut M0 adr L) w' s x:=by
 obtain ⟨ds,ks,⟨r,hF,hr⟩,hl⟩:=lendVs_ok h
 have key:∀ (hk:(ks=[]∨flatD r=true)) (M0:Nat→Prop) (adr:Env) (n:Nat) (w:World) (xs:List Value),WOk M0 adr L n w→Glob gl (Mut M0 adr L) w→All2 (DenV adr (Mut M0 adr L) w) vs xs→
  Does P g xs.toArray w fun e w'=>Evo (fun _=>False) w w'∧∃ x,e=.returned x∧DenV adr (Mut M0 adr L) w' (vD r) x:=by
  intro hk M0 adr n w xs hw hg hd
  let M':Nat→Prop:=fun b=>Mut M0 adr L b∧¬ ∃ k ∈ ks,∃ m,adr k=some (some b,m)
  have hM':∀ b,b<w.heap.size→M' b→Mut M0 adr L b:=fun b _ hb=>hb.1
  have hsp:Spares adr ks M':=fun k hk b m ha hb=>hb.2 ⟨k,hk,m,ha⟩
  refine (hF w M' xs (fun b hb=>hw.mutLt hb.1) (hg.less hM') (hl M0 adr n w xs M' hw hd hM' hsp)).mono ?_
  rintro e w' ⟨hE,x,rfl,hv⟩
  refine ⟨hE,x,rfl,?_⟩
  rcases hk with rfl|hf
  ·exact vD_den (hv.less fun b _ hb=>⟨hb,fun ⟨k,hk,_⟩=>by simp at hk⟩)
  ·exact vD_den (flatD_ok hf hv)
 split at hr
 ·rw[fV_eq] at hr;exact ⟨_,hr,key (.inl rfl)⟩
 ·obtain ⟨hf,hr⟩:=onB_ok hr
  rw[fV_eq] at hr;exact ⟨_,hr,key (.inr hf)⟩
theorem qOp_ok (hT:Fits P tt) {o:Oper} {K:V→Prop} (h:qOp P gl tt o.op fr L K):∃ s,K s∧Quiet P gl fr L o s:=by
 obtain ⟨dst,op,ty,pos,after,guard⟩:=o
 have pcase:pOp P tt (sval gl fr) L op K→∃ s,K s∧Quiet P gl fr L ⟨dst,op,ty,pos,after,guard⟩ s:=by
  intro h
  obtain ⟨s,hK,hg⟩:=pOp_ok (gl:=gl) hT (o:=⟨dst,op,ty,pos,after,guard⟩) h
  refine ⟨s,hK,fun M0 adr n w a K' Q hw hgl hx hk=>?_⟩
  obtain ⟨v,h1,h2⟩:=hg M0 adr L n w a.eval (fun _ _ h=>h) hw hgl hx
  unfold Oper.wp
  rw[h1,Oper.upon_value]
  exact hk v w (Evo.refl _ _) h2
 have call:∀ (g:Nat) (vs:List V) (f:Operand) (args:Array Operand) (ats:Array TypeId),qcall P gl g vs L K→svals gl fr args.toList=some vs→op=.call ⟨.value f,args,ats⟩→(∀ (adr:Env) (M:Nat→Prop) (w:World) (x:Value) (s:V),sval gl fr f=some s→DenV adr M w s x→x=.func (.func g) #[] #[])→(∃ s,sval gl fr f=some s)→∃ s,K s∧Quiet P gl fr L ⟨dst,op,ty,pos,after,guard⟩ s:=by
  intro g vs f args ats hc hvs hop hf ⟨sf,hsf⟩
  subst hop
  obtain ⟨s,hK,hD⟩:=qcall_ok hc
  refine ⟨s,hK,fun M0 adr n w a K' Q hw hgl hx hk=>?_⟩
  have hden:All2 (DenV adr (Mut M0 adr L) w) vs (args.toList.map a.eval):=svals_den hvs (fun x hx' s hs=>hx x (by simp[Op.operands,Call.operands];exact .inr (by simpa using hx')) s hs)
  have e1:a.eval f=.func (.func g) #[] #[]:=hf adr _ w _ sf hsf (hx f (by simp[Op.operands,Call.operands]) sf hsf)
  have he:(execOp a.eval ⟨dst,.call ⟨.value f,args,ats⟩,ty,pos,after,guard⟩).run P w=(callFunc g (args.toList.map a.eval).toArray).run P w:=by
   unfold execOp
   simp only[resolve,e1,Deferred.ofValue,Sem.run_bind,Sem.run_pure,Result.andThen_ok,invoke,Array.empty_append,Array.append_empty]
   congr 2
   apply Array.ext'
   simp
  unfold Oper.wp
  rw[he]
  rcases hD M0 adr n w _ hw hgl hden with ⟨hB,hC⟩|⟨v,w',h1,h2⟩
  ·rw[hB.enters,Oper.upon_enter]
   refine hC.mono fun e w' hret=>?_
   obtain ⟨hE,x,rfl,hv⟩:=hret
   exact hk x w' hE hv
  ·obtain ⟨hE,x,e2,hv⟩:=h2
   cases e2
   rw[h1,Oper.upon_value]
   exact hk _ w' hE hv
 cases op with
 | buildSlice t len ps =>
  obtain ⟨ti,hl,q1⟩:=onT_ok h
  clear h
  split at q1
  ·rename_i e h3 hel
   obtain ⟨te,hle,q2⟩:=onT_ok q1
   clear q1
   split at q2
   ·rename_i vs hvs
    split at q2
    ·rename_i rs hrs
     obtain ⟨g1,q3⟩:=onB_ok q2
     obtain ⟨g2,q4⟩:=onB_ok q3
     obtain ⟨g3,q5⟩:=onB_ok q4
     obtain ⟨g4,q6⟩:=onB_ok q5
     obtain ⟨g5,q7⟩:=onB_ok q6
     obtain ⟨g6,hK⟩:=onB_ok q7
     clear q2 q3 q4 q5 q6 q7
     refine ⟨_,hK,fun M0 adr n w a K' Q hw hgl hx hk=>?_⟩
     have g1:0<te.size:=by simp[Nat.blt,Nat.ble_eq] at g1;omega
     have g3:=Nat.eq_of_beq_eq_true g3
     have g4:0<len:=by simp[Nat.blt,Nat.ble_eq] at g4;omega
     have g5:=Nat.le_of_ble_eq_true g5
     have hden:All2 (DenV adr (Mut M0 adr L) w) vs ((ps.toList.map (·.2)).map a.eval):=svals_den hvs (fun x hx' s hs=>hx x (by simpa[Op.operands] using hx') s hs)
     have hlv:=All2.length hden
     have hrow:=rowsV_ok hrs hden
     have hrl:=All2.length hrow
     have hz:=eachLen_ok g6
     obtain ⟨cur,h1,h2⟩:=run_buildSlice_rows w (kd3 (hT t ti hl) h3 hel) (hT e te hle) g1 hrow hz (by rw[← hlv,g3];exact g5) (by rw[← hlv,g3];exact g4)
     have hmax:rs.length≤maxLen:=by
      rw[hrl,← hlv,g3]
      have:len≤len * te.size:=Nat.le_mul_of_pos_right _ g1
      simp only[maxLen];omega
     have hcl:=All2.length h2
     rw[flatten_length hz] at hcl
     have hparts:(ps.map fun (i,x)=>(i,a.eval x))=((((ps.toList.map (·.2)).map a.eval).zipIdx 0).map fun x=>(x.2,x.1)).toArray:=by
      apply Array.ext'
      have:=dense_ok a.eval g2
      rw[List.map_map]
      simp only[Function.comp_def]
      rw[← this]
      simp
     have hlen:((ps.toList.map (·.2)).map a.eval).length=len:=by rw[← hlv,g3]
     rw[hlen] at h1
     unfold Oper.wp execOp
     simp only[hparts,Sem.run_bind,h1,Result.andThen_ok,Sem.run_pure]
     rw[Oper.upon_value]
     have hrlen:rs.length=len:=by rw[hrl,← hlv,g3]
     have hE:=Evo.alloc (fun _=>False) w (Obj.cells cur.toArray e (0,0))
     refine hk _ _ hE ?_
     have:=rows_new (M:=Mut M0 adr L) (z:=te.size) (cap:=rs.length) (heap_alloc_new w (Obj.cells cur.toArray e (0,0))) (DenL.evo hE (fun _ _ h=>h.elim) (fun _ _ h=>h) (by simp only;rw[List.take_of_length_le (by omega)];exact h2)) hz (Nat.le_refl _) hmax (fun hm=>Nat.lt_irrefl _ (hw.mutLt hm))
     rw[hrlen] at this
     exact this
    ·exact q2.elim
   ·exact q2.elim
  ·exact q1.elim
 | convert src d x =>
  obtain ⟨c,hc,q1⟩:=onC_ok h
  obtain ⟨ts,hl,q2⟩:=onT_ok q1
  obtain ⟨td,hl2,q3⟩:=onT_ok q2
  clear h q1 q2
  split at q3
  ·rename_i e l h3 hel
   obtain ⟨te,hle,q4⟩:=onT_ok q3
   obtain ⟨g1,q5⟩:=onB_ok q4
   obtain ⟨g2,hlen,hK⟩:=onB_ok q5
   clear q3 q4 q5
   refine ⟨_,hK,fun M0 adr n w a K' Q hw hgl hx hk=>?_⟩
   have hstr:P.underlying src=some .string:=by
    obtain ⟨d,hd,_,_,_,_,_,hkd⟩:=(hT src ts hl).desc
    rw[Nat.eq_of_beq_eq_true g1] at hkd
    cases d <;> simp[kdOf] at hkd;exact hd
   have hu8:P.underlying e=some (.int .u8):=by
    obtain ⟨de,ee,_,_,_,ike,_⟩:=(hT e te hle).desc
    cases hk:te.ik with
    | none=>rw[hk] at g2;cases g2
    | some k =>
     rw[hk] at g2 ike
     obtain rfl:=ikeq_ok g2
     cases de <;> simp only[ikOf,reduceCtorEq,Option.some.injEq] at ike
     subst ike;exact ee
   have ex:=DenD.str_inv (hx x (by simp[Op.operands]) _ hc)
   obtain ⟨v,w',h1,h2,h3'⟩:=run_str_bytes w hstr (kd3 (hT d td hl2) h3 hel) hu8 (M:=Mut M0 adr L) (fun b hb=>hw.mutLt hb) l hlen
   unfold Oper.wp execOp
   simp only[ex,Sem.run_bind,h1,Result.andThen_ok,Sem.run_pure]
   rw[Oper.upon_value]
   exact hk _ _ h2 h3'
  ·refine pcase ?_
   show onC (sval gl fr x) _
   rw[hc]
   show onT tt src _
   unfold onT
   rw[hl]
   show match look tt d with|some ti=>_|none=>False
   rw[hl2]
   exact q3
 | call c =>
  obtain ⟨callee,args,ats⟩:=c
  cases callee with
  | value f =>
   obtain ⟨cf,hcf,q1⟩:=onC_ok h
   clear h
   split at q1
   ·rename_i vs hvs
    split at q1
    ·rename_i g
     refine call g vs f args ats q1 hvs rfl (fun adr M w x s hs hd=>?_) ⟨_,hcf⟩
     rw[hcf] at hs;cases hs
     obtain ⟨xs,rfl,h2⟩:=hd
     rw[All2.nil_iff] at h2;subst h2;rfl
    ·rename_i g
     refine call g vs f args ats q1 hvs rfl (fun adr M w x s hs hd=>?_) ⟨_,hcf⟩
     rw[hcf] at hs;cases hs
     exact DenD.v_inv hd
    ·exact q1.elim
   ·exact q1.elim
  | builtin b=>exact pcase h
  | invoke r m=>exact pcase h
 | _=>exact pcase h
end
end Go.EYtaheflnnigocgaaGreatDoor
end
