/- Proved: a part of what the law is proved with (the reckoner, contracts of functions, plain laws). Conditions: as each says. -/
import Derived.Test.YtfcmhmglpcimiaaGreatDoorKEl
namespace Go.EYtfcmhmglpcimiaaGreatDoor
open Go Go.RowKit
section
def dstAt (ops:List Oper) (j:Nat):Option Nat:=(nth ops j).bind (·.dst)
def guardOut (b want:Bool):Bool:=match b,want with
 | true,true=>true
 | false,false=>true
 | _,_=>false
def onGuard (ops:List Oper) (g:Option (Nat×Bool)) (fr:List (Nat×V)) (K:Bool→List (Nat×V)→Prop):Prop :=
 match g with
 | none=>K true fr
 | some (j,want)=>match dstAt ops j with
  | some d=>match look fr d with
   | some (.c (.d (.v (.bool b))))=>K (guardOut b want) fr
   | some (.c (.d (.v (.tuple ⟨[]⟩))))=>K false fr
   | some (.c (.d (.b p _)))=>Fork p (K (guardOut true want) ((d,.c (.d (.v (.bool true))))::fr)) (K (guardOut false want) ((d,.c (.d (.v (.bool false))))::fr))
   | _=>False
  | none=>False
def FrLe (fr fr':List (Nat×V)):Prop:=∀ t s,look fr' t=some s→∃ s0,look fr t=some s0∧∀ (adr:Env) (M:Nat→Prop) (w:World) (x:Value),DenV adr M w s0 x→DenV adr M w s x
theorem FrLe.refl (fr:List (Nat×V)):FrLe fr fr:=fun _ s h=>⟨s,h,fun _ _ _ _ h=>h⟩
def GuardIs (ops:Array Oper) (o:Oper) (fr:List (Nat×V)) (run:Bool):Prop :=
 match o.guard with
 | none=>run=true
 | some (j,want)=>∃ d s,(ops[j]?).bind (·.dst)=some d∧look fr d=some s∧∀ (adr:Env) (M:Nat→Prop) (w:World) (x:Value),DenV adr M w s x→((match x with|.bool b=>some b|_=>none)==some want)=run
theorem guardOut_eq (b want:Bool):((some b:Option Bool)==some want)=guardOut b want:=by cases b <;> cases want <;> rfl
theorem onGuard_ok {ops:Array Oper} {o:Oper} {fr:List (Nat×V)} {K:Bool→List (Nat×V)→Prop} (h:onGuard ops.toList o.guard fr K):∃ run fr',K run fr'∧GuardIs ops o fr run∧FrLe fr fr':=by
 unfold onGuard at h
 unfold GuardIs
 split at h
 ·rename_i hg;exact ⟨true,fr,h,rfl,.refl fr⟩
 ·rename_i j want hg
  split at h
  ·rename_i d hd
   have hd':(ops[j]?).bind (·.dst)=some d:=by
    have:=hd
    unfold dstAt at this
    rw[nth_eq,Array.getElem?_toList] at this
    exact this
   split at h
   ·rename_i b hb
    exact ⟨_,fr,h,⟨d,_,hd',hb,fun adr M w x hx=>by obtain rfl:=DenD.v_inv hx;exact guardOut_eq b want⟩,.refl fr⟩
   ·rename_i hb
    exact ⟨_,fr,h,⟨d,_,hd',hb,fun adr M w x hx=>by obtain rfl:=DenD.v_inv hx;rfl⟩,.refl fr⟩
   ·rename_i p i hb
    have le:∀ b:Bool,(∀ (adr:Env) (M:Nat→Prop) (w:World) (x:Value),DenV adr M w (.c (.d (.b p i))) x→x=.bool b)→FrLe fr ((d,.c (.d (.v (.bool b))))::fr):=fun b hx t s hl=>by
     rw[look_cons] at hl
     by_cases e:d=t
     ·rw[if_pos e] at hl;cases hl
      exact ⟨_,by rw[← e];exact hb,fun adr M w x hd=>by rw[hx adr M w x hd];exact DenD.v _⟩
     ·rw[if_neg e] at hl
      exact ⟨s,hl,fun _ _ _ _ h=>h⟩
    by_cases hp:p
    ·have hx:∀ (adr:Env) (M:Nat→Prop) (w:World) (x:Value),DenV adr M w (.c (.d (.b p i))) x→x=.bool true:=fun adr M w x hd=>by rw[DenD.b_inv hd,decide_eq_true hp]
     exact ⟨_,_,h.1 hp,⟨d,_,hd',hb,fun adr M w x hd=>by rw[hx adr M w x hd];exact guardOut_eq true want⟩,le true hx⟩
    ·have hx:∀ (adr:Env) (M:Nat→Prop) (w:World) (x:Value),DenV adr M w (.c (.d (.b p i))) x→x=.bool false:=fun adr M w x hd=>by rw[DenD.b_inv hd,decide_eq_false hp]
     exact ⟨_,_,h.2 hp,⟨d,_,hd',hb,fun adr M w x hd=>by rw[hx adr M w x hd];exact guardOut_eq false want⟩,le false hx⟩
   ·exact h.elim
  ·exact h.elim
theorem GuardIs.wanted {ops:Array Oper} {o:Oper} {fr:List (Nat×V)} {run:Bool} (h:GuardIs ops o fr run) {adr:Env} {M:Nat→Prop} {w:World} {a:Act} (hf:∀ t s,t ∈ o.looksAt ops→look fr t=some s→DenV adr M w s (a.tmps.getD t undef)) :
 Region.wanted o (yielded ops a.tmps)=run:=by
 unfold GuardIs at h
 unfold Region.wanted
 split at h
 ·rename_i hg;rw[hg];exact h.symm
 ·rename_i j want hg
  rw[hg]
  show (yielded ops a.tmps j==some want)=run
  obtain ⟨d,s,hd,hs,hx⟩:=h
  have hl:d ∈ o.looksAt ops:=by
   unfold Oper.looksAt
   rw[hg]
   simp only[hd,Option.toList_some]
   exact List.mem_append_right _ (by simp)
  have:=hx adr M w _ (hf d s hl hs)
  have hy:yielded ops a.tmps j=(match a.tmps.getD d undef with|.bool b=>some b|_=>none):=by
   unfold yielded
   rw[hd]
   simp only[Option.bind_some]
   rw[Array.getD_eq_getD_getElem?]
   cases ht:a.tmps[d]? with
   | none=>rfl
   | some u=>simp only[Option.getD_some];cases u <;> rfl
  rw[hy]
  exact this
theorem FrOk.le {adr:Env} {M:Nat→Prop} {w:World} {fr fr':List (Nat×V)} {a:Act} (h:FrOk adr M w fr a) (hl:FrLe fr fr'):FrOk adr M w fr' a:=fun t s hs=>by
 obtain ⟨s0,h1,h2⟩:=hl t s hs
 exact h2 _ _ _ _ (h t s0 h1)
theorem Ok.le {gl:List (Nat×List D)} {M0 S0:Nat→Prop} {w0:Base} {N:Nat} {adr:Env} {fr fr':List (Nat×V)} {L:List (Nat×Blk)} {n:Nat} {a:Act} {w:World} (h:Ok gl M0 S0 w0 N adr fr L n a w) (hl:FrLe fr fr') :
 Ok gl M0 S0 w0 N adr fr' L n a w:=⟨h.size,h.defers,h.fr.le hl,h.wok,h.glob,h.base,h.new,h.same⟩
abbrev undV:V:=.c (.d (.v undef))
def vcOps (P:Program) (gl:List (Nat×List D)) (tt:List (Nat×TI)) (fx:List Nat) (N:Nat) (all l:List Oper):List (Nat×V)→List (Nat×Blk)→Nat→SK→(C→SK)→Prop :=
 List.rec (motive:=fun _=>List (Nat×V)→List (Nat×Blk)→Nat→SK→(C→SK)→Prop) (fun fr L n k _=>k fr L n)
  (fun o _ ih fr L n k kp=>onB (dstB N o.dst) (onGuard all o.guard fr fun run fr1=>match run with
  | true=>xOp P gl tt fx o.op fr1 L n (fun s fr' L' n'=>putK o.dst s fr' fun f=>ih f L' n' k kp) kp
  | false=>putK o.dst undV fr1 fun f=>ih f L n k kp)) l
section
variable {P:Program} {gl:List (Nat×List D)} {tt:List (Nat×TI)} {M0 S0:Nat→Prop} {w0:Base} {N:Nat}
def PanOk (gl:List (Nat×List D)) (M0 S0:Nat→Prop) (w0:Base) (N:Nat) (kp:C→SK) (Q:Exit→Act→World→Prop):Prop :=
 ∀ c fr L n adr x a w,kp c fr L n→Ok gl M0 S0 w0 N adr fr L n a w→DenC adr (Mut M0 adr L) w c x→Q (.panic [{ v:=x,recovered:=false }]) a w
theorem vcOps_ok (hT:Fits P tt) {ops:Array Oper} {Q:Exit→Act→World→Prop} {k:SK} {kp:C→SK} (hQ:∀ fr L n adr a w,k fr L n→Ok gl M0 S0 w0 N adr fr L n a w→Q .normal a w) (hp:PanOk gl M0 S0 w0 N kp Q) :
 ∀ (l:List Oper) (fr:List (Nat×V)) (L:List (Nat×Blk)) (n:Nat) (adr:Env) (a:Act) (w:World),vcOps P gl tt w0.fx N ops.toList l fr L n k kp→Ok gl M0 S0 w0 N adr fr L n a w→wpList P ops Q l a w
 | [],fr,L,n,adr,a,w,h,hx=>hQ _ _ _ _ _ _ h hx
 | o::r,fr,L,n,adr,a,w,h,hx=>by
  obtain ⟨hd,h1⟩:=onB_ok (show onB (dstB N o.dst) _ from h)
  obtain ⟨run,fr1,h2,hg,hle⟩:=onGuard_ok h1
  have hw:=hg.wanted (adr:=adr) (M:=Mut M0 adr L) (w:=w) (a:=a) (fun t s _ hl=>hx.fr t s hl)
  have hx1:=hx.le hle
  unfold wpList
  rw[hw]
  cases run with
  | true =>
   simp only[if_true]
   refine .inl (xOp_ok hT h2 hx1 ?_ ?_)
   ·rintro v w' ⟨s,fr',L',n',adr',h3,h4,h5⟩
    rw[putK_eq] at h3
    exact vcOps_ok hT hQ hp r _ _ _ adr' _ _ h3 (h4.put hd h5)
   ·intro c fr' L' n' adr' x w' h3 h4 h5
    exact hp c fr' L' n' adr' x a w' h3 h4 h5
  | false =>
   simp only[Bool.false_eq_true,if_false]
   rw[putK_eq] at h2
   exact vcOps_ok hT hQ hp r _ _ _ adr _ w h2 (hx1.put hd (DenD.v _))
end
def qcall (P:Program) (gl:List (Nat×List D)) (g:Nat) (vs:List V) (L:List (Nat×Blk)) (K:V→Prop):Prop :=
 lendVs L vs fun ds ks=>∃ r,FnP P gl g ds r∧match ks with
  | []=>fV (vD r) K
  | _=>onB (flatD r) (fV (vD r) K)
def qOp (P:Program) (gl:List (Nat×List D)) (tt:List (Nat×TI)) (op:Op) (fr:List (Nat×V)) (L:List (Nat×Blk)) (K:V→Prop):Prop :=
 match op with
 | .buildSlice t len ps=>onT tt t fun ti=>match Nat.beq ti.kd 3,ti.el with
  | true,some e=>onT tt e fun te=>match svals gl fr (ps.toList.map (·.2)) with
   | some vs=>match rowsV vs with
    | some rs=>onB (Nat.blt 0 te.size) (onB (denseB 0 ps.toList) (onB (Nat.beq vs.length len) (onB (Nat.blt 0 len) (onB (Nat.ble (len * te.size) 16777216) (onB (eachLen te.size rs) (K (.c (.d (.lst te.size rs)))))))))
    | none=>False
   | none=>False
  | _,_=>False
 | .convert s d x=>onC (sval gl fr x) fun c=>onT tt s fun ts=>onT tt d fun td=>match Nat.beq td.kd 3,td.el,c with
  | true,some e,.d (.str l)=>onT tt e fun te=>onB (Nat.beq ts.kd 2) (onB (match te.ik with|some k=>ikeq k .u8|none=>false) (l.length≤maxLen∧K (.c (.d (.lst 1 (l.map u8D))))))
  | _,_,_=>rConv L ts td (elTI tt ts) c K
 | .call c=>match c.callee with
  | .value f=>onC (sval gl fr f) fun cf=>match svals gl fr c.args.toList with
   | some vs=>match cf with
    | .fn g []=>qcall P gl g vs L K
    | .d (.v (.func (.func g) ⟨[]⟩ ⟨[]⟩))=>qcall P gl g vs L K
    | _=>False
   | none=>False
  | _=>pOp P tt (sval gl fr) L op K
 | op=>pOp P tt (sval gl fr) L op K
def Quiet (P:Program) (gl:List (Nat×List D)) (fr:List (Nat×V)) (L:List (Nat×Blk)) (o:Oper) (s:V):Prop :=
 ∀ (M0:Nat→Prop) (adr:Env) (n:Nat) (w:World) (a:Act) (K:Act→World→Prop) (Q:Exit→Act→World→Prop),WOk M0 adr L n w→Glob gl (Mut M0 adr L) w→
  (∀ x ∈ o.op.operands.toList,∀ s,sval gl fr x=some s→DenV adr (Mut M0 adr L) w s (a.eval x))→
  (∀ v w',Evo (fun _=>False) w w'→DenV adr (Mut M0 adr L) w' s v→K (a.put o.dst v) w')→o.wp P a w K Q
theorem rows_new {M:Nat→Prop} {w:World} {z b cap e:Nat} {rs:List (List D)} {cur:Array Value} {f:Nat×Nat} (hc:w.heap[b]?=some (Obj.cells cur e f)) (hd:DenL M w rs.flatten (cur.toList.take (rs.length * z))) (hz:∀ r ∈ rs,r.length=z) (hl:rs.length≤cap) (hm:cap≤maxLen) (hM:¬ M b) :
 DenD M w (.lst z rs) (.slice (some ⟨b,0,none⟩) rs.length cap):=by
 have hg:∀ i j d,get2 rs i j=some d→∃ x,cur.toList[i * z+j]?=some x∧DenD M w d x:=fun i j d hd'=>by
  obtain ⟨h1,h2⟩:=get2_lt hz hd'
  rw[← get2_flat hz h2] at hd'
  obtain ⟨x,hx1,hx2⟩:=All2.get hd hd'
  rw[List.getElem?_take] at hx1
  split at hx1
  ·exact ⟨x,hx1,hx2⟩
  ·cases hx1
 refine DenD.lst z rs b 0 cap (fun i j=>cur.toList.getD (i * z+j) undef) (Array.getElem?_eq_some_iff.1 hc).1 hM hl hm hz (fun i j d hd=>?_) (fun i j d hd=>?_)
 ·obtain ⟨x,hx1,hx2⟩:=hg i j d hd
  simp only[World.cell?,hc]
  rw[Nat.zero_add]
  simp only[List.getD,hx1,Option.getD_some]
  simpa using hx1
 ·obtain ⟨x,hx1,hx2⟩:=hg i j d hd
  simp only[List.getD,hx1,Option.getD_some]
  exact hx2
section
variable {P:Program} {gl:List (Nat×List D)} {tt:List (Nat×TI)} {fr:List (Nat×V)} {L:List (Nat×Blk)}
theorem svals_den {adr:Env} {M:Nat→Prop} {w:World} {ρ:Operand→Value}:∀ {ys:List Operand} {l:List V},svals gl fr ys=some l→(∀ x ∈ ys,∀ s,sval gl fr x=some s→DenV adr M w s (ρ x))→All2 (DenV adr M w) l (ys.map ρ)
 | [],l,hl,_=>by simp only[svals,Option.some.injEq] at hl;subst hl;trivial
 | y::r,l,hl,hd=>by
  simp only[svals] at hl
  split at hl
  ·rename_i s l' hs hr
   cases hl
   exact ⟨hd y (by simp) s hs,svals_den hr (fun x hx=>hd x (by simp[hx]))⟩
  ·cases hl
theorem qcall_ok {g:Nat} {vs:List V} {K:V→Prop} (h:qcall P gl g vs L K):∃ s,K s∧∀ (M0:Nat→Prop) (adr:Env) (n:Nat) (w:World) (xs:List Value),WOk M0 adr L n w→Glob gl (Mut M0 adr L) w→All2 (DenV adr (Mut M0 adr L) w) vs xs→
 Does P g xs.toArray w fun e w'=>Evo (fun _=>False) w w'∧∃ x,e=.returned x∧DenV adr (Mut M0 adr L) w' s x:=by
 obtain ⟨ds,ks,⟨r,hF,hr⟩,hl⟩:=lendVs_ok h
 have key:∀ (hk:(ks=[]∨flatD r=true)) (M0:Nat→Prop) (adr:Env) (n:Nat) (w:World) (xs:List Value),WOk M0 adr L n w→Glob gl (Mut M0 adr L) w→All2 (DenV adr (Mut M0 adr L) w) vs xs→
  Does P g xs.toArray w fun e w'=>Evo (fun _=>False) w w'∧∃ x,e=.returned x∧DenV adr (Mut M0 adr L) w' (vD r) x:=by
  intro hk M0 adr n w xs hw hg hd
  let M':Nat→Prop:=fun b=>Mut M0 adr L b∧¬ ∃ k ∈ ks,∃ m,adr k=some (some b,m)
  have hM':∀ b,b<w.heap.size→M' b→Mut M0 adr L b:=fun b _ hb=>hb.1
  have hsp:Spares adr ks M':=fun k hk b m ha hb=>hb.2 ⟨k,hk,m,ha⟩
  refine (hF w M' xs (fun b hb=>hw.mutLt hb.1) (hg.less hM') (hl M0 adr n w xs M' hw hd hM' hsp)).mono ?_
  rintro e w' ⟨hE,x,rfl,hv⟩
  refine ⟨hE,x,rfl,?_⟩
  rcases hk with rfl|hf
  ·exact vD_den (hv.less fun b _ hb=>⟨hb,fun ⟨k,hk,_⟩=>by simp at hk⟩)
  ·exact vD_den (flatD_ok hf hv)
 split at hr
 ·rw[fV_eq] at hr;exact ⟨_,hr,key (.inl rfl)⟩
 ·obtain ⟨hf,hr⟩:=onB_ok hr
  rw[fV_eq] at hr;exact ⟨_,hr,key (.inr hf)⟩
theorem qOp_ok (hT:Fits P tt) {o:Oper} {K:V→Prop} (h:qOp P gl tt o.op fr L K):∃ s,K s∧Quiet P gl fr L o s:=by
 obtain ⟨dst,op,ty,pos,after,guard⟩:=o
 have pcase:pOp P tt (sval gl fr) L op K→∃ s,K s∧Quiet P gl fr L ⟨dst,op,ty,pos,after,guard⟩ s:=by
  intro h
  obtain ⟨s,hK,hg⟩:=pOp_ok (gl:=gl) hT (o:=⟨dst,op,ty,pos,after,guard⟩) h
  refine ⟨s,hK,fun M0 adr n w a K' Q hw hgl hx hk=>?_⟩
  obtain ⟨v,h1,h2⟩:=hg M0 adr L n w a.eval (fun _ _ h=>h) hw hgl hx
  unfold Oper.wp
  rw[h1,Oper.upon_value]
  exact hk v w (Evo.refl _ _) h2
 have call:∀ (g:Nat) (vs:List V) (f:Operand) (args:Array Operand) (ats:Array TypeId),qcall P gl g vs L K→svals gl fr args.toList=some vs→op=.call ⟨.value f,args,ats⟩→(∀ (adr:Env) (M:Nat→Prop) (w:World) (x:Value) (s:V),sval gl fr f=some s→DenV adr M w s x→x=.func (.func g) #[] #[])→(∃ s,sval gl fr f=some s)→∃ s,K s∧Quiet P gl fr L ⟨dst,op,ty,pos,after,guard⟩ s:=by
  intro g vs f args ats hc hvs hop hf ⟨sf,hsf⟩
  subst hop
  obtain ⟨s,hK,hD⟩:=qcall_ok hc
  refine ⟨s,hK,fun M0 adr n w a K' Q hw hgl hx hk=>?_⟩
  have hden:All2 (DenV adr (Mut M0 adr L) w) vs (args.toList.map a.eval):=svals_den hvs (fun x hx' s hs=>hx x (by simp[Op.operands,Call.operands];exact .inr (by simpa using hx')) s hs)
  have e1:a.eval f=.func (.func g) #[] #[]:=hf adr _ w _ sf hsf (hx f (by simp[Op.operands,Call.operands]) sf hsf)
  have he:(execOp a.eval ⟨dst,.call ⟨.value f,args,ats⟩,ty,pos,after,guard⟩).run P w=(callFunc g (args.toList.map a.eval).toArray).run P w:=by
   unfold execOp
   simp only[resolve,e1,Deferred.ofValue,Sem.run_bind,Sem.run_pure,Result.andThen_ok,invoke,Array.empty_append,Array.append_empty]
   congr 2
   apply Array.ext'
   simp
  unfold Oper.wp
  rw[he]
  rcases hD M0 adr n w _ hw hgl hden with ⟨hB,hC⟩|⟨v,w',h1,h2⟩
  ·rw[hB.enters,Oper.upon_enter]
   refine hC.mono fun e w' hret=>?_
   obtain ⟨hE,x,rfl,hv⟩:=hret
   exact hk x w' hE hv
  ·obtain ⟨hE,x,e2,hv⟩:=h2
   cases e2
   rw[h1,Oper.upon_value]
   exact hk _ w' hE hv
 cases op with
 | buildSlice t len ps =>
  obtain ⟨ti,hl,q1⟩:=onT_ok h
  clear h
  split at q1
  ·rename_i e h3 hel
   obtain ⟨te,hle,q2⟩:=onT_ok q1
   clear q1
   split at q2
   ·rename_i vs hvs
    split at q2
    ·rename_i rs hrs
     obtain ⟨g1,q3⟩:=onB_ok q2
     obtain ⟨g2,q4⟩:=onB_ok q3
     obtain ⟨g3,q5⟩:=onB_ok q4
     obtain ⟨g4,q6⟩:=onB_ok q5
     obtain ⟨g5,q7⟩:=onB_ok q6
     obtain ⟨g6,hK⟩:=onB_ok q7
     clear q2 q3 q4 q5 q6 q7
     refine ⟨_,hK,fun M0 adr n w a K' Q hw hgl hx hk=>?_⟩
     have g1:0<te.size:=by simp[Nat.blt,Nat.ble_eq] at g1;omega
     have g3:=Nat.eq_of_beq_eq_true g3
     have g4:0<len:=by simp[Nat.blt,Nat.ble_eq] at g4;omega
     have g5:=Nat.le_of_ble_eq_true g5
     have hden:All2 (DenV adr (Mut M0 adr L) w) vs ((ps.toList.map (·.2)).map a.eval):=svals_den hvs (fun x hx' s hs=>hx x (by simpa[Op.operands] using hx') s hs)
     have hlv:=All2.length hden
     have hrow:=rowsV_ok hrs hden
     have hrl:=All2.length hrow
     have hz:=eachLen_ok g6
     obtain ⟨cur,h1,h2⟩:=run_buildSlice_rows w (kd3 (hT t ti hl) h3 hel) (hT e te hle) g1 hrow hz (by rw[← hlv,g3];exact g5) (by rw[← hlv,g3];exact g4)
     have hmax:rs.length≤maxLen:=by
      rw[hrl,← hlv,g3]
      have:len≤len * te.size:=Nat.le_mul_of_pos_right _ g1
      simp only[maxLen];omega
     have hcl:=All2.length h2
     rw[flatten_length hz] at hcl
     have hparts:(ps.map fun (i,x)=>(i,a.eval x))=((((ps.toList.map (·.2)).map a.eval).zipIdx 0).map fun x=>(x.2,x.1)).toArray:=by
      apply Array.ext'
      have:=dense_ok a.eval g2
      rw[List.map_map]
      simp only[Function.comp_def]
      rw[← this]
      simp
     have hlen:((ps.toList.map (·.2)).map a.eval).length=len:=by rw[← hlv,g3]
     rw[hlen] at h1
     unfold Oper.wp execOp
     simp only[hparts,Sem.run_bind,h1,Result.andThen_ok,Sem.run_pure]
     rw[Oper.upon_value]
     have hrlen:rs.length=len:=by rw[hrl,← hlv,g3]
     have hE:=Evo.alloc (fun _=>False) w (Obj.cells cur.toArray e (0,0))
     refine hk _ _ hE ?_
     have:=rows_new (M:=Mut M0 adr L) (z:=te.size) (cap:=rs.length) (heap_alloc_new w (Obj.cells cur.toArray e (0,0))) (DenL.evo hE (fun _ _ h=>h.elim) (fun _ _ h=>h) (by simp only;rw[List.take_of_length_le (by omega)];exact h2)) hz (Nat.le_refl _) hmax (fun hm=>Nat.lt_irrefl _ (hw.mutLt hm))
     rw[hrlen] at this
     exact this
    ·exact q2.elim
   ·exact q2.elim
  ·exact q1.elim
 | convert src d x =>
  obtain ⟨c,hc,q1⟩:=onC_ok h
  obtain ⟨ts,hl,q2⟩:=onT_ok q1
  obtain ⟨td,hl2,q3⟩:=onT_ok q2
  clear h q1 q2
  split at q3
  ·rename_i e l h3 hel
   obtain ⟨te,hle,q4⟩:=onT_ok q3
   obtain ⟨g1,q5⟩:=onB_ok q4
   obtain ⟨g2,hlen,hK⟩:=onB_ok q5
   clear q3 q4 q5
   refine ⟨_,hK,fun M0 adr n w a K' Q hw hgl hx hk=>?_⟩
   have hstr:P.underlying src=some .string:=by
    obtain ⟨d,hd,_,_,_,_,_,hkd⟩:=(hT src ts hl).desc
    rw[Nat.eq_of_beq_eq_true g1] at hkd
    cases d <;> simp[kdOf] at hkd;exact hd
   have hu8:P.underlying e=some (.int .u8):=by
    obtain ⟨de,ee,_,_,_,ike,_⟩:=(hT e te hle).desc
    cases hk:te.ik with
    | none=>rw[hk] at g2;cases g2
    | some k =>
     rw[hk] at g2 ike
     obtain rfl:=ikeq_ok g2
     cases de <;> simp only[ikOf,reduceCtorEq,Option.some.injEq] at ike
     subst ike;exact ee
   have ex:=DenD.str_inv (hx x (by simp[Op.operands]) _ hc)
   obtain ⟨v,w',h1,h2,h3'⟩:=run_str_bytes w hstr (kd3 (hT d td hl2) h3 hel) hu8 (M:=Mut M0 adr L) (fun b hb=>hw.mutLt hb) l hlen
   unfold Oper.wp execOp
   simp only[ex,Sem.run_bind,h1,Result.andThen_ok,Sem.run_pure]
   rw[Oper.upon_value]
   exact hk _ _ h2 h3'
  ·refine pcase ?_
   show onC (sval gl fr x) _
   rw[hc]
   show onT tt src _
   unfold onT
   rw[hl]
   show match look tt d with|some ti=>_|none=>False
   rw[hl2]
   exact q3
 | call c =>
  obtain ⟨callee,args,ats⟩:=c
  cases callee with
  | value f =>
   obtain ⟨cf,hcf,q1⟩:=onC_ok h
   clear h
   split at q1
   ·rename_i vs hvs
    split at q1
    ·rename_i g
     refine call g vs f args ats q1 hvs rfl (fun adr M w x s hs hd=>?_) ⟨_,hcf⟩
     rw[hcf] at hs;cases hs
     obtain ⟨xs,rfl,h2⟩:=hd
     rw[All2.nil_iff] at h2;subst h2;rfl
    ·rename_i g
     refine call g vs f args ats q1 hvs rfl (fun adr M w x s hs hd=>?_) ⟨_,hcf⟩
     rw[hcf] at hs;cases hs
     exact DenD.v_inv hd
    ·exact q1.elim
   ·exact q1.elim
  | builtin b=>exact pcase h
  | invoke r m=>exact pcase h
 | _=>exact pcase h
end
end
section
def upOf (ms:List Nat) (es:List Edge):Nat:=es.foldl (fun m e=>bif Region.binds .any e then m ||| (1 <<< e.on) ||| ms.getD e.on 0 else m) 0
def masksGo:List Oper→List Nat→List Nat
 | [],ms=>ms
 | o::r,ms=>masksGo r (ms++[upOf ms o.after.toList])
def barB (ms:List Nat) (j q:Nat):Bool:=(ms.getD j 0==2 ^ j - 1) && (List.range q).all fun k=>decide (k≤j) || (ms.getD k 0).testBit j
def barsOf (l:List Oper):List Bool:=(List.range l.length).map fun j=>barB (masksGo l []) j l.length
def regB (ops:Array Oper) (bs:List Bool):Bool :=
 let ms:=masksGo ops.toList []
 (bs.length==ops.size) &&
 ((List.range ops.size).all fun j=>match ops[j]? with
  | some o=>(ms.getD j 0==upOf ms o.after.toList) && (o.after.toList.all fun e=>!Region.binds .any e || decide (e.on<j)) && (!bs.getD j false || barB ms j ops.size) &&
   (bs.getD j false || (List.range ops.size).all fun i=>bs.getD i false || i==j || match ops[i]? with
    | some o'=>match o'.dst with
     | some t=>(o.dst != some t) && (!(o.looksAt ops).contains t || (if i<j then (ms.getD j 0).testBit i else (ms.getD i 0).testBit j))
     | none=>true
    | none=>true)
  | none=>true)
structure RegOk (ops:Array Oper) (bs:List Bool) (ms:List Nat):Prop where
 len:bs.length=ops.size
 mask:∀ j o,ops[j]?=some o→ms.getD j 0=upOf ms o.after.toList
 low:∀ j o,ops[j]?=some o→∀ e ∈ o.after,Region.binds .any e=true→e.on<j
 bar:∀ j,j<ops.size→bs.getD j false=true→ms.getD j 0=2 ^ j - 1∧∀ k,j<k→k<ops.size→(ms.getD k 0).testBit j=true
 ssa:∀ i j o o' t,ops[j]?=some o→ops[i]?=some o'→bs.getD i false=false→bs.getD j false=false→i≠j→o'.dst=some t→o.dst≠some t
 readL:∀ i j o o' t,ops[j]?=some o→ops[i]?=some o'→bs.getD i false=false→bs.getD j false=false→o'.dst=some t→t ∈ o.looksAt ops→i<j→(ms.getD j 0).testBit i=true
 readR:∀ i j o o' t,ops[j]?=some o→ops[i]?=some o'→bs.getD i false=false→bs.getD j false=false→o'.dst=some t→t ∈ o.looksAt ops→j<i→(ms.getD i 0).testBit j=true
theorem regB_ok {ops:Array Oper} {bs:List Bool} (h:regB ops bs=true):RegOk ops bs (masksGo ops.toList []):=by
 unfold regB at h
 simp only[Bool.and_eq_true,beq_iff_eq,List.all_eq_true,List.mem_range] at h
 obtain ⟨h1,h2⟩:=h
 have lt:∀ {j:Nat} {o:Oper},ops[j]?=some o→j<ops.size:=fun h=>(Array.getElem?_eq_some_iff.1 h).1
 have all:∀ j o,ops[j]?=some o→_:=fun j o ho=>by
  have:=h2 j (lt ho)
  rw[ho] at this
  simp only[Bool.and_eq_true,Bool.or_eq_true,beq_iff_eq,List.all_eq_true,List.mem_range,Bool.not_eq_true',decide_eq_true_eq] at this
  exact this
 have pair:∀ i j o o' t,ops[j]?=some o→ops[i]?=some o'→bs.getD i false=false→bs.getD j false=false→i≠j→o'.dst=some t→
  o.dst≠some t∧(t ∈ o.looksAt ops→if i<j then ((masksGo ops.toList []).getD j 0).testBit i=true else ((masksGo ops.toList []).getD i 0).testBit j=true):=by
  intro i j o o' t hj hi bi bj hij ht
  obtain ⟨⟨⟨_,_⟩,_⟩,h5⟩:=all j o hj
  rcases h5 with h5|h5
  ·rw[bj] at h5;cases h5
  ·rcases h5 i (lt hi) with (h6|h6)|h6
   ·rw[bi] at h6;cases h6
   ·exact absurd h6 hij
   ·rw[hi] at h6
    simp only[ht,Bool.and_eq_true,bne_iff_ne,Bool.or_eq_true,Bool.not_eq_true'] at h6
    refine ⟨h6.1,fun hm=>?_⟩
    rcases h6.2 with h7|h7
    ·rw[List.contains_eq_mem,decide_eq_false_iff_not] at h7
     exact absurd hm h7
    ·split at h7
     ·rename_i hlt;rw[if_pos hlt];exact h7
     ·rename_i hlt;rw[if_neg hlt];exact h7
 refine ⟨h1,fun j o ho=>(all j o ho).1.1.1,fun j o ho e he hb=>?_,fun j hj hb=>?_,fun i j o o' t hj hi bi bj hij ht=>(pair i j o o' t hj hi bi bj hij ht).1,fun i j o o' t hj hi bi bj ht hm hlt=>?_,fun i j o o' t hj hi bi bj ht hm hlt=>?_⟩
 ·rcases (all j o ho).1.1.2 e (by simpa using he) with h3|h3
  ·rw[hb] at h3;cases h3
  ·exact h3
 ·obtain ⟨o,ho⟩:∃ o,ops[j]?=some o:=⟨_,Array.getElem?_eq_getElem hj⟩
  rcases (all j o ho).1.2 with h3|h3
  ·rw[hb] at h3;cases h3
  ·unfold barB at h3
   simp only[Bool.and_eq_true,beq_iff_eq,List.all_eq_true,List.mem_range,Bool.or_eq_true,decide_eq_true_eq] at h3
   refine ⟨h3.1,fun k hk hks=>?_⟩
   rcases h3.2 k hks with h4|h4
   ·omega
   ·exact h4
 ·have:=(pair i j o o' t hj hi bi bj (by omega) ht).2 hm
  rwa [if_pos hlt] at this
 ·have:=(pair i j o o' t hj hi bi bj (by omega) ht).2 hm
  rwa [if_neg (by omega)] at this
theorem upOf_bit {ms:List Nat} {i:Nat}:∀ {es:List Edge} {m:Nat},(es.foldl (fun m e=>bif Region.binds .any e then m ||| (1 <<< e.on) ||| ms.getD e.on 0 else m) m).testBit i=true→
 m.testBit i=true∨∃ e ∈ es,Region.binds .any e=true∧(e.on=i∨(ms.getD e.on 0).testBit i=true)
 | [],m,h=>.inl h
 | e::es,m,h=>by
  simp only[List.foldl_cons] at h
  rcases upOf_bit h with h1|⟨e',he',h2⟩
  ·cases hb:Region.binds .any e with
   | false=>rw[hb] at h1;exact .inl h1
   | true =>
    rw[hb] at h1
    simp only[cond_true,Nat.testBit_or,Bool.or_eq_true] at h1
    rcases h1 with (h1|h1)|h1
    ·exact .inl h1
    ·refine .inr ⟨e,by simp,hb,.inl ?_⟩
     rw[Nat.one_shiftLeft,Nat.testBit_two_pow] at h1
     simpa using h1
    ·exact .inr ⟨e,by simp,hb,.inr h1⟩
  ·exact .inr ⟨e',by simp[he'],h2⟩
def Shut (ops:Array Oper) (E:Nat→Prop):Prop:=∀ i o,ops[i]?=some o→E i→∀ e ∈ o.after,Region.binds .any e=true→E e.on
theorem mask_ok {ops:Array Oper} {bs:List Bool} {ms:List Nat} (hR:RegOk ops bs ms) {E:Nat→Prop} (hE:Shut ops E):∀ (j:Nat) (o:Oper),ops[j]?=some o→(∀ e ∈ o.after,Region.binds .any e=true→E e.on)→∀ i,(ms.getD j 0).testBit i=true→E i:=by
 intro j
 induction j using Nat.strongRecOn with
 | _ j ih =>
  intro o ho ha i hi
  rw[hR.mask j o ho] at hi
  rcases upOf_bit hi with h1|⟨e,he,hb,h1|h1⟩
  ·simp at h1
  ·rw[← h1];exact ha e (by simpa using he) hb
  ·have he':e ∈ o.after:=by simpa using he
   have hlt:=hR.low j o ho e he' hb
   have hj:j<ops.size:=(Array.getElem?_eq_some_iff.1 ho).1
   have ho':ops[e.on]?=some ops[e.on]:=Array.getElem?_eq_getElem (by omega)
   exact ih e.on hlt _ ho' (hE _ _ ho' (ha e he' hb)) i h1
theorem mask_in {ops:Array Oper} {bs:List Bool} {ms:List Nat} (hR:RegOk ops bs ms) {E:Nat→Prop} (hE:Shut ops E) {j:Nat} {o:Oper} (ho:ops[j]?=some o) (hj:E j) {i:Nat} (hi:(ms.getD j 0).testBit i=true):E i :=
 mask_ok hR hE j o ho (hE j o ho hj) i hi
def vcAny (P:Program) (gl:List (Nat×List D)) (tt:List (Nat×TI)) (fx:List Nat) (N:Nat) (all l:List Oper):List Bool→List (Nat×V)→List (Nat×Blk)→Nat→SK→(C→SK)→Prop :=
 List.rec (motive:=fun _=>List Bool→List (Nat×V)→List (Nat×Blk)→Nat→SK→(C→SK)→Prop) (fun _ fr L n k _=>k fr L n)
  (fun o _ ih bs fr L n k kp=>match bs with
  | b::bs=>onB (dstB N o.dst) (onGuard all o.guard fr fun run fr1=>match run with
   | true=>(match b with
    | true=>xOp P gl tt fx o.op fr1 L n (fun s fr' L' n'=>putK o.dst s fr' fun f=>ih bs f L' n' k kp) kp
    | false=>qOp P gl tt o.op fr1 L fun s=>putK o.dst s fr1 fun f=>ih bs f L n k kp)
   | false=>putK o.dst undV fr1 fun f=>ih bs f L n k kp)
  | []=>False) l
def Step (P:Program) (gl:List (Nat×List D)) (N:Nat) (L:List (Nat×Blk)) (ops:Array Oper) (j:Nat) (fr fr':List (Nat×V)) (s:V):Prop :=
 ∃ o run fr1,ops[j]?=some o∧dstB N o.dst=true∧GuardIs ops o fr run∧FrLe fr fr1∧fr'=putF fr1 o.dst s∧(run=true→Quiet P gl fr1 L o s)∧(run=false→s=undV)
section
variable {P:Program} {gl:List (Nat×List D)} {tt:List (Nat×TI)} {M0 S0:Nat→Prop} {w0:Base} {N:Nat} {adr:Env} {L:List (Nat×Blk)} {n:Nat}
theorem seg_of_vc {fx:List Nat} (hT:Fits P tt) {ops:Array Oper} {k:SK} {kp:C→SK}:∀ (l:List Oper) (rest:List Oper) (bs:List Bool) (m:Nat) (fr:List (Nat×V)),(∀ i o,l[i]?=some o→ops[m+i]?=some o)→
 vcAny P gl tt fx N ops.toList (l++rest) (List.replicate l.length false++bs) fr L n k kp→
 ∃ (frs:Nat→List (Nat×V)) (res:Nat→V),frs m=fr∧(∀ j,m≤j→j<m+l.length→Step P gl N L ops j (frs j) (frs (j+1)) (res j))∧vcAny P gl tt fx N ops.toList rest bs (frs (m+l.length)) L n k kp
 | [],rest,bs,m,fr,_,h=>⟨fun _=>fr,fun _=>undV,rfl,fun j h1 h2=>by simp at h2;omega,h⟩
 | o::l,rest,bs,m,fr,ho,h=>by
  obtain ⟨hd,h1⟩:=onB_ok (show onB (dstB N o.dst) _ from h)
  obtain ⟨run,fr1,h2,hg,hle⟩:=onGuard_ok h1
  have ho':∀ i o',l[i]?=some o'→ops[m+1+i]?=some o':=fun i o' hi=>by
   have:=ho (i+1) o' (by simpa using hi)
   rwa [show m+1+i=m+(i+1) by omega]
  have fin:∀ s,(run=true→Quiet P gl fr1 L o s)→(run=false→s=undV)→vcAny P gl tt fx N ops.toList (l++rest) (List.replicate l.length false++bs) (putF fr1 o.dst s) L n k kp→
   ∃ (frs:Nat→List (Nat×V)) (res:Nat→V),frs m=fr∧(∀ j,m≤j→j<m+(o::l).length→Step P gl N L ops j (frs j) (frs (j+1)) (res j))∧vcAny P gl tt fx N ops.toList rest bs (frs (m+(o::l).length)) L n k kp:=by
   intro s q1 q2 hv
   obtain ⟨frs,res,e1,e2,e3⟩:=seg_of_vc hT l rest bs (m+1) _ ho' hv
   refine ⟨fun j=>if j=m then fr else frs j,fun j=>if j=m then s else res j,by simp,fun j h3 h4=>?_,?_⟩
   ·by_cases hjm:j=m
    ·subst hjm
     dsimp only
     rw[if_pos rfl,if_neg (by omega),if_pos rfl]
     refine ⟨o,run,fr1,ho 0 o rfl,hd,hg,hle,?_,q1,q2⟩
     exact e1
    ·dsimp only
     rw[if_neg hjm,if_neg (by omega),if_neg hjm]
     exact e2 j (by omega) (by simp at h4;omega)
   ·dsimp only
    rw[if_neg (by simp)]
    rw[show m+(o::l).length=m+1+l.length by simp;omega]
    exact e3
  cases run with
  | true =>
   obtain ⟨s,hK,hq⟩:=qOp_ok hT h2
   rw[putK_eq] at hK
   exact fin s (fun _=>hq) (fun h=>by cases h) hK
  | false =>
   rw[putK_eq] at h2
   exact fin undV (fun h=>by cases h) (fun _=>rfl) h2
structure InSeg (gl:List (Nat×List D)) (M0 S0:Nat→Prop) (w0:Base) (N:Nat) (adr:Env) (L:List (Nat×Blk)) (n:Nat) (ops:Array Oper) (m m2:Nat) (frs:Nat→List (Nat×V)) (E:Nat→Prop) (a:Act) (w:World):Prop where
 lo:∀ i,i<m→E i
 hi:∀ i,E i→i<m2
 shut:Shut ops E
 ok:Ok gl M0 S0 w0 N adr [] L n a w
 fr:∀ j,m≤j→j≤m2→∀ t s,look (frs j) t=some s→(∀ i o,m≤i→i<m2→ops[i]?=some o→o.dst=some t→(E i↔i<j))→DenV adr (Mut M0 adr L) w s (a.tmps.getD t undef)
variable {ops:Array Oper} {bs:List Bool} {ms:List Nat} {m m2:Nat} {frs:Nat→List (Nat×V)} {res:Nat→V}
theorem seg_trace (hR:RegOk ops bs ms) (hbs:∀ j,m≤j→j<m2→bs.getD j false=false) (hS:∀ j,m≤j→j<m2→Step P gl N L ops j (frs j) (frs (j+1)) (res j)) {j0 t:Nat} {o:Oper} (h0:m≤j0) (h1:j0<m2) (ho:ops[j0]?=some o) (ht:o.dst=some t) :
 ∀ j,j0<j→j≤m2→∀ s,look (frs j) t=some s→∀ (adr:Env) (M:Nat→Prop) (w:World) (x:Value),DenV adr M w (res j0) x→DenV adr M w s x:=by
 intro j
 induction j with
 | zero=>intro h;omega
 | succ j ih =>
  intro hj hj2 s hs adr M w x hx
  obtain ⟨o',run,fr1,e1,e2,e3,e4,e5,_,_⟩:=hS j (by omega) (by omega)
  rw[e5] at hs
  by_cases hjj:j=j0
  ·subst hjj
   rw[ho] at e1;cases e1
   rw[ht] at hs
   simp only[putF] at hs
   rw[look_cons,if_pos rfl] at hs
   cases hs;exact hx
  ·have hne:o'.dst≠some t:=hR.ssa j0 j o' o t e1 ho (hbs j0 h0 h1) (hbs j (by omega) (by omega)) (by omega) ht
   have hs':look fr1 t=some s:=by
    cases hd:o'.dst with
    | none=>rw[hd] at hs;exact hs
    | some d =>
     rw[hd] at hs
     simp only[putF] at hs
     rw[look_cons,if_neg (fun h=>hne (by rw[hd,h]))] at hs
     exact hs
   obtain ⟨s0,g1,g2⟩:=e4 t s hs'
   exact g2 adr M w x (ih (by omega) (by omega) s0 g1 adr M w x hx)
theorem InSeg.look (hR:RegOk ops bs ms) (hbs:∀ j,m≤j→j<m2→bs.getD j false=false) {E:Nat→Prop} {a:Act} {w:World} (h:InSeg gl M0 S0 w0 N adr L n ops m m2 frs E a w) {j:Nat} {o:Oper} (hj:m≤j) (hj2:j<m2) (ho:ops[j]?=some o) (hE:¬ E j)
 (ha:∀ e ∈ o.after,Region.binds .any e=true→E e.on) {t:Nat} {s:V} (ht:t ∈ o.looksAt ops) (hs:EYtfcmhmglpcimiaaGreatDoor.look (frs j) t=some s):DenV adr (Mut M0 adr L) w s (a.tmps.getD t undef):=by
 refine h.fr j hj (by omega) t s hs fun i o' h1 h2 hi hd=>?_
 constructor
 ·intro hEi
  rcases Nat.lt_trichotomy i j with h3|h3|h3
  ·exact h3
  ·subst h3;exact absurd hEi hE
  ·exact absurd (mask_in hR h.shut hi hEi (hR.readR i j o o' t ho hi (hbs i h1 h2) (hbs j hj hj2) hd ht h3)) hE
 ·intro hlt
  exact mask_ok hR h.shut j o ho ha i (hR.readL i j o o' t ho hi (hbs i h1 h2) (hbs j hj hj2) hd ht hlt)
theorem InSeg.step (hR:RegOk ops bs ms) (hbs:∀ j,m≤j→j<m2→bs.getD j false=false) (hS:∀ j,m≤j→j<m2→Step P gl N L ops j (frs j) (frs (j+1)) (res j)) {E:Nat→Prop} {a:Act} {w:World} (h:InSeg gl M0 S0 w0 N adr L n ops m m2 frs E a w) {j:Nat} {o:Oper}
 (hj:m≤j) (hj2:j<m2) (ho:ops[j]?=some o) (hE:¬ E j) (ha:∀ e ∈ o.after,Region.binds .any e=true→E e.on) {Q:Exit→Act→World→Prop} {K:Act→World→Prop}
 (hK:∀ a' w',InSeg gl M0 S0 w0 N adr L n ops m m2 frs (fun i=>E i∨i=j) a' w'→K a' w'):wpOp P ops Q j K a w:=by
 obtain ⟨o',run,fr1,e1,e2,e3,e4,e5,e6,e7⟩:=hS j hj hj2
 rw[ho] at e1;cases e1
 have hw:=e3.wanted (adr:=adr) (M:=Mut M0 adr L) (w:=w) (a:=a) (fun t s ht hl=>h.look hR hbs hj hj2 ho hE ha ht hl)
 have fin:∀ v w',Evo (fun _=>False) w w'→DenV adr (Mut M0 adr L) w' (res j) v→K (a.put o.dst v) w':=by
  intro v w' hEv hv
  refine hK _ _ ⟨fun i hi=>.inl (h.lo i hi),fun i hi=>?_,fun i oi hoi hi e he hb=>?_,?_,fun jj h1 h2 t s hs hc=>?_⟩
  ·rcases hi with hi|hi
   ·exact h.hi i hi
   ·omega
  ·rcases hi with hi|hi
   ·exact .inl (h.shut i oi hoi hi e he hb)
   ·subst hi;rw[ho] at hoi;cases hoi;exact .inl (ha e he hb)
  ·have h1:=h.ok.evo hEv
   exact ⟨by rw[put_size];exact h1.size,by rw[put_defers];exact h1.defers,(fun t s hl=>by cases hl),h1.wok,h1.glob,h1.base,h1.new,h1.same⟩
  ·by_cases hd:o.dst=some t
   ·have h3:j<jj:=(hc j o hj hj2 ho hd).1 (.inr rfl)
    have hN:a.tmps.size=N:=h.ok.size
    have:=seg_trace hR hbs hS hj hj2 ho hd jj h3 h2 s hs adr (Mut M0 adr L) w' v hv
    rw[hd] at e2 ⊢
    rw[tmps_put hN e2,if_pos rfl]
    exact this
   ·have:(a.put o.dst v).tmps.getD t undef=a.tmps.getD t undef:=by
     cases hq:o.dst with
     | none=>rfl
     | some d =>
      rw[hq] at e2 hd
      rw[tmps_put h.ok.size e2,if_neg (fun h=>hd (by rw[h]))]
    rw[this]
    refine (h.fr jj h1 h2 t s hs fun i oi g1 g2 g3 g4=>?_).evo hEv (fun _ _ h=>h.elim) (fun _ _ h=>h) (fun _ _ _ h=>h)
    rw[← hc i oi g1 g2 g3 g4]
    constructor
    ·exact .inl
    ·rintro (h5|h5)
     ·exact h5
     ·subst h5;rw[ho] at g3;cases g3;exact absurd g4 hd
 unfold wpOp
 simp only[ho,hw]
 cases run with
 | true =>
  simp only[if_true]
  refine .inl (e6 rfl M0 adr n w a K Q h.ok.wok h.ok.glob (fun x hx s hs=>?_) fin)
  cases x with
  | tmp t =>
   obtain ⟨s0,g1,g2⟩:=e4 t s hs
   refine g2 _ _ _ _ (h.look hR hbs hj hj2 ho hE ha ?_ g1)
   unfold Oper.looksAt
   exact List.mem_append_left _ (List.mem_filterMap.2 ⟨.tmp t,hx,rfl⟩)
  | const v=>exact sval_ok (gl:=gl) (fr:=[]) (fun t s h=>by cases h) h.ok.glob hs
  | global g=>exact sval_ok (gl:=gl) (fr:=[]) (fun t s h=>by cases h) h.ok.glob hs
  | func f=>exact sval_ok (gl:=gl) (fr:=[]) (fun t s h=>by cases h) h.ok.glob hs
 | false =>
  simp only[Bool.false_eq_true,if_false]
  exact fin _ _ (Evo.refl _ _) (by rw[e7 rfl];exact DenD.v _)
end
end
end Go.EYtfcmhmglpcimiaaGreatDoor
