/- Proved: a part of what the law is proved with (the reckoner, contracts of functions, plain laws). Conditions: as each says. -/
import Derived.Recover
import Derived.Test.YtfcmhmglpcimiaaGreatDoorKGe
import Derived.Test.YtfcmhmglpcimiaaGreatDoorKIe
namespace Go.EYtfcmhmglpcimiaaGreatDoor
open Go Go.RowKit
def mdOk (adr:Env) (M:Nat→Prop) (w:World):Option C→FrameMode→Prop
 | none,u=>u=.returning
 | some c,u=>∃ x,u=.panicking [{ v:=x,recovered:=false }]∧DenC adr M w c x
def FnD (P:Program) (gl:List (Nat×List D)) (g:Nat) (vs:List V) (H:List (Nat×Blk)) (n:Nat) (c:Option C) (H':List (Nat×Blk)) (n':Nat):Prop :=
 n≤n'∧(∀ k B,look H' k=some B→k<n→(look H k).isSome=true)∧∀ (w:World) (M0:Nat→Prop) (adr:Env) (xs:List Value) (u:FrameMode),WOk M0 adr H n w→Glob gl (Mut M0 adr H) w→All2 (DenV adr (Mut M0 adr H) w) vs xs→mdOk adr (Mut M0 adr H) w c u→
  CallsD P g xs.toArray u w fun e u' w'=>(∃ v,e=.returned v)∧settle u'=.returning∧∃ adr':Env,Evo (Trk adr H) w w'∧WOk M0 adr' H' n' w'∧(∀ k,k<n→adr' k=adr k)∧(∀ k B b m,look H' k=some B→adr' k=some (some b,m)→Trk adr H b∨w.heap.size≤b)
def dcall (P:Program) (gl:List (Nat×List D)) (g:Nat) (vs:List V) (c:Option C) (fr:List (Nat×V)) (L:List (Nat×Blk)) (n:Nat) (k:SK):Prop :=
 ∃ H H' n',FnD P gl g vs H n c H' n'∧subH H L∧fBs (H'++dropK H L) fun L'=>k fr L' n'
def ptrsV (cs:List (Nat×Nat)):List V:=cs.map fun p=>.c (.ptr p.1 p.2)
def endD (P:Program) (gl:List (Nat×List D)) (g:Nat) (cs:List (Nat×Nat)) (fx:List Nat) (rs:List ResultVar) (tt:List (Nat×TI)) (r:Ret) (H':List (Nat×Blk)) (n':Nat):XK:=fun x fr L n=>match x with
 | .normal=>dcall P gl g (ptrsV cs) none fr L n fun fr L n=>endR fx rs tt r H' n' fr L n
 | .ret=>dcall P gl g (ptrsV cs) none fr L n fun fr L n=>endR fx rs tt r H' n' fr L n
 | .panic c=>dcall P gl g (ptrsV cs) (some c) fr L n fun fr L n=>endR fx rs tt r H' n' fr L n
 | _=>False
def capsK (o:Option (List (Nat×Nat))) (K:List (Nat×Nat)→Prop):Prop:=match o with
 | some l=>K l
 | none=>False
def vcD (P:Program) (gl:List (Nat×List D)) (tt:List (Nat×TI)) (fx:List Nat) (N nv:Nat) (cu:List Nat) (a b rest:Code) (g d0:Nat) (caps:List Operand) (rs:List ResultVar) (r:Ret) (H':List (Nat×Blk)) (n':Nat) (fr:List (Nat×V)) (L:List (Nat×Blk)) (n:Nat):Prop :=
 vcCode P gl tt fx N nv cu a fr L n fun x fr1 L1 n1=>match x with
  | .normal=>vcCode P gl tt fx N nv cu b fr1 L1 n1 fun x fr2 L2 n2=>match x with
   | .normal=>capsK (capsOf (sval gl fr2) caps) fun cs=>vcCode P gl tt (fx++cs.map (·.1)) N nv cu rest ((d0,.c (.fn g cs))::fr2) L2 n2 (endD P gl g cs fx rs tt r H' n')
   | x=>endF fx rs tt r H' n' x fr2 L2 n2
  | x=>endF fx rs tt r H' n' x fr1 L1 n1
section
variable {P:Program} {gl:List (Nat×List D)} {tt:List (Nat×TI)} {nv:Nat} {cu:List Nat}
theorem fin_ok (hT:Fits P tt) {fn:Func} {H H':List (Nat×Blk)} {h n' n:Nat} {mv:List Nat} {r:Ret} {w w':World} {adr adr1:Env} {M0:Nat→Prop} {df:List Deferred} {fr:List (Nat×V)} {L:List (Nat×Blk)} {a:Act}
 (hr:endR (fxOf mv h) fn.results.toList tt r H' n' fr L n) (hx:Ok gl M0 (Trk adr H) ⟨w,adr,fxOf mv h,df⟩ fn.ntmps adr1 fr L n a w') :
 ∃ v,(results fn a.tmps).run P w'=.ok v w'∧∃ adr':Env,Evo (Trk adr H) w w'∧WOk M0 adr' H' n' w'∧(∀ k,k<h→k ∉ mv→adr' k=adr k)∧(∀ k B b m,look H' k=some B→adr' k=some (some b,m)→Trk adr H b∨w.heap.size≤b)∧RetOk adr' (Mut M0 adr' H') w' r (.returned v):=by
 let w0:Base:=⟨w,adr,fxOf mv h,df⟩
 have outS:∀ {s v:V} {x:Value},DenV adr1 (Mut M0 adr1 L) w' s x→endS (fxOf mv h) n s L n' v H'→
  ∃ adr':Env,Evo (Trk adr H) w w'∧WOk M0 adr' H' n' w'∧(∀ k,k<h→k ∉ mv→adr' k=adr k)∧(∀ k B b m,look H' k=some B→adr' k=some (some b,m)→Trk adr H b∨w.heap.size≤b)∧DenV adr' (Mut M0 adr' H') w' v x:=by
  intro s v x hs h3
  have hx1:Ok gl M0 (Trk adr H) w0 1 adr1 [(0,s)] L n ⟨#[x],df⟩ w':=⟨rfl,rfl,(fun t s' hl=>by
   rw[look_cons] at hl
   split at hl
   ·rename_i ht;cases hl;subst ht;exact hs
   ·cases hl),hx.wok,hx.glob,hx.base,hx.new,hx.same⟩
  obtain ⟨fr',L',h3,hx1⟩:∃ fr' L',sub3 (fxOf mv h) n fr' L' n' [(0,v)] H'∧Ok gl M0 (Trk adr H) w0 1 adr1 fr' L' n ⟨#[x],df⟩ w':=by
   unfold endS at h3
   split at h3
   ·split at h3
    ·exact ⟨_,_,h3,hx1⟩
    ·exact frzAll_ok h3 hx1
   ·exact ⟨_,_,h3,hx1⟩
  have hx2:=sub3_ok hx1 h3
  refine ⟨_,hx2.base,hx2.wok,fun k hk1 hk2=>(hx2.same k (fxOf_mem hk1 hk2)).2,hx2.new,?_⟩
  exact hx2.fr 0 v rfl
 obtain ⟨l,ys,hK,h1,h2⟩:=vcRes_ok hT hx hr
 refine ⟨_,run_results h1,?_⟩
 cases r with
 | panic c=>exact hK.elim
 | ret v =>
  obtain ⟨s,hs,h3⟩:=onS_ok hK
  obtain ⟨adr',e1,e2,e3,e4,e5⟩:=outS (retV_den hs h2) h3
  exact ⟨adr',e1,e2,e3,e4,_,rfl,e5⟩
theorem ptrsV_den {adr:Env} {M:Nat→Prop} {w:World}:∀ {cs:List (Nat×Nat)} {xs:List Value},All2 (DenP adr) cs xs→All2 (DenV adr M w) (ptrsV cs) xs
 | [],[],_=>trivial
 | _p::_cs,_x::_xs,h=>⟨h.1,ptrsV_den h.2⟩
 | [],_::_,h=>h.elim
 | _::_,[],h=>h.elim
theorem caps_ok {adr:Env} {M:Nat→Prop} {w:World} {fr:List (Nat×V)} {a:Act} (hf:FrOk adr M w fr a) (hg:Glob gl M w) {caps:List Operand} {cs:List (Nat×Nat)} (h:capsOf (sval gl fr) caps=some cs):All2 (DenP adr) cs (caps.map a.eval) :=
 capsOf_ok h fun _ _ _ hs=>sval_ok hf hg hs
theorem denP_lt {M0:Nat→Prop} {adr:Env} {L:List (Nat×Blk)} {n:Nat} {w:World} (hW:WOk M0 adr L n w):∀ {cs:List (Nat×Nat)} {xs:List Value},All2 (DenP adr) cs xs→∀ p ∈ cs,p.1<n
 | [],[],_,p,hp=>by simp at hp
 | q::cs,x::xs,h,p,hp=>by
  rcases List.mem_cons.1 hp with rfl|hp
  ·obtain ⟨b,m,h1,_⟩:=h.1
   rcases Nat.lt_or_ge p.1 n with h2|h2
   ·exact h2
   ·rw[hW.fresh p.1 h2] at h1;cases h1
  ·exact denP_lt hW h.2 p hp
 | [],_::_,h,_,_=>h.elim
 | _::_,[],h,_,_=>h.elim
theorem denP_move {adr adr':Env} {cs:List (Nat×Nat)} {xs:List Value} (h:All2 (DenP adr) cs xs) (ha:∀ p ∈ cs,adr' p.1=adr p.1):All2 (DenP adr') cs xs :=
 All2.imp' (fun p hp x hd=>by obtain ⟨b,m,h1,h2⟩:=hd;exact ⟨b,m,(ha p hp).trans h1,h2⟩) h
theorem Ok.rebase {M0 S0:Nat→Prop} {N:Nat} {w w':World} {adr adr1 adr2:Env} {fx fx':List Nat} {df:List Deferred} {fr:List (Nat×V)} {L:List (Nat×Blk)} {n:Nat} {a:Act} (h:Ok gl M0 S0 ⟨w,adr2,fx',df⟩ N adr1 fr L n a w') (h2:∀ k ∈ fx,k ∈ fx'∧adr2 k=adr k) :
 Ok gl M0 S0 ⟨w,adr,fx,df⟩ N adr1 fr L n a w':=⟨h.size,h.defers,h.fr,h.wok,h.glob,h.base,h.new,fun k hk=>by
  obtain ⟨h3,h4⟩:=h2 k hk
  obtain ⟨h5,h6⟩:=h.same k h3
  exact ⟨h5,h6.trans h4⟩⟩
theorem leaves_of_dcall {fn:Func} {g:Nat} {cs:List (Nat×Nat)} {c:Option C} {M0 S0:Nat→Prop} {w0:Base} {adr:Env} {fr:List (Nat×V)} {L:List (Nat×Blk)} {n:Nat} {a:Act} {w:World} {k:SK} {R:Ending→World→Prop} {u:FrameMode} {xs:List Value} (hB:HasBody P g)
 (h:dcall P gl g (ptrsV cs) c fr L n k) (hx:Ok gl M0 S0 w0 fn.ntmps adr fr L n a w) (hc:All2 (DenP adr) cs xs) (hu:mdOk adr (Mut M0 adr L) w c u)
 (hk:∀ adr' L' n' w',k fr L' n'→Ok gl M0 S0 w0 fn.ntmps adr' fr L' n' a w'→∃ v,(results fn a.tmps).run P w'=.ok v w'∧R (.returned v) w') :
 Leaves P fn a.tmps R [{ target:=.fn (.func g) xs.toArray,args:=#[] }] u w:=by
 obtain ⟨H,H',n',⟨hn,hkeys,hF⟩,hsub,hr⟩:=h
 rw[fBs_eq] at hr
 have hs:∀ k B,look H k=some B→look L k=some B:=fun k B=>subH_ok hsub
 have hur:u≠.run:=by
  cases c with
  | none=>rw[show u=.returning from hu];simp
  | some c=>obtain ⟨x,e,_⟩:=hu;rw[e];simp
 refine leaves_cons hur (f:=g) (args:=xs.toArray) ?_ ?_
 ·show (callFunc g (#[]++xs.toArray)).run P w=_
  rw[Array.empty_append]
  exact hB.enters _ _
 ·refine (hF w (Rest M0 adr L H) adr xs u (hx.wok.part hs) (by rw[mut_rest hs];exact hx.glob) (ptrsV_den hc) (by rw[mut_rest hs];exact hu)).mono ?_
  rintro e u' w' ⟨⟨v,rfl⟩,hst,adr',hE,hW,ha,hnew⟩
  obtain ⟨hok,_⟩:=hx.called (mv:=[]) hs hn hkeys hE hW (fun k hk _=>ha k hk) (by simp) (fun _ _ _ k hk=>by simp at hk) (fun _ _ _ _ _ _ _ j hj=>by simp at hj) (fun _ _=>by simp) hnew
  obtain ⟨v',h1,h2⟩:=hk adr' _ n' w' hr hok
  show Leaves P fn a.tmps R [] (settle u') w'
  rw[hst]
  exact ⟨v',h1,h2⟩
theorem wpWant {ops:Array Oper} {Q:Exit→Act→World→Prop} {a:Act} {w:World} {rest:List Oper} {o:Oper} (hw:Region.wanted o (yielded ops a.tmps)=true)
 (h:∀ K:Act→World→Prop,(∀ a w,wpList P ops Q rest a w→K a w)→o.wp P a w K Q):wpList P ops Q (o::rest) a w :=
 wpList_step fun K hK=>by rw[if_pos hw];exact h K hK
theorem fn_of_vcD (hT:Fits P tt) (hm:P.follows .mixedOrders=true) {f:FuncId} {fn:Func} {a b rest:Code} {id g d0:Nat} {caps:List Operand} {o0 o1:Oper} {vs:List V} {H:List (Nat×Blk)} {h:Nat} {r:Ret} {H':List (Nat×Blk)} {n':Nat} {mv:List Nat} (hf:P.funcs[f]?=some fn)
 (hb:fn.body=some (.seq a (.seq b (.seq (.region id #[o0,o1] false) rest)))) (h0:o0.op=.makeFunc (.func g) #[] caps.toArray) (h0d:o0.dst=some d0) (h0g:o0.guard=none) {c1:Call} (h1:o1.op=.defer c1) (h1c:c1.callee=.value (.tmp d0)) (h1a:c1.args=#[]) (h1d:o1.dst=none) (h1g:o1.guard=none)
 (hd0:Nat.blt d0 fn.ntmps=true) (hBg:HasBody P g) (hB:HasBody P f) (hN:Nat.ble vs.length fn.ntmps=true)
 (hh:Nat.ble h n'=true) (hk:keysIn h H H'=true) (hmv:allIn H mv=true)
 (hdr:drawn a=false∧drawn b=false∧drawn rest=false) (hv:vcD P gl tt (fxOf mv h) fn.ntmps nv cu a b rest g d0 caps fn.results.toList r H' n' (argFr 0 vs) H h):Fn P gl f vs H h r H' n' mv:=by
 refine ⟨Nat.le_of_ble_eq_true hh,keysIn_ok hk,allIn_ok hmv,fun w M0 adr xs hW hg hd=>.inl ⟨hB,?_⟩⟩
 have hN':=Nat.le_of_ble_eq_true hN
 have hlen:=All2.length hd
 let R:Ending→World→Prop:=fun e w'=>∃ adr':Env,Evo (Trk adr H) w w'∧WOk M0 adr' H' n' w'∧(∀ k,k<h→k ∉ mv→adr' k=adr k)∧(∀ k B b m,look H' k=some B→adr' k=some (some b,m)→Trk adr H b∨w.heap.size≤b)∧RetOk adr' (Mut M0 adr' H') w' r e
 let w0:Base:=⟨w,adr,fxOf mv h,[]⟩
 have start:Ok gl M0 (Trk adr H) w0 fn.ntmps adr (argFr 0 vs) H h ⟨xs.toArray++Array.replicate (fn.ntmps - xs.toArray.size) undef,[]⟩ w:=by
  refine ⟨?_,rfl,fun t s hl=>?_,hW,hg,Evo.refl _ _,fun k B b m hk ha=>.inl ⟨k,B,m,hk,ha⟩,fun k hk=>⟨fxOf_lt hk,rfl⟩⟩
  ·simp;omega
  ·obtain ⟨_,h2⟩:=look_argFr hl
   simp only[Nat.sub_zero] at h2
   obtain ⟨x,hx1,hx2⟩:=All2.get hd h2
   have hlt:t<xs.length:=(List.getElem?_eq_some_iff.1 hx1).1
   rw[Array.getD_eq_getD_getElem?,Array.getElem?_append_left (by simpa using hlt)]
   simp only[List.getElem?_toArray,hx1,Option.getD_some]
   exact hx2
 have out:∀ {c c':C} {L:List (Nat×Blk)} {n:Nat} {adr1:Env} {fr:List (Nat×V)} {a:Act} {w':World} {x:Value},Ok gl M0 (Trk adr H) w0 fn.ntmps adr1 fr L n a w'→DenC adr1 (Mut M0 adr1 L) w' c x→sub3 (fxOf mv h) n [(0,.c c)] L n' [(0,.c c')] H'→
  ∃ adr':Env,Evo (Trk adr H) w w'∧WOk M0 adr' H' n' w'∧(∀ k,k<h→k ∉ mv→adr' k=adr k)∧(∀ k B b m,look H' k=some B→adr' k=some (some b,m)→Trk adr H b∨w.heap.size≤b)∧DenC adr' (Mut M0 adr' H') w' c' x:=by
  intro c c' L n adr1 fr a w' x hx hs h3
  have hx1:Ok gl M0 (Trk adr H) w0 1 adr1 [(0,.c c)] L n ⟨#[x],[]⟩ w':=⟨rfl,rfl,(fun t s' hl=>by
   rw[look_cons] at hl
   split at hl
   ·rename_i ht;cases hl;subst ht;exact hs
   ·cases hl),hx.wok,hx.glob,hx.base,hx.new,hx.same⟩
  have hx2:=sub3_ok hx1 h3
  refine ⟨_,hx2.base,hx2.wok,fun k hk1 hk2=>(hx2.same k (fxOf_mem hk1 hk2)).2,hx2.new,?_⟩
  exact hx2.fr 0 (.c c') rfl
 -- endings ahead of the defer
 have q1:∀ {fr L n adr1 a w'},endR (fxOf mv h) fn.results.toList tt r H' n' fr L n→Ok gl M0 (Trk adr H) w0 fn.ntmps adr1 fr L n a w'→bodyPostD P fn R .ret a w':=by
  intro fr L n adr1 a w' hr hx
  obtain ⟨v,h1,h2⟩:=fin_ok hT hr hx
  show Leaves P fn a.tmps R a.defers .returning w'
  rw[hx.defers]
  exact ⟨v,h1,h2⟩
 have q2:∀ {c fr L n adr1 x a w'},endF (fxOf mv h) fn.results.toList tt r H' n' (.panic c) fr L n→Ok gl M0 (Trk adr H) w0 fn.ntmps adr1 fr L n a w'→DenC adr1 (Mut M0 adr1 L) w' c x→bodyPostD P fn R (.panic [{ v:=x,recovered:=false }]) a w':=by
  intro c fr L n adr1 x a w' hk hx hd'
  show Leaves P fn a.tmps R a.defers (.panicking _) w'
  rw[hx.defers]
  cases r with
  | ret v=>exact hk.elim
  | panic c' =>
   obtain ⟨adr',e1,e2,e3,e4,e5⟩:=out (c:=c) (c':=c') hx hd' hk
   exact ⟨adr',e1,e2,e3,e4,x,rfl,e5⟩
 replace hv:vcCode P gl tt (fxOf mv h) fn.ntmps nv cu a (argFr 0 vs) H h fun x fr1 L1 n1=>match x with
  | .normal=>vcCode P gl tt (fxOf mv h) fn.ntmps nv cu b fr1 L1 n1 fun x fr2 L2 n2=>match x with
   | .normal=>capsK (capsOf (sval gl fr2) caps) fun cs=>vcCode P gl tt (fxOf mv h++cs.map (·.1)) fn.ntmps nv cu rest ((d0,.c (.fn g cs))::fr2) L2 n2 (endD P gl g cs (fxOf mv h) fn.results.toList tt r H' n')
   | x=>endF (fxOf mv h) fn.results.toList tt r H' n' x fr2 L2 n2
  | x=>endF (fxOf mv h) fn.results.toList tt r H' n' x fr1 L1 n1:=hv
 refine calls_of_wp_defers hf hb (wp_seq (vcCode_ok (w0:=w0) hT hm a _ _ _ adr _ _ _ w hv start ⟨?_,?_,?_,?_,?_,fun e=>by rw[hdr.1] at e;cases e⟩))
 ·intro fr1 L1 n1 adr1 a1 w1 hk1 hx1
  refine wp_seq (vcCode_ok (w0:=w0) hT hm b _ _ _ adr1 _ _ _ w1 hk1 hx1 ⟨?_,?_,?_,?_,?_,fun e=>by rw[hdr.2.1] at e;cases e⟩)
  ·intro fr2 L2 n2 adr2 a2 w2 hk2 hx2
   replace hk2:capsK (capsOf (sval gl fr2) caps) fun cs=>vcCode P gl tt (fxOf mv h++cs.map (·.1)) fn.ntmps nv cu rest ((d0,.c (.fn g cs))::fr2) L2 n2 (endD P gl g cs (fxOf mv h) fn.results.toList tt r H' n'):=hk2
   cases hcs:capsOf (sval gl fr2) caps with
   | none=>rw[hcs] at hk2;exact hk2.elim
   | some cs =>
    rw[hcs] at hk2
    replace hk2:vcCode P gl tt (fxOf mv h++cs.map (·.1)) fn.ntmps nv cu rest ((d0,.c (.fn g cs))::fr2) L2 n2 (endD P gl g cs (fxOf mv h) fn.results.toList tt r H' n'):=hk2
    have hc:=caps_ok hx2.fr hx2.glob hcs
    have hsz:=hx2.size
    have hd0':Nat.blt d0 fn.ntmps=true:=hd0
    have hf2:FrOk adr2 (Mut M0 adr2 L2) w2 ((d0,.c (.fn g cs))::fr2) (a2.put (some d0) (.func (.func g) #[] (caps.map a2.eval).toArray)) :=
     hx2.fr.put (dst:=some d0) hsz hd0' (s:=.c (.fn g cs)) ⟨_,rfl,hc⟩
    have hput:(a2.put (some d0) (.func (.func g) #[] (caps.map a2.eval).toArray)).eval (.tmp d0)=.func (.func g) #[] (caps.map a2.eval).toArray:=by
     have:=tmps_put hsz hd0' (.func (.func g) #[] (caps.map a2.eval).toArray) d0
     rw[if_pos rfl] at this
     exact this
    have hx3:Ok gl M0 (Trk adr H) ⟨w,adr2,fxOf mv h++cs.map (·.1),[{ target:=.fn (.func g) (caps.map a2.eval).toArray,args:=#[] }]⟩ fn.ntmps adr2 ((d0,.c (.fn g cs))::fr2) L2 n2 ⟨(a2.put (some d0) (.func (.func g) #[] (caps.map a2.eval).toArray)).tmps,[{ target:=.fn (.func g) (caps.map a2.eval).toArray,args:=#[] }]⟩ w2 :=
     ⟨by rw[put_size];exact hsz,rfl,hf2,hx2.wok,hx2.glob,hx2.base,hx2.new,fun k hk=>by
      refine ⟨?_,rfl⟩
      rcases List.mem_append.1 hk with hk|hk
      ·exact (hx2.same k hk).1
      ·obtain ⟨p,hp,rfl⟩:=List.mem_map.1 hk
       exact denP_lt hx2.wok hc p hp⟩
    refine wp_seq (wp_region_list ?_)
    have hw0:∀ y,Region.wanted o0 y=true:=fun y=>by simp[Region.wanted,h0g]
    have hw1:∀ y,Region.wanted o1 y=true:=fun y=>by simp[Region.wanted,h1g]
    have hds:=hx2.defers
    refine wpWant (hw0 _) fun K hK=>?_
    unfold Oper.wp
    rw[show (execOp a2.eval o0).run P w2=.ok (.value (.func (.func g) #[] (caps.map a2.eval).toArray)) w2 from by unfold execOp;rw[h0];simp[Instr.makeFunc]]
    rw[Oper.upon_value,h0d]
    refine hK _ _ ?_
    refine wpWant (hw1 _) fun K hK=>?_
    unfold Oper.wp
    rw[show (execOp (a2.put (some d0) (.func (.func g) #[] (caps.map a2.eval).toArray)).eval o1).run P w2=.ok (.defer { target:=.fn (.func g) (caps.map a2.eval).toArray,args:=#[] }) w2 from by
     unfold execOp;rw[h1];simp[resolve,h1c,h1a,hput,Deferred.ofValue]]
    rw[Oper.upon_defer,h1d]
    refine hK _ _ ?_
    have hact:({ a2.put (some d0) (.func (.func g) #[] (caps.map a2.eval).toArray) with defers:={ target:=.fn (.func g) (caps.map a2.eval).toArray,args:=#[] }::(a2.put (some d0) (.func (.func g) #[] (caps.map a2.eval).toArray)).defers }:Act).put none undef=⟨(a2.put (some d0) (.func (.func g) #[] (caps.map a2.eval).toArray)).tmps,[{ target:=.fn (.func g) (caps.map a2.eval).toArray,args:=#[] }]⟩:=by
     rw[put_defers,hds];rfl
    rw[hact]
    have hfx:∀ k ∈ fxOf mv h,k ∈ fxOf mv h++cs.map (·.1)∧adr2 k=adr k:=fun k hk=>⟨List.mem_append_left _ hk,(hx2.same k hk).2⟩
    have q4:∀ {c:Option C} {u fr L n adr1 a w'},mdOk adr1 (Mut M0 adr1 L) w' c u→dcall P gl g (ptrsV cs) c fr L n (fun fr L n=>endR (fxOf mv h) fn.results.toList tt r H' n' fr L n)→Ok gl M0 (Trk adr H) ⟨w,adr2,fxOf mv h++cs.map (·.1),[{ target:=.fn (.func g) (caps.map a2.eval).toArray,args:=#[] }]⟩ fn.ntmps adr1 fr L n a w'→Leaves P fn a.tmps R a.defers u w':=by
     intro c u fr L n adr1 a w' hu hk hx
     rw[hx.defers]
     exact leaves_of_dcall hBg hk hx (denP_move hc fun p hp=>(hx.same p.1 (List.mem_append_right _ (List.mem_map_of_mem hp))).2) hu fun adr' L' n' w'' hk' hx'=>fin_ok hT hk' (hx'.rebase hfx)
    refine vcCode_ok (w0:=⟨w,adr2,fxOf mv h++cs.map (·.1),[{ target:=.fn (.func g) (caps.map a2.eval).toArray,args:=#[] }]⟩) hT hm rest _ _ _ adr2 _ _ _ w2 hk2 hx3 ⟨?_,?_,?_,?_,?_,fun e=>by rw[hdr.2.2] at e;cases e⟩
    ·intro fr L n adr1 a w' hk hx;exact q4 (c:=none) rfl hk hx
    ·intro id fr2 L2 n2 adr2 a2 w2 hk hx;exact hk.elim
    ·intro id fr2 L2 n2 adr2 a2 w2 hk hx;exact hk.elim
    ·intro fr L n adr1 a w' hk hx;exact q4 (c:=none) rfl hk hx
    ·intro c fr L n adr1 x a w' hk hx hd;exact q4 (c:=some c) ⟨x,rfl,hd⟩ hk hx
  ·intro id fr2 L2 n2 adr2 a2 w2 hk hx;exact hk.elim
  ·intro id fr2 L2 n2 adr2 a2 w2 hk hx;exact hk.elim
  ·intro fr2 L2 n2 adr2 a2 w2 hk hx;exact q1 hk hx
  ·intro c fr2 L2 n2 adr2 x a2 w2 hk hx hd;exact q2 hk hx hd
 ·intro id fr2 L2 n2 adr2 a2 w2 hk hx;exact hk.elim
 ·intro id fr2 L2 n2 adr2 a2 w2 hk hx;exact hk.elim
 ·intro fr2 L2 n2 adr2 a2 w2 hk hx;exact q1 hk hx
 ·intro c fr2 L2 n2 adr2 x a2 w2 hk hx hd;exact q2 hk hx hd
def recC:Option C→C
 | none=>.d (.v .nilIface)
 | some c=>c
theorem recoverD_none {c₀:Frame} {cs:List Frame} (h:c₀.mode=.returning):recoverD (c₀::cs)=none:=by
 obtain ⟨a1,a2,a3,a4,a5,a6,a7⟩:=c₀
 simp only at h
 subst h
 rfl
theorem recoverD_some {c₀:Frame} {cs:List Frame} {x:Value} (h:c₀.mode=.panicking [{ v:=x,recovered:=false }]):recoverD (c₀::cs)=some (x,{ c₀ with mode:=.panicking [{ v:=x,recovered:=true }] }::cs):=by
 obtain ⟨a1,a2,a3,a4,a5,a6,a7⟩:=c₀
 simp only at h
 subst h
 rfl
theorem fnD_of_vc (hT:Fits P tt) (hm:P.follows .mixedOrders=true) {f:FuncId} {fn:Func} {rest:Code} {id d6 d3:Nat} {o0 o1:Oper} {c0:Call} {vs:List V} {H:List (Nat×Blk)} {h:Nat} {c:Option C} {H':List (Nat×Blk)} {n':Nat} (hf:P.funcs[f]?=some fn)
 (hb:fn.body=some (.seq (.region id #[o0,o1] false) rest)) (h0:o0.op=.call c0) (h0c:c0.callee=.builtin .recover) (h0d:o0.dst=some d6) (h0g:o0.guard=none) (h1:o1.op=.assign (.tmp d6)) (h1d:o1.dst=some d3) (h1g:o1.guard=none)
 (hd6:Nat.blt d6 fn.ntmps=true) (hd3:Nat.blt d3 fn.ntmps=true) (hN:Nat.ble vs.length fn.ntmps=true)
 (hh:Nat.ble h n'=true) (hk:keysIn h H H'=true)
 (hv:vcCode P gl tt (fxOf [] h) fn.ntmps nv cu rest ((d3,.c (recC c))::(d6,.c (recC c))::argFr 0 vs) H h (endF (fxOf [] h) fn.results.toList tt (.ret (.tup [])) H' n')):FnD P gl f vs H h c H' n':=by
 refine ⟨Nat.le_of_ble_eq_true hh,keysIn_ok hk,fun w M0 adr xs u hW hg hd hu=>?_⟩
 have hN':=Nat.le_of_ble_eq_true hN
 have hlen:=All2.length hd
 let w0:Base:=⟨w,adr,fxOf [] h,[]⟩
 have start:Ok gl M0 (Trk adr H) w0 fn.ntmps adr (argFr 0 vs) H h ⟨xs.toArray++Array.replicate (fn.ntmps - xs.toArray.size) undef,[]⟩ w:=by
  refine ⟨?_,rfl,fun t s hl=>?_,hW,hg,Evo.refl _ _,fun k B b m hk ha=>.inl ⟨k,B,m,hk,ha⟩,fun k hk=>⟨fxOf_lt hk,rfl⟩⟩
  ·simp;omega
  ·obtain ⟨_,h2⟩:=look_argFr hl
   simp only[Nat.sub_zero] at h2
   obtain ⟨x,hx1,hx2⟩:=All2.get hd h2
   have hlt:t<xs.length:=(List.getElem?_eq_some_iff.1 hx1).1
   rw[Array.getD_eq_getD_getElem?,Array.getElem?_append_left (by simpa using hlt)]
   simp only[List.getElem?_toArray,hx1,Option.getD_some]
   exact hx2
 obtain ⟨y,hy⟩:∃ y:Value,DenC adr (Mut M0 adr H) w (recC c) y∧((c=none∧u=.returning∧y=.nilIface)∨u=.panicking [{ v:=y,recovered:=false }]):=by
  cases c with
  | none=>exact ⟨.nilIface,DenD.v _,.inl ⟨rfl,hu,rfl⟩⟩
  | some c=>obtain ⟨x,hx1,hx2⟩:=hu;exact ⟨x,hx2,.inr hx1⟩
 obtain ⟨hy,hyu⟩:=hy
 refine callsD_of_wpS hf hb fun c₀ cs hc₀=>wpS_seq (wpS_region ?_)
 have h6:=(start.put (dst:=some d6) hd6 (s:=.c (recC c)) hy)
 have hev:(({ tmps:=xs.toArray++Array.replicate (fn.ntmps - xs.toArray.size) undef,defers:=[] }:Act).put (some d6) y).eval (.tmp d6)=y:=by
  have:=tmps_put start.size hd6 y d6
  rw[if_pos rfl] at this
  exact this
 have h3:=(h6.put (dst:=some d3) hd3 (s:=.c (recC c)) hy)
 have hrun0:(execOp ({ tmps:=xs.toArray++Array.replicate (fn.ntmps - xs.toArray.size) undef,defers:=[] }:Act).eval o0).run P w=.ok .recover w:=by
  unfold execOp;rw[h0]
  obtain ⟨cal,ar,at'⟩:=c0
  simp only at h0c
  subst h0c
  rfl
 have hrun1:(execOp (({ tmps:=xs.toArray++Array.replicate (fn.ntmps - xs.toArray.size) undef,defers:=[] }:Act).put (some d6) y).eval o1).run P w=.ok (.value y) w:=by
  unfold execOp;rw[h1]
  simp only[Sem.run_pure,hev]
 have hw0:∀ y,Region.wanted o0 y=true:=fun y=>by simp[Region.wanted,h0g]
 have hw1:∀ y,Region.wanted o1 y=true:=fun y=>by simp[Region.wanted,h1g]
 -- behind the region
 have tail:∀ (cs':List Frame) (u':FrameMode),cs'={ c₀ with mode:=u' }::cs→settle u'=.returning→
  rest.wpS P (bodyPostS P fn c₀ cs fun e u' w'=>(∃ v,e=.returned v)∧settle u'=.returning∧∃ adr':Env,Evo (Trk adr H) w w'∧WOk M0 adr' H' n' w'∧(∀ k,k<h→adr' k=adr k)∧(∀ k B b m,look H' k=some B→adr' k=some (some b,m)→Trk adr H b∨w.heap.size≤b))
   ((({ tmps:=xs.toArray++Array.replicate (fn.ntmps - xs.toArray.size) undef,defers:=[] }:Act).put (some d6) y).put (some d3) y) cs' w:=by
  intro cs' u' hcs hst
  refine wpS_of_wp (vcCode_ok (w0:=w0) hT hm rest _ _ _ adr _ _ _ w hv h3 ⟨?_,?_,?_,?_,?_,?_⟩)
  ·intro fr L n adr1 a w' hk hx
   replace hk:endR (fxOf [] h) fn.results.toList tt (.ret (.tup [])) H' n' fr L n:=hk
   obtain ⟨v,q1,adr',e1,e2,e3,e4,e5⟩:=fin_ok hT hk hx
   exact ⟨hx.defers,u',hcs,v,q1,⟨v,rfl⟩,hst,adr',e1,e2,fun k hk=>e3 k hk (by simp),e4⟩
  ·intro id fr2 L2 n2 adr2 a2 w2 hk hx;exact hk.elim
  ·intro id fr2 L2 n2 adr2 a2 w2 hk hx;exact hk.elim
  ·intro fr L n adr1 a w' hk hx
   replace hk:endR (fxOf [] h) fn.results.toList tt (.ret (.tup [])) H' n' fr L n:=hk
   obtain ⟨v,q1,adr',e1,e2,e3,e4,e5⟩:=fin_ok hT hk hx
   exact ⟨hx.defers,u',hcs,v,q1,⟨v,rfl⟩,hst,adr',e1,e2,fun k hk=>e3 k hk (by simp),e4⟩
  ·intro c fr L n adr1 x a w' hk hx hd;exact hk.elim
  ·intro _ c a d v w h
   exact ⟨by have:=h.1;rwa [put_defers] at this,h.2⟩
 show wpOpsS P #[o0,o1] _ [0,1] _ (c₀::cs) w
 have e0:(#[o0,o1]:Array Oper)[0]?=some o0:=rfl
 have e1:(#[o0,o1]:Array Oper)[1]?=some o1:=rfl
 simp only[wpOpsS,e0,e1,hw0,hw1,if_true,hrun0]
 rcases hyu with ⟨rfl,rfl,rfl⟩|rfl
 ·rw[recoverD_none hc₀]
  simp only[h0d,hrun1,Oper.upon,h1d]
  exact tail _ .returning (by rw[← hc₀]) rfl
 ·rw[recoverD_some hc₀]
  simp only[h0d,hrun1,Oper.upon,h1d]
  exact tail _ _ rfl rfl
end
end Go.EYtfcmhmglpcimiaaGreatDoor
namespace Go.Proofs.YtfcmhmglpcimiaaGreatDoor
open Go Go.EYtfcmhmglpcimiaaGreatDoor
set_option maxRecDepth 100000
section
set_option maxHeartbeats 2000000
variable {gl:List (Nat×List D)}
abbrev ndB (n:Nd):Blk:=.var (ndC n) 64
abbrev inB (i:Int):Blk:=.var [.d (iD i)] 3
abbrev erB (d:D):Blk:=.var [.d d] 25
abbrev n00:Nd:=.mk 0 0 [] z0 z0 []
theorem parse1_none (n:Nd) (i:Int) (d:D):FnD Tryz.prog gl 44 [.c (.ptr 0 0),.c (.ptr 1 0),.c (.ptr 2 0)] [(0,ndB n),(1,inB i),(2,erB d)] 4 none [(0,ndB n),(1,inB i),(2,erB d)] 4:=by
 obtain ⟨k,m,t,a,b,ks⟩:=n
 refine fnD_of_vc (nv:=9999) (cu:=[]) fits mixed Tryz.func44 rfl rfl rfl rfl rfl rfl rfl rfl rfl rfl rfl rfl rfl ?_
 ((repeat' ((conv=>whnf);first|exact .intro|refine G ?_|intro _|refine .mk ?_ ?_|refine H ?_|fail));all_goals conv=>whnf)
 ((repeat' first|exact rfl|((conv=>whnf);first|done|exact suL|refine And.intro ?_ ?_|fail));all_goals conv=>whnf)
theorem parse1_some (n:Nd) (i:Int) (d:D) (q:Nat) (e:Int):FnD Tryz.prog gl 44 [.c (.ptr 0 0),.c (.ptr 1 0),.c (.ptr 2 0)] [(0,ndB n),(1,inB i),(2,erB d)] 4 (some (.d (fltD q e))) [(0,ndB n00),(1,inB q),(2,erB (erD e))] 4:=by
 obtain ⟨k,m,t,a,b,ks⟩:=n
 refine fnD_of_vc (nv:=9999) (cu:=[]) fits mixed Tryz.func44 rfl rfl rfl rfl rfl rfl rfl rfl rfl rfl rfl rfl rfl ?_
 ((repeat' ((conv=>whnf);first|exact .intro|refine G ?_|intro _|refine .mk ?_ ?_|refine H ?_|fail));all_goals conv=>whnf)
 ((repeat' first|exact rfl|((conv=>whnf);first|done|exact suL|refine And.intro ?_ ?_|fail));all_goals conv=>whnf)
 all_goals first|exact lf0|exact ln0
abbrev zNB:Blk:=.var [.d (iD 0),.d (iD 0),.d (.str []),.d (iD 0),.d (iD 0),.d (.v (.bool false)),.d (.v (.bool false)),.d (iD 0),.d (iD 0),.d (.v (.bool false)),.d (.v (.bool false)),.d (.v (.slice none 0 0))] 64
theorem parse1_zero (i:Int) (d:D) (q:Nat) (e:Int):FnD Tryz.prog gl 44 [.c (.ptr 0 0),.c (.ptr 1 0),.c (.ptr 2 0)] [(0,zNB),(1,inB i),(2,erB d)] 4 (some (.d (fltD q e))) [(0,ndB n00),(1,inB q),(2,erB (erD e))] 4:=by
 refine fnD_of_vc (nv:=9999) (cu:=[]) fits mixed Tryz.func44 rfl rfl rfl rfl rfl rfl rfl rfl rfl rfl rfl rfl rfl ?_
 ((repeat' ((conv=>whnf);first|exact .intro|refine G ?_|intro _|refine .mk ?_ ?_|refine H ?_|fail));all_goals conv=>whnf)
 ((repeat' first|exact rfl|((conv=>whnf);first|done|exact suL|refine And.intro ?_ ?_|fail));all_goals conv=>whnf)
 all_goals first|exact lf0|exact ln0
def partD:Bool×List C→Option D
 | (true,l)=>(dsOf l).map .agg
 | (false,[.d x])=>some x
 | _=>none
def partsD:List (Bool×List C)→Option (List D)
 | []=>some []
 | p::r=>match partD p,partsD r with
  | some d,some l=>some (d::l)
  | _,_=>none
def dOfV:V→Option D
 | .c (.d x)=>some x
 | .agg l=>(dsOf l).map .agg
 | .tup l=>(partsD l).map .tup
 | _=>none
theorem dsOf_den {adr:Env} {M:Nat→Prop} {w:World} {l:List C} {ds:List D} {xs:List Value} (h:dsOf l=some ds) (hd:DenCs adr M w l xs):DenL M w ds xs:=by
 rw[dsOf_ok h] at hd
 exact (All2.map_left (f:=C.d)).1 hd
theorem partD_den {adr:Env} {M:Nat→Prop} {w:World} {p:Bool×List C} {d:D} {x:Value} (h:partD p=some d) (hd:DenT adr M w p x):DenD M w d x:=by
 obtain ⟨b,l⟩:=p
 cases b with
 | true =>
  obtain ⟨ds,h1,rfl⟩:=Option.map_eq_some_iff.1 (show (dsOf l).map .agg=some d from h)
  obtain ⟨xs,rfl,hx⟩:=hd
  exact DenD.agg_mk (dsOf_den h1 hx)
 | false =>
  unfold partD at h
  split at h
  ·rename_i e;cases e
  ·rename_i y e
   cases e
   cases h
   obtain ⟨c,h1,h2⟩:=hd
   cases h1
   exact h2
  ·cases h
theorem partsD_den {adr:Env} {M:Nat→Prop} {w:World}:∀ {l:List (Bool×List C)} {ds:List D} {xs:List Value},partsD l=some ds→All2 (DenT adr M w) l xs→DenL M w ds xs
 | [],ds,[],h,_=>by cases h;trivial
 | p::r,ds,x::xs,h,hd=>by
  unfold partsD at h
  split at h
  ·rename_i d l h1 h2
   cases h
   exact ⟨partD_den h1 hd.1,partsD_den h2 hd.2⟩
  ·cases h
 | [],_,_::_,_,h=>h.elim
 | _::_,_,[],_,h=>h.elim
theorem dOfV_den {adr:Env} {M:Nat→Prop} {w:World} {v:V} {d:D} {x:Value} (h:dOfV v=some d) (hd:DenV adr M w v x):DenD M w d x:=by
 unfold dOfV at h
 split at h
 ·cases h;exact hd
 ·obtain ⟨ds,h1,rfl⟩:=Option.map_eq_some_iff.1 h
  obtain ⟨xs,rfl,hx⟩:=hd
  exact DenD.agg_mk (dsOf_den h1 hx)
 ·obtain ⟨ds,h1,rfl⟩:=Option.map_eq_some_iff.1 h
  obtain ⟨xs,rfl,hx⟩:=hd
  exact DenD.tup_mk (partsD_den h1 hx)
 ·cases h
theorem fnP_of_fn {P:Program} {f:Nat} {ds:List D} {v:V} {r:D} (h:Go.EYtfcmhmglpcimiaaGreatDoor.Fn P gl f (ds.map vD) [] 0 (.ret v) [] 0 []) (hv:dOfV v=some r):FnP P gl f ds r:=by
 intro w M xs hM hg hd
 have hW:WOk M (fun _=>none) [] 0 w:=⟨fun k B h=>(by cases h),fun _ _=>rfl,fun k B h=>(by cases h),fun k k' B B' b m m' h=>(by cases h),fun k B b m h=>(by cases h),hM⟩
 have hm:Mut M (fun _=>none) ([]:List (Nat×Blk))=M:=funext fun b=>propext ⟨fun h=>h.elim id fun ⟨k,B,n,h,_⟩=>(by cases h),.inl⟩
 have:=h.2.2.2 w M (fun _=>none) xs hW (by rw[hm];exact hg) (by rw[hm];exact all2_vD hd)
 refine this.mono ?_
 rintro e w' ⟨adr',hE,hW',_,_,x,rfl,hx⟩
 have hm':Mut M adr' ([]:List (Nat×Blk))=M:=funext fun b=>propext ⟨fun h=>h.elim id fun ⟨k,B,n,h,_⟩=>(by cases h),.inl⟩
 rw[hm'] at hx
 exact ⟨hE.mono fun k _ ⟨j,B,m,h,_⟩=>(by cases h),x,rfl,dOfV_den hv hx⟩
where
 all2_vD:∀ {ds:List D} {xs:List Value} {M:Nat→Prop} {w:World} {adr:Env},DenL M w ds xs→All2 (DenV adr M w) (ds.map vD) xs
  | [],[],_,_,_,_=>trivial
  | d::ds,x::xs,_,_,_,h=>⟨vD_den h.1,all2_vD h.2⟩
  | [],_::_,_,_,_,h=>h.elim
  | _::_,[],_,_,_,h=>h.elim
theorem FnP.le {P:Program} {f:Nat} {ds:List D} {r r':D} (h:FnP P gl f ds r) (hr:LeD r r'):FnP P gl f ds r':=fun w M xs hM hg hd=>(h w M xs hM hg hd).mono fun _e _w' ⟨hE,x,he,hx⟩=>⟨hE,x,he,hr.1 _ _ _ hx⟩
theorem Constant_d (s:List UInt8) {b:Bool} (hb:b=!decide (s.head?=some 61)):FnP Tryz.prog gl 31 [.str s] (.v (.bool b)):=by
 have c1:=HasPrefix_d (gl:=gl) s [61] (b:=decide (s.head?=some 61)) (by
  cases s with
  | nil=>rfl
  | cons c r=>by_cases h:c=61 <;> simp[h])
 subst hb
 cases hc:decide (s.head?=some 61) with
 | true =>
  rw[hc] at c1
  refine S0 Tryz.func31 rfl ?_
  ((repeat' ((conv=>whnf);first|exact .intro|refine G ?_|intro _|refine C1 c1 ?_|refine .mk ?_ ?_|refine H ?_|fail));all_goals conv=>whnf)
  exact LeD.rfl
 | false =>
  rw[hc] at c1
  refine S0 Tryz.func31 rfl ?_
  ((repeat' ((conv=>whnf);first|exact .intro|refine G ?_|intro _|refine C1 c1 ?_|refine .mk ?_ ?_|refine H ?_|fail));all_goals conv=>whnf)
  exact LeD.rfl
end
section
set_option maxHeartbeats 4000000
variable {gl:List (Nat×List D)}
def parseZ (rf:List UInt8→Option Rf) (s:List UInt8):Rs Nd :=
 if 200<s.length then .no 0 4 else if s.head?=some 61 then allF (s:=s) (Tw s (oneA (parZ rf) s 30) 4) else .no 0 2
def parseD:Rs Nd→D
 | .ok n _=>.tup [.agg n.cs,iD 0,.v .nilIface]
 | .no a e=>.tup [.agg n00.cs,iD (a:Int),erD e]
theorem dsOf_map:∀ l:List D,dsOf (l.map C.d)=some l
 | []=>rfl
 | x::l=>by
  simp only[List.map_cons,dsOf,dsOf_map l,dOfC]
theorem parts_cs (n:Nd) (x y:D):dOfV (.tup [(true,ndC n),(false,[.d x]),(false,[.d y])])=some (.tup [.agg n.cs,x,y]):=by
 show (match partD (true,ndC n),(some [x,y]:Option (List D)) with|some d,some l=>some (d::l)|_,_=>none).map D.tup=_
 show (match (dsOf (n.cs.map C.d)).map D.agg,(some [x,y]:Option (List D)) with|some d,some l=>some (d::l)|_,_=>none).map D.tup=_
 rw[dsOf_map]
 rfl
theorem n00_le:LeD (.agg [iD 0,iD 0,.str [],iD 0,iD 0,.v (.bool false),.v (.bool false),iD 0,iD 0,.v (.bool false),.v (.bool false),.v (.slice none 0 0)]) (.agg n00.cs):=by
 refine LeD.agg ?_
 repeat' first|exact LeD.rfl|exact LeD.bf (by simp[z0])|exact LeD.nil0|refine LeD.cons ?_ ?_|exact LeD.nil
theorem Parse_d (te:TypeId) (pe:Value) (hV:Has gl (glV te pe)) (hl:Go.EYtfcmhmglpcimiaaGreatDoor.look gl 1=some lvAll) {rf:List UInt8→Option Rf} (hR:RefsOk rf) (s:List UInt8) :
 FnP Tryz.prog gl 32 [.str s] (parseD (parseZ rf s)):=by
 unfold parseZ
 by_cases h200:200<s.length
 ·rw[if_pos h200]
  have h1:((s.length:Nat):Int)>200:=by omega
  refine FnP.le (r:=.tup [.agg [iD 0,iD 0,.str [],iD 0,iD 0,.v (.bool false),.v (.bool false),iD 0,iD 0,.v (.bool false),.v (.bool false),.v (.slice none 0 0)],iD 0,erD 4]) ?_ (LeD.tup (LeD.cons n00_le (LeD.cons LeD.rfl (LeD.cons LeD.rfl LeD.nil))))
  refine fnP_of_fn (v:=.tup [(true,[.d (iD 0),.d (iD 0),.d (.str []),.d (iD 0),.d (iD 0),.d (.v (.bool false)),.d (.v (.bool false)),.d (iD 0),.d (iD 0),.d (.v (.bool false)),.d (.v (.bool false)),.d (.v (.slice none 0 0))]),(false,[.d (iD 0)]),(false,[.d (erD 4)])]) ?_ rfl
  refine fn_of_vcD (nv:=9999) (cu:=[]) (g:=44) (d0:=11) (caps:=[.tmp 2,.tmp 3,.tmp 4]) fits mixed Tryz.func32 rfl rfl rfl rfl rfl rfl rfl rfl rfl rfl hoB hoB rfl rfl rfl rfl ⟨rfl,rfl,rfl⟩ ?_
  ((repeat' ((conv=>whnf);first|exact .intro|refine G ?_|intro _|refine .mk ?_ ?_|refine H ?_|fail));all_goals conv=>whnf)
  ((repeat' first|exact rfl|((conv=>whnf);first|done|exact suL|refine And.intro ?_ ?_|fail));all_goals conv=>whnf)
 ·rw[if_neg h200]
  have h1:¬ ((s.length:Nat):Int)>200:=by omega
  have hs:s.length≤200:=by omega
  by_cases h61:s.head?=some 61
  ·rw[if_pos h61]
   have c0:=Constant_d (gl:=gl) s (b:=false) (by simp[h61])
   have hl1:1≤s.length:=by
    cases s with
    | nil=>cases h61
    | cons c r=>simp
   have hf:=Tw_fwd (oneA_fwd (p:=parZ rf) (s:=s) 30) 4
   have c1:=two_0 te pe hV hl hR hs hl1
   have e1:IntKind.i64.wrap ((0:Int)+1)=((1:Nat):Int):=by rw[wrapI (by omega)];rfl
   unfold allF
   cases hx:Tw s (oneA (parZ rf) s 30) 4 1 with
   | no a e =>
    rw[hx] at c1
    unfold Gives1 at c1
    refine fnP_of_fn (v:=(.tup [(true,ndC n00),(false,[.d (iD (a:Int))]),(false,[.d (erD e)])])) ?_ (parts_cs _ _ _)
    refine fn_of_vcD (nv:=9999) (cu:=[]) (g:=44) (d0:=11) (caps:=[.tmp 2,.tmp 3,.tmp 4]) fits mixed Tryz.func32 rfl rfl rfl rfl rfl rfl rfl rfl rfl rfl hoB hoB rfl rfl rfl rfl ⟨rfl,rfl,rfl⟩ ?_
    ((repeat' ((conv=>whnf);first|exact .intro|refine G ?_|intro _|refine C5 c1 [3] ?_|refine C1 c0 ?_|(first|rw[e1]|refine ⟨_,_,_,parse1_zero 0 (.v .nilIface) _ _,?_,?_⟩)|refine .mk ?_ ?_|refine H ?_|fail));all_goals conv=>whnf)
    ((repeat' first|exact rfl|((conv=>whnf);first|done|exact suL|refine And.intro ?_ ?_|fail));all_goals conv=>whnf)
   | ok n k =>
    rw[hx] at c1
    unfold Gives1 at c1
    obtain ⟨hk1,hk2⟩:=hf _ _ _ hl1 hx
    have b1:=blanks_d (gl:=gl) s k 0 hk2 hs
    have hj:=skp_le hk2
    simp only[Rs.bind_ok]
    obtain ⟨j,hjj⟩:∃ j,skp s k=j:=⟨_,rfl⟩
    rw[hjj] at b1 hj ⊢
    obtain ⟨k0,m0,t0,a0,b0,ks0⟩:=n
    by_cases hjl:j=s.length
    ·rw[if_pos hjl]
     have h2:¬ ((j:Nat):Int)<((s.length:Nat):Int):=by omega
     refine fnP_of_fn (v:=(.tup [(true,ndC (.mk k0 m0 t0 a0 b0 ks0)),(false,[.d (iD 0)]),(false,[.d (.v .nilIface)])])) ?_ (parts_cs _ _ _)
     refine fn_of_vcD (nv:=9999) (cu:=[]) (g:=44) (d0:=11) (caps:=[.tmp 2,.tmp 3,.tmp 4]) fits mixed Tryz.func32 rfl rfl rfl rfl rfl rfl rfl rfl rfl rfl hoB hoB rfl rfl rfl rfl ⟨rfl,rfl,rfl⟩ ?_
     ((repeat' ((conv=>whnf);first|exact .intro|refine G ?_|intro _|refine C5 c1 [3] ?_|refine C5 b1 [3] ?_|refine C1 c0 ?_|(first|rw[e1]|refine ⟨_,_,_,parse1_none (.mk k0 m0 t0 a0 b0 ks0) 0 (.v .nilIface),?_,?_⟩)|refine .mk ?_ ?_|refine H ?_|fail));all_goals conv=>whnf)
     ((repeat' first|exact rfl|((conv=>whnf);first|done|exact suL|refine And.intro ?_ ?_|fail));all_goals conv=>whnf)
    ·rw[if_neg hjl]
     have h2:((j:Nat):Int)<((s.length:Nat):Int):=by omega
     have c4:=fail_d (gl:=gl) s j 0 j 2
     refine fnP_of_fn (v:=(.tup [(true,ndC n00),(false,[.d (iD (j:Int))]),(false,[.d (erD 2)])])) ?_ (parts_cs _ _ _)
     refine fn_of_vcD (nv:=9999) (cu:=[]) (g:=44) (d0:=11) (caps:=[.tmp 2,.tmp 3,.tmp 4]) fits mixed Tryz.func32 rfl rfl rfl rfl rfl rfl rfl rfl rfl rfl hoB hoB rfl rfl rfl rfl ⟨rfl,rfl,rfl⟩ ?_
     ((repeat' ((conv=>whnf);first|exact .intro|refine G ?_|intro _|refine C5 c1 [3] ?_|refine C5 b1 [3] ?_|refine C5 c4 [3] ?_|refine C1 c0 ?_|(first|rw[e1]|refine ⟨_,_,_,parse1_some (.mk k0 m0 t0 a0 b0 ks0) 0 (.v .nilIface) _ _,?_,?_⟩)|refine .mk ?_ ?_|refine H ?_|fail));all_goals conv=>whnf)
     ((repeat' first|exact rfl|((conv=>whnf);first|done|exact suL|refine And.intro ?_ ?_|fail));all_goals conv=>whnf)
  ·rw[if_neg h61]
   have c0:=Constant_d (gl:=gl) s (b:=true) (by simp[h61])
   have c1:=fail_d (gl:=gl) s 0 0 0 2
   refine fnP_of_fn (v:=(.tup [(true,ndC n00),(false,[.d (iD ((0:Nat):Int))]),(false,[.d (erD 2)])])) ?_ (parts_cs _ _ _)
   refine fn_of_vcD (nv:=9999) (cu:=[]) (g:=44) (d0:=11) (caps:=[.tmp 2,.tmp 3,.tmp 4]) fits mixed Tryz.func32 rfl rfl rfl rfl rfl rfl rfl rfl rfl rfl hoB hoB rfl rfl rfl rfl ⟨rfl,rfl,rfl⟩ ?_
   ((repeat' ((conv=>whnf);first|exact .intro|refine G ?_|intro _|refine C5 c1 [3] ?_|refine C1 c0 ?_|(refine ⟨_,_,_,parse1_zero 0 (.v .nilIface) _ _,?_,?_⟩)|refine .mk ?_ ?_|refine H ?_|fail));all_goals conv=>whnf)
   ((repeat' first|exact rfl|((conv=>whnf);first|done|exact suL|refine And.intro ?_ ?_|fail));all_goals conv=>whnf)
end
end Go.Proofs.YtfcmhmglpcimiaaGreatDoor
