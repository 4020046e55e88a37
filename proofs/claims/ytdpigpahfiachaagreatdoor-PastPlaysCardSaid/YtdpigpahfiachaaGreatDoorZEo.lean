/- Proved: a part of what the law is proved with (the reckoner, contracts of functions, plain laws). Conditions: as each says. -/
import Derived.Test.YtdpigpahfiachaaGreatDoorZEk
section
namespace Go.EYtdpigpahfiachaaGreatDoor
open Go Go.RowKit
def svals (gl:List (Nat×List D)) (fr:List (Nat×V)):List Operand→Option (List V)
 | []=>some []
 | y::r=>match sval gl fr y,svals gl fr r with
  | some s,some l=>some (s::l)
  | _,_=>none
def rStore (L:List (Nat×Blk)) (c:C) (l:List C) (k:List (Nat×Blk)→Prop):Prop :=
 match c with
 | .ptr j f=>match look L j with
  | some (.var cells tb)=>onB (Nat.ble (f+l.length) cells.length) (onB (oneL l) (fL (over cells f l) fun cells'=>setLK L j (.var cells' tb) k))
  | _=>False
 | .elt z j i f=>match look L j with
  | some (.rows z' rows e)=>match dsOf l with
   | some ds=>onB (Nat.beq z z') (onB (Nat.ble (f+ds.length) z) (onB (oneL l) (∃ r,rows[i]?=some r∧setLK L j (.rows z' (rows.set i (over r f ds)) e) k)))
   | none=>False
  | _=>False
 | _=>False
def rGrow (fx:List Nat) (te:TI) (kk:Nat) (l:List (List D)) (e:Nat) (rs:List (List D)) (fr:List (Nat×V)) (L:List (Nat×Blk)) (n:Nat) (k:V→SK):Prop :=
 onB (notIn kk fx) ((allOne rs=true∧(l.length+rs.length) * te.bytes≤140737488355328∧l.length+rs.length≤maxLen)∧
  fF (killF kk fr) fun fr'=>fBs (killL kk (setL L kk (.rows te.size (l++rs) e))) fun L'=>k (.c (.all te.size kk)) fr' L' n)
def rAppend (fx:List Nat) (te:TI) (e:Nat) (cx cy:C) (fr:List (Nat×V)) (L:List (Nat×Blk)) (n:Nat) (k:V→SK):Prop :=
 onB (Nat.blt 0 te.size) (onRows L te.size cy fun rs=>match cx with
 | .all z kk=>onB (Nat.beq z te.size) (match look L kk with
  | some (.rows z' l e')=>onB (Nat.beq z' te.size) (onB (Nat.beq e' e) (rGrow fx te kk l e rs fr L n k))
  | _=>False)
 | .own z kk i m=>onB (Nat.beq z te.size) (onB (Nat.beq i 0) (match look L kk with
  | some (.rows z' l e')=>onB (Nat.beq z' te.size) (onB (Nat.beq e' e) (m≤l.length∧rGrow fx te kk (l.take m) e rs fr L n k))
  | _=>False))
 | .d (.v (.slice none 0 0))=>rGrow fx te n [] e rs fr ((n,.rows te.size [] e)::L) (n+1) k
 | _=>False)
def rAppendS (fx:List Nat) (te:TI) (e:Nat) (cx cy:C) (fr:List (Nat×V)) (L:List (Nat×Blk)) (n:Nat) (k:V→SK):Prop :=
 onB (Nat.beq te.size 1) (match cx,cy with
 | .all z kk,.d (.str s)=>onB (Nat.beq z te.size) (match look L kk with
  | some (.rows z' l e')=>onB (Nat.beq z' te.size) (onB (Nat.beq e' e) (onB (notIn kk fx) (((l.length+s.length) * te.bytes≤140737488355328∧l.length+s.length≤maxLen)∧
   fF (killF kk fr) fun fr'=>fBs (killL kk (setL L kk (.rows te.size (l++s.map u8D) e))) fun L'=>k (.c (.all te.size kk)) fr' L' n)))
  | _=>False)
 | _,_=>False)
def denseB:Nat→List (Nat×Operand)→Bool
 | _,[]=>true
 | n,(i,_)::r=>match Nat.beq n i with
  | true=>denseB (n+1) r
  | false=>false
def rowsV:List V→Option (List (List D))
 | []=>some []
 | s::r=>match cellsOf s,rowsV r with
  | some l,some rs=>match dsOf l with
   | some ds=>some (ds::rs)
   | none=>none
  | _,_=>none
def eachLen (z:Nat):List (List D)→Bool
 | []=>true
 | r::l=>match Nat.beq r.length z with
  | true=>eachLen z l
  | false=>false
def ownsVs:List V→List Nat
 | []=>[]
 | s::r=>ownsV s++ownsVs r
def fcall (P:Program) (gl:List (Nat×List D)) (g:Nat) (vs:List V) (args:List Operand) (fr:List (Nat×V)) (L:List (Nat×Blk)) (n:Nat) (k:V→SK):Prop :=
 frzAll (ownsVs vs) fr L fun fr' L'=>match svals gl fr' args with
  | some vs'=>pcall P gl g vs' fr' L' n k
  | none=>False
def rBuildS (_gl:List (Nat×List D)) (te:TI) (e len:Nat) (ps:List (Nat×Operand)) (rs:List (List D)) (q:Nat) (fr:List (Nat×V)) (L:List (Nat×Blk)) (n:Nat) (k:V→SK):Prop :=
 onB (Nat.blt 0 te.size) (onB (denseB 0 ps) (onB (Nat.beq q len) (onB (Nat.blt 0 len) (onB (Nat.ble (len * te.size) 16777216) (onB (eachLen te.size rs)
  (k (.c (.all te.size n)) fr ((n,.rows te.size rs e)::L) (n+1)))))))
def xOp (P:Program) (gl:List (Nat×List D)) (tt:List (Nat×TI)) (fx:List Nat) (op:Op) (fr:List (Nat×V)) (L:List (Nat×Blk)) (n:Nat) (k:V→SK) (kp:C→SK):Prop :=
 match op with
 | .box t y=>onS (sval gl fr y) fun s=>match cellsOf s with
  | some l=>k (.c (.ptr n 0)) fr ((n,.var l t)::L) (n+1)
  | none=>False
 | .alloc t=>onT tt t fun ti=>fL (ti.zero.map C.d) fun l=>k (.c (.ptr n 0)) fr ((n,.var l t)::L) (n+1)
 | .store t y z=>onC (sval gl fr y) fun c=>onT tt t fun ti=>onS (sval gl fr z) fun s=>match cellsOf s with
  | some l=>onB (Nat.beq l.length ti.size) (match c,dsOf l with
   | .elt _ _ _ _,none=>frzAll (ownsCs l) fr L fun fr' L'=>onC (sval gl fr' y) fun c'=>onS (sval gl fr' z) fun s'=>(match cellsOf s' with
    | some l'=>onB (Nat.beq l'.length ti.size) (rStore L' c' l' fun L2=>k (.c (.d (.v undef))) fr' L2 n)
    | none=>False)
   | _,_=>rStore L c l fun L'=>k (.c (.d (.v undef))) fr L' n)
  | none=>False
 | .buildSlice t len ps=>onT tt t fun ti=>match Nat.beq ti.kd 3,ti.el with
  | true,some e=>onT tt e fun te=>match svals gl fr (ps.toList.map (·.2)) with
   | some vs=>match rowsV vs with
    | some rs=>rBuildS gl te e len ps.toList rs vs.length fr L n k
    | none=>frzAll (ownsVs vs) fr L fun fr' L'=>match svals gl fr' (ps.toList.map (·.2)) with
     | some vs'=>(match rowsV vs' with
      | some rs=>rBuildS gl te e len ps.toList rs vs'.length fr' L' n k
      | none=>False)
     | none=>False
   | none=>False
  | _,_=>False
 | .makeSlice t x y=>onC (sval gl fr x) fun cx=>onC (sval gl fr y) fun cy=>onT tt t fun ti=>match cx,cy with
  | .d (.v (.int _ a)),.d (.v (.int _ b))=>match Nat.beq ti.kd 3,ti.el with
   | true,some e=>onT tt e fun te=>onB (Nat.blt 0 te.size) ((0≤a∧a≤b∧(te.bytes:Int) * b≤281474976710656∧b≤9223372036854775807)∧
    k (.c (.all te.size n)) fr ((n,.rows te.size (List.replicate a.toNat te.zero) e)::L) (n+1))
   | _,_=>False
  | _,_=>False
 | .convert s d x=>onC (sval gl fr x) fun c=>onT tt s fun ts=>onT tt d fun td=>match Nat.beq td.kd 3,td.el,c with
  | true,some e,.d (.str l)=>onT tt e fun te=>onB (Nat.beq ts.kd 2) (onB (match te.ik with|some k=>ikeq k .u8|none=>false) (l.length≤maxLen∧k (.c (.d (.lst 1 (l.map u8D)))) fr L n))
  | _,_,_=>rConv L ts td (elTI tt ts) c fun s=>k s fr L n
 | .call c=>match c.callee with
  | .value f=>onC (sval gl fr f) fun cf=>match svals gl fr c.args.toList with
   | some vs=>match cf with
    | .fn g []=>rCall P gl fx g vs fr L n k kp∨fcall P gl g vs c.args.toList fr L n k
    | .fn g cs=>rCall P gl fx g (vs++cs.map fun p=>V.c (.ptr p.1 p.2)) fr L n k kp
    | .d (.v (.func (.func g) ⟨[]⟩ ⟨[]⟩))=>rCall P gl fx g vs fr L n k kp∨fcall P gl g vs c.args.toList fr L n k
    | _=>False
   | none=>False
  | .builtin .append=>match c.args,c.argTypes with
   | ⟨[x,y]⟩,⟨[t,t']⟩=>onC (sval gl fr x) fun cx=>onC (sval gl fr y) fun cy=>onT tt t fun ti=>match Nat.beq t t',Nat.beq ti.kd 3,ti.el with
    | true,true,some e=>onT tt e fun te=>rAppend fx te e cx cy fr L n k
    | false,true,some e=>onT tt t' fun tj=>onT tt e fun te=>onB (Nat.beq tj.kd 2) (rAppendS fx te e cx cy fr L n k)
    | _,_,_=>False
   | _,_=>False
  | _=>pOp tt (sval gl fr) L op fun s=>k s fr L n
 | .panic x=>onC (sval gl fr x) fun c=>onB (isIf c) (kp c fr L n)
 | op=>pOp tt (sval gl fr) L op fun s=>k s fr L n
section
variable {P:Program} {gl:List (Nat×List D)} {tt:List (Nat×TI)} {M0 S0:Nat→Prop} {w0:Base} {N:Nat} {adr:Env} {fr:List (Nat×V)} {L:List (Nat×Blk)} {n:Nat} {a:Act} {w:World}
theorem svals_ok {M:Nat→Prop} (hf:FrOk adr M w fr a) (hg:Glob gl M w):∀ {ys:List Operand} {l:List V},svals gl fr ys=some l→All2 (DenV adr M w) l (ys.map a.eval)
 | [],l,hl=>by simp only[svals,Option.some.injEq] at hl;subst hl;trivial
 | y::r,l,hl=>by
  simp only[svals] at hl
  split at hl
  ·rename_i s l' hs hr
   cases hl
   exact ⟨sval_ok hf hg hs,svals_ok hf hg hr⟩
  ·cases hl
theorem Ok.sval (hx:Ok gl M0 S0 w0 N adr fr L n a w) {x:Operand} {s:V} (hs:sval gl fr x=some s):DenV adr (Mut M0 adr L) w s (a.eval x):=sval_ok hx.fr hx.glob hs
theorem Ok.svals (hx:Ok gl M0 S0 w0 N adr fr L n a w) {ys:List Operand} {l:List V} (hl:svals gl fr ys=some l):All2 (DenV adr (Mut M0 adr L) w) l (ys.map a.eval):=svals_ok hx.fr hx.glob hl
def After (gl:List (Nat×List D)) (M0 S0:Nat→Prop) (w0:Base) (N:Nat) (a:Act) (k:V→SK) (v:Value) (w':World):Prop :=
 ∃ s fr' L' n' adr',k s fr' L' n'∧Ok gl M0 S0 w0 N adr' fr' L' n' a w'∧DenV adr' (Mut M0 adr' L') w' s v
theorem caps_den {M:Nat→Prop}:∀ {cs:List (Nat×Nat)} {xs:List Value},All2 (DenP adr) cs xs→All2 (DenV adr M w) (cs.map fun p=>V.c (.ptr p.1 p.2)) xs
 | [],[],_=>trivial
 | _::_,_::_,h=>⟨h.1,caps_den h.2⟩
 | [],_::_,h=>h.elim
 | _::_,[],h=>h.elim
theorem rStore_ok (hT:Fits P tt) {t:Nat} {ti:TI} (hti:look tt t=some ti) {c:C} {s:V} {l:List C} {k:List (Nat×Blk)→Prop} (h:rStore L c l k) (hx:Ok gl M0 S0 w0 N adr fr L n a w) (hl:cellsOf s=some l) (hlen:l.length=ti.size)
 {x u:Value} (hc:DenC adr (Mut M0 adr L) w c x) (hs:DenV adr (Mut M0 adr L) w s u):∃ w' L',(Instr.storeAt t x u).run P w=.ok () w'∧k L'∧Ok gl M0 S0 w0 N adr fr L' n a w':=by
 have hcs:=cellsOf_ok hl hs
 unfold rStore at h
 split at h
 ·rename_i j f
  split at h
  ·rename_i cells tb hk
   obtain ⟨hle,h⟩:=onB_ok h
   obtain ⟨hone,h⟩:=onB_ok h
   rw[fL_eq,setLK_eq] at h
   have hle:=Nat.le_of_ble_eq_true hle
   obtain ⟨b,m,ha,rfl⟩:=hc
   have hloc:=hx.wok.loc j _ hk
   rw[ha] at hloc
   obtain ⟨xs,h1,h2⟩:=hloc
   have hl2:=All2.length h2
   have hl3:=All2.length hcs
   have hr:=(hT t ti hti).store (w:=w) (b:=b) (o:=f) (cur:=xs) (v:=u) (vs:=u.cells.toList) h1 rfl (by omega) (by omega) (hcs.one hone)
   exact ⟨_,_,hr,h,hx.setVar hk ha h1 h2 hcs hle⟩
  ·exact h.elim
 ·rename_i z j i f
  split at h
  ·rename_i z' rows e hk
   split at h
   ·rename_i ds hds
    obtain ⟨hz,h1⟩:=onB_ok h
    obtain ⟨hle,h2⟩:=onB_ok h1
    obtain ⟨hone,r,hi,h3⟩:=onB_ok h2
    clear h h1 h2
    rw[setLK_eq] at h3
    have hz:=Nat.eq_of_beq_eq_true hz
    subst hz
    have hle:=Nat.le_of_ble_eq_true hle
    obtain ⟨b,m,ha,rfl⟩:=hc
    have hloc:=hx.wok.loc j _ hk
    rw[ha] at hloc
    obtain ⟨g1,g2,g3,cur,cp,g4,g5,g6,g7,g8⟩:=hloc
    have hd:=dsOf_ok hds
    subst hd
    have hden:DenL (Mut M0 adr L) w ds u.cells.toList:=(All2.map_left (R:=DenC adr (Mut M0 adr L) w) (f:=C.d)).1 hcs
    have hl3:=All2.length hden
    have hil:i<rows.length:=(List.getElem?_eq_some_iff.1 hi).1
    have hmul:i * z+z≤rows.length * z:=by
     have:(i+1) * z≤rows.length * z:=Nat.mul_le_mul_right _ hil
     rw[Nat.add_mul] at this;omega
    have hmul2:rows.length * z≤cp * z:=Nat.mul_le_mul_right _ g6
    have hr:=(hT t ti hti).store (w:=w) (b:=b) (o:=i * z+f) (cur:=cur.toList) (v:=u) (vs:=u.cells.toList) g4 rfl (by rw[← hl3];simpa using hlen) (by simp;simp at hl3;omega) (hcs.one hone)
    exact ⟨_,_,hr,h3,hx.setElt hk ha g4 hi hden hle⟩
   ·exact h.elim
  ·exact h.elim
 ·exact h.elim
theorem rGrow_ok {t ty e:Nat} {te:TI} (ht:P.underlying t=some (.slice e)) (he:FitsOne P e te) (hz:0<te.size) {kk:Nat} {l l0 rs:List (List D)} {k:V→SK} (hk:look L kk=some (.rows te.size l0 e)) (m:Nat) (hm:m≤l0.length) (hl:l=l0.take m)
 (h:rGrow w0.fx te kk l e rs fr L n k) (hx:Ok gl M0 S0 w0 N adr fr L n a w) {v x:Value} (hv:(v=.slice none 0 0∧m=0)∨∃ b cap,adr kk=some (some b,l0.length)∧v=.slice (some ⟨b,0,none⟩) m cap∧m≤cap∧∃ cur f,w.heap[b]?=some (.cells cur e f)∧cur.size=cap * te.size∧cap≤maxLen)
 (hr:RowsAt (Mut M0 adr L) w te.size rs x):∃ v' w',(Builtin.append_ #[t,t] ty #[v,x]).run P w=.ok v' w'∧After gl M0 S0 w0 N a k v' w':=by
 obtain ⟨hfx,⟨h1,h2,h3⟩,h0⟩:=onB_ok h
 rw[fF_eq,fBs_eq] at h0
 have hlen:l.length=m:=by rw[hl];simp;omega
 rw[hlen] at h2 h3
 obtain ⟨v',w',adr',e1,e2,e3⟩:=hx.append (ty:=ty) ht he hz hk hm hv hr h1 h2 h3 (notIn_ok hfx)
 rw[← hl] at e2
 exact ⟨v',w',e1,_,_,_,_,adr',h0,e2,e3⟩
theorem rAppendS_ok {t u ty e:Nat} {te:TI} (ht:P.underlying t=some (.slice e)) (hu:P.underlying u=some .string) (he:FitsOne P e te) {cx cy:C} {k:V→SK} (h:rAppendS w0.fx te e cx cy fr L n k) (hx:Ok gl M0 S0 w0 N adr fr L n a w) {v x:Value}
 (hv:DenC adr (Mut M0 adr L) w cx v) (hy:DenC adr (Mut M0 adr L) w cy x):∃ v' w',(Builtin.append_ #[t,u] ty #[v,x]).run P w=.ok v' w'∧After gl M0 S0 w0 N a k v' w':=by
 obtain ⟨hz0,h0⟩:=onB_ok h
 clear h
 have hz:=Nat.eq_of_beq_eq_true hz0
 split at h0
 ·rename_i z kk s
  obtain ⟨e1,h1⟩:=onB_ok h0
  clear h0
  have e1:=Nat.eq_of_beq_eq_true e1
  split at h1
  ·rename_i z' l e' hk
   obtain ⟨e2,h2⟩:=onB_ok h1
   obtain ⟨e3,h3⟩:=onB_ok h2
   obtain ⟨hfx,⟨h4,h5⟩,h6⟩:=onB_ok h3
   clear h1 h2 h3
   rw[fF_eq,fBs_eq] at h6
   have e2:=Nat.eq_of_beq_eq_true e2
   have e3:=Nat.eq_of_beq_eq_true e3
   subst e1;subst e2;subst e3
   obtain rfl:=DenD.str_inv hy
   have hloc:=hx.wok.loc kk _ hk
   have hv':(v=.slice none 0 0∧l.length=0)∨∃ b cap,adr kk=some (some b,l.length)∧v=.slice (some ⟨b,0,none⟩) l.length cap∧l.length≤cap∧∃ cur f,w.heap[b]?=some (Obj.cells cur e' f)∧cur.size=cap * te.size∧cap≤maxLen:=by
    rcases hv with ⟨h5,rfl⟩|⟨b,m,cp,cur,ee,f,h5,h6,h7,h8,h9,rfl⟩
    ·rw[h5] at hloc
     obtain ⟨_,h6,_⟩:=hloc
     subst h6;exact .inl ⟨rfl,rfl⟩
    ·rw[h5] at hloc
     obtain ⟨g1,g2,g3,cur',cp',g4,g5,g6,g7,g8⟩:=hloc
     subst g2
     rw[h6] at g4;cases g4
     exact .inr ⟨b,cp,h5,rfl,h8,cur,_,h6,h7,h9⟩
   obtain ⟨v',w',adr',e1,e2,e3⟩:=hx.appendS (ty:=ty) ht hu he hz hk (Nat.le_refl _) hv' h4 h5 (notIn_ok hfx)
   rw[List.take_length] at e2
   exact ⟨v',w',e1,_,_,_,_,adr',h6,e2,e3⟩
  ·exact h1.elim
 ·exact h0.elim
theorem rAppend_ok {t ty e:Nat} {te:TI} (ht:P.underlying t=some (.slice e)) (he:FitsOne P e te) {cx cy:C} {k:V→SK} (h:rAppend w0.fx te e cx cy fr L n k) (hx:Ok gl M0 S0 w0 N adr fr L n a w) {v x:Value}
 (hv:DenC adr (Mut M0 adr L) w cx v) (hy:DenC adr (Mut M0 adr L) w cy x):∃ v' w',(Builtin.append_ #[t,t] ty #[v,x]).run P w=.ok v' w'∧After gl M0 S0 w0 N a k v' w':=by
 obtain ⟨hz0,h0⟩:=onB_ok h
 clear h
 have hz:0<te.size:=by simp[Nat.blt,Nat.ble_eq] at hz0;omega
 obtain ⟨rs,h,hrs⟩:=onRows_ok h0
 clear h0
 have hr:=hrs M0 adr L n w x (fun _ _ h=>h) hx.wok hy
 split at h
 ·rename_i z kk
  obtain ⟨e1,h1⟩:=onB_ok h
  clear h
  have e1:=Nat.eq_of_beq_eq_true e1
  split at h1
  ·rename_i z' l e' hk
   obtain ⟨e2,h2⟩:=onB_ok h1
   obtain ⟨e3,h3⟩:=onB_ok h2
   clear h1 h2
   have e2:=Nat.eq_of_beq_eq_true e2
   have e3:=Nat.eq_of_beq_eq_true e3
   subst e1;subst e2;subst e3
   refine rGrow_ok ht he hz hk l.length (Nat.le_refl _) (by simp) h3 hx ?_ hr
   have hloc:=hx.wok.loc kk _ hk
   rcases hv with ⟨h5,rfl⟩|⟨b,m,cp,cur,ee,f,h5,h6,h7,h8,h9,rfl⟩
   ·rw[h5] at hloc
    obtain ⟨_,h6,_⟩:=hloc
    subst h6;exact .inl ⟨rfl,rfl⟩
   ·rw[h5] at hloc
    obtain ⟨g1,g2,g3,cur',cp',g4,g5,g6,g7,g8⟩:=hloc
    subst g2
    rw[h6] at g4;cases g4
    exact .inr ⟨b,cp,h5,rfl,h8,cur,_,h6,h7,h9⟩
  ·exact h1.elim
 ·rename_i z kk i m
  obtain ⟨e1,h1⟩:=onB_ok h
  obtain ⟨e0,h2⟩:=onB_ok h1
  clear h h1
  have e1:=Nat.eq_of_beq_eq_true e1
  have e0:=Nat.eq_of_beq_eq_true e0
  subst e0
  split at h2
  ·rename_i z' l e' hk
   obtain ⟨e2,h3⟩:=onB_ok h2
   obtain ⟨e3,hm,h4⟩:=onB_ok h3
   clear h2 h3
   have e2:=Nat.eq_of_beq_eq_true e2
   have e3:=Nat.eq_of_beq_eq_true e3
   subst e1;subst e2;subst e3
   refine rGrow_ok ht he hz hk m hm rfl h4 hx ?_ hr
   have hloc:=hx.wok.loc kk _ hk
   rcases hv with ⟨rfl,_,rfl⟩|⟨h0,_⟩|⟨b,q,cp,cur,ee,f,h5,h6,h7,h8,h9,rfl⟩
   ·exact .inl ⟨rfl,rfl⟩
   ·exact absurd rfl h0
   ·rw[h5] at hloc
    obtain ⟨g1,g2,g3,cur',cp',g4,g5,g6,g7,g8⟩:=hloc
    subst g2
    rw[h6] at g4;cases g4
    exact .inr ⟨b,cp,h5,by simp,by omega,cur,_,h6,h7,h9⟩
  ·exact h2.elim
 ·obtain rfl:=DenD.v_inv hv
  refine rGrow_ok (L:=(n,.rows te.size [] e)::L) ht he hz (by rw[look_cons,if_pos rfl]) 0 (Nat.zero_le _) (by simp) h (hx.pushNil e hz) (.inl ⟨rfl,rfl⟩) ?_
  refine hrs M0 _ _ _ w x (fun j B hj=>?_) (hx.pushNil e hz).wok (DenC.evo (Evo.refl (fun _=>False) w) (fun _ _ h=>h.elim) (fun b hb hm=>?_) (fun j b _ hj=>adrPush_old hx.wok.fresh hj) hy)
  ·rw[look_cons,if_neg (fun e=>by have:=hx.wok.keys j B hj;omega)];exact hj
  ·rcases (mut_push hx.wok.fresh hx.wok.keys).1 hm with h1|h1
   ·exact h1
   ·cases h1
 ·exact h.elim
theorem dense_ok:∀ {ps:List (Nat×Operand)} {i:Nat} (ρ:Operand→Value),denseB i ps=true→ps.map (fun p=>(p.1,ρ p.2))=(((ps.map fun p=>ρ p.2).zipIdx i).map fun x=>(x.2,x.1))
 | [],_,_,_=>rfl
 | (j,x)::r,i,ρ,h=>by
  simp only[denseB] at h
  split at h
  ·rename_i hj
   have hj:=Nat.eq_of_beq_eq_true hj
   subst hj
   simp only[List.map_cons,List.zipIdx_cons,dense_ok ρ h]
  ·cases h
theorem rowsV_ok {M:Nat→Prop}:∀ {vs:List V} {rs:List (List D)} {xs:List Value},rowsV vs=some rs→All2 (DenV adr M w) vs xs→All2 (fun r v=>DenL M w r v.cells.toList) rs xs
 | [],rs,xs,h,hd=>by
  simp only[rowsV,Option.some.injEq] at h;subst h
  cases xs with
  | nil=>trivial
  | cons _ _=>exact hd.elim
 | s::r,rs,xs,h,hd=>by
  cases xs with
  | nil=>exact hd.elim
  | cons x xs =>
   simp only[rowsV] at h
   split at h
   ·rename_i l rs' hl hr
    split at h
    ·rename_i ds hds
     cases h
     have h1:=cellsOf_ok hl hd.1
     rw[dsOf_ok hds] at h1
     exact ⟨(All2.map_left (R:=DenC adr M w) (f:=C.d)).1 h1,rowsV_ok hr hd.2⟩
    ·cases h
   ·cases h
theorem eachLen_ok {z:Nat}:∀ {l:List (List D)},eachLen z l=true→∀ r ∈ l,r.length=z
 | [],_,r,hr=>by simp at hr
 | r'::l,h,r,hr=>by
  simp only[eachLen] at h
  split at h
  ·rename_i hb
   rcases List.mem_cons.1 hr with rfl|hr
   ·exact Nat.eq_of_beq_eq_true hb
   ·exact eachLen_ok h r hr
  ·cases h
theorem kd3 {t:Nat} {ti:TI} {e:Nat} (h:FitsOne P t ti) (h3:Nat.beq ti.kd 3=true) (hel:ti.el=some e):P.underlying t=some (.slice e):=by
 obtain ⟨d,hd,_,_,_,_,hdel,hkd⟩:=h.desc
 rw[Nat.eq_of_beq_eq_true h3] at hkd
 rw[hel] at hdel
 cases d <;> simp[kdOf] at hkd
 simp only[elOf,Option.some.injEq] at hdel;subst hdel;exact hd
theorem kd2 {t:Nat} {ti:TI} (h:FitsOne P t ti) (h2:Nat.beq ti.kd 2=true):P.underlying t=some .string:=by
 obtain ⟨d,hd,_,_,_,_,_,hkd⟩:=h.desc
 rw[Nat.eq_of_beq_eq_true h2] at hkd
 cases d <;> simp[kdOf] at hkd
 exact hd
theorem xOp_ok (hT:Fits P tt) {o:Oper} {k:V→SK} {kp:C→SK} {K:Act→World→Prop} {Q:Exit→Act→World→Prop} (h:xOp P gl tt w0.fx o.op fr L n k kp) (hx:Ok gl M0 S0 w0 N adr fr L n a w)
 (hk:∀ v w',After gl M0 S0 w0 N a k v w'→K (a.put o.dst v) w')
 (hp:∀ c fr' L' n' adr' x w',kp c fr' L' n'→Ok gl M0 S0 w0 N adr' fr' L' n' a w'→DenC adr' (Mut M0 adr' L') w' c x→Q (.panic [{ v:=x,recovered:=false }]) a w'):o.wp P a w K Q:=by
 obtain ⟨dst,op,ty,pos,after,guard⟩:=o
 have pcase:pOp tt (sval gl fr) L op (fun s=>k s fr L n)→Oper.wp P ⟨dst,op,ty,pos,after,guard⟩ a w K Q:=by
  intro h
  obtain ⟨s,hK,hg⟩:=pOp_ok (gl:=gl) hT (o:=⟨dst,op,ty,pos,after,guard⟩) h
  obtain ⟨v,h1,h2⟩:=hg M0 adr L n w a.eval (fun _ _ h=>h) hx.wok hx.glob (fun x _ s hs=>hx.sval hs)
  unfold Oper.wp
  rw[h1,Oper.upon_value]
  exact hk v w ⟨s,fr,L,n,adr,hK,hx,h2⟩
 have call:∀ (g:Nat) (vs:List V) (xs:List Value) (c:Call),rCall P gl w0.fx g vs fr L n k kp→All2 (DenV adr (Mut M0 adr L) w) vs xs→op=.call c→(execOp a.eval ⟨dst,op,ty,pos,after,guard⟩).run P w=(callFunc g xs.toArray).run P w→Oper.wp P ⟨dst,op,ty,pos,after,guard⟩ a w K Q:=by
  intro g vs xs c hc hd _ he
  unfold Oper.wp
  rw[he]
  rcases rCall_ok hc hx hd with ⟨hB,hC⟩|⟨v,w',h1,h2⟩
  ·rw[hB.enters,Oper.upon_enter]
   refine hC.mono fun e w' hret=>?_
   rcases hret with ⟨v,x,adr',fr',L',n',rfl,h1,h2,h3⟩|⟨c,x,adr',fr',L',n',rfl,h1,h2,h3⟩
   ·exact hk x w' ⟨v,fr',L',n',adr',h1,h2,h3⟩
   ·exact hp c fr' L' n' adr' x w' h1 h2 h3
  ·rw[h1,Oper.upon_value]
   rcases h2 with ⟨v',x,adr',fr',L',n',e1,h1,h2,h3⟩|⟨c,x,adr',fr',L',n',e1,h1,h2,h3⟩
   ·cases e1;exact hk v w' ⟨v',fr',L',n',adr',h1,h2,h3⟩
   ·cases e1
 cases op with
 | box t y =>
  obtain ⟨s,hs,h⟩:=onS_ok h
  split at h
  ·rename_i l hl
   have hd:=cellsOf_ok hl (hx.sval hs)
   have hr:(Instr.box t (a.eval y)).run P w=.ok (.pointer (some ⟨w.heap.size,0,none⟩)) (w.alloc (.cells (a.eval y).cells t (0,0))):=by
    simp only[Instr.box,newVar,newRow,Sem.run_bind,run_newObj_alloc,Result.andThen_ok,Sem.run_pure]
   unfold Oper.wp execOp
   simp only[Sem.run_bind,hr,Result.andThen_ok,Sem.run_pure]
   rw[Oper.upon_value]
   have hpv:=hx.pushVar t hd
   rw[Array.toArray_toList] at hpv
   exact hk _ _ ⟨_,_,_,_,_,h,hpv,w.heap.size,0,by unfold adrPush;rw[if_pos rfl],rfl⟩
  ·exact h.elim
 | alloc t =>
  obtain ⟨ti,hl,h⟩:=onT_ok h
  rw[fL_eq] at h
  obtain ⟨i,z,hq,_,_,hz,hzc⟩:=(hT t ti hl).infoE
  have hd:DenCs adr (Mut M0 adr L) w (ti.zero.map C.d) (ti.zero.map undD):=All2.map_left.2 ((hT t ti hl).zeroDen _ _)
  have hcells:z.cells=(ti.zero.map undD).toArray:=by rw[← hzc]
  have hr:(Instr.alloc t true (.tuple #[])).run P w=.ok (.pointer (some ⟨w.heap.size,0,none⟩)) (w.alloc (.cells (ti.zero.map undD).toArray t (0,0))):=by
   simp only[Instr.alloc,zeroValue,typeInfo,Sem.run_bind,run_program,Result.andThen_ok,hq,hz,Sem.run_pure,newVar,newRow,run_newObj_alloc,hcells]
  unfold Oper.wp execOp
  simp only[Sem.run_bind,hr,Result.andThen_ok,Sem.run_pure]
  rw[Oper.upon_value]
  exact hk _ _ ⟨_,_,_,_,_,h,hx.pushVar t hd,w.heap.size,0,by unfold adrPush;rw[if_pos rfl],rfl⟩
 | store t y z =>
  obtain ⟨c,hc,h⟩:=onC_ok h
  obtain ⟨ti,hl,h⟩:=onT_ok h
  obtain ⟨s,hs,h⟩:=onS_ok h
  split at h
  ·rename_i l hcl
   obtain ⟨hlen,h0⟩:=onB_ok h
   clear h
   have fin:∀ {fr':List (Nat×V)} {L1:List (Nat×Blk)} {c':C} {s':V} {l':List C},rStore L1 c' l' (fun L2=>k (.c (.d (.v undef))) fr' L2 n)→Ok gl M0 S0 w0 N adr fr' L1 n a w→sval gl fr' y=some (.c c')→sval gl fr' z=some s'→cellsOf s'=some l'→l'.length=ti.size→Oper.wp P ⟨dst,.store t y z,ty,pos,after,guard⟩ a w K Q:=by
    intro fr' L1 c' s' l' h hx hc hs hcl hlen
    obtain ⟨w',L',h1,h2,h3⟩:=rStore_ok hT hl h hx hcl hlen (hx.sval hc) (hx.sval hs)
    unfold Oper.wp execOp
    simp only[Sem.run_bind,h1,Result.andThen_ok,Sem.run_pure]
    rw[Oper.upon_skip]
    exact hk _ _ ⟨_,_,_,_,_,h2,h3,.v _⟩
   split at h0
   ·obtain ⟨fr',L',q1,hx'⟩:=frzAll_ok h0 hx
    obtain ⟨c',hc',q2⟩:=onC_ok q1
    obtain ⟨s',hs',q3⟩:=onS_ok q2
    split at q3
    ·rename_i l' hcl'
     obtain ⟨hlen',q4⟩:=onB_ok q3
     exact fin q4 hx' hc' hs' hcl' (Nat.eq_of_beq_eq_true hlen')
    ·exact q3.elim
   ·exact fin h0 hx hc hs hcl (Nat.eq_of_beq_eq_true hlen)
  ·exact h.elim
 | buildSlice t len ps =>
  obtain ⟨ti,hl,q1⟩:=onT_ok h
  clear h
  split at q1
  ·rename_i e h3 hel
   obtain ⟨te,hle,q2⟩:=onT_ok q1
   clear q1
   have fin:∀ {fr':List (Nat×V)} {L1:List (Nat×Blk)} {vs:List V} {rs:List (List D)},svals gl fr' (ps.toList.map (·.2))=some vs→rowsV vs=some rs→rBuildS gl te e len ps.toList rs vs.length fr' L1 n k→Ok gl M0 S0 w0 N adr fr' L1 n a w→Oper.wp P ⟨dst,.buildSlice t len ps,ty,pos,after,guard⟩ a w K Q:=by
    intro fr' L1 vs rs hvs hrs h hx
    obtain ⟨g1,z1⟩:=onB_ok h
    obtain ⟨g2,z2⟩:=onB_ok z1
    obtain ⟨g3,z3⟩:=onB_ok z2
    obtain ⟨g4,z4⟩:=onB_ok z3
    obtain ⟨g5,z5⟩:=onB_ok z4
    obtain ⟨g6,hK⟩:=onB_ok z5
    clear h z1 z2 z3 z4 z5
    have g1:0<te.size:=by simp[Nat.blt,Nat.ble_eq] at g1;omega
    have g3:=Nat.eq_of_beq_eq_true g3
    have g4:0<len:=by simp[Nat.blt,Nat.ble_eq] at g4;omega
    have g5:=Nat.le_of_ble_eq_true g5
    have hden:=hx.svals hvs
    have hlv:=All2.length hden
    have hrow:=rowsV_ok hrs hden
    have hrl:=All2.length hrow
    have hz:=eachLen_ok g6
    obtain ⟨cur,h1,h2⟩:=run_buildSlice_rows w (kd3 (hT t ti hl) h3 hel) (hT e te hle) g1 hrow hz (by rw[← hlv,g3];exact g5) (by rw[← hlv,g3];exact g4)
    have hmax:rs.length≤maxLen:=by
     rw[hrl,← hlv,g3]
     have:len≤len * te.size:=Nat.le_mul_of_pos_right _ g1
     simp only[maxLen];omega
    have hcl:=All2.length h2
    rw[flatten_length hz] at hcl
    obtain ⟨e1,e2⟩:=hx.allNew (cap:=rs.length) e g1 hz hmax (Nat.le_refl _) hcl.symm (by rw[List.take_of_length_le (by omega)];exact h2)
    have hparts:(ps.map fun (i,x)=>(i,a.eval x))=((((ps.toList.map (·.2)).map a.eval).zipIdx 0).map fun x=>(x.2,x.1)).toArray:=by
     apply Array.ext'
     have:=dense_ok a.eval g2
     rw[List.map_map]
     simp only[Function.comp_def]
     rw[← this]
     simp
    have hlen:((ps.toList.map (·.2)).map a.eval).length=len:=by rw[← hlv,g3]
    rw[hlen] at h1
    unfold Oper.wp execOp
    simp only[hparts,Sem.run_bind,h1,Result.andThen_ok,Sem.run_pure]
    rw[Oper.upon_value]
    have hrlen:rs.length=len:=by rw[hrl,← hlv,g3]
    rw[hrlen] at e2 e1
    exact hk _ _ ⟨_,_,_,_,_,hK,e1,e2⟩
   split at q2
   ·rename_i vs hvs
    split at q2
    ·rename_i rs hrs
     exact fin hvs hrs q2 hx
    ·obtain ⟨fr',L',q3,hx'⟩:=frzAll_ok q2 hx
     split at q3
     ·rename_i vs' hvs'
      split at q3
      ·rename_i rs hrs
       exact fin hvs' hrs q3 hx'
      ·exact q3.elim
     ·exact q3.elim
   ·exact q2.elim
  ·exact q1.elim
 | makeSlice t x y =>
  obtain ⟨cx,hcx,q1⟩:=onC_ok h
  obtain ⟨cy,hcy,q2⟩:=onC_ok q1
  obtain ⟨ti,hl,q3⟩:=onT_ok q2
  clear h q1 q2
  split at q3
  ·rename_i k1 m1 k2 m2
   split at q3
   ·rename_i e h3 hel
    obtain ⟨te,hle,q4⟩:=onT_ok q3
    obtain ⟨g1,⟨g2,g3,g4,g5⟩,h⟩:=onB_ok q4
    clear q3 q4
    have g1:0<te.size:=by simp[Nat.blt,Nat.ble_eq] at g1;omega
    have ex:=DenD.v_inv (hx.sval hcx)
    have ey:=DenD.v_inv (hx.sval hcy)
    obtain ⟨i,z,hq,hsz,hby,hz,hzc⟩:=(hT e te hle).infoE
    have hr:=run_make (P:=P) w t e i z (kd3 (hT t ti hl) h3 hel) hq hz k1 k2 m1 m2 g2 g3 (by rw[hby];exact g4) g5
    have hzs:z.cells.size=te.size:=by rw[← Array.length_toList,hzc,List.length_map,(hT e te hle).zlen]
    have hrow:∀ r ∈ List.replicate m1.toNat te.zero,r.length=te.size:=fun r hr=>by rw[List.eq_of_mem_replicate hr];exact (hT e te hle).zlen
    have hm2:m2.toNat≤maxLen:=by simp only[maxLen];omega
    have hden:DenL (Mut M0 adr L) w (List.replicate m1.toNat te.zero).flatten ((madeCells z.cells (m2.toNat * i.size)).toList.take (m1.toNat * te.size)):=by
     have:=made_take (z:=z.cells) (n:=m1.toNat) (c:=m2.toNat) (by omega)
     rw[hsz,← hzs,this,hzc]
     clear this
     induction m1.toNat with
     | zero=>trivial
     | succ q ih=>rw[List.replicate_succ,List.replicate_succ,List.flatten_cons,List.flatten_cons];exact All2.app ((hT e te hle).zeroDen _ _) ih
    obtain ⟨e1,e2⟩:=hx.allNew (l:=List.replicate m1.toNat te.zero) (xs:=(madeCells z.cells (m2.toNat * i.size)).toList) (cap:=m2.toNat) e g1 hrow hm2 (by simp;omega) (by simp[size_madeCells,hsz]) (by simpa using hden)
    unfold Oper.wp execOp
    simp only[ex,ey,Sem.run_bind,hr,Result.andThen_ok,Sem.run_pure]
    rw[Oper.upon_value]
    rw[List.length_replicate] at e1 e2
    rw[Array.toArray_toList] at e1 e2
    exact hk _ _ ⟨_,_,_,_,_,h,e1,e2⟩
   ·exact q3.elim
  ·exact q3.elim
 | convert src d x =>
  obtain ⟨c,hc,q1⟩:=onC_ok h
  obtain ⟨ts,hl,q2⟩:=onT_ok q1
  obtain ⟨td,hl2,q3⟩:=onT_ok q2
  clear h q1 q2
  split at q3
  ·rename_i e l h3 hel
   obtain ⟨te,hle,q4⟩:=onT_ok q3
   obtain ⟨g1,q5⟩:=onB_ok q4
   obtain ⟨g2,hlen,h'⟩:=onB_ok q5
   clear q3 q4 q5
   have hstr:P.underlying src=some .string:=by
    obtain ⟨d,hd,_,_,_,_,_,hkd⟩:=(hT src ts hl).desc
    rw[Nat.eq_of_beq_eq_true g1] at hkd
    cases d <;> simp[kdOf] at hkd;exact hd
   have hu8:P.underlying e=some (.int .u8):=by
    obtain ⟨de,ee,_,_,_,ike,_⟩:=(hT e te hle).desc
    cases hk:te.ik with
    | none=>rw[hk] at g2;cases g2
    | some k =>
     rw[hk] at g2 ike
     obtain rfl:=ikeq_ok g2
     cases de <;> simp only[ikOf,reduceCtorEq,Option.some.injEq] at ike
     subst ike;exact ee
   have ex:=DenD.str_inv (hx.sval hc)
   obtain ⟨v,w',h1,h2,h3'⟩:=run_str_bytes w hstr (kd3 (hT d td hl2) h3 hel) hu8 (M:=Mut M0 adr L) (fun b hb=>hx.wok.mutLt hb) l hlen
   unfold Oper.wp execOp
   simp only[ex,Sem.run_bind,h1,Result.andThen_ok,Sem.run_pure]
   rw[Oper.upon_value]
   exact hk _ _ ⟨_,_,_,_,_,h',hx.evo h2,h3'⟩
  ·refine pcase ?_
   show onC (sval gl fr x) _
   rw[hc]
   show onT tt src _
   unfold onT
   rw[hl]
   show match look tt d with|some ti=>_|none=>False
   rw[hl2]
   exact q3
 | call c =>
  obtain ⟨callee,args,ats⟩:=c
  cases callee with
  | value f =>
   obtain ⟨cf,hcf,q1⟩:=onC_ok h
   clear h
   have plain:∀ (g:Nat) (vs:List V),svals gl fr args.toList=some vs→a.eval f=.func (.func g) #[] #[]→(rCall P gl w0.fx g vs fr L n k kp∨fcall P gl g vs args.toList fr L n k)→Oper.wp P ⟨dst,.call ⟨.value f,args,ats⟩,ty,pos,after,guard⟩ a w K Q:=by
    intro g vs hvs e1 h
    have he:(execOp a.eval ⟨dst,.call ⟨.value f,args,ats⟩,ty,pos,after,guard⟩).run P w=(callFunc g (args.toList.map a.eval).toArray).run P w:=by
     unfold execOp
     simp only[resolve,e1,Deferred.ofValue,Sem.run_bind,Sem.run_pure,Result.andThen_ok,invoke,Array.empty_append,Array.append_empty]
     congr 2
     apply Array.ext'
     simp
    rcases h with h|h
    ·exact call g _ (args.toList.map a.eval) ⟨.value f,args,ats⟩ h (hx.svals hvs) rfl he
    ·obtain ⟨fr',L',q3,hx'⟩:=frzAll_ok h hx
     split at q3
     ·rename_i vs' hvs'
      unfold Oper.wp
      rw[he]
      rcases pcall_ok q3 hx' (hx'.svals hvs') with ⟨hB,hC⟩|⟨v,w',h1,h2⟩
      ·rw[hB.enters,Oper.upon_enter]
       refine hC.mono fun e w' hret=>?_
       obtain ⟨v,x,adr',fr',L',n',rfl,h1,h2,h3⟩:=hret
       exact hk x w' ⟨v,fr',L',n',adr',h1,h2,h3⟩
      ·rw[h1,Oper.upon_value]
       obtain ⟨v',x,adr',fr',L',n',e1,h1,h2,h3⟩:=h2
       cases e1
       exact hk _ w' ⟨v',fr',L',n',adr',h1,h2,h3⟩
     ·exact q3.elim
   split at q1
   ·rename_i vs hvs
    have hden:=hx.svals hvs
    have hf:=hx.sval hcf
    split at q1
    ·rename_i g
     obtain ⟨xs,e1,e2⟩:=hf
     rw[All2.nil_iff] at e2;subst e2
     exact plain g vs hvs e1 q1
    ·rename_i g cs _
     obtain ⟨xs,e1,e2⟩:=hf
     refine call g _ (args.toList.map a.eval++xs) ⟨.value f,args,ats⟩ q1 (All2.app hden (caps_den e2)) rfl ?_
     unfold execOp
     simp only[resolve,e1,Deferred.ofValue,Sem.run_bind,Sem.run_pure,Result.andThen_ok,invoke,Array.empty_append]
     congr 2
     apply Array.ext'
     simp
    ·rename_i g
     exact plain g vs hvs (DenD.v_inv hf) q1
    ·exact q1.elim
   ·exact q1.elim
  | builtin b =>
   cases b with
   | append =>
    simp only[xOp] at h
    split at h
    ·rename_i x y t t'
     obtain ⟨cx,hcx,q1⟩:=onC_ok h
     obtain ⟨cy,hcy,q2⟩:=onC_ok q1
     obtain ⟨ti,hl,q3⟩:=onT_ok q2
     clear h q1 q2
     split at q3
     ·rename_i e g1 g2 hel
      obtain ⟨te,hle,h⟩:=onT_ok q3
      clear q3
      have g1:=Nat.eq_of_beq_eq_true g1
      subst g1
      obtain ⟨v',w',h1,h2⟩:=rAppend_ok (ty:=ty) (kd3 (hT t ti hl) g2 hel) (hT e te hle) h hx (hx.sval hcx) (hx.sval hcy)
      have h1':(Builtin.append_ { toList:=[t,t] } ty #[a.eval x,a.eval y]).run P w=.ok v' w':=h1
      unfold Oper.wp
      have:(execOp a.eval ⟨dst,.call ⟨.builtin .append,⟨[x,y]⟩,⟨[t,t]⟩⟩,ty,pos,after,guard⟩).run P w=.ok (.value v') w':=by
       simp[execOp,resolve,invoke,builtin,h1']
      rw[this,Oper.upon_value]
      exact hk _ _ h2
     ·rename_i e _ g2 hel
      obtain ⟨tj,hlj,q4⟩:=onT_ok q3
      obtain ⟨te,hle,q5⟩:=onT_ok q4
      obtain ⟨g3,h⟩:=onB_ok q5
      clear q3 q4 q5
      obtain ⟨v',w',h1,h2⟩:=rAppendS_ok (ty:=ty) (kd3 (hT t ti hl) g2 hel) (kd2 (hT t' tj hlj) g3) (hT e te hle) h hx (hx.sval hcx) (hx.sval hcy)
      have h1':(Builtin.append_ { toList:=[t,t'] } ty #[a.eval x,a.eval y]).run P w=.ok v' w':=h1
      unfold Oper.wp
      have:(execOp a.eval ⟨dst,.call ⟨.builtin .append,⟨[x,y]⟩,⟨[t,t']⟩⟩,ty,pos,after,guard⟩).run P w=.ok (.value v') w':=by
       simp[execOp,resolve,invoke,builtin,h1']
      rw[this,Oper.upon_value]
      exact hk _ _ h2
     ·exact q3.elim
    ·exact h.elim
   | _=>exact pcase h
  | invoke r m=>exact pcase h
 | panic x =>
  obtain ⟨c,hc,h⟩:=onC_ok h
  obtain ⟨hi,h⟩:=onB_ok h
  have hd:=hx.sval hc
  obtain ⟨t,u,e1⟩:=isIf_ok hi hd
  unfold Oper.wp
  have:(execOp a.eval ⟨dst,.panic x,ty,pos,after,guard⟩).run P w=.halt (.panic (a.eval x)) w:=by
   simp[execOp,Instr.panic,e1,goPanic]
  rw[this,Oper.upon_panic]
  exact hp c fr L n adr _ w h hx hd
 | _=>exact pcase h
end
end Go.EYtdpigpahfiachaaGreatDoor
end
section
namespace Go.EYtdpigpahfiachaaGreatDoor
open Go Go.RowKit
def dstAt (ops:List Oper) (j:Nat):Option Nat:=(nth ops j).bind (·.dst)
def guardOut (b want:Bool):Bool:=match b,want with
 | true,true=>true
 | false,false=>true
 | _,_=>false
def onGuard (ops:List Oper) (g:Option (Nat×Bool)) (fr:List (Nat×V)) (K:Bool→List (Nat×V)→Prop):Prop :=
 match g with
 | none=>K true fr
 | some (j,want)=>match dstAt ops j with
  | some d=>match look fr d with
   | some (.c (.d (.v (.bool b))))=>K (guardOut b want) fr
   | some (.c (.d (.v (.tuple ⟨[]⟩))))=>K false fr
   | some (.c (.d (.b p _)))=>Fork p (K (guardOut true want) ((d,.c (.d (.v (.bool true))))::fr)) (K (guardOut false want) ((d,.c (.d (.v (.bool false))))::fr))
   | _=>False
  | none=>False
def FrLe (fr fr':List (Nat×V)):Prop:=∀ t s,look fr' t=some s→∃ s0,look fr t=some s0∧∀ (adr:Env) (M:Nat→Prop) (w:World) (x:Value),DenV adr M w s0 x→DenV adr M w s x
theorem FrLe.refl (fr:List (Nat×V)):FrLe fr fr:=fun _ s h=>⟨s,h,fun _ _ _ _ h=>h⟩
def GuardIs (ops:Array Oper) (o:Oper) (fr:List (Nat×V)) (run:Bool):Prop :=
 match o.guard with
 | none=>run=true
 | some (j,want)=>∃ d s,(ops[j]?).bind (·.dst)=some d∧look fr d=some s∧∀ (adr:Env) (M:Nat→Prop) (w:World) (x:Value),DenV adr M w s x→((match x with|.bool b=>some b|_=>none)==some want)=run
theorem guardOut_eq (b want:Bool):((some b:Option Bool)==some want)=guardOut b want:=by cases b <;> cases want <;> rfl
theorem onGuard_ok {ops:Array Oper} {o:Oper} {fr:List (Nat×V)} {K:Bool→List (Nat×V)→Prop} (h:onGuard ops.toList o.guard fr K):∃ run fr',K run fr'∧GuardIs ops o fr run∧FrLe fr fr':=by
 unfold onGuard at h
 unfold GuardIs
 split at h
 ·rename_i hg;exact ⟨true,fr,h,rfl,.refl fr⟩
 ·rename_i j want hg
  split at h
  ·rename_i d hd
   have hd':(ops[j]?).bind (·.dst)=some d:=by
    have:=hd
    unfold dstAt at this
    rw[nth_eq,Array.getElem?_toList] at this
    exact this
   split at h
   ·rename_i b hb
    exact ⟨_,fr,h,⟨d,_,hd',hb,fun adr M w x hx=>by obtain rfl:=DenD.v_inv hx;exact guardOut_eq b want⟩,.refl fr⟩
   ·rename_i hb
    exact ⟨_,fr,h,⟨d,_,hd',hb,fun adr M w x hx=>by obtain rfl:=DenD.v_inv hx;rfl⟩,.refl fr⟩
   ·rename_i p i hb
    have le:∀ b:Bool,(∀ (adr:Env) (M:Nat→Prop) (w:World) (x:Value),DenV adr M w (.c (.d (.b p i))) x→x=.bool b)→FrLe fr ((d,.c (.d (.v (.bool b))))::fr):=fun b hx t s hl=>by
     rw[look_cons] at hl
     by_cases e:d=t
     ·rw[if_pos e] at hl;cases hl
      exact ⟨_,by rw[← e];exact hb,fun adr M w x hd=>by rw[hx adr M w x hd];exact DenD.v _⟩
     ·rw[if_neg e] at hl
      exact ⟨s,hl,fun _ _ _ _ h=>h⟩
    by_cases hp:p
    ·have hx:∀ (adr:Env) (M:Nat→Prop) (w:World) (x:Value),DenV adr M w (.c (.d (.b p i))) x→x=.bool true:=fun adr M w x hd=>by rw[DenD.b_inv hd,decide_eq_true hp]
     exact ⟨_,_,h.1 hp,⟨d,_,hd',hb,fun adr M w x hd=>by rw[hx adr M w x hd];exact guardOut_eq true want⟩,le true hx⟩
    ·have hx:∀ (adr:Env) (M:Nat→Prop) (w:World) (x:Value),DenV adr M w (.c (.d (.b p i))) x→x=.bool false:=fun adr M w x hd=>by rw[DenD.b_inv hd,decide_eq_false hp]
     exact ⟨_,_,h.2 hp,⟨d,_,hd',hb,fun adr M w x hd=>by rw[hx adr M w x hd];exact guardOut_eq false want⟩,le false hx⟩
   ·exact h.elim
  ·exact h.elim
theorem GuardIs.wanted {ops:Array Oper} {o:Oper} {fr:List (Nat×V)} {run:Bool} (h:GuardIs ops o fr run) {adr:Env} {M:Nat→Prop} {w:World} {a:Act} (hf:∀ t s,t ∈ o.looksAt ops→look fr t=some s→DenV adr M w s (a.tmps.getD t undef)) :
 Region.wanted o (yielded ops a.tmps)=run:=by
 unfold GuardIs at h
 unfold Region.wanted
 split at h
 ·rename_i hg;rw[hg];exact h.symm
 ·rename_i j want hg
  rw[hg]
  show (yielded ops a.tmps j==some want)=run
  obtain ⟨d,s,hd,hs,hx⟩:=h
  have hl:d ∈ o.looksAt ops:=by
   unfold Oper.looksAt
   rw[hg]
   simp only[hd,Option.toList_some]
   exact List.mem_append_right _ (by simp)
  have:=hx adr M w _ (hf d s hl hs)
  have hy:yielded ops a.tmps j=(match a.tmps.getD d undef with|.bool b=>some b|_=>none):=by
   unfold yielded
   rw[hd]
   simp only[Option.bind_some]
   rw[Array.getD_eq_getD_getElem?]
   cases ht:a.tmps[d]? with
   | none=>rfl
   | some u=>simp only[Option.getD_some];cases u <;> rfl
  rw[hy]
  exact this
theorem FrOk.le {adr:Env} {M:Nat→Prop} {w:World} {fr fr':List (Nat×V)} {a:Act} (h:FrOk adr M w fr a) (hl:FrLe fr fr'):FrOk adr M w fr' a:=fun t s hs=>by
 obtain ⟨s0,h1,h2⟩:=hl t s hs
 exact h2 _ _ _ _ (h t s0 h1)
theorem Ok.le {gl:List (Nat×List D)} {M0 S0:Nat→Prop} {w0:Base} {N:Nat} {adr:Env} {fr fr':List (Nat×V)} {L:List (Nat×Blk)} {n:Nat} {a:Act} {w:World} (h:Ok gl M0 S0 w0 N adr fr L n a w) (hl:FrLe fr fr') :
 Ok gl M0 S0 w0 N adr fr' L n a w:=⟨h.size,h.defers,h.fr.le hl,h.wok,h.glob,h.base,h.new,h.same⟩
abbrev undV:V:=.c (.d (.v undef))
def vcOps (P:Program) (gl:List (Nat×List D)) (tt:List (Nat×TI)) (fx:List Nat) (N:Nat) (all l:List Oper):List (Nat×V)→List (Nat×Blk)→Nat→SK→(C→SK)→Prop :=
 List.rec (motive:=fun _=>List (Nat×V)→List (Nat×Blk)→Nat→SK→(C→SK)→Prop) (fun fr L n k _=>k fr L n)
  (fun o _ ih fr L n k kp=>onB (dstB N o.dst) (onGuard all o.guard fr fun run fr1=>match run with
  | true=>xOp P gl tt fx o.op fr1 L n (fun s fr' L' n'=>putK o.dst s fr' fun f=>ih f L' n' k kp) kp
  | false=>putK o.dst undV fr1 fun f=>ih f L n k kp)) l
section
variable {P:Program} {gl:List (Nat×List D)} {tt:List (Nat×TI)} {M0 S0:Nat→Prop} {w0:Base} {N:Nat}
def PanOk (gl:List (Nat×List D)) (M0 S0:Nat→Prop) (w0:Base) (N:Nat) (kp:C→SK) (Q:Exit→Act→World→Prop):Prop :=
 ∀ c fr L n adr x a w,kp c fr L n→Ok gl M0 S0 w0 N adr fr L n a w→DenC adr (Mut M0 adr L) w c x→Q (.panic [{ v:=x,recovered:=false }]) a w
theorem vcOps_ok (hT:Fits P tt) {ops:Array Oper} {Q:Exit→Act→World→Prop} {k:SK} {kp:C→SK} (hQ:∀ fr L n adr a w,k fr L n→Ok gl M0 S0 w0 N adr fr L n a w→Q .normal a w) (hp:PanOk gl M0 S0 w0 N kp Q) :
 ∀ (l:List Oper) (fr:List (Nat×V)) (L:List (Nat×Blk)) (n:Nat) (adr:Env) (a:Act) (w:World),vcOps P gl tt w0.fx N ops.toList l fr L n k kp→Ok gl M0 S0 w0 N adr fr L n a w→wpList P ops Q l a w
 | [],fr,L,n,adr,a,w,h,hx=>hQ _ _ _ _ _ _ h hx
 | o::r,fr,L,n,adr,a,w,h,hx=>by
  obtain ⟨hd,h1⟩:=onB_ok (show onB (dstB N o.dst) _ from h)
  obtain ⟨run,fr1,h2,hg,hle⟩:=onGuard_ok h1
  have hw:=hg.wanted (adr:=adr) (M:=Mut M0 adr L) (w:=w) (a:=a) (fun t s _ hl=>hx.fr t s hl)
  have hx1:=hx.le hle
  unfold wpList
  rw[hw]
  cases run with
  | true =>
   simp only[if_true]
   refine .inl (xOp_ok hT h2 hx1 ?_ ?_)
   ·rintro v w' ⟨s,fr',L',n',adr',h3,h4,h5⟩
    rw[putK_eq] at h3
    exact vcOps_ok hT hQ hp r _ _ _ adr' _ _ h3 (h4.put hd h5)
   ·intro c fr' L' n' adr' x w' h3 h4 h5
    exact hp c fr' L' n' adr' x a w' h3 h4 h5
  | false =>
   simp only[Bool.false_eq_true,if_false]
   rw[putK_eq] at h2
   exact vcOps_ok hT hQ hp r _ _ _ adr _ w h2 (hx1.put hd (DenD.v _))
end
def qcall (P:Program) (gl:List (Nat×List D)) (g:Nat) (vs:List V) (L:List (Nat×Blk)) (K:V→Prop):Prop :=
 lendVs L vs fun ds ks=>∃ r,FnP P gl g ds r∧match ks with
  | []=>fV (vD r) K
  | _=>onB (flatD r) (fV (vD r) K)
def qOp (P:Program) (gl:List (Nat×List D)) (tt:List (Nat×TI)) (op:Op) (fr:List (Nat×V)) (L:List (Nat×Blk)) (K:V→Prop):Prop :=
 match op with
 | .buildSlice t len ps=>onT tt t fun ti=>match Nat.beq ti.kd 3,ti.el with
  | true,some e=>onT tt e fun te=>match svals gl fr (ps.toList.map (·.2)) with
   | some vs=>match rowsV vs with
    | some rs=>onB (Nat.blt 0 te.size) (onB (denseB 0 ps.toList) (onB (Nat.beq vs.length len) (onB (Nat.blt 0 len) (onB (Nat.ble (len * te.size) 16777216) (onB (eachLen te.size rs) (K (.c (.d (.lst te.size rs)))))))))
    | none=>False
   | none=>False
  | _,_=>False
 | .convert s d x=>onC (sval gl fr x) fun c=>onT tt s fun ts=>onT tt d fun td=>match Nat.beq td.kd 3,td.el,c with
  | true,some e,.d (.str l)=>onT tt e fun te=>onB (Nat.beq ts.kd 2) (onB (match te.ik with|some k=>ikeq k .u8|none=>false) (l.length≤maxLen∧K (.c (.d (.lst 1 (l.map u8D))))))
  | _,_,_=>rConv L ts td (elTI tt ts) c K
 | .call c=>match c.callee with
  | .value f=>onC (sval gl fr f) fun cf=>match svals gl fr c.args.toList with
   | some vs=>match cf with
    | .fn g []=>qcall P gl g vs L K
    | .d (.v (.func (.func g) ⟨[]⟩ ⟨[]⟩))=>qcall P gl g vs L K
    | _=>False
   | none=>False
  | _=>pOp tt (sval gl fr) L op K
 | op=>pOp tt (sval gl fr) L op K
def Quiet (P:Program) (gl:List (Nat×List D)) (fr:List (Nat×V)) (L:List (Nat×Blk)) (o:Oper) (s:V):Prop :=
 ∀ (M0:Nat→Prop) (adr:Env) (n:Nat) (w:World) (a:Act) (K:Act→World→Prop) (Q:Exit→Act→World→Prop),WOk M0 adr L n w→Glob gl (Mut M0 adr L) w→
  (∀ x ∈ o.op.operands.toList,∀ s,sval gl fr x=some s→DenV adr (Mut M0 adr L) w s (a.eval x))→
  (∀ v w',Evo (fun _=>False) w w'→DenV adr (Mut M0 adr L) w' s v→K (a.put o.dst v) w')→o.wp P a w K Q
theorem rows_new {M:Nat→Prop} {w:World} {z b cap e:Nat} {rs:List (List D)} {cur:Array Value} {f:Nat×Nat} (hc:w.heap[b]?=some (Obj.cells cur e f)) (hd:DenL M w rs.flatten (cur.toList.take (rs.length * z))) (hz:∀ r ∈ rs,r.length=z) (hl:rs.length≤cap) (hm:cap≤maxLen) (hM:¬ M b) :
 DenD M w (.lst z rs) (.slice (some ⟨b,0,none⟩) rs.length cap):=by
 have hg:∀ i j d,get2 rs i j=some d→∃ x,cur.toList[i * z+j]?=some x∧DenD M w d x:=fun i j d hd'=>by
  obtain ⟨h1,h2⟩:=get2_lt hz hd'
  rw[← get2_flat hz h2] at hd'
  obtain ⟨x,hx1,hx2⟩:=All2.get hd hd'
  rw[List.getElem?_take] at hx1
  split at hx1
  ·exact ⟨x,hx1,hx2⟩
  ·cases hx1
 refine DenD.lst z rs b 0 cap (fun i j=>cur.toList.getD (i * z+j) undef) (Array.getElem?_eq_some_iff.1 hc).1 hM hl hm hz (fun i j d hd=>?_) (fun i j d hd=>?_)
 ·obtain ⟨x,hx1,hx2⟩:=hg i j d hd
  simp only[World.cell?,hc]
  rw[Nat.zero_add]
  simp only[List.getD,hx1,Option.getD_some]
  simpa using hx1
 ·obtain ⟨x,hx1,hx2⟩:=hg i j d hd
  simp only[List.getD,hx1,Option.getD_some]
  exact hx2
section
variable {P:Program} {gl:List (Nat×List D)} {tt:List (Nat×TI)} {fr:List (Nat×V)} {L:List (Nat×Blk)}
theorem svals_den {adr:Env} {M:Nat→Prop} {w:World} {ρ:Operand→Value}:∀ {ys:List Operand} {l:List V},svals gl fr ys=some l→(∀ x ∈ ys,∀ s,sval gl fr x=some s→DenV adr M w s (ρ x))→All2 (DenV adr M w) l (ys.map ρ)
 | [],l,hl,_=>by simp only[svals,Option.some.injEq] at hl;subst hl;trivial
 | y::r,l,hl,hd=>by
  simp only[svals] at hl
  split at hl
  ·rename_i s l' hs hr
   cases hl
   exact ⟨hd y (by simp) s hs,svals_den hr (fun x hx=>hd x (by simp[hx]))⟩
  ·cases hl
theorem qcall_ok {g:Nat} {vs:List V} {K:V→Prop} (h:qcall P gl g vs L K):∃ s,K s∧∀ (M0:Nat→Prop) (adr:Env) (n:Nat) (w:World) (xs:List Value),WOk M0 adr L n w→Glob gl (Mut M0 adr L) w→All2 (DenV adr (Mut M0 adr L) w) vs xs→
 Does P g xs.toArray w fun e w'=>Evo (fun _=>False) w w'∧∃ x,e=.returned x∧DenV adr (Mut M0 adr L) w' s x:=by
 obtain ⟨ds,ks,⟨r,hF,hr⟩,hl⟩:=lendVs_ok h
 have key:∀ (hk:(ks=[]∨flatD r=true)) (M0:Nat→Prop) (adr:Env) (n:Nat) (w:World) (xs:List Value),WOk M0 adr L n w→Glob gl (Mut M0 adr L) w→All2 (DenV adr (Mut M0 adr L) w) vs xs→
  Does P g xs.toArray w fun e w'=>Evo (fun _=>False) w w'∧∃ x,e=.returned x∧DenV adr (Mut M0 adr L) w' (vD r) x:=by
  intro hk M0 adr n w xs hw hg hd
  let M':Nat→Prop:=fun b=>Mut M0 adr L b∧¬ ∃ k ∈ ks,∃ m,adr k=some (some b,m)
  have hM':∀ b,b<w.heap.size→M' b→Mut M0 adr L b:=fun b _ hb=>hb.1
  have hsp:Spares adr ks M':=fun k hk b m ha hb=>hb.2 ⟨k,hk,m,ha⟩
  refine (hF w M' xs (fun b hb=>hw.mutLt hb.1) (hg.less hM') (hl M0 adr n w xs M' hw hd hM' hsp)).mono ?_
  rintro e w' ⟨hE,x,rfl,hv⟩
  refine ⟨hE,x,rfl,?_⟩
  rcases hk with rfl|hf
  ·exact vD_den (hv.less fun b _ hb=>⟨hb,fun ⟨k,hk,_⟩=>by simp at hk⟩)
  ·exact vD_den (flatD_ok hf hv)
 split at hr
 ·rw[fV_eq] at hr;exact ⟨_,hr,key (.inl rfl)⟩
 ·obtain ⟨hf,hr⟩:=onB_ok hr
  rw[fV_eq] at hr;exact ⟨_,hr,key (.inr hf)⟩
theorem qOp_ok (hT:Fits P tt) {o:Oper} {K:V→Prop} (h:qOp P gl tt o.op fr L K):∃ s,K s∧Quiet P gl fr L o s:=by
 obtain ⟨dst,op,ty,pos,after,guard⟩:=o
 have pcase:pOp tt (sval gl fr) L op K→∃ s,K s∧Quiet P gl fr L ⟨dst,op,ty,pos,after,guard⟩ s:=by
  intro h
  obtain ⟨s,hK,hg⟩:=pOp_ok (gl:=gl) hT (o:=⟨dst,op,ty,pos,after,guard⟩) h
  refine ⟨s,hK,fun M0 adr n w a K' Q hw hgl hx hk=>?_⟩
  obtain ⟨v,h1,h2⟩:=hg M0 adr L n w a.eval (fun _ _ h=>h) hw hgl hx
  unfold Oper.wp
  rw[h1,Oper.upon_value]
  exact hk v w (Evo.refl _ _) h2
 have call:∀ (g:Nat) (vs:List V) (f:Operand) (args:Array Operand) (ats:Array TypeId),qcall P gl g vs L K→svals gl fr args.toList=some vs→op=.call ⟨.value f,args,ats⟩→(∀ (adr:Env) (M:Nat→Prop) (w:World) (x:Value) (s:V),sval gl fr f=some s→DenV adr M w s x→x=.func (.func g) #[] #[])→(∃ s,sval gl fr f=some s)→∃ s,K s∧Quiet P gl fr L ⟨dst,op,ty,pos,after,guard⟩ s:=by
  intro g vs f args ats hc hvs hop hf ⟨sf,hsf⟩
  subst hop
  obtain ⟨s,hK,hD⟩:=qcall_ok hc
  refine ⟨s,hK,fun M0 adr n w a K' Q hw hgl hx hk=>?_⟩
  have hden:All2 (DenV adr (Mut M0 adr L) w) vs (args.toList.map a.eval):=svals_den hvs (fun x hx' s hs=>hx x (by simp[Op.operands,Call.operands];exact .inr (by simpa using hx')) s hs)
  have e1:a.eval f=.func (.func g) #[] #[]:=hf adr _ w _ sf hsf (hx f (by simp[Op.operands,Call.operands]) sf hsf)
  have he:(execOp a.eval ⟨dst,.call ⟨.value f,args,ats⟩,ty,pos,after,guard⟩).run P w=(callFunc g (args.toList.map a.eval).toArray).run P w:=by
   unfold execOp
   simp only[resolve,e1,Deferred.ofValue,Sem.run_bind,Sem.run_pure,Result.andThen_ok,invoke,Array.empty_append,Array.append_empty]
   congr 2
   apply Array.ext'
   simp
  unfold Oper.wp
  rw[he]
  rcases hD M0 adr n w _ hw hgl hden with ⟨hB,hC⟩|⟨v,w',h1,h2⟩
  ·rw[hB.enters,Oper.upon_enter]
   refine hC.mono fun e w' hret=>?_
   obtain ⟨hE,x,rfl,hv⟩:=hret
   exact hk x w' hE hv
  ·obtain ⟨hE,x,e2,hv⟩:=h2
   cases e2
   rw[h1,Oper.upon_value]
   exact hk _ w' hE hv
 cases op with
 | buildSlice t len ps =>
  obtain ⟨ti,hl,q1⟩:=onT_ok h
  clear h
  split at q1
  ·rename_i e h3 hel
   obtain ⟨te,hle,q2⟩:=onT_ok q1
   clear q1
   split at q2
   ·rename_i vs hvs
    split at q2
    ·rename_i rs hrs
     obtain ⟨g1,q3⟩:=onB_ok q2
     obtain ⟨g2,q4⟩:=onB_ok q3
     obtain ⟨g3,q5⟩:=onB_ok q4
     obtain ⟨g4,q6⟩:=onB_ok q5
     obtain ⟨g5,q7⟩:=onB_ok q6
     obtain ⟨g6,hK⟩:=onB_ok q7
     clear q2 q3 q4 q5 q6 q7
     refine ⟨_,hK,fun M0 adr n w a K' Q hw hgl hx hk=>?_⟩
     have g1:0<te.size:=by simp[Nat.blt,Nat.ble_eq] at g1;omega
     have g3:=Nat.eq_of_beq_eq_true g3
     have g4:0<len:=by simp[Nat.blt,Nat.ble_eq] at g4;omega
     have g5:=Nat.le_of_ble_eq_true g5
     have hden:All2 (DenV adr (Mut M0 adr L) w) vs ((ps.toList.map (·.2)).map a.eval):=svals_den hvs (fun x hx' s hs=>hx x (by simpa[Op.operands] using hx') s hs)
     have hlv:=All2.length hden
     have hrow:=rowsV_ok hrs hden
     have hrl:=All2.length hrow
     have hz:=eachLen_ok g6
     obtain ⟨cur,h1,h2⟩:=run_buildSlice_rows w (kd3 (hT t ti hl) h3 hel) (hT e te hle) g1 hrow hz (by rw[← hlv,g3];exact g5) (by rw[← hlv,g3];exact g4)
     have hmax:rs.length≤maxLen:=by
      rw[hrl,← hlv,g3]
      have:len≤len * te.size:=Nat.le_mul_of_pos_right _ g1
      simp only[maxLen];omega
     have hcl:=All2.length h2
     rw[flatten_length hz] at hcl
     have hparts:(ps.map fun (i,x)=>(i,a.eval x))=((((ps.toList.map (·.2)).map a.eval).zipIdx 0).map fun x=>(x.2,x.1)).toArray:=by
      apply Array.ext'
      have:=dense_ok a.eval g2
      rw[List.map_map]
      simp only[Function.comp_def]
      rw[← this]
      simp
     have hlen:((ps.toList.map (·.2)).map a.eval).length=len:=by rw[← hlv,g3]
     rw[hlen] at h1
     unfold Oper.wp execOp
     simp only[hparts,Sem.run_bind,h1,Result.andThen_ok,Sem.run_pure]
     rw[Oper.upon_value]
     have hrlen:rs.length=len:=by rw[hrl,← hlv,g3]
     have hE:=Evo.alloc (fun _=>False) w (Obj.cells cur.toArray e (0,0))
     refine hk _ _ hE ?_
     have:=rows_new (M:=Mut M0 adr L) (z:=te.size) (cap:=rs.length) (heap_alloc_new w (Obj.cells cur.toArray e (0,0))) (DenL.evo hE (fun _ _ h=>h.elim) (fun _ _ h=>h) (by simp only;rw[List.take_of_length_le (by omega)];exact h2)) hz (Nat.le_refl _) hmax (fun hm=>Nat.lt_irrefl _ (hw.mutLt hm))
     rw[hrlen] at this
     exact this
    ·exact q2.elim
   ·exact q2.elim
  ·exact q1.elim
 | convert src d x =>
  obtain ⟨c,hc,q1⟩:=onC_ok h
  obtain ⟨ts,hl,q2⟩:=onT_ok q1
  obtain ⟨td,hl2,q3⟩:=onT_ok q2
  clear h q1 q2
  split at q3
  ·rename_i e l h3 hel
   obtain ⟨te,hle,q4⟩:=onT_ok q3
   obtain ⟨g1,q5⟩:=onB_ok q4
   obtain ⟨g2,hlen,hK⟩:=onB_ok q5
   clear q3 q4 q5
   refine ⟨_,hK,fun M0 adr n w a K' Q hw hgl hx hk=>?_⟩
   have hstr:P.underlying src=some .string:=by
    obtain ⟨d,hd,_,_,_,_,_,hkd⟩:=(hT src ts hl).desc
    rw[Nat.eq_of_beq_eq_true g1] at hkd
    cases d <;> simp[kdOf] at hkd;exact hd
   have hu8:P.underlying e=some (.int .u8):=by
    obtain ⟨de,ee,_,_,_,ike,_⟩:=(hT e te hle).desc
    cases hk:te.ik with
    | none=>rw[hk] at g2;cases g2
    | some k =>
     rw[hk] at g2 ike
     obtain rfl:=ikeq_ok g2
     cases de <;> simp only[ikOf,reduceCtorEq,Option.some.injEq] at ike
     subst ike;exact ee
   have ex:=DenD.str_inv (hx x (by simp[Op.operands]) _ hc)
   obtain ⟨v,w',h1,h2,h3'⟩:=run_str_bytes w hstr (kd3 (hT d td hl2) h3 hel) hu8 (M:=Mut M0 adr L) (fun b hb=>hw.mutLt hb) l hlen
   unfold Oper.wp execOp
   simp only[ex,Sem.run_bind,h1,Result.andThen_ok,Sem.run_pure]
   rw[Oper.upon_value]
   exact hk _ _ h2 h3'
  ·refine pcase ?_
   show onC (sval gl fr x) _
   rw[hc]
   show onT tt src _
   unfold onT
   rw[hl]
   show match look tt d with|some ti=>_|none=>False
   rw[hl2]
   exact q3
 | call c =>
  obtain ⟨callee,args,ats⟩:=c
  cases callee with
  | value f =>
   obtain ⟨cf,hcf,q1⟩:=onC_ok h
   clear h
   split at q1
   ·rename_i vs hvs
    split at q1
    ·rename_i g
     refine call g vs f args ats q1 hvs rfl (fun adr M w x s hs hd=>?_) ⟨_,hcf⟩
     rw[hcf] at hs;cases hs
     obtain ⟨xs,rfl,h2⟩:=hd
     rw[All2.nil_iff] at h2;subst h2;rfl
    ·rename_i g
     refine call g vs f args ats q1 hvs rfl (fun adr M w x s hs hd=>?_) ⟨_,hcf⟩
     rw[hcf] at hs;cases hs
     exact DenD.v_inv hd
    ·exact q1.elim
   ·exact q1.elim
  | builtin b=>exact pcase h
  | invoke r m=>exact pcase h
 | _=>exact pcase h
end
end Go.EYtdpigpahfiachaaGreatDoor
end
section
namespace Go.EYtdpigpahfiachaaGreatDoor
open Go Go.RowKit
def upOf (ms:List Nat) (es:List Edge):Nat:=es.foldl (fun m e=>bif Region.binds .any e then m ||| (1 <<< e.on) ||| ms.getD e.on 0 else m) 0
def masksGo:List Oper→List Nat→List Nat
 | [],ms=>ms
 | o::r,ms=>masksGo r (ms++[upOf ms o.after.toList])
def barB (ms:List Nat) (j q:Nat):Bool:=(ms.getD j 0==2 ^ j - 1) && (List.range q).all fun k=>decide (k≤j) || (ms.getD k 0).testBit j
def barsOf (l:List Oper):List Bool:=(List.range l.length).map fun j=>barB (masksGo l []) j l.length
def regB (ops:Array Oper) (bs:List Bool):Bool :=
 let ms:=masksGo ops.toList []
 (bs.length==ops.size) &&
 ((List.range ops.size).all fun j=>match ops[j]? with
  | some o=>(ms.getD j 0==upOf ms o.after.toList) && (o.after.toList.all fun e=>!Region.binds .any e || decide (e.on<j)) && (!bs.getD j false || barB ms j ops.size) &&
   (bs.getD j false || (List.range ops.size).all fun i=>bs.getD i false || i==j || match ops[i]? with
    | some o'=>match o'.dst with
     | some t=>(o.dst != some t) && (!(o.looksAt ops).contains t || (if i<j then (ms.getD j 0).testBit i else (ms.getD i 0).testBit j))
     | none=>true
    | none=>true)
  | none=>true)
structure RegOk (ops:Array Oper) (bs:List Bool) (ms:List Nat):Prop where
 len:bs.length=ops.size
 mask:∀ j o,ops[j]?=some o→ms.getD j 0=upOf ms o.after.toList
 low:∀ j o,ops[j]?=some o→∀ e ∈ o.after,Region.binds .any e=true→e.on<j
 bar:∀ j,j<ops.size→bs.getD j false=true→ms.getD j 0=2 ^ j - 1∧∀ k,j<k→k<ops.size→(ms.getD k 0).testBit j=true
 ssa:∀ i j o o' t,ops[j]?=some o→ops[i]?=some o'→bs.getD i false=false→bs.getD j false=false→i≠j→o'.dst=some t→o.dst≠some t
 readL:∀ i j o o' t,ops[j]?=some o→ops[i]?=some o'→bs.getD i false=false→bs.getD j false=false→o'.dst=some t→t ∈ o.looksAt ops→i<j→(ms.getD j 0).testBit i=true
 readR:∀ i j o o' t,ops[j]?=some o→ops[i]?=some o'→bs.getD i false=false→bs.getD j false=false→o'.dst=some t→t ∈ o.looksAt ops→j<i→(ms.getD i 0).testBit j=true
theorem regB_ok {ops:Array Oper} {bs:List Bool} (h:regB ops bs=true):RegOk ops bs (masksGo ops.toList []):=by
 unfold regB at h
 simp only[Bool.and_eq_true,beq_iff_eq,List.all_eq_true,List.mem_range] at h
 obtain ⟨h1,h2⟩:=h
 have lt:∀ {j:Nat} {o:Oper},ops[j]?=some o→j<ops.size:=fun h=>(Array.getElem?_eq_some_iff.1 h).1
 have all:∀ j o,ops[j]?=some o→_:=fun j o ho=>by
  have:=h2 j (lt ho)
  rw[ho] at this
  simp only[Bool.and_eq_true,Bool.or_eq_true,beq_iff_eq,List.all_eq_true,List.mem_range,Bool.not_eq_true',decide_eq_true_eq] at this
  exact this
 have pair:∀ i j o o' t,ops[j]?=some o→ops[i]?=some o'→bs.getD i false=false→bs.getD j false=false→i≠j→o'.dst=some t→
  o.dst≠some t∧(t ∈ o.looksAt ops→if i<j then ((masksGo ops.toList []).getD j 0).testBit i=true else ((masksGo ops.toList []).getD i 0).testBit j=true):=by
  intro i j o o' t hj hi bi bj hij ht
  obtain ⟨⟨⟨_,_⟩,_⟩,h5⟩:=all j o hj
  rcases h5 with h5|h5
  ·rw[bj] at h5;cases h5
  ·rcases h5 i (lt hi) with (h6|h6)|h6
   ·rw[bi] at h6;cases h6
   ·exact absurd h6 hij
   ·rw[hi] at h6
    simp only[ht,Bool.and_eq_true,bne_iff_ne,Bool.or_eq_true,Bool.not_eq_true'] at h6
    refine ⟨h6.1,fun hm=>?_⟩
    rcases h6.2 with h7|h7
    ·rw[List.contains_eq_mem,decide_eq_false_iff_not] at h7
     exact absurd hm h7
    ·split at h7
     ·rename_i hlt;rw[if_pos hlt];exact h7
     ·rename_i hlt;rw[if_neg hlt];exact h7
 refine ⟨h1,fun j o ho=>(all j o ho).1.1.1,fun j o ho e he hb=>?_,fun j hj hb=>?_,fun i j o o' t hj hi bi bj hij ht=>(pair i j o o' t hj hi bi bj hij ht).1,fun i j o o' t hj hi bi bj ht hm hlt=>?_,fun i j o o' t hj hi bi bj ht hm hlt=>?_⟩
 ·rcases (all j o ho).1.1.2 e (by simpa using he) with h3|h3
  ·rw[hb] at h3;cases h3
  ·exact h3
 ·obtain ⟨o,ho⟩:∃ o,ops[j]?=some o:=⟨_,Array.getElem?_eq_getElem hj⟩
  rcases (all j o ho).1.2 with h3|h3
  ·rw[hb] at h3;cases h3
  ·unfold barB at h3
   simp only[Bool.and_eq_true,beq_iff_eq,List.all_eq_true,List.mem_range,Bool.or_eq_true,decide_eq_true_eq] at h3
   refine ⟨h3.1,fun k hk hks=>?_⟩
   rcases h3.2 k hks with h4|h4
   ·omega
   ·exact h4
 ·have:=(pair i j o o' t hj hi bi bj (by omega) ht).2 hm
  rwa [if_pos hlt] at this
 ·have:=(pair i j o o' t hj hi bi bj (by omega) ht).2 hm
  rwa [if_neg (by omega)] at this
theorem upOf_bit {ms:List Nat} {i:Nat}:∀ {es:List Edge} {m:Nat},(es.foldl (fun m e=>bif Region.binds .any e then m ||| (1 <<< e.on) ||| ms.getD e.on 0 else m) m).testBit i=true→
 m.testBit i=true∨∃ e ∈ es,Region.binds .any e=true∧(e.on=i∨(ms.getD e.on 0).testBit i=true)
 | [],m,h=>.inl h
 | e::es,m,h=>by
  simp only[List.foldl_cons] at h
  rcases upOf_bit h with h1|⟨e',he',h2⟩
  ·cases hb:Region.binds .any e with
   | false=>rw[hb] at h1;exact .inl h1
   | true =>
    rw[hb] at h1
    simp only[cond_true,Nat.testBit_or,Bool.or_eq_true] at h1
    rcases h1 with (h1|h1)|h1
    ·exact .inl h1
    ·refine .inr ⟨e,by simp,hb,.inl ?_⟩
     rw[Nat.one_shiftLeft,Nat.testBit_two_pow] at h1
     simpa using h1
    ·exact .inr ⟨e,by simp,hb,.inr h1⟩
  ·exact .inr ⟨e',by simp[he'],h2⟩
def Shut (ops:Array Oper) (E:Nat→Prop):Prop:=∀ i o,ops[i]?=some o→E i→∀ e ∈ o.after,Region.binds .any e=true→E e.on
theorem mask_ok {ops:Array Oper} {bs:List Bool} {ms:List Nat} (hR:RegOk ops bs ms) {E:Nat→Prop} (hE:Shut ops E):∀ (j:Nat) (o:Oper),ops[j]?=some o→(∀ e ∈ o.after,Region.binds .any e=true→E e.on)→∀ i,(ms.getD j 0).testBit i=true→E i:=by
 intro j
 induction j using Nat.strongRecOn with
 | _ j ih =>
  intro o ho ha i hi
  rw[hR.mask j o ho] at hi
  rcases upOf_bit hi with h1|⟨e,he,hb,h1|h1⟩
  ·simp at h1
  ·rw[← h1];exact ha e (by simpa using he) hb
  ·have he':e ∈ o.after:=by simpa using he
   have hlt:=hR.low j o ho e he' hb
   have hj:j<ops.size:=(Array.getElem?_eq_some_iff.1 ho).1
   have ho':ops[e.on]?=some ops[e.on]:=Array.getElem?_eq_getElem (by omega)
   exact ih e.on hlt _ ho' (hE _ _ ho' (ha e he' hb)) i h1
theorem mask_in {ops:Array Oper} {bs:List Bool} {ms:List Nat} (hR:RegOk ops bs ms) {E:Nat→Prop} (hE:Shut ops E) {j:Nat} {o:Oper} (ho:ops[j]?=some o) (hj:E j) {i:Nat} (hi:(ms.getD j 0).testBit i=true):E i :=
 mask_ok hR hE j o ho (hE j o ho hj) i hi
def vcAny (P:Program) (gl:List (Nat×List D)) (tt:List (Nat×TI)) (fx:List Nat) (N:Nat) (all l:List Oper):List Bool→List (Nat×V)→List (Nat×Blk)→Nat→SK→(C→SK)→Prop :=
 List.rec (motive:=fun _=>List Bool→List (Nat×V)→List (Nat×Blk)→Nat→SK→(C→SK)→Prop) (fun _ fr L n k _=>k fr L n)
  (fun o _ ih bs fr L n k kp=>match bs with
  | b::bs=>onB (dstB N o.dst) (onGuard all o.guard fr fun run fr1=>match run with
   | true=>(match b with
    | true=>xOp P gl tt fx o.op fr1 L n (fun s fr' L' n'=>putK o.dst s fr' fun f=>ih bs f L' n' k kp) kp
    | false=>qOp P gl tt o.op fr1 L fun s=>putK o.dst s fr1 fun f=>ih bs f L n k kp)
   | false=>putK o.dst undV fr1 fun f=>ih bs f L n k kp)
  | []=>False) l
def Step (P:Program) (gl:List (Nat×List D)) (N:Nat) (L:List (Nat×Blk)) (ops:Array Oper) (j:Nat) (fr fr':List (Nat×V)) (s:V):Prop :=
 ∃ o run fr1,ops[j]?=some o∧dstB N o.dst=true∧GuardIs ops o fr run∧FrLe fr fr1∧fr'=putF fr1 o.dst s∧(run=true→Quiet P gl fr1 L o s)∧(run=false→s=undV)
section
variable {P:Program} {gl:List (Nat×List D)} {tt:List (Nat×TI)} {M0 S0:Nat→Prop} {w0:Base} {N:Nat} {adr:Env} {L:List (Nat×Blk)} {n:Nat}
theorem seg_of_vc {fx:List Nat} (hT:Fits P tt) {ops:Array Oper} {k:SK} {kp:C→SK}:∀ (l:List Oper) (rest:List Oper) (bs:List Bool) (m:Nat) (fr:List (Nat×V)),(∀ i o,l[i]?=some o→ops[m+i]?=some o)→
 vcAny P gl tt fx N ops.toList (l++rest) (List.replicate l.length false++bs) fr L n k kp→
 ∃ (frs:Nat→List (Nat×V)) (res:Nat→V),frs m=fr∧(∀ j,m≤j→j<m+l.length→Step P gl N L ops j (frs j) (frs (j+1)) (res j))∧vcAny P gl tt fx N ops.toList rest bs (frs (m+l.length)) L n k kp
 | [],rest,bs,m,fr,_,h=>⟨fun _=>fr,fun _=>undV,rfl,fun j h1 h2=>by simp at h2;omega,h⟩
 | o::l,rest,bs,m,fr,ho,h=>by
  obtain ⟨hd,h1⟩:=onB_ok (show onB (dstB N o.dst) _ from h)
  obtain ⟨run,fr1,h2,hg,hle⟩:=onGuard_ok h1
  have ho':∀ i o',l[i]?=some o'→ops[m+1+i]?=some o':=fun i o' hi=>by
   have:=ho (i+1) o' (by simpa using hi)
   rwa [show m+1+i=m+(i+1) by omega]
  have fin:∀ s,(run=true→Quiet P gl fr1 L o s)→(run=false→s=undV)→vcAny P gl tt fx N ops.toList (l++rest) (List.replicate l.length false++bs) (putF fr1 o.dst s) L n k kp→
   ∃ (frs:Nat→List (Nat×V)) (res:Nat→V),frs m=fr∧(∀ j,m≤j→j<m+(o::l).length→Step P gl N L ops j (frs j) (frs (j+1)) (res j))∧vcAny P gl tt fx N ops.toList rest bs (frs (m+(o::l).length)) L n k kp:=by
   intro s q1 q2 hv
   obtain ⟨frs,res,e1,e2,e3⟩:=seg_of_vc hT l rest bs (m+1) _ ho' hv
   refine ⟨fun j=>if j=m then fr else frs j,fun j=>if j=m then s else res j,by simp,fun j h3 h4=>?_,?_⟩
   ·by_cases hjm:j=m
    ·subst hjm
     dsimp only
     rw[if_pos rfl,if_neg (by omega),if_pos rfl]
     refine ⟨o,run,fr1,ho 0 o rfl,hd,hg,hle,?_,q1,q2⟩
     exact e1
    ·dsimp only
     rw[if_neg hjm,if_neg (by omega),if_neg hjm]
     exact e2 j (by omega) (by simp at h4;omega)
   ·dsimp only
    rw[if_neg (by simp)]
    rw[show m+(o::l).length=m+1+l.length by simp;omega]
    exact e3
  cases run with
  | true =>
   obtain ⟨s,hK,hq⟩:=qOp_ok hT h2
   rw[putK_eq] at hK
   exact fin s (fun _=>hq) (fun h=>by cases h) hK
  | false =>
   rw[putK_eq] at h2
   exact fin undV (fun h=>by cases h) (fun _=>rfl) h2
structure InSeg (gl:List (Nat×List D)) (M0 S0:Nat→Prop) (w0:Base) (N:Nat) (adr:Env) (L:List (Nat×Blk)) (n:Nat) (ops:Array Oper) (m m2:Nat) (frs:Nat→List (Nat×V)) (E:Nat→Prop) (a:Act) (w:World):Prop where
 lo:∀ i,i<m→E i
 hi:∀ i,E i→i<m2
 shut:Shut ops E
 ok:Ok gl M0 S0 w0 N adr [] L n a w
 fr:∀ j,m≤j→j≤m2→∀ t s,look (frs j) t=some s→(∀ i o,m≤i→i<m2→ops[i]?=some o→o.dst=some t→(E i↔i<j))→DenV adr (Mut M0 adr L) w s (a.tmps.getD t undef)
variable {ops:Array Oper} {bs:List Bool} {ms:List Nat} {m m2:Nat} {frs:Nat→List (Nat×V)} {res:Nat→V}
theorem seg_trace (hR:RegOk ops bs ms) (hbs:∀ j,m≤j→j<m2→bs.getD j false=false) (hS:∀ j,m≤j→j<m2→Step P gl N L ops j (frs j) (frs (j+1)) (res j)) {j0 t:Nat} {o:Oper} (h0:m≤j0) (h1:j0<m2) (ho:ops[j0]?=some o) (ht:o.dst=some t) :
 ∀ j,j0<j→j≤m2→∀ s,look (frs j) t=some s→∀ (adr:Env) (M:Nat→Prop) (w:World) (x:Value),DenV adr M w (res j0) x→DenV adr M w s x:=by
 intro j
 induction j with
 | zero=>intro h;omega
 | succ j ih =>
  intro hj hj2 s hs adr M w x hx
  obtain ⟨o',run,fr1,e1,e2,e3,e4,e5,_,_⟩:=hS j (by omega) (by omega)
  rw[e5] at hs
  by_cases hjj:j=j0
  ·subst hjj
   rw[ho] at e1;cases e1
   rw[ht] at hs
   simp only[putF] at hs
   rw[look_cons,if_pos rfl] at hs
   cases hs;exact hx
  ·have hne:o'.dst≠some t:=hR.ssa j0 j o' o t e1 ho (hbs j0 h0 h1) (hbs j (by omega) (by omega)) (by omega) ht
   have hs':look fr1 t=some s:=by
    cases hd:o'.dst with
    | none=>rw[hd] at hs;exact hs
    | some d =>
     rw[hd] at hs
     simp only[putF] at hs
     rw[look_cons,if_neg (fun h=>hne (by rw[hd,h]))] at hs
     exact hs
   obtain ⟨s0,g1,g2⟩:=e4 t s hs'
   exact g2 adr M w x (ih (by omega) (by omega) s0 g1 adr M w x hx)
theorem InSeg.look (hR:RegOk ops bs ms) (hbs:∀ j,m≤j→j<m2→bs.getD j false=false) {E:Nat→Prop} {a:Act} {w:World} (h:InSeg gl M0 S0 w0 N adr L n ops m m2 frs E a w) {j:Nat} {o:Oper} (hj:m≤j) (hj2:j<m2) (ho:ops[j]?=some o) (hE:¬ E j)
 (ha:∀ e ∈ o.after,Region.binds .any e=true→E e.on) {t:Nat} {s:V} (ht:t ∈ o.looksAt ops) (hs:EYtdpigpahfiachaaGreatDoor.look (frs j) t=some s):DenV adr (Mut M0 adr L) w s (a.tmps.getD t undef):=by
 refine h.fr j hj (by omega) t s hs fun i o' h1 h2 hi hd=>?_
 constructor
 ·intro hEi
  rcases Nat.lt_trichotomy i j with h3|h3|h3
  ·exact h3
  ·subst h3;exact absurd hEi hE
  ·exact absurd (mask_in hR h.shut hi hEi (hR.readR i j o o' t ho hi (hbs i h1 h2) (hbs j hj hj2) hd ht h3)) hE
 ·intro hlt
  exact mask_ok hR h.shut j o ho ha i (hR.readL i j o o' t ho hi (hbs i h1 h2) (hbs j hj hj2) hd ht hlt)
theorem InSeg.step (hR:RegOk ops bs ms) (hbs:∀ j,m≤j→j<m2→bs.getD j false=false) (hS:∀ j,m≤j→j<m2→Step P gl N L ops j (frs j) (frs (j+1)) (res j)) {E:Nat→Prop} {a:Act} {w:World} (h:InSeg gl M0 S0 w0 N adr L n ops m m2 frs E a w) {j:Nat} {o:Oper}
 (hj:m≤j) (hj2:j<m2) (ho:ops[j]?=some o) (hE:¬ E j) (ha:∀ e ∈ o.after,Region.binds .any e=true→E e.on) {Q:Exit→Act→World→Prop} {K:Act→World→Prop}
 (hK:∀ a' w',InSeg gl M0 S0 w0 N adr L n ops m m2 frs (fun i=>E i∨i=j) a' w'→K a' w'):wpOp P ops Q j K a w:=by
 obtain ⟨o',run,fr1,e1,e2,e3,e4,e5,e6,e7⟩:=hS j hj hj2
 rw[ho] at e1;cases e1
 have hw:=e3.wanted (adr:=adr) (M:=Mut M0 adr L) (w:=w) (a:=a) (fun t s ht hl=>h.look hR hbs hj hj2 ho hE ha ht hl)
 have fin:∀ v w',Evo (fun _=>False) w w'→DenV adr (Mut M0 adr L) w' (res j) v→K (a.put o.dst v) w':=by
  intro v w' hEv hv
  refine hK _ _ ⟨fun i hi=>.inl (h.lo i hi),fun i hi=>?_,fun i oi hoi hi e he hb=>?_,?_,fun jj h1 h2 t s hs hc=>?_⟩
  ·rcases hi with hi|hi
   ·exact h.hi i hi
   ·omega
  ·rcases hi with hi|hi
   ·exact .inl (h.shut i oi hoi hi e he hb)
   ·subst hi;rw[ho] at hoi;cases hoi;exact .inl (ha e he hb)
  ·have h1:=h.ok.evo hEv
   exact ⟨by rw[put_size];exact h1.size,by rw[put_defers];exact h1.defers,(fun t s hl=>by cases hl),h1.wok,h1.glob,h1.base,h1.new,h1.same⟩
  ·by_cases hd:o.dst=some t
   ·have h3:j<jj:=(hc j o hj hj2 ho hd).1 (.inr rfl)
    have hN:a.tmps.size=N:=h.ok.size
    have:=seg_trace hR hbs hS hj hj2 ho hd jj h3 h2 s hs adr (Mut M0 adr L) w' v hv
    rw[hd] at e2 ⊢
    rw[tmps_put hN e2,if_pos rfl]
    exact this
   ·have:(a.put o.dst v).tmps.getD t undef=a.tmps.getD t undef:=by
     cases hq:o.dst with
     | none=>rfl
     | some d =>
      rw[hq] at e2 hd
      rw[tmps_put h.ok.size e2,if_neg (fun h=>hd (by rw[h]))]
    rw[this]
    refine (h.fr jj h1 h2 t s hs fun i oi g1 g2 g3 g4=>?_).evo hEv (fun _ _ h=>h.elim) (fun _ _ h=>h) (fun _ _ _ h=>h)
    rw[← hc i oi g1 g2 g3 g4]
    constructor
    ·exact .inl
    ·rintro (h5|h5)
     ·exact h5
     ·subst h5;rw[ho] at g3;cases g3;exact absurd g4 hd
 unfold wpOp
 simp only[ho,hw]
 cases run with
 | true =>
  simp only[if_true]
  refine .inl (e6 rfl M0 adr n w a K Q h.ok.wok h.ok.glob (fun x hx s hs=>?_) fin)
  cases x with
  | tmp t =>
   obtain ⟨s0,g1,g2⟩:=e4 t s hs
   refine g2 _ _ _ _ (h.look hR hbs hj hj2 ho hE ha ?_ g1)
   unfold Oper.looksAt
   exact List.mem_append_left _ (List.mem_filterMap.2 ⟨.tmp t,hx,rfl⟩)
  | const v=>exact sval_ok (gl:=gl) (fr:=[]) (fun t s h=>by cases h) h.ok.glob hs
  | global g=>exact sval_ok (gl:=gl) (fr:=[]) (fun t s h=>by cases h) h.ok.glob hs
  | func f=>exact sval_ok (gl:=gl) (fr:=[]) (fun t s h=>by cases h) h.ok.glob hs
 | false =>
  simp only[Bool.false_eq_true,if_false]
  exact fin _ _ (Evo.refl _ _) (by rw[e7 rfl];exact DenD.v _)
end
end Go.EYtdpigpahfiachaaGreatDoor
end
section
namespace Go.EYtdpigpahfiachaaGreatDoor
open Go Go.RowKit
def Lst (listed:Array Bool) (i:Nat):Prop:=listed.getD i false=true
theorem lst_set {listed:Array Bool} {j:Nat} (hj:j<listed.size):(fun i=>Lst listed i∨i=j)=Lst (listed.setIfInBounds j true):=by
 funext i
 apply propext
 unfold Lst
 simp only[Array.getD_eq_getD_getElem?,Array.getElem?_setIfInBounds]
 by_cases h:j=i
 ·subst h;simp[hj]
 ·have h2:¬ i=j:=fun e=>h e.symm
  simp[h,h2]
theorem ready_iff {ops:Array Oper} {listed:Array Bool} (hs:listed.size=ops.size) {j:Nat}:j ∈ Region.ready .any ops listed↔¬ Lst listed j∧∃ o,ops[j]?=some o∧∀ e ∈ o.after,Region.binds .any e=true→Lst listed e.on:=by
 rw[mem_ready]
 constructor
 ·rintro ⟨h1,o,ho,h2⟩
  have hj:j<listed.size:=by rw[hs];exact (Array.getElem?_eq_some_iff.1 ho).1
  refine ⟨fun h=>?_,o,ho,h2⟩
  unfold Lst at h
  rw[Array.getD_eq_getD_getElem?,Array.getElem?_eq_getElem hj] at h h1
  simp only[Option.getD_some] at h h1
  rw[h] at h1;cases h1
 ·rintro ⟨h1,o,ho,h2⟩
  have hj:j<listed.size:=by rw[hs];exact (Array.getElem?_eq_some_iff.1 ho).1
  refine ⟨?_,o,ho,h2⟩
  unfold Lst at h1
  rw[Array.getD_eq_getD_getElem?,Array.getElem?_eq_getElem hj] at h1 ⊢
  simp only[Option.getD_some] at h1 ⊢
  cases hq:listed[j] with
  | false=>rfl
  | true=>exact absurd hq h1
theorem filter_less {p p':Nat→Bool} (h:∀ i,p' i=true→p i=true):∀ {l:List Nat} {j:Nat},j ∈ l→p j=true→p' j=false→(l.filter p').length<(l.filter p).length
 | [],j,hj,_,_=>by simp at hj
 | x::l,j,hj,h1,h2=>by
  have le:∀ l:List Nat,(l.filter p').length≤(l.filter p).length:=fun l=>by
   induction l with
   | nil=>simp
   | cons y l ih =>
    simp only[List.filter_cons]
    cases hy:p' y with
    | true=>rw[h y hy];simp;exact ih
    | false=>cases p y <;> simp <;> omega
  rcases List.mem_cons.1 hj with rfl|hj
  ·simp only[List.filter_cons,h1,h2,if_true,Bool.false_eq_true,if_false,List.length_cons]
   have:=le l;omega
  ·have:=filter_less h hj h1 h2
   simp only[List.filter_cons]
   cases hy:p' x with
   | true=>rw[h x hy];simp;exact this
   | false=>cases p x <;> simp <;> omega
theorem leading:∀ bs:List Bool,∃ q,q≤bs.length∧bs=List.replicate q false++bs.drop q∧(bs.drop q=[]∨∃ bs',bs.drop q=true::bs')
 | []=>⟨0,by simp,by simp,.inl rfl⟩
 | true::bs=>⟨0,by simp,by simp,.inr ⟨bs,rfl⟩⟩
 | false::bs=>by
  obtain ⟨q,h1,h2,h3⟩:=leading bs
  exact ⟨q+1,by simp;omega,by simp only[List.replicate_succ,List.cons_append,List.drop_succ_cons];rw[← h2],by simpa using h3⟩
section
variable {P:Program} {gl:List (Nat×List D)} {tt:List (Nat×TI)} {M0 S0:Nat→Prop} {w0:Base} {N:Nat} {adr:Env} {L:List (Nat×Blk)} {n:Nat} {ops:Array Oper} {bs0:List Bool} {ms:List Nat} {m m2:Nat} {frs:Nat→List (Nat×V)} {res:Nat→V} {Q:Exit→Act→World→Prop}
def left (listed:Array Bool) (m m2:Nat):Nat:=((List.range' m (m2 - m)).filter fun i=>!listed.getD i false).length
theorem seg_any (hR:RegOk ops bs0 ms) (hbs:∀ j,m≤j→j<m2→bs0.getD j false=false) (hbar:m2=ops.size∨bs0.getD m2 false=true) (hm2:m2≤ops.size) (hS:∀ j,m≤j→j<m2→Step P gl N L ops j (frs j) (frs (j+1)) (res j))
 (hle:m≤m2) (cont:∀ (listed:Array Bool) (a:Act) (w:World) (fuel:Nat),listed.size=ops.size→(∀ i,Lst listed i↔i<m2)→Ok gl M0 S0 w0 N adr (frs m2) L n a w→ops.size - m2≤fuel→wpAny P .any ops Q fuel listed a w) :
 ∀ (fuel:Nat) (listed:Array Bool) (a:Act) (w:World),InSeg gl M0 S0 w0 N adr L n ops m m2 frs (Lst listed) a w→listed.size=ops.size→left listed m m2+(ops.size - m2)≤fuel→wpAny P .any ops Q fuel listed a w:=by
 intro fuel
 induction fuel with
 | zero =>
  intro listed a w h hs hu
  have hall:∀ i,i<m2→Lst listed i:=by
   intro i hi
   rcases Nat.lt_or_ge i m with h1|h1
   ·exact h.lo i h1
   ·have h0:left listed m m2=0:=by omega
    unfold left at h0
    have h2:=List.eq_nil_of_length_eq_zero h0
    rw[List.filter_eq_nil_iff] at h2
    have h3:=h2 i (by rw[List.mem_range'_1];omega)
    unfold Lst
    simpa using h3
  exact cont listed a w 0 hs (fun i=>⟨h.hi i,hall i⟩) ⟨h.ok.size,h.ok.defers,fun t s hl=>h.fr m2 hle (Nat.le_refl _) t s hl (fun i o _ h2 _ _=>⟨fun _=>h2,fun _=>hall i h2⟩),h.ok.wok,h.ok.glob,h.ok.base,h.ok.new,h.ok.same⟩ (by omega)
 | succ fuel ih =>
  intro listed a w h hs hu
  by_cases hall:∀ i,i<m2→Lst listed i
  ·exact cont listed a w (fuel+1) hs (fun i=>⟨h.hi i,hall i⟩) ⟨h.ok.size,h.ok.defers,fun t s hl=>h.fr m2 hle (Nat.le_refl _) t s hl (fun i o _ h2 _ _=>⟨fun _=>h2,fun _=>hall i h2⟩),h.ok.wok,h.ok.glob,h.ok.base,h.ok.new,h.ok.same⟩ (by omega)
  ·obtain ⟨j0,hj0⟩:∃ j,j<m2∧¬ Lst listed j:=by
    refine Classical.byContradiction fun hc=>hall fun i hi=>Classical.byContradiction fun hni=>hc ⟨i,hi,hni⟩
   obtain ⟨j,⟨hj,hnj⟩,hmin⟩:=exists_least (p:=fun j=>j<m2∧¬ Lst listed j) ⟨j0,hj0⟩
   have hjs:j<ops.size:=by omega
   have hoj:ops[j]?=some ops[j]:=Array.getElem?_eq_getElem hjs
   have hrj:j ∈ Region.ready .any ops listed:=(ready_iff hs).2 ⟨hnj,_,hoj,fun e he hb=>by
    have hlt:=hR.low j _ hoj e he hb
    rcases Classical.em (Lst listed e.on) with h1|h1
    ·exact h1
    ·have:=hmin e.on ⟨by omega,h1⟩;omega⟩
   refine ⟨fun hr=>by rw[hr] at hrj;simp at hrj,fun i hi=>?_⟩
   obtain ⟨hni,o,ho,ha⟩:=(ready_iff hs).1 hi
   have his:i<ops.size:=(Array.getElem?_eq_some_iff.1 ho).1
   have h1:m≤i:=by
    rcases Nat.lt_or_ge i m with h1|h1
    ·exact absurd (h.lo i h1) hni
    ·exact h1
   have h2:i<m2:=by
    rcases Nat.lt_trichotomy i m2 with h2|h2|h2
    ·exact h2
    ·subst h2
     rcases hbar with hb|hb
     ·omega
     ·have hbm:=(hR.bar i his hb).1
      refine absurd (mask_ok hR h.shut i o ho ha j ?_) hnj
      rw[hbm,Nat.testBit_two_pow_sub_one];simpa using hj
    ·rcases hbar with hb|hb
     ·omega
     ·have hbm:=(hR.bar m2 (by omega) hb).2 i h2 his
      have:=h.hi m2 (mask_ok hR h.shut i o ho ha m2 hbm)
      omega
   refine h.step hR hbs hS h1 h2 ho hni ha fun a' w' hI=>?_
   rw[lst_set (by rw[hs];exact his)] at hI
   refine ih _ a' w' hI (by simpa using hs) ?_
   have:left (listed.setIfInBounds i true) m m2<left listed m m2:=by
    refine filter_less (fun x hx=>?_) (j:=i) (by rw[List.mem_range'_1];omega) (by simpa[Lst] using hni) ?_
    ·have hx':¬ Lst (listed.setIfInBounds i true) x:=by simpa[Lst] using hx
     rw[← lst_set (by rw[hs];exact his)] at hx'
     simp only[not_or] at hx'
     simpa[Lst] using hx'.1
    ·have:Lst (listed.setIfInBounds i true) i:=by rw[← lst_set (by rw[hs];exact his)];exact .inr rfl
     unfold Lst at this
     rw[this];rfl
   omega
theorem vcAny_ok (hT:Fits P tt) (hR:RegOk ops bs0 ms) {k:SK} {kp:C→SK} (hQ:∀ fr L n adr a w,k fr L n→Ok gl M0 S0 w0 N adr fr L n a w→Q .normal a w) (hp:PanOk gl M0 S0 w0 N kp Q) :
 ∀ (len:Nat) (l:List Oper) (bs:List Bool) (m:Nat) (fr:List (Nat×V)) (L:List (Nat×Blk)) (n:Nat) (adr:Env) (listed:Array Bool) (a:Act) (w:World) (fuel:Nat),l.length≤len→l=ops.toList.drop m→bs=bs0.drop m→m≤ops.size→listed.size=ops.size→(∀ i,Lst listed i↔i<m)→
  vcAny P gl tt w0.fx N ops.toList l bs fr L n k kp→Ok gl M0 S0 w0 N adr fr L n a w→ops.size - m≤fuel→wpAny P .any ops Q fuel listed a w:=by
 intro len
 induction len with
 | zero =>
  intro l bs m fr L n adr listed a w fuel hl hd _ hm hs hE h hx hf
  have hl0:l=[]:=List.eq_nil_of_length_eq_zero (by omega)
  subst hl0
  have hms:m=ops.size:=by
   have:=congrArg List.length hd
   simp at this;omega
  have hr:Region.ready .any ops listed=[]:=List.eq_nil_iff_forall_not_mem.2 fun j hj=>by
   obtain ⟨h1,o,ho,_⟩:=(ready_iff hs).1 hj
   have:j<ops.size:=(Array.getElem?_eq_some_iff.1 ho).1
   exact h1 ((hE j).2 (by omega))
  cases fuel with
  | zero=>exact ⟨hr,hQ _ _ _ _ _ _ h hx⟩
  | succ f=>exact ⟨fun _=>hQ _ _ _ _ _ _ h hx,by rw[hr];simp⟩
 | succ len ih =>
  intro l bs m fr L n adr listed a w fuel hl hd hb hm hs hE h hx hf
  cases l with
  | nil=>exact ih [] bs m fr L n adr listed a w fuel (by simp) hd hb hm hs hE h hx hf
  | cons o r =>
   have hms:m<ops.size:=by
    have:=congrArg List.length hd
    simp at this;omega
   have ho:ops[m]?=some o:=by
    have:=congrArg (·[0]?) hd
    simp at this
    exact this.symm
   have hlen:bs.length=(o::r).length:=by rw[hb,hd,List.length_drop,List.length_drop,hR.len,Array.length_toList]
   have hrd:r=ops.toList.drop (m+1):=by
    have:=congrArg List.tail hd
    simpa using this
   have hshut:Shut ops (Lst listed):=fun i oi hoi hi e he hbi=>(hE _).2 (by have:=hR.low i oi hoi e he hbi;have:=(hE i).1 hi;omega)
   cases bs with
   | nil=>simp at hlen
   | cons b bs' =>
    have hbm:bs0.getD m false=b:=by
     have:=congrArg (·[0]?) hb
     simp at this
     simp[List.getD,← this]
    have hbd:bs'=bs0.drop (m+1):=by
     have:=congrArg List.tail hb
     simpa using this
    cases b with
    | true =>
     obtain ⟨f,rfl⟩:∃ f,fuel=f+1:=⟨fuel - 1,by omega⟩
     have hset:∀ i,Lst (listed.setIfInBounds m true) i↔i<m+1:=fun i=>by
      rw[← lst_set (by rw[hs];exact hms)]
      show (Lst listed i∨i=m)↔i<m+1
      rw[hE];omega
     have hmr:m ∈ Region.ready .any ops listed:=(ready_iff hs).2 ⟨fun h=>by have:=(hE m).1 h;omega,o,ho,fun e he hbi=>(hE _).2 (hR.low m o ho e he hbi)⟩
     refine ⟨fun hr=>by rw[hr] at hmr;simp at hmr,fun i hi=>?_⟩
     obtain ⟨hni,oi,hoi,ha⟩:=(ready_iff hs).1 hi
     have his:i<ops.size:=(Array.getElem?_eq_some_iff.1 hoi).1
     obtain rfl:i=m:=by
      rcases Nat.lt_trichotomy i m with h1|h1|h1
      ·exact absurd ((hE i).2 h1) hni
      ·exact h1
      ·have:=(hE m).1 (mask_ok hR hshut i oi hoi ha m ((hR.bar m hms hbm).2 i h1 his));omega
     obtain ⟨hdst,h1⟩:=onB_ok (show onB (dstB N o.dst) _ from h)
     obtain ⟨run,fr1,h2,hg,hle⟩:=onGuard_ok h1
     have hw:=hg.wanted (adr:=adr) (M:=Mut M0 adr L) (w:=w) (a:=a) (fun t s _ hl=>hx.fr t s hl)
     have hx1:=hx.le hle
     unfold wpOp
     simp only[ho,hw]
     cases run with
     | true =>
      simp only[if_true]
      refine .inl (xOp_ok hT h2 hx1 ?_ ?_)
      ·rintro v w' ⟨s,fr',L',n',adr',h3,h4,h5⟩
       rw[putK_eq] at h3
       exact ih r bs' (i+1) _ _ _ adr' _ _ _ f (by simp at hl;omega) hrd hbd (by omega) (by simpa using hs) hset h3 (h4.put hdst h5) (by omega)
      ·intro c fr' L' n' adr' x w' h3 h4 h5
       exact hp c fr' L' n' adr' x a w' h3 h4 h5
     | false =>
      simp only[Bool.false_eq_true,if_false]
      rw[putK_eq] at h2
      exact ih r bs' (i+1) _ _ _ adr _ _ _ f (by simp at hl;omega) hrd hbd (by omega) (by simpa using hs) hset h2 (hx1.put hdst (DenD.v _)) (by omega)
    | false =>
     obtain ⟨q,hq1,hq2,hq3⟩:=leading (false::bs')
     have hqpos:0<q:=by
      rcases Nat.eq_zero_or_pos q with h0|h0
      ·subst h0
       rcases hq3 with h1|⟨x,h1⟩ <;> simp at h1
      ·exact h0
     have hql:q≤(o::r).length:=by rw[← hlen];exact hq1
     have hlt:((o::r).take q).length=q:=by rw[List.length_take];omega
     have hol:(o::r).length=ops.size - m:=by rw[hd];simp
     have hqs:m+q≤ops.size:=by omega
     have hbs:∀ j,m≤j→j<m+q→bs0.getD j false=false:=fun j h1 h2=>by
      have h3:(false::bs')[j - m]?=some false:=by
       rw[hq2,List.getElem?_append_left (by simp;omega),List.getElem?_replicate_of_lt (by omega)]
      rw[hb,List.getElem?_drop] at h3
      rw[show m+(j - m)=j by omega] at h3
      simp[List.getD,h3]
     have hbar:m+q=ops.size∨bs0.getD (m+q) false=true:=by
      rcases hq3 with h1|⟨bs'',h1⟩
      ·left
       have:=congrArg List.length h1
       simp only[List.length_drop,List.length_nil] at this
       omega
      ·right
       have:=congrArg (·[0]?) h1
       rw[hb,List.drop_drop] at this
       simp only[List.getElem?_drop,List.getElem?_cons_zero,Nat.add_zero] at this
       simp[List.getD,this]
     rw[hq2] at h
     have hspl:(o::r)=(o::r).take q++(o::r).drop q:=(List.take_append_drop q (o::r)).symm
     rw[hspl] at h
     have hrep:List.replicate q false=List.replicate ((o::r).take q).length false:=by rw[hlt]
     rw[hrep] at h
     obtain ⟨frs,res,e1,e2,e3⟩:=seg_of_vc hT ((o::r).take q) ((o::r).drop q) _ m fr (fun i o' hi=>by
      rw[List.getElem?_take] at hi
      split at hi
      ·rw[hd,List.getElem?_drop,Array.getElem?_toList] at hi;exact hi
      ·cases hi) h
     rw[hlt] at e2 e3
     refine seg_any hR hbs hbar hqs e2 (by omega) ?_ fuel listed a w ⟨fun i hi=>(hE i).2 hi,fun i hi=>by have:=(hE i).1 hi;omega,hshut,⟨hx.size,hx.defers,(fun t s hl=>by cases hl),hx.wok,hx.glob,hx.base,hx.new,hx.same⟩,fun j h1 h2 t s hs' hc=>?_⟩ hs ?_
     ·intro listed' a' w' fuel' hs' hE' hx' hf'
      refine ih ((o::r).drop q) ((false::bs').drop q) (m+q) _ L n adr listed' a' w' fuel' (by rw[List.length_drop];simp at hl ⊢;omega) (by rw[hd,List.drop_drop]) (by rw[hb,List.drop_drop]) hqs hs' hE' e3 hx' hf'
     ·-- at the start
      have hnone:∀ i oi,m≤i→i<m+q→ops[i]?=some oi→oi.dst=some t→¬ i<j:=fun i oi g1 g2 g3 g4 hij=>by
       have:=(hE i).1 ((hc i oi g1 g2 g3 g4).2 hij);omega
      -- no writer ahead of j: the slot is as at the start
      have back:∀ jj,m≤jj→jj≤j→∀ s,look (frs jj) t=some s→∃ s0,look fr t=some s0∧∀ (adr:Env) (M:Nat→Prop) (w:World) (x:Value),DenV adr M w s0 x→DenV adr M w s x:=by
       intro jj
       induction jj with
       | zero =>
        intro g1 _ s hs
        obtain rfl:m=0:=by omega
        rw[e1] at hs
        exact ⟨s,hs,fun _ _ _ _ h=>h⟩
       | succ jj ihj =>
        intro g1 g2 s hs
        by_cases hmj:m=jj+1
        ·rw[← hmj,e1] at hs
         exact ⟨s,hs,fun _ _ _ _ h=>h⟩
        ·obtain ⟨o',run,fr1,k1,k2,k3,k4,k5,_,_⟩:=e2 jj (by omega) (by omega)
         rw[k5] at hs
         have hs2:look fr1 t=some s:=by
          cases hdd:o'.dst with
          | none=>rw[hdd] at hs;exact hs
          | some d =>
           rw[hdd] at hs
           simp only[putF] at hs
           rw[look_cons,if_neg (fun h=>hnone jj o' (by omega) (by omega) k1 (by rw[hdd,h]) (by omega))] at hs
           exact hs
         obtain ⟨s1,k6,k7⟩:=k4 t s hs2
         obtain ⟨s0,k8,k9⟩:=ihj (by omega) (by omega) s1 k6
         exact ⟨s0,k8,fun adr M w x hx=>k7 adr M w x (k9 adr M w x hx)⟩
      obtain ⟨s0,g1,g2⟩:=back j h1 (Nat.le_refl _) s hs'
      exact g2 _ _ _ _ (hx.fr t s0 g1)
     ·have:left listed m (m+q)≤q:=by
       unfold left
       have:=List.length_filter_le (fun i=>!listed.getD i false) (List.range' m (m+q - m))
       simp at this ⊢;omega
      omega
theorem region_any_ok (hT:Fits P tt) (hm:P.follows .mixedOrders=true) {id:Nat} {bs:List Bool} (hB:regB ops bs=true) {k:SK} {kp:C→SK} (hQ:∀ fr L n adr a w,k fr L n→Ok gl M0 S0 w0 N adr fr L n a w→Q .normal a w) (hp:PanOk gl M0 S0 w0 N kp Q)
 {fr:List (Nat×V)} {a:Act} {w:World} (h:vcAny P gl tt w0.fx N ops.toList ops.toList bs fr L n k kp) (hx:Ok gl M0 S0 w0 N adr fr L n a w):(Code.region id ops true).wp P Q a w:=by
 refine wp_region_any hm (vcAny_ok hT (regB_ok hB) hQ hp _ ops.toList bs 0 fr L n adr _ a w.drew _ (Nat.le_refl _) (by simp) (by simp) (by omega) (by simp) (fun i=>?_) h hx.drew (by omega))
 unfold Lst
 simp only[Array.getD_eq_getD_getElem?,Array.getElem?_replicate]
 constructor
 ·intro h;split at h <;> simp at h
 ·intro h;omega
end
def loudOp (o:Oper):Bool:=match o.op with
 | .alloc _=>true
 | .box _ _=>true
 | .store _ _ _=>true
 | .makeSlice _ _ _=>true
 | _=>false
noncomputable def loudAny (l:List Oper):List Bool→Bool :=
 List.rec (motive:=fun _=>List Bool→Bool) (fun _=>false) (fun o _ ih bs=>match bs with
  | true::bs=>ih bs
  | false::bs=>(match loudOp o with|true=>true|false=>ih bs)
  | []=>false) l
noncomputable def nthB (l:List Bool):Nat→Bool :=
 List.rec (motive:=fun _=>Nat→Bool) (fun _=>false) (fun b _ ih i=>match i with
  | 0=>b
  | i+1=>ih i) l
noncomputable def setB (l:List Bool):Nat→List Bool :=
 List.rec (motive:=fun _=>Nat→List Bool) (fun _=>[]) (fun b r ih i=>match i with
  | 0=>true::r
  | i+1=>b::ih i) l
theorem nthB_eq:∀ (l:List Bool) (i:Nat),nthB l i=l.getD i false
 | [],i=>rfl
 | b::r,0=>rfl
 | b::r,i+1=>by show nthB r i=_;rw[nthB_eq r i];rfl
theorem setB_get:∀ (l:List Bool) (i j:Nat),i<l.length→((setB l i).getD j false=true↔(l.getD j false=true∨j=i))
 | [],i,j,h=>by simp at h
 | b::r,0,j,h=>by
  show (true::r).getD j false=true↔_
  cases j <;> simp
 | b::r,i+1,j,h=>by
  show (b::setB r i).getD j false=true↔_
  cases j with
  | zero=>simp
  | succ j =>
   have:=setB_get r i j (by simpa using h)
   simp only[List.getD_cons_succ] at this ⊢
   rw[this]
   constructor
   ·rintro (h|h)
    ·exact .inl h
    ·exact .inr (by omega)
   ·rintro (h|h)
    ·exact .inl h
    ·exact .inr (by omega)
theorem setB_len:∀ (l:List Bool) (i:Nat),(setB l i).length=l.length
 | [],i=>rfl
 | b::r,0=>rfl
 | b::r,i+1=>by show (b::setB r i).length=_;simp[setB_len r i]
noncomputable def mayB (done:List Bool) (es:List Edge):Bool :=
 List.rec (motive:=fun _=>Bool) true (fun e _ ih=>match Region.binds .any e with
  | true=>(match nthB done e.on with|true=>ih|false=>false)
  | false=>ih) es
theorem mayB_ok {done:List Bool}:∀ {es:List Edge},(∀ e ∈ es,Region.binds .any e=true→done.getD e.on false=true)→mayB done es=true
 | [],_=>rfl
 | e::es,h=>by
  have ih:=mayB_ok (done:=done) (es:=es) fun e' he'=>h e' (by simp[he'])
  show (match Region.binds .any e with
   | true=>(match nthB done e.on with|true=>mayB done es|false=>false)
   | false=>mayB done es)=true
  cases hb:Region.binds .any e with
  | false=>exact ih
  | true =>
   have:=h e (by simp) hb
   rw[nthB_eq,this]
   exact ih
structure Both (p q:Prop):Prop where
 l:p
 r:q
def eachB (done:List Bool) (l:List Oper):Nat→(Nat→Oper→Prop)→Prop :=
 List.rec (motive:=fun _=>Nat→(Nat→Oper→Prop)→Prop) (fun _ _=>True) (fun o _ ih i K=>match nthB done i with
  | true=>ih (i+1) K
  | false=>(match mayB done o.after.toList with
   | true=>Both (K i o) (ih (i+1) K)
   | false=>ih (i+1) K)) l
theorem eachB_ok {done:List Bool} {K:Nat→Oper→Prop}:∀ {l:List Oper} {i:Nat},eachB done l i K→∀ (j:Nat) (o:Oper),l[j]?=some o→¬ done.getD (i+j) false=true→(∀ e ∈ o.after,Region.binds .any e=true→done.getD e.on false=true)→K (i+j) o
 | [],i,_,j,o,hj,_,_=>by simp at hj
 | o'::r,i,h,j,o,hj,hn,ha=>by
  replace h:(match nthB done i with
   | true=>eachB done r (i+1) K
   | false=>(match mayB done o'.after.toList with
    | true=>Both (K i o') (eachB done r (i+1) K)
    | false=>eachB done r (i+1) K)):=h
  cases j with
  | zero =>
   simp only[List.getElem?_cons_zero,Option.some.injEq] at hj
   subst hj
   have h1:nthB done i=false:=by rw[nthB_eq];simpa using hn
   rw[h1,mayB_ok fun e he=>ha e (by simpa using he)] at h
   exact h.l
  | succ j =>
   have hr:eachB done r (i+1) K:=by
    revert h
    cases nthB done i with
    | true=>exact id
    | false =>
     cases mayB done o'.after.toList with
     | true=>exact fun h=>h.r
     | false=>exact id
   have:=eachB_ok hr j o (by simpa using hj) (by rwa [show i+1+j=i+(j+1) by omega]) ha
   rwa [show i+1+j=i+(j+1) by omega] at this
def lK (l:List Bool):(List Bool→Prop)→Prop :=
 List.rec (motive:=fun _=>(List Bool→Prop)→Prop) (fun K=>K []) (fun b _ ih K=>match b with
  | true=>ih fun r'=>K (true::r')
  | false=>ih fun r'=>K (false::r')) l
theorem lK_eq:∀ (l:List Bool) (K:List Bool→Prop),lK l K=K l
 | [],K=>rfl
 | true::r,K=>by show lK r (fun r'=>K (true::r'))=_;rw[lK_eq r]
 | false::r,K=>by show lK r (fun r'=>K (false::r'))=_;rw[lK_eq r]
noncomputable def allB (l:List Bool):Bool:=List.rec (motive:=fun _=>Bool) true (fun b _ ih=>match b with|true=>ih|false=>false) l
noncomputable def falses (l:List Oper):List Bool:=List.rec (motive:=fun _=>List Bool) [] (fun _ _ ih=>false::ih) l
def takeB (done:List Bool) (l:List Oper):List Bool→Nat→(Nat→Oper→Prop)→Prop→Prop :=
 List.rec (motive:=fun _=>List Bool→Nat→(Nat→Oper→Prop)→Prop→Prop) (fun _ _ _ N=>N) (fun o _ ih tk i K N=>match tk with
  | []=>N
  | false::tk=>ih tk (i+1) K N
  | true::tk=>(match nthB done i with
   | true=>ih tk (i+1) K N
   | false=>(match mayB done o.after.toList with
    | true=>K i o
    | false=>ih tk (i+1) K N))) l
theorem mayB_get {done:List Bool}:∀ {es:List Edge},mayB done es=true→∀ e ∈ es,Region.binds .any e=true→done.getD e.on false=true
 | [],_,e,he,_=>by simp at he
 | e'::es,h,e,he,hb=>by
  replace h:(match Region.binds .any e' with
   | true=>(match nthB done e'.on with|true=>mayB done es|false=>false)
   | false=>mayB done es)=true:=h
  have hr:mayB done es=true:=by
   revert h
   cases Region.binds .any e' with
   | false=>exact id
   | true =>
    cases nthB done e'.on with
    | true=>exact id
    | false=>exact fun h=>nomatch h
  rcases List.mem_cons.1 he with rfl|he
  ·rw[hb] at h
   cases hn:nthB done e.on with
   | true=>rwa [nthB_eq] at hn
   | false=>rw[hn] at h;exact nomatch h
  ·exact mayB_get hr e he hb
theorem takeB_ok {done:List Bool} {K:Nat→Oper→Prop} {Nn:Prop}:∀ {l:List Oper} {tk:List Bool} {i:Nat},takeB done l tk i K Nn→Nn∨∃ j o,l[j]?=some o∧tk.getD j false=true∧¬ done.getD (i+j) false=true∧(∀ e ∈ o.after,Region.binds .any e=true→done.getD e.on false=true)∧K (i+j) o
 | [],tk,i,h=>.inl h
 | o::r,[],i,h=>.inl h
 | o::r,b::tk,i,h=>by
  have up:takeB done r tk (i+1) K Nn→Nn∨∃ j o',(o::r)[j]?=some o'∧(b::tk).getD j false=true∧¬ done.getD (i+j) false=true∧(∀ e ∈ o'.after,Region.binds .any e=true→done.getD e.on false=true)∧K (i+j) o':=fun h=>by
   rcases takeB_ok h with h|⟨j,o',h1,h2,h3,h4,h5⟩
   ·exact .inl h
   ·rw[show i+1+j=i+(j+1) by omega] at h3 h5
    exact .inr ⟨j+1,o',by simpa using h1,by simpa using h2,h3,h4,h5⟩
  cases b with
  | false=>exact up h
  | true =>
   replace h:(match nthB done i with
    | true=>takeB done r tk (i+1) K Nn
    | false=>(match mayB done o.after.toList with
     | true=>K i o
     | false=>takeB done r tk (i+1) K Nn)):=h
   cases h1:nthB done i with
   | true=>rw[h1] at h;exact up h
   | false =>
    rw[h1] at h
    cases h2:mayB done o.after.toList with
    | false=>rw[h2] at h;exact up h
    | true =>
     rw[h2] at h
     rw[nthB_eq] at h1
     exact .inr ⟨0,o,rfl,rfl,by simpa using h1,fun e he=>mayB_get h2 e (by simpa using he),h⟩
noncomputable def lowB (l:List Oper):Nat→Bool :=
 List.rec (motive:=fun _=>Nat→Bool) (fun _=>true) (fun o _ ih i=>(o.after.toList.all fun e=>!Region.binds .any e || Nat.blt e.on i) && ih (i+1)) l
def pureOf (o:Oper):Bool:=match o.guard,o.op with
 | none,.move _=>true
 | none,.assign _=>true
 | none,.nilCheck _=>true
 | none,.fieldAddr _ _ _=>true
 | _,_=>false
def rNilP (c:C) (K:V→Prop):Prop :=
 match c with
 | .ptr k o=>K (.c (.ptr k o))
 | .elt z k i o=>K (.c (.elt z k i o))
 | .d (.imm l)=>K (.c (.d (.imm l)))
 | _=>False
def tOp (tt:List (Nat×TI)) (ev:Operand→Option V) (op:Op) (K:V→Prop):Prop:=match op with
 | .move x=>onS (ev x) K
 | .assign x=>onS (ev x) K
 | .nilCheck x=>onC (ev x) fun c=>rNilP c K
 | .fieldAddr t x f=>onC (ev x) fun c=>onT tt t fun ti=>rField ti f c K
 | _=>False
theorem rField_any {P:Program} {t:Nat} {ti:TI} (h:FitsOne P t ti) {f:Nat} {c:C} {K:V→Prop} (hr:rField ti f c K) :
 ∃ s,K s∧∀ (adr:Env) (M:Nat→Prop) (w:World) (x:Value),DenC adr M w c x→∃ v,(∀ w',(Instr.fieldAt t x f).run P w'=.ok v w')∧DenV adr M w s v:=by
 unfold rField at hr
 split at hr
 ·rename_i off sz hf
  rw[nth_eq] at hf
  split at hr
  ·refine ⟨_,hr,fun adr M w x hx=>?_⟩
   obtain ⟨b,m,h1,rfl⟩:=hx
   exact ⟨_,fun w'=>h.field hf _ _ w',b,m,h1,rfl⟩
  ·rename_i z k i o
   refine ⟨_,hr,fun adr M w x hx=>?_⟩
   obtain ⟨b,m,h1,rfl⟩:=hx
   exact ⟨_,fun w'=>h.field hf _ _ w',b,m,h1,by rw[Nat.add_assoc]⟩
  ·rename_i l
   refine ⟨_,hr,fun adr M w x hx=>?_⟩
   cases hx with
   | imm _ b o cs hb hM hcell hden =>
    refine ⟨_,fun w'=>h.field hf _ _ w',?_⟩
    refine DenD.imm (l.drop off) b (o+off) (fun j=>cs (off+j)) hb hM (fun j d hj=>?_) (fun j d hj=>?_)
    ·rw[List.getElem?_drop] at hj
     rw[Nat.add_assoc];exact hcell (off+j) d hj
    ·rw[List.getElem?_drop] at hj
     exact hden (off+j) d hj
  ·exact hr.elim
 ·exact hr.elim
theorem tOp_ok {P:Program} {tt:List (Nat×TI)} (hT:Fits P tt) {ops:Array Oper} {o:Oper} {ev:Operand→Option V} {K:V→Prop} (h:tOp tt ev o.op K) (hp:pureOf o=true) :
 ∃ s,K s∧∀ (adr:Env) (M:Nat→Prop) (w:World) (a:Act),(∀ x s,ev x=some s→DenV adr M w s (a.eval x))→∃ v,Yields P ops o v a∧DenV adr M w s v:=by
 obtain ⟨dst,op,ty,pos,after,guard⟩:=o
 cases guard with
 | some g=>cases op <;> cases hp
 | none =>
  cases op with
  | move x =>
   obtain ⟨s,hs,hK⟩:=onS_ok h
   exact ⟨s,hK,fun adr M w a hx=>⟨a.eval x,.inl ⟨by simp[Region.wanted],fun w'=>rfl⟩,hx x s hs⟩⟩
  | assign x =>
   obtain ⟨s,hs,hK⟩:=onS_ok h
   exact ⟨s,hK,fun adr M w a hx=>⟨a.eval x,.inl ⟨by simp[Region.wanted],fun w'=>rfl⟩,hx x s hs⟩⟩
  | nilCheck x =>
   obtain ⟨c,hc,h1⟩:=onC_ok h
   replace h1:rNilP c K:=h1
   unfold rNilP at h1
   split at h1
   ·refine ⟨_,h1,fun adr M w a hx=>⟨a.eval x,.inl ⟨by simp[Region.wanted],fun w'=>?_⟩,hx x _ hc⟩⟩
    obtain ⟨b,m,_,e⟩:=hx x _ hc
    simp[execOp,e]
   ·refine ⟨_,h1,fun adr M w a hx=>⟨a.eval x,.inl ⟨by simp[Region.wanted],fun w'=>?_⟩,hx x _ hc⟩⟩
    obtain ⟨b,m,_,e⟩:=hx x _ hc
    simp[execOp,e]
   ·refine ⟨_,h1,fun adr M w a hx=>⟨a.eval x,.inl ⟨by simp[Region.wanted],fun w'=>?_⟩,hx x _ hc⟩⟩
    have e:DenD _ w _ _:=hx x _ hc
    cases hq:a.eval x <;> rw[hq] at e <;> cases e
    simp[execOp,hq]
   ·exact h1.elim
  | fieldAddr t x f =>
   obtain ⟨c,hc,h1⟩:=onC_ok h
   obtain ⟨ti,hl,h2⟩:=onT_ok h1
   obtain ⟨s,hK,hr⟩:=rField_any (hT t ti hl) h2
   refine ⟨s,hK,fun adr M w a hx=>?_⟩
   obtain ⟨v,h3,h4⟩:=hr adr M w _ (hx x _ hc)
   exact ⟨v,.inl ⟨by simp[Region.wanted],fun w'=>by simp only[execOp,Sem.run_bind,h3 w',Result.andThen_ok,Sem.run_pure]⟩,h4⟩
  | _=>cases hp
def takOp (ops:Array Oper) (i:Nat):Bool:=match ops[i]? with
 | some oi=>pureOf oi && (List.range ops.size).all fun j=>j==i || match ops[j]? with
  | some oj=>oj.after.toList.any (fun e=>Region.binds .any e && e.on==i) || (oi.after.toList.any (fun e=>Region.binds .any e && e.on==j) || oi.apart ops oj)
  | none=>true
 | none=>false
def taksOf (ops:Array Oper):List Bool:=(List.range ops.size).map (takOp ops)
noncomputable def enumB (ops:Array Oper) (tk:List Bool):Bool:=lowB ops.toList 0 && Region.noSelect ops && (List.range tk.length).all fun i=>!tk.getD i false || takOp ops i
def vcEnum (P:Program) (gl:List (Nat×List D)) (tt:List (Nat×TI)) (fx:List Nat) (N:Nat) (all:List Oper) (tk:List Bool) (fu:List Oper):List Bool→List (Nat×V)→List (Nat×Blk)→Nat→SK→(C→SK)→Prop :=
 List.rec (motive:=fun _=>List Bool→List (Nat×V)→List (Nat×Blk)→Nat→SK→(C→SK)→Prop) (fun _ fr L n k _=>k fr L n)
  (fun _ _ ih done fr L n k kp=>match allB done with
   | true=>k fr L n
   | false=>takeB done all tk 0 (fun i o=>onB (dstB N o.dst) (tOp tt (sval gl fr) o.op fun s=>putK o.dst s fr fun f=>lK (setB done i) fun d=>ih d f L n k kp)) (eachB done all 0 fun i o=>onB (dstB N o.dst) (onGuard all o.guard fr fun run fr1=>match run with
    | true=>xOp P gl tt fx o.op fr1 L n (fun s fr' L' n'=>putK o.dst s fr' fun f=>lK (setB done i) fun d=>ih d f L' n' k kp) kp
    | false=>putK o.dst undV fr1 fun f=>lK (setB done i) fun d=>ih d f L n k kp))) fu
section
variable {P:Program} {gl:List (Nat×List D)} {tt:List (Nat×TI)} {M0 S0:Nat→Prop} {w0:Base} {N:Nat} {ops:Array Oper} {Q:Exit→Act→World→Prop}
theorem allB_ok:∀ {l:List Bool},allB l=true→∀ i,i<l.length→l.getD i false=true
 | [],_,i,h=>by simp at h
 | b::r,h,i,hi=>by
  cases b with
  | false=>exact nomatch (show false=true from h)
  | true =>
   cases i with
   | zero=>rfl
   | succ i=>exact allB_ok (l:=r) h i (by simpa using hi)
def lacks (l:List Bool):Nat:=(l.filter fun b=>!b).length
theorem lacks_set:∀ (l:List Bool) (i:Nat),i<l.length→¬ l.getD i false=true→lacks (setB l i)<lacks l
 | [],i,h,_=>by simp at h
 | b::r,0,h,hn=>by
  cases b with
  | true=>simp at hn
  | false=>show lacks (true::r)<_;simp[lacks]
 | b::r,i+1,h,hn=>by
  have:=lacks_set r i (by simpa using h) (by simpa using hn)
  show lacks (b::setB r i)<_
  unfold lacks at this ⊢
  cases b <;> simp_all
theorem vcEnum_ok (hT:Fits P tt) {tk:List Bool} (hlow:∀ j o,ops[j]?=some o→∀ e ∈ o.after,Region.binds .any e=true→e.on<j) (hsel:Region.noSelect ops=true) (htk:∀ i,tk.getD i false=true→takOp ops i=true) (hput:∀ c a d v w,Q (.panic c) (a.put d v) w→Q (.panic c) a w) {k:SK} {kp:C→SK} (hQ:∀ fr L n adr a w,k fr L n→Ok gl M0 S0 w0 N adr fr L n a w→Q .normal a w) (hp:PanOk gl M0 S0 w0 N kp Q) :
 ∀ (fu:List Oper) (done:List Bool) (fr:List (Nat×V)) (L:List (Nat×Blk)) (n:Nat) (adr:Env) (listed:Array Bool) (a:Act) (w:World) (fuel:Nat),lacks done≤fu.length→lacks done≤fuel→done.length=ops.size→listed.size=ops.size→(∀ i,Lst listed i↔done.getD i false=true)→
  vcEnum P gl tt w0.fx N ops.toList tk fu done fr L n k kp→Ok gl M0 S0 w0 N adr fr L n a w→wpAny P .any ops Q fuel listed a w:=by
 have fin:∀ (done:List Bool) (fr:List (Nat×V)) (L:List (Nat×Blk)) (n:Nat) (adr:Env) (listed:Array Bool) (a:Act) (w:World) (fuel:Nat),(∀ i,i<ops.size→done.getD i false=true)→listed.size=ops.size→(∀ i,Lst listed i↔done.getD i false=true)→
  k fr L n→Ok gl M0 S0 w0 N adr fr L n a w→wpAny P .any ops Q fuel listed a w:=by
  intro done fr L n adr listed a w fuel hall hs hE h hx
  have hr:Region.ready .any ops listed=[]:=List.eq_nil_iff_forall_not_mem.2 fun j hj=>by
   obtain ⟨h1,o,ho,_⟩:=(ready_iff hs).1 hj
   exact h1 ((hE j).2 (hall j (Array.getElem?_eq_some_iff.1 ho).1))
  cases fuel with
  | zero=>exact ⟨hr,hQ _ _ _ _ _ _ h hx⟩
  | succ f=>exact ⟨fun _=>hQ _ _ _ _ _ _ h hx,by rw[hr];simp⟩
 intro fu
 induction fu with
 | nil =>
  intro done fr L n adr listed a w fuel hf _ hd hs hE h hx
  refine fin done fr L n adr listed a w fuel (fun i hi=>?_) hs hE h hx
  have h0:lacks done=0:=Nat.le_zero.1 hf
  unfold lacks at h0
  have h1:=List.eq_nil_of_length_eq_zero h0
  rw[List.filter_eq_nil_iff] at h1
  have h2:i<done.length:=by omega
  have h3:=h1 done[i] (List.getElem_mem h2)
  simpa[List.getD,List.getElem?_eq_getElem h2] using h3
 | cons o0 fu ih =>
  intro done fr L n adr listed a w fuel hf hfu hd hs hE h hx
  replace h:(match allB done with
   | true=>k fr L n
   | false=>takeB done ops.toList tk 0 (fun i o=>onB (dstB N o.dst) (tOp tt (sval gl fr) o.op fun s=>putK o.dst s fr fun f=>lK (setB done i) fun d=>vcEnum P gl tt w0.fx N ops.toList tk fu d f L n k kp)) (eachB done ops.toList 0 fun i o=>onB (dstB N o.dst) (onGuard ops.toList o.guard fr fun run fr1=>match run with
    | true=>xOp P gl tt w0.fx o.op fr1 L n (fun s fr' L' n'=>putK o.dst s fr' fun f=>lK (setB done i) fun d=>vcEnum P gl tt w0.fx N ops.toList tk fu d f L' n' k kp) kp
    | false=>putK o.dst undV fr1 fun f=>lK (setB done i) fun d=>vcEnum P gl tt w0.fx N ops.toList tk fu d f L n k kp))):=h
  cases hA:allB done with
  | true =>
   rw[hA] at h
   exact fin done fr L n adr listed a w fuel (fun i hi=>allB_ok hA i (by omega)) hs hE h hx
  | false =>
   rw[hA] at h
   by_cases hall:∀ i,i<ops.size→done.getD i false=true
   ·refine absurd hA ?_
    have:∀ (l:List Bool),(∀ i,i<l.length→l.getD i false=true)→allB l=true:=by
     intro l
     induction l with
     | nil=>intro _;rfl
     | cons b r ihr =>
      intro hl
      have h0:=hl 0 (by simp)
      simp at h0
      subst h0
      exact ihr fun i hi=>by simpa using hl (i+1) (by simpa using hi)
    rw[this done fun i hi=>hall i (by omega)]
    simp
   ·obtain ⟨j0,hj0⟩:∃ j,j<ops.size∧¬ Lst listed j:=Classical.byContradiction fun hc=>hall fun i hi=>(hE i).1 (Classical.byContradiction fun hni=>hc ⟨i,hi,hni⟩)
    obtain ⟨j,⟨hj,hnj⟩,hmin⟩:=exists_least (p:=fun j=>j<ops.size∧¬ Lst listed j) ⟨j0,hj0⟩
    have hoj:ops[j]?=some ops[j]:=Array.getElem?_eq_getElem hj
    have hrj:j ∈ Region.ready .any ops listed:=(ready_iff hs).2 ⟨hnj,_,hoj,fun e he hb=>by
     have hlt:=hlow j _ hoj e he hb
     rcases Classical.em (Lst listed e.on) with h1|h1
     ·exact h1
     ·have:=hmin e.on ⟨by omega,h1⟩;omega⟩
    have step:∀ i,i<done.length→¬ done.getD i false=true→lacks (setB done i)<lacks done:=lacks_set done
    obtain ⟨f,rfl⟩:∃ f,fuel=f+1:=⟨fuel - 1,by
     have:=step j (by omega) (fun hh=>hnj ((hE j).2 hh));omega⟩
    rcases takeB_ok h with h|⟨i,oi,hoi,hti,hni,hai,hK⟩
    case inr =>
     rw[Nat.zero_add] at hni hK
     have hoi':ops[i]?=some oi:=by simpa using hoi
     have his:i<ops.size:=(Array.getElem?_eq_some_iff.1 hoi').1
     have hl:=step i (by omega) hni
     have hset:∀ j,Lst (listed.setIfInBounds i true) j↔(setB done i).getD j false=true:=fun j=>by
      rw[← lst_set (by rw[hs];exact his),setB_get _ _ _ (by omega)]
      show (Lst listed j∨j=i)↔_
      rw[hE]
     simp only[List.length_cons] at hf
     obtain ⟨hdst,h1⟩:=onB_ok hK
     have hto:=htk i hti
     unfold takOp at hto
     simp only[hoi',Bool.and_eq_true] at hto
     obtain ⟨s,h1,hy⟩:=tOp_ok (P:=P) (ops:=ops) hT h1 hto.1
     obtain ⟨v,hy,hv⟩:=hy adr (Mut M0 adr L) w a (fun x s hs=>sval_ok hx.fr hx.glob hs)
     rw[putK_eq,lK_eq] at h1
     refine wpAny_first hoi' (Region.noSelect_spec hsel) (fun c a w=>hput c a _ _ w) f listed a w (fun j oj hj hji hlj hno=>?_) ((ready_iff hs).2 ⟨fun hh=>hni ((hE i).1 hh),oi,hoi',fun e he hb=>(hE _).2 (hai e he hb)⟩) hy ?_
     ·have h2:=List.all_eq_true.1 hto.2 j (List.mem_range.2 (Array.getElem?_eq_some_iff.1 hj).1)
      simp only[hj,Bool.or_eq_true,beq_iff_eq,hji,false_or] at h2
      rcases h2 with h2|h2
      ·obtain ⟨e,he,hb⟩:=List.any_eq_true.1 h2
       rw[Array.mem_toList_iff] at he
       simp only[Bool.and_eq_true,beq_iff_eq] at hb
       exact absurd hb.2 (hno e he hb.1)
      rcases h2 with h2|h2
      ·obtain ⟨e,he,hb⟩:=List.any_eq_true.1 h2
       rw[Array.mem_toList_iff] at he
       simp only[Bool.and_eq_true,beq_iff_eq] at hb
       have h3:Lst listed j:=hb.2 ▸ (hE _).2 (hai e he hb.1)
       have hjs:j<listed.size:=by rw[hs];exact (Array.getElem?_eq_some_iff.1 hj).1
       unfold Lst at h3
       simp only[Array.getD_eq_getD_getElem?,Array.getElem?_eq_getElem hjs,Option.getD_some] at h3 hlj
       rw[hlj] at h3
       cases h3
      ·exact h2
     ·exact ih (setB done i) _ _ _ adr _ _ _ f (by omega) (by omega) (by rw[setB_len];exact hd) (by simpa using hs) hset h1 (hx.put hdst hv)
    refine ⟨fun hr=>by rw[hr] at hrj;simp at hrj,fun i hi=>?_⟩
    obtain ⟨hni,oi,hoi,ha⟩:=(ready_iff hs).1 hi
    have his:i<ops.size:=(Array.getElem?_eq_some_iff.1 hoi).1
    have h0:=eachB_ok h i oi (by simpa using hoi) (by rw[Nat.zero_add];exact fun hh=>hni ((hE i).2 hh)) (fun e he hb=>(hE _).1 (ha e he hb))
    rw[Nat.zero_add] at h0
    have hset:∀ j,Lst (listed.setIfInBounds i true) j↔(setB done i).getD j false=true:=fun j=>by
     rw[← lst_set (by rw[hs];exact his),setB_get _ _ _ (by omega)]
     show (Lst listed j∨j=i)↔_
     rw[hE]
    have hl:=step i (by omega) (fun hh=>hni ((hE i).2 hh))
    simp only[List.length_cons] at hf
    obtain ⟨hdst,h1⟩:=onB_ok h0
    obtain ⟨run,fr1,h2,hg,hle⟩:=onGuard_ok h1
    have hw:=hg.wanted (adr:=adr) (M:=Mut M0 adr L) (w:=w) (a:=a) (fun t s _ hl=>hx.fr t s hl)
    have hx1:=hx.le hle
    unfold wpOp
    simp only[hoi,hw]
    cases run with
    | true =>
     simp only[if_true]
     refine .inl (xOp_ok hT h2 hx1 ?_ ?_)
     ·rintro v w' ⟨s,fr',L',n',adr',h3,h4,h5⟩
      rw[putK_eq,lK_eq] at h3
      exact ih (setB done i) _ _ _ adr' _ _ _ f (by omega) (by omega) (by rw[setB_len];exact hd) (by simpa using hs) hset h3 (h4.put hdst h5)
     ·intro c fr' L' n' adr' x w' h3 h4 h5
      exact hp c fr' L' n' adr' x a w' h3 h4 h5
    | false =>
     simp only[Bool.false_eq_true,if_false]
     rw[putK_eq,lK_eq] at h2
     exact ih (setB done i) _ _ _ adr _ _ _ f (by omega) (by omega) (by rw[setB_len];exact hd) (by simpa using hs) hset h2 (hx1.put hdst (DenD.v _))
theorem lowB_ok:∀ {l:List Oper} {i:Nat},lowB l i=true→∀ j o,l[j]?=some o→∀ e ∈ o.after,Region.binds .any e=true→e.on<i+j
 | [],i,_,j,o,hj,_,_,_=>by simp at hj
 | o'::r,i,h,j,o,hj,e,he,hb=>by
  replace h:((o'.after.toList.all fun e=>!Region.binds .any e || Nat.blt e.on i) && lowB r (i+1))=true:=h
  rw[Bool.and_eq_true] at h
  cases j with
  | zero =>
   simp only[List.getElem?_cons_zero,Option.some.injEq] at hj
   subst hj
   have:=List.all_eq_true.1 h.1 e (by simpa using he)
   rw[hb] at this
   simp[Nat.blt,Nat.ble_eq] at this
   omega
  | succ j =>
   have:=lowB_ok h.2 j o (by simpa using hj) e he hb
   omega
theorem region_enum_ok (hT:Fits P tt) (hm:P.follows .mixedOrders=true) {id:Nat} {tk:List Bool} (hB:enumB ops tk=true) (hput:∀ c a d v w,Q (.panic c) (a.put d v) w→Q (.panic c) a w) {k:SK} {kp:C→SK} (hQ:∀ fr L n adr a w,k fr L n→Ok gl M0 S0 w0 N adr fr L n a w→Q .normal a w) (hp:PanOk gl M0 S0 w0 N kp Q)
 {fr:List (Nat×V)} {L:List (Nat×Blk)} {n:Nat} {adr:Env} {a:Act} {w:World} (h:vcEnum P gl tt w0.fx N ops.toList tk ops.toList (falses ops.toList) fr L n k kp) (hx:Ok gl M0 S0 w0 N adr fr L n a w):(Code.region id ops true).wp P Q a w:=by
 have hf:∀ l:List Oper,falses l=List.replicate l.length false:=by
  intro l
  induction l with
  | nil=>rfl
  | cons o r ih=>show false::falses r=_;rw[ih];rfl
 rw[hf] at h
 have hl:lacks (List.replicate ops.toList.length false)≤ops.size:=by
  unfold lacks
  simp
 unfold enumB at hB
 simp only[Bool.and_eq_true] at hB
 refine wp_region_any hm (vcEnum_ok hT (fun j o ho=>by have:=lowB_ok hB.1.1 j o (by simpa using ho);rwa [Nat.zero_add] at this) hB.1.2 (fun i hi=>by
  have hlt:i<tk.length:=by
   rcases Nat.lt_or_ge i tk.length with h|h
   ·exact h
   ·simp[List.getD,List.getElem?_eq_none h] at hi
  have:=List.all_eq_true.1 hB.2 i (List.mem_range.2 hlt)
  rw[hi] at this
  simpa using this) hput hQ hp ops.toList _ fr L n adr _ a w.drew _ (by simpa using hl) hl (by simp) (by simp) (fun i=>?_) h hx.drew)
 unfold Lst
 simp only[Array.getD_eq_getD_getElem?,Array.getElem?_replicate,List.getD,List.getElem?_replicate]
 constructor
 ·intro h;split at h <;> simp at h
 ·intro h;split at h <;> simp at h
end
end Go.EYtdpigpahfiachaaGreatDoor
end
