/- Proved: a part of what the law is proved with (the reckoner, contracts of functions, plain laws). Conditions: as each says. -/
import Derived.Test.YtfcmhmglpcimiaaGreatDoorKEw
namespace Go.EYtfcmhmglpcimiaaGreatDoor
open Go Go.RowKit
def svals (gl:List (Nat×List D)) (fr:List (Nat×V)):List Operand→Option (List V)
 | []=>some []
 | y::r=>match sval gl fr y,svals gl fr r with
  | some s,some l=>some (s::l)
  | _,_=>none
def rStore (L:List (Nat×Blk)) (c:C) (l:List C) (k:List (Nat×Blk)→Prop):Prop :=
 match c with
 | .ptr j f=>match look L j with
  | some (.var cells tb)=>onB (Nat.ble (f+l.length) cells.length) (onB (oneL l) (fL (over cells f l) fun cells'=>setLK L j (.var cells' tb) k))
  | _=>False
 | .elt z j i f=>match look L j with
  | some (.rows z' rows e)=>match dsOf l with
   | some ds=>onB (Nat.beq z z') (onB (Nat.ble (f+ds.length) z) (onB (oneL l) (∃ r,rows[i]?=some r∧setLK L j (.rows z' (rows.set i (over r f ds)) e) k)))
   | none=>False
  | _=>False
 | _=>False
def rGrow (fx:List Nat) (te:TI) (kk:Nat) (l:List (List D)) (e:Nat) (rs:List (List D)) (fr:List (Nat×V)) (L:List (Nat×Blk)) (n:Nat) (k:V→SK):Prop :=
 onB (notIn kk fx) ((allOne rs=true∧(l.length+rs.length) * te.bytes≤140737488355328∧l.length+rs.length≤maxLen)∧
  fF (killF kk fr) fun fr'=>fBs (killL kk (setL L kk (.rows te.size (l++rs) e))) fun L'=>k (.c (.all te.size kk)) fr' L' n)
def rAppend (fx:List Nat) (te:TI) (e:Nat) (cx cy:C) (fr:List (Nat×V)) (L:List (Nat×Blk)) (n:Nat) (k:V→SK):Prop :=
 onB (Nat.blt 0 te.size) (onRows L te.size cy fun rs=>match cx with
 | .all z kk=>onB (Nat.beq z te.size) (match look L kk with
  | some (.rows z' l e')=>onB (Nat.beq z' te.size) (onB (Nat.beq e' e) (rGrow fx te kk l e rs fr L n k))
  | _=>False)
 | .own z kk i m=>onB (Nat.beq z te.size) (onB (Nat.beq i 0) (match look L kk with
  | some (.rows z' l e')=>onB (Nat.beq z' te.size) (onB (Nat.beq e' e) (m≤l.length∧rGrow fx te kk (l.take m) e rs fr L n k))
  | _=>False))
 | .d (.v (.slice none 0 0))=>rGrow fx te n [] e rs fr ((n,.rows te.size [] e)::L) (n+1) k
 | _=>False)
def rAppendS (fx:List Nat) (te:TI) (e:Nat) (cx cy:C) (fr:List (Nat×V)) (L:List (Nat×Blk)) (n:Nat) (k:V→SK):Prop :=
 onB (Nat.beq te.size 1) (match cx,cy with
 | .all z kk,.d (.str s)=>onB (Nat.beq z te.size) (match look L kk with
  | some (.rows z' l e')=>onB (Nat.beq z' te.size) (onB (Nat.beq e' e) (onB (notIn kk fx) (((l.length+s.length) * te.bytes≤140737488355328∧l.length+s.length≤maxLen)∧
   fF (killF kk fr) fun fr'=>fBs (killL kk (setL L kk (.rows te.size (l++s.map u8D) e))) fun L'=>k (.c (.all te.size kk)) fr' L' n)))
  | _=>False)
 | _,_=>False)
def denseB:Nat→List (Nat×Operand)→Bool
 | _,[]=>true
 | n,(i,_)::r=>match Nat.beq n i with
  | true=>denseB (n+1) r
  | false=>false
def rowsV:List V→Option (List (List D))
 | []=>some []
 | s::r=>match cellsOf s,rowsV r with
  | some l,some rs=>match dsOf l with
   | some ds=>some (ds::rs)
   | none=>none
  | _,_=>none
def eachLen (z:Nat):List (List D)→Bool
 | []=>true
 | r::l=>match Nat.beq r.length z with
  | true=>eachLen z l
  | false=>false
def ownsVs:List V→List Nat
 | []=>[]
 | s::r=>ownsV s++ownsVs r
def fcall (P:Program) (gl:List (Nat×List D)) (g:Nat) (vs:List V) (args:List Operand) (fr:List (Nat×V)) (L:List (Nat×Blk)) (n:Nat) (k:V→SK):Prop :=
 frzAll (ownsVs vs) fr L fun fr' L'=>match svals gl fr' args with
  | some vs'=>pcall P gl g vs' fr' L' n k
  | none=>False
def rBuildS (_gl:List (Nat×List D)) (te:TI) (e len:Nat) (ps:List (Nat×Operand)) (rs:List (List D)) (q:Nat) (fr:List (Nat×V)) (L:List (Nat×Blk)) (n:Nat) (k:V→SK):Prop :=
 onB (Nat.blt 0 te.size) (onB (denseB 0 ps) (onB (Nat.beq q len) (onB (Nat.blt 0 len) (onB (Nat.ble (len * te.size) 16777216) (onB (eachLen te.size rs)
  (k (.c (.all te.size n)) fr ((n,.rows te.size rs e)::L) (n+1)))))))
def rMapUp (P:Program) (ti:TI) (cm:C) (sk sx:V) (fr:List (Nat×V)) (L:List (Nat×Blk)) (n:Nat) (k:V→SK):Prop :=
 onB (Nat.beq ti.kd 9) (match ti.sub,cm,keyOfV sk,keyOfV sx with
  | [kt,_],.mref j,some kd,some vd=>(match look L j with
   | some (.mp ks vs)=>∃ s,(KeyT P kt s∧keyS s kd=true∧∀ d ∈ ks,keyS s d=true)∧((kd ∉ ks∧setLK L j (.mp (ks++[kd]) (vs++[vd])) fun L'=>k (.c (.d (.v undef))) fr L' n)∨(∃ i,ks[i]?=some kd∧setLK L j (.mp ks (vs.set i vd)) fun L'=>k (.c (.d (.v undef))) fr L' n))
   | _=>False)
  | _,_,_,_=>False)
def xOp (P:Program) (gl:List (Nat×List D)) (tt:List (Nat×TI)) (fx:List Nat) (op:Op) (fr:List (Nat×V)) (L:List (Nat×Blk)) (n:Nat) (k:V→SK) (kp:C→SK):Prop :=
 match op with
 | .box t y=>onS (sval gl fr y) fun s=>match s with
  | .c (.d (.v (.agg xs)))=>∃ (z:Nat) (rows:List (List D)),((0<z∧(∀ r ∈ rows,r.length=z)∧rows.length≤maxLen∧∀ d ∈ rows.flatten,scaD d=true)∧(rows.flatten.map undD).toArray=xs)∧k (.c (.ptr n 0)) fr ((n,.rows z rows t)::L) (n+1)
  | _=>match cellsOf s with
   | some l=>k (.c (.ptr n 0)) fr ((n,.var l t)::L) (n+1)
   | none=>False
 | .alloc t=>onT tt t fun ti=>match Nat.ble 65 ti.size with
  | true=>onB (Nat.ble ti.size 4096) (k (.c (.ptr n 0)) fr ((n,.rows 1 (ti.zero.map fun d=>[d]) t)::L) (n+1))
  | false=>fL (ti.zero.map C.d) fun l=>k (.c (.ptr n 0)) fr ((n,.var l t)::L) (n+1)
 | .store t y z=>onC (sval gl fr y) fun c=>onT tt t fun ti=>onS (sval gl fr z) fun s=>match cellsOf s with
  | some l=>onB (Nat.beq l.length ti.size) (match c,dsOf l with
   | .elt _ _ _ _,none=>frzAll (ownsCs l) fr L fun fr' L'=>onC (sval gl fr' y) fun c'=>onS (sval gl fr' z) fun s'=>(match cellsOf s' with
    | some l'=>onB (Nat.beq l'.length ti.size) (rStore L' c' l' fun L2=>k (.c (.d (.v undef))) fr' L2 n)
    | none=>False)
   | _,_=>rStore L c l fun L'=>k (.c (.d (.v undef))) fr L' n)
  | none=>False
 | .buildSlice t len ps=>onT tt t fun ti=>match Nat.beq ti.kd 3,ti.el with
  | true,some e=>onT tt e fun te=>match svals gl fr (ps.toList.map (·.2)) with
   | some vs=>match rowsV vs with
    | some rs=>rBuildS gl te e len ps.toList rs vs.length fr L n k
    | none=>frzAll (ownsVs vs) fr L fun fr' L'=>match svals gl fr' (ps.toList.map (·.2)) with
     | some vs'=>(match rowsV vs' with
      | some rs=>rBuildS gl te e len ps.toList rs vs'.length fr' L' n k
      | none=>False)
     | none=>False
   | none=>False
  | _,_=>False
 | .makeSlice t x y=>onC (sval gl fr x) fun cx=>onC (sval gl fr y) fun cy=>onT tt t fun ti=>match cx,cy with
  | .d (.v (.int _ a)),.d (.v (.int _ b))=>match Nat.beq ti.kd 3,ti.el with
   | true,some e=>onT tt e fun te=>onB (Nat.blt 0 te.size) ((0≤a∧a≤b∧(te.bytes:Int) * b≤281474976710656∧b≤9223372036854775807)∧
    k (.c (.all te.size n)) fr ((n,.rows te.size (List.replicate a.toNat te.zero) e)::L) (n+1))
   | _,_=>False
  | _,_=>False
 | .convert s d x=>onC (sval gl fr x) fun c=>onT tt s fun ts=>onT tt d fun td=>match Nat.beq td.kd 3,td.el,c with
  | true,some e,.d (.str l)=>onT tt e fun te=>onB (Nat.beq ts.kd 2) (onB (match te.ik with|some k=>ikeq k .u8|none=>false) (l.length≤maxLen∧k (.c (.d (.lst 1 (l.map u8D)))) fr L n))
  | _,_,_=>rConv L ts td (elTI tt ts) c fun s=>k s fr L n
 | .call c=>match c.callee with
  | .value f=>onC (sval gl fr f) fun cf=>match svals gl fr c.args.toList with
   | some vs=>match cf with
    | .fn g []=>rCall P gl fx g vs fr L n k kp∨fcall P gl g vs c.args.toList fr L n k
    | .fn g cs=>rCall P gl fx g (vs++cs.map fun p=>V.c (.ptr p.1 p.2)) fr L n k kp
    | .d (.v (.func (.func g) ⟨[]⟩ ⟨[]⟩))=>rCall P gl fx g vs fr L n k kp∨fcall P gl g vs c.args.toList fr L n k
    | _=>False
   | none=>False
  | .builtin .append=>match c.args,c.argTypes with
   | ⟨[x,y]⟩,⟨[t,t']⟩=>onC (sval gl fr x) fun cx=>onC (sval gl fr y) fun cy=>onT tt t fun ti=>match Nat.beq t t',Nat.beq ti.kd 3,ti.el with
    | true,true,some e=>onT tt e fun te=>rAppend fx te e cx cy fr L n k
    | false,true,some e=>onT tt t' fun tj=>onT tt e fun te=>onB (Nat.beq tj.kd 2) (rAppendS fx te e cx cy fr L n k)
    | _,_,_=>False
   | _,_=>False
  | .builtin .clear=>match c.args,c.argTypes with
   | ⟨[x]⟩,⟨[t]⟩=>onC (sval gl fr x) fun cx=>onT tt t fun ti=>match Nat.beq ti.kd 3,ti.el with
    | true,some e=>onT tt e fun te=>rClear te cx L fun L'=>k (.tup []) fr L' n
    | _,_=>False
   | _,_=>False
  | _=>pOp P tt (sval gl fr) L op fun s=>k s fr L n
 | .panic x=>onC (sval gl fr x) fun c=>onB (isIf c) (kp c fr L n)
 | .makeMap t r=>onT tt t fun ti=>onB (Nat.beq ti.kd 9) (match r with
  | none=>k (.c (.mref n)) fr ((n,.mp [] [])::L) (n+1)
  | some y=>onC (sval gl fr y) fun c=>match c with
   | .d (.v (.int _ _))=>k (.c (.mref n)) fr ((n,.mp [] [])::L) (n+1)
   | _=>False)
 | .mapUpdate t m y z=>onC (sval gl fr m) fun cm=>onS (sval gl fr y) fun sk=>onS (sval gl fr z) fun sx=>onT tt t fun ti=>rMapUp P ti cm sk sx fr L n k
 | .insert t m y z=>onC (sval gl fr m) fun cm=>onS (sval gl fr y) fun sk=>onS (sval gl fr z) fun sx=>onT tt t fun ti=>rMapUp P ti cm sk sx fr L n k
 | op=>pOp P tt (sval gl fr) L op fun s=>k s fr L n
section
variable {P:Program} {gl:List (Nat×List D)} {tt:List (Nat×TI)} {M0 S0:Nat→Prop} {w0:Base} {N:Nat} {adr:Env} {fr:List (Nat×V)} {L:List (Nat×Blk)} {n:Nat} {a:Act} {w:World}
theorem svals_ok {M:Nat→Prop} (hf:FrOk adr M w fr a) (hg:Glob gl M w):∀ {ys:List Operand} {l:List V},svals gl fr ys=some l→All2 (DenV adr M w) l (ys.map a.eval)
 | [],l,hl=>by simp only[svals,Option.some.injEq] at hl;subst hl;trivial
 | y::r,l,hl=>by
  simp only[svals] at hl
  split at hl
  ·rename_i s l' hs hr
   cases hl
   exact ⟨sval_ok hf hg hs,svals_ok hf hg hr⟩
  ·cases hl
theorem Ok.sval (hx:Ok gl M0 S0 w0 N adr fr L n a w) {x:Operand} {s:V} (hs:sval gl fr x=some s):DenV adr (Mut M0 adr L) w s (a.eval x):=sval_ok hx.fr hx.glob hs
theorem Ok.svals (hx:Ok gl M0 S0 w0 N adr fr L n a w) {ys:List Operand} {l:List V} (hl:svals gl fr ys=some l):All2 (DenV adr (Mut M0 adr L) w) l (ys.map a.eval):=svals_ok hx.fr hx.glob hl
def After (gl:List (Nat×List D)) (M0 S0:Nat→Prop) (w0:Base) (N:Nat) (a:Act) (k:V→SK) (v:Value) (w':World):Prop :=
 ∃ s fr' L' n' adr',k s fr' L' n'∧Ok gl M0 S0 w0 N adr' fr' L' n' a w'∧DenV adr' (Mut M0 adr' L') w' s v
theorem caps_den {M:Nat→Prop}:∀ {cs:List (Nat×Nat)} {xs:List Value},All2 (DenP adr) cs xs→All2 (DenV adr M w) (cs.map fun p=>V.c (.ptr p.1 p.2)) xs
 | [],[],_=>trivial
 | _::_,_::_,h=>⟨h.1,caps_den h.2⟩
 | [],_::_,h=>h.elim
 | _::_,[],h=>h.elim
theorem rStore_ok (hT:Fits P tt) {t:Nat} {ti:TI} (hti:look tt t=some ti) {c:C} {s:V} {l:List C} {k:List (Nat×Blk)→Prop} (h:rStore L c l k) (hx:Ok gl M0 S0 w0 N adr fr L n a w) (hl:cellsOf s=some l) (hlen:l.length=ti.size)
 {x u:Value} (hc:DenC adr (Mut M0 adr L) w c x) (hs:DenV adr (Mut M0 adr L) w s u):∃ w' L',(Instr.storeAt t x u).run P w=.ok () w'∧k L'∧Ok gl M0 S0 w0 N adr fr L' n a w':=by
 have hcs:=cellsOf_ok hl hs
 unfold rStore at h
 split at h
 ·rename_i j f
  split at h
  ·rename_i cells tb hk
   obtain ⟨hle,h⟩:=onB_ok h
   obtain ⟨hone,h⟩:=onB_ok h
   rw[fL_eq,setLK_eq] at h
   have hle:=Nat.le_of_ble_eq_true hle
   obtain ⟨b,m,ha,rfl⟩:=hc
   have hloc:=hx.wok.loc j _ hk
   rw[ha] at hloc
   obtain ⟨xs,h1,h2⟩:=hloc
   have hl2:=All2.length h2
   have hl3:=All2.length hcs
   have hr:=(hT t ti hti).store (w:=w) (b:=b) (o:=f) (cur:=xs) (v:=u) (vs:=u.cells.toList) h1 rfl (by omega) (by omega) (hcs.one hone)
   exact ⟨_,_,hr,h,hx.setVar hk ha h1 h2 hcs hle⟩
  ·exact h.elim
 ·rename_i z j i f
  split at h
  ·rename_i z' rows e hk
   split at h
   ·rename_i ds hds
    obtain ⟨hz,h1⟩:=onB_ok h
    obtain ⟨hle,h2⟩:=onB_ok h1
    obtain ⟨hone,r,hi,h3⟩:=onB_ok h2
    clear h h1 h2
    rw[setLK_eq] at h3
    have hz:=Nat.eq_of_beq_eq_true hz
    subst hz
    have hle:=Nat.le_of_ble_eq_true hle
    obtain ⟨b,m,ha,rfl⟩:=hc
    have hloc:=hx.wok.loc j _ hk
    rw[ha] at hloc
    obtain ⟨g1,g2,g3,cur,cp,g4,g5,g6,g7,g8⟩:=hloc
    have hd:=dsOf_ok hds
    subst hd
    have hden:DenL (Mut M0 adr L) w ds u.cells.toList:=(All2.map_left (R:=DenC adr (Mut M0 adr L) w) (f:=C.d)).1 hcs
    have hl3:=All2.length hden
    have hil:i<rows.length:=(List.getElem?_eq_some_iff.1 hi).1
    have hmul:i * z+z≤rows.length * z:=by
     have:(i+1) * z≤rows.length * z:=Nat.mul_le_mul_right _ hil
     rw[Nat.add_mul] at this;omega
    have hmul2:rows.length * z≤cp * z:=Nat.mul_le_mul_right _ g6
    have hr:=(hT t ti hti).store (w:=w) (b:=b) (o:=i * z+f) (cur:=cur.toList) (v:=u) (vs:=u.cells.toList) g4 rfl (by rw[← hl3];simpa using hlen) (by simp;simp at hl3;omega) (hcs.one hone)
    exact ⟨_,_,hr,h3,hx.setElt hk ha g4 hi hden hle⟩
   ·exact h.elim
  ·exact h.elim
 ·exact h.elim
theorem rGrow_ok {t ty e:Nat} {te:TI} (ht:P.underlying t=some (.slice e)) (he:FitsOne P e te) (hz:0<te.size) {kk:Nat} {l l0 rs:List (List D)} {k:V→SK} (hk:look L kk=some (.rows te.size l0 e)) (m:Nat) (hm:m≤l0.length) (hl:l=l0.take m)
 (h:rGrow w0.fx te kk l e rs fr L n k) (hx:Ok gl M0 S0 w0 N adr fr L n a w) {v x:Value} (hv:(v=.slice none 0 0∧m=0)∨∃ b cap,adr kk=some (some b,l0.length)∧v=.slice (some ⟨b,0,none⟩) m cap∧m≤cap∧∃ cur f,w.heap[b]?=some (.cells cur e f)∧cur.size=cap * te.size∧cap≤maxLen)
 (hr:RowsAt (Mut M0 adr L) w te.size rs x):∃ v' w',(Builtin.append_ #[t,t] ty #[v,x]).run P w=.ok v' w'∧After gl M0 S0 w0 N a k v' w':=by
 obtain ⟨hfx,⟨h1,h2,h3⟩,h0⟩:=onB_ok h
 rw[fF_eq,fBs_eq] at h0
 have hlen:l.length=m:=by rw[hl];simp;omega
 rw[hlen] at h2 h3
 obtain ⟨v',w',adr',e1,e2,e3⟩:=hx.append (ty:=ty) ht he hz hk hm hv hr h1 h2 h3 (notIn_ok hfx)
 rw[← hl] at e2
 exact ⟨v',w',e1,_,_,_,_,adr',h0,e2,e3⟩
theorem rAppendS_ok {t u ty e:Nat} {te:TI} (ht:P.underlying t=some (.slice e)) (hu:P.underlying u=some .string) (he:FitsOne P e te) {cx cy:C} {k:V→SK} (h:rAppendS w0.fx te e cx cy fr L n k) (hx:Ok gl M0 S0 w0 N adr fr L n a w) {v x:Value}
 (hv:DenC adr (Mut M0 adr L) w cx v) (hy:DenC adr (Mut M0 adr L) w cy x):∃ v' w',(Builtin.append_ #[t,u] ty #[v,x]).run P w=.ok v' w'∧After gl M0 S0 w0 N a k v' w':=by
 obtain ⟨hz0,h0⟩:=onB_ok h
 clear h
 have hz:=Nat.eq_of_beq_eq_true hz0
 split at h0
 ·rename_i z kk s
  obtain ⟨e1,h1⟩:=onB_ok h0
  clear h0
  have e1:=Nat.eq_of_beq_eq_true e1
  split at h1
  ·rename_i z' l e' hk
   obtain ⟨e2,h2⟩:=onB_ok h1
   obtain ⟨e3,h3⟩:=onB_ok h2
   obtain ⟨hfx,⟨h4,h5⟩,h6⟩:=onB_ok h3
   clear h1 h2 h3
   rw[fF_eq,fBs_eq] at h6
   have e2:=Nat.eq_of_beq_eq_true e2
   have e3:=Nat.eq_of_beq_eq_true e3
   subst e1;subst e2;subst e3
   obtain rfl:=DenD.str_inv hy
   have hloc:=hx.wok.loc kk _ hk
   have hv':(v=.slice none 0 0∧l.length=0)∨∃ b cap,adr kk=some (some b,l.length)∧v=.slice (some ⟨b,0,none⟩) l.length cap∧l.length≤cap∧∃ cur f,w.heap[b]?=some (Obj.cells cur e' f)∧cur.size=cap * te.size∧cap≤maxLen:=by
    rcases hv with ⟨h5,rfl⟩|⟨b,m,cp,cur,ee,f,h5,h6,h7,h8,h9,rfl⟩
    ·rw[h5] at hloc
     obtain ⟨_,h6,_⟩:=hloc
     subst h6;exact .inl ⟨rfl,rfl⟩
    ·rw[h5] at hloc
     obtain ⟨g1,g2,g3,cur',cp',g4,g5,g6,g7,g8⟩:=hloc
     subst g2
     rw[h6] at g4;cases g4
     exact .inr ⟨b,cp,h5,rfl,h8,cur,_,h6,h7,h9⟩
   obtain ⟨v',w',adr',e1,e2,e3⟩:=hx.appendS (ty:=ty) ht hu he hz hk (Nat.le_refl _) hv' h4 h5 (notIn_ok hfx)
   rw[List.take_length] at e2
   exact ⟨v',w',e1,_,_,_,_,adr',h6,e2,e3⟩
  ·exact h1.elim
 ·exact h0.elim
theorem rAppend_ok {t ty e:Nat} {te:TI} (ht:P.underlying t=some (.slice e)) (he:FitsOne P e te) {cx cy:C} {k:V→SK} (h:rAppend w0.fx te e cx cy fr L n k) (hx:Ok gl M0 S0 w0 N adr fr L n a w) {v x:Value}
 (hv:DenC adr (Mut M0 adr L) w cx v) (hy:DenC adr (Mut M0 adr L) w cy x):∃ v' w',(Builtin.append_ #[t,t] ty #[v,x]).run P w=.ok v' w'∧After gl M0 S0 w0 N a k v' w':=by
 obtain ⟨hz0,h0⟩:=onB_ok h
 clear h
 have hz:0<te.size:=by simp[Nat.blt,Nat.ble_eq] at hz0;omega
 obtain ⟨rs,h,hrs⟩:=onRows_ok h0
 clear h0
 have hr:=hrs M0 adr L n w x (fun _ _ h=>h) hx.wok hy
 split at h
 ·rename_i z kk
  obtain ⟨e1,h1⟩:=onB_ok h
  clear h
  have e1:=Nat.eq_of_beq_eq_true e1
  split at h1
  ·rename_i z' l e' hk
   obtain ⟨e2,h2⟩:=onB_ok h1
   obtain ⟨e3,h3⟩:=onB_ok h2
   clear h1 h2
   have e2:=Nat.eq_of_beq_eq_true e2
   have e3:=Nat.eq_of_beq_eq_true e3
   subst e1;subst e2;subst e3
   refine rGrow_ok ht he hz hk l.length (Nat.le_refl _) (by simp) h3 hx ?_ hr
   have hloc:=hx.wok.loc kk _ hk
   rcases hv with ⟨h5,rfl⟩|⟨b,m,cp,cur,ee,f,h5,h6,h7,h8,h9,rfl⟩
   ·rw[h5] at hloc
    obtain ⟨_,h6,_⟩:=hloc
    subst h6;exact .inl ⟨rfl,rfl⟩
   ·rw[h5] at hloc
    obtain ⟨g1,g2,g3,cur',cp',g4,g5,g6,g7,g8⟩:=hloc
    subst g2
    rw[h6] at g4;cases g4
    exact .inr ⟨b,cp,h5,rfl,h8,cur,_,h6,h7,h9⟩
  ·exact h1.elim
 ·rename_i z kk i m
  obtain ⟨e1,h1⟩:=onB_ok h
  obtain ⟨e0,h2⟩:=onB_ok h1
  clear h h1
  have e1:=Nat.eq_of_beq_eq_true e1
  have e0:=Nat.eq_of_beq_eq_true e0
  subst e0
  split at h2
  ·rename_i z' l e' hk
   obtain ⟨e2,h3⟩:=onB_ok h2
   obtain ⟨e3,hm,h4⟩:=onB_ok h3
   clear h2 h3
   have e2:=Nat.eq_of_beq_eq_true e2
   have e3:=Nat.eq_of_beq_eq_true e3
   subst e1;subst e2;subst e3
   refine rGrow_ok ht he hz hk m hm rfl h4 hx ?_ hr
   have hloc:=hx.wok.loc kk _ hk
   rcases hv with ⟨rfl,_,rfl⟩|⟨h0,_⟩|⟨b,q,cp,cur,ee,f,h5,h6,h7,h8,h9,rfl⟩
   ·exact .inl ⟨rfl,rfl⟩
   ·exact absurd rfl h0
   ·rw[h5] at hloc
    obtain ⟨g1,g2,g3,cur',cp',g4,g5,g6,g7,g8⟩:=hloc
    subst g2
    rw[h6] at g4;cases g4
    exact .inr ⟨b,cp,h5,by simp,by omega,cur,_,h6,h7,h9⟩
  ·exact h2.elim
 ·obtain rfl:=DenD.v_inv hv
  refine rGrow_ok (L:=(n,.rows te.size [] e)::L) ht he hz (by rw[look_cons,if_pos rfl]) 0 (Nat.zero_le _) (by simp) h (hx.pushNil e hz) (.inl ⟨rfl,rfl⟩) ?_
  refine hrs M0 _ _ _ w x (fun j B hj=>?_) (hx.pushNil e hz).wok (DenC.evo (Evo.refl (fun _=>False) w) (fun _ _ h=>h.elim) (fun b hb hm=>?_) (fun j b _ hj=>adrPush_old hx.wok.fresh hj) hy)
  ·rw[look_cons,if_neg (fun e=>by have:=hx.wok.keys j B hj;omega)];exact hj
  ·rcases (mut_push hx.wok.fresh hx.wok.keys).1 hm with h1|h1
   ·exact h1
   ·cases h1
 ·exact h.elim
theorem dense_ok:∀ {ps:List (Nat×Operand)} {i:Nat} (ρ:Operand→Value),denseB i ps=true→ps.map (fun p=>(p.1,ρ p.2))=(((ps.map fun p=>ρ p.2).zipIdx i).map fun x=>(x.2,x.1))
 | [],_,_,_=>rfl
 | (j,x)::r,i,ρ,h=>by
  simp only[denseB] at h
  split at h
  ·rename_i hj
   have hj:=Nat.eq_of_beq_eq_true hj
   subst hj
   simp only[List.map_cons,List.zipIdx_cons,dense_ok ρ h]
  ·cases h
theorem rowsV_ok {M:Nat→Prop}:∀ {vs:List V} {rs:List (List D)} {xs:List Value},rowsV vs=some rs→All2 (DenV adr M w) vs xs→All2 (fun r v=>DenL M w r v.cells.toList) rs xs
 | [],rs,xs,h,hd=>by
  simp only[rowsV,Option.some.injEq] at h;subst h
  cases xs with
  | nil=>trivial
  | cons _ _=>exact hd.elim
 | s::r,rs,xs,h,hd=>by
  cases xs with
  | nil=>exact hd.elim
  | cons x xs =>
   simp only[rowsV] at h
   split at h
   ·rename_i l rs' hl hr
    split at h
    ·rename_i ds hds
     cases h
     have h1:=cellsOf_ok hl hd.1
     rw[dsOf_ok hds] at h1
     exact ⟨(All2.map_left (R:=DenC adr M w) (f:=C.d)).1 h1,rowsV_ok hr hd.2⟩
    ·cases h
   ·cases h
theorem eachLen_ok {z:Nat}:∀ {l:List (List D)},eachLen z l=true→∀ r ∈ l,r.length=z
 | [],_,r,hr=>by simp at hr
 | r'::l,h,r,hr=>by
  simp only[eachLen] at h
  split at h
  ·rename_i hb
   rcases List.mem_cons.1 hr with rfl|hr
   ·exact Nat.eq_of_beq_eq_true hb
   ·exact eachLen_ok h r hr
  ·cases h
theorem kd3 {t:Nat} {ti:TI} {e:Nat} (h:FitsOne P t ti) (h3:Nat.beq ti.kd 3=true) (hel:ti.el=some e):P.underlying t=some (.slice e):=by
 obtain ⟨d,hd,_,_,_,_,hdel,hkd⟩:=h.desc
 rw[Nat.eq_of_beq_eq_true h3] at hkd
 rw[hel] at hdel
 cases d <;> simp[kdOf] at hkd
 simp only[elOf,Option.some.injEq] at hdel;subst hdel;exact hd
theorem kd2 {t:Nat} {ti:TI} (h:FitsOne P t ti) (h2:Nat.beq ti.kd 2=true):P.underlying t=some .string:=by
 obtain ⟨d,hd,_,_,_,_,_,hkd⟩:=h.desc
 rw[Nat.eq_of_beq_eq_true h2] at hkd
 cases d <;> simp[kdOf] at hkd
 exact hd
theorem xOp_ok (hT:Fits P tt) {o:Oper} {k:V→SK} {kp:C→SK} {K:Act→World→Prop} {Q:Exit→Act→World→Prop} (h:xOp P gl tt w0.fx o.op fr L n k kp) (hx:Ok gl M0 S0 w0 N adr fr L n a w)
 (hk:∀ v w',After gl M0 S0 w0 N a k v w'→K (a.put o.dst v) w')
 (hp:∀ c fr' L' n' adr' x w',kp c fr' L' n'→Ok gl M0 S0 w0 N adr' fr' L' n' a w'→DenC adr' (Mut M0 adr' L') w' c x→Q (.panic [{ v:=x,recovered:=false }]) a w'):o.wp P a w K Q:=by
 obtain ⟨dst,op,ty,pos,after,guard⟩:=o
 have pcase:pOp P tt (sval gl fr) L op (fun s=>k s fr L n)→Oper.wp P ⟨dst,op,ty,pos,after,guard⟩ a w K Q:=by
  intro h
  obtain ⟨s,hK,hg⟩:=pOp_ok (gl:=gl) hT (o:=⟨dst,op,ty,pos,after,guard⟩) h
  obtain ⟨v,h1,h2⟩:=hg M0 adr L n w a.eval (fun _ _ h=>h) hx.wok hx.glob (fun x _ s hs=>hx.sval hs)
  unfold Oper.wp
  rw[h1,Oper.upon_value]
  exact hk v w ⟨s,fr,L,n,adr,hK,hx,h2⟩
 have call:∀ (g:Nat) (vs:List V) (xs:List Value) (c:Call),rCall P gl w0.fx g vs fr L n k kp→All2 (DenV adr (Mut M0 adr L) w) vs xs→op=.call c→(execOp a.eval ⟨dst,op,ty,pos,after,guard⟩).run P w=(callFunc g xs.toArray).run P w→Oper.wp P ⟨dst,op,ty,pos,after,guard⟩ a w K Q:=by
  intro g vs xs c hc hd _ he
  unfold Oper.wp
  rw[he]
  rcases rCall_ok hc hx hd with ⟨hB,hC⟩|⟨v,w',h1,h2⟩
  ·rw[hB.enters,Oper.upon_enter]
   refine hC.mono fun e w' hret=>?_
   rcases hret with ⟨v,x,adr',fr',L',n',rfl,h1,h2,h3⟩|⟨c,x,adr',fr',L',n',rfl,h1,h2,h3⟩
   ·exact hk x w' ⟨v,fr',L',n',adr',h1,h2,h3⟩
   ·exact hp c fr' L' n' adr' x w' h1 h2 h3
  ·rw[h1,Oper.upon_value]
   rcases h2 with ⟨v',x,adr',fr',L',n',e1,h1,h2,h3⟩|⟨c,x,adr',fr',L',n',e1,h1,h2,h3⟩
   ·cases e1;exact hk v w' ⟨v',fr',L',n',adr',h1,h2,h3⟩
   ·cases e1
 cases op with
 | box t y =>
  obtain ⟨s,hs,h⟩:=onS_ok h
  split at h
  ·rename_i xs
   obtain ⟨z,rows,⟨⟨hz,hrl,hml,hsc⟩,hxs⟩,h⟩:=h
   have hd:DenV adr (Mut M0 adr L) w (.c (.d (.v (.agg xs)))) (a.eval y):=hx.sval hs
   have he:a.eval y=.agg xs:=DenD.v_inv hd
   have hr:(Instr.box t (a.eval y)).run P w=.ok (.pointer (some ⟨w.heap.size,0,none⟩)) (w.alloc (.cells (rows.flatten.map undD).toArray t (0,0))):=by
    rw[he,hxs]
    simp only[Instr.box,newVar,newRow,Sem.run_bind,run_newObj_alloc,Result.andThen_ok,Sem.run_pure]
    rfl
   have hdn:DenL (Mut M0 adr L) w rows.flatten (rows.flatten.map undD):=by
    clear hxs hrl hml h
    generalize rows.flatten=l at hsc
    induction l with
    | nil=>exact trivial
    | cons d l ih=>exact ⟨undD_den (hsc d (by simp)),ih fun d hd=>hsc d (by simp[hd])⟩
   unfold Oper.wp execOp
   simp only[Sem.run_bind,hr,Result.andThen_ok,Sem.run_pure]
   rw[Oper.upon_value]
   exact hk _ _ ⟨_,_,_,_,_,h,hx.pushRows t hz hrl hml hdn,w.heap.size,_,by unfold adrPush;rw[if_pos rfl],rfl⟩
  ·split at h
   ·rename_i l hl
    have hd:=cellsOf_ok hl (hx.sval hs)
    have hr:(Instr.box t (a.eval y)).run P w=.ok (.pointer (some ⟨w.heap.size,0,none⟩)) (w.alloc (.cells (a.eval y).cells t (0,0))):=by
     simp only[Instr.box,newVar,newRow,Sem.run_bind,run_newObj_alloc,Result.andThen_ok,Sem.run_pure]
    unfold Oper.wp execOp
    simp only[Sem.run_bind,hr,Result.andThen_ok,Sem.run_pure]
    rw[Oper.upon_value]
    have hpv:=hx.pushVar t hd
    rw[Array.toArray_toList] at hpv
    exact hk _ _ ⟨_,_,_,_,_,h,hpv,w.heap.size,0,by unfold adrPush;rw[if_pos rfl],rfl⟩
   ·exact h.elim
 | alloc t =>
  obtain ⟨ti,hl,h⟩:=onT_ok h
  obtain ⟨i,z,hq,_,_,hz,hzc⟩:=(hT t ti hl).infoE
  have hcells:z.cells=(ti.zero.map undD).toArray:=by rw[← hzc]
  have hr:(Instr.alloc t true (.tuple #[])).run P w=.ok (.pointer (some ⟨w.heap.size,0,none⟩)) (w.alloc (.cells (ti.zero.map undD).toArray t (0,0))):=by
   simp only[Instr.alloc,zeroValue,typeInfo,Sem.run_bind,run_program,Result.andThen_ok,hq,hz,Sem.run_pure,newVar,newRow,run_newObj_alloc,hcells]
  unfold Oper.wp execOp
  simp only[Sem.run_bind,hr,Result.andThen_ok,Sem.run_pure]
  rw[Oper.upon_value]
  split at h
  ·obtain ⟨hsz,h⟩:=onB_ok h
   have hsz:=Nat.le_of_ble_eq_true hsz
   have hzl:=(hT t ti hl).zlen
   have hfl:(ti.zero.map fun d=>[d]).flatten=ti.zero:=by
    generalize ti.zero=l
    induction l with
    | nil=>rfl
    | cons d l ih=>rw[List.map_cons,List.flatten_cons,ih];rfl
   have hd:DenL (Mut M0 adr L) w (ti.zero.map fun d=>[d]).flatten (ti.zero.map undD):=by rw[hfl];exact (hT t ti hl).zeroDen _ _
   exact hk _ _ ⟨_,_,_,_,_,h,hx.pushRows t (Nat.one_pos) (fun r hr=>by
    obtain ⟨d,_,rfl⟩:=List.mem_map.1 hr
    rfl) (by rw[List.length_map];unfold maxLen;omega) hd,w.heap.size,_,by unfold adrPush;rw[if_pos rfl],rfl⟩
  ·rw[fL_eq] at h
   have hd:DenCs adr (Mut M0 adr L) w (ti.zero.map C.d) (ti.zero.map undD):=All2.map_left.2 ((hT t ti hl).zeroDen _ _)
   exact hk _ _ ⟨_,_,_,_,_,h,hx.pushVar t hd,w.heap.size,0,by unfold adrPush;rw[if_pos rfl],rfl⟩
 | store t y z =>
  obtain ⟨c,hc,h⟩:=onC_ok h
  obtain ⟨ti,hl,h⟩:=onT_ok h
  obtain ⟨s,hs,h⟩:=onS_ok h
  split at h
  ·rename_i l hcl
   obtain ⟨hlen,h0⟩:=onB_ok h
   clear h
   have fin:∀ {fr':List (Nat×V)} {L1:List (Nat×Blk)} {c':C} {s':V} {l':List C},rStore L1 c' l' (fun L2=>k (.c (.d (.v undef))) fr' L2 n)→Ok gl M0 S0 w0 N adr fr' L1 n a w→sval gl fr' y=some (.c c')→sval gl fr' z=some s'→cellsOf s'=some l'→l'.length=ti.size→Oper.wp P ⟨dst,.store t y z,ty,pos,after,guard⟩ a w K Q:=by
    intro fr' L1 c' s' l' h hx hc hs hcl hlen
    obtain ⟨w',L',h1,h2,h3⟩:=rStore_ok hT hl h hx hcl hlen (hx.sval hc) (hx.sval hs)
    unfold Oper.wp execOp
    simp only[Sem.run_bind,h1,Result.andThen_ok,Sem.run_pure]
    rw[Oper.upon_skip]
    exact hk _ _ ⟨_,_,_,_,_,h2,h3,.v _⟩
   split at h0
   ·obtain ⟨fr',L',q1,hx'⟩:=frzAll_ok h0 hx
    obtain ⟨c',hc',q2⟩:=onC_ok q1
    obtain ⟨s',hs',q3⟩:=onS_ok q2
    split at q3
    ·rename_i l' hcl'
     obtain ⟨hlen',q4⟩:=onB_ok q3
     exact fin q4 hx' hc' hs' hcl' (Nat.eq_of_beq_eq_true hlen')
    ·exact q3.elim
   ·exact fin h0 hx hc hs hcl (Nat.eq_of_beq_eq_true hlen)
  ·exact h.elim
 | buildSlice t len ps =>
  obtain ⟨ti,hl,q1⟩:=onT_ok h
  clear h
  split at q1
  ·rename_i e h3 hel
   obtain ⟨te,hle,q2⟩:=onT_ok q1
   clear q1
   have fin:∀ {fr':List (Nat×V)} {L1:List (Nat×Blk)} {vs:List V} {rs:List (List D)},svals gl fr' (ps.toList.map (·.2))=some vs→rowsV vs=some rs→rBuildS gl te e len ps.toList rs vs.length fr' L1 n k→Ok gl M0 S0 w0 N adr fr' L1 n a w→Oper.wp P ⟨dst,.buildSlice t len ps,ty,pos,after,guard⟩ a w K Q:=by
    intro fr' L1 vs rs hvs hrs h hx
    obtain ⟨g1,z1⟩:=onB_ok h
    obtain ⟨g2,z2⟩:=onB_ok z1
    obtain ⟨g3,z3⟩:=onB_ok z2
    obtain ⟨g4,z4⟩:=onB_ok z3
    obtain ⟨g5,z5⟩:=onB_ok z4
    obtain ⟨g6,hK⟩:=onB_ok z5
    clear h z1 z2 z3 z4 z5
    have g1:0<te.size:=by simp[Nat.blt,Nat.ble_eq] at g1;omega
    have g3:=Nat.eq_of_beq_eq_true g3
    have g4:0<len:=by simp[Nat.blt,Nat.ble_eq] at g4;omega
    have g5:=Nat.le_of_ble_eq_true g5
    have hden:=hx.svals hvs
    have hlv:=All2.length hden
    have hrow:=rowsV_ok hrs hden
    have hrl:=All2.length hrow
    have hz:=eachLen_ok g6
    obtain ⟨cur,h1,h2⟩:=run_buildSlice_rows w (kd3 (hT t ti hl) h3 hel) (hT e te hle) g1 hrow hz (by rw[← hlv,g3];exact g5) (by rw[← hlv,g3];exact g4)
    have hmax:rs.length≤maxLen:=by
     rw[hrl,← hlv,g3]
     have:len≤len * te.size:=Nat.le_mul_of_pos_right _ g1
     simp only[maxLen];omega
    have hcl:=All2.length h2
    rw[flatten_length hz] at hcl
    obtain ⟨e1,e2⟩:=hx.allNew (cap:=rs.length) e g1 hz hmax (Nat.le_refl _) hcl.symm (by rw[List.take_of_length_le (by omega)];exact h2)
    have hparts:(ps.map fun (i,x)=>(i,a.eval x))=((((ps.toList.map (·.2)).map a.eval).zipIdx 0).map fun x=>(x.2,x.1)).toArray:=by
     apply Array.ext'
     have:=dense_ok a.eval g2
     rw[List.map_map]
     simp only[Function.comp_def]
     rw[← this]
     simp
    have hlen:((ps.toList.map (·.2)).map a.eval).length=len:=by rw[← hlv,g3]
    rw[hlen] at h1
    unfold Oper.wp execOp
    simp only[hparts,Sem.run_bind,h1,Result.andThen_ok,Sem.run_pure]
    rw[Oper.upon_value]
    have hrlen:rs.length=len:=by rw[hrl,← hlv,g3]
    rw[hrlen] at e2 e1
    exact hk _ _ ⟨_,_,_,_,_,hK,e1,e2⟩
   split at q2
   ·rename_i vs hvs
    split at q2
    ·rename_i rs hrs
     exact fin hvs hrs q2 hx
    ·obtain ⟨fr',L',q3,hx'⟩:=frzAll_ok q2 hx
     split at q3
     ·rename_i vs' hvs'
      split at q3
      ·rename_i rs hrs
       exact fin hvs' hrs q3 hx'
      ·exact q3.elim
     ·exact q3.elim
   ·exact q2.elim
  ·exact q1.elim
 | makeSlice t x y =>
  obtain ⟨cx,hcx,q1⟩:=onC_ok h
  obtain ⟨cy,hcy,q2⟩:=onC_ok q1
  obtain ⟨ti,hl,q3⟩:=onT_ok q2
  clear h q1 q2
  split at q3
  ·rename_i k1 m1 k2 m2
   split at q3
   ·rename_i e h3 hel
    obtain ⟨te,hle,q4⟩:=onT_ok q3
    obtain ⟨g1,⟨g2,g3,g4,g5⟩,h⟩:=onB_ok q4
    clear q3 q4
    have g1:0<te.size:=by simp[Nat.blt,Nat.ble_eq] at g1;omega
    have ex:=DenD.v_inv (hx.sval hcx)
    have ey:=DenD.v_inv (hx.sval hcy)
    obtain ⟨i,z,hq,hsz,hby,hz,hzc⟩:=(hT e te hle).infoE
    have hr:=run_make (P:=P) w t e i z (kd3 (hT t ti hl) h3 hel) hq hz k1 k2 m1 m2 g2 g3 (by rw[hby];exact g4) g5
    have hzs:z.cells.size=te.size:=by rw[← Array.length_toList,hzc,List.length_map,(hT e te hle).zlen]
    have hrow:∀ r ∈ List.replicate m1.toNat te.zero,r.length=te.size:=fun r hr=>by rw[List.eq_of_mem_replicate hr];exact (hT e te hle).zlen
    have hm2:m2.toNat≤maxLen:=by simp only[maxLen];omega
    have hden:DenL (Mut M0 adr L) w (List.replicate m1.toNat te.zero).flatten ((madeCells z.cells (m2.toNat * i.size)).toList.take (m1.toNat * te.size)):=by
     have:=made_take (z:=z.cells) (n:=m1.toNat) (c:=m2.toNat) (by omega)
     rw[hsz,← hzs,this,hzc]
     clear this
     induction m1.toNat with
     | zero=>trivial
     | succ q ih=>rw[List.replicate_succ,List.replicate_succ,List.flatten_cons,List.flatten_cons];exact All2.app ((hT e te hle).zeroDen _ _) ih
    obtain ⟨e1,e2⟩:=hx.allNew (l:=List.replicate m1.toNat te.zero) (xs:=(madeCells z.cells (m2.toNat * i.size)).toList) (cap:=m2.toNat) e g1 hrow hm2 (by simp;omega) (by simp[size_madeCells,hsz]) (by simpa using hden)
    unfold Oper.wp execOp
    simp only[ex,ey,Sem.run_bind,hr,Result.andThen_ok,Sem.run_pure]
    rw[Oper.upon_value]
    rw[List.length_replicate] at e1 e2
    rw[Array.toArray_toList] at e1 e2
    exact hk _ _ ⟨_,_,_,_,_,h,e1,e2⟩
   ·exact q3.elim
  ·exact q3.elim
 | convert src d x =>
  obtain ⟨c,hc,q1⟩:=onC_ok h
  obtain ⟨ts,hl,q2⟩:=onT_ok q1
  obtain ⟨td,hl2,q3⟩:=onT_ok q2
  clear h q1 q2
  split at q3
  ·rename_i e l h3 hel
   obtain ⟨te,hle,q4⟩:=onT_ok q3
   obtain ⟨g1,q5⟩:=onB_ok q4
   obtain ⟨g2,hlen,h'⟩:=onB_ok q5
   clear q3 q4 q5
   have hstr:P.underlying src=some .string:=by
    obtain ⟨d,hd,_,_,_,_,_,hkd⟩:=(hT src ts hl).desc
    rw[Nat.eq_of_beq_eq_true g1] at hkd
    cases d <;> simp[kdOf] at hkd;exact hd
   have hu8:P.underlying e=some (.int .u8):=by
    obtain ⟨de,ee,_,_,_,ike,_⟩:=(hT e te hle).desc
    cases hk:te.ik with
    | none=>rw[hk] at g2;cases g2
    | some k =>
     rw[hk] at g2 ike
     obtain rfl:=ikeq_ok g2
     cases de <;> simp only[ikOf,reduceCtorEq,Option.some.injEq] at ike
     subst ike;exact ee
   have ex:=DenD.str_inv (hx.sval hc)
   obtain ⟨v,w',h1,h2,h3'⟩:=run_str_bytes w hstr (kd3 (hT d td hl2) h3 hel) hu8 (M:=Mut M0 adr L) (fun b hb=>hx.wok.mutLt hb) l hlen
   unfold Oper.wp execOp
   simp only[ex,Sem.run_bind,h1,Result.andThen_ok,Sem.run_pure]
   rw[Oper.upon_value]
   exact hk _ _ ⟨_,_,_,_,_,h',hx.evo h2,h3'⟩
  ·refine pcase ?_
   show onC (sval gl fr x) _
   rw[hc]
   show onT tt src _
   unfold onT
   rw[hl]
   show match look tt d with|some ti=>_|none=>False
   rw[hl2]
   exact q3
 | call c =>
  obtain ⟨callee,args,ats⟩:=c
  cases callee with
  | value f =>
   obtain ⟨cf,hcf,q1⟩:=onC_ok h
   clear h
   have plain:∀ (g:Nat) (vs:List V),svals gl fr args.toList=some vs→a.eval f=.func (.func g) #[] #[]→(rCall P gl w0.fx g vs fr L n k kp∨fcall P gl g vs args.toList fr L n k)→Oper.wp P ⟨dst,.call ⟨.value f,args,ats⟩,ty,pos,after,guard⟩ a w K Q:=by
    intro g vs hvs e1 h
    have he:(execOp a.eval ⟨dst,.call ⟨.value f,args,ats⟩,ty,pos,after,guard⟩).run P w=(callFunc g (args.toList.map a.eval).toArray).run P w:=by
     unfold execOp
     simp only[resolve,e1,Deferred.ofValue,Sem.run_bind,Sem.run_pure,Result.andThen_ok,invoke,Array.empty_append,Array.append_empty]
     congr 2
     apply Array.ext'
     simp
    rcases h with h|h
    ·exact call g _ (args.toList.map a.eval) ⟨.value f,args,ats⟩ h (hx.svals hvs) rfl he
    ·obtain ⟨fr',L',q3,hx'⟩:=frzAll_ok h hx
     split at q3
     ·rename_i vs' hvs'
      unfold Oper.wp
      rw[he]
      rcases pcall_ok q3 hx' (hx'.svals hvs') with ⟨hB,hC⟩|⟨v,w',h1,h2⟩
      ·rw[hB.enters,Oper.upon_enter]
       refine hC.mono fun e w' hret=>?_
       obtain ⟨v,x,adr',fr',L',n',rfl,h1,h2,h3⟩:=hret
       exact hk x w' ⟨v,fr',L',n',adr',h1,h2,h3⟩
      ·rw[h1,Oper.upon_value]
       obtain ⟨v',x,adr',fr',L',n',e1,h1,h2,h3⟩:=h2
       cases e1
       exact hk _ w' ⟨v',fr',L',n',adr',h1,h2,h3⟩
     ·exact q3.elim
   split at q1
   ·rename_i vs hvs
    have hden:=hx.svals hvs
    have hf:=hx.sval hcf
    split at q1
    ·rename_i g
     obtain ⟨xs,e1,e2⟩:=hf
     rw[All2.nil_iff] at e2;subst e2
     exact plain g vs hvs e1 q1
    ·rename_i g cs _
     obtain ⟨xs,e1,e2⟩:=hf
     refine call g _ (args.toList.map a.eval++xs) ⟨.value f,args,ats⟩ q1 (All2.app hden (caps_den e2)) rfl ?_
     unfold execOp
     simp only[resolve,e1,Deferred.ofValue,Sem.run_bind,Sem.run_pure,Result.andThen_ok,invoke,Array.empty_append]
     congr 2
     apply Array.ext'
     simp
    ·rename_i g
     exact plain g vs hvs (DenD.v_inv hf) q1
    ·exact q1.elim
   ·exact q1.elim
  | builtin b =>
   cases b with
   | append =>
    simp only[xOp] at h
    split at h
    ·rename_i x y t t'
     obtain ⟨cx,hcx,q1⟩:=onC_ok h
     obtain ⟨cy,hcy,q2⟩:=onC_ok q1
     obtain ⟨ti,hl,q3⟩:=onT_ok q2
     clear h q1 q2
     split at q3
     ·rename_i e g1 g2 hel
      obtain ⟨te,hle,h⟩:=onT_ok q3
      clear q3
      have g1:=Nat.eq_of_beq_eq_true g1
      subst g1
      obtain ⟨v',w',h1,h2⟩:=rAppend_ok (ty:=ty) (kd3 (hT t ti hl) g2 hel) (hT e te hle) h hx (hx.sval hcx) (hx.sval hcy)
      have h1':(Builtin.append_ { toList:=[t,t] } ty #[a.eval x,a.eval y]).run P w=.ok v' w':=h1
      unfold Oper.wp
      have:(execOp a.eval ⟨dst,.call ⟨.builtin .append,⟨[x,y]⟩,⟨[t,t]⟩⟩,ty,pos,after,guard⟩).run P w=.ok (.value v') w':=by
       simp[execOp,resolve,invoke,builtin,h1']
      rw[this,Oper.upon_value]
      exact hk _ _ h2
     ·rename_i e _ g2 hel
      obtain ⟨tj,hlj,q4⟩:=onT_ok q3
      obtain ⟨te,hle,q5⟩:=onT_ok q4
      obtain ⟨g3,h⟩:=onB_ok q5
      clear q3 q4 q5
      obtain ⟨v',w',h1,h2⟩:=rAppendS_ok (ty:=ty) (kd3 (hT t ti hl) g2 hel) (kd2 (hT t' tj hlj) g3) (hT e te hle) h hx (hx.sval hcx) (hx.sval hcy)
      have h1':(Builtin.append_ { toList:=[t,t'] } ty #[a.eval x,a.eval y]).run P w=.ok v' w':=h1
      unfold Oper.wp
      have:(execOp a.eval ⟨dst,.call ⟨.builtin .append,⟨[x,y]⟩,⟨[t,t']⟩⟩,ty,pos,after,guard⟩).run P w=.ok (.value v') w':=by
       simp[execOp,resolve,invoke,builtin,h1']
      rw[this,Oper.upon_value]
      exact hk _ _ h2
     ·exact q3.elim
    ·exact h.elim
   | clear =>
    simp only[xOp] at h
    split at h
    ·rename_i x t
     obtain ⟨cx,hcx,q1⟩:=onC_ok h
     obtain ⟨ti,hl,q2⟩:=onT_ok q1
     clear h q1
     split at q2
     ·rename_i e g2 hel
      obtain ⟨te,hle,h⟩:=onT_ok q2
      clear q2
      obtain ⟨w',L',h1,h2,h3⟩:=rClear_ok (ty:=ty) (kd3 (hT t ti hl) g2 hel) (hT e te hle) h hx (hx.sval hcx)
      have h1':(Builtin.clear_ { toList:=[t] } ty #[a.eval x]).run P w=.ok (.tuple #[]) w':=h1
      unfold Oper.wp
      have:(execOp a.eval ⟨dst,.call ⟨.builtin .clear,⟨[x]⟩,⟨[t]⟩⟩,ty,pos,after,guard⟩).run P w=.ok (.value (.tuple #[])) w':=by
       simp[execOp,resolve,invoke,builtin,h1']
      rw[this,Oper.upon_value]
      exact hk _ _ ⟨_,_,_,_,_,h2,h3,[],rfl,trivial⟩
     ·exact q2.elim
    ·exact h.elim
   | _=>exact pcase h
  | invoke r m=>exact pcase h
 | panic x =>
  obtain ⟨c,hc,h⟩:=onC_ok h
  obtain ⟨hi,h⟩:=onB_ok h
  have hd:=hx.sval hc
  obtain ⟨t,u,e1⟩:=isIf_ok hi hd
  unfold Oper.wp
  have:(execOp a.eval ⟨dst,.panic x,ty,pos,after,guard⟩).run P w=.halt (.panic (a.eval x)) w:=by
   simp[execOp,Instr.panic,e1,goPanic]
  rw[this,Oper.upon_panic]
  exact hp c fr L n adr _ w h hx hd
 | makeMap t r =>
  obtain ⟨ti,hl,h⟩:=onT_ok h
  obtain ⟨h9,h⟩:=onB_ok h
  have fin:∀ (rv:Option Value),(rv=none∨∃ kk m,rv=some (.int kk m))→k (.c (.mref n)) fr ((n,.mp [] [])::L) (n+1)→r.map a.eval=rv→Oper.wp P ⟨dst,.makeMap t r,ty,pos,after,guard⟩ a w K Q:=by
   intro rv hrv h he
   obtain ⟨d,hd,_,_,_,_,_,hkd⟩:=(hT t ti hl).desc
   rw[Nat.eq_of_beq_eq_true h9] at hkd
   have hm:∃ kt et,P.underlying t=some (.map kt et):=by
    cases d <;> simp[kdOf] at hkd
    exact ⟨_,_,hd⟩
   obtain ⟨kt,et,hm⟩:=hm
   have hr:(Instr.makeMap t rv).run P w=.ok (.map (some w.heap.size)) (w.alloc (.map #[] 0)):=by
    rcases hrv with rfl|⟨kk,m,rfl⟩
    ·simp only[Instr.makeMap,Sem.run_bind,run_newObj_alloc,Result.andThen_ok,Sem.run_pure]
    ·simp[Instr.makeMap,run_underlying hm,asInt,asIntOf]
   unfold Oper.wp execOp
   simp only[he,Sem.run_bind,hr,Result.andThen_ok,Sem.run_pure]
   rw[Oper.upon_value]
   exact hk _ _ ⟨_,_,_,_,_,h,hx.pushMap,w.heap.size,0,by unfold adrPush;rw[if_pos rfl],rfl⟩
  split at h
  ·exact fin none (.inl rfl) h rfl
  ·rename_i y
   obtain ⟨c,hc,h⟩:=onC_ok h
   split at h
   ·rename_i kk m
    have hd:=hx.sval hc
    exact fin (some (.int kk m)) (.inr ⟨_,_,rfl⟩) h (by rw[Option.map_some,DenD.v_inv hd])
   ·exact h.elim
 | mapUpdate t m y z =>
  obtain ⟨cm,hcm,h⟩:=onC_ok h
  obtain ⟨sk,hsk,h⟩:=onS_ok h
  obtain ⟨sx,hsx,h⟩:=onS_ok h
  obtain ⟨ti,hl,h⟩:=onT_ok h
  obtain ⟨h9,h⟩:=onB_ok h
  split at h
  ·rename_i kt et j kd vd hsub hkd hvd _ _ _ _
   have ht:=kd9 (hT t ti hl) h9 hsub
   split at h
   ·rename_i ks vs hj
    obtain ⟨s,⟨hK,hks,hall⟩,h⟩:=h
    obtain ⟨b,q,hab,hme⟩:=hx.sval hcm
    obtain ⟨xk,hxk⟩:=keyS_some hks
    have hke:=keyV_den hks hxk (keyOfV_ok hkd (hx.sval hsk))
    have hve:=keyOfV_ok hvd (hx.sval hsx)
    have hloc:=hx.wok.loc j _ hj
    rw[hab] at hloc
    obtain ⟨es,cl,hb,hm⟩:=hloc
    obtain ⟨g1,g2⟩:=run_mapUpdate ht hK hb hm hall hks hxk hve
    have fin:∀ {ks' vs':List D} {es':Array MapEntry} {cl':Nat},(Instr.mapUpdate t (.map (some b)) xk (a.eval z)).run P w=.ok () (mapSet w b (.map es' cl'))→MapOk (Mut M0 adr L) w ks' vs' es'→(setLK L j (.mp ks' vs') fun L'=>k (.c (.d (.v undef))) fr L' n)→Oper.wp P ⟨dst,.mapUpdate t m y z,ty,pos,after,guard⟩ a w K Q:=by
     intro ks' vs' es' cl' hr hm' h
     rw[setLK_eq] at h
     unfold Oper.wp execOp
     simp only[hme,hke,Sem.run_bind,hr,Result.andThen_ok,Sem.run_pure]
     rw[Oper.upon_skip]
     exact hk _ _ ⟨_,_,_,_,_,h,hx.setMap hj hab hb hm',.v _⟩
    rcases h with ⟨hn,h⟩|⟨i,hi,h⟩
    ·obtain ⟨es',cl',hr,hm'⟩:=g1 hn
     exact fin hr hm' h
    ·obtain ⟨es',cl',hr,hm'⟩:=g2 i hi
     exact fin hr hm' h
   ·exact h.elim
  ·exact h.elim
 | insert t m y z =>
  obtain ⟨cm,hcm,h⟩:=onC_ok h
  obtain ⟨sk,hsk,h⟩:=onS_ok h
  obtain ⟨sx,hsx,h⟩:=onS_ok h
  obtain ⟨ti,hl,h⟩:=onT_ok h
  obtain ⟨h9,h⟩:=onB_ok h
  split at h
  ·rename_i kt et j kd vd hsub hkd hvd _ _ _ _
   have ht:=kd9 (hT t ti hl) h9 hsub
   split at h
   ·rename_i ks vs hj
    obtain ⟨s,⟨hK,hks,hall⟩,h⟩:=h
    obtain ⟨b,q,hab,hme⟩:=hx.sval hcm
    obtain ⟨xk,hxk⟩:=keyS_some hks
    have hke:=keyV_den hks hxk (keyOfV_ok hkd (hx.sval hsk))
    have hve:=keyOfV_ok hvd (hx.sval hsx)
    have hloc:=hx.wok.loc j _ hj
    rw[hab] at hloc
    obtain ⟨es,cl,hb,hm⟩:=hloc
    obtain ⟨g1,g2⟩:=run_mapUpdate ht hK hb hm hall hks hxk hve
    have fin:∀ {ks' vs':List D} {es':Array MapEntry} {cl':Nat},(Instr.mapUpdate t (.map (some b)) xk (a.eval z)).run P w=.ok () (mapSet w b (.map es' cl'))→MapOk (Mut M0 adr L) w ks' vs' es'→(setLK L j (.mp ks' vs') fun L'=>k (.c (.d (.v undef))) fr L' n)→Oper.wp P ⟨dst,.insert t m y z,ty,pos,after,guard⟩ a w K Q:=by
     intro ks' vs' es' cl' hr hm' h
     rw[setLK_eq] at h
     unfold Oper.wp execOp
     simp only[hme,hke,Sem.run_bind,hr,Result.andThen_ok,Sem.run_pure]
     rw[Oper.upon_skip]
     exact hk _ _ ⟨_,_,_,_,_,h,hx.setMap hj hab hb hm',.v _⟩
    rcases h with ⟨hn,h⟩|⟨i,hi,h⟩
    ·obtain ⟨es',cl',hr,hm'⟩:=g1 hn
     exact fin hr hm' h
    ·obtain ⟨es',cl',hr,hm'⟩:=g2 i hi
     exact fin hr hm' h
   ·exact h.elim
  ·exact h.elim
 | _=>exact pcase h
end
end Go.EYtfcmhmglpcimiaaGreatDoor
