/- Proved: a part of what the law is proved with (the reckoner, contracts of functions, plain laws). Conditions: as each says. -/
import Derived.Test.YtfcmhmglpcimiaaGreatDoorKEi
namespace Go.EYtfcmhmglpcimiaaGreatDoor
open Go Go.RowKit
def fC (c:C) (K:C→Prop):Prop :=
 match c with
 | .d x=>match x with
  | .v a=>K (.d (.v a))
  | .b p i=>K (.d (.b p i))
  | .str l=>K (.d (.str l))
  | .lst z l=>K (.d (.lst z l))
  | .imm l=>K (.d (.imm l))
  | .ifc t g l=>K (.d (.ifc t g l))
  | .agg l=>K (.d (.agg l))
  | .tup l=>K (.d (.tup l))
  | .mp ks vs=>K (.d (.mp ks vs))
 | .ptr k o=>K (.ptr k o)
 | .elt z k i o=>K (.elt z k i o)
 | .own z k i n=>K (.own z k i n)
 | .all z k=>K (.all z k)
 | .fn f cs=>K (.fn f cs)
 | .mref k=>K (.mref k)
 | .junk=>K .junk
theorem fC_eq (c:C) (K:C→Prop):fC c K=K c:=by
 cases c <;> try rfl
 case d x=>cases x <;> rfl
def fL (l:List C):(List C→Prop)→Prop :=
 List.rec (motive:=fun _=>(List C→Prop)→Prop) (fun K=>K []) (fun c _ ih K=>fC c fun c'=>ih fun r'=>K (c'::r')) l
theorem fL_eq:∀ (l:List C) (K:List C→Prop),fL l K=K l
 | [],K=>rfl
 | c::r,K=>by show fC c (fun c'=>fL r fun r'=>K (c'::r'))=_;rw[fC_eq,fL_eq r]
def fT (l:List (Bool×List C)):(List (Bool×List C)→Prop)→Prop :=
 List.rec (motive:=fun _=>(List (Bool×List C)→Prop)→Prop) (fun K=>K []) (fun p _ ih K=>Prod.rec (motive:=fun _=>Prop) (fun b l=>fL l fun l'=>ih fun r'=>K ((b,l')::r')) p) l
theorem fT_eq:∀ (l:List (Bool×List C)) (K:List (Bool×List C)→Prop),fT l K=K l
 | [],K=>rfl
 | (b,l)::r,K=>by show fL l (fun l'=>fT r fun r'=>K ((b,l')::r'))=_;rw[fL_eq,fT_eq r]
def fV (s:V) (K:V→Prop):Prop :=
 match s with
 | .c x=>fC x fun x'=>K (.c x')
 | .agg l=>fL l fun l'=>K (.agg l')
 | .tup l=>fT l fun l'=>K (.tup l')
theorem fV_eq (s:V) (K:V→Prop):fV s K=K s:=by
 cases s
 ·exact fC_eq _ (fun x'=>K (.c x'))
 ·exact fL_eq _ (fun l'=>K (.agg l'))
 ·exact fT_eq _ (fun l'=>K (.tup l'))
def fF (l:List (Nat×V)):(List (Nat×V)→Prop)→Prop :=
 List.rec (motive:=fun _=>(List (Nat×V)→Prop)→Prop) (fun K=>K []) (fun p _ ih K=>Prod.rec (motive:=fun _=>Prop) (fun t s=>fV s fun s'=>ih fun r'=>K ((t,s')::r')) p) l
theorem fF_eq:∀ (l:List (Nat×V)) (K:List (Nat×V)→Prop),fF l K=K l
 | [],K=>rfl
 | (t,s)::r,K=>by show fV s (fun s'=>fF r fun r'=>K ((t,s')::r'))=_;rw[fV_eq,fF_eq r]
def fBs (l:List (Nat×Blk)):(List (Nat×Blk)→Prop)→Prop :=
 List.rec (motive:=fun _=>(List (Nat×Blk)→Prop)→Prop) (fun K=>K []) (fun p _ ih K=>Prod.rec (motive:=fun _=>Prop) (fun k B=>match B with
  | .var l t=>fL l fun l'=>ih fun r'=>K ((k,.var l' t)::r')
  | .rows z l e=>ih fun r'=>K ((k,.rows z l e)::r')
  | .mp ks vs=>ih fun r'=>K ((k,.mp ks vs)::r')) p) l
theorem fBs_eq:∀ (l:List (Nat×Blk)) (K:List (Nat×Blk)→Prop),fBs l K=K l
 | [],K=>rfl
 | (k,.var l t)::r,K=>by show fL l (fun l'=>fBs r fun r'=>K ((k,.var l' t)::r'))=_;rw[fL_eq,fBs_eq r]
 | (k,.rows z l e)::r,K=>by show fBs r (fun r'=>K ((k,.rows z l e)::r'))=_;rw[fBs_eq r]
 | (k,.mp ks vs)::r,K=>by show fBs r (fun r'=>K ((k,.mp ks vs)::r'))=_;rw[fBs_eq r]
def setLK (l:List (Nat×Blk)) (k:Nat) (B:Blk):(List (Nat×Blk)→Prop)→Prop :=
 List.rec (motive:=fun _=>(List (Nat×Blk)→Prop)→Prop) (fun K=>K []) (fun p r ih K=>Prod.rec (motive:=fun _=>Prop) (fun j B'=>match Nat.beq j k with
  | true=>K ((j,B)::r)
  | false=>ih fun r'=>K ((j,B')::r')) p) l
theorem setLK_eq:∀ (L:List (Nat×Blk)) (k:Nat) (B:Blk) (K:List (Nat×Blk)→Prop),setLK L k B K=K (setL L k B)
 | [],_,_,K=>rfl
 | (j,B')::r,k,B,K=>by
  show (match Nat.beq j k with|true=>K ((j,B)::r)|false=>setLK r k B fun r'=>K ((j,B')::r'))=_
  simp only[setL]
  cases Nat.beq j k with
  | true=>rfl
  | false=>simp only[setLK_eq r,cond_false]
def putK (dst:Option Nat) (s:V) (fr:List (Nat×V)) (K:List (Nat×V)→Prop):Prop:=match dst with
 | some d=>K ((d,s)::fr)
 | none=>K fr
theorem putK_eq (dst:Option Nat) (s:V) (fr:List (Nat×V)) (K:List (Nat×V)→Prop):putK dst s fr K=K (putF fr dst s):=by cases dst <;> rfl
def frzC (k:Nat) (Q:Blk) (c:C):C:=match menC k c with
 | false=>c
 | true=>match Q with
  | .rows z l _=>(match c with
   | .all z' _=>bif Nat.beq z' z then .d (.lst z l) else .junk
   | _=>.junk)
  | .mp ks vs=>(match c with
   | .mref _=>.d (.mp ks vs)
   | _=>.junk)
  | .var _ _=>.junk
def frzV (k:Nat) (Q:Blk):V→V
 | .c x=>.c (frzC k Q x)
 | .agg cs=>.agg (cs.map (frzC k Q))
 | .tup ts=>.tup (ts.map fun p=>(p.1,p.2.map (frzC k Q)))
def frzB (k:Nat) (Q:Blk):Blk→Blk
 | .var cs t=>.var (cs.map (frzC k Q)) t
 | B=>B
def frzF (k:Nat) (Q:Blk):List (Nat×V)→List (Nat×V)
 | []=>[]
 | (t,s)::r=>(t,frzV k Q s)::frzF k Q r
def frzL (k:Nat) (Q:Blk):List (Nat×Blk)→List (Nat×Blk)
 | []=>[]
 | (j,B)::r=>bif Nat.beq j k then frzL k Q r else (j,frzB k Q B)::frzL k Q r
theorem look_frzF {k:Nat} {Q:Blk}:∀ {fr:List (Nat×V)} {t:Nat},look (frzF k Q fr) t=(look fr t).map (frzV k Q)
 | [],t=>rfl
 | (t',s)::r,t=>by
  simp only[frzF]
  rw[look_cons,look_cons]
  by_cases e:t'=t
  ·rw[if_pos e,if_pos e];rfl
  ·rw[if_neg e,if_neg e,look_frzF]
theorem look_frzL {k:Nat} {Q:Blk}:∀ {L:List (Nat×Blk)} {j:Nat},look (frzL k Q L) j=if j=k then none else (look L j).map (frzB k Q)
 | [],j=>by simp[frzL,look]
 | (i,B)::r,j=>by
  simp only[frzL]
  cases hb:Nat.beq i k with
  | true =>
   have e:=Nat.eq_of_beq_eq_true hb
   subst e
   simp only[cond_true]
   rw[look_frzL,look_cons]
   by_cases e:j=i
   ·rw[if_pos e,if_pos e]
   ·rw[if_neg e,if_neg e,if_neg (fun h=>e h.symm)]
  | false =>
   have e:=Nat.ne_of_beq_eq_false hb
   simp only[cond_false]
   rw[look_cons,look_cons,look_frzL]
   by_cases e1:i=j
   ·subst e1;rw[if_pos rfl,if_pos rfl,if_neg e];rfl
   ·rw[if_neg e1,if_neg e1]
section
variable {gl:List (Nat×List D)} {M0 S0:Nat→Prop} {w0:Base} {N:Nat} {adr:Env} {fr:List (Nat×V)} {L:List (Nat×Blk)} {n:Nat} {a:Act} {w:World}
theorem rows_lst (h:WOk M0 adr L n w) {k z e:Nat} {l:List (List D)} (hk:look L k=some (.rows z l e)) {M':Nat→Prop} (hM:∀ b,b<w.heap.size→M' b→Mut M0 adr L b) (hn:∀ b m,adr k=some (some b,m)→¬ M' b) {x:Value} (hx:AllAt adr w z k x):DenD M' w (.lst z l) x:=by
 have hloc:=h.loc k _ hk
 rcases hx with ⟨h5,rfl⟩|⟨b,q,cp,cur,ee,f,h5,h6,h7,h8,h9,rfl⟩
 ·rw[h5] at hloc
  obtain ⟨_,h6,_⟩:=hloc
  subst h6
  exact .lst0 _ _ _ (by simp[maxLen])
 ·rw[h5] at hloc
  obtain ⟨g1,g2,g3,cur',cp',g4,g5,g6,g7,g8⟩:=hloc
  subst g2
  rw[h6] at g4;cases g4
  have hb:b<w.heap.size:=(Array.getElem?_eq_some_iff.1 h6).1
  have hg:∀ i j d,get2 l i j=some d→∃ x,cur.toList[i * z+j]?=some x∧DenD (Mut M0 adr L) w d x:=fun i j d hd=>by
   obtain ⟨h1,h2⟩:=get2_lt g3 hd
   rw[← get2_flat g3 h2] at hd
   obtain ⟨x,hx1,hx2⟩:=All2.get g8 hd
   rw[List.getElem?_take] at hx1
   split at hx1
   ·exact ⟨x,hx1,hx2⟩
   ·cases hx1
  refine DenD.lst z l b 0 cp (fun i j=>cur.toList.getD (i * z+j) undef) hb (hn b _ h5) h8 h9 g3 (fun i j d hd=>?_) (fun i j d hd=>?_)
  ·obtain ⟨x,hx1,hx2⟩:=hg i j d hd
   simp only[World.cell?,h6]
   rw[Nat.zero_add]
   simp only[List.getD,hx1,Option.getD_some]
   simpa using hx1
  ·obtain ⟨x,hx1,hx2⟩:=hg i j d hd
   simp only[List.getD,hx1,Option.getD_some]
   exact hx2.less hM
theorem mp_data (h:WOk M0 adr L n w) {k:Nat} {ks vs:List D} (hk:look L k=some (.mp ks vs)) {M':Nat→Prop} (hM:∀ b,b<w.heap.size→M' b→Mut M0 adr L b) (hn:∀ b m,adr k=some (some b,m)→¬ M' b) {x:Value} (hx:∃ b m,adr k=some (some b,m)∧x=.map (some b)):DenD M' w (.mp ks vs) x:=by
 have hloc:=h.loc k _ hk
 obtain ⟨b,m,h5,rfl⟩:=hx
 rw[h5] at hloc
 obtain ⟨es,cl,g1,g2,g3,g4,g5,g6⟩:=hloc
 exact .mp ks vs b es cl (Array.getElem?_eq_some_iff.1 g1).1 (hn b m h5) g1 g2 g3 g4 g5 fun j d e h1 h2=>(g6 j d e h1 h2).less hM
theorem Ok.freeze (h:Ok gl M0 S0 w0 N adr fr L n a w) {k:Nat} {Q:Blk} (hk:look L k=some Q):Ok gl M0 S0 w0 N adr (frzF k Q fr) (frzL k Q L) n a w:=by
 have lk:∀ j B,look (frzL k Q L) j=some B→j≠k∧∃ B0,look L j=some B0∧B=frzB k Q B0:=fun j B hl=>by
  rw[look_frzL] at hl
  split at hl
  ·cases hl
  ·rename_i hj
   obtain ⟨B0,h1,h2⟩:=Option.map_eq_some_iff.1 hl
   exact ⟨hj,B0,h1,h2.symm⟩
 have hM:∀ b,Mut M0 adr (frzL k Q L) b→Mut M0 adr L b:=by
  rintro b (h1|⟨j,B,m,h1,h2⟩)
  ·exact .inl h1
  ·obtain ⟨_,B0,h3,_⟩:=lk j B h1
   exact .inr ⟨j,B0,m,h3,h2⟩
 have hn:∀ b m,adr k=some (some b,m)→¬ Mut M0 adr (frzL k Q L) b:=by
  rintro b m ha (h1|⟨j,B,m',h1,h2⟩)
  ·exact h.wok.prot k _ b m hk ha h1
  ·obtain ⟨hj,B0,h3,_⟩:=lk j B h1
   exact hj (h.wok.inj j k B0 _ b m' m h3 hk h2 ha)
 have hE:=Evo.refl (fun _=>False) w
 have hC:∀ c x,DenC adr (Mut M0 adr L) w c x→DenC adr (Mut M0 adr (frzL k Q L)) w (frzC k Q c) x:=by
  intro c x hd
  unfold frzC
  cases hm:menC k c with
  | false=>exact hd.evo hE (fun _ _ h=>h.elim) (fun b _ hb=>hM b hb) (fun _ _ _ he=>he)
  | true =>
   cases Q with
   | var _ _=>exact trivial
   | rows z l e =>
    cases c with
    | all z' j =>
     simp only[menC] at hm
     have hj:=Nat.eq_of_beq_eq_true hm
     subst hj
     simp only
     cases hz:Nat.beq z' z with
     | false=>exact trivial
     | true =>
      have hz:=Nat.eq_of_beq_eq_true hz
      subst hz
      exact rows_lst h.wok hk (fun b _ hb=>hM b hb) hn hd
    | _=>exact trivial
   | mp ks vs =>
    cases c with
    | mref j =>
     simp only[menC] at hm
     have hj:=Nat.eq_of_beq_eq_true hm
     subst hj
     exact mp_data h.wok hk (fun b _ hb=>hM b hb) hn hd
    | _=>exact trivial
 have hCs:∀ cs xs,DenCs adr (Mut M0 adr L) w cs xs→DenCs adr (Mut M0 adr (frzL k Q L)) w (cs.map (frzC k Q)) xs:=fun cs xs hd=>All2.map_left.2 (All2.imp (fun c x=>hC c x) hd)
 refine ⟨h.size,h.defers,fun t s hl=>?_,?_,h.glob.evo hE (fun _ _ h=>h.elim) (fun b _ hb=>hM b hb),h.base,fun j B b m hl ha=>?_,h.same⟩
 ·rw[look_frzF] at hl
  obtain ⟨s0,h1,rfl⟩:=Option.map_eq_some_iff.1 hl
  have hd:=h.fr t s0 h1
  cases s0 with
  | c x=>exact hC x _ hd
  | agg cs=>obtain ⟨xs,e1,e2⟩:=hd;exact ⟨xs,e1,hCs cs xs e2⟩
  | tup ts =>
   obtain ⟨xs,e1,e2⟩:=hd
   refine ⟨xs,e1,All2.map_left.2 (All2.imp (fun p x hp=>?_) e2)⟩
   obtain ⟨g,cs⟩:=p
   cases g with
   | true=>obtain ⟨ys,e3,e4⟩:=hp;exact ⟨ys,e3,hCs cs ys e4⟩
   | false =>
    obtain ⟨c,e3,e4⟩:=hp
    simp only at e3
    subst e3
    exact ⟨_,rfl,hC c x e4⟩
 ·refine ⟨fun j B hl=>?_,h.wok.fresh,fun j B hl=>?_,fun j j' B1 B2 b m m' h1 h2 h3 h4=>?_,fun j B b m hl ha=>?_,h.wok.bound⟩
  ·obtain ⟨_,B0,h1,_⟩:=lk j B hl;exact h.wok.keys j B0 h1
  ·obtain ⟨_,B0,h1,rfl⟩:=lk j B hl
   have hlo:=h.wok.loc j B0 h1
   cases hq:adr j with
   | none=>rw[hq] at hlo;cases B0 <;> exact hlo.elim
   | some q =>
    obtain ⟨q1,q2⟩:=q
    rw[hq] at hlo
    cases q1 with
    | none=>cases B0 with
     | var cs t=>exact hlo.elim
     | rows z' l' e'=>exact hlo
     | mp ks vs=>exact hlo.elim
    | some b=>cases B0 with
     | var cs t=>obtain ⟨xs,e1,e2⟩:=hlo;exact ⟨xs,e1,hCs cs xs e2⟩
     | rows z' l' e' =>
      obtain ⟨g1,g2,g3,cur,c,g4,g5,g6,g7,g8⟩:=hlo
      exact ⟨g1,g2,g3,cur,c,g4,g5,g6,g7,g8.evo hE (fun _ _ h=>h.elim) (fun b _ hb=>hM b hb)⟩
     | mp ks vs =>
      obtain ⟨es,cl,e1,e2⟩:=hlo
      exact ⟨es,cl,e1,e2.evo hE (fun _ _ h=>h.elim) (fun b _ hb=>hM b hb)⟩
  ·obtain ⟨_,C1,e1,_⟩:=lk _ _ h1
   obtain ⟨_,C2,e2,_⟩:=lk _ _ h2
   exact h.wok.inj j j' C1 C2 b m m' e1 e2 h3 h4
  ·obtain ⟨_,B0,h1,_⟩:=lk j B hl;exact h.wok.prot j B0 b m h1 ha
 ·obtain ⟨_,B0,h1,_⟩:=lk j B hl;exact h.new j B0 b m h1 ha
end
def ownsC:C→List Nat
 | .all _ k=>[k]
 | .mref k=>[k]
 | _=>[]
def ownsCs:List C→List Nat
 | []=>[]
 | c::r=>match c with
  | .all _ k=>k::ownsCs r
  | .mref k=>k::ownsCs r
  | _=>ownsCs r
def ownsV:V→List Nat
 | .c c=>ownsC c
 | .agg l=>ownsCs l
 | .tup _=>[]
def frzAll (ks:List Nat):List (Nat×V)→List (Nat×Blk)→(List (Nat×V)→List (Nat×Blk)→Prop)→Prop :=
 List.rec (motive:=fun _=>List (Nat×V)→List (Nat×Blk)→(List (Nat×V)→List (Nat×Blk)→Prop)→Prop) (fun fr L K=>K fr L) (fun k _ ih fr L K=>match look L k with
  | some (.rows z l e)=>fF (frzF k (.rows z l e) fr) fun fr'=>fBs (frzL k (.rows z l e) L) fun L'=>ih fr' L' K
  | some (.mp ks vs)=>fF (frzF k (.mp ks vs) fr) fun fr'=>fBs (frzL k (.mp ks vs) L) fun L'=>ih fr' L' K
  | _=>ih fr L K) ks
theorem frzAll_ok {gl:List (Nat×List D)} {M0 S0:Nat→Prop} {w0:Base} {N:Nat} {adr:Env} {n:Nat} {a:Act} {w:World}:∀ {ks:List Nat} {fr:List (Nat×V)} {L:List (Nat×Blk)} {K:List (Nat×V)→List (Nat×Blk)→Prop},frzAll ks fr L K→Ok gl M0 S0 w0 N adr fr L n a w→∃ fr' L',K fr' L'∧Ok gl M0 S0 w0 N adr fr' L' n a w
 | [],fr,L,K,h,hx=>⟨fr,L,h,hx⟩
 | k::r,fr,L,K,h,hx=>by
  have h:(match look L k with
   | some (.rows z l e)=>fF (frzF k (.rows z l e) fr) fun fr'=>fBs (frzL k (.rows z l e) L) fun L'=>frzAll r fr' L' K
   | some (.mp ks vs)=>fF (frzF k (.mp ks vs) fr) fun fr'=>fBs (frzL k (.mp ks vs) L) fun L'=>frzAll r fr' L' K
   | _=>frzAll r fr L K):=h
  split at h
  ·rename_i z l e hk
   rw[fF_eq,fBs_eq] at h
   exact frzAll_ok h (hx.freeze hk)
  ·rename_i ks vs hk
   rw[fF_eq,fBs_eq] at h
   exact frzAll_ok h (hx.freeze hk)
  ·exact frzAll_ok h hx
def HasBody (P:Program) (g:Nat):Prop:=(P.funcs[g]?).map (fun fn=>fn.name == "runtime.NumGoroutine" || fn.body.isNone)=some false
theorem HasBody.enters {P:Program} {g:Nat} (h:HasBody P g) (args:Array Value) (w:World):(callFunc g args).run P w=.ok (.enter g args) w:=by
 unfold HasBody at h
 cases hf:P.funcs[g]? with
 | none=>simp[hf] at h
 | some fn =>
  simp only[hf,Option.map_some,Option.some.injEq,Bool.or_eq_false_iff] at h
  unfold callFunc
  simp only[Sem.run_bind,run_program,Result.andThen_ok,hf,h.1,h.2,Bool.false_eq_true,if_false,Sem.run_pure]
def Does (P:Program) (g:Nat) (args:Array Value) (w:World) (R:Ending→World→Prop):Prop :=
 (HasBody P g∧Calls P g args w R)∨∃ v w',(callFunc g args).run P w=.ok (.value v) w'∧R (.returned v) w'
theorem Does.mono {P:Program} {g:Nat} {args:Array Value} {w:World} {R R':Ending→World→Prop} (h:Does P g args w R) (hr:∀ e w',R e w'→R' e w'):Does P g args w R':=by
 rcases h with ⟨h1,h2⟩|⟨v,w',h1,h2⟩
 ·exact .inl ⟨h1,h2.mono hr⟩
 ·exact .inr ⟨v,w',h1,hr _ _ h2⟩
def FnP (P:Program) (gl:List (Nat×List D)) (g:Nat) (ds:List D) (r:D):Prop :=
 ∀ (w:World) (M:Nat→Prop) (xs:List Value),(∀ b,M b→b<w.heap.size)→Glob gl M w→DenL M w ds xs→Does P g xs.toArray w fun e w'=>Evo (fun _=>False) w w'∧∃ x,e=.returned x∧DenD M w' r x
inductive Ret where
 | ret (v:V)
 | panic (c:C)
def RetOk (adr:Env) (M:Nat→Prop) (w:World):Ret→Ending→Prop
 | .ret v,e=>∃ x,e=.returned x∧DenV adr M w v x
 | .panic c,e=>∃ x,e=.panicked [{ v:=x,recovered:=false }]∧DenC adr M w c x
def Trk (adr:Env) (H:List (Nat×Blk)) (b:Nat):Prop:=∃ k B m,look H k=some B∧adr k=some (some b,m)
def Fn (P:Program) (gl:List (Nat×List D)) (g:Nat) (vs:List V) (H:List (Nat×Blk)) (n:Nat) (r:Ret) (H':List (Nat×Blk)) (n':Nat) (mv:List Nat):Prop :=
 n≤n'∧(∀ k B,look H' k=some B→k<n→(look H k).isSome=true)∧(∀ k ∈ mv,(look H k).isSome=true)∧∀ (w:World) (M0:Nat→Prop) (adr:Env) (xs:List Value),WOk M0 adr H n w→Glob gl (Mut M0 adr H) w→All2 (DenV adr (Mut M0 adr H) w) vs xs→
  Does P g xs.toArray w fun e w'=>∃ adr':Env,Evo (Trk adr H) w w'∧WOk M0 adr' H' n' w'∧(∀ k,k<n→k ∉ mv→adr' k=adr k)∧(∀ k B b m,look H' k=some B→adr' k=some (some b,m)→Trk adr H b∨w.heap.size≤b)∧RetOk adr' (Mut M0 adr' H') w' r e
def isDC:C→Bool
 | .d _=>true
 | .all _ _=>true
 | .mref _=>true
 | .own _ _ _ _=>true
 | .fn _ []=>true
 | .ptr _ _=>true
 | _=>false
def isDL:List C→Bool
 | []=>true
 | c::r=>match isDC c with|true=>isDL r|false=>false
def isDV:V→Bool
 | .c c=>isDC c
 | .agg l=>isDL l
 | .tup _=>false
def isDVs:List V→Bool
 | []=>true
 | s::r=>match isDV s with|true=>isDVs r|false=>false
def lendC (L:List (Nat×Blk)) (c:C) (K:D→List Nat→Prop):Prop :=
 match c with
 | .d x=>K x []
 | .all z k=>match look L k with
  | some (.rows z' l _)=>onB (Nat.beq z' z) (K (.lst z' l) [k])
  | _=>False
 | .own z k i q=>match look L k with
  | some (.rows z' l _)=>onB (Nat.beq z' z) (i+q≤l.length∧K (.lst z' ((l.drop i).take q)) [k])
  | _=>False
 | .fn f []=>K (.v (.func (.func f) #[] #[])) []
 | .ptr k o=>match look L k with
  | some (.var l _)=>match dsOf (l.drop o) with
   | some ds=>K (.imm ds) [k]
   | none=>False
  | some (.rows _ l _)=>onB (Nat.beq o 0) (K (.imm l.flatten) [k])
  | _=>False
 | .mref k=>match look L k with
  | some (.mp ks vs)=>K (.mp ks vs) [k]
  | _=>False
 | _=>False
def lendL (L:List (Nat×Blk)) (l:List C):(List D→List Nat→Prop)→Prop :=
 List.rec (motive:=fun _=>(List D→List Nat→Prop)→Prop) (fun K=>K [] []) (fun c _ ih K=>lendC L c fun d ks=>ih fun ds ks'=>K (d::ds) (ks++ks')) l
theorem lendL_cons (L:List (Nat×Blk)) (c:C) (r:List C) (K:List D→List Nat→Prop):lendL L (c::r) K=lendC L c fun d ks=>lendL L r fun ds ks'=>K (d::ds) (ks++ks'):=rfl
def lendV (L:List (Nat×Blk)) (s:V) (K:D→List Nat→Prop):Prop :=
 match s with
 | .c c=>lendC L c K
 | .agg l=>lendL L l fun ds ks=>K (.agg ds) ks
 | .tup _=>False
def lendVs (L:List (Nat×Blk)) (l:List V):(List D→List Nat→Prop)→Prop :=
 List.rec (motive:=fun _=>(List D→List Nat→Prop)→Prop) (fun K=>K [] []) (fun s _ ih K=>lendV L s fun d ks=>ih fun ds ks'=>K (d::ds) (ks++ks')) l
theorem lendVs_cons (L:List (Nat×Blk)) (c:V) (r:List V) (K:List D→List Nat→Prop):lendVs L (c::r) K=lendV L c fun d ks=>lendVs L r fun ds ks'=>K (d::ds) (ks++ks'):=rfl
section
variable {M0:Nat→Prop} {adr:Env} {L:List (Nat×Blk)} {n:Nat} {w:World}
def Spares (adr:Env) (ks:List Nat) (M':Nat→Prop):Prop:=∀ k ∈ ks,∀ b m,adr k=some (some b,m)→¬ M' b
theorem lendC_ok {c:C} {K:D→List Nat→Prop} (h:lendC L c K):∃ d ks,K d ks∧∀ (M0:Nat→Prop) (adr:Env) (n:Nat) (w:World) (x:Value) (M':Nat→Prop),WOk M0 adr L n w→DenC adr (Mut M0 adr L) w c x→(∀ b,b<w.heap.size→M' b→Mut M0 adr L b)→Spares adr ks M'→DenD M' w d x:=by
 unfold lendC at h
 split at h
 ·exact ⟨_,_,h,fun M0 adr n w x M' hw hd hM _=>DenD.less hM hd⟩
 ·rename_i z k
  split at h
  ·rename_i z' l e hk
   obtain ⟨hz,hK⟩:=onB_ok h
   have hz:=Nat.eq_of_beq_eq_true hz
   subst hz
   exact ⟨_,_,hK,fun M0 adr n w x M' hw hd hM hs=>rows_lst hw hk hM (hs k (by simp)) hd⟩
  ·exact h.elim
 ·rename_i z k i q
  split at h
  ·rename_i z' l e hk
   obtain ⟨hz,hle,hK⟩:=onB_ok h
   have hz:=Nat.eq_of_beq_eq_true hz
   subst hz
   refine ⟨_,_,hK,fun M0 adr n w x M' hw hd hM hs=>?_⟩
   have hlen:((l.drop i).take q).length=q:=by simp;omega
   have hloc:=hw.loc k _ hk
   rcases hd with ⟨rfl,h1,h2⟩|⟨_,h2,a,cp,hc,rfl⟩|⟨b,m,cp,cur,ee,f,h5,h6,h7,h8,h9,rfl⟩
   ·subst h2;simp only[List.take_zero];exact .lst0 _ _ _ (by simp[maxLen])
   ·subst h2;simp only[List.take_zero];exact .lst0 _ _ _ hc
   ·have hfull:=rows_lst hw hk hM (hs k (by simp)) (x:=.slice (some ⟨b,0,none⟩) m cp) (by
     refine .inr ⟨b,m,cp,cur,ee,f,h5,h6,h7,?_,h9,rfl⟩
     rw[h5] at hloc
     obtain ⟨g1,g2,g3,cur',cp',g4,g5,g6,g7,g8⟩:=hloc
     rw[h6] at g4;cases g4
     have:cp * z'=cp' * z':=by omega
     have:=Nat.eq_of_mul_eq_mul_right g1 this
     omega)
    rw[h5] at hloc
    obtain ⟨g1,g2,g3,cur',cp',g4,g5,g6,g7,g8⟩:=hloc
    subst g2
    have hget:∀ i' j d,get2 ((l.drop i).take q) i' j=some d→get2 l (i+i') j=some d:=by
     intro i' j d hg
     simp only[get2,Option.bind_eq_some_iff,List.getElem?_drop,List.getElem?_take] at hg ⊢
     obtain ⟨r,hr1,hr2⟩:=hg
     split at hr1
     ·exact ⟨r,hr1,hr2⟩
     ·cases hr1
    rcases Nat.eq_zero_or_pos q with h0|h0
    ·subst h0;simp only[List.take_zero];exact .lst0 _ _ _ (by omega)
    ·cases hfull with
     | lst0=>simp at hle;omega
     | lst _ _ _ _ _ cs hb hMb hl hc hlz hcell hden =>
      have key:DenD M' w (.lst z' ((l.drop i).take q)) (.slice (some ⟨b,i * z',none⟩) ((l.drop i).take q).length (cp - i)):=by
       refine DenD.lst z' _ b (i * z') (cp - i) (fun i' j=>cs (i+i') j) hb hMb (by rw[hlen];omega) (by omega) (fun e he=>g3 e (List.mem_of_mem_drop (List.mem_of_mem_take he))) (fun i' j d hg=>?_) (fun i' j d hg=>hden _ _ _ (hget i' j d hg))
       have:=hcell (i+i') j d (hget i' j d hg)
       rw[Nat.add_mul] at this
       simpa[Nat.add_assoc] using this
      rw[hlen] at key
      exact key
  ·exact h.elim
 ·refine ⟨_,_,h,fun M0 adr n w x M' hw hd hM _=>?_⟩
  obtain ⟨xs,rfl,h1⟩:=hd
  rw[All2.nil_iff] at h1
  subst h1
  exact .v _
 ·rename_i k o
  split at h
  ·rename_i l t hk
   split at h
   ·rename_i ds hds
    refine ⟨_,_,h,fun M0 adr n w x M' hw hd hM hs=>?_⟩
    obtain ⟨b,m,ha,rfl⟩:=hd
    have hloc:=hw.loc k _ hk
    rw[ha] at hloc
    obtain ⟨xs,e1,e2⟩:=hloc
    have e3:=All2.drop o e2
    rw[dsOf_ok hds] at e3
    have e4:DenL (Mut M0 adr L) w ds (xs.drop o):=(All2.map_left (R:=DenC adr (Mut M0 adr L) w) (f:=C.d)).1 e3
    refine DenD.imm ds b o (fun j=>(xs.drop o).getD j undef) (Array.getElem?_eq_some_iff.1 e1).1 (hs k (by simp) b m ha) (fun j d hj=>?_) (fun j d hj=>?_)
    ·obtain ⟨x,hx1,_⟩:=All2.get e4 hj
     simp only[List.getD,hx1,Option.getD_some]
     rw[List.getElem?_drop] at hx1
     simp[World.cell?,e1,hx1]
    ·obtain ⟨x,hx1,hx2⟩:=All2.get e4 hj
     simp only[List.getD,hx1,Option.getD_some]
     exact hx2.less hM
   ·exact h.elim
  ·rename_i z l t hk
   obtain ⟨ho,hK⟩:=onB_ok h
   obtain rfl:=Nat.eq_of_beq_eq_true ho
   refine ⟨_,_,hK,fun M0 adr n w x M' hw hd hM hs=>?_⟩
   obtain ⟨b,m,ha,rfl⟩:=hd
   have hloc:=hw.loc k _ hk
   rw[ha] at hloc
   obtain ⟨_,_,_,cur,c,e1,_,_,_,e2⟩:=hloc
   refine DenD.imm _ b 0 (fun j=>(cur.toList.take (l.length * z)).getD j undef) (Array.getElem?_eq_some_iff.1 e1).1 (hs k (by simp) b m ha) (fun j d hj=>?_) (fun j d hj=>?_)
   ·obtain ⟨x,hx1,_⟩:=All2.get e2 hj
    simp only[List.getD,hx1,Option.getD_some]
    rw[List.getElem?_take] at hx1
    split at hx1
    ·rw[Array.getElem?_toList] at hx1
     simp[World.cell?,e1,hx1]
    ·cases hx1
   ·obtain ⟨x,hx1,hx2⟩:=All2.get e2 hj
    simp only[List.getD,hx1,Option.getD_some]
    exact hx2.less hM
  ·exact h.elim
 ·rename_i k
  split at h
  ·rename_i ks vs hk
   exact ⟨_,_,h,fun M0 adr n w x M' hw hd hM hs=>mp_data hw hk hM (hs k (by simp)) hd⟩
  ·exact h.elim
 ·exact h.elim
theorem Spares.left {ks ks':List Nat} {M':Nat→Prop} (h:Spares adr (ks++ks') M'):Spares adr ks M':=fun k hk=>h k (by simp[hk])
theorem Spares.right {ks ks':List Nat} {M':Nat→Prop} (h:Spares adr (ks++ks') M'):Spares adr ks' M':=fun k hk=>h k (by simp[hk])
theorem lendL_ok:∀ {l:List C} {K:List D→List Nat→Prop},lendL L l K→∃ ds ks,K ds ks∧∀ (M0:Nat→Prop) (adr:Env) (n:Nat) (w:World) (xs:List Value) (M':Nat→Prop),WOk M0 adr L n w→DenCs adr (Mut M0 adr L) w l xs→(∀ b,b<w.heap.size→M' b→Mut M0 adr L b)→Spares adr ks M'→DenL M' w ds xs
 | [],K,h=>⟨_,_,h,fun M0 adr n w xs M' _ hd _ _=>by rw[DenCs,All2.nil_iff] at hd;subst hd;trivial⟩
 | c::r,K,h=>by
  obtain ⟨d,ks,h1,h2⟩:=lendC_ok (lendL_cons L c r K ▸ h)
  obtain ⟨ds,ks',hK,h3⟩:=lendL_ok h1
  refine ⟨_,_,hK,fun M0 adr n w xs M' hw hd hM hs=>?_⟩
  obtain ⟨x,xs',rfl,e1,e2⟩:=All2.cons_iff.1 hd
  exact ⟨h2 _ _ _ _ _ _ hw e1 hM hs.left,h3 _ _ _ _ _ _ hw e2 hM hs.right⟩
theorem lendV_ok {s:V} {K:D→List Nat→Prop} (h:lendV L s K):∃ d ks,K d ks∧∀ (M0:Nat→Prop) (adr:Env) (n:Nat) (w:World) (x:Value) (M':Nat→Prop),WOk M0 adr L n w→DenV adr (Mut M0 adr L) w s x→(∀ b,b<w.heap.size→M' b→Mut M0 adr L b)→Spares adr ks M'→DenD M' w d x:=by
 cases s with
 | c c=>exact lendC_ok h
 | agg l =>
  obtain ⟨ds,ks,hK,h1⟩:=lendL_ok h
  refine ⟨_,_,hK,fun M0 adr n w x M' hw hd hM hs=>?_⟩
  obtain ⟨xs,rfl,e1⟩:=hd
  exact DenD.agg_mk (h1 _ _ _ _ _ _ hw e1 hM hs)
 | tup l=>exact h.elim
theorem lendVs_ok:∀ {l:List V} {K:List D→List Nat→Prop},lendVs L l K→∃ ds ks,K ds ks∧∀ (M0:Nat→Prop) (adr:Env) (n:Nat) (w:World) (xs:List Value) (M':Nat→Prop),WOk M0 adr L n w→All2 (DenV adr (Mut M0 adr L) w) l xs→(∀ b,b<w.heap.size→M' b→Mut M0 adr L b)→Spares adr ks M'→DenL M' w ds xs
 | [],K,h=>⟨_,_,h,fun M0 adr n w xs M' _ hd _ _=>by rw[All2.nil_iff] at hd;subst hd;trivial⟩
 | c::r,K,h=>by
  obtain ⟨d,ks,h1,h2⟩:=lendV_ok (lendVs_cons L c r K ▸ h)
  obtain ⟨ds,ks',hK,h3⟩:=lendVs_ok h1
  refine ⟨_,_,hK,fun M0 adr n w xs M' hw hd hM hs=>?_⟩
  obtain ⟨x,xs',rfl,e1,e2⟩:=All2.cons_iff.1 hd
  exact ⟨h2 _ _ _ _ _ _ hw e1 hM hs.left,h3 _ _ _ _ _ _ hw e2 hM hs.right⟩
end
def flat1:D→Bool
 | .v _=>true
 | .b _ _=>true
 | .str _=>true
 | _=>false
def flatL (f:D→Bool):List D→Bool
 | []=>true
 | d::r=>match f d with|true=>flatL f r|false=>false
def flat2:D→Bool
 | .agg l=>flatL flat1 l
 | .ifc _ _ l=>flatL flat1 l
 | d=>flat1 d
def flatD:D→Bool
 | .tup l=>flatL flat2 l
 | d=>flat2 d
theorem flatL_mem {f:D→Bool}:∀ {l:List D},flatL f l=true→∀ d ∈ l,f d=true
 | [],_,d,hd=>by simp at hd
 | e::r,h,d,hd=>by
  simp only[flatL] at h
  cases he:f e with
  | false=>rw[he] at h;cases h
  | true =>
   rw[he] at h
   rcases List.mem_cons.1 hd with rfl|hd
   ·exact he
   ·exact flatL_mem h d hd
theorem flat1_ok {M M':Nat→Prop} {w:World} {d:D} {x:Value} (h:flat1 d=true) (hd:DenD M w d x):DenD M' w d x:=by
 cases hd <;> first|(cases h;done)|exact .v _|exact .b _ _|exact .str _
theorem flat2_ok {M M':Nat→Prop} {w:World} {d:D} {x:Value} (h:flat2 d=true) (hd:DenD M w d x):DenD M' w d x:=by
 cases hd with
 | v=>exact .v _
 | b=>exact .b _ _
 | str=>exact .str _
 | lst0=>cases h
 | lst=>cases h
 | imm=>cases h
 | tup=>cases h
 | mp0=>cases h
 | mp=>cases h
 | ifc1 t d x hd=>exact .ifc1 t d x (flat1_ok (flatL_mem h d (by simp)) hd)
 | ifc2 t l xs hl hd=>exact .ifc2 t l xs hl (fun j d x h1 h2=>flat1_ok (flatL_mem h d (List.mem_of_getElem? h1)) (hd j d x h1 h2))
 | agg l xs hl hd=>exact .agg l xs hl (fun j d x h1 h2=>flat1_ok (flatL_mem h d (List.mem_of_getElem? h1)) (hd j d x h1 h2))
theorem flatD_ok {M M':Nat→Prop} {w:World} {d:D} {x:Value} (h:flatD d=true) (hd:DenD M w d x):DenD M' w d x:=by
 cases d with
 | tup l =>
  obtain ⟨xs,rfl,h1⟩:=DenD.tup_inv hd
  exact DenD.tup_mk (All2.imp' (fun d hd' x hx=>flat2_ok (flatL_mem h d hd') hx) h1)
 | _=>exact flat2_ok h hd
end Go.EYtfcmhmglpcimiaaGreatDoor
