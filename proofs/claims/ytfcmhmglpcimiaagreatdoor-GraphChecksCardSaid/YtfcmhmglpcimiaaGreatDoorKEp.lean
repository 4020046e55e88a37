/- Proved: a part of what the law is proved with (the reckoner, contracts of functions, plain laws). Conditions: as each says. -/
import Derived.Test.YtfcmhmglpcimiaaGreatDoorKEo
namespace Go.EYtfcmhmglpcimiaaGreatDoor
open Go Go.RowKit
section
def renC (f:Nat→Nat):C→C
 | .ptr k o=>.ptr (f k) o
 | .elt z k i o=>.elt z (f k) i o
 | .own z k i n=>.own z (f k) i n
 | .all z k=>.all z (f k)
 | .mref k=>.mref (f k)
 | .fn g cs=>.fn g (cs.map fun p=>(f p.1,p.2))
 | c=>c
def renV (f:Nat→Nat):V→V
 | .c x=>.c (renC f x)
 | .agg l=>.agg (l.map (renC f))
 | .tup l=>.tup (l.map fun p=>(p.1,p.2.map (renC f)))
def renB (f:Nat→Nat):Blk→Blk
 | .var l t=>.var (l.map (renC f)) t
 | B=>B
def renL (f:Nat→Nat) (L:List (Nat×Blk)):List (Nat×Blk):=L.map fun p=>(f p.1,renB f p.2)
def renR (f:Nat→Nat):Ret→Ret
 | .ret v=>.ret (renV f v)
 | .panic c=>.panic (renC f c)
def renN (ρ:List Nat) (h n k:Nat):Nat:=match Nat.blt k h with
 | true=>(nth ρ k).getD 0
 | false=>n+(k - h)
section
variable {f:Nat→Nat} {adr:Env} {M:Nat→Prop} {w:World}
theorem renC_den (c:C) (x:Value):DenC adr M w (renC f c) x=DenC (fun k=>adr (f k)) M w c x:=by
 cases c <;> try rfl
 case fn g cs =>
  simp only[renC,DenC]
  apply propext
  constructor
  ·rintro ⟨xs,h1,h2⟩;exact ⟨xs,h1,(All2.map_left (R:=DenP adr) (f:=fun p:Nat×Nat=>(f p.1,p.2))).1 h2⟩
  ·rintro ⟨xs,h1,h2⟩;exact ⟨xs,h1,(All2.map_left (R:=DenP adr) (f:=fun p:Nat×Nat=>(f p.1,p.2))).2 h2⟩
theorem renCs_den (l:List C) (xs:List Value):DenCs adr M w (l.map (renC f)) xs=DenCs (fun k=>adr (f k)) M w l xs:=by
 apply propext
 unfold DenCs
 rw[All2.map_left]
 constructor
 ·exact All2.imp fun c x h=>by rw[← renC_den];exact h
 ·exact All2.imp fun c x h=>by rw[renC_den];exact h
theorem renV_den (s:V) (x:Value):DenV adr M w (renV f s) x=DenV (fun k=>adr (f k)) M w s x:=by
 cases s with
 | c c=>exact renC_den c x
 | agg l=>simp only[renV,DenV,renCs_den]
 | tup l =>
  simp only[renV,DenV]
  apply propext
  have key:∀ (p:Bool×List C) (x:Value),DenT adr M w (p.1,p.2.map (renC f)) x↔DenT (fun k=>adr (f k)) M w p x:=by
   rintro ⟨g,l⟩ x
   cases g with
   | true=>simp only[DenT,renCs_den]
   | false =>
    simp only[DenT]
    constructor
    ·rintro ⟨c,h1,h2⟩
     match l,h1 with
     | [c0],h1 =>
      simp only[List.map_cons,List.map_nil,List.cons.injEq,and_true] at h1
      subst h1
      exact ⟨c0,rfl,by rw[← renC_den];exact h2⟩
    ·rintro ⟨c,h1,h2⟩
     subst h1
     exact ⟨renC f c,rfl,by rw[renC_den];exact h2⟩
  constructor
  ·rintro ⟨xs,h1,h2⟩;exact ⟨xs,h1,All2.imp (fun p x h=>(key p x).1 h) (All2.map_left.1 h2)⟩
  ·rintro ⟨xs,h1,h2⟩;exact ⟨xs,h1,All2.map_left.2 (All2.imp (fun p x h=>(key p x).2 h) h2)⟩
theorem renVs_den (l:List V) (xs:List Value):All2 (DenV adr M w) (l.map (renV f)) xs↔All2 (DenV (fun k=>adr (f k)) M w) l xs:=by
 rw[All2.map_left]
 constructor
 ·exact All2.imp fun c x h=>by rw[← renV_den];exact h
 ·exact All2.imp fun c x h=>by rw[renV_den];exact h
theorem renB_loc (e:Option (Option Nat×Nat)) (B:Blk):LocB adr M w e (renB f B)=LocB (fun k=>adr (f k)) M w e B:=by
 cases B with
 | mp ks vs=>cases e with
  | none=>rfl
  | some q=>obtain ⟨q1,q2⟩:=q;cases q1 <;> rfl
 | rows z l t=>cases e with
  | none=>rfl
  | some q=>obtain ⟨q1,q2⟩:=q;cases q1 <;> rfl
 | var l t=>cases e with
  | none=>rfl
  | some q =>
   obtain ⟨q1,q2⟩:=q
   cases q1 with
   | none=>rfl
   | some b=>simp only[renB,LocB,renCs_den]
theorem look_ren (hf:∀ a b,f a=f b→a=b):∀ {L:List (Nat×Blk)} {k:Nat},look (renL f L) (f k)=(look L k).map (renB f)
 | [],k=>rfl
 | (j,B)::r,k=>by
  show look ((f j,renB f B)::renL f r) (f k)=_
  rw[look_cons,look_cons]
  by_cases e:j=k
  ·subst e;rw[if_pos rfl,if_pos rfl];rfl
  ·rw[if_neg e,if_neg (fun h=>e (hf _ _ h)),look_ren hf]
theorem look_ren_inv:∀ {L:List (Nat×Blk)} {j:Nat} {B:Blk},look (renL f L) j=some B→∃ k,f k=j
 | [],j,B,h=>by cases h
 | (i,B')::r,j,B,h=>by
  have h:look ((f i,renB f B')::renL f r) j=some B:=h
  rw[look_cons] at h
  by_cases e:f i=j
  ·exact ⟨i,e⟩
  ·rw[if_neg e] at h;exact look_ren_inv h
theorem look_ren2 (hf:∀ a b,f a=f b→a=b) {L:List (Nat×Blk)} {j:Nat} {B:Blk} (h:look (renL f L) j=some B):∃ k B0,j=f k∧look L k=some B0∧B=renB f B0:=by
 obtain ⟨k,rfl⟩:=look_ren_inv h
 rw[look_ren hf] at h
 obtain ⟨B0,h1,h2⟩:=Option.map_eq_some_iff.1 h
 exact ⟨k,B0,rfl,h1,h2.symm⟩
theorem trk_ren (hf:∀ a b,f a=f b→a=b) {L:List (Nat×Blk)}:Trk adr (renL f L)=Trk (fun k=>adr (f k)) L:=by
 funext b
 apply propext
 constructor
 ·rintro ⟨j,B,m,h1,h2⟩
  obtain ⟨k,B0,rfl,h3,_⟩:=look_ren2 hf h1
  exact ⟨k,B0,m,h3,h2⟩
 ·rintro ⟨k,B,m,h1,h2⟩
  exact ⟨f k,renB f B,m,by rw[look_ren hf,h1];rfl,h2⟩
theorem mut_trk {M0:Nat→Prop} {adr:Env} {L:List (Nat×Blk)}:Mut M0 adr L=fun b=>M0 b∨Trk adr L b:=rfl
theorem mut_ren (hf:∀ a b,f a=f b→a=b) {M0:Nat→Prop} {L:List (Nat×Blk)}:Mut M0 adr (renL f L)=Mut M0 (fun k=>adr (f k)) L:=by
 rw[mut_trk,mut_trk,trk_ren hf]
theorem wok_ren (hf:∀ a b,f a=f b→a=b) {M0:Nat→Prop} {L:List (Nat×Blk)} {n n':Nat} (hn:∀ k B,look L k=some B→(f k<n↔k<n')) (h1:∀ k,n≤k→adr k=none) (h2:∀ k,n'≤k→adr (f k)=none) :
 WOk M0 adr (renL f L) n w↔WOk M0 (fun k=>adr (f k)) L n' w:=by
 constructor
 ·intro h
  refine ⟨fun k B hk=>(hn k B hk).1 (h.keys (f k) _ (by rw[look_ren hf,hk];rfl)),h2,fun k B hk=>?_,fun k k' B B' b m m' g1 g2 g3 g4=>?_,fun k B b m hk ha=>?_,h.bound⟩
  ·have:=h.loc (f k) _ (by rw[look_ren hf,hk];rfl)
   rw[mut_ren hf,renB_loc] at this;exact this
  ·exact hf _ _ (h.inj (f k) (f k') _ _ b m m' (by rw[look_ren hf,g1];rfl) (by rw[look_ren hf,g2];rfl) g3 g4)
  ·exact h.prot (f k) _ b m (by rw[look_ren hf,hk];rfl) ha
 ·intro h
  refine ⟨fun j B hj=>?_,h1,fun j B hj=>?_,fun j j' B B' b m m' g1 g2 g3 g4=>?_,fun j B b m hj ha=>?_,h.bound⟩
  ·obtain ⟨k,B0,rfl,h3,_⟩:=look_ren2 hf hj;exact (hn k B0 h3).2 (h.keys k B0 h3)
  ·obtain ⟨k,B0,rfl,h3,rfl⟩:=look_ren2 hf hj
   rw[mut_ren hf,renB_loc];exact h.loc k B0 h3
  ·obtain ⟨k,B0,rfl,h3,_⟩:=look_ren2 hf g1
   obtain ⟨k',B1,rfl,h4,_⟩:=look_ren2 hf g2
   rw[h.inj k k' B0 B1 b m m' h3 h4 g3 g4]
  ·obtain ⟨k,B0,rfl,h3,_⟩:=look_ren2 hf hj;exact h.prot k B0 b m h3 ha
end
def swN (a b k:Nat):Nat:=match Nat.beq k a with
 | true=>b
 | false=>match Nat.beq k b with
  | true=>a
  | false=>k
theorem swN_a {a b:Nat}:swN a b a=b:=by unfold swN;rw[show Nat.beq a a=true from Nat.beq_refl a]
theorem swN_b {a b:Nat}:swN a b b=a:=by
 unfold swN
 cases h:Nat.beq b a with
 | true=>exact Nat.eq_of_beq_eq_true h
 | false=>simp only[];rw[show Nat.beq b b=true from Nat.beq_refl b]
theorem swN_o {a b k:Nat} (ha:k≠a) (hb:k≠b):swN a b k=k:=by
 unfold swN
 cases h:Nat.beq k a with
 | true=>exact absurd (Nat.eq_of_beq_eq_true h) ha
 | false =>
  simp only[]
  cases h2:Nat.beq k b with
  | true=>exact absurd (Nat.eq_of_beq_eq_true h2) hb
  | false=>rfl
theorem swN_inv (a b k:Nat):swN a b (swN a b k)=k:=by
 by_cases ha:k=a
 ·subst ha;rw[swN_a,swN_b]
 ·by_cases hb:k=b
  ·subst hb;rw[swN_b,swN_a]
  ·rw[swN_o ha hb,swN_o ha hb]
theorem swN_lt {a b n:Nat} (ha:a<n) (hb:b<n) (k:Nat):swN a b k<n↔k<n:=by
 by_cases h1:k=a
 ·subst h1;rw[swN_a];omega
 ·by_cases h2:k=b
  ·subst h2;rw[swN_b];omega
  ·rw[swN_o h1 h2]
def renF (f:Nat→Nat) (fr:List (Nat×V)):List (Nat×V):=fr.map fun p=>(p.1,renV f p.2)
theorem look_renF {f:Nat→Nat}:∀ {fr:List (Nat×V)} {t:Nat},look (renF f fr) t=(look fr t).map (renV f)
 | [],_=>rfl
 | (j,s)::r,t=>by
  show look ((j,renV f s)::renF f r) t=_
  rw[look_cons,look_cons]
  by_cases e:j=t
  ·rw[if_pos e,if_pos e];rfl
  ·rw[if_neg e,if_neg e,look_renF]
def noFx (a b:Nat):List Nat→Bool
 | []=>true
 | k::r=>match Nat.beq k a with
  | true=>false
  | false=>match Nat.beq k b with
   | true=>false
   | false=>noFx a b r
theorem noFx_ok {a b:Nat}:∀ {l:List Nat},noFx a b l=true→∀ k ∈ l,k≠a∧k≠b
 | [],_,k,hk=>by simp at hk
 | j::r,h,k,hk=>by
  simp only[noFx] at h
  split at h
  ·cases h
  ·rename_i h1
   split at h
   ·cases h
   ·rename_i h2
    rcases List.mem_cons.1 hk with rfl|hk
    ·exact ⟨Nat.ne_of_beq_eq_false h1,Nat.ne_of_beq_eq_false h2⟩
    ·exact noFx_ok h k hk
def swAll (fx:List Nat) (n:Nat) (l:List (Nat×Nat)):List (Nat×V)→List (Nat×Blk)→(List (Nat×V)→List (Nat×Blk)→Prop)→Prop :=
 List.rec (motive:=fun _=>List (Nat×V)→List (Nat×Blk)→(List (Nat×V)→List (Nat×Blk)→Prop)→Prop) (fun fr L K=>K fr L)
  (fun p _ ih fr L K=>onB (Nat.blt p.1 n) (onB (Nat.blt p.2 n) (onB (noFx p.1 p.2 fx) (fF (renF (swN p.1 p.2) fr) fun fr1=>fBs (renL (swN p.1 p.2) L) fun L1=>ih fr1 L1 K)))) l
section
variable {gl:List (Nat×List D)} {M0 S0:Nat→Prop} {w0:Base} {N:Nat} {fr:List (Nat×V)} {L:List (Nat×Blk)} {n:Nat} {a:Act} {w:World}
theorem Ok.swap {adr:Env} (h:Ok gl M0 S0 w0 N adr fr L n a w) {x y:Nat} (hx:x<n) (hy:y<n) (hf:∀ k ∈ w0.fx,k≠x∧k≠y):Ok gl M0 S0 w0 N (fun k=>adr (swN x y k)) (renF (swN x y) fr) (renL (swN x y) L) n a w:=by
 have hi:∀ p q,swN x y p=swN x y q→p=q:=fun p q e=>by rw[← swN_inv x y p,e,swN_inv]
 have he:(fun k=>adr (swN x y (swN x y k)))=adr:=funext fun k=>by rw[swN_inv]
 have hm:Mut M0 (fun k=>adr (swN x y k)) (renL (swN x y) L)=Mut M0 adr L:=by
  rw[mut_ren hi,he]
 refine ⟨h.size,h.defers,fun t s hs=>?_,?_,?_,h.base,fun k B b m hk ha=>?_,fun k hk=>?_⟩
 ·rw[look_renF] at hs
  obtain ⟨s0,h1,rfl⟩:=Option.map_eq_some_iff.1 hs
  rw[hm,renV_den,he]
  exact h.fr t s0 h1
 ·refine (wok_ren (adr:=fun k=>adr (swN x y k)) hi (n:=n) (n':=n) (fun k B _=>swN_lt hx hy k) (fun k hk=>?_) (fun k hk=>?_)).2 ?_
  ·exact h.wok.fresh _ (by have:=swN_lt hx hy k;omega)
  ·show adr (swN x y (swN x y k))=none
   rw[swN_inv]
   exact h.wok.fresh k hk
  ·rw[he]
   exact h.wok
 ·rw[hm]
  exact h.glob
 ·obtain ⟨k0,B0,rfl,h3,_⟩:=look_ren2 hi hk
  replace ha:adr (swN x y (swN x y k0))=some (some b,m):=ha
  rw[swN_inv] at ha
  exact h.new k0 B0 b m h3 ha
 ·obtain ⟨h1,h2⟩:=h.same k hk
  refine ⟨h1,?_⟩
  show adr (swN x y k)=w0.adr k
  rw[swN_o (hf k hk).1 (hf k hk).2]
  exact h2
theorem swAll_ok:∀ {l:List (Nat×Nat)} {adr:Env} {fr:List (Nat×V)} {L:List (Nat×Blk)} {K:List (Nat×V)→List (Nat×Blk)→Prop},swAll w0.fx n l fr L K→Ok gl M0 S0 w0 N adr fr L n a w→∃ adr' fr' L',K fr' L'∧Ok gl M0 S0 w0 N adr' fr' L' n a w
 | [],adr,fr,L,K,h,hx=>⟨adr,fr,L,h,hx⟩
 | (x,y)::r,adr,fr,L,K,h,hx=>by
  replace h:onB (Nat.blt x n) (onB (Nat.blt y n) (onB (noFx x y w0.fx) (fF (renF (swN x y) fr) fun fr1=>fBs (renL (swN x y) L) fun L1=>swAll w0.fx n r fr1 L1 K))):=h
  obtain ⟨h1,h⟩:=onB_ok h
  obtain ⟨h2,h⟩:=onB_ok h
  obtain ⟨h3,h⟩:=onB_ok h
  rw[fF_eq,fBs_eq] at h
  exact swAll_ok h (hx.swap (by simp[Nat.blt,Nat.ble_eq] at h1;omega) (by simp[Nat.blt,Nat.ble_eq] at h2;omega) (noFx_ok h3))
end
end
section
def menCB (p:Nat→Bool):C→Bool
 | .ptr j _=>p j
 | .elt _ j _ _=>p j
 | .own _ j _ _=>p j
 | .all _ j=>p j
 | .mref j=>p j
 | .fn _ cs=>cs.all fun q=>p q.1
 | _=>true
theorem menCB_ok {p:Nat→Bool} {c:C} (h:menCB p c=true) {k:Nat} (hm:menC k c=true):p k=true:=by
 cases c <;> simp only[menC,Bool.false_eq_true] at hm
 case fn f cs =>
  simp only[menCB,List.all_eq_true] at h
  simp only[List.any_eq_true] at hm
  obtain ⟨q,hq,hk⟩:=hm
  have:=h q hq
  rw[Nat.eq_of_beq_eq_true hk] at this;exact this
 all_goals (rw[Nat.eq_of_beq_eq_true hm] at h;exact h)
def menVB (p:Nat→Bool):V→Bool
 | .c x=>menCB p x
 | .agg l=>l.all (menCB p)
 | .tup l=>l.all fun q=>q.2.all (menCB p)
theorem menVB_ok {p:Nat→Bool} {s:V} (h:menVB p s=true) {k:Nat} (hm:menV k s=true):p k=true:=by
 cases s with
 | c x=>exact menCB_ok h hm
 | agg l =>
  simp only[menVB,menV,List.all_eq_true,List.any_eq_true] at h hm
  obtain ⟨c,hc,hm⟩:=hm
  exact menCB_ok (h c hc) hm
 | tup l =>
  simp only[menVB,menV,List.all_eq_true,List.any_eq_true] at h hm
  obtain ⟨q,hq,c,hc,hm⟩:=hm
  exact menCB_ok (h q hq c hc) hm
def menFB (p:Nat→Bool):List (Nat×V)→Bool
 | []=>true
 | (_,s)::r=>match menVB p s with|true=>menFB p r|false=>false
def menLB (p:Nat→Bool):List (Nat×Blk)→Bool
 | []=>true
 | (_,B)::r=>match B with
  | .var l _=>(match l.all (menCB p) with|true=>menLB p r|false=>false)
  | .rows _ _ _=>menLB p r
  | .mp _ _=>menLB p r
theorem menFB_ok {p:Nat→Bool}:∀ {fr:List (Nat×V)} {t:Nat} {s:V},menFB p fr=true→look fr t=some s→menVB p s=true
 | [],t,s,_,h=>by cases h
 | (t',s')::r,t,s,h,hl=>by
  simp only[menFB] at h
  split at h
  ·rename_i hv
   rw[look_cons] at hl
   by_cases e:t'=t
   ·rw[if_pos e] at hl;cases hl;exact hv
   ·rw[if_neg e] at hl;exact menFB_ok h hl
  ·cases h
theorem menLB_ok {p:Nat→Bool}:∀ {L:List (Nat×Blk)} {k:Nat} {l:List C} {t:Nat},menLB p L=true→look L k=some (.var l t)→l.all (menCB p)=true
 | [],k,l,t,_,h=>by cases h
 | (k',B)::r,k,l,t,h,hl=>by
  rw[look_cons] at hl
  cases B with
  | rows z q e =>
   simp only[menLB] at h
   by_cases e1:k'=k
   ·rw[if_pos e1] at hl;cases hl
   ·rw[if_neg e1] at hl;exact menLB_ok h hl
  | mp ks vs =>
   simp only[menLB] at h
   by_cases e1:k'=k
   ·rw[if_pos e1] at hl;cases hl
   ·rw[if_neg e1] at hl;exact menLB_ok h hl
  | var l' t' =>
   simp only[menLB] at h
   split at h
   ·rename_i hv
    by_cases e1:k'=k
    ·rw[if_pos e1] at hl;cases hl;exact hv
    ·rw[if_neg e1] at hl;exact menLB_ok h hl
   ·cases h
def okN (n:Nat) (L':List (Nat×Blk)) (k:Nat):Bool:=match Nat.blt k n with
 | true=>true
 | false=>(look L' k).isSome
def fxLt (n':Nat):List Nat→Bool
 | []=>true
 | k::r=>match Nat.blt k n' with|true=>fxLt n' r|false=>false
theorem blt_lt {a b:Nat} (h:Nat.blt a b=true):a<b:=by simp[Nat.blt,Nat.ble_eq] at h;omega
theorem fxLt_ok {n':Nat}:∀ {l:List Nat},fxLt n' l=true→∀ k ∈ l,k<n'
 | [],_,k,hk=>by simp at hk
 | j::r,h,k,hk=>by
  simp only[fxLt] at h
  split at h
  ·rename_i hj
   rcases List.mem_cons.1 hk with rfl|h1
   ·exact blt_lt hj
   ·exact fxLt_ok h k h1
  ·cases h
def sub3 (fx:List Nat) (n:Nat) (fr:List (Nat×V)) (L:List (Nat×Blk)) (n':Nat) (fr':List (Nat×V)) (L':List (Nat×Blk)):Prop :=
 onB (fxLt n' fx) (onB (ltF n' fr') (onB (ltL n' L') (onB (menFB (okN n L') fr') (onB (menLB (okN n L') L') (subF L n fr fr'∧subL n L L')))))
section
variable {gl:List (Nat×List D)} {M0 S0:Nat→Prop} {w0:Base} {N:Nat} {adr:Env} {fr:List (Nat×V)} {L:List (Nat×Blk)} {n:Nat} {a:Act} {w:World}
theorem okN_ok {L':List (Nat×Blk)} {k:Nat} (h:okN n L' k=true) (hk:n≤k):(look L' k).isSome=true:=by
 unfold okN at h
 split at h
 ·rename_i hb;have:=blt_lt hb;omega
 ·exact h
theorem sub3_ok (hx:Ok gl M0 S0 w0 N adr fr L n a w) {n':Nat} {fr':List (Nat×V)} {L':List (Nat×Blk)} (h:sub3 w0.fx n fr L n' fr' L'):Ok gl M0 S0 w0 N (adrSub adr n L' n') fr' L' n' a w:=by
 obtain ⟨h0,q1⟩:=onB_ok h
 obtain ⟨h1,q2⟩:=onB_ok q1
 obtain ⟨h2,q3⟩:=onB_ok q2
 obtain ⟨h3,q4⟩:=onB_ok q3
 obtain ⟨h4,hF,hL⟩:=onB_ok q4
 refine hx.sub hF hL h1 h2 (fun t s hl k hm hk=>okN_ok (menVB_ok (menFB_ok h3 hl) hm) hk) (fun k l t hl c hc j hm hj=>?_) (fxLt_ok h0)
 have:=menLB_ok h4 hl
 rw[List.all_eq_true] at this
 exact okN_ok (menCB_ok (this c hc) hm) hj
end
inductive X where
 | normal
 | exit (id:Nat)
 | goto (l:Nat)
 | ret
 | panic (c:C)
abbrev XK:=X→SK
structure Spec where
 σ:Type
 fr:σ→List (Nat×V)
 ks:List Nat
 L:σ→List (Nat×Blk)
 ex:Nat
 I:σ→Prop
 μ:σ→Nat
 fz:List Nat:=[]
 f0:List Nat:=[]
 rn:List (Nat×Nat):=[]
def dstsOps:List Oper→List Nat
 | []=>[]
 | o::r=>match o.dst with|some d=>d::dstsOps r|none=>dstsOps r
def dsts:Code→List Nat
 | .region _ ops _=>dstsOps ops.toList
 | .seq a b=>dsts a++dsts b
 | .cond _ a b=>dsts a++dsts b
 | .block _ c=>dsts c
 | .loop c=>dsts c
 | .scope c=>dsts c
 | _=>[]
def keepFr (nv:Nat) (ds:List Nat):List (Nat×V)→List (Nat×V)
 | []=>[]
 | (t,s)::r=>match Nat.blt t nv with
  | true=>(match notIn t ds with|true=>(t,s)::keepFr nv (t::ds) r|false=>keepFr nv ds r)
  | false=>keepFr nv ds r
def keepL (ks:List Nat):List (Nat×Blk)→List (Nat×Blk)
 | []=>[]
 | (k,B)::r=>match notIn k ks with
  | true=>(k,B)::keepL ks r
  | false=>keepL ks r
def headId:Code→Option Nat
 | .region id _ _=>some id
 | .seq a b=>match headId a with|some i=>some i|none=>headId b
 | .block _ c=>headId c
 | .loop c=>headId c
 | .scope c=>headId c
 | _=>none
def cutAt (cu:List Nat) (c:Code):Bool:=match cu with
 | []=>false
 | cu=>match headId c with
  | some i=>(match notIn i cu with|true=>false|false=>true)
  | none=>false
def forceB (cu:List Nat) (id:Nat) (b:Bool):Bool:=match b with
 | true=>true
 | false=>(match cu with
  | []=>false
  | cu=>(match notIn (Nat.add id 100000) cu with|true=>false|false=>true))
def nK:Nat→(Nat→Prop)→Prop
 | 0,K=>K 0
 | n+1,K=>K (n+1)
theorem nK_eq (n:Nat) (K:Nat→Prop):nK n K=K n:=by cases n <;> rfl
def bK (l:List Bool):(List Bool→Prop)→Prop :=
 List.rec (motive:=fun _=>(List Bool→Prop)→Prop) (fun K=>K []) (fun b _ ih K=>match b with
  | true=>ih fun r'=>K (true::r')
  | false=>ih fun r'=>K (false::r')) l
theorem bK_eq:∀ (l:List Bool) (K:List Bool→Prop),bK l K=K l
 | [],K=>rfl
 | true::r,K=>by show bK r (fun r'=>K (true::r'))=_;rw[bK_eq r]
 | false::r,K=>by show bK r (fun r'=>K (false::r'))=_;rw[bK_eq r]
def vcCode (P:Program) (gl:List (Nat×List D)) (tt:List (Nat×TI)) (fx:List Nat) (N nv:Nat) (cu:List Nat) (code:Code):List (Nat×V)→List (Nat×Blk)→Nat→XK→Prop :=
 Code.rec (motive:=fun _=>List (Nat×V)→List (Nat×Blk)→Nat→XK→Prop)
  (fun fr L n K=>K .normal fr L n)
  (fun id ops draw fr L n K=>match draw with
  | false=>vcOps P gl tt fx N ops.toList ops.toList fr L n (K .normal) fun c=>K (.panic c)
  | true=>bK (barsOf ops.toList) fun bs=>match forceB cu id (loudAny ops.toList bs) with
   | true=>bK (taksOf ops) fun tk=>enumB ops tk=true∧vcEnum P gl tt fx N ops.toList tk ops.toList (falses ops.toList) fr L n (K .normal) fun c=>K (.panic c)
   | false=>regB ops bs=true∧vcAny P gl tt fx N ops.toList ops.toList bs fr L n (K .normal) fun c=>K (.panic c))
  (fun a b iha ihb fr L n K=>(match cutAt cu b with
  | true=>fF (keepFr nv (dsts a) fr) fun kept=>∃ S:Spec,iha fr L n (fun x fr1 L1 n1=>match x with
   | .normal=>∃ s,S.I s∧sub3 fx n1 fr1 L1 (n+S.ex) (S.fr s++kept) (S.L s++keepL S.ks L)
   | x=>K x fr1 L1 n1)∧∀ s,S.I s→nK (n+S.ex) fun n2=>fF (S.fr s++kept) fun fr2=>fBs (S.L s++keepL S.ks L) fun L2=>ihb fr2 L2 n2 K
  | false=>iha fr L n fun x fr1 L1 n1=>match x with
   | .normal=>ihb fr1 L1 n1 K
   | x=>K x fr1 L1 n1))
  (fun c _ _ iht ihf fr L n K=>onC (sval gl fr c) fun cc=>onBool cc fun b=>match b with
  | true=>iht fr L n K
  | false=>ihf fr L n K)
  (fun id _ ih fr L n K=>ih fr L n fun x fr1 L1 n1=>match x with
  | .exit id'=>(match Nat.beq id' id with
   | true=>K .normal fr1 L1 n1
   | false=>K (.exit id') fr1 L1 n1)
  | x=>K x fr1 L1 n1)
  (fun c ih fr L n K=>fF (keepFr nv (dsts c) fr) fun kept=>∃ S:Spec,(∃ s,S.I s∧frzAll S.f0 fr L fun fr4 L4=>sub3 fx n fr4 L4 (n+S.ex) (S.fr s++kept) (S.L s++keepL S.ks L))∧
   ∀ s,S.I s→nK (n+S.ex) fun n2=>fF (S.fr s++kept) fun fr2=>fBs (S.L s++keepL S.ks L) fun L2=>ih fr2 L2 n2 fun x fr1 L1 n1=>match x with
    | .normal=>∃ s',(S.I s'∧S.μ s'<S.μ s)∧frzAll S.fz fr1 L1 fun fr4 L4=>swAll fx n1 S.rn fr4 L4 fun fr6 L6=>sub3 fx n1 fr6 L6 n2 (S.fr s'++kept) (S.L s'++keepL S.ks L)
    | x=>K x fr1 L1 n1)
  (fun _ _ _ _ _ _ _ _ _ _=>False)
  (fun id fr L n K=>K (.exit id) fr L n)
  (fun _ ih fr L n K=>ih fr L n fun x fr1 L1 n1=>match x with
  | .goto _=>False
  | x=>K x fr1 L1 n1)
  (fun _ fr L n K=>K .normal fr L n)
  (fun l fr L n K=>K (.goto l) fr L n)
  (fun fr L n K=>K .ret fr L n)
  (fun _ _ _ _ _=>False) code
def QX (dr:Bool) (gl:List (Nat×List D)) (M0 S0:Nat→Prop) (w0:Base) (N:Nat) (K:XK) (Q:Exit→Act→World→Prop):Prop :=
 (∀ fr L n adr a w,K .normal fr L n→Ok gl M0 S0 w0 N adr fr L n a w→Q .normal a w)∧
 (∀ id fr L n adr a w,K (.exit id) fr L n→Ok gl M0 S0 w0 N adr fr L n a w→Q (.exit id) a w)∧
 (∀ l fr L n adr a w,K (.goto l) fr L n→Ok gl M0 S0 w0 N adr fr L n a w→Q (.goto l) a w)∧
 (∀ fr L n adr a w,K .ret fr L n→Ok gl M0 S0 w0 N adr fr L n a w→Q .ret a w)∧
 PanOk gl M0 S0 w0 N (fun c=>K (.panic c)) Q∧
 (dr=true→∀ c a d v w,Q (.panic c) (a.put d v) w→Q (.panic c) a w)
theorem QX.sub {dr dr':Bool} {gl:List (Nat×List D)} {M0 S0:Nat→Prop} {w0:Base} {N:Nat} {K:XK} {Q:Exit→Act→World→Prop} (h:QX dr gl M0 S0 w0 N K Q) (hd:dr'=true→dr=true):QX dr' gl M0 S0 w0 N K Q :=
 ⟨h.1,h.2.1,h.2.2.1,h.2.2.2.1,h.2.2.2.2.1,fun e=>h.2.2.2.2.2 (hd e)⟩
def drawn:Code→Bool
 | .region _ _ d=>d
 | .seq a b=>drawn a || drawn b
 | .cond _ a b=>drawn a || drawn b
 | .block _ c=>drawn c
 | .loop c=>drawn c
 | .scope c=>drawn c
 | _=>false
section
variable {P:Program} {gl:List (Nat×List D)} {tt:List (Nat×TI)} {M0 S0:Nat→Prop} {w0:Base} {N nv:Nat} {cu:List Nat}
theorem vcCode_ok (hT:Fits P tt) (hm:P.follows .mixedOrders=true):∀ (c:Code) (fr:List (Nat×V)) (L:List (Nat×Blk)) (n:Nat) (adr:Env) (K:XK) (Q:Exit→Act→World→Prop) (a:Act) (w:World),
 vcCode P gl tt w0.fx N nv cu c fr L n K→Ok gl M0 S0 w0 N adr fr L n a w→QX (drawn c) gl M0 S0 w0 N K Q→c.wp P Q a w:=by
 intro c
 induction c with
 | skip=>intro fr L n adr K Q a w h hx hQ;exact wp_skip (hQ.1 _ _ _ _ _ _ h hx)
 | label l=>intro fr L n adr K Q a w h hx hQ;exact wp_label (hQ.1 _ _ _ _ _ _ h hx)
 | exit id=>intro fr L n adr K Q a w h hx hQ;exact wp_exit (hQ.2.1 _ _ _ _ _ _ _ h hx)
 | goto l=>intro fr L n adr K Q a w h hx hQ;exact wp_goto (hQ.2.2.1 _ _ _ _ _ _ _ h hx)
 | ret=>intro fr L n adr K Q a w h hx hQ;exact wp_ret (hQ.2.2.2.1 _ _ _ _ _ _ h hx)
 | seq b d ihb ihd =>
  intro fr L n adr K Q a w h hx hQ
  replace h:(match cutAt cu d with
  | true=>fF (keepFr nv (dsts b) fr) fun kept=>∃ S:Spec,vcCode P gl tt w0.fx N nv cu b fr L n (fun x fr1 L1 n1=>match x with
   | .normal=>∃ s,S.I s∧sub3 w0.fx n1 fr1 L1 (n+S.ex) (S.fr s++kept) (S.L s++keepL S.ks L)
   | x=>K x fr1 L1 n1)∧∀ s,S.I s→nK (n+S.ex) fun n2=>fF (S.fr s++kept) fun fr2=>fBs (S.L s++keepL S.ks L) fun L2=>vcCode P gl tt w0.fx N nv cu d fr2 L2 n2 K
  | false=>vcCode P gl tt w0.fx N nv cu b fr L n fun x fr1 L1 n1=>match x with
   | .normal=>vcCode P gl tt w0.fx N nv cu d fr1 L1 n1 K
   | x=>K x fr1 L1 n1):=h
  split at h
  ·rw[fF_eq] at h
   obtain ⟨S,h1,h2⟩:=h
   refine wp_seq (ihb fr L n adr _ _ a w h1 hx ⟨?_,?_,?_,?_,?_,?_⟩)
   ·rintro fr1 L1 n1 adr1 a1 w1 ⟨s,hI,hs⟩ hx1
    have h3:=h2 s hI
    rw[nK_eq,fF_eq,fBs_eq] at h3
    exact ihd _ _ _ _ K Q a1 w1 h3 (sub3_ok hx1 hs) (hQ.sub fun e=>by simp[drawn,e])
   ·intro id fr1 L1 n1 adr1 a1 w1 hk hx1;exact hQ.2.1 _ _ _ _ _ _ _ hk hx1
   ·intro id fr1 L1 n1 adr1 a1 w1 hk hx1;exact hQ.2.2.1 _ _ _ _ _ _ _ hk hx1
   ·intro fr1 L1 n1 adr1 a1 w1 hk hx1;exact hQ.2.2.2.1 _ _ _ _ _ _ hk hx1
   ·intro c fr1 L1 n1 adr1 x a1 w1 hk hx1 hd;exact hQ.2.2.2.2.1 _ _ _ _ _ _ _ _ hk hx1 hd
   ·intro e c a d v w h;exact hQ.2.2.2.2.2 (by simp[drawn,e]) c a d v w h
  ·refine wp_seq (ihb fr L n adr _ _ a w h hx ⟨?_,?_,?_,?_,?_,?_⟩)
   ·intro fr1 L1 n1 adr1 a1 w1 hk hx1;exact ihd _ _ _ _ K Q a1 w1 hk hx1 (hQ.sub fun e=>by simp[drawn,e])
   ·intro id fr1 L1 n1 adr1 a1 w1 hk hx1;exact hQ.2.1 _ _ _ _ _ _ _ hk hx1
   ·intro id fr1 L1 n1 adr1 a1 w1 hk hx1;exact hQ.2.2.1 _ _ _ _ _ _ _ hk hx1
   ·intro fr1 L1 n1 adr1 a1 w1 hk hx1;exact hQ.2.2.2.1 _ _ _ _ _ _ hk hx1
   ·intro c fr1 L1 n1 adr1 x a1 w1 hk hx1 hd;exact hQ.2.2.2.2.1 _ _ _ _ _ _ _ _ hk hx1 hd
   ·intro e c a d v w h;exact hQ.2.2.2.2.2 (by simp[drawn,e]) c a d v w h
 | cond c t f iht ihf =>
  intro fr L n adr K Q a w h hx hQ
  obtain ⟨cc,hc,h1⟩:=onC_ok (show onC (sval gl fr c) _ from h)
  obtain ⟨b,h2,h3⟩:=onBool_ok h1
  have he:a.eval c=.bool b:=h3 _ _ _ _ (hx.sval hc)
  cases b with
  | true=>exact wp_cond_true he (iht _ _ _ _ K Q a w h2 hx (hQ.sub fun e=>by simp[drawn,e]))
  | false=>exact wp_cond_false he (ihf _ _ _ _ K Q a w h2 hx (hQ.sub fun e=>by simp[drawn,e]))
 | block id c ih =>
  intro fr L n adr K Q a w h hx hQ
  refine wp_block (ih fr L n adr _ _ a w h hx ⟨?_,?_,?_,?_,?_,?_⟩)
  ·intro fr1 L1 n1 adr1 a1 w1 hk hx1;exact hQ.1 _ _ _ _ _ _ hk hx1
  ·intro id' fr1 L1 n1 adr1 a1 w1 hk hx1
   simp only[Exit.inBlock]
   cases hb:Nat.beq id' id with
   | true =>
    simp only[hb] at hk
    rw[if_pos (Nat.eq_of_beq_eq_true hb)]
    exact hQ.1 _ _ _ _ _ _ hk hx1
   | false =>
    simp only[hb] at hk
    rw[if_neg (Nat.ne_of_beq_eq_false hb)]
    exact hQ.2.1 _ _ _ _ _ _ _ hk hx1
  ·intro id fr1 L1 n1 adr1 a1 w1 hk hx1;exact hQ.2.2.1 _ _ _ _ _ _ _ hk hx1
  ·intro fr1 L1 n1 adr1 a1 w1 hk hx1;exact hQ.2.2.2.1 _ _ _ _ _ _ hk hx1
  ·intro c fr1 L1 n1 adr1 x a1 w1 hk hx1 hd;exact hQ.2.2.2.2.1 _ _ _ _ _ _ _ _ hk hx1 hd
  ·intro e c a d v w h;exact hQ.2.2.2.2.2 e c a d v w h
 | region id ops draw =>
  intro fr L n adr K Q a w h hx hQ
  cases draw with
  | false=>exact wp_region_list (vcOps_ok hT (fun fr L n adr a w hk hy=>hQ.1 _ _ _ _ _ _ hk hy) hQ.2.2.2.2.1 ops.toList fr L n adr a w h hx)
  | true =>
   replace h:(bK (barsOf ops.toList) fun bs=>match forceB cu id (loudAny ops.toList bs) with
    | true=>bK (taksOf ops) fun tk=>enumB ops tk=true∧vcEnum P gl tt w0.fx N ops.toList tk ops.toList (falses ops.toList) fr L n (K .normal) fun c=>K (.panic c)
    | false=>regB ops bs=true∧vcAny P gl tt w0.fx N ops.toList ops.toList bs fr L n (K .normal) fun c=>K (.panic c)):=h
   rw[bK_eq] at h
   cases hl:forceB cu id (loudAny ops.toList (barsOf ops.toList)) with
   | true =>
    rw[hl] at h
    replace h:(bK (taksOf ops) fun tk=>enumB ops tk=true∧vcEnum P gl tt w0.fx N ops.toList tk ops.toList (falses ops.toList) fr L n (K .normal) fun c=>K (.panic c)):=h
    rw[bK_eq] at h
    exact region_enum_ok hT hm h.1 (hQ.2.2.2.2.2 rfl) (fun fr L n adr a w hk hy=>hQ.1 _ _ _ _ _ _ hk hy) hQ.2.2.2.2.1 h.2 hx
   | false =>
    rw[hl] at h
    exact region_any_ok hT hm h.1 (fun fr L n adr a w hk hy=>hQ.1 _ _ _ _ _ _ hk hy) hQ.2.2.2.2.1 h.2 hx
 | scope c ih =>
  intro fr L n adr K Q a w h hx hQ
  refine wp_scope_straight (ih fr L n adr _ _ a w h hx ⟨?_,?_,?_,?_,?_,?_⟩)
  ·intro fr1 L1 n1 adr1 a1 w1 hk hx1;exact hQ.1 _ _ _ _ _ _ hk hx1
  ·intro id fr1 L1 n1 adr1 a1 w1 hk hx1;exact hQ.2.1 _ _ _ _ _ _ _ hk hx1
  ·intro id fr1 L1 n1 adr1 a1 w1 hk hx1;exact hk.elim
  ·intro fr1 L1 n1 adr1 a1 w1 hk hx1;exact hQ.2.2.2.1 _ _ _ _ _ _ hk hx1
  ·intro c fr1 L1 n1 adr1 x a1 w1 hk hx1 hd;exact hQ.2.2.2.2.1 _ _ _ _ _ _ _ _ hk hx1 hd
  ·intro e c a d v w h;exact hQ.2.2.2.2.2 e c a d v w h
 | loop c ih =>
  intro fr L n adr K Q a w h hx hQ
  replace h:(fF (keepFr nv (dsts c) fr) fun kept=>∃ S:Spec,(∃ s,S.I s∧frzAll S.f0 fr L fun fr4 L4=>sub3 w0.fx n fr4 L4 (n+S.ex) (S.fr s++kept) (S.L s++keepL S.ks L))∧
   ∀ s,S.I s→nK (n+S.ex) fun n2=>fF (S.fr s++kept) fun fr2=>fBs (S.L s++keepL S.ks L) fun L2=>vcCode P gl tt w0.fx N nv cu c fr2 L2 n2 fun x fr1 L1 n1=>match x with
    | .normal=>∃ s',(S.I s'∧S.μ s'<S.μ s)∧frzAll S.fz fr1 L1 fun fr4 L4=>swAll w0.fx n1 S.rn fr4 L4 fun fr6 L6=>sub3 w0.fx n1 fr6 L6 n2 (S.fr s'++kept) (S.L s'++keepL S.ks L)
    | x=>K x fr1 L1 n1):=h
  rw[fF_eq] at h
  obtain ⟨S,⟨s0,hI0,hs00⟩,hround⟩:=h
  obtain ⟨fr5,L5,hs0,hx5⟩:=frzAll_ok hs00 hx
  refine wp_loop_ghost (fun k a w=>∃ s adr,S.μ s=k∧S.I s∧Ok gl M0 S0 w0 N adr (S.fr s++keepFr nv (dsts c) fr) (S.L s++keepL S.ks L) (n+S.ex) a w) (S.μ s0) ⟨s0,_,rfl,hI0,sub3_ok hx5 hs0⟩ ?_
  rintro _ a w ⟨s,adr1,rfl,hI,hok⟩
  have h1:=hround s hI
  rw[nK_eq,fF_eq,fBs_eq] at h1
  refine ih _ _ _ adr1 _ _ a w h1 hok ⟨?_,?_,?_,?_,?_,?_⟩
  ·rintro fr1 L1 n1 adr2 a1 w1 ⟨s',⟨hI',hlt⟩,hs'⟩ hx1
   obtain ⟨fr4,L4,hs4,hx4⟩:=frzAll_ok hs' hx1
   obtain ⟨adr6,fr6,L6,hs6,hx6⟩:=swAll_ok hs4 hx4
   exact ⟨S.μ s',hlt,s',_,rfl,hI',sub3_ok hx6 hs6⟩
  ·intro id fr1 L1 n1 adr1 a1 w1 hk hx1;exact hQ.2.1 _ _ _ _ _ _ _ hk hx1
  ·intro id fr1 L1 n1 adr1 a1 w1 hk hx1;exact hQ.2.2.1 _ _ _ _ _ _ _ hk hx1
  ·intro fr1 L1 n1 adr1 a1 w1 hk hx1;exact hQ.2.2.2.1 _ _ _ _ _ _ hk hx1
  ·intro c fr1 L1 n1 adr1 x a1 w1 hk hx1 hd;exact hQ.2.2.2.2.1 _ _ _ _ _ _ _ _ hk hx1 hd
  ·intro e c a d v w h;exact hQ.2.2.2.2.2 e c a d v w h
 | _ =>
  intro fr L n adr K Q a w h hx hQ
  exact h.elim
end
def vcRes (tt:List (Nat×TI)) (L:List (Nat×Blk)) (fr:List (Nat×V)) (l:List ResultVar):(List V→Prop)→Prop :=
 List.rec (motive:=fun _=>(List V→Prop)→Prop) (fun K=>K []) (fun r _ ih K=>match r with
  | .tmp t=>onS (look fr t) fun s=>ih fun l=>K (s::l)
  | .cell a t=>onC (look fr a) fun c=>onT tt t fun ti=>rLoad L ti c fun s=>ih fun l=>K (s::l)) l
def rv (tmps:Array Value):ResultVar→Sem Value
 | .tmp t=>pure (tmps.getD t undef)
 | .cell b t=>do loadVar t (← asAddr (tmps.getD b undef))
theorem rLoad_addr {P:Program} {t:Nat} {x v:Value} {w:World} (h:(Instr.loadAt t x).run P w=.ok v w) (hx:∃ b o,x=.pointer (some ⟨b,o,none⟩)):(do loadVar t (← asAddr x):Sem Value).run P w=.ok v w:=by
 obtain ⟨b,o,rfl⟩:=hx
 simp only[Instr.loadAt,Instr.sureAddr,Sem.run_bind,Sem.run_pure,Result.andThen_ok] at h
 simp only[asAddr,Sem.run_bind,Sem.run_pure,Result.andThen_ok]
 exact h
theorem rLoad_ptr {L:List (Nat×Blk)} {ti:TI} {c:C} {K:V→Prop} (hr:rLoad L ti c K) {adr:Env} {M:Nat→Prop} {w:World} {x:Value} (hx:DenC adr M w c x):∃ b o,x=.pointer (some ⟨b,o,none⟩):=by
 unfold rLoad at hr
 split at hr
 ·obtain ⟨b,m,_,rfl⟩:=hx;exact ⟨_,_,rfl⟩
 ·obtain ⟨b,m,_,rfl⟩:=hx;exact ⟨_,_,rfl⟩
 ·cases hx with|imm=>exact ⟨_,_,rfl⟩
 ·exact hr.elim
section
variable {P:Program} {gl:List (Nat×List D)} {tt:List (Nat×TI)} {M0 S0:Nat→Prop} {w0:Base} {N:Nat} {adr:Env} {fr:List (Nat×V)} {L:List (Nat×Blk)} {n:Nat} {a:Act} {w:World}
theorem vcRes_ok (hT:Fits P tt) (hx:Ok gl M0 S0 w0 N adr fr L n a w):∀ {rs:List ResultVar} {K:List V→Prop},vcRes tt L fr rs K→∃ l xs,K l∧(rs.mapM (rv a.tmps)).run P w=.ok xs w∧All2 (DenV adr (Mut M0 adr L) w) l xs
 | [],K,h=>⟨[],[],h,rfl,trivial⟩
 | .tmp t::r,K,h=>by
  obtain ⟨s,hs,h1⟩:=onS_ok (show onS (look fr t) _ from h)
  obtain ⟨l,xs,hK,h2,h3⟩:=vcRes_ok hT hx (rs:=r) h1
  refine ⟨_,_::xs,hK,?_,hx.fr t s hs,h3⟩
  rw[List.mapM_cons]
  simp only[rv,Sem.run_bind,Sem.run_pure,Result.andThen_ok,h2]
 | .cell b t::r,K,h=>by
  obtain ⟨c,hc,h1⟩:=onC_ok (show onC (look fr b) _ from h)
  obtain ⟨ti,hl,h2⟩:=onT_ok h1
  have hden:=hx.fr b _ hc
  obtain ⟨s,hK1,hr⟩:=rLoad_ok (hT t ti hl) h2
  obtain ⟨v,h3,h4⟩:=hr M0 adr L n w _ (fun _ _ h=>h) hx.wok hden
  obtain ⟨l,xs,hK,h5,h6⟩:=vcRes_ok hT hx (rs:=r) hK1
  refine ⟨_,v::xs,hK,?_,h4,h6⟩
  rw[List.mapM_cons]
  have:=rLoad_addr h3 (rLoad_ptr h2 hden)
  simp only[rv,Sem.run_bind] at this ⊢
  simp only[this,Sem.run_pure,Result.andThen_ok,h5]
def retVal:List Value→Value
 | [x]=>x
 | l=>.tuple l.toArray
theorem run_results {fn:Func} {tmps:Array Value} {xs:List Value} (h:(fn.results.toList.mapM (rv tmps)).run P w=.ok xs w):(results fn tmps).run P w=.ok (retVal xs) w:=by
 have hm:(fn.results.mapM (rv tmps)).run P w=.ok xs.toArray w:=by
  rw[Array.mapM_eq_mapM_toList]
  simp[h]
 have hres:results fn tmps=(do let vs ← fn.results.mapM (rv tmps);pure (if h:vs.size=1 then vs[0] else .tuple vs)):=by
  unfold results
  refine congrArg (fun z:Sem (Array Value)=>z >>= fun vs=>pure (if h:vs.size=1 then vs[0] else Value.tuple vs)) ?_
  refine congrArg (fun g:ResultVar→Sem Value=>fn.results.mapM g) ?_
  funext r
  cases r <;> rfl
 rw[hres]
 simp only[Sem.run_bind,hm,Result.andThen_ok,Sem.run_pure]
 match xs with
 | []=>rfl
 | [s]=>rfl
 | s::t::r =>
  rw[dif_neg (by simp)]
  rfl
end
def argFr:Nat→List V→List (Nat×V)
 | _,[]=>[]
 | n,s::r=>(n,s)::argFr (n+1) r
theorem look_argFr {t:Nat} {s:V}:∀ {n:Nat} {l:List V},look (argFr n l) t=some s→n≤t∧l[t - n]?=some s
 | n,[],h=>by simp[argFr,look] at h
 | n,s'::r,h=>by
  simp only[argFr,look_cons] at h
  by_cases e:n=t
  ·subst e;simp only[if_true,Option.some.injEq] at h;subst h;simp
  ·rw[if_neg e] at h
   obtain ⟨h1,h2⟩:=look_argFr h
   have:t - n=(t - (n+1))+1:=by omega
   exact ⟨by omega,by rw[this];exact h2⟩
def vsK (l:List D):(List V→Prop)→Prop :=
 List.rec (motive:=fun _=>(List V→Prop)→Prop) (fun K=>K []) (fun d _ ih K=>fV (vD d) fun s=>ih fun l=>K (s::l)) l
theorem vsK_eq:∀ (l:List D) (K:List V→Prop),vsK l K=K (l.map vD)
 | [],K=>rfl
 | d::r,K=>by show fV (vD d) (fun s=>vsK r fun l=>K (s::l))=_;rw[fV_eq,vsK_eq r];rfl
section
variable {L:List (Nat×Blk)}
theorem lendC_look {c:C} {K:D→List Nat→Prop} (h:lendC L c K):lendC L c fun d ks=>K d ks∧∀ k ∈ ks,(look L k).isSome=true:=by
 cases c with
 | d x=>exact ⟨h,by simp⟩
 | all z k =>
  simp only[lendC] at h ⊢
  cases hk:look L k with
  | none=>rw[hk] at h;exact h.elim
  | some B=>cases B with
   | var l t=>rw[hk] at h;exact h.elim
   | mp ks vs=>rw[hk] at h;exact h.elim
   | rows z' l e =>
    rw[hk] at h
    obtain ⟨h1,h2⟩:=onB_ok h
    simp only[h1]
    exact ⟨h2,by simp[hk]⟩
 | own z k i q =>
  simp only[lendC] at h ⊢
  cases hk:look L k with
  | none=>rw[hk] at h;exact h.elim
  | some B=>cases B with
   | var l t=>rw[hk] at h;exact h.elim
   | mp ks vs=>rw[hk] at h;exact h.elim
   | rows z' l e =>
    rw[hk] at h
    obtain ⟨h1,h2,h3⟩:=onB_ok h
    simp only[h1]
    exact ⟨h2,h3,by simp[hk]⟩
 | fn f cs=>cases cs with
  | nil=>exact ⟨h,by simp⟩
  | cons _ _=>exact h.elim
 | ptr k o =>
  simp only[lendC] at h ⊢
  cases hk:look L k with
  | none=>rw[hk] at h;exact h.elim
  | some B=>cases B with
   | rows z' l e =>
    rw[hk] at h
    obtain ⟨h1,h2⟩:=onB_ok h
    simp only[h1]
    exact ⟨h2,by simp[hk]⟩
   | mp ks vs=>rw[hk] at h;exact h.elim
   | var l t =>
    rw[hk] at h
    simp only at h ⊢
    split at h
    ·exact ⟨h,by simp[hk]⟩
    ·exact h.elim
 | mref k =>
  simp only[lendC] at h ⊢
  cases hk:look L k with
  | none=>rw[hk] at h;exact h.elim
  | some B=>cases B with
   | rows z' l e=>rw[hk] at h;exact h.elim
   | var l t=>rw[hk] at h;exact h.elim
   | mp ks vs =>
    rw[hk] at h
    exact ⟨h,by simp[hk]⟩
 | elt z k i o=>exact h.elim
 | junk=>exact h.elim
theorem lendC_mono {c:C} {K K':D→List Nat→Prop} (h:lendC L c K) (hk:∀ d ks,K d ks→K' d ks):lendC L c K':=by
 unfold lendC at h ⊢
 split at h
 ·exact hk _ _ h
 ·split at h
  ·obtain ⟨h1,h2⟩:=onB_ok h;simp only[h1];exact hk _ _ h2
  ·exact h.elim
 ·split at h
  ·obtain ⟨h1,h2,h3⟩:=onB_ok h;simp only[h1];exact ⟨h2,hk _ _ h3⟩
  ·exact h.elim
 ·exact hk _ _ h
 ·split at h
  ·split at h
   ·exact hk _ _ h
   ·exact h.elim
  ·obtain ⟨h1,h2⟩:=onB_ok h;simp only[h1];exact hk _ _ h2
  ·exact h.elim
 ·split at h
  ·exact hk _ _ h
  ·exact h.elim
 ·exact h.elim
theorem lendL_look:∀ {l:List C} {K:List D→List Nat→Prop},lendL L l K→lendL L l fun ds ks=>K ds ks∧∀ k ∈ ks,(look L k).isSome=true
 | [],K,h=>⟨h,by simp⟩
 | c::r,K,h=>by
  rw[lendL_cons]
  refine lendC_mono (lendC_look (lendL_cons L c r K ▸ h)) fun d ks ⟨h1,h2⟩=>?_
  refine lendL_mono (lendL_look h1) fun ds ks' ⟨h3,h4⟩=>⟨h3,fun k hk=>?_⟩
  rcases List.mem_append.1 hk with h5|h5
  ·exact h2 k h5
  ·exact h4 k h5
where lendL_mono:∀ {l:List C} {K K':List D→List Nat→Prop},lendL L l K→(∀ d ks,K d ks→K' d ks)→lendL L l K'
 | [],K,K',h,hk=>hk _ _ h
 | c::r,K,K',h,hk=>by rw[lendL_cons] at h ⊢;exact lendC_mono h fun _ _ h1=>lendL_mono h1 fun _ _ h2=>hk _ _ h2
theorem lendV_look {s:V} {K:D→List Nat→Prop} (h:lendV L s K):lendV L s fun d ks=>K d ks∧∀ k ∈ ks,(look L k).isSome=true:=by
 cases s with
 | c c=>exact lendC_look h
 | agg l=>exact lendL_look.lendL_mono (lendL_look h) fun _ _ h=>h
 | tup l=>exact h.elim
theorem lendV_mono {s:V} {K K':D→List Nat→Prop} (h:lendV L s K) (hk:∀ d ks,K d ks→K' d ks):lendV L s K':=by
 cases s with
 | c c=>exact lendC_mono h hk
 | agg l=>exact lendL_look.lendL_mono h fun _ _ h=>hk _ _ h
 | tup l=>exact h.elim
theorem lendVs_mono:∀ {l:List V} {K K':List D→List Nat→Prop},lendVs L l K→(∀ d ks,K d ks→K' d ks)→lendVs L l K'
 | [],K,K',h,hk=>hk _ _ h
 | c::r,K,K',h,hk=>by rw[lendVs_cons] at h ⊢;exact lendV_mono h fun _ _ h1=>lendVs_mono h1 fun _ _ h2=>hk _ _ h2
theorem lendVs_look:∀ {l:List V} {K:List D→List Nat→Prop},lendVs L l K→lendVs L l fun ds ks=>K ds ks∧∀ k ∈ ks,(look L k).isSome=true
 | [],K,h=>⟨h,by simp⟩
 | c::r,K,h=>by
  rw[lendVs_cons]
  refine lendV_mono (lendV_look (lendVs_cons L c r K ▸ h)) fun d ks ⟨h1,h2⟩=>?_
  refine lendVs_mono (lendVs_look h1) fun ds ks' ⟨h3,h4⟩=>⟨h3,fun k hk=>?_⟩
  rcases List.mem_append.1 hk with h5|h5
  ·exact h2 k h5
  ·exact h4 k h5
end
def retD:List D→D
 | [d]=>d
 | l=>.tup l
def endP (tt:List (Nat×TI)) (rs:List ResultVar) (r:D):XK:=fun x fr L _=>match x with
 | .normal=>vcRes tt L fr rs fun l=>lendVs L l fun ds _=>LeD (retD ds) r
 | .ret=>vcRes tt L fr rs fun l=>lendVs L l fun ds _=>LeD (retD ds) r
 | _=>False
section
variable {P:Program} {gl:List (Nat×List D)} {tt:List (Nat×TI)} {nv:Nat} {cu:List Nat}
theorem retD_den {M:Nat→Prop} {w:World} {ds:List D} {xs:List Value} (h:DenL M w ds xs):DenD M w (retD ds) (retVal xs):=by
 match ds,xs,h with
 | [],[],_=>exact .tup [] [] rfl (fun j d x h=>by simp at h)
 | [d],[x],h=>exact h.1
 | d::e::ds,x::y::xs,h=>exact DenD.tup_mk h
 | [],_::_,h=>exact h.elim
 | [_],[],h=>exact h.elim
 | [_],_::_::_,h=>exact h.2.elim
 | _::_::_,[],h=>exact h.elim
 | _::_::_,[_],h=>exact h.2.elim
theorem fnP_of_vc (hT:Fits P tt) (hm:P.follows .mixedOrders=true) {f:FuncId} {fn:Func} {c:Code} {ds:List D} {r:D} (hf:P.funcs[f]?=some fn) (hb:fn.body=some c) (hB:HasBody P f) (hN:Nat.ble ds.length fn.ntmps=true)
 (h:vsK ds fun vs=>vcCode P gl tt [] fn.ntmps nv cu c (argFr 0 vs) [] 0 (endP tt fn.results.toList r)):FnP P gl f ds r:=by
 rw[vsK_eq] at h
 intro w M xs hM hg hd
 refine .inl ⟨hB,?_⟩
 have hN':=Nat.le_of_ble_eq_true hN
 have hlen:=All2.length hd
 have hmut:Mut M (fun _=>none) []=M:=by
  funext b
  apply propext
  constructor
  ·rintro (h1|⟨k,B,m,h1,_⟩)
   ·exact h1
   ·cases h1
  ·exact .inl
 have fin:∀ {fr L n adr a w'},vcRes tt L fr fn.results.toList (fun l=>lendVs L l fun ds _=>LeD (retD ds) r)→Ok gl M (fun _=>False) ⟨w,fun _=>none,[],[]⟩ fn.ntmps adr fr L n a w'→
  a.defers=[]∧∃ v,(results fn a.tmps).run P w'=.ok v w'∧(Evo (fun _=>False) w w'∧∃ x,Ending.returned v=.returned x∧DenD M w' r x):=by
  intro fr L n adr a w' hr hx
  obtain ⟨l,ys,hK,h1,h2⟩:=vcRes_ok hT hx hr
  obtain ⟨es,ks,⟨h3,h5⟩,h4⟩:=lendVs_ok (lendVs_look hK)
  refine ⟨hx.defers,_,run_results h1,hx.base,_,rfl,?_⟩
  refine h3.out _ _ _ (retD_den (h4 M adr n w' ys M hx.wok h2 (fun b _ hb=>.inl hb) (fun k hk b m ha hb=>?_)))
  have hlt:=hM b hb
  obtain ⟨B,hB'⟩:=Option.isSome_iff_exists.1 (h5 k hk)
  exact hx.wok.prot k B b m hB' ha hb
 refine calls_of_wp hf hb (vcCode_ok (M0:=M) (S0:=fun _=>False) (w0:=⟨w,fun _=>none,[],[]⟩) hT hm c _ _ _ (fun _=>none) _ _ _ w h ⟨?_,rfl,fun t s hl=>?_,⟨(fun k B hk=>by cases hk),(fun _ _=>rfl),(fun k B hk=>by cases hk),(fun k k' B B' b m m' hk=>by cases hk),(fun k B b m hk=>by cases hk),hM⟩,by rw[hmut];exact hg,Evo.refl _ _,(fun k B b m hk=>by cases hk),(fun k hk=>by simp at hk)⟩ ⟨?_,?_,?_,?_,?_,?_⟩)
 ·simp;omega
 ·obtain ⟨_,h2⟩:=look_argFr hl
  simp only[Nat.sub_zero] at h2
  rw[List.getElem?_map] at h2
  obtain ⟨d,hd1,rfl⟩:=Option.map_eq_some_iff.1 h2
  obtain ⟨x,hx1,hx2⟩:=All2.get hd hd1
  have hlt:t<xs.length:=(List.getElem?_eq_some_iff.1 hx1).1
  rw[Array.getD_eq_getD_getElem?,Array.getElem?_append_left (by simpa using hlt)]
  rw[hmut]
  simp only[List.getElem?_toArray,hx1,Option.getD_some]
  exact vD_den hx2
 ·intro fr L n adr a w' hk hx;exact fin hk hx
 ·intro id fr L n adr a w' hk hx;exact hk.elim
 ·intro id fr L n adr a w' hk hx;exact hk.elim
 ·intro fr L n adr a w' hk hx;exact fin hk hx
 ·intro c fr L n adr x a w' hk hx hd;exact hk.elim
 ·intro _ c a d v w h;cases d <;> exact h
end
end
end Go.EYtfcmhmglpcimiaaGreatDoor
