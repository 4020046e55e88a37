/- Proved: a part of what the law is proved with (the reckoner, contracts of functions, plain laws). Conditions: as each says. -/
import Derived.Test.YtaheflnnigocgaaGreatDoorHEo
section
namespace Go.EYtaheflnnigocgaaGreatDoor
open Go Go.RowKit
def renC (f:Nat→Nat):C→C
 | .ptr k o=>.ptr (f k) o
 | .elt z k i o=>.elt z (f k) i o
 | .own z k i n=>.own z (f k) i n
 | .all z k=>.all z (f k)
 | .mref k=>.mref (f k)
 | .fn g cs=>.fn g (cs.map fun p=>(f p.1,p.2))
 | c=>c
def renV (f:Nat→Nat):V→V
 | .c x=>.c (renC f x)
 | .agg l=>.agg (l.map (renC f))
 | .tup l=>.tup (l.map fun p=>(p.1,p.2.map (renC f)))
def renB (f:Nat→Nat):Blk→Blk
 | .var l t=>.var (l.map (renC f)) t
 | B=>B
def renL (f:Nat→Nat) (L:List (Nat×Blk)):List (Nat×Blk):=L.map fun p=>(f p.1,renB f p.2)
def renR (f:Nat→Nat):Ret→Ret
 | .ret v=>.ret (renV f v)
 | .panic c=>.panic (renC f c)
def renN (ρ:List Nat) (h n k:Nat):Nat:=match Nat.blt k h with
 | true=>(nth ρ k).getD 0
 | false=>n+(k - h)
section
variable {f:Nat→Nat} {adr:Env} {M:Nat→Prop} {w:World}
theorem renC_den (c:C) (x:Value):DenC adr M w (renC f c) x=DenC (fun k=>adr (f k)) M w c x:=by
 cases c <;> try rfl
 case fn g cs =>
  simp only[renC,DenC]
  apply propext
  constructor
  ·rintro ⟨xs,h1,h2⟩;exact ⟨xs,h1,(All2.map_left (R:=DenP adr) (f:=fun p:Nat×Nat=>(f p.1,p.2))).1 h2⟩
  ·rintro ⟨xs,h1,h2⟩;exact ⟨xs,h1,(All2.map_left (R:=DenP adr) (f:=fun p:Nat×Nat=>(f p.1,p.2))).2 h2⟩
theorem renCs_den (l:List C) (xs:List Value):DenCs adr M w (l.map (renC f)) xs=DenCs (fun k=>adr (f k)) M w l xs:=by
 apply propext
 unfold DenCs
 rw[All2.map_left]
 constructor
 ·exact All2.imp fun c x h=>by rw[← renC_den];exact h
 ·exact All2.imp fun c x h=>by rw[renC_den];exact h
theorem renV_den (s:V) (x:Value):DenV adr M w (renV f s) x=DenV (fun k=>adr (f k)) M w s x:=by
 cases s with
 | c c=>exact renC_den c x
 | agg l=>simp only[renV,DenV,renCs_den]
 | tup l =>
  simp only[renV,DenV]
  apply propext
  have key:∀ (p:Bool×List C) (x:Value),DenT adr M w (p.1,p.2.map (renC f)) x↔DenT (fun k=>adr (f k)) M w p x:=by
   rintro ⟨g,l⟩ x
   cases g with
   | true=>simp only[DenT,renCs_den]
   | false =>
    simp only[DenT]
    constructor
    ·rintro ⟨c,h1,h2⟩
     match l,h1 with
     | [c0],h1 =>
      simp only[List.map_cons,List.map_nil,List.cons.injEq,and_true] at h1
      subst h1
      exact ⟨c0,rfl,by rw[← renC_den];exact h2⟩
    ·rintro ⟨c,h1,h2⟩
     subst h1
     exact ⟨renC f c,rfl,by rw[renC_den];exact h2⟩
  constructor
  ·rintro ⟨xs,h1,h2⟩;exact ⟨xs,h1,All2.imp (fun p x h=>(key p x).1 h) (All2.map_left.1 h2)⟩
  ·rintro ⟨xs,h1,h2⟩;exact ⟨xs,h1,All2.map_left.2 (All2.imp (fun p x h=>(key p x).2 h) h2)⟩
theorem renVs_den (l:List V) (xs:List Value):All2 (DenV adr M w) (l.map (renV f)) xs↔All2 (DenV (fun k=>adr (f k)) M w) l xs:=by
 rw[All2.map_left]
 constructor
 ·exact All2.imp fun c x h=>by rw[← renV_den];exact h
 ·exact All2.imp fun c x h=>by rw[renV_den];exact h
theorem renB_loc (e:Option (Option Nat×Nat)) (B:Blk):LocB adr M w e (renB f B)=LocB (fun k=>adr (f k)) M w e B:=by
 cases B with
 | mp ks vs=>cases e with
  | none=>rfl
  | some q=>obtain ⟨q1,q2⟩:=q;cases q1 <;> rfl
 | rows z l t=>cases e with
  | none=>rfl
  | some q=>obtain ⟨q1,q2⟩:=q;cases q1 <;> rfl
 | var l t=>cases e with
  | none=>rfl
  | some q =>
   obtain ⟨q1,q2⟩:=q
   cases q1 with
   | none=>rfl
   | some b=>simp only[renB,LocB,renCs_den]
theorem look_ren (hf:∀ a b,f a=f b→a=b):∀ {L:List (Nat×Blk)} {k:Nat},look (renL f L) (f k)=(look L k).map (renB f)
 | [],k=>rfl
 | (j,B)::r,k=>by
  show look ((f j,renB f B)::renL f r) (f k)=_
  rw[look_cons,look_cons]
  by_cases e:j=k
  ·subst e;rw[if_pos rfl,if_pos rfl];rfl
  ·rw[if_neg e,if_neg (fun h=>e (hf _ _ h)),look_ren hf]
theorem look_ren_inv:∀ {L:List (Nat×Blk)} {j:Nat} {B:Blk},look (renL f L) j=some B→∃ k,f k=j
 | [],j,B,h=>by cases h
 | (i,B')::r,j,B,h=>by
  have h:look ((f i,renB f B')::renL f r) j=some B:=h
  rw[look_cons] at h
  by_cases e:f i=j
  ·exact ⟨i,e⟩
  ·rw[if_neg e] at h;exact look_ren_inv h
theorem look_ren2 (hf:∀ a b,f a=f b→a=b) {L:List (Nat×Blk)} {j:Nat} {B:Blk} (h:look (renL f L) j=some B):∃ k B0,j=f k∧look L k=some B0∧B=renB f B0:=by
 obtain ⟨k,rfl⟩:=look_ren_inv h
 rw[look_ren hf] at h
 obtain ⟨B0,h1,h2⟩:=Option.map_eq_some_iff.1 h
 exact ⟨k,B0,rfl,h1,h2.symm⟩
theorem trk_ren (hf:∀ a b,f a=f b→a=b) {L:List (Nat×Blk)}:Trk adr (renL f L)=Trk (fun k=>adr (f k)) L:=by
 funext b
 apply propext
 constructor
 ·rintro ⟨j,B,m,h1,h2⟩
  obtain ⟨k,B0,rfl,h3,_⟩:=look_ren2 hf h1
  exact ⟨k,B0,m,h3,h2⟩
 ·rintro ⟨k,B,m,h1,h2⟩
  exact ⟨f k,renB f B,m,by rw[look_ren hf,h1];rfl,h2⟩
theorem mut_trk {M0:Nat→Prop} {adr:Env} {L:List (Nat×Blk)}:Mut M0 adr L=fun b=>M0 b∨Trk adr L b:=rfl
theorem mut_ren (hf:∀ a b,f a=f b→a=b) {M0:Nat→Prop} {L:List (Nat×Blk)}:Mut M0 adr (renL f L)=Mut M0 (fun k=>adr (f k)) L:=by
 rw[mut_trk,mut_trk,trk_ren hf]
theorem wok_ren (hf:∀ a b,f a=f b→a=b) {M0:Nat→Prop} {L:List (Nat×Blk)} {n n':Nat} (hn:∀ k B,look L k=some B→(f k<n↔k<n')) (h1:∀ k,n≤k→adr k=none) (h2:∀ k,n'≤k→adr (f k)=none) :
 WOk M0 adr (renL f L) n w↔WOk M0 (fun k=>adr (f k)) L n' w:=by
 constructor
 ·intro h
  refine ⟨fun k B hk=>(hn k B hk).1 (h.keys (f k) _ (by rw[look_ren hf,hk];rfl)),h2,fun k B hk=>?_,fun k k' B B' b m m' g1 g2 g3 g4=>?_,fun k B b m hk ha=>?_,h.bound⟩
  ·have:=h.loc (f k) _ (by rw[look_ren hf,hk];rfl)
   rw[mut_ren hf,renB_loc] at this;exact this
  ·exact hf _ _ (h.inj (f k) (f k') _ _ b m m' (by rw[look_ren hf,g1];rfl) (by rw[look_ren hf,g2];rfl) g3 g4)
  ·exact h.prot (f k) _ b m (by rw[look_ren hf,hk];rfl) ha
 ·intro h
  refine ⟨fun j B hj=>?_,h1,fun j B hj=>?_,fun j j' B B' b m m' g1 g2 g3 g4=>?_,fun j B b m hj ha=>?_,h.bound⟩
  ·obtain ⟨k,B0,rfl,h3,_⟩:=look_ren2 hf hj;exact (hn k B0 h3).2 (h.keys k B0 h3)
  ·obtain ⟨k,B0,rfl,h3,rfl⟩:=look_ren2 hf hj
   rw[mut_ren hf,renB_loc];exact h.loc k B0 h3
  ·obtain ⟨k,B0,rfl,h3,_⟩:=look_ren2 hf g1
   obtain ⟨k',B1,rfl,h4,_⟩:=look_ren2 hf g2
   rw[h.inj k k' B0 B1 b m m' h3 h4 g3 g4]
  ·obtain ⟨k,B0,rfl,h3,_⟩:=look_ren2 hf hj;exact h.prot k B0 b m h3 ha
end
def swN (a b k:Nat):Nat:=match Nat.beq k a with
 | true=>b
 | false=>match Nat.beq k b with
  | true=>a
  | false=>k
theorem swN_a {a b:Nat}:swN a b a=b:=by unfold swN;rw[show Nat.beq a a=true from Nat.beq_refl a]
theorem swN_b {a b:Nat}:swN a b b=a:=by
 unfold swN
 cases h:Nat.beq b a with
 | true=>exact Nat.eq_of_beq_eq_true h
 | false=>simp only[];rw[show Nat.beq b b=true from Nat.beq_refl b]
theorem swN_o {a b k:Nat} (ha:k≠a) (hb:k≠b):swN a b k=k:=by
 unfold swN
 cases h:Nat.beq k a with
 | true=>exact absurd (Nat.eq_of_beq_eq_true h) ha
 | false =>
  simp only[]
  cases h2:Nat.beq k b with
  | true=>exact absurd (Nat.eq_of_beq_eq_true h2) hb
  | false=>rfl
theorem swN_inv (a b k:Nat):swN a b (swN a b k)=k:=by
 by_cases ha:k=a
 ·subst ha;rw[swN_a,swN_b]
 ·by_cases hb:k=b
  ·subst hb;rw[swN_b,swN_a]
  ·rw[swN_o ha hb,swN_o ha hb]
theorem swN_lt {a b n:Nat} (ha:a<n) (hb:b<n) (k:Nat):swN a b k<n↔k<n:=by
 by_cases h1:k=a
 ·subst h1;rw[swN_a];omega
 ·by_cases h2:k=b
  ·subst h2;rw[swN_b];omega
  ·rw[swN_o h1 h2]
def renF (f:Nat→Nat) (fr:List (Nat×V)):List (Nat×V):=fr.map fun p=>(p.1,renV f p.2)
theorem look_renF {f:Nat→Nat}:∀ {fr:List (Nat×V)} {t:Nat},look (renF f fr) t=(look fr t).map (renV f)
 | [],_=>rfl
 | (j,s)::r,t=>by
  show look ((j,renV f s)::renF f r) t=_
  rw[look_cons,look_cons]
  by_cases e:j=t
  ·rw[if_pos e,if_pos e];rfl
  ·rw[if_neg e,if_neg e,look_renF]
def noFx (a b:Nat):List Nat→Bool
 | []=>true
 | k::r=>match Nat.beq k a with
  | true=>false
  | false=>match Nat.beq k b with
   | true=>false
   | false=>noFx a b r
theorem noFx_ok {a b:Nat}:∀ {l:List Nat},noFx a b l=true→∀ k ∈ l,k≠a∧k≠b
 | [],_,k,hk=>by simp at hk
 | j::r,h,k,hk=>by
  simp only[noFx] at h
  split at h
  ·cases h
  ·rename_i h1
   split at h
   ·cases h
   ·rename_i h2
    rcases List.mem_cons.1 hk with rfl|hk
    ·exact ⟨Nat.ne_of_beq_eq_false h1,Nat.ne_of_beq_eq_false h2⟩
    ·exact noFx_ok h k hk
def swAll (fx:List Nat) (n:Nat) (l:List (Nat×Nat)):List (Nat×V)→List (Nat×Blk)→(List (Nat×V)→List (Nat×Blk)→Prop)→Prop :=
 List.rec (motive:=fun _=>List (Nat×V)→List (Nat×Blk)→(List (Nat×V)→List (Nat×Blk)→Prop)→Prop) (fun fr L K=>K fr L)
  (fun p _ ih fr L K=>onB (Nat.blt p.1 n) (onB (Nat.blt p.2 n) (onB (noFx p.1 p.2 fx) (fF (renF (swN p.1 p.2) fr) fun fr1=>fBs (renL (swN p.1 p.2) L) fun L1=>ih fr1 L1 K)))) l
section
variable {gl:List (Nat×List D)} {M0 S0:Nat→Prop} {w0:Base} {N:Nat} {fr:List (Nat×V)} {L:List (Nat×Blk)} {n:Nat} {a:Act} {w:World}
theorem Ok.swap {adr:Env} (h:Ok gl M0 S0 w0 N adr fr L n a w) {x y:Nat} (hx:x<n) (hy:y<n) (hf:∀ k ∈ w0.fx,k≠x∧k≠y):Ok gl M0 S0 w0 N (fun k=>adr (swN x y k)) (renF (swN x y) fr) (renL (swN x y) L) n a w:=by
 have hi:∀ p q,swN x y p=swN x y q→p=q:=fun p q e=>by rw[← swN_inv x y p,e,swN_inv]
 have he:(fun k=>adr (swN x y (swN x y k)))=adr:=funext fun k=>by rw[swN_inv]
 have hm:Mut M0 (fun k=>adr (swN x y k)) (renL (swN x y) L)=Mut M0 adr L:=by
  rw[mut_ren hi,he]
 refine ⟨h.size,h.defers,fun t s hs=>?_,?_,?_,h.base,fun k B b m hk ha=>?_,fun k hk=>?_⟩
 ·rw[look_renF] at hs
  obtain ⟨s0,h1,rfl⟩:=Option.map_eq_some_iff.1 hs
  rw[hm,renV_den,he]
  exact h.fr t s0 h1
 ·refine (wok_ren (adr:=fun k=>adr (swN x y k)) hi (n:=n) (n':=n) (fun k B _=>swN_lt hx hy k) (fun k hk=>?_) (fun k hk=>?_)).2 ?_
  ·exact h.wok.fresh _ (by have:=swN_lt hx hy k;omega)
  ·show adr (swN x y (swN x y k))=none
   rw[swN_inv]
   exact h.wok.fresh k hk
  ·rw[he]
   exact h.wok
 ·rw[hm]
  exact h.glob
 ·obtain ⟨k0,B0,rfl,h3,_⟩:=look_ren2 hi hk
  replace ha:adr (swN x y (swN x y k0))=some (some b,m):=ha
  rw[swN_inv] at ha
  exact h.new k0 B0 b m h3 ha
 ·obtain ⟨h1,h2⟩:=h.same k hk
  refine ⟨h1,?_⟩
  show adr (swN x y k)=w0.adr k
  rw[swN_o (hf k hk).1 (hf k hk).2]
  exact h2
theorem swAll_ok:∀ {l:List (Nat×Nat)} {adr:Env} {fr:List (Nat×V)} {L:List (Nat×Blk)} {K:List (Nat×V)→List (Nat×Blk)→Prop},swAll w0.fx n l fr L K→Ok gl M0 S0 w0 N adr fr L n a w→∃ adr' fr' L',K fr' L'∧Ok gl M0 S0 w0 N adr' fr' L' n a w
 | [],adr,fr,L,K,h,hx=>⟨adr,fr,L,h,hx⟩
 | (x,y)::r,adr,fr,L,K,h,hx=>by
  replace h:onB (Nat.blt x n) (onB (Nat.blt y n) (onB (noFx x y w0.fx) (fF (renF (swN x y) fr) fun fr1=>fBs (renL (swN x y) L) fun L1=>swAll w0.fx n r fr1 L1 K))):=h
  obtain ⟨h1,h⟩:=onB_ok h
  obtain ⟨h2,h⟩:=onB_ok h
  obtain ⟨h3,h⟩:=onB_ok h
  rw[fF_eq,fBs_eq] at h
  exact swAll_ok h (hx.swap (by simp[Nat.blt,Nat.ble_eq] at h1;omega) (by simp[Nat.blt,Nat.ble_eq] at h2;omega) (noFx_ok h3))
end
end Go.EYtaheflnnigocgaaGreatDoor
end
