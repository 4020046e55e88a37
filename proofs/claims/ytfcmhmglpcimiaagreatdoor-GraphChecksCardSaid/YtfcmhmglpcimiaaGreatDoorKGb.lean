/- Proved: a part of what the law is proved with (the reckoner, contracts of functions, plain laws). Conditions: as each says. -/
import Derived.Shelf.Vars
import Derived.Handy
import Derived.Test.YtfcmhmglpcimiaaGreatDoorKFo
import Derived.Test.YtfcmhmglpcimiaaGreatDoorKJk
namespace Go.Proofs.YtfcmhmglpcimiaaGreatDoor
set_option maxRecDepth 100000
section
open Go Go.ChangeShapes Go.WideShapes Go.ChangeAt Go.RowKit Go.EYtfcmhmglpcimiaaGreatDoor
set_option linter.unusedVariables false
section
variable {B n:Nat} {ds:List D}
theorem sh_int (h:Sh Tryz.prog B n 3 ds):∃ m,ds=[iD m]∧(Lit.int .i64 m).wf=true:=by
 cases n with
 | zero=>exact h.elim
 | succ n=>unfold Sh at h;rw[Tryz.underlying3] at h;exact h
theorem sh_str (h:Sh Tryz.prog B n 9 ds):∃ s,ds=[.str s]∧s.length≤B:=by
 cases n with
 | zero=>exact h.elim
 | succ n=>unfold Sh at h;rw[Tryz.underlying9] at h;exact h
theorem sh_two {t a b:TypeId} {f g:Field} (hu:Tryz.prog.underlying t=some (.struct #[f,g])) (ha:f.type=a) (hb:g.type=b) (h:Sh Tryz.prog B n t ds):∃ m x y,n=m+1∧ds=x++y∧Sh Tryz.prog B m a x∧Sh Tryz.prog B m b y:=by
 cases n with
 | zero=>exact h.elim
 | succ n =>
  unfold Sh at h;rw[hu] at h
  obtain ⟨dss,h1,h2⟩:=h
  match dss,h2 with
  | [x,y],h2 =>
   subst ha;subst hb
   exact ⟨n,x,y,rfl,by simpa using h1,h2.1,h2.2.1⟩
theorem sh_cell (h:Sh Tryz.prog B n 39 ds):∃ c r,ds=[iD c,iD r]∧(Lit.int .i64 c).wf=true∧(Lit.int .i64 r).wf=true:=by
 obtain ⟨m,x,y,rfl,rfl,h1,h2⟩:=sh_two Tryz.underlying39 rfl rfl h
 obtain ⟨c,rfl,hc⟩:=sh_int h1
 obtain ⟨r,rfl,hr⟩:=sh_int h2
 exact ⟨c,r,rfl,hc,hr⟩
theorem sh_fl (h:Sh Tryz.prog B n 41 ds):∃ f:Fl,ds=flD f∧f.t.length≤B:=by
 obtain ⟨m,x,y,rfl,rfl,h1,h2⟩:=sh_two Tryz.underlying41 rfl rfl h
 obtain ⟨c,r,rfl,_,_⟩:=sh_cell h1
 obtain ⟨s,rfl,hs⟩:=sh_str h2
 exact ⟨⟨c,r,s⟩,rfl,hs⟩
theorem map_of {α:Type} {g:α→List D} {p:α→Prop}:∀ {rows:List (List D)},(∀ r ∈ rows,∃ f,r=g f∧p f)→∃ l:List α,rows=l.map g∧∀ f ∈ l,p f
 | [],_=>⟨[],rfl,fun f hf=>by cases hf⟩
 | r::rows,h=>by
  obtain ⟨f,rfl,hf⟩:=h r (List.mem_cons_self ..)
  obtain ⟨l,rfl,hl⟩:=map_of fun r hr=>h r (List.mem_cons_of_mem _ hr)
  exact ⟨f::l,rfl,fun g hg=>by rcases List.mem_cons.1 hg with rfl|hg;exact hf;exact hl g hg⟩
theorem sh_fls (h:Sh Tryz.prog B n 22 ds):∃ l:List Fl,ds=[.lst 3 (l.map flD)]∧l.length≤maxLen∧∀ f ∈ l,f.t.length≤B:=by
 cases n with
 | zero=>exact h.elim
 | succ n =>
  unfold Sh at h;rw[Tryz.underlying22] at h
  obtain ⟨rows,rfl,h1,_,h2⟩:=h
  obtain ⟨l,rfl,hl⟩:=map_of (g:=flD) (p:=fun f=>f.t.length≤B) fun r hr=>sh_fl (h2 r hr)
  exact ⟨l,by rw[show Tryz.prog.cellsOf 41=3 by kernel_rfl],by simpa using h1,hl⟩
end
theorem open_fls {H:Type} {enc:TypeId×Value→H} {W:World} {sp:Nat→Bool} {hd:Bool} {v:Value} {d:DataW H} {p:List MemPlace} {b0:Nat} (hv:Value.okWide Tryz.prog W .any b0 22 v) (h:DataW.Trod enc Tryz.prog W 0 sp hd 22 v d p)
 (hw:∀ m ∈ d.weights Tryz.prog 22,m≤reachBytes):∃ l:List Fl,DenD (fun _=>False) W (.lst 3 (l.map flD)) v∧l.length≤maxLen∧∀ f ∈ l,f.t.length≤reachBytes:=by
 obtain ⟨a,n,c,rfl⟩:=okWide_slice Tryz.underlying22 hv
 obtain ⟨f,hf⟩:=h
 obtain ⟨ds,h1,h2⟩:=sh_open (ts:=[22,41,39,3,9]) (by kernel_rfl) f _ _ _ hf (by decide) hw
 obtain ⟨l,rfl,h3,h4⟩:=sh_fls h2
 exact ⟨l,h1.1,h3,h4⟩
end
section
structure Rf where
 c:Int
 r:Int
 fc:Bool
 fr:Bool
inductive Nd where
 | mk (k n:Int) (s:List UInt8) (a b:Rf) (ks:List Nd)
inductive Rs (α:Type) where
 | ok (v:α) (i:Nat)
 | no (i:Nat) (e:Int)
namespace Rs
def bind {α β:Type} (x:Rs α) (f:α→Nat→Rs β):Rs β:=match x with
 | ok v i=>f v i
 | no i e=>no i e
@[simp] theorem bind_ok {α β:Type} (v:α) (i:Nat) (f:α→Nat→Rs β):(ok v i).bind f=f v i:=rfl
@[simp] theorem bind_no {α β:Type} (i:Nat) (e:Int) (f:α→Nat→Rs β):(no i e:Rs α).bind f=no i e:=rfl
theorem bind_assoc {α β γ:Type} (x:Rs α) (f:α→Nat→Rs β) (g:β→Nat→Rs γ):(x.bind f).bind g=x.bind fun v i=>(f v i).bind g:=by cases x <;> rfl
end Rs
def z0:Rf:=⟨0,0,false,false⟩
def twoN (op:Int) (a b:Nd):Nd:=.mk 8 op [] z0 z0 [a,b]
def blk:List UInt8→Nat
 | []=>0
 | c::r=>if c=32 then blk r+1 else 0
theorem blk_le:∀ l:List UInt8,blk l≤l.length
 | []=>Nat.le_refl _
 | c::r=>by
  unfold blk
  split
  ·have:=blk_le r;simp;omega
  ·exact Nat.zero_le _
theorem blk_drop:∀ l:List UInt8,blk (l.drop (blk l))=0
 | []=>rfl
 | c::r=>by
  by_cases h:c=32
  ·have:blk (c::r)=blk r+1:=by simp[blk,h]
   rw[this]
   exact blk_drop r
  ·have:blk (c::r)=0:=by simp[blk,h]
   rw[this]
   simp[blk,h]
def skp (s:List UInt8) (i:Nat):Nat:=i+blk (s.drop i)
theorem skp_skp (s:List UInt8) (i:Nat):skp s (skp s i)=skp s i:=by
 unfold skp
 rw[← List.drop_drop,blk_drop]
 rfl
theorem le_skp (s:List UInt8) (i:Nat):i≤skp s i:=Nat.le_add_right _ _
theorem skp_le {s:List UInt8} {i:Nat} (h:i≤s.length):skp s i≤s.length:=by
 have:=blk_le (s.drop i)
 rw[List.length_drop] at this
 unfold skp
 omega
def opT:List UInt8→Option (Nat×Nat)
 | 60::62::_=>some (2,2)
 | 60::61::_=>some (4,2)
 | 62::61::_=>some (6,2)
 | 61::_=>some (1,1)
 | 60::_=>some (3,1)
 | 62::_=>some (5,1)
 | 38::_=>some (7,1)
 | 43::_=>some (8,1)
 | 45::_=>some (9,1)
 | 42::_=>some (10,1)
 | 47::_=>some (11,1)
 | _=>none
def opA (s:List UInt8) (i:Nat):Option (Nat×Nat):=opT (s.drop (skp s i))
def tgt (op:Nat):Nat:=if op≤6 then 1 else if op=7 then 2 else if op≤9 then 3 else 4
theorem tgt_pos (op:Nat):1≤tgt op:=by unfold tgt;(repeat' split) <;> omega
theorem tgt_le (op:Nat):tgt op≤4:=by unfold tgt;(repeat' split) <;> omega
theorem opT_len {l:List UInt8} {op n:Nat} (h:opT l=some (op,n)):1≤n∧n≤l.length:=by
 unfold opT at h
 split at h <;> first|(simp only[reduceCtorEq] at h;done)|(simp only[Option.some.injEq,Prod.mk.injEq] at h;obtain ⟨_,rfl⟩:=h;simp)
theorem opA_len {s:List UInt8} {i op n:Nat} (h:opA s i=some (op,n)):1≤n∧skp s i+n≤s.length:=by
 obtain ⟨h1,h2⟩:=opT_len h
 rw[List.length_drop] at h2
 omega
def frm (s:List UInt8) (sub:Nat→Nat→Rs Nd) (sel:Nat→Bool):Nat→Nd→Nat→Rs Nd
 | 0,n,j=>.ok n j
 | f+1,n,j=>match opA s j with
  | some (op,len)=>if sel op=true then (sub op (skp s j+len)).bind fun m k=>frm s sub sel f (twoN op n m) k else .ok n j
  | none=>.ok n j
section
variable {s:List UInt8}
def Fwd (s:List UInt8) (f:Nat→Rs Nd):Prop:=∀ i n j,i≤s.length→f i=.ok n j→i<j∧j≤s.length
theorem frm_fwd {sub:Nat→Nat→Rs Nd} {sel:Nat→Bool} (hs:∀ op,Fwd s (sub op)):∀ {F:Nat} {n:Nd} {j:Nat} {m:Nd} {k:Nat},j≤s.length→frm s sub sel F n j=.ok m k→j≤k∧k≤s.length
 | 0,n,j,m,k,hj,h=>by cases h;exact ⟨Nat.le_refl _,hj⟩
 | F+1,n,j,m,k,hj,h=>by
  unfold frm at h
  split at h
  ·rename_i op len ho
   have hl:=opA_len ho
   split at h
   ·cases hx:sub op (skp s j+len) with
    | no a e=>rw[hx] at h;cases h
    | ok m' k' =>
     rw[hx] at h
     have h1:=hs op _ _ _ hl.2 hx
     have h2:=frm_fwd hs h1.2 h
     have:=le_skp s j
     omega
   ·cases h;exact ⟨Nat.le_refl _,hj⟩
  ·cases h;exact ⟨Nat.le_refl _,hj⟩
theorem frm_stop {sub:Nat→Nat→Rs Nd} {sel:Nat→Bool} (hs:∀ op,Fwd s (sub op)):∀ {F:Nat} {n:Nd} {j:Nat} {m:Nd} {k:Nat},j≤s.length→s.length - j<F→frm s sub sel F n j=.ok m k→∀ op len,opA s k=some (op,len)→sel op=false
 | 0,n,j,m,k,hj,hF,h=>by omega
 | F+1,n,j,m,k,hj,hF,h=>by
  intro op' len' ho'
  unfold frm at h
  split at h
  ·rename_i op len ho
   have hl:=opA_len ho
   split at h
   ·cases hx:sub op (skp s j+len) with
    | no a e=>rw[hx] at h;cases h
    | ok m' k' =>
     rw[hx] at h
     have h1:=hs op _ _ _ hl.2 hx
     have:=le_skp s j
     exact frm_stop hs h1.2 (by omega) h op' len' ho'
   ·rename_i hn
    cases h
    rw[ho] at ho'
    cases ho'
    simpa using hn
  ·rename_i hn
   cases h
   rw[hn] at ho';cases ho'
theorem frm_none {sub:Nat→Nat→Rs Nd} {sel:Nat→Bool} {F:Nat} {n:Nd} {j:Nat} (h:∀ op len,opA s j=some (op,len)→sel op=false):frm s sub sel F n j=.ok n j:=by
 cases F with
 | zero=>rfl
 | succ F =>
  unfold frm
  split
  ·rename_i op len ho
   rw[if_neg (by rw[h op len ho];simp)]
  ·rfl
theorem frm_split {sub:Nat→Nat→Rs Nd} {t:Nat} (hs:∀ op,Fwd s (sub op))
 (hstop:∀ op i m k,tgt op=t→i≤s.length→sub op i=.ok m k→∀ op' len',opA s k=some (op',len')→decide (t+1≤tgt op')=false) :
 ∀ (N:Nat) (F F1 F2:Nat) (n:Nd) (j:Nat),j≤s.length→s.length - j≤N→s.length - j<F→s.length - j<F1→s.length - j<F2→
  frm s sub (fun op=>decide (t≤tgt op)) F n j=(frm s sub (fun op=>decide (t+1≤tgt op)) F1 n j).bind fun n' j'=>frm s sub (fun op=>decide (tgt op=t)) F2 n' j':=by
 intro N
 induction N with
 | zero =>
  intro F F1 F2 n j hj hN _ _ _
  have hn:∀ op len,opA s j=some (op,len)→False:=fun op len ho=>by
   have:=opA_len ho
   have:=le_skp s j
   omega
  rw[frm_none fun op len h=>(hn op len h).elim,frm_none fun op len h=>(hn op len h).elim,Rs.bind_ok,frm_none fun op len h=>(hn op len h).elim]
 | succ N ih =>
  intro F F1 F2 n j hj hN hF hF1 hF2
  cases ho:opA s j with
  | none =>
   rw[frm_none fun op len h=>(by rw[ho] at h;cases h),frm_none fun op len h=>(by rw[ho] at h;cases h),Rs.bind_ok,frm_none fun op len h=>(by rw[ho] at h;cases h)]
  | some q =>
   obtain ⟨op,len⟩:=q
   have hl:=opA_len ho
   have hsk:=le_skp s j
   rcases Nat.lt_trichotomy (tgt op) t with hlt|heq|hgt
   ·have hn:∀ op' len',opA s j=some (op',len')→tgt op'<t:=fun op' len' h=>by rw[ho] at h;cases h;exact hlt
    rw[frm_none fun op len h=>(by have:=hn op len h;simp;omega),frm_none fun op len h=>(by have:=hn op len h;simp;omega),Rs.bind_ok,frm_none fun op len h=>(by have:=hn op len h;simp;omega)]
   ·have hn:∀ op' len',opA s j=some (op',len')→tgt op'=t:=fun op' len' h=>by rw[ho] at h;cases h;exact heq
    rw[frm_none (sel:=fun op=>decide (t+1≤tgt op)) fun op len h=>(by have:=hn op len h;simp;omega),Rs.bind_ok]
    obtain ⟨G,rfl⟩:∃ G,F=G+1:=⟨F - 1,by omega⟩
    obtain ⟨G2,rfl⟩:∃ G,F2=G+1:=⟨F2 - 1,by omega⟩
    unfold frm
    rw[ho]
    simp only[heq,Nat.le_refl,decide_true,if_true]
    cases hx:sub op (skp s j+len) with
    | no a e=>rfl
    | ok m k =>
     have h1:=hs op _ _ _ hl.2 hx
     simp only[Rs.bind_ok]
     rw[ih G F1 G2 (twoN op n m) k h1.2 (by omega) (by omega) (by omega) (by omega),frm_none (sel:=fun op=>decide (t+1≤tgt op)) (hstop op _ m k heq hl.2 hx),Rs.bind_ok]
   ·obtain ⟨G,rfl⟩:∃ G,F=G+1:=⟨F - 1,by omega⟩
    obtain ⟨G1,rfl⟩:∃ G,F1=G+1:=⟨F1 - 1,by omega⟩
    rw[show frm s sub (fun op=>decide (t≤tgt op)) (G+1) n j=(sub op (skp s j+len)).bind fun m k=>frm s sub (fun op=>decide (t≤tgt op)) G (twoN op n m) k by
     rw[frm,ho];simp only[];rw[if_pos (by simp;omega)],
     show frm s sub (fun op=>decide (t+1≤tgt op)) (G1+1) n j=(sub op (skp s j+len)).bind fun m k=>frm s sub (fun op=>decide (t+1≤tgt op)) G1 (twoN op n m) k by
      rw[frm,ho];simp only[];rw[if_pos (by simp;omega)]]
    cases hx:sub op (skp s j+len) with
    | no a e=>rfl
    | ok m k =>
     have h1:=hs op _ _ _ hl.2 hx
     simp only[Rs.bind_ok]
     exact ih G G1 F2 (twoN op n m) k h1.2 (by omega) (by omega) (by omega) (by omega)
def skR (s:List UInt8):Rs Nd→Rs Nd
 | .ok n j=>.ok n (skp s j)
 | .no a e=>.no a e
theorem frm_skp {sub sub':Nat→Nat→Rs Nd} {sel:Nat→Bool} (hss:∀ op i,sel op=true→i≤s.length→skR s (sub' op i)=skR s (sub op i)):∀ (F:Nat) (n:Nd) (j j':Nat),skp s j'=skp s j→skR s (frm s sub' sel F n j')=skR s (frm s sub sel F n j)
 | 0,n,j,j',h=>by simp only[frm,skR,h]
 | F+1,n,j,j',h=>by
  have ho:opA s j'=opA s j:=by unfold opA;rw[h]
  unfold frm
  rw[ho,h]
  split
  ·rename_i op len hol
   by_cases hse:sel op=true
   ·rw[if_pos hse,if_pos hse]
    have h1:=hss op (skp s j+len) hse (opA_len hol).2
    revert h1
    cases sub' op (skp s j+len) with
    | no a e =>
     cases sub op (skp s j+len) with
     | no a' e'=>exact fun h1=>h1
     | ok m k=>exact fun h1=>nomatch h1
    | ok m' k' =>
     cases sub op (skp s j+len) with
     | no a' e'=>exact fun h1=>nomatch h1
     | ok m k =>
      intro h1
      simp only[skR,Rs.ok.injEq] at h1
      obtain ⟨rfl,h2⟩:=h1
      exact frm_skp hss F _ k k' h2
   ·rw[if_neg hse,if_neg hse]
    simp only[skR,h]
  ·simp only[skR,h]
variable (s) (one:Nat→Rs Nd)
def Lo:Nat→Nat→Nat→Rs Nd
 | 0,_,i=>one i
 | k+1,least,i=>(one i).bind fun n j=>frm s (fun op=>Lo k (tgt op+1)) (fun op=>decide (least≤tgt op)) (s.length+1) n j
def Tw:Nat→Nat→Rs Nd
 | 0,i=>one i
 | c+1,i=>(Tw c i).bind fun n j=>skR s (frm s (fun _=>Tw c) (fun op=>decide (tgt op=4 - c)) (s.length+1) n j)
variable {s} {one}
theorem Lo_fwd (h1:Fwd s one):∀ (k least:Nat),Fwd s (Lo s one k least)
 | 0,_=>h1
 | k+1,least=>fun i n j hi h=>by
  unfold Lo at h
  cases hx:one i with
  | no a e=>rw[hx] at h;cases h
  | ok n' j' =>
   rw[hx] at h
   have h2:=h1 i _ _ hi hx
   have h3:=frm_fwd (fun op=>Lo_fwd h1 k _) h2.2 h
   omega
theorem Lo_stop (h1:Fwd s one) {k least i:Nat} {n:Nd} {j:Nat} (hk:5≤k+least) (hi:i≤s.length) (h:Lo s one k least i=.ok n j):∀ op len,opA s j=some (op,len)→decide (least≤tgt op)=false:=by
 cases k with
 | zero=>intro op len _;have:=tgt_le op;simp;omega
 | succ k =>
  unfold Lo at h
  cases hx:one i with
  | no a e=>rw[hx] at h;cases h
  | ok n' j' =>
   rw[hx] at h
   have h2:=h1 i _ _ hi hx
   exact frm_stop (fun op=>Lo_fwd h1 k _) h2.2 (by omega) h
theorem frm_congr {sub sub':Nat→Nat→Rs Nd} {sel:Nat→Bool} (h:∀ op i,sel op=true→sub op i=sub' op i):∀ (F:Nat) (n:Nd) (j:Nat),frm s sub sel F n j=frm s sub' sel F n j
 | 0,n,j=>rfl
 | F+1,n,j=>by
  unfold frm
  split
  ·rename_i op len _
   by_cases hse:sel op=true
   ·rw[if_pos hse,if_pos hse,h op _ hse]
    congr 1
    funext m k
    exact frm_congr h F _ _
   ·rw[if_neg hse,if_neg hse]
  ·rfl
theorem Lo_more:∀ (k least i:Nat),5≤k+least→Lo s one (k+1) least i=Lo s one k least i
 | 0,least,i,h=>by
  show (one i).bind _=one i
  cases one i with
  | no a e=>rfl
  | ok n j =>
   simp only[Rs.bind_ok]
   exact frm_none fun op len _=>by have:=tgt_le op;simp;omega
 | k+1,least,i,h=>by
  show (one i).bind _=(one i).bind _
  congr 1
  funext n j
  exact frm_congr (fun op i hs=>Lo_more k (tgt op+1) i (by simp at hs;omega)) _ _ _
theorem Lo_least (h1:Fwd s one) {k t i:Nat} (hi:i≤s.length) (hk:5≤k+(t+1)) (_hk0:1≤k):Lo s one (k+1) t i=(Lo s one k (t+1) i).bind fun n j=>frm s (fun _=>Lo s one k (t+1)) (fun op=>decide (tgt op=t)) (s.length+1) n j:=by
 rw[← Lo_more k (t+1) i hk]
 show (one i).bind _=((one i).bind _).bind _
 rw[Rs.bind_assoc]
 cases hx:one i with
 | no a e=>rfl
 | ok n j =>
  have h2:=h1 i _ _ hi hx
  simp only[Rs.bind_ok]
  rw[frm_split (t:=t) (fun op=>Lo_fwd h1 k _) (fun op i m k' ht hi h=>by
   have:=Lo_stop h1 (by rw[ht];omega) hi h
   rw[ht] at this
   exact this) (s.length - j) (s.length+1) (s.length+1) (s.length+1) n j h2.2 (Nat.le_refl _) (by omega) (by omega) (by omega)]
  congr 1
  funext n' j'
  exact frm_congr (fun op i hs=>by
   simp only[decide_eq_true_eq] at hs
   rw[hs]) _ _ _
theorem Tw_eq (h1:Fwd s one):∀ (c i:Nat),c≤4→i≤s.length→skR s (Tw s one c i)=skR s (Lo s one (c+1) (5 - c) i)
 | 0,i,_,_=>by
  rw[Lo_more 0 5 i (by omega)]
  rfl
 | c+1,i,hc,hi=>by
  rw[Lo_least (k:=c+1) (t:=5 - (c+1)) h1 hi (by omega) (by omega)]
  have hc1:5 - (c+1)+1=5 - c:=by omega
  have hc2:5 - (c+1)=4 - c:=by omega
  rw[hc1,hc2]
  have ih:=Tw_eq h1 c
  have h0:=ih i (by omega) hi
  show skR s ((Tw s one c i).bind _)=_
  revert h0
  cases hx:Tw s one c i with
  | no a e =>
   cases hy:Lo s one (c+1) (5 - c) i with
   | no a' e'=>exact fun h0=>h0
   | ok n' j'=>exact fun h0=>nomatch h0
  | ok n j =>
   cases hy:Lo s one (c+1) (5 - c) i with
   | no a' e'=>exact fun h0=>nomatch h0
   | ok n' j' =>
    intro h0
    simp only[skR,Rs.ok.injEq] at h0
    obtain ⟨rfl,h2⟩:=h0
    simp only[Rs.bind_ok]
    rw[show ∀ x:Rs Nd,skR s (skR s x)=skR s x from fun x=>by cases x <;> simp only[skR,skp_skp]]
    exact frm_skp (fun op i _ hi=>ih i (by omega) hi) _ _ _ _ h2
end
end
section
structure Par where
 pl:List UInt8→Option Nd
 cl:List UInt8→Bool
 rf:List UInt8→Option Rf
 lit:List UInt8→Option (Int×Nat)
 hlit:∀ t n l,lit t=some (n,l)→1≤l∧l≤t.length
abbrev wordlyP (c:UInt8):Prop:=c=36∨(48≤c∧c≤57)∨(65≤c∧c≤90)∨(97≤c∧c≤122)
def wdl:List UInt8→Nat
 | []=>0
 | c::r=>if wordlyP c then wdl r+1 else 0
theorem wdl_le:∀ l:List UInt8,wdl l≤l.length
 | []=>Nat.le_refl _
 | c::r=>by
  unfold wdl
  split
  ·have:=wdl_le r;simp;omega
  ·exact Nat.zero_le _
def wdAt (s:List UInt8) (i:Nat):List UInt8:=(s.drop i).take (wdl (s.drop i))
def wdE (s:List UInt8) (i:Nat):Nat:=i+wdl (s.drop i)
theorem wdE_le {s:List UInt8} {i:Nat} (h:i≤s.length):wdE s i≤s.length:=by
 have:=wdl_le (s.drop i)
 rw[List.length_drop] at this
 unfold wdE
 omega
def txtF:List UInt8→Option (List UInt8×Nat)
 | []=>none
 | [c]=>if c=34 then some ([],1) else none
 | c::d::r=>if c=34 then (if d=34 then (txtF r).map fun q=>(34::q.1,q.2+2) else some ([],1)) else (txtF (d::r)).map fun q=>(c::q.1,q.2+1)
theorem txtF_len:∀ (t:List UInt8) (b:List UInt8) (l:Nat),txtF t=some (b,l)→1≤l∧l≤t.length
 | [],b,l,h=>by cases h
 | [c],b,l,h=>by
  unfold txtF at h
  split at h
  ·cases h;simp
  ·cases h
 | c::d::r,b,l,h=>by
  unfold txtF at h
  split at h
  ·split at h
   ·obtain ⟨q,hq,h2⟩:=Option.map_eq_some_iff.1 h
    have:=txtF_len r q.1 q.2 hq
    cases h2
    simp;omega
   ·cases h;simp
  ·obtain ⟨q,hq,h2⟩:=Option.map_eq_some_iff.1 h
   have:=txtF_len (d::r) q.1 q.2 hq
   cases h2
   simp at this ⊢;omega
section
variable (p:Par) (s:List UInt8)
def argF (tw:Nat→Rs Nd) (i:Nat):Rs Nd :=
 match p.rf (wdAt s (skp s i)) with
 | none=>tw (skp s i)
 | some a=>if s[wdE s (skp s i)]?=some 58 then (match p.rf (wdAt s (wdE s (skp s i)+1)) with
  | some b=>.ok (.mk 6 0 [] a b []) (wdE s (wdE s (skp s i)+1))
  | none=>.no (wdE s (skp s i)+1) 2) else tw (skp s i)
def argsF (tw:Nat→Rs Nd):Nat→List Nd→Nat→Rs (List Nd)
 | 0,ks,i=>.ok ks i
 | f+1,ks,i=>(argF p s tw i).bind fun a j =>
  if s[skp s j]?=some 44 then argsF tw f (ks++[a]) (skp s j+1) else if s[skp s j]?=some 41 then .ok (ks++[a]) (skp s j+1) else .no (skp s j) 2
def callF (tw:Nat→Rs Nd) (w:List UInt8) (k:Nat):Rs Nd :=
 if s[skp s (k+1)]?=some 41 then .ok (.mk 9 0 w z0 z0 []) (skp s (k+1)+1) else (argsF p s tw (s.length+1) [] (k+1)).bind fun ks j=>.ok (.mk 9 0 w z0 z0 ks) j
def parF (tw:Nat→Rs Nd) (i:Nat):Rs Nd:=(tw i).bind fun n k=>if s[skp s k]?=some 41 then .ok n (skp s k+1) else .no (skp s k) 2
def wordF (full:Bool) (tw:Nat→Rs Nd) (j:Nat):Rs Nd :=
 if s[wdE s j]?=some 40∧p.cl (wdAt s j)=true then (if full=true then .no j 4 else callF p s tw (wdAt s j) (wdE s j)) else match p.pl (wdAt s j) with
  | some n=>.ok n (wdE s j)
  | none=>.no j 2
def primF (full:Bool) (tw:Nat→Rs Nd) (j:Nat):Rs Nd:=match s[j]? with
 | none=>.no j 2
 | some c =>
  if c=40 then (if full=true then .no j 4 else parF s tw (j+1)) else
  if c=34 then (match txtF (s.drop (j+1)) with
   | some (b,l)=>.ok (.mk 2 0 b z0 z0 []) (j+1+l)
   | none=>.no j 2) else
  if c=35 then (match p.lit (s.drop j) with
   | some (n,l)=>.ok (.mk 4 n [] z0 z0 []) (j+l)
   | none=>.no j 2) else
  if wordlyP c then wordF p s full tw j else .no j 2
def negN (n:Nd):Nd:=.mk 7 0 [] z0 z0 [n]
def negF (full:Bool) (ng tw:Nat→Rs Nd) (i:Nat):Rs Nd :=
 if s[skp s i]?=some 45 then (if full=true then .no (skp s i) 4 else (ng (skp s i+1)).bind fun n k=>.ok (negN n) k) else primF p s full tw (skp s i)
def oneA:Nat→Nat→Rs Nd
 | 0=>negF p s true (fun i=>.no i 0) (fun i=>.no i 0)
 | d+1=>negF p s false (oneA d) (Tw s (oneA d) 4)
def oneB:Nat→Nat→Rs Nd
 | 0=>negF p s true (fun i=>.no i 0) (fun i=>.no i 0)
 | d+1=>negF p s false (oneB d) (Lo s (oneB d) 4 1)
variable {p s}
theorem lt_of_get {i:Nat} {c:UInt8} (h:s[i]?=some c):i<s.length:=(List.getElem?_eq_some_iff.1 h).1
theorem argF_fwd {tw:Nat→Rs Nd} (ht:Fwd s tw) {i:Nat} {n:Nd} {j:Nat} (hi:i≤s.length) (h:argF p s tw i=.ok n j):i≤j∧j≤s.length:=by
 have h1:=skp_le hi
 have h2:=le_skp s i
 unfold argF at h
 split at h
 ·have:=ht _ _ _ h1 h;omega
 ·split at h
  ·rename_i hk
   have hk':=lt_of_get hk
   split at h
   ·cases h
    have h3:wdE s (skp s i)+1≤s.length:=hk'
    have h4:=wdE_le h3
    have h5:skp s i≤wdE s (skp s i):=Nat.le_add_right _ _
    have h6:wdE s (skp s i)+1≤wdE s (wdE s (skp s i)+1):=Nat.le_add_right _ _
    omega
   ·cases h
  ·have:=ht _ _ _ h1 h;omega
theorem argsF_fwd {tw:Nat→Rs Nd} (ht:Fwd s tw):∀ {f:Nat} {ks:List Nd} {i:Nat} {ls:List Nd} {j:Nat},i≤s.length→argsF p s tw f ks i=.ok ls j→i≤j∧j≤s.length
 | 0,ks,i,ls,j,hi,h=>by cases h;exact ⟨Nat.le_refl _,hi⟩
 | f+1,ks,i,ls,j,hi,h=>by
  unfold argsF at h
  cases hx:argF p s tw i with
  | no a e=>rw[hx] at h;cases h
  | ok a k =>
   rw[hx] at h
   have h1:=argF_fwd ht hi hx
   simp only[Rs.bind_ok] at h
   split at h
   ·rename_i hk
    have h2:=lt_of_get hk
    have h3:=argsF_fwd ht (show skp s k+1≤s.length from h2) h
    have:=le_skp s k
    omega
   ·split at h
    ·rename_i hk
     have h2:=lt_of_get hk
     cases h
     have:=le_skp s k
     omega
    ·cases h
theorem callF_fwd {tw:Nat→Rs Nd} (ht:Fwd s tw) {w:List UInt8} {k:Nat} {n:Nd} {j:Nat} (hk:k<s.length) (h:callF p s tw w k=.ok n j):k<j∧j≤s.length:=by
 unfold callF at h
 split at h
 ·rename_i hq
  have:=lt_of_get hq
  cases h
  have:=le_skp s (k+1)
  omega
 ·cases hx:argsF p s tw (s.length+1) [] (k+1) with
  | no a e=>rw[hx] at h;cases h
  | ok ls j' =>
   rw[hx] at h
   cases h
   have:=argsF_fwd ht (show k+1≤s.length from hk) hx
   omega
theorem primF_fwd {full:Bool} {tw:Nat→Rs Nd} (ht:Fwd s tw) {i:Nat} {n:Nd} {j:Nat} (h:primF p s full tw i=.ok n j):i<j∧j≤s.length:=by
 unfold primF at h
 split at h
 ·cases h
 ·rename_i c hc
  have hl:=lt_of_get hc
  split at h
  ·split at h
   ·cases h
   ·unfold parF at h
    cases hx:tw (i+1) with
    | no a e=>rw[hx] at h;cases h
    | ok m k =>
     rw[hx] at h
     simp only[Rs.bind_ok] at h
     have h1:=ht _ _ _ (show i+1≤s.length from hl) hx
     split at h
     ·rename_i hq
      have:=lt_of_get hq
      cases h
      have:=le_skp s k
      omega
     ·cases h
  ·split at h
   ·split at h
    ·rename_i b l hq
     have:=txtF_len _ _ _ hq
     rw[List.length_drop] at this
     cases h
     omega
    ·cases h
   ·split at h
    ·split at h
     ·rename_i b l hq
      have:=p.hlit _ _ _ hq
      rw[List.length_drop] at this
      cases h
      omega
     ·cases h
    ·split at h
     ·rename_i hw
      have hd:wdE s i=i+wdl (s.drop i):=rfl
      have h1:1≤wdl (s.drop i):=by
       rw[List.drop_eq_getElem_cons hl]
       have:s[i]=c:=by
        rw[List.getElem?_eq_getElem hl] at hc;exact Option.some.inj hc
       rw[this]
       unfold wdl
       rw[if_pos hw]
       omega
      have h2:=wdE_le (show i≤s.length by omega)
      unfold wordF at h
      split at h
      ·rename_i hq
       split at h
       ·cases h
       ·have:=callF_fwd ht (lt_of_get hq.1) h
        omega
      ·split at h
       ·cases h;omega
       ·cases h
     ·cases h
theorem negF_fwd {full:Bool} {ng tw:Nat→Rs Nd} (hn:Fwd s ng) (ht:Fwd s tw):Fwd s (negF p s full ng tw):=by
 intro i n j hi h
 have h2:=le_skp s i
 unfold negF at h
 split at h
 ·rename_i hq
  have hl:=lt_of_get hq
  split at h
  ·cases h
  ·cases hx:ng (skp s i+1) with
   | no a e=>rw[hx] at h;cases h
   | ok m k =>
    rw[hx] at h
    cases h
    have:=hn _ _ _ (show skp s i+1≤s.length from hl) hx
    omega
 ·have:=primF_fwd ht h;omega
theorem Tw_fwd {one:Nat→Rs Nd} (h1:Fwd s one):∀ c,Fwd s (Tw s one c)
 | 0=>h1
 | c+1=>fun i n j hi h=>by
  unfold Tw at h
  cases hx:Tw s one c i with
  | no a e=>rw[hx] at h;cases h
  | ok n' j' =>
   rw[hx] at h
   simp only[Rs.bind_ok] at h
   have h2:=Tw_fwd h1 c i _ _ hi hx
   cases hy:frm s (fun _=>Tw s one c) (fun op=>decide (tgt op=4 - c)) (s.length+1) n' j' with
   | no a e=>rw[hy] at h;cases h
   | ok n2 j2 =>
    rw[hy] at h
    cases h
    have h3:=frm_fwd (fun _=>Tw_fwd h1 c) h2.2 hy
    have h4:=skp_le h3.2
    have:=le_skp s j2
    omega
theorem no_fwd:Fwd s (fun i=>.no i 0):=fun i n j _ h=>by cases h
theorem oneA_fwd:∀ d,Fwd s (oneA p s d)
 | 0=>negF_fwd no_fwd no_fwd
 | d+1=>negF_fwd (oneA_fwd d) (Tw_fwd (oneA_fwd d) 4)
theorem argF_lk {tw tw':Nat→Rs Nd} (h:∀ i,i≤s.length→skR s (tw i)=skR s (tw' i)) {i:Nat} (hi:i≤s.length):skR s (argF p s tw i)=skR s (argF p s tw' i):=by
 unfold argF
 split
 ·exact h _ (skp_le hi)
 ·split
  ·rfl
  ·exact h _ (skp_le hi)
theorem skR_bind {β:Type} {x y:Rs Nd} {f:Nd→Nat→Rs β} (h:skR s x=skR s y) (hf:∀ n j k,skp s j=skp s k→f n j=f n k):x.bind f=y.bind f:=by
 cases x with
 | no a e =>
  cases y with
  | no a' e'=>cases h;rfl
  | ok n j=>cases h
 | ok n j =>
  cases y with
  | no a' e'=>cases h
  | ok n' j' =>
   simp only[skR,Rs.ok.injEq] at h
   obtain ⟨rfl,h2⟩:=h
   exact hf _ _ _ h2
theorem argsF_lk {tw tw':Nat→Rs Nd} (ht:Fwd s tw') (h:∀ i,i≤s.length→skR s (tw i)=skR s (tw' i)):∀ (f:Nat) (ks:List Nd) {i:Nat},i≤s.length→argsF p s tw f ks i=argsF p s tw' f ks i
 | 0,ks,i,hi=>rfl
 | f+1,ks,i,hi=>by
  unfold argsF
  refine (skR_bind (argF_lk h hi) fun n j k hjk=>by rw[hjk]).trans ?_
  cases hx:argF p s tw' i with
  | no a e=>rfl
  | ok a j =>
   simp only[Rs.bind_ok]
   split
   ·rename_i hq
    exact argsF_lk ht h f _ (lt_of_get hq)
   ·rfl
theorem negF_lk {full:Bool} {ng ng' tw tw':Nat→Rs Nd} (ht:Fwd s tw') (hn:∀ i,i≤s.length→ng i=ng' i) (h:∀ i,i≤s.length→skR s (tw i)=skR s (tw' i)) (i:Nat):negF p s full ng tw i=negF p s full ng' tw' i:=by
 unfold negF
 split
 ·rename_i hq
  rw[hn _ (show skp s i+1≤s.length from lt_of_get hq)]
 ·unfold primF
  split
  ·rfl
  ·rename_i c hc
   have hl:=lt_of_get hc
   split
   ·split
    ·rfl
    ·exact skR_bind (h _ (show skp s i+1≤s.length from hl)) fun n j k hjk=>by rw[hjk]
   ·split
    ·rfl
    ·split
     ·rfl
     ·split
      ·unfold wordF
       split
       ·rename_i hq
        split
        ·rfl
        ·unfold callF
         split
         ·rfl
         ·rw[argsF_lk ht h _ _ (show wdE s (skp s i)+1≤s.length from lt_of_get hq.1)]
       ·rfl
      ·rfl
theorem one_eq:∀ d i,oneA p s d i=oneB p s d i
 | 0,i=>rfl
 | d+1,i=>by
  have e:oneB p s d=oneA p s d:=by funext i;exact (one_eq d i).symm
  show negF p s false (oneA p s d) (Tw s (oneA p s d) 4) i=negF p s false (oneB p s d) (Lo s (oneB p s d) 4 1) i
  rw[e]
  exact negF_lk (Lo_fwd (oneA_fwd d) 4 1) (fun _ _=>rfl) (fun i hi=>by
   rw[Tw_eq (oneA_fwd d) 4 i (by omega) hi,Lo_more 4 1 i (by omega)]) i
def allF (rd:Nat→Rs Nd):Rs Nd:=(rd 1).bind fun n k=>if skp s k=s.length then .ok n 0 else .no (skp s k) 2
theorem all_eq (d:Nat) (h:1≤s.length):allF (s:=s) (Tw s (oneA p s d) 4)=allF (s:=s) (Lo s (oneB p s d) 4 1):=by
 have e:oneB p s d=oneA p s d:=by funext i;exact (one_eq d i).symm
 rw[e]
 unfold allF
 exact skR_bind (by rw[Tw_eq (oneA_fwd d) 4 1 (by omega) h,Lo_more 4 1 1 (by omega)]) fun n j k hjk=>by rw[hjk]
end
end
end Go.Proofs.YtfcmhmglpcimiaaGreatDoor
