/- Proved: a part of what the law is proved with (the reckoner, contracts of functions, plain laws). Conditions: as each says. -/
import Derived.Test.YtaheflnnigocgaaGreatDoorHBj
import Derived.Test.YtaheflnnigocgaaGreatDoorHCb
section
namespace Go.Proofs.YtaheflnnigocgaaGreatDoor
open Go Go.EYtaheflnnigocgaaGreatDoor
set_option maxRecDepth 100000
structure PB (p:Par):Prop where
 num:∀ m:Int,0≤m→okI m→p.pl (Lib.itoa m)=some (.mk 1 m [] z0 z0 [])
 numW:∀ m:Int,0≤m→Lib.itoa m≠[]∧∀ c ∈ Lib.itoa m,wordlyP c
 tru:p.pl tT=some (.mk 3 1 [] z0 z0 [])
 fal:p.pl tF=some (.mk 3 0 [] z0 z0 [])
 ref:∀ a:Rf,okP a.c a.r→p.pl (nmR a)=some (.mk 5 0 [] a z0 [])∧p.rf (nmR a)=some a
 refW:∀ a:Rf,okP a.c a.r→nmR a≠[]∧∀ c ∈ nmR a,wordlyP c
 lit:∀ (m:Int) (post:List UInt8),1≤m→m≤6→p.lit (tx.getD m.toNat []++post)=some (m,(tx.getD m.toNat []).length)
 cl:p.cl=clZ
def brD (x:Nd) (g:Int) (dx:Nat):Nat:=if tgtN x<g then dx+1 else dx
def dp7:List Nd→List Nat→Nat
 | x::_,d::_=>brD x 5 d+1
 | _,_=>0
def dp8 (tg:Int):List Nd→List Nat→Nat
 | x::y::_,d::e::_=>max (brD x tg d) (brD y (tg+1) e)
 | _,_=>0
def mxL:List Nat→Nat
 | []=>0
 | d::r=>max d (mxL r)
mutual
def depN:Nd→Nat
 | .mk k m t a b ks=>if k=7 then dp7 ks (depL ks) else if k=8 then dp8 (tgtN (.mk k m t a b ks)) ks (depL ks) else if k=9 then mxL (depL ks)+1 else 0
def depL:List Nd→List Nat
 | []=>[]
 | x::r=>depN x::depL r
end
def Gd {α:Type} (D:Prop) (x y:Rs α):Prop:=(D→x=y)∧(x=y∨∃ a e,x=.no a e)
section
variable {α β:Type} {D E F:Prop}
theorem Gd.same (x:Rs α):Gd D x x:=⟨fun _=>rfl,.inl rfl⟩
theorem Gd.of {x y:Rs α} (h:x=y):Gd D x y:=⟨fun _=>h,.inl h⟩
theorem Gd.fail {a:Nat} {e:Int} {y:Rs α} (h:¬ D):Gd D (.no a e) y:=⟨fun hd=>absurd hd h,.inr ⟨_,_,rfl⟩⟩
theorem Gd.imp {x y:Rs α} (h:Gd D x y) (hd:E→D):Gd E x y:=⟨fun he=>h.1 (hd he),h.2⟩
theorem Gd.trans {x y z:Rs α} (h:Gd D x y) (h':Gd D y z):Gd D x z:=by
 refine ⟨fun hd=>(h.1 hd).trans (h'.1 hd),?_⟩
 rcases h.2 with rfl|hn
 ·exact h'.2
 ·exact .inr hn
theorem Gd.bind {x:Rs α} {v:α} {i:Nat} {f:α→Nat→Rs β} {y:Rs β} (h:Gd D x (.ok v i)) (h':Gd E (f v i) y) (hd:F→D∧E):Gd F (x.bind f) y:=by
 refine ⟨fun hf=>?_,?_⟩
 ·rw[h.1 (hd hf).1];exact h'.1 (hd hf).2
 ·rcases h.2 with hx|⟨a,e,hx⟩
  ·rw[hx];exact h'.2
  ·rw[hx];exact .inr ⟨a,e,rfl⟩
end
def okQ (l:List UInt8):Prop:=l=[]∨∃ c r,l=c::r∧(c=41∨c=44∨c=61∨c=60∨c=62∨c=38∨c=43∨c=45∨c=42∨c=47)
theorem okQ.ne {l:List UInt8} (h:okQ l) {c:UInt8} (hc:l.head?=some c):¬ wordlyP c∧c≠32∧c≠34∧c≠58∧c≠40:=by
 rcases h with rfl|⟨d,r,rfl,h⟩
 ·cases hc
 ·cases hc
  rcases h with rfl|rfl|rfl|rfl|rfl|rfl|rfl|rfl|rfl|rfl <;> decide
theorem okQ.c {c:UInt8} {r:List UInt8} (h:c=41∨c=44):okQ (c::r):=.inr ⟨c,r,rfl,by rcases h with h|h <;> simp[h]⟩
section
variable {s:List UInt8}
theorem drop_app {w post:List UInt8} {i:Nat} (h:s.drop i=w++post):s.drop (i+w.length)=post:=by rw[← List.drop_drop,h,List.drop_left]
theorem drop_one {c:UInt8} {l:List UInt8} {i:Nat} (h:s.drop i=c::l):s.drop (i+1)=l:=drop_app (w:=[c]) h
theorem get_at {l:List UInt8} {i:Nat} (h:s.drop i=l):s[i]?=l.head?:=by rw[← List.head?_drop,h]
theorem skp_of {l:List UInt8} {i:Nat} (h:s.drop i=l) (hl:l.head?≠some 32):skp s i=i:=by
 unfold skp
 rw[h]
 cases l with
 | nil=>rfl
 | cons c r =>
  unfold blk
  rw[if_neg (fun hc=>hl (by rw[hc];rfl))]
  rfl
theorem opA_of {l:List UInt8} {i:Nat} (h:s.drop i=l) (hl:l.head?≠some 32):opA s i=opT l:=by
 unfold opA
 rw[skp_of h hl,h]
theorem okQ.b {l:List UInt8} (h:okQ l):l.head?≠some 32:=fun hc=>(h.ne hc).2.1 rfl
theorem wdl_word {w post:List UInt8} (hw:∀ c ∈ w,wordlyP c) (hp:∀ c,post.head?=some c→¬ wordlyP c):wdl (w++post)=w.length:=by
 induction w with
 | nil =>
  cases post with
  | nil=>rfl
  | cons c r =>
   show wdl (c::r)=0
   unfold wdl
   rw[if_neg (hp c rfl)]
 | cons c r ih =>
  show wdl (c::(r++post))=_
  unfold wdl
  rw[if_pos (hw c (by simp)),ih (fun d hd=>hw d (by simp[hd]))]
  rfl
theorem wdAt_of {w post:List UInt8} {i:Nat} (h:s.drop i=w++post) (hw:∀ c ∈ w,wordlyP c) (hp:∀ c,post.head?=some c→¬ wordlyP c):wdAt s i=w∧wdE s i=i+w.length:=by
 unfold wdAt wdE
 rw[h,wdl_word hw hp]
 exact ⟨List.take_left,rfl⟩
theorem wordly_ne {c:UInt8} (h:wordlyP c):c≠45∧c≠40∧c≠34∧c≠35∧c≠32∧c≠61∧c≠62∧c≠58:=by
 refine ⟨?_,?_,?_,?_,?_,?_,?_,?_⟩ <;> rintro rfl <;> revert h <;> decide
theorem oneB_neg (p:Par) (d:Nat):∃ full ng tw,oneB p s d=negF p s full ng tw:=by
 cases d with
 | zero=>exact ⟨_,_,_,rfl⟩
 | succ d=>exact ⟨_,_,_,rfl⟩
theorem negF_prim {p:Par} {full:Bool} {ng tw:Nat→Rs Nd} {c:UInt8} {r:List UInt8} {i:Nat} (h:s.drop i=c::r) (h1:c≠32) (h2:c≠45):negF p s full ng tw i=primF p s full tw i:=by
 unfold negF
 rw[skp_of h (by simpa using h1),get_at h,if_neg (by simpa using h2)]
theorem oneB_word {p:Par} {w post:List UInt8} {n:Nd} {i:Nat} (h:s.drop i=w++post) (h0:w≠[]) (hw:∀ c ∈ w,wordlyP c) (hq:okQ post) (hn:p.pl w=some n) (d:Nat):oneB p s d i=.ok n (i+w.length):=by
 obtain ⟨full,ng,tw,e⟩:=oneB_neg (s:=s) p d
 obtain ⟨e1,e2⟩:=wdAt_of h hw (fun c hc=>(hq.ne hc).1)
 have e3:=get_at (drop_app h)
 rw[e]
 cases w with
 | nil=>exact absurd rfl h0
 | cons c r =>
  have hc:=wordly_ne (hw c (by simp))
  rw[negF_prim h hc.2.2.2.2.1 hc.1]
  unfold primF
  rw[get_at h]
  show (if c=40 then _ else _)=_
  rw[if_neg hc.2.1,if_neg hc.2.2.1,if_neg hc.2.2.2.1,if_pos (hw c (by simp))]
  unfold wordF
  rw[e2,e3,if_neg (fun hh=>(hq.ne hh.1).2.2.2.2 rfl),e1,hn]
theorem txtF_dq:∀ (t post:List UInt8),post.head?≠some 34→txtF (dqN t++34::post)=some (t,(dqN t).length+1)
 | [],[],_=>rfl
 | [],d::r,h=>by
  show txtF (34::d::r)=some ([],1)
  unfold txtF
  rw[if_pos rfl,if_neg (by simpa using h)]
 | c::t,post,h=>by
  have ih:=txtF_dq t post h
  unfold dqN
  by_cases hc:c=34
  ·rw[if_pos hc]
   show txtF (34::34::(dqN t++34::post))=_
   unfold txtF
   rw[if_pos rfl,if_pos rfl,ih,hc]
   simp
  ·rw[if_neg hc]
   show txtF (c::(dqN t++34::post))=_
   have hne:∃ d r,dqN t++34::post=d::r:=by
    cases hd:dqN t with
    | nil=>exact ⟨_,_,rfl⟩
    | cons d r=>exact ⟨_,_,rfl⟩
   obtain ⟨d,r,hd⟩:=hne
   rw[hd] at ih ⊢
   unfold txtF
   rw[if_neg hc,ih]
   simp
theorem opT_sgn {m:Int} (h1:1≤m) (h2:m≤11) {c:UInt8} {r:List UInt8} (hc:c≠61) (hc2:c≠62):opT (sgnN m++c::r)=some (m.toNat,(sgnN m).length):=by
 have h:m=1∨m=2∨m=3∨m=4∨m=5∨m=6∨m=7∨m=8∨m=9∨m=10∨m=11:=by omega
 rcases h with rfl|rfl|rfl|rfl|rfl|rfl|rfl|rfl|rfl|rfl|rfl
 ·rfl
 ·rfl
 ·show opT (60::c::r)=some (3,1)
  unfold opT
  split <;> simp_all
 ·rfl
 ·show opT (62::c::r)=some (5,1)
  unfold opT
  split <;> simp_all
 all_goals rfl
theorem sgn_hd {m:Int} (h1:1≤m) (h2:m≤11):∃ c r,sgnN m=c::r∧(c=61∨c=60∨c=62∨c=38∨c=43∨c=45∨c=42∨c=47):=by
 have h:m=1∨m=2∨m=3∨m=4∨m=5∨m=6∨m=7∨m=8∨m=9∨m=10∨m=11:=by omega
 rcases h with rfl|rfl|rfl|rfl|rfl|rfl|rfl|rfl|rfl|rfl|rfl
 all_goals exact ⟨_,_,rfl,by decide⟩
theorem okQ_sgn {m:Int} (h1:1≤m) (h2:m≤11) (r:List UInt8):okQ (sgnN m++r):=by
 obtain ⟨c,l,e,hc⟩:=sgn_hd h1 h2
 rw[e]
 exact .inr ⟨c,l++r,rfl,by grind⟩
theorem tgt_tgtN {m:Int} (h1:1≤m) (h2:m≤11) (t:List UInt8) (a b:Rf) (ks:List Nd):tgtN (.mk 8 m t a b ks)=(tgt m.toNat:Nat):=by
 show (if (8:Int)=8 then (if m≤6 then (1:Int) else if m=7 then 2 else if m≤9 then 3 else 4) else 5)=_
 unfold tgt
 rw[if_pos rfl]
 (repeat' split) <;> omega
theorem frm_fuel {sub:Nat→Nat→Rs Nd} {sel:Nat→Bool} (hs:∀ op,Fwd s (sub op)):∀ {F F':Nat} {n:Nd} {j:Nat},j≤s.length→s.length - j<F→s.length - j<F'→frm s sub sel F n j=frm s sub sel F' n j
 | 0,F',n,j,hj,h,_=>by omega
 | F+1,0,n,j,hj,_,h=>by omega
 | F+1,F'+1,n,j,hj,h,h'=>by
  unfold frm
  split
  ·rename_i op len ho
   have hl:=opA_len ho
   have hk:=le_skp s j
   split
   ·cases hx:sub op (skp s j+len) with
    | no a e=>rfl
    | ok m k =>
     have h1:=hs op _ _ _ hl.2 hx
     simp only[Rs.bind_ok]
     exact frm_fuel hs h1.2 (by omega) (by omega)
   ·rfl
  ·rfl
theorem oneBF_fwd (p:Par) (d:Nat):Fwd s (oneB p s d):=by
 have e:oneB p s d=oneA p s d:=by funext i;exact (one_eq d i).symm
 rw[e]
 exact oneA_fwd d
end
def hdP (c:UInt8):Prop:=c=40∨c=34∨c=35∨c=45∨wordlyP c
theorem hdP.ne {c:UInt8} (h:hdP c):c≠32∧c≠61∧c≠62∧c≠41:=by
 refine ⟨?_,?_,?_,?_⟩ <;> rintro rfl <;> revert h <;> unfold hdP <;> decide
theorem tx_hd {m:Int} (h1:1≤m) (h2:m≤6):∃ r,tx.getD m.toNat []=35::r:=by
 have h:m=1∨m=2∨m=3∨m=4∨m=5∨m=6:=by omega
 rcases h with rfl|rfl|rfl|rfl|rfl|rfl
 all_goals exact ⟨_,rfl⟩
theorem cl_word {t:List UInt8} (h:clZ t=true):t≠[]∧∀ c ∈ t,wordlyP c:=by
 unfold clZ at h
 simp only[Bool.and_eq_true,decide_eq_true_eq,List.all_eq_true] at h
 refine ⟨fun e=>by rw[e] at h;simp at h,fun c hc=>?_⟩
 have:=h.2 c hc
 refine .inr (.inr (.inl ⟨?_,?_⟩))
 ·exact UInt8.le_iff_toNat_le.2 this.1
 ·exact UInt8.le_iff_toNat_le.2 this.2
end Go.Proofs.YtaheflnnigocgaaGreatDoor
end
section
namespace Go.Proofs.YtaheflnnigocgaaGreatDoor
open Go Go.EYtaheflnnigocgaaGreatDoor
set_option maxRecDepth 100000
section
variable {p:Par} {s:List UInt8}
theorem wr_hd (hp:PB p) (n:Nd):∀ {box:Prop},frmN n box→∃ c r,wrN n=c::r∧hdP c:=by
 match n with
 | .mk k m t a b ks =>
  intro box hf
  have wd:∀ w:List UInt8,(w≠[]∧∀ c ∈ w,wordlyP c)→∃ c r,w=c::r∧hdP c:=fun w hw=>by
   cases w with
   | nil=>exact absurd rfl hw.1
   | cons c r=>exact ⟨c,r,rfl,.inr (.inr (.inr (.inr (hw.2 c (by simp)))))⟩
  by_cases h1:k=1
  ·subst h1;rw[frm_1] at hf;exact wd _ (hp.numW m hf.2.2.2)
  by_cases h2:k=2
  ·subst h2;exact ⟨34,_,rfl,by unfold hdP;decide⟩
  by_cases h3:k=3
  ·subst h3
   show ∃ c r,(if m=1 then tT else tF)=c::r∧hdP c
   split
   ·exact ⟨_,_,rfl,by unfold hdP;decide⟩
   ·exact ⟨_,_,rfl,by unfold hdP;decide⟩
  by_cases h4:k=4
  ·subst h4;rw[frm_4] at hf
   obtain ⟨r,hr⟩:=tx_hd hf.2.2.2.1 hf.2.2.2.2
   exact ⟨35,r,hr,by unfold hdP;decide⟩
  by_cases h5:k=5
  ·subst h5;rw[frm_5] at hf;exact wd _ (hp.refW a hf.2.2.2.2)
  by_cases h6:k=6
  ·subst h6;rw[frm_6] at hf
   obtain ⟨c,r,e,hc⟩:=wd _ (hp.refW a hf.2.2.2.2.1)
   exact ⟨c,r++58::nmR b,by show nmR a++58::nmR b=_;rw[e];rfl,hc⟩
  by_cases h7:k=7
  ·subst h7;rw[frm_7] at hf
   match ks,hf with
   | [x],_=>exact ⟨45,_,rfl,by unfold hdP;decide⟩
  by_cases h8:k=8
  ·subst h8;rw[frm_8] at hf
   match ks,hf with
   | [x,y],hf =>
    obtain ⟨c,r,e,hc⟩:=wr_hd hp x hf.2.2.2.2.2.1
    show ∃ c r,brN (wrN x) (tgtN x<_)++_=c::r∧hdP c
    unfold brN
    split
    ·exact ⟨40,_,rfl,by unfold hdP;decide⟩
    ·rw[e];exact ⟨c,_,rfl,hc⟩
  by_cases h9:k=9
  ·subst h9;rw[frm_9] at hf
   obtain ⟨c,r,e,hc⟩:=wd _ (cl_word hf.1)
   exact ⟨c,r++40::(comN (wrL ks)++[41]),by show t++40::(comN (wrL ks)++[41])=_;rw[e];rfl,hc⟩
  exfalso
  unfold frmN at hf
  omega
abbrev subB (p:Par) (s:List UInt8) (d:Nat):Nat→Nat→Rs Nd:=fun op=>Lo s (oneB p s d) 4 (tgt op+1)
abbrev selB (least:Nat):Nat→Bool:=fun op=>decide (least≤tgt op)
theorem sub_fwd (d:Nat):∀ op,Fwd s (subB p s d op):=fun _=>Lo_fwd (oneBF_fwd p d) _ _
structure RdOk (p:Par) (s:List UInt8) (n:Nd):Prop where
 one:∀ (d i:Nat) (post:List UInt8),s.drop i=wrN n++post→okQ post→tgtN n=5→Gd (depN n≤d) (oneB p s d i) (.ok n (i+(wrN n).length))
 go:∀ (d i:Nat) (post:List UInt8),s.drop i=wrN n++post→okQ post→∀ least F F':Nat,(least:Int)≤tgtN n→(∀ op len,opT post=some (op,len)→(tgt op:Int)≤tgtN n)→
  s.length - i<F→s.length - (i+(wrN n).length)<F'→Gd (depN n≤d) ((oneB p s d i).bind (frm s (subB p s d) (selB least) F)) (frm s (subB p s d) (selB least) F' n (i+(wrN n).length))
theorem len_of {i:Nat} {w post:List UInt8} (h:s.drop i=w++post) (h0:w≠[]):i+w.length≤s.length:=by
 have h1:=congrArg List.length h
 rw[List.length_drop,List.length_append] at h1
 have:0<w.length:=List.length_pos_iff.2 h0
 omega
theorem wr_ne (hp:PB p) {n:Nd} {box:Prop} (hf:frmN n box):wrN n≠[]:=by
 obtain ⟨c,r,e,_⟩:=wr_hd hp n hf
 rw[e];simp
theorem RdOk.of_one {n:Nd} (hw:wrN n≠[]) (h:∀ (d i:Nat) (post:List UInt8),s.drop i=wrN n++post→okQ post→Gd (depN n≤d) (oneB p s d i) (.ok n (i+(wrN n).length))):RdOk p s n where
 one:=fun d i post hd hq _=>h d i post hd hq
 go:=fun d i post hd hq least F F' _ _ hF hF'=>by
  have hl:=len_of hd hw
  refine (h d i post hd hq).bind (E:=True) (Gd.of ?_) (fun hh=>⟨hh,trivial⟩)
  exact frm_fuel (fun op=>sub_fwd d op) hl (by omega) hF'
theorem rd_of (hp:PB p) {n:Nd} {box:Prop} (hf:frmN n box) (h:RdOk p s n) {d i least:Nat} {post:List UInt8} (hd:s.drop i=wrN n++post) (hq:okQ post) (h4:1≤least) (hl:(least:Int)≤tgtN n) (hn:∀ op len,opT post=some (op,len)→tgt op<least) :
 Gd (depN n≤d) (Lo s (oneB p s d) 4 least i) (.ok n (i+(wrN n).length)):=by
 have hlen:=len_of hd (wr_ne hp hf)
 rw[← Lo_more 4 least i (by omega)]
 refine (h.go d i post hd hq least (s.length+1) (s.length+1) hl (fun op len ho=>?_) (by omega) (by omega)).trans (Gd.of ?_)
 ·have:=hn op len ho;omega
 ·refine frm_none fun op len ho=>?_
  rw[opA_of (drop_app hd) hq.b] at ho
  have:=hn op len ho
  simp;omega
theorem tgtN_pos (n:Nd):1≤tgtN n:=by
 obtain ⟨k,m,t,a,b,ks⟩:=n
 unfold tgtN
 (repeat' split) <;> omega
theorem tgtN_le (n:Nd):tgtN n≤5:=by
 obtain ⟨k,m,t,a,b,ks⟩:=n
 unfold tgtN
 (repeat' split) <;> omega
theorem par_of (hp:PB p) {n:Nd} {box:Prop} (hf:frmN n box) (h:RdOk p s n) {d i:Nat} {post:List UInt8} (hd:s.drop i=40::(wrN n++41::post)) :
 Gd (depN n+1≤d) (oneB p s d i) (.ok n (i+((wrN n).length+2))):=by
 cases d with
 | zero =>
  have e:oneB p s 0 i=.no i 4:=by
   show negF p s true _ _ i=_
   rw[negF_prim hd (by decide) (by decide)]
   unfold primF
   rw[get_at hd]
   rfl
  rw[e]
  exact Gd.fail (by omega)
 | succ d =>
  have h1:=drop_one hd
  have h2:=drop_app h1
  show Gd _ (negF p s false (oneB p s d) (Lo s (oneB p s d) 4 1) i) _
  rw[negF_prim hd (by decide) (by decide)]
  unfold primF
  rw[get_at hd]
  show Gd _ (parF s (Lo s (oneB p s d) 4 1) (i+1)) _
  unfold parF
  refine (rd_of hp hf h (d:=d) (least:=1) h1 (.c (.inl rfl)) (by omega) (tgtN_pos n) (fun op len ho=>by cases ho)).bind (E:=True) (Gd.of ?_) (fun hh=>⟨Nat.le_of_succ_le_succ hh,trivial⟩)
  rw[skp_of h2 (by simp),get_at h2]
  show Rs.ok n (i+1+(wrN n).length+1)=_
  congr 1
  omega
theorem br_one (hp:PB p) {n:Nd} {box:Prop} (hf:frmN n box) (h:RdOk p s n) {d i:Nat} {post:List UInt8} (hd:s.drop i=brN (wrN n) (tgtN n<5)++post) (hq:okQ post) :
 Gd (brD n 5 (depN n)≤d) (oneB p s d i) (.ok n (i+(brN (wrN n) (tgtN n<5)).length)):=by
 unfold brD
 by_cases hg:tgtN n<5
 ·rw[if_pos hg]
  unfold brN at hd ⊢
  rw[if_pos hg] at hd ⊢
  have:=par_of (d:=d) (i:=i) (post:=post) hp hf h (by rw[hd];simp)
  simpa using this
 ·rw[if_neg hg]
  unfold brN at hd ⊢
  rw[if_neg hg] at hd ⊢
  have:=tgtN_le n
  exact h.one d i post hd hq (by omega)
theorem two_of (hp:PB p) {x y:Nd} {m:Int} (h1:1≤m) (h2:m≤11) {bx by':Prop} (hfx:frmN x bx) (hfy:frmN y by') (hx:RdOk p s x) (hy:RdOk p s y):RdOk p s (.mk 8 m [] z0 z0 [x,y]):=by
 have hg:=tgt_tgtN h1 h2 [] z0 z0 [x,y]
 have g0:=tgt_pos m.toNat
 have g4:=tgt_le m.toNat
 refine ⟨fun d i post hd hq h5=>by omega,fun d i post hd hq least F F' hl hn hF hF'=>?_⟩
 have hg':=hg
 generalize htg:tgtN (.mk 8 m [] z0 z0 [x,y])=tg at *
 have hw:wrN (.mk 8 m [] z0 z0 [x,y])=brN (wrN x) (tgtN x<tg)++(sgnN m++brN (wrN y) (tgtN y≤tg)):=by rw[← htg];rfl
 have hdp:depN (.mk 8 m [] z0 z0 [x,y])=max (brD x tg (depN x)) (brD y (tg+1) (depN y)):=by rw[← htg];rfl
 have hlen:=len_of hd (by rw[hw];obtain ⟨c,r,e,_⟩:=sgn_hd h1 h2;rw[e];simp)
 rw[hw,List.append_assoc,List.append_assoc] at hd
 have hd1:=drop_app hd
 have hd2:=drop_app hd1
 have hyh:∃ c r,brN (wrN y) (tgtN y≤tg)++post=c::r∧hdP c:=by
  unfold brN
  split
  ·exact ⟨40,_,rfl,by unfold hdP;decide⟩
  ·obtain ⟨c,r,e,hc⟩:=wr_hd hp y hfy
   exact ⟨c,r++post,by rw[e];rfl,hc⟩
 have hop:opA s (i+(brN (wrN x) (tgtN x<tg)).length)=some (m.toNat,(sgnN m).length):=by
  rw[opA_of hd1 (okQ_sgn h1 h2 _).b]
  obtain ⟨c,r,e,hc⟩:=hyh
  rw[e]
  exact opT_sgn h1 h2 hc.ne.2.1 hc.ne.2.2.1
 have hskp:=skp_of hd1 (okQ_sgn h1 h2 _).b
 have hopT:opT (sgnN m++(brN (wrN y) (tgtN y≤tg)++post))=some (m.toNat,(sgnN m).length):=by rw[← opA_of hd1 (okQ_sgn h1 h2 _).b];exact hop
 have hll:(wrN (.mk 8 m [] z0 z0 [x,y])).length=(brN (wrN x) (tgtN x<tg)).length+((sgnN m).length+(brN (wrN y) (tgtN y≤tg)).length):=by rw[hw,List.length_append,List.length_append]
 have hs1:1≤(sgnN m).length:=by obtain ⟨c,r,e,_⟩:=sgn_hd h1 h2;rw[e];simp
 -- the left
 have left:Gd (brD x tg (depN x)≤d) ((oneB p s d i).bind (frm s (subB p s d) (selB least) F)) (frm s (subB p s d) (selB least) (s.length+1) x (i+(brN (wrN x) (tgtN x<tg)).length)):=by
  unfold brD
  by_cases hb:tgtN x<tg
  ·rw[if_pos hb]
   have e:brN (wrN x) (tgtN x<tg)=40::(wrN x++[41]):=if_pos hb
   rw[e] at hd hll ⊢
   refine (par_of (d:=d) (post:=sgnN m++(brN (wrN y) (tgtN y≤tg)++post)) hp hfx hx (by rw[hd];simp)).bind (E:=True) (Gd.of ?_) (fun hh=>⟨hh,trivial⟩)
   have e2:i+(40::(wrN x++[41])).length=i+((wrN x).length+2):=by simp
   rw[e2] at *
   have hl2:(40::(wrN x++[41])).length=(wrN x).length+2:=by simp
   exact frm_fuel (fun op=>sub_fwd d op) (by omega) (by omega) (by omega)
  ·rw[if_neg hb]
   have e:brN (wrN x) (tgtN x<tg)=wrN x:=if_neg hb
   rw[e] at hd hll ⊢
   exact hx.go d i _ hd (okQ_sgn h1 h2 _) least F (s.length+1) (by omega) (fun op len ho=>by rw[hopT] at ho;cases ho;omega) hF (by omega)
 refine (left.imp fun hh=>?_).trans ?_
 ·rw[hdp] at hh;omega
 -- the operator
 rw[frm,hop]
 simp only[]
 rw[if_pos (by simp;omega),hskp]
 -- the right
 have right:Gd (brD y (tg+1) (depN y)≤d) (Lo s (oneB p s d) 4 (tgt m.toNat+1) (i+(brN (wrN x) (tgtN x<tg)).length+(sgnN m).length)) (.ok y (i+(brN (wrN x) (tgtN x<tg)).length+(sgnN m).length+(brN (wrN y) (tgtN y≤tg)).length)):=by
  unfold brD
  by_cases hb:tgtN y<tg+1
  ·rw[if_pos hb]
   have e:brN (wrN y) (tgtN y≤tg)=40::(wrN y++[41]):=if_pos (by omega)
   rw[e] at hd2 hll ⊢
   have hl2:(40::(wrN y++[41])).length=(wrN y).length+2:=by simp
   rw[hl2] at hll ⊢
   rw[← Lo_more 4 _ _ (by omega)]
   refine (par_of (d:=d) (post:=post) hp hfy hy (by rw[hd2];simp)).bind (E:=True) (Gd.of ?_) (fun hh=>⟨hh,trivial⟩)
   refine frm_none fun op len ho=>?_
   have hd3:=drop_app hd2
   rw[hl2] at hd3
   rw[opA_of hd3 hq.b] at ho
   have:=hn op len ho
   simp;omega
  ·rw[if_neg hb]
   have e:brN (wrN y) (tgtN y≤tg)=wrN y:=if_neg (by omega)
   rw[e] at hd2 ⊢
   exact rd_of hp hfy hy hd2 hq (by omega) (by omega) (fun op len ho=>by have:=hn op len ho;omega)
 refine right.bind (E:=True) (Gd.of ?_) (fun hh=>⟨by rw[hdp] at hh;omega,trivial⟩)
 have e:i+(brN (wrN x) (tgtN x<tg)).length+(sgnN m).length+(brN (wrN y) (tgtN y≤tg)).length=i+(wrN (.mk 8 m [] z0 z0 [x,y])).length:=by omega
 rw[e]
 have e2:twoN (m.toNat:Nat) x y=.mk 8 m [] z0 z0 [x,y]:=by unfold twoN;rw[Int.toNat_of_nonneg (by omega)]
 rw[e2]
 exact frm_fuel (fun op=>sub_fwd d op) hlen (by omega) hF'
end
end Go.Proofs.YtaheflnnigocgaaGreatDoor
end
