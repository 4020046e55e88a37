/- Proved: a part of what the law is proved with (the reckoner, contracts of functions, plain laws). Conditions: as each says. -/
import Derived.Test.YtfcmhmglpcimiaaGreatDoorKOa
namespace Go.Proofs.YtfcmhmglpcimiaaGreatDoor
open Go Go.EYtfcmhmglpcimiaaGreatDoor
set_option maxRecDepth 100000
section
section
variable {p:Par} {s:List UInt8}
theorem wr_hd (hp:PB p) (n:Nd):∀ {box:Prop},frmN n box→∃ c r,wrN n=c::r∧hdP c:=by
 match n with
 | .mk k m t a b ks =>
  intro box hf
  have wd:∀ w:List UInt8,(w≠[]∧∀ c ∈ w,wordlyP c)→∃ c r,w=c::r∧hdP c:=fun w hw=>by
   cases w with
   | nil=>exact absurd rfl hw.1
   | cons c r=>exact ⟨c,r,rfl,.inr (.inr (.inr (.inr (hw.2 c (by simp)))))⟩
  by_cases h1:k=1
  ·subst h1;rw[frm_1] at hf;exact wd _ (hp.numW m hf.2.2.2)
  by_cases h2:k=2
  ·subst h2;exact ⟨34,_,rfl,by unfold hdP;decide⟩
  by_cases h3:k=3
  ·subst h3
   show ∃ c r,(if m=1 then tT else tF)=c::r∧hdP c
   split
   ·exact ⟨_,_,rfl,by unfold hdP;decide⟩
   ·exact ⟨_,_,rfl,by unfold hdP;decide⟩
  by_cases h4:k=4
  ·subst h4;rw[frm_4] at hf
   obtain ⟨r,hr⟩:=tx_hd hf.2.2.2.1 hf.2.2.2.2
   exact ⟨35,r,hr,by unfold hdP;decide⟩
  by_cases h5:k=5
  ·subst h5;rw[frm_5] at hf;exact wd _ (hp.refW a hf.2.2.2.2)
  by_cases h6:k=6
  ·subst h6;rw[frm_6] at hf
   obtain ⟨c,r,e,hc⟩:=wd _ (hp.refW a hf.2.2.2.2.1)
   exact ⟨c,r++58::nmR b,by show nmR a++58::nmR b=_;rw[e];rfl,hc⟩
  by_cases h7:k=7
  ·subst h7;rw[frm_7] at hf
   match ks,hf with
   | [x],_=>exact ⟨45,_,rfl,by unfold hdP;decide⟩
  by_cases h8:k=8
  ·subst h8;rw[frm_8] at hf
   match ks,hf with
   | [x,y],hf =>
    obtain ⟨c,r,e,hc⟩:=wr_hd hp x hf.2.2.2.2.2.1
    show ∃ c r,brN (wrN x) (tgtN x<_)++_=c::r∧hdP c
    unfold brN
    split
    ·exact ⟨40,_,rfl,by unfold hdP;decide⟩
    ·rw[e];exact ⟨c,_,rfl,hc⟩
  by_cases h9:k=9
  ·subst h9;rw[frm_9] at hf
   obtain ⟨c,r,e,hc⟩:=wd _ (cl_word hf.1)
   exact ⟨c,r++40::(comN (wrL ks)++[41]),by show t++40::(comN (wrL ks)++[41])=_;rw[e];rfl,hc⟩
  exfalso
  unfold frmN at hf
  omega
abbrev subB (p:Par) (s:List UInt8) (d:Nat):Nat→Nat→Rs Nd:=fun op=>Lo s (oneB p s d) 4 (tgt op+1)
abbrev selB (least:Nat):Nat→Bool:=fun op=>decide (least≤tgt op)
theorem sub_fwd (d:Nat):∀ op,Fwd s (subB p s d op):=fun _=>Lo_fwd (oneBF_fwd p d) _ _
structure RdOk (p:Par) (s:List UInt8) (n:Nd):Prop where
 one:∀ (d i:Nat) (post:List UInt8),s.drop i=wrN n++post→okQ post→tgtN n=5→Gd (depN n≤d) (oneB p s d i) (.ok n (i+(wrN n).length))
 go:∀ (d i:Nat) (post:List UInt8),s.drop i=wrN n++post→okQ post→∀ least F F':Nat,(least:Int)≤tgtN n→(∀ op len,opT post=some (op,len)→(tgt op:Int)≤tgtN n)→
  s.length - i<F→s.length - (i+(wrN n).length)<F'→Gd (depN n≤d) ((oneB p s d i).bind (frm s (subB p s d) (selB least) F)) (frm s (subB p s d) (selB least) F' n (i+(wrN n).length))
theorem len_of {i:Nat} {w post:List UInt8} (h:s.drop i=w++post) (h0:w≠[]):i+w.length≤s.length:=by
 have h1:=congrArg List.length h
 rw[List.length_drop,List.length_append] at h1
 have:0<w.length:=List.length_pos_iff.2 h0
 omega
theorem wr_ne (hp:PB p) {n:Nd} {box:Prop} (hf:frmN n box):wrN n≠[]:=by
 obtain ⟨c,r,e,_⟩:=wr_hd hp n hf
 rw[e];simp
theorem RdOk.of_one {n:Nd} (hw:wrN n≠[]) (h:∀ (d i:Nat) (post:List UInt8),s.drop i=wrN n++post→okQ post→Gd (depN n≤d) (oneB p s d i) (.ok n (i+(wrN n).length))):RdOk p s n where
 one:=fun d i post hd hq _=>h d i post hd hq
 go:=fun d i post hd hq least F F' _ _ hF hF'=>by
  have hl:=len_of hd hw
  refine (h d i post hd hq).bind (E:=True) (Gd.of ?_) (fun hh=>⟨hh,trivial⟩)
  exact frm_fuel (fun op=>sub_fwd d op) hl (by omega) hF'
theorem rd_of (hp:PB p) {n:Nd} {box:Prop} (hf:frmN n box) (h:RdOk p s n) {d i least:Nat} {post:List UInt8} (hd:s.drop i=wrN n++post) (hq:okQ post) (h4:1≤least) (hl:(least:Int)≤tgtN n) (hn:∀ op len,opT post=some (op,len)→tgt op<least) :
 Gd (depN n≤d) (Lo s (oneB p s d) 4 least i) (.ok n (i+(wrN n).length)):=by
 have hlen:=len_of hd (wr_ne hp hf)
 rw[← Lo_more 4 least i (by omega)]
 refine (h.go d i post hd hq least (s.length+1) (s.length+1) hl (fun op len ho=>?_) (by omega) (by omega)).trans (Gd.of ?_)
 ·have:=hn op len ho;omega
 ·refine frm_none fun op len ho=>?_
  rw[opA_of (drop_app hd) hq.b] at ho
  have:=hn op len ho
  simp;omega
theorem tgtN_pos (n:Nd):1≤tgtN n:=by
 obtain ⟨k,m,t,a,b,ks⟩:=n
 unfold tgtN
 (repeat' split) <;> omega
theorem tgtN_le (n:Nd):tgtN n≤5:=by
 obtain ⟨k,m,t,a,b,ks⟩:=n
 unfold tgtN
 (repeat' split) <;> omega
theorem par_of (hp:PB p) {n:Nd} {box:Prop} (hf:frmN n box) (h:RdOk p s n) {d i:Nat} {post:List UInt8} (hd:s.drop i=40::(wrN n++41::post)) :
 Gd (depN n+1≤d) (oneB p s d i) (.ok n (i+((wrN n).length+2))):=by
 cases d with
 | zero =>
  have e:oneB p s 0 i=.no i 4:=by
   show negF p s true _ _ i=_
   rw[negF_prim hd (by decide) (by decide)]
   unfold primF
   rw[get_at hd]
   rfl
  rw[e]
  exact Gd.fail (by omega)
 | succ d =>
  have h1:=drop_one hd
  have h2:=drop_app h1
  show Gd _ (negF p s false (oneB p s d) (Lo s (oneB p s d) 4 1) i) _
  rw[negF_prim hd (by decide) (by decide)]
  unfold primF
  rw[get_at hd]
  show Gd _ (parF s (Lo s (oneB p s d) 4 1) (i+1)) _
  unfold parF
  refine (rd_of hp hf h (d:=d) (least:=1) h1 (.c (.inl rfl)) (by omega) (tgtN_pos n) (fun op len ho=>by cases ho)).bind (E:=True) (Gd.of ?_) (fun hh=>⟨Nat.le_of_succ_le_succ hh,trivial⟩)
  rw[skp_of h2 (by simp),get_at h2]
  show Rs.ok n (i+1+(wrN n).length+1)=_
  congr 1
  omega
theorem br_one (hp:PB p) {n:Nd} {box:Prop} (hf:frmN n box) (h:RdOk p s n) {d i:Nat} {post:List UInt8} (hd:s.drop i=brN (wrN n) (tgtN n<5)++post) (hq:okQ post) :
 Gd (brD n 5 (depN n)≤d) (oneB p s d i) (.ok n (i+(brN (wrN n) (tgtN n<5)).length)):=by
 unfold brD
 by_cases hg:tgtN n<5
 ·rw[if_pos hg]
  unfold brN at hd ⊢
  rw[if_pos hg] at hd ⊢
  have:=par_of (d:=d) (i:=i) (post:=post) hp hf h (by rw[hd];simp)
  simpa using this
 ·rw[if_neg hg]
  unfold brN at hd ⊢
  rw[if_neg hg] at hd ⊢
  have:=tgtN_le n
  exact h.one d i post hd hq (by omega)
theorem two_of (hp:PB p) {x y:Nd} {m:Int} (h1:1≤m) (h2:m≤11) {bx by':Prop} (hfx:frmN x bx) (hfy:frmN y by') (hx:RdOk p s x) (hy:RdOk p s y):RdOk p s (.mk 8 m [] z0 z0 [x,y]):=by
 have hg:=tgt_tgtN h1 h2 [] z0 z0 [x,y]
 have g0:=tgt_pos m.toNat
 have g4:=tgt_le m.toNat
 refine ⟨fun d i post hd hq h5=>by omega,fun d i post hd hq least F F' hl hn hF hF'=>?_⟩
 have hg':=hg
 generalize htg:tgtN (.mk 8 m [] z0 z0 [x,y])=tg at *
 have hw:wrN (.mk 8 m [] z0 z0 [x,y])=brN (wrN x) (tgtN x<tg)++(sgnN m++brN (wrN y) (tgtN y≤tg)):=by rw[← htg];rfl
 have hdp:depN (.mk 8 m [] z0 z0 [x,y])=max (brD x tg (depN x)) (brD y (tg+1) (depN y)):=by rw[← htg];rfl
 have hlen:=len_of hd (by rw[hw];obtain ⟨c,r,e,_⟩:=sgn_hd h1 h2;rw[e];simp)
 rw[hw,List.append_assoc,List.append_assoc] at hd
 have hd1:=drop_app hd
 have hd2:=drop_app hd1
 have hyh:∃ c r,brN (wrN y) (tgtN y≤tg)++post=c::r∧hdP c:=by
  unfold brN
  split
  ·exact ⟨40,_,rfl,by unfold hdP;decide⟩
  ·obtain ⟨c,r,e,hc⟩:=wr_hd hp y hfy
   exact ⟨c,r++post,by rw[e];rfl,hc⟩
 have hop:opA s (i+(brN (wrN x) (tgtN x<tg)).length)=some (m.toNat,(sgnN m).length):=by
  rw[opA_of hd1 (okQ_sgn h1 h2 _).b]
  obtain ⟨c,r,e,hc⟩:=hyh
  rw[e]
  exact opT_sgn h1 h2 hc.ne.2.1 hc.ne.2.2.1
 have hskp:=skp_of hd1 (okQ_sgn h1 h2 _).b
 have hopT:opT (sgnN m++(brN (wrN y) (tgtN y≤tg)++post))=some (m.toNat,(sgnN m).length):=by rw[← opA_of hd1 (okQ_sgn h1 h2 _).b];exact hop
 have hll:(wrN (.mk 8 m [] z0 z0 [x,y])).length=(brN (wrN x) (tgtN x<tg)).length+((sgnN m).length+(brN (wrN y) (tgtN y≤tg)).length):=by rw[hw,List.length_append,List.length_append]
 have hs1:1≤(sgnN m).length:=by obtain ⟨c,r,e,_⟩:=sgn_hd h1 h2;rw[e];simp
 -- the left
 have left:Gd (brD x tg (depN x)≤d) ((oneB p s d i).bind (frm s (subB p s d) (selB least) F)) (frm s (subB p s d) (selB least) (s.length+1) x (i+(brN (wrN x) (tgtN x<tg)).length)):=by
  unfold brD
  by_cases hb:tgtN x<tg
  ·rw[if_pos hb]
   have e:brN (wrN x) (tgtN x<tg)=40::(wrN x++[41]):=if_pos hb
   rw[e] at hd hll ⊢
   refine (par_of (d:=d) (post:=sgnN m++(brN (wrN y) (tgtN y≤tg)++post)) hp hfx hx (by rw[hd];simp)).bind (E:=True) (Gd.of ?_) (fun hh=>⟨hh,trivial⟩)
   have e2:i+(40::(wrN x++[41])).length=i+((wrN x).length+2):=by simp
   rw[e2] at *
   have hl2:(40::(wrN x++[41])).length=(wrN x).length+2:=by simp
   exact frm_fuel (fun op=>sub_fwd d op) (by omega) (by omega) (by omega)
  ·rw[if_neg hb]
   have e:brN (wrN x) (tgtN x<tg)=wrN x:=if_neg hb
   rw[e] at hd hll ⊢
   exact hx.go d i _ hd (okQ_sgn h1 h2 _) least F (s.length+1) (by omega) (fun op len ho=>by rw[hopT] at ho;cases ho;omega) hF (by omega)
 refine (left.imp fun hh=>?_).trans ?_
 ·rw[hdp] at hh;omega
 -- the operator
 rw[frm,hop]
 simp only[]
 rw[if_pos (by simp;omega),hskp]
 -- the right
 have right:Gd (brD y (tg+1) (depN y)≤d) (Lo s (oneB p s d) 4 (tgt m.toNat+1) (i+(brN (wrN x) (tgtN x<tg)).length+(sgnN m).length)) (.ok y (i+(brN (wrN x) (tgtN x<tg)).length+(sgnN m).length+(brN (wrN y) (tgtN y≤tg)).length)):=by
  unfold brD
  by_cases hb:tgtN y<tg+1
  ·rw[if_pos hb]
   have e:brN (wrN y) (tgtN y≤tg)=40::(wrN y++[41]):=if_pos (by omega)
   rw[e] at hd2 hll ⊢
   have hl2:(40::(wrN y++[41])).length=(wrN y).length+2:=by simp
   rw[hl2] at hll ⊢
   rw[← Lo_more 4 _ _ (by omega)]
   refine (par_of (d:=d) (post:=post) hp hfy hy (by rw[hd2];simp)).bind (E:=True) (Gd.of ?_) (fun hh=>⟨hh,trivial⟩)
   refine frm_none fun op len ho=>?_
   have hd3:=drop_app hd2
   rw[hl2] at hd3
   rw[opA_of hd3 hq.b] at ho
   have:=hn op len ho
   simp;omega
  ·rw[if_neg hb]
   have e:brN (wrN y) (tgtN y≤tg)=wrN y:=if_neg (by omega)
   rw[e] at hd2 ⊢
   exact rd_of hp hfy hy hd2 hq (by omega) (by omega) (fun op len ho=>by have:=hn op len ho;omega)
 refine right.bind (E:=True) (Gd.of ?_) (fun hh=>⟨by rw[hdp] at hh;omega,trivial⟩)
 have e:i+(brN (wrN x) (tgtN x<tg)).length+(sgnN m).length+(brN (wrN y) (tgtN y≤tg)).length=i+(wrN (.mk 8 m [] z0 z0 [x,y])).length:=by omega
 rw[e]
 have e2:twoN (m.toNat:Nat) x y=.mk 8 m [] z0 z0 [x,y]:=by unfold twoN;rw[Int.toNat_of_nonneg (by omega)]
 rw[e2]
 exact frm_fuel (fun op=>sub_fwd d op) hlen (by omega) hF'
end
end
section
section
variable {p:Par} {s:List UInt8}
def kN:Nd→Int
 | .mk k _ _ _ _ _=>k
theorem noR_z {b:Rf} (h:noR b):b=z0:=by
 obtain ⟨c,r,f,g⟩:=b
 obtain ⟨⟨h1,h2,_⟩,h3,h4,_⟩:=h
 simp only at h1 h2 h3 h4
 subst h1;subst h2
 cases f <;> cases g <;> simp_all [z0]
def nxt (l:List UInt8):Option UInt8:=(l.drop (wdl l)).head?
theorem nxt_at (i:Nat):s[wdE s i]?=nxt (s.drop i):=by
 unfold wdE nxt
 rw[List.drop_drop,List.head?_drop]
theorem nxt_word {w post:List UInt8} (hw:∀ c ∈ w,wordlyP c) (hp:∀ c,post.head?=some c→¬ wordlyP c):nxt (w++post)=post.head?:=by
 unfold nxt
 rw[wdl_word hw hp,List.drop_left]
theorem nxt_mark {c:UInt8} {r:List UInt8} (h:¬ wordlyP c):nxt (c::r)=some c:=by
 unfold nxt wdl
 rw[if_neg h]
 rfl
theorem nxt_wr (hp:PB p) (n:Nd):∀ {box:Prop},frmN n box→kN n≠6→∀ {post:List UInt8},okQ post→nxt (wrN n++post)≠some 58:=by
 match n with
 | .mk k m t a b ks =>
  intro box hf h6 post hq
  have wd:∀ w:List UInt8,(∀ c ∈ w,wordlyP c)→nxt (w++post)≠some 58:=fun w hw=>by
   rw[nxt_word hw (fun c hc=>(hq.ne hc).1)]
   exact fun hc=>(hq.ne hc).2.2.2.1 rfl
  by_cases h1:k=1
  ·subst h1;rw[frm_1] at hf;exact wd _ (hp.numW m hf.2.2.2).2
  by_cases h2:k=2
  ·subst h2
   show nxt (34::_)≠_
   rw[nxt_mark (by decide)];decide
  by_cases h3:k=3
  ·subst h3
   refine wd (if m=1 then tT else tF) ?_
   split <;> decide
  by_cases h4:k=4
  ·subst h4;rw[frm_4] at hf
   obtain ⟨r,hr⟩:=tx_hd hf.2.2.2.1 hf.2.2.2.2
   show nxt (tx.getD m.toNat []++post)≠_
   rw[hr]
   show nxt (35::_)≠_
   rw[nxt_mark (by decide)];decide
  by_cases h5:k=5
  ·subst h5;rw[frm_5] at hf;exact wd _ (hp.refW a hf.2.2.2.2).2
  by_cases h7:k=7
  ·subst h7;rw[frm_7] at hf
   match ks,hf with
   | [x],_ =>
    show nxt (45::_)≠_
    rw[nxt_mark (by decide)];decide
  by_cases h8:k=8
  ·subst h8;rw[frm_8] at hf
   match ks,hf with
   | [x,y],hf =>
    show nxt ((brN (wrN x) (tgtN x<_)++(sgnN m++_))++post)≠_
    rw[List.append_assoc,List.append_assoc]
    unfold brN
    split
    ·show nxt (40::_)≠_
     rw[nxt_mark (by decide)];decide
    ·have hx:=hf.2.2.2.2.2.1
     refine nxt_wr hp x hx (fun h=>?_) (okQ_sgn hf.2.2.2.1 hf.2.2.2.2.1 _)
     obtain ⟨k',m',t',a',b',ks'⟩:=x
     change k'=6 at h
     subst h
     rw[frm_6] at hx
     exact hx.1
  by_cases h9:k=9
  ·subst h9;rw[frm_9] at hf
   show nxt ((t++40::(comN (wrL ks)++[41]))++post)≠_
   rw[List.append_assoc,nxt_word (cl_word hf.1).2 (fun c hc=>by cases hc;decide)]
   simp
  exfalso
  unfold frmN at hf
  change k≠6 at h6
  omega
theorem arg_of (hp:PB p) {n:Nd} {box:Prop} (hf:frmN n box) (h:kN n≠6→RdOk p s n) {d i:Nat} {c:UInt8} {post:List UInt8} (hd:s.drop i=wrN n++c::post) (hc:c=41∨c=44) :
 Gd (depN n≤d) (argF p s (Lo s (oneB p s d) 4 1) i) (.ok n (i+(wrN n).length)):=by
 have hq:okQ (c::post):=.c hc
 have hsk:skp s i=i:=by
  obtain ⟨c',r,e,hh⟩:=wr_hd hp n hf
  exact skp_of hd (by rw[e];simpa using hh.ne.1)
 unfold argF
 rw[hsk]
 by_cases h6:kN n=6
 ·obtain ⟨k,m,t,a,b,ks⟩:=n
  change k=6 at h6
  subst h6
  rw[frm_6] at hf
  obtain ⟨-,h0,rfl,rfl,ha,hb⟩:=hf
  obtain rfl:=List.eq_nil_of_length_eq_zero h0
  change s.drop i=(nmR a++58::nmR b)++c::post at hd
  rw[List.append_assoc] at hd
  obtain ⟨e1,e2⟩:=wdAt_of hd (hp.refW a ha).2 (fun c hc=>by cases hc;decide)
  have hd1:=drop_app hd
  have hd2:=drop_one hd1
  obtain ⟨e3,e4⟩:=wdAt_of hd2 (hp.refW b hb).2 (fun c hc=>(hq.ne hc).1)
  rw[e1,(hp.ref a ha).2,e2]
  simp only[]
  rw[get_at hd1]
  simp only[List.cons_append,List.head?_cons,if_true]
  rw[e3,(hp.ref b hb).2,e4]
  refine Gd.of ?_
  show Rs.ok _ _=Rs.ok _ (i+(nmR a++58::nmR b).length)
  congr 1
  simp
  omega
 ·have hn:s[wdE s i]?≠some 58:=by
   rw[nxt_at,hd]
   exact nxt_wr hp n hf h6 hq
  have hr:=rd_of (d:=d) (least:=1) hp hf (h h6) hd hq (by omega) (tgtN_pos n) (fun op len ho=>by rcases hc with rfl|rfl <;> cases ho)
  cases p.rf (wdAt s i) with
  | none=>exact hr
  | some a =>
   simp only[]
   rw[if_neg hn]
   exact hr
theorem comN_cons (x y:List UInt8) (l:List (List UInt8)):comN (x::y::l)=x++44::comN (y::l):=by simp[comN]
theorem args_of (hp:PB p) (d:Nat):∀ {ks:List Nd} {acc:List Nd} {f j:Nat} {post:List UInt8},ks≠[]→(∀ x ∈ ks,frmN x True∧(kN x≠6→RdOk p s x))→s.drop j=comN (wrL ks)++41::post→ks.length≤f→
 Gd (mxL (depL ks)≤d) (argsF p s (Lo s (oneB p s d) 4 1) f acc j) (.ok (acc++ks) (j+(comN (wrL ks)).length+1))
 | [],_,_,_,_,h,_,_,_=>absurd rfl h
 | _::_,_,0,_,_,_,_,_,h=>by simp at h
 | [x],acc,f+1,j,post,_,hk,hd,_=>by
  have e:comN (wrL [x])=wrN x:=by simp[comN,wrL]
  rw[e] at hd ⊢
  obtain ⟨hf,hr⟩:=hk x (by simp)
  have hd1:=drop_app hd
  unfold argsF
  refine (arg_of (d:=d) hp hf hr hd (.inl rfl)).bind (E:=True) (Gd.of ?_) (fun hh=>⟨by simp only[depL,mxL] at hh;omega,trivial⟩)
  rw[skp_of hd1 (by simp),get_at hd1,if_neg (by simp),if_pos (by simp)]
 | x::y::r,acc,f+1,j,post,_,hk,hd,hl=>by
  have e:comN (wrL (x::y::r))=wrN x++44::comN (wrL (y::r)):=comN_cons _ _ _
  rw[e] at hd ⊢
  rw[List.append_assoc] at hd
  obtain ⟨hf,hr⟩:=hk x (by simp)
  have hd1:=drop_app hd
  have hd2:=drop_one hd1
  unfold argsF
  refine (arg_of (d:=d) hp hf hr hd (.inr rfl)).bind (E:=mxL (depL (y::r))≤d) ?_ (fun hh=>?_)
  ·rw[skp_of hd1 (by simp),get_at hd1,if_pos (by simp)]
   have:=args_of hp d (acc:=acc++[x]) (f:=f) (by simp) (fun z hz=>hk z (by simp only[List.mem_cons] at hz ⊢;exact .inr hz)) hd2 (by simpa using hl)
   rw[List.append_assoc] at this
   have e2:j+(wrN x).length+1+(comN (wrL (y::r))).length+1=j+(wrN x++44::comN (wrL (y::r))).length+1:=by simp;omega
   rw[e2] at this
   exact this
  ·simp only[depL,mxL] at hh ⊢
   omega
theorem argsN_len:∀ {ks:List Nd},(∀ x ∈ ks,wrN x≠[])→ks.length≤(comN (wrL ks)).length
 | [],_=>Nat.zero_le _
 | [x],h=>by
  have e:comN (wrL [x])=wrN x:=by simp[comN,wrL]
  rw[e]
  exact List.length_pos_iff.2 (h x (by simp))
 | x::y::r,h=>by
  have e:comN (wrL (x::y::r))=wrN x++44::comN (wrL (y::r)):=comN_cons _ _ _
  have:=argsN_len (ks:=y::r) (fun z hz=>h z (by simp only[List.mem_cons] at hz ⊢;exact .inr hz))
  rw[e]
  simp at this ⊢
  omega
theorem rdOk (hp:PB p) (n:Nd):∀ {box:Prop},frmN n box→kN n≠6→okN n→RdOk p s n:=by
 match n with
 | .mk k m t a b ks =>
  intro box hf h6 ho
  have hne:=wr_ne hp hf
  have leaf:∀ w:List UInt8,wrN (.mk k m t a b ks)=w→(w≠[]∧∀ c ∈ w,wordlyP c)→p.pl w=some (.mk k m t a b ks)→RdOk p s (.mk k m t a b ks):=fun w e hw hpl =>
   .of_one hne fun d i post hd hq=>by
    rw[e] at hd ⊢
    exact Gd.of (oneB_word hd hw.1 hw.2 hq hpl d)
  by_cases h1:k=1
  ·subst h1
   rw[frm_1] at hf
   obtain ⟨h0,rfl,⟨ha,hb⟩,hm⟩:=hf
   obtain rfl:=List.eq_nil_of_length_eq_zero h0
   obtain rfl:=noR_z ha
   obtain rfl:=noR_z hb
   exact leaf _ rfl (hp.numW m hm) (hp.num m hm ho.1)
  by_cases h2:k=2
  ·subst h2
   rw[frm_2] at hf
   obtain ⟨h0,⟨ha,hb⟩,rfl⟩:=hf
   obtain rfl:=List.eq_nil_of_length_eq_zero h0
   obtain rfl:=noR_z ha
   obtain rfl:=noR_z hb
   refine .of_one hne fun d i post hd hq=>Gd.of ?_
   obtain ⟨full,ng,tw,e⟩:=oneB_neg (s:=s) p d
   change s.drop i=(34::(dqN t++[34]))++post at hd
   have hd':s.drop i=34::(dqN t++34::post):=by rw[hd];simp
   rw[e,negF_prim hd' (by decide) (by decide)]
   unfold primF
   rw[get_at hd']
   show (match txtF (s.drop (i+1)) with
    | some (b,l)=>Rs.ok (Nd.mk 2 0 b z0 z0 []) (i+1+l)
    | none=>.no i 2)=_
   rw[drop_one hd',txtF_dq t post (fun hc=>(hq.ne hc).2.2.1 rfl)]
   show Rs.ok _ _=Rs.ok _ (i+(34::(dqN t++[34])).length)
   congr 1
   simp
   omega
  by_cases h3:k=3
  ·subst h3
   rw[frm_3] at hf
   obtain ⟨h0,rfl,⟨ha,hb⟩,hm⟩:=hf
   obtain rfl:=List.eq_nil_of_length_eq_zero h0
   obtain rfl:=noR_z ha
   obtain rfl:=noR_z hb
   rcases hm with rfl|rfl
   ·exact leaf tF rfl (by decide) hp.fal
   ·exact leaf tT rfl (by decide) hp.tru
  by_cases h4:k=4
  ·subst h4
   rw[frm_4] at hf
   obtain ⟨h0,rfl,⟨ha,hb⟩,hm1,hm2⟩:=hf
   obtain rfl:=List.eq_nil_of_length_eq_zero h0
   obtain rfl:=noR_z ha
   obtain rfl:=noR_z hb
   refine .of_one hne fun d i post hd hq=>Gd.of ?_
   obtain ⟨full,ng,tw,e⟩:=oneB_neg (s:=s) p d
   change s.drop i=tx.getD m.toNat []++post at hd
   have hlit:=hp.lit m post hm1 hm2
   obtain ⟨r,hr⟩:=tx_hd hm1 hm2
   have hd':s.drop i=35::(r++post):=by rw[hd,hr];rfl
   rw[e,negF_prim hd' (by decide) (by decide)]
   unfold primF
   rw[get_at hd']
   show (match p.lit (s.drop i) with
    | some (n,l)=>Rs.ok (Nd.mk 4 n [] z0 z0 []) (i+l)
    | none=>.no i 2)=_
   rw[hd,hlit]
   rfl
  by_cases h5:k=5
  ·subst h5
   rw[frm_5] at hf
   obtain ⟨h0,rfl,rfl,hb,ha⟩:=hf
   obtain rfl:=List.eq_nil_of_length_eq_zero h0
   obtain rfl:=noR_z hb
   exact leaf _ rfl (hp.refW a ha) (hp.ref a ha).1
  by_cases h7:k=7
  ·subst h7
   rw[frm_7] at hf
   obtain ⟨h0,rfl,⟨ha,hb⟩,rfl,hk⟩:=hf
   obtain rfl:=noR_z ha
   obtain rfl:=noR_z hb
   match ks,h0,ho,hk with
   | [x],_,ho,hk =>
    have hx:=hk.1
    have h6x:kN x≠6:=fun h=>by
     obtain ⟨k',m',t',a',b',ks'⟩:=x
     change k'=6 at h
     subst h
     rw[frm_6] at hx
     exact hx.1
    have hr:=rdOk hp x hx h6x ho.2.2.1
    refine .of_one hne fun d i post hd hq=>?_
    change s.drop i=(45::brN (wrN x) (tgtN x<5))++post at hd
    have hd':s.drop i=45::(brN (wrN x) (tgtN x<5)++post):=hd
    have hsk:=skp_of hd' (by simp)
    show Gd (brD x 5 (depN x)+1≤d) _ _
    cases d with
    | zero =>
     show Gd _ (negF p s true _ _ i) _
     unfold negF
     rw[hsk,get_at hd',List.head?_cons,if_pos rfl]
     exact Gd.fail (by omega)
    | succ d =>
     show Gd _ (negF p s false (oneB p s d) _ i) _
     unfold negF
     rw[hsk,get_at hd',List.head?_cons,if_pos rfl,if_neg (by simp)]
     refine (br_one (d:=d) hp hx hr (drop_one hd') hq).bind (E:=True) (Gd.of ?_) (fun hh=>⟨by omega,trivial⟩)
     show Rs.ok _ _=Rs.ok _ (i+(45::brN (wrN x) (tgtN x<5)).length)
     congr 1
     simp
     omega
  by_cases h8:k=8
  ·subst h8
   rw[frm_8] at hf
   obtain ⟨h0,rfl,⟨ha,hb⟩,hm1,hm2,hk⟩:=hf
   obtain rfl:=noR_z ha
   obtain rfl:=noR_z hb
   match ks,h0,ho,hk with
   | [x,y],_,ho,hk =>
    have h6x:∀ x:Nd,frmN x False→kN x≠6:=fun x hx h=>by
     obtain ⟨k',m',t',a',b',ks'⟩:=x
     change k'=6 at h
     subst h
     rw[frm_6] at hx
     exact hx.1
    exact two_of hp hm1 hm2 hk.1 hk.2.1 (rdOk hp x hk.1 (h6x x hk.1) ho.2.2.1) (rdOk hp y hk.2.1 (h6x y hk.2.1) ho.2.2.2.1)
  by_cases h9:k=9
  ·subst h9
   rw[frm_9] at hf
   obtain ⟨hcl,⟨ha,hb⟩,rfl,hk⟩:=hf
   obtain rfl:=noR_z ha
   obtain rfl:=noR_z hb
   have hkid:∀ x ∈ ks,frmN x True∧(kN x≠6→RdOk p s x):=fun x hx=>by
    obtain ⟨y,hy,rfl⟩:=List.getElem_of_mem hx
    have hfx:=frmL_iff.1 hk y hy
    exact ⟨hfx,fun h=>rdOk hp _ hfx h (okL_get ho.2.2 hy)⟩
   obtain ⟨hw0,hw⟩:=cl_word hcl
   refine .of_one hne fun d i post hd hq=>?_
   change s.drop i=(t++40::(comN (wrL ks)++[41]))++post at hd
   have hd':s.drop i=t++40::(comN (wrL ks)++41::post):=by rw[hd];simp
   have hd1:=drop_app hd'
   have hd2:=drop_one hd1
   obtain ⟨e1,e2⟩:=wdAt_of hd' hw (fun c hc=>by cases hc;decide)
   have hprim:∀ (full:Bool) (tw:Nat→Rs Nd),primF p s full tw i=if full=true then .no i 4 else callF p s tw t (i+t.length):=fun full tw=>by
    unfold primF
    cases t with
    | nil=>exact absurd rfl hw0
    | cons c r =>
     have hc:=wordly_ne (hw c (by simp))
     rw[get_at hd']
     show (if c=40 then _ else _)=_
     rw[if_neg hc.2.1,if_neg hc.2.2.1,if_neg hc.2.2.2.1,if_pos (hw c (by simp))]
     unfold wordF
     rw[e1,e2,get_at hd1,if_pos ⟨rfl,by rw[hp.cl];exact hcl⟩]
   have hneg:∀ (full:Bool) (ng tw:Nat→Rs Nd),negF p s full ng tw i=primF p s full tw i:=fun full ng tw=>by
    cases t with
    | nil=>exact absurd rfl hw0
    | cons c r =>
     have hc:=wordly_ne (hw c (by simp))
     exact negF_prim hd' hc.2.2.2.2.1 hc.1
   show Gd (mxL (depL ks)+1≤d) _ _
   cases d with
   | zero =>
    show Gd _ (negF p s true _ _ i) _
    rw[hneg,hprim,if_pos rfl]
    exact Gd.fail (by omega)
   | succ d =>
    show Gd _ (negF p s false _ (Lo s (oneB p s d) 4 1) i) _
    rw[hneg,hprim,if_neg (by simp)]
    unfold callF
    by_cases hk0:ks=[]
    ·subst hk0
     have hd3:s.drop (i+t.length+1)=41::post:=hd2
     rw[skp_of hd3 (by simp),get_at hd3,List.head?_cons,if_pos rfl]
     refine Gd.of ?_
     show Rs.ok _ _=Rs.ok _ (i+(t++40::([]++[41])).length)
     congr 1
     simp
     omega
    ·have hx0:∃ c r,comN (wrL ks)++41::post=c::r∧hdP c:=by
      cases ks with
      | nil=>exact absurd rfl hk0
      | cons x r =>
       obtain ⟨c,l,e,hc⟩:=wr_hd hp x (hkid x (by simp)).1
       exact ⟨c,(l++((wrL r).map fun t=>44::t).flatten)++41::post,by show (wrN x++_)++_=_;rw[e];rfl,hc⟩
     obtain ⟨c,r,e,hc⟩:=hx0
     have hd3:=hd2
     rw[e] at hd3
     rw[skp_of hd3 (by simpa using hc.ne.1),get_at hd3,if_neg (by simpa using hc.ne.2.2.2)]
     have hlen:ks.length≤s.length+1:=by
      have h1:=argsN_len (ks:=ks) (fun x hx=>wr_ne hp (hkid x hx).1)
      have h2:=congrArg List.length hd2
      rw[List.length_drop,List.length_append] at h2
      simp at h2
      omega
     refine (args_of (d:=d) hp hk0 hkid hd2 hlen).bind (E:=True) (Gd.of ?_) (fun hh=>⟨by omega,trivial⟩)
     show Rs.ok _ _=Rs.ok _ (i+(t++40::(comN (wrL ks)++[41])).length)
     rw[List.nil_append]
     congr 1
     simp
     omega
  exfalso
  unfold frmN at hf
  change k≠6 at h6
  omega
termination_by SizeOf.sizeOf n
decreasing_by
 all_goals simp only[Nd.mk.sizeOf_spec]
 all_goals first
  | (have:=List.sizeOf_lt_of_mem (List.getElem_mem hy);omega)
  | (simp;omega)
theorem frm_no6 {n:Nd} (h:frmN n False):kN n≠6:=fun h6=>by
 obtain ⟨k',m',t',a',b',ks'⟩:=n
 change k'=6 at h6
 subst h6
 rw[frm_6] at h
 exact h.1
theorem parse_wr (hp:PB p) {n:Nd} (hf:frmN n False) (ho:okN n):Gd (depN n≤30) (allF (s:=61::wrN n) (Tw (61::wrN n) (oneA p (61::wrN n) 30) 4)) (.ok n 0):=by
 rw[all_eq 30 (by simp)]
 unfold allF
 have hd:(61::wrN n).drop 1=wrN n++[]:=by simp
 refine (rd_of (d:=30) (least:=1) (post:=[]) hp hf (rdOk hp n hf (frm_no6 hf) ho) hd (.inl rfl) (by omega) (tgtN_pos n) (fun op len ho=>by cases ho)).bind (E:=True) (Gd.of ?_) (fun hh=>⟨hh,trivial⟩)
 have h2:=drop_app hd
 rw[skp_of h2 (by simp),if_pos (by simp;omega)]
end
end
section
structure PC (p:Par):Prop where
 pl:∀ (w:List UInt8) (n:Nd),w.length≤200→(∀ c ∈ w,wordlyP c)→p.pl w=some n→frmN n False∧okN n∧cntN n=1∧tgtN n=5∧(wrN n).length≤w.length∧depN n=0
 rf:∀ (w:List UInt8) (a:Rf),w.length≤200→p.rf w=some a→okP a.c a.r∧(nmR a).length≤w.length∧1≤w.length
 lit:∀ (t:List UInt8) (m:Int) (l:Nat),t.head?=some 35→p.lit t=some (m,l)→1≤m∧m≤6∧(tx.getD m.toNat []).length≤l
 cl:p.cl=clZ
def Pd (n:Nd) (g:Int) (c d:Nat):Prop:=(brN (wrN n) (tgtN n<g)).length≤c∧brD n g (depN n)≤d
theorem Pd.mono {n:Nd} {g g':Int} {c c' d d':Nat} (h:Pd n g' c d) (hg:g≤g') (hc:c≤c') (hd:d≤d'):Pd n g c' d':=by
 unfold Pd brN brD at *
 by_cases h1:tgtN n<g
 ·rw[if_pos h1,if_pos h1]
  rw[if_pos (by omega),if_pos (by omega)] at h
  omega
 ·rw[if_neg h1,if_neg h1]
  split at h
  ·simp at h;omega
  ·omega
theorem Pd.bare {n:Nd} {g:Int} {c d:Nat} (hg:g≤tgtN n):Pd n g c d↔(wrN n).length≤c∧depN n≤d:=by
 unfold Pd brN brD
 rw[if_neg (by omega),if_neg (by omega)]
theorem Pd.par {n:Nd} {c d:Nat} (h:(wrN n).length≤c∧depN n≤d) (g:Int):Pd n g (c+2) (d+1):=by
 unfold Pd brN brD
 split
 ·simp;omega
 ·omega
def Gn (n:Nd) (c:Nat):Prop:=frmN n False∧okN n∧cntN n≤c
section
variable {p:Par} {s:List UInt8}
def Rw (s:List UInt8) (f:Nat→Rs Nd) (g:Int) (d:Nat):Prop:=∀ i n j,i≤s.length→f i=.ok n j→Gn n (j - i)∧Pd n g (j - i) d
theorem opT_sg {l:List UInt8} {op n:Nat} (h:opT l=some (op,n)):1≤op∧op≤11∧(sgnN (op:Int)).length=n:=by
 unfold opT at h
 split at h <;> first|(simp only[reduceCtorEq] at h;done)|(simp only[Option.some.injEq,Prod.mk.injEq] at h;obtain ⟨rfl,rfl⟩:=h;decide)
theorem frm_more {n:Nd} {box:Prop} (h:frmN n False):frmN n box:=by
 obtain ⟨k,m,t,a,b,ks⟩:=n
 unfold frmN at h ⊢
 rcases h with h|h|h|h|h|h|h
 ·exact .inl h
 ·exact .inr (.inl h)
 ·exact .inr (.inr (.inl h))
 ·exact .inr (.inr (.inr (.inl h)))
 ·exact .inr (.inr (.inr (.inr (.inl h))))
 ·exact h.2.1.elim
 ·exact .inr (.inr (.inr (.inr (.inr (.inr h)))))
theorem noR_z0:noR z0:=by simp[noR,z0]
theorem frm_rw {sub:Nat→Nat→Rs Nd} {least d i0:Nat} (hf:∀ op,Fwd s (sub op)) (hs:∀ op,least≤tgt op→Rw s (sub op) (tgt op+1) d)
 (hstop:∀ op i m k,least≤tgt op→i≤s.length→sub op i=.ok m k→∀ op' len',opA s k=some (op',len')→tgt op'≤tgt op) :
 ∀ {F:Nat} {n:Nd} {j:Nat} {m:Nd} {k:Nat},i0≤j→j≤s.length→Gn n (j - i0)→Pd n least (j - i0) d→(∀ op len,opA s j=some (op,len)→least≤tgt op→Pd n (tgt op) (j - i0) d)→
  frm s sub (selB least) F n j=.ok m k→Gn m (k - i0)∧Pd m least (k - i0) d
 | 0,n,j,m,k,_,_,hg,hp,_,h=>by cases h;exact ⟨hg,hp⟩
 | F+1,n,j,m,k,hij,hj,hg,hp,ho,h=>by
  unfold frm at h
  split at h
  ·rename_i op len hop
   have hl:=opA_len hop
   have hk:=le_skp s j
   split at h
   ·rename_i hsel
    have hsel':least≤tgt op:=by simpa using hsel
    cases hx:sub op (skp s j+len) with
    | no a e=>rw[hx] at h;cases h
    | ok q e =>
     rw[hx] at h
     simp only[Rs.bind_ok] at h
     have h1:=hf op _ _ _ hl.2 hx
     obtain ⟨⟨f1,o1,c1⟩,p1⟩:=hs op hsel' _ _ _ hl.2 hx
     obtain ⟨f0,o0,c0⟩:=hg
     have p0:=ho op len hop hsel'
     obtain ⟨s1,s2,s3⟩:=opT_sg hop
     have htg:=tgt_tgtN (m:=(op:Int)) (by omega) (by omega) [] z0 z0 [n,q]
     rw[Int.toNat_natCast] at htg
     have hw:wrN (twoN op n q)=brN (wrN n) (tgtN n<(tgt op:Nat))++(sgnN (op:Int)++brN (wrN q) (tgtN q≤(tgt op:Nat))):=by
      show wr8 op (tgtN (.mk 8 op [] z0 z0 [n,q])) [n,q] [wrN n,wrN q]=_
      rw[htg];rfl
     have hdp:depN (twoN op n q)=max (brD n (tgt op:Nat) (depN n)) (brD q ((tgt op:Nat)+1) (depN q)):=by
      show dp8 (tgtN (.mk 8 op [] z0 z0 [n,q])) [n,q] [depN n,depN q]=_
      rw[htg];rfl
     have hlq:brN (wrN q) (tgtN q≤(tgt op:Nat))=brN (wrN q) (tgtN q<((tgt op:Nat):Int)+1):=by
      unfold brN
      by_cases hh:tgtN q≤((tgt op:Nat):Int)
      ·rw[if_pos hh,if_pos (by omega)]
      ·rw[if_neg hh,if_neg (by omega)]
     have hgn:Gn (twoN op n q) (e - i0):=by
      refine ⟨?_,?_,?_⟩
      ·show frmN (.mk 8 op [] z0 z0 [n,q]) False
       rw[frm_8]
       exact ⟨rfl,rfl,⟨noR_z0,noR_z0⟩,by omega,by omega,f0,f1,trivial⟩
      ·exact ⟨⟨by omega,by omega⟩,by decide,o0,o1,trivial⟩
      ·show cntN n+(cntN q+0)+1≤_
       omega
     have hpd:∀ g:Int,g≤(tgt op:Nat)→Pd (twoN op n q) g (e - i0) d:=fun g hgg=>by
      rw[Pd.bare (by show g≤tgtN (.mk 8 op [] z0 z0 [n,q]);rw[htg];exact hgg),hw,hdp]
      obtain ⟨p2,p3⟩:=p0
      obtain ⟨p4,p5⟩:=p1
      rw[hlq,List.length_append,List.length_append,s3]
      omega
     exact frm_rw hf hs hstop (by omega) h1.2 hgn (hpd _ (by omega)) (fun op' len' h2 h3=>hpd _ (by have:=hstop op _ _ _ hsel' hl.2 hx op' len' h2;omega)) h
   ·cases h;exact ⟨hg,hp⟩
  ·cases h;exact ⟨hg,hp⟩
theorem Lo_rw {one:Nat→Rs Nd} {d:Nat} (h1:Fwd s one) (hr:Rw s one 5 d):∀ (k least:Nat),least≤5→5≤k+least→Rw s (Lo s one k least) least d
 | 0,least,h5,hk=>fun i n j hi h=>by
  obtain ⟨a,b⟩:=hr i n j hi h
  exact ⟨a,b.mono (by omega) (Nat.le_refl _) (Nat.le_refl _)⟩
 | k+1,least,h5,hk=>fun i n j hi h=>by
  unfold Lo at h
  cases hx:one i with
  | no a e=>rw[hx] at h;cases h
  | ok m e =>
   rw[hx] at h
   simp only[Rs.bind_ok] at h
   have h2:=h1 i _ _ hi hx
   obtain ⟨a,b⟩:=hr i m e hi hx
   refine frm_rw (fun op=>Lo_fwd h1 k _) (fun op ho=>?_) (fun op i m k' ho hi hm op' len' h'=>?_) (by omega) h2.2 a (b.mono (by omega) (Nat.le_refl _) (Nat.le_refl _)) (fun op len _ _=>b.mono (by have:=tgt_le op;omega) (Nat.le_refl _) (Nat.le_refl _)) h
   ·have h4:=tgt_le op
    exact Lo_rw h1 hr k (tgt op+1) (by omega) (by omega)
   ·have:=Lo_stop h1 (by omega) hi hm op' len' h'
    have h5:¬ (tgt op+1≤tgt op'):=by simpa using this
    omega
theorem wdAt_len (i:Nat):i+(wdAt s i).length=wdE s i:=by
 unfold wdAt wdE
 rw[List.length_take,Nat.min_eq_left (wdl_le _)]
theorem wdAt_le (i:Nat):(wdAt s i).length≤s.length:=by
 unfold wdAt
 rw[List.length_take,List.length_drop]
 omega
theorem wdl_all:∀ l:List UInt8,∀ c ∈ l.take (wdl l),wordlyP c
 | [],c,h=>by simp at h
 | d::r,c,h=>by
  unfold wdl at h
  split at h
  ·rename_i hd
   rw[List.take_succ_cons,List.mem_cons] at h
   rcases h with rfl|h
   ·exact hd
   ·exact wdl_all r c h
  ·simp at h
theorem txtF_w:∀ (t b:List UInt8) (l:Nat),txtF t=some (b,l)→(dqN b).length+1=l∧b.length≤l
 | [],b,l,h=>by cases h
 | [c],b,l,h=>by
  unfold txtF at h
  split at h
  ·cases h;simp[dqN]
  ·cases h
 | c::d::r,b,l,h=>by
  unfold txtF at h
  split at h
  ·split at h
   ·obtain ⟨q,hq,h2⟩:=Option.map_eq_some_iff.1 h
    have:=txtF_w r q.1 q.2 hq
    cases h2
    simp[dqN];omega
   ·cases h;simp[dqN]
  ·rename_i hc
   obtain ⟨q,hq,h2⟩:=Option.map_eq_some_iff.1 h
   have:=txtF_w (d::r) q.1 q.2 hq
   cases h2
   simp[dqN,hc];omega
theorem argF_rw (hc:PC p) {tw:Nat→Rs Nd} {d:Nat} (h200:s.length≤200) (_hw:Fwd s tw) (ht:Rw s tw 1 d) {i j:Nat} {n:Nd} (hi:i≤s.length) (h:argF p s tw i=.ok n j):frmN n True∧okN n∧cntN n≤j - i∧(wrN n).length≤j - i∧depN n≤d:=by
 have h1:=skp_le hi
 have h2:=le_skp s i
 have key:tw (skp s i)=.ok n j→frmN n True∧okN n∧cntN n≤j - i∧(wrN n).length≤j - i∧depN n≤d:=fun hx=>by
  obtain ⟨⟨a,b,c⟩,e⟩:=ht _ _ _ h1 hx
  rw[Pd.bare (tgtN_pos n)] at e
  exact ⟨frm_more a,b,by omega,by omega,e.2⟩
 unfold argF at h
 split at h
 ·exact key h
 ·rename_i a ha
  split at h
  ·rename_i hk
   have hk':=lt_of_get hk
   split at h
   ·rename_i b hb
    cases h
    have ea:=hc.rf _ _ (Nat.le_trans (wdAt_le _) h200) ha
    have eb:=hc.rf _ _ (Nat.le_trans (wdAt_le _) h200) hb
    have l1:=wdAt_len (s:=s) (skp s i)
    have l2:=wdAt_len (s:=s) (wdE s (skp s i)+1)
    refine ⟨by rw[frm_6];exact ⟨trivial,rfl,rfl,rfl,ea.1,eb.1⟩,⟨by decide,by decide,trivial⟩,?_,?_,Nat.zero_le _⟩
    ·show 0+1≤_;omega
    ·show (nmR a++58::nmR b).length≤_
     simp only[List.length_append,List.length_cons]
     omega
   ·cases h
  ·exact key h
theorem argsF_rw (hc:PC p) {tw:Nat→Rs Nd} {d:Nat} (h200:s.length≤200) (hw:Fwd s tw) (ht:Rw s tw 1 d):∀ {f:Nat} {acc:List Nd} {i:Nat} {ls:List Nd} {j:Nat},i≤s.length→s.length - i<f→argsF p s tw f acc i=.ok ls j→
 ∃ ks,ls=acc++ks∧frmL True ks∧okL ks∧cntL ks≤j - i∧(comN (wrL ks)).length+1≤j - i∧mxL (depL ks)≤d∧j≤s.length
 | 0,acc,i,ls,j,hi,hf,h=>by omega
 | f+1,acc,i,ls,j,hi,hf,h=>by
  unfold argsF at h
  cases hx:argF p s tw i with
  | no a e=>rw[hx] at h;cases h
  | ok a k =>
   rw[hx] at h
   have h1:=argF_fwd hw hi hx
   obtain ⟨e1,e2,e3,e4,e5⟩:=argF_rw hc h200 hw ht hi hx
   simp only[Rs.bind_ok] at h
   have hk:=le_skp s k
   split at h
   ·rename_i hq
    have h2:=lt_of_get hq
    obtain ⟨ks,rfl,g1,g2,g3,g4,g5,g6⟩:=argsF_rw hc h200 hw ht (show skp s k+1≤s.length from h2) (by omega) h
    have h3:=argsF_fwd hw (show skp s k+1≤s.length from h2) h
    refine ⟨a::ks,by simp,⟨e1,g1⟩,⟨e2,g2⟩,?_,?_,?_,g6⟩
    ·show cntN a+cntL ks≤_;omega
    ·cases ks with
     | nil=>simp only[wrL,comN,List.map_nil,List.flatten_nil,List.append_nil];omega
     | cons y r =>
      have e:comN (wrL (a::y::r))=wrN a++44::comN (wrL (y::r)):=comN_cons _ _ _
      rw[e,List.length_append,List.length_cons]
      omega
    ·show max (depN a) (mxL (depL ks))≤d;omega
   ·split at h
    ·rename_i hq
     have h2:=lt_of_get hq
     cases h
     refine ⟨[a],rfl,⟨e1,trivial⟩,⟨e2,trivial⟩,?_,?_,?_,h2⟩
     ·show cntN a+0≤_;omega
     ·simp only[wrL,comN,List.map_nil,List.flatten_nil,List.append_nil];omega
     ·show max (depN a) 0≤d;omega
    ·cases h
end
end
section
section
variable {p:Par} {s:List UInt8}
theorem prim_rw (hc:PC p) {full:Bool} {tw:Nat→Rs Nd} {d D:Nat} (h200:s.length≤200) (hw:Fwd s tw) (hD:full=false→Rw s tw 1 d∧d+1≤D) {i j:Nat} {n:Nd} (h:primF p s full tw i=.ok n j):Gn n (j - i)∧Pd n 5 (j - i) D:=by
 have hpos:=primF_fwd hw h
 unfold primF at h
 split at h
 ·cases h
 ·rename_i c hcc
  have hl:=lt_of_get hcc
  split at h
  ·split at h
   ·cases h
   ·rename_i hfull
    obtain ⟨ht,hd⟩:=hD (by simpa using hfull)
    unfold parF at h
    cases hx:tw (i+1) with
    | no a e=>rw[hx] at h;cases h
    | ok m k =>
     rw[hx] at h
     simp only[Rs.bind_ok] at h
     have h1:=hw _ _ _ (show i+1≤s.length from hl) hx
     obtain ⟨⟨a,b,cc⟩,e⟩:=ht _ _ _ (show i+1≤s.length from hl) hx
     rw[Pd.bare (tgtN_pos m)] at e
     split at h
     ·cases h
      have:=le_skp s k
      exact ⟨⟨a,b,by omega⟩,(Pd.par e 5).mono (Int.le_refl _) (by omega) (by omega)⟩
     ·cases h
  ·split at h
   ·split at h
    ·rename_i b l hq
     have h1:=txtF_w _ _ _ hq
     have h2:=txtF_len _ _ _ hq
     rw[List.length_drop] at h2
     cases h
     refine ⟨⟨?_,⟨by decide,by omega,trivial⟩,?_⟩,(Pd.bare (Int.le_refl _)).2 ⟨?_,Nat.zero_le _⟩⟩
     ·rw[frm_2];exact ⟨rfl,⟨noR_z0,noR_z0⟩,rfl⟩
     ·show 0+1≤_;omega
     ·show (34::(dqN b++[34])).length≤_
      simp only[List.length_cons,List.length_append,List.length_nil]
      omega
    ·cases h
   ·split at h
    ·rename_i h35
     split at h
     ·rename_i m l hq
      obtain ⟨h1,h2,h3⟩:=hc.lit _ _ _ (by rw[List.head?_drop,hcc,h35]) hq
      have h4:=p.hlit _ _ _ hq
      cases h
      refine ⟨⟨?_,⟨⟨by omega,by omega⟩,by decide,trivial⟩,?_⟩,(Pd.bare (Int.le_refl _)).2 ⟨?_,Nat.zero_le _⟩⟩
      ·rw[frm_4];exact ⟨rfl,rfl,⟨noR_z0,noR_z0⟩,h1,h2⟩
      ·show 0+1≤_;omega
      ·show (tx.getD m.toNat []).length≤_;omega
     ·cases h
    ·split at h
     ·unfold wordF at h
      have lw:=wdAt_len (s:=s) i
      split at h
      ·rename_i hq
       split at h
       ·cases h
       ·rename_i hfull
        obtain ⟨ht,hd⟩:=hD (by simpa using hfull)
        have hcl:=hq.2
        rw[hc.cl] at hcl
        have hk:=lt_of_get hq.1
        have hlt:(wdAt s i).length≤1048576:=Nat.le_trans (wdAt_le (s:=s) i) (by omega)
        have mk:∀ ks:List Nd,frmL True ks→okL ks→cntL ks+1≤j - i→(wdAt s i).length+((comN (wrL ks)).length+2)≤j - i→mxL (depL ks)+1≤D→Gn (.mk 9 0 (wdAt s i) z0 z0 ks) (j - i)∧Pd (.mk 9 0 (wdAt s i) z0 z0 ks) 5 (j - i) D:=fun ks g1 g2 g3 g4 g5=>by
         refine ⟨⟨?_,⟨by decide,hlt,g2⟩,g3⟩,(Pd.bare (Int.le_refl _)).2 ⟨?_,g5⟩⟩
         ·rw[frm_9];exact ⟨hcl,⟨noR_z0,noR_z0⟩,rfl,g1⟩
         ·show ((wdAt s i)++40::(comN (wrL ks)++[41])).length≤_
          simp only[List.length_cons,List.length_append,List.length_nil]
          omega
        unfold callF at h
        split at h
        ·cases h
         have:=le_skp s (wdE s i+1)
         exact mk [] trivial trivial (by show 0+1≤_;omega) (by show _+(0+2)≤_;omega) (by show 0+1≤D;omega)
        ·cases hx:argsF p s tw (s.length+1) [] (wdE s i+1) with
         | no a e=>rw[hx] at h;cases h
         | ok ls k =>
          rw[hx] at h
          cases h
          obtain ⟨ks,e0,g1,g2,g3,g4,g5,g6⟩:=argsF_rw hc h200 hw ht (show wdE s i+1≤s.length from hk) (by omega) hx
          rw[List.nil_append] at e0
          subst e0
          have:=argsF_fwd hw (show wdE s i+1≤s.length from hk) hx
          exact mk ls g1 g2 (by omega) (by omega) (by omega)
      ·split at h
       ·rename_i m hm
        cases h
        obtain ⟨a,b,e,f,g,q⟩:=hc.pl _ _ (Nat.le_trans (wdAt_le (s:=s) i) h200) (wdl_all _) hm
        exact ⟨⟨a,b,by omega⟩,(Pd.bare (by omega)).2 ⟨by omega,by omega⟩⟩
       ·cases h
     ·cases h
theorem neg_rw (hc:PC p) {full:Bool} {ng tw:Nat→Rs Nd} {d D:Nat} (h200:s.length≤200) (hn:Fwd s ng) (hw:Fwd s tw) (hD:full=false→(Rw s ng 5 d∧Rw s tw 1 d)∧d+1≤D):Rw s (negF p s full ng tw) 5 D:=by
 intro i n j hi h
 have h2:=le_skp s i
 unfold negF at h
 split at h
 ·rename_i hq
  have hl:=lt_of_get hq
  split at h
  ·cases h
  ·rename_i hfull
   obtain ⟨⟨hr,-⟩,hd⟩:=hD (by simpa using hfull)
   cases hx:ng (skp s i+1) with
   | no a e=>rw[hx] at h;cases h
   | ok m k =>
    rw[hx] at h
    cases h
    have h1:=hn _ _ _ (show skp s i+1≤s.length from hl) hx
    obtain ⟨⟨a,b,cc⟩,e1,e2⟩:=hr _ _ _ (show skp s i+1≤s.length from hl) hx
    refine ⟨⟨?_,⟨by decide,by decide,b,trivial⟩,?_⟩,(Pd.bare (Int.le_refl _)).2 ⟨?_,?_⟩⟩
    ·show frmN (.mk 7 0 [] z0 z0 [m]) False
     rw[frm_7];exact ⟨rfl,rfl,⟨noR_z0,noR_z0⟩,rfl,a,trivial⟩
    ·show (cntN m+0)+1≤_;omega
    ·show (45::brN (wrN m) (tgtN m<5)).length≤_
     rw[List.length_cons];omega
    ·show brD m 5 (depN m)+1≤D;omega
 ·obtain ⟨⟨a,b,cc⟩,e⟩:=prim_rw hc h200 hw (fun hf=>⟨(hD hf).1.2,(hD hf).2⟩) h
  exact ⟨⟨a,b,by omega⟩,e.mono (Int.le_refl _) (by omega) (Nat.le_refl _)⟩
theorem one_rw (hc:PC p) (h200:s.length≤200):∀ d,Rw s (oneB p s d) 5 d
 | 0=>neg_rw (d:=0) hc h200 no_fwd no_fwd (fun h=>by cases h)
 | d+1=>neg_rw (d:=d) hc h200 (oneBF_fwd p d) (Lo_fwd (oneBF_fwd p d) 4 1) (fun _=>⟨⟨one_rw hc h200 d,Lo_rw (oneBF_fwd p d) (one_rw hc h200 d) 4 1 (by omega) (by omega)⟩,Nat.le_refl _⟩)
theorem parse_rw (hc:PC p) (h200:s.length≤200) (h1:1≤s.length) {n:Nd} {i:Nat} (h:allF (s:=s) (Tw s (oneA p s 30) 4)=.ok n i):frmN n False∧okN n∧cntN n≤200∧(61::wrN n).length≤s.length∧depN n≤30:=by
 rw[all_eq 30 h1] at h
 unfold allF at h
 cases hx:Lo s (oneB p s 30) 4 1 1 with
 | no a e=>rw[hx] at h;cases h
 | ok m k =>
  rw[hx] at h
  simp only[Rs.bind_ok] at h
  have h3:=Lo_fwd (oneBF_fwd p 30) 4 1 _ _ _ h1 hx
  obtain ⟨⟨a,b,cc⟩,e⟩:=Lo_rw (oneBF_fwd p 30) (one_rw hc h200 30) 4 1 (by omega) (by omega) 1 m k h1 hx
  replace e:=(Pd.bare (by have:=tgtN_pos m;omega)).1 e
  split at h
  ·cases h
   exact ⟨a,b,by omega,by rw[List.length_cons];omega,e.2⟩
  ·cases h
end
end
end Go.Proofs.YtfcmhmglpcimiaaGreatDoor
