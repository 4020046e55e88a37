/- Proved: a part of what the law is proved with (the reckoner, contracts of functions, plain laws). Conditions: as each says. -/
import Derived.Test.YtdpigpahfiachaaGreatDoorVIm
import Derived.Test.YtdpigpahfiachaaGreatDoorVYMc
import Derived.Test.YtdpigpahfiachaaGreatDoorVYNb
import Derived.Test.YtdpigpahfiachaaGreatDoorVYNd
import Derived.Test.YtdpigpahfiachaaGreatDoorVOd
import Derived.Test.YtdpigpahfiachaaGreatDoorVOh
import Derived.Test.YtdpigpahfiachaaGreatDoorVYQa
import Derived.Test.YtdpigpahfiachaaGreatDoorVYQd
section
namespace Go.Proofs.YtdpigpahfiachaaGreatDoor
open Go Go.EYtdpigpahfiachaaGreatDoor
set_option maxRecDepth 100000
mutual
def bdN:Nd→Nat
 | .mk k m _ _ _ ks=>(if k=4∧m=3 then 1 else 0)+bdL ks
def bdL:List Nd→Nat
 | []=>0
 | x::r=>bdN x+bdL r
end
theorem bdN_bad:bdN badN=1:=rfl
section
variable {ρ ρ':Rf→Rf×Bool} {β β':Rf→Rf→Rf×Rf×Bool}
theorem frmL_any {box:Prop} {k m:Int} {t:List UInt8} {a b:Rf} {ks:List Nd} (h5:k≠5) (h6:k≠6) (hf:frmN (.mk k m t a b ks) box):∃ bx:Prop,frmL bx ks:=by
 by_cases h7:k=7
 ·subst h7;rw[frm_7] at hf;exact ⟨_,hf.2.2.2.2⟩
 by_cases h8:k=8
 ·subst h8;rw[frm_8] at hf;exact ⟨_,hf.2.2.2.2.2⟩
 by_cases h9:k=9
 ·subst h9;rw[frm_9] at hf;exact ⟨_,hf.2.2.2⟩
 refine ⟨False,?_⟩
 have:ks.length=0:=by
  unfold frmN at hf
  omega
 rw[List.eq_nil_of_length_eq_zero this]
 trivial
mutual
theorem ch_back (hr:∀ a:Rf,okP a.c a.r→(ρ a).2=true→ρ' (ρ a).1=(a,true)) (hb:∀ a b:Rf,okP a.c a.r→okP b.c b.r→(β a b).2.2=true→β' (β a b).1 (β a b).2.1=(a,b,true)) :
 ∀ (n:Nd) {box:Prop},frmN n box→bdN n≤bdN (chN ρ β n)∧(bdN (chN ρ β n)=bdN n→chN ρ' β' (chN ρ β n)=n)
 | .mk k m t a b ks,box,hf=>by
  by_cases h5:k=5
  ·subst h5
   rw[frm_5] at hf
   obtain ⟨h0,rfl,rfl,-,ha⟩:=hf
   obtain rfl:=List.eq_nil_of_length_eq_zero h0
   have e0:bdN (.mk 5 0 [] a b [])=0:=rfl
   rw[e0]
   have e1:chN ρ β (.mk 5 0 [] a b [])=if (ρ a).2=true then .mk 5 0 [] (ρ a).1 b [] else badN:=by rw[chN,if_pos rfl];rfl
   rw[e1]
   by_cases hg:(ρ a).2=true
   ·rw[if_pos hg]
    refine ⟨Nat.zero_le _,fun _=>?_⟩
    rw[chN,if_pos rfl,hr a ha hg]
    rfl
   ·rw[if_neg hg]
    exact ⟨Nat.zero_le _,fun h=>by rw[bdN_bad] at h;omega⟩
  ·by_cases h6:k=6
   ·subst h6
    rw[frm_6] at hf
    obtain ⟨-,h0,rfl,rfl,ha,hb'⟩:=hf
    obtain rfl:=List.eq_nil_of_length_eq_zero h0
    have e0:bdN (.mk 6 0 [] a b [])=0:=rfl
    rw[e0]
    have e1:chN ρ β (.mk 6 0 [] a b [])=if (β a b).2.2=true then .mk 6 0 [] (β a b).1 (β a b).2.1 [] else badN:=by rw[chN,if_neg h5,if_pos rfl];rfl
    rw[e1]
    by_cases hg:(β a b).2.2=true
    ·rw[if_pos hg]
     refine ⟨Nat.zero_le _,fun _=>?_⟩
     rw[chN,if_neg h5,if_pos rfl,hb a b ha hb' hg]
     rfl
    ·rw[if_neg hg]
     exact ⟨Nat.zero_le _,fun h=>by rw[bdN_bad] at h;omega⟩
   ·obtain ⟨bx,hk⟩:=frmL_any h5 h6 hf
    obtain ⟨i1,i2⟩:=ch_backL hr hb ks hk
    have e:chN ρ β (.mk k m t a b ks)=.mk k m t a b (chL ρ β ks):=by
     rw[chN,if_neg h5,if_neg h6]
    rw[e]
    refine ⟨Nat.add_le_add_left i1 _,fun h=>?_⟩
    have h':bdL (chL ρ β ks)=bdL ks:=Nat.add_left_cancel (n:=if k=4∧m=3 then 1 else 0) h
    rw[chN,if_neg h5,if_neg h6,i2 h']
theorem ch_backL (hr:∀ a:Rf,okP a.c a.r→(ρ a).2=true→ρ' (ρ a).1=(a,true)) (hb:∀ a b:Rf,okP a.c a.r→okP b.c b.r→(β a b).2.2=true→β' (β a b).1 (β a b).2.1=(a,b,true)) :
 ∀ (ks:List Nd) {box:Prop},frmL box ks→bdL ks≤bdL (chL ρ β ks)∧(bdL (chL ρ β ks)=bdL ks→chL ρ' β' (chL ρ β ks)=ks)
 | [],_,_=>⟨Nat.le_refl _,fun _=>rfl⟩
 | x::r,box,hf=>by
  obtain ⟨i1,i2⟩:=ch_back hr hb x hf.1
  obtain ⟨j1,j2⟩:=ch_backL hr hb r hf.2
  have e1:bdL (x::r)=bdN x+bdL r:=rfl
  have e2:bdL (chL ρ β (x::r))=bdN (chN ρ β x)+bdL (chL ρ β r):=rfl
  rw[e1,e2]
  refine ⟨by omega,fun h=>?_⟩
  show chN ρ' β' (chN ρ β x)::chL ρ' β' (chL ρ β r)=_
  rw[i2 (by omega),j2 (by omega)]
end
mutual
theorem ch_same (hr:∀ a:Rf,okP a.c a.r→ρ a=(a,true)) (hb:∀ a b:Rf,okP a.c a.r→okP b.c b.r→β a b=(a,b,true)):∀ (n:Nd) {box:Prop},frmN n box→chN ρ β n=n
 | .mk k m t a b ks,box,hf=>by
  by_cases h5:k=5
  ·subst h5
   rw[frm_5] at hf
   obtain ⟨h0,rfl,rfl,-,ha⟩:=hf
   obtain rfl:=List.eq_nil_of_length_eq_zero h0
   unfold chN
   rw[if_pos rfl,hr a ha]
   rfl
  ·by_cases h6:k=6
   ·subst h6
    rw[frm_6] at hf
    obtain ⟨-,h0,rfl,rfl,ha,hb'⟩:=hf
    obtain rfl:=List.eq_nil_of_length_eq_zero h0
    unfold chN
    rw[if_neg h5,if_pos rfl,hb a b ha hb']
    rfl
   ·obtain ⟨bx,hk⟩:=frmL_any h5 h6 hf
    rw[chN,if_neg h5,if_neg h6,ch_sameL hr hb ks hk]
theorem ch_sameL (hr:∀ a:Rf,okP a.c a.r→ρ a=(a,true)) (hb:∀ a b:Rf,okP a.c a.r→okP b.c b.r→β a b=(a,b,true)):∀ (ks:List Nd) {box:Prop},frmL box ks→chL ρ β ks=ks
 | [],_,_=>rfl
 | x::r,box,hf=>by
  show chN ρ β x::chL ρ β r=_
  rw[ch_same hr hb x hf.1,ch_sameL hr hb r hf.2]
end
mutual
theorem ch_ok:∀ (n:Nd),okN n→okN (chN ρ β n)
 | .mk k m t a b ks,h=>by
  have hb:okN badN:=⟨by decide,by decide,trivial⟩
  obtain ⟨h1,h2,h3⟩:=h
  have h4:=ch_okL ks h3
  unfold chN
  (repeat' split) <;> first|exact hb|exact ⟨h1,h2,h4⟩
theorem ch_okL:∀ (ks:List Nd),okL ks→okL (chL ρ β ks)
 | [],_=>trivial
 | x::r,h=>⟨ch_ok x h.1,ch_okL r h.2⟩
end
end
theorem shZ_0 {a:Rf} (h:okP a.c a.r):shZ 0 0 a=(a,true):=by
 obtain ⟨c,r,f,g⟩:=a
 unfold shZ
 rw[if_pos]
 ·cases f <;> cases g <;> simp
 ·unfold shiftP
  refine ⟨h,.inr (by decide),.inr (by decide),?_⟩
  cases f <;> cases g <;> simpa using h
theorem bxZ_same {ρ:Rf→Rf×Bool} (hr:∀ a:Rf,okP a.c a.r→ρ a=(a,true)) (a b:Rf) (ha:okP a.c a.r) (hb:okP b.c b.r):bxZ ρ a b=(a,b,true):=by
 unfold bxZ
 rw[hr a ha,hr b hb]
 rfl
theorem bxZ_back {ρ ρ':Rf→Rf×Bool} (hr:∀ a:Rf,okP a.c a.r→(ρ a).2=true→ρ' (ρ a).1=(a,true)) (a b:Rf) (ha:okP a.c a.r) (hb:okP b.c b.r) (h:(bxZ ρ a b).2.2=true):bxZ ρ' (bxZ ρ a b).1 (bxZ ρ a b).2.1=(a,b,true):=by
 unfold bxZ at h ⊢
 simp only[Bool.and_eq_true] at h
 simp only[hr a ha h.1,hr b hb h.2,Bool.and_self]
theorem shZ_back {dc dr:Int} (h1:-99≤dc∧dc≤99) (h2:-99≤dr∧dr≤99) (a:Rf) (ha:okP a.c a.r) (h:(shZ dc dr a).2=true):shZ (IntKind.i64.wrap (0 - dc)) (IntKind.i64.wrap (0 - dr)) (shZ dc dr a).1=(a,true):=by
 rw[wrapI (n:=0 - dc) (by omega),wrapI (n:=0 - dr) (by omega)]
 obtain ⟨c,r,f,g⟩:=a
 unfold shZ at h
 split at h
 ·rename_i hs
  rw[show shZ dc dr ⟨c,r,f,g⟩=(⟨if f=true then c else c+dc,if g=true then r else r+dr,f,g⟩,true) from if_pos hs]
  have hs':=hs
  unfold shiftP at hs'
  obtain ⟨-,-,-,hq⟩:=hs'
  unfold shZ
  rw[if_pos]
  ·cases f <;> cases g <;> simp <;> omega
  ·unfold shiftP
   refine ⟨hq,.inr (by unfold farP;omega),.inr (by unfold farP;omega),?_⟩
   simp only at ha
   cases f <;> cases g <;> simp at * <;> omega
 ·cases h
theorem ins_key {row:Bool} {p q:Int} (hs:spnP row p q) (a:Rf) (ha:okP a.c a.r):∃ k,inZ row p q a=setZ row a k∧¬ gonP p q k∧bakI p q k=keyZ row a:=by
 have hm:mostZ row≤99:=by cases row <;> decide
 have hw:IntKind.i64.wrap (p+q)=p+q:=wrapI (by omega)
 have hk:1≤keyZ row a∧keyZ row a≤99:=by
  cases row
  ·show 1≤a.c∧a.c≤99;omega
  ·show 1≤a.r∧a.r≤99;omega
 have h1:IntKind.i64.wrap (keyZ row a+q)=keyZ row a+q:=wrapI (by omega)
 have h2:IntKind.i64.wrap (keyZ row a+q - q)=keyZ row a+q - q:=wrapI (by omega)
 by_cases hp:keyZ row a≥p
 ·refine ⟨keyZ row a+q,?_,fun h=>?_,?_⟩
  ·rw[← h1]
   cases row
   ·exact if_pos hp
   ·exact if_pos hp
  ·have:=h.2;omega
  ·unfold bakI
   rw[if_pos (by omega),h2]
   omega
 ·refine ⟨keyZ row a,?_,fun h=>hp h.1,?_⟩
  ·cases row
   ·exact if_neg hp
   ·exact if_neg hp
  ·unfold bakI
   rw[if_neg (by omega)]
theorem key_set (row:Bool) (a:Rf) (k:Int):keyZ row (setZ row a k)=k:=by cases row <;> rfl
theorem set_back (row:Bool) (a:Rf) (k:Int):setZ row (setZ row a k) (keyZ row a)=a:=by cases row <;> rfl
theorem ins_del {row:Bool} {p q:Int} (hs:spnP row p q) (a:Rf) (ha:okP a.c a.r) (_:(insZ row p q a).2=true):delZ row p q (insZ row p q a).1=(a,true):=by
 obtain ⟨k,e,h1,h2⟩:=ins_key hs a ha
 show delZ row p q (inZ row p q a)=_
 rw[e]
 unfold delZ
 rw[key_set,if_neg h1,h2,set_back]
theorem ins_delB {row:Bool} {p q:Int} (hs:spnP row p q) (a b:Rf) (ha:okP a.c a.r) (hb:okP b.c b.r) (_:(bxZ (insZ row p q) a b).2.2=true):delB row p q (bxZ (insZ row p q) a b).1 (bxZ (insZ row p q) a b).2.1=(a,b,true):=by
 obtain ⟨k,e,h1,h2⟩:=ins_key hs a ha
 obtain ⟨k',e',h1',h2'⟩:=ins_key hs b hb
 show delB row p q (inZ row p q a) (inZ row p q b)=_
 rw[e,e']
 by_cases hk:k>k'
 ·rw[delB_ty (by rw[key_set,key_set];exact hk) (by rw[key_set,key_set];exact fun h=>h1 h.2),key_set,key_set,hi_n h1,lo_n h1',h2,h2',set_back,set_back]
 ·rw[delB_y (by rw[key_set,key_set];exact hk) (by rw[key_set,key_set];exact fun h=>h1 h.1),key_set,key_set,lo_n h1,hi_n h1',h2,h2',set_back,set_back]
end Go.Proofs.YtdpigpahfiachaaGreatDoor
end
section
namespace Go.Proofs.YtdpigpahfiachaaGreatDoor
open Go Go.EYtdpigpahfiachaaGreatDoor
set_option maxRecDepth 100000
set_option maxHeartbeats 4000000
variable {gl:List (Nat×List D)}
theorem bdL_take:∀ {ks:List Nd} {x:Nat} (h:x<ks.length),bdL (ks.take (x+1))=bdL (ks.take x)+bdN ks[x]
 | y::r,0,_=>by simp[bdL]
 | y::r,x+1,h=>by
  have:=bdL_take (ks:=r) (x:=x) (by simpa using h)
  simp only[List.take_succ_cons,bdL,List.getElem_cons_succ] at *
  omega
theorem bdL_le:∀ (ks:List Nd) (x:Nat),bdL (ks.take x)≤bdL ks
 | [],x=>by simp[bdL]
 | y::r,0=>by simp[bdL]
 | y::r,x+1=>by
  have:=bdL_le r x
  simp only[List.take_succ_cons,bdL] at *
  omega
mutual
theorem bd_cnt {ρ:Rf→Rf×Bool} {β:Rf→Rf→Rf×Rf×Bool}:∀ n:Nd,bdN (chN ρ β n)≤cntN n
 | .mk k m t a b ks=>by
  have h:=bd_cntL (ρ:=ρ) (β:=β) ks
  have h1:cntN (.mk k m t a b ks)=cntL ks+1:=rfl
  rw[h1]
  unfold chN
  (repeat' split) <;> first|(rw[bdN_bad];omega)|(simp only[bdN];split <;> omega)
theorem bd_cntL {ρ:Rf→Rf×Bool} {β:Rf→Rf→Rf×Rf×Bool}:∀ ks:List Nd,bdL (chL ρ β ks)≤cntL ks
 | []=>Nat.le_refl _
 | x::r=>Nat.add_le_add (bd_cnt x) (bd_cntL r)
end
mutual
theorem bd_cnt0:∀ n:Nd,bdN n≤cntN n
 | .mk k m t a b ks=>by
  have h:=bd_cntL0 ks
  show (if k=4∧m=3 then 1 else 0)+bdL ks≤cntL ks+1
  split <;> omega
theorem bd_cntL0:∀ ks:List Nd,bdL ks≤cntL ks
 | []=>Nat.le_refl _
 | x::r=>Nat.add_le_add (bd_cnt0 x) (bd_cntL0 r)
end
def bd1 (k m:Int):Nat:=if k=4∧m=3 then 1 else 0
theorem bads_d (n:Nd) (hb:bdN n≤1000000):FnP Tryz.prog gl 38 [.agg n.cs] (iD (bdN n:Nat)):=by
 match n with
 | .mk k m t a b ks =>
  have e0:bdN (.mk k m t a b ks)=bd1 k m+bdL ks:=rfl
  rw[e0] at hb ⊢
  have hbx:∀ x (h:x<ks.length),bdL (ks.take x)+bdN ks[x]≤bdL ks:=fun x h=>by
   rw[← bdL_take h];exact bdL_le ks (x+1)
  have ih:∀ x (h:x<ks.length),FnP Tryz.prog gl 38 [.agg (ks[x]).cs] (iD (bdN ks[x]:Nat)):=fun x h=>bads_d ks[x] (by have:=hbx x h;omega)
  suffices hh:ks.length≤9223372036854775807→FnP Tryz.prog gl 38 [.agg (Nd.mk k m t a b ks).cs] (iD ((bd1 k m+bdL ks:Nat):Int)) from fun w M xs hM hg hd=>(match xs,hd with
   | x::ys,hd=>hh (kids_max hd.1) w M (x::ys) hM hg hd
   | [],hd=>hd.elim)
  intro hks
  have hlen:=csL_len ks
  have main:∀ q:Nat,q=bd1 k m→q≤1→(k=4∧m=3∧q=1∨¬ (k=4∧m=3)∧q=0)→FnP Tryz.prog gl 38 [.agg (Nd.mk k m t a b ks).cs] (iD ((q+bdL ks:Nat):Int)):=fun q hq hq1 hc=>by
   rcases hc with ⟨h1,h2,rfl⟩|⟨h1,rfl⟩
   ·refine fnP_of_vc (nv:=9999) (cu:=[]) fits mixed Tryz.func38 rfl hoB rfl ?_
    ((repeat' ((conv=>whnf);first|exact .intro|refine .ya ?_|refine .na ?_|refine .ys ?_|refine .ns ?_|refine .neg (fun _=>?_) (fun _=>?_)|refine .mk (fun _=>?_) (fun _=>?_)|refine .mk ?_ ?_|refine AK ?_|refine AT ?_|fail));all_goals conv=>whnf)
    all_goals (try (exfalso;omega))
    refine ⟨{ σ:=Nat,fr:=fun x=>[(3,.c (.d (iD ((1+bdL (ks.take x):Nat):Int)))),(4,.c (.d (iD (x:Int))))],ks:=[],L:=fun x=>[],ex:=0,I:=fun x=>x≤ks.length,μ:=fun x=>ks.length - x },⟨0,Nat.zero_le _,?_⟩,fun (x:Nat) hx=>?_⟩
    ·((repeat' first|exact rfl|((conv=>whnf);first|done|exact suL|refine And.intro ?_ ?_|fail));all_goals conv=>whnf)
    ·replace hx:x≤ks.length:=hx
     by_cases hlt:x<ks.length
     ·have h2:(x:Int)<((Nd.csL ks).length:Nat):=by omega
      have e0:IntKind.i64.wrap ((x:Int)+1)=((x+1:Nat):Int):=by rw[wrapI (by omega)];rfl
      have e1:IntKind.i64.wrap (((1+bdL (ks.take x):Nat):Int)+(bdN ks[x]:Nat))=((1+bdL (ks.take (x+1)):Nat):Int):=by
       have h3:=hbx x hlt
       rw[wrapI (by omega),bdL_take hlt]
       omega
      have g1:=csL_get hlt
      have c1:=ih x hlt
      generalize ((bdN ks[x]:Nat):Int)=bx at *
      generalize ks[x]=nq at *
      obtain ⟨k1,m1,t1,a1,b1,ks1⟩:=nq
      change (Nd.csL ks)[((x:Nat):Int).toNat]?=some [iD k1,iD m1,.str t1,iD a1.c,iD a1.r,tD a1.fc,tD a1.fr,iD b1.c,iD b1.r,tD b1.fc,tD b1.fr,.lst 12 (Nd.csL ks1)] at g1
      ((repeat' ((conv=>whnf);first|exact .intro|refine .ya ?_|refine .na ?_|refine .ys ?_|refine .ns ?_|refine .neg (fun _=>?_) (fun _=>?_)|refine .mk (fun _=>?_) (fun _=>?_)|refine .inl (.inl (X1 (c1) ?_))|refine .inl (X1 (c1) ?_)|refine X1 (c1) ?_|(refine ⟨_,g1,?_⟩)|refine .mk ?_ ?_|refine AK ?_|refine AT ?_|fail));all_goals conv=>whnf)
      all_goals refine ⟨x+1,⟨hlt,by show ks.length - (x+1)<ks.length - x;omega⟩,?_⟩
      all_goals ((repeat' first|exact rfl|((conv=>whnf);first|done|exact suL|refine And.intro ?_ ?_|fail));all_goals conv=>whnf)
      all_goals first|exact ceq e0|exact ceq e1
     ·have h2:¬ (x:Int)<((Nd.csL ks).length:Nat):=by omega
      obtain rfl:x=ks.length:=by omega
      ((repeat' ((conv=>whnf);first|exact .intro|refine .ya ?_|refine .na ?_|refine .ys ?_|refine .ns ?_|refine .neg (fun _=>?_) (fun _=>?_)|refine .mk (fun _=>?_) (fun _=>?_)|refine .mk ?_ ?_|refine AK ?_|refine AT ?_|fail));all_goals conv=>whnf)
      exact LeD.of (by rw[List.take_length];rfl)
   ·refine fnP_of_vc (nv:=9999) (cu:=[]) fits mixed Tryz.func38 rfl hoB rfl ?_
    ((repeat' ((conv=>whnf);first|exact .intro|refine .ya ?_|refine .na ?_|refine .ys ?_|refine .ns ?_|refine .neg (fun _=>?_) (fun _=>?_)|refine .mk (fun _=>?_) (fun _=>?_)|refine .mk ?_ ?_|refine AK ?_|refine AT ?_|fail));all_goals conv=>whnf)
    all_goals (try (exfalso;omega))
    all_goals
     refine ⟨{ σ:=Nat,fr:=fun x=>[(3,.c (.d (iD ((0+bdL (ks.take x):Nat):Int)))),(4,.c (.d (iD (x:Int))))],ks:=[],L:=fun x=>[],ex:=0,I:=fun x=>x≤ks.length,μ:=fun x=>ks.length - x },⟨0,Nat.zero_le _,?_⟩,fun (x:Nat) hx=>?_⟩
     ·((repeat' first|exact rfl|((conv=>whnf);first|done|exact suL|refine And.intro ?_ ?_|fail));all_goals conv=>whnf)
     ·replace hx:x≤ks.length:=hx
      by_cases hlt:x<ks.length
      ·have h2:(x:Int)<((Nd.csL ks).length:Nat):=by omega
       have e0:IntKind.i64.wrap ((x:Int)+1)=((x+1:Nat):Int):=by rw[wrapI (by omega)];rfl
       have e1:IntKind.i64.wrap (((0+bdL (ks.take x):Nat):Int)+(bdN ks[x]:Nat))=((0+bdL (ks.take (x+1)):Nat):Int):=by
        have h3:=hbx x hlt
        rw[wrapI (by omega),bdL_take hlt]
        omega
       have g1:=csL_get hlt
       have c1:=ih x hlt
       generalize ((bdN ks[x]:Nat):Int)=bx at *
       generalize ks[x]=nq at *
       obtain ⟨k1,m1,t1,a1,b1,ks1⟩:=nq
       change (Nd.csL ks)[((x:Nat):Int).toNat]?=some [iD k1,iD m1,.str t1,iD a1.c,iD a1.r,tD a1.fc,tD a1.fr,iD b1.c,iD b1.r,tD b1.fc,tD b1.fr,.lst 12 (Nd.csL ks1)] at g1
       ((repeat' ((conv=>whnf);first|exact .intro|refine .ya ?_|refine .na ?_|refine .ys ?_|refine .ns ?_|refine .neg (fun _=>?_) (fun _=>?_)|refine .mk (fun _=>?_) (fun _=>?_)|refine .inl (.inl (X1 (c1) ?_))|refine .inl (X1 (c1) ?_)|refine X1 (c1) ?_|(refine ⟨_,g1,?_⟩)|refine .mk ?_ ?_|refine AK ?_|refine AT ?_|fail));all_goals conv=>whnf)
       all_goals refine ⟨x+1,⟨hlt,by show ks.length - (x+1)<ks.length - x;omega⟩,?_⟩
       all_goals ((repeat' first|exact rfl|((conv=>whnf);first|done|exact suL|refine And.intro ?_ ?_|fail));all_goals conv=>whnf)
       all_goals first|exact ceq e0|exact ceq e1
      ·have h2:¬ (x:Int)<((Nd.csL ks).length:Nat):=by omega
       obtain rfl:x=ks.length:=by omega
       ((repeat' ((conv=>whnf);first|exact .intro|refine .ya ?_|refine .na ?_|refine .ys ?_|refine .ns ?_|refine .neg (fun _=>?_) (fun _=>?_)|refine .mk (fun _=>?_) (fun _=>?_)|refine .mk ?_ ?_|refine AK ?_|refine AT ?_|fail));all_goals conv=>whnf)
       exact LeD.of (by rw[List.take_length];rfl)
  have hq:bd1 k m≤1:=by unfold bd1;split <;> omega
  refine main _ rfl hq ?_
  unfold bd1
  by_cases h:k=4∧m=3
  ·rw[if_pos h];exact .inl ⟨h.1,h.2,rfl⟩
  ·rw[if_neg h];exact .inr ⟨h,rfl⟩
termination_by SizeOf.sizeOf n
decreasing_by
 simp only[Nd.mk.sizeOf_spec]
 have:=List.sizeOf_lt_of_mem (List.getElem_mem h)
 omega
theorem same_0 {n:Nd} (h:kN n≠0):FnP Tryz.prog gl 18 [.agg n00.cs,.agg n.cs] (.v (.bool false)):=by
 obtain ⟨k,m,t,a,b,ks⟩:=n
 change k≠0 at h
 have h':¬ (0:Int)=k:=fun e=>h e.symm
 have e:n00=.mk 0 0 [] z0 z0 []:=rfl
 refine fnP_of_vc (nv:=9999) (cu:=[]) fits mixed Tryz.func18 rfl hoB rfl ?_
 ((repeat' ((conv=>whnf);first|exact .intro|refine .ya ?_|refine .na ?_|refine .ys ?_|refine .ns ?_|refine .neg (fun _=>?_) (fun _=>?_)|refine .mk (fun _=>?_) (fun _=>?_)|refine .mk ?_ ?_|refine AK ?_|refine AT ?_|fail));all_goals conv=>whnf)
 all_goals first|exact LeD.rfl|exact LeD.vf (by simp)
end Go.Proofs.YtdpigpahfiachaaGreatDoor
end
section
namespace Go.Proofs.YtdpigpahfiachaaGreatDoor
open Go Go.EYtdpigpahfiachaaGreatDoor
set_option maxRecDepth 100000
set_option maxHeartbeats 40000000
variable {gl:List (Nat×List D)}
def nA1:Nd:=.mk 5 0 [] ⟨1,1,false,false⟩ z0 []
def nB2:Nd:=.mk 5 0 [] ⟨2,2,false,false⟩ z0 []
theorem frm_A1:frmN nA1 False:=by
 unfold nA1
 rw[frm_5]
 exact ⟨rfl,rfl,rfl,noR_z0,by decide⟩
theorem parse_A1:parseZ rfZ [61,65,49]=.ok nA1 0:=by
 have ho:okN nA1:=⟨by decide,by decide,trivial⟩
 have hw:61::wrN nA1=[61,65,49]:=by decide +kernel
 have h:=(parse_wr pbZ frm_A1 ho).1 (by decide)
 rw[hw] at h
 unfold parseZ
 rw[if_neg (by decide),List.head?_cons,if_pos rfl]
 exact h
theorem chk_A1:prZ rfZ nA1=(61::wrN nA1,0):=prZ_s frm_A1 (by decide) ⟨0,by rw[show 61::wrN nA1=[61,65,49] by decide +kernel];exact parse_A1⟩
theorem mv_A1:chN (shZ 1 1) (bxZ (shZ 1 1)) nA1=nB2:=by
 unfold nA1
 rw[chN,if_pos rfl]
 have e:shZ 1 1 ⟨1,1,false,false⟩=(⟨2,2,false,false⟩,true):=by
  unfold shZ
  rw[if_pos (by unfold shiftP;exact ⟨by decide,.inr (by decide),.inr (by decide),by decide⟩)]
  rfl
 rw[e]
 rfl
theorem kN_pos {n:Nd} {box:Prop} (h:frmN n box):kN n≠0:=fun e=>by
 obtain ⟨k,m,t,a,b,ks⟩:=n
 change k=0 at e
 subst e
 exact frm_0 (by omega) h
theorem chk_y (te:TypeId) (pe:Value) (hV:Has gl (glV te pe)) (hl:Go.EYtdpigpahfiachaaGreatDoor.look gl 0=some lvAll) {mx:Int} (hm:Go.EYtdpigpahfiachaaGreatDoor.look gl 3=some [iD mx]) {n:Nd} (ho:okN n) (h:(prZ rfZ n).2=0):FnP Tryz.prog gl 37 [.agg n.cs] (.v .nilIface):=by
 have c:=fCheck_d te pe hV hl rfZ_ok hm n ho
 rw[h] at c
 exact c
theorem chk_n (te:TypeId) (pe:Value) (hV:Has gl (glV te pe)) (hl:Go.EYtdpigpahfiachaaGreatDoor.look gl 0=some lvAll) {mx:Int} (hm:Go.EYtdpigpahfiachaaGreatDoor.look gl 3=some [iD mx]) {n:Nd} (ho:okN n) (h:¬ (prZ rfZ n).2=0):∃ e,FnP Tryz.prog gl 37 [.agg n.cs] (erD e):=by
 have c:=fCheck_d te pe hV hl rfZ_ok hm n ho
 simp only[errD,if_neg h] at c
 exact ⟨_,c⟩
section
variable (te:TypeId) (pe:Value) (hV:Has gl (glV te pe)) (hl:Go.EYtdpigpahfiachaaGreatDoor.look gl 0=some lvAll) {mx:Int} (hm:Go.EYtdpigpahfiachaaGreatDoor.look gl 3=some [iD mx]) (n:Nd) (ho:okN n) (row:Bool) (p q dc dr:Int)
include hV hl hm ho
abbrev RBack (gl:List (Nat×List D)) (n:Nd) (row:Bool) (p q dc dr:Int):Prop:=FnP Tryz.prog gl 9 [.agg n.cs,.v (.bool row),iD p,iD q,iD dc,iD dr] (.v (.bool true))
abbrev One (gl:List (Nat×List D)):Prop:=FnP Tryz.prog gl 16 [.str [61,65,49]] (.tup [.agg [iD 5,iD 0,.str [],iD 1,iD 1,tD false,tD false,iD 0,iD 0,tD false,tD false,.lst 12 []],iD 0,.v .nilIface])∧
 FnP Tryz.prog gl 36 [.agg [iD 5,iD 0,.str [],iD 1,iD 1,tD false,tD false,iD 0,iD 0,tD false,tD false,.lst 12 []],iD 1,iD 1] (.tup [.agg [iD 5,iD 0,.str [],iD 2,iD 2,tD false,tD false,iD 0,iD 0,tD false,tD false,.lst 12 []],.v .nilIface])
omit ho in
theorem oneA1_d:One gl:=by
 have c0:=Parse_d te pe hV hl rfZ_ok [61,65,49]
 rw[parse_A1] at c0
 have c1:=Moved_y (gl:=gl) nA1 1 1 (by decide) frm_A1 (chk_y te pe hV hl hm ⟨by decide,by decide,trivial⟩ (by rw[chk_A1]))
 rw[mv_A1] at c1
 exact ⟨c0,c1⟩
theorem back_e (h0:¬ (prZ rfZ n).2=0):RBack gl n row p q dc dr:=by
 obtain ⟨c0,c00⟩:=oneA1_d te pe hV hl hm
 obtain ⟨e,c1⟩:=chk_n te pe hV hl hm ho h0
 obtain ⟨k,m,t,a,b,ks⟩:=n
 refine fnP_of_vc (nv:=9999) (cu:=[]) fits mixed Tryz.func9 rfl hoB rfl ?_
 ((repeat' ((conv=>whnf);first|exact .intro|refine .ya ?_|refine .na ?_|refine .ys ?_|refine .ns ?_|refine .neg (fun _=>?_) (fun _=>?_)|refine .mk (fun _=>?_) (fun _=>?_)|refine .inl (.inl (X1 (by first|exact c0|exact c00|exact c1) ?_))|refine .inl (X1 (by first|exact c0|exact c00|exact c1) ?_)|refine X1 (by first|exact c0|exact c00|exact c1) ?_|refine .mk ?_ ?_|refine AK ?_|refine AT ?_|fail));all_goals conv=>whnf)
 all_goals first|exact LeD.rfl|exact LeD.vt (by simp)
omit hV hl hm ho in
theorem four (A B C:Prop):¬ A∨(A∧¬ B)∨((A∧B)∧C)∨((A∧B)∧¬ C):=by
 by_cases a:A
 ·by_cases b:B
  ·by_cases c:C
   ·exact .inr (.inr (.inl ⟨⟨a,b⟩,c⟩))
   ·exact .inr (.inr (.inr ⟨⟨a,b⟩,c⟩))
  ·exact .inr (.inl ⟨a,b⟩)
 ·exact .inl a
theorem back_y (h0:(prZ rfZ n).2=0):RBack gl n row p q dc dr:=by
 obtain ⟨c0,c00⟩:=oneA1_d te pe hV hl hm
 obtain ⟨-,hc,hf⟩:=prZ_y h0
 have c1:=chk_y te pe hV hl hm ho h0
 have c2:=bads_d (gl:=gl) n (Nat.le_trans (bd_cnt0 n) (by omega))
 have c3:=Moved_y (gl:=gl) n 0 0 hc hf c1
 rw[ch_same (fun a ha=>shZ_0 ha) (fun a b ha hb=>bxZ_same (fun a ha=>shZ_0 ha) a b ha hb) n hf] at c3
 have c4:=same_y (gl:=gl) n
 have c9:=same_0 (gl:=gl) (kN_pos hf)
 have hI:¬ spnP row p q∨(spnP row p q∧¬ bdN (chN (insZ row p q) (bxZ (insZ row p q)) n)=bdN n)∨((spnP row p q∧bdN (chN (insZ row p q) (bxZ (insZ row p q)) n)=bdN n)∧(prZ rfZ (chN (insZ row p q) (bxZ (insZ row p q)) n)).2=0)∨((spnP row p q∧bdN (chN (insZ row p q) (bxZ (insZ row p q)) n)=bdN n)∧¬ (prZ rfZ (chN (insZ row p q) (bxZ (insZ row p q)) n)).2=0):=by
  exact four _ _ _
 have hM:¬ bdN (chN (shZ dc dr) (bxZ (shZ dc dr)) n)=bdN n∨(bdN (chN (shZ dc dr) (bxZ (shZ dc dr)) n)=bdN n∧¬ ((-99≤dc∧dc≤99)∧-99≤dr∧dr≤99))∨((bdN (chN (shZ dc dr) (bxZ (shZ dc dr)) n)=bdN n∧((-99≤dc∧dc≤99)∧-99≤dr∧dr≤99))∧(prZ rfZ (chN (shZ dc dr) (bxZ (shZ dc dr)) n)).2=0)∨((bdN (chN (shZ dc dr) (bxZ (shZ dc dr)) n)=bdN n∧((-99≤dc∧dc≤99)∧-99≤dr∧dr≤99))∧¬ (prZ rfZ (chN (shZ dc dr) (bxZ (shZ dc dr)) n)).2=0):=by
  exact four _ _ _
 rcases hI with hs|⟨hs,hb⟩|⟨⟨hs,hb⟩,h1⟩|⟨⟨hs,hb⟩,h1⟩
 all_goals first
  | (have c5:=Inserted_y (gl:=gl) n row p q hs hc hf c1;have c6:=bads_d (gl:=gl) (chN (insZ row p q) (bxZ (insZ row p q)) n) (Nat.le_trans (bd_cnt n) (by omega));have hback:=(ch_back (ins_del hs) (ins_delB hs) n hf).2 hb;rw[hb] at c6;have c7:=chk_y te pe hV hl hm (ch_ok n ho) h1;obtain ⟨-,hc1,hf1⟩:=prZ_y h1;have c8:=Deleted_y (gl:=gl) (chN (insZ row p q) (bxZ (insZ row p q)) n) row p q hs hc1 hf1 c7;rw[hback] at c8;clear hback h1 hb hc1 hf1;generalize chN (insZ row p q) (bxZ (insZ row p q)) n=m1 at *)
  | (have c5:=Inserted_y (gl:=gl) n row p q hs hc hf c1;have c6:=bads_d (gl:=gl) (chN (insZ row p q) (bxZ (insZ row p q)) n) (Nat.le_trans (bd_cnt n) (by omega));rw[hb] at c6;obtain ⟨e1,c7⟩:=chk_n te pe hV hl hm (ch_ok n ho) h1;have c8:=Deleted_n (gl:=gl) (chN (insZ row p q) (bxZ (insZ row p q)) n) row p q e1 c7;clear h1 hb;generalize chN (insZ row p q) (bxZ (insZ row p q)) n=m1 at *)
  | (have c5:=Inserted_y (gl:=gl) n row p q hs hc hf c1;have c6:=bads_d (gl:=gl) (chN (insZ row p q) (bxZ (insZ row p q)) n) (Nat.le_trans (bd_cnt n) (by omega));have hb':¬ ((bdN (chN (insZ row p q) (bxZ (insZ row p q)) n):Nat):Int)=((bdN n:Nat):Int):=(by omega);generalize ((bdN (chN (insZ row p q) (bxZ (insZ row p q)) n):Nat):Int)=b1 at *;generalize chN (insZ row p q) (bxZ (insZ row p q)) n=m1 at *)
  | (have c5:=Inserted_s (gl:=gl) n row p q hs c1)
 all_goals rcases hM with hb2|⟨hb2,hr⟩|⟨⟨hb2,hr⟩,h2⟩|⟨⟨hb2,hr⟩,h2⟩
 all_goals first
  | (have d5:=Moved_y (gl:=gl) n dc dr hc hf c1;have d6:=bads_d (gl:=gl) (chN (shZ dc dr) (bxZ (shZ dc dr)) n) (Nat.le_trans (bd_cnt n) (by omega));have hback:=(ch_back (shZ_back hr.1 hr.2) (bxZ_back (shZ_back hr.1 hr.2)) n hf).2 hb2;rw[hb2] at d6;have d7:=chk_y te pe hV hl hm (ch_ok n ho) h2;obtain ⟨-,hc1,hf1⟩:=prZ_y h2;have d8:=Moved_y (gl:=gl) (chN (shZ dc dr) (bxZ (shZ dc dr)) n) (IntKind.i64.wrap (0 - dc)) (IntKind.i64.wrap (0 - dr)) hc1 hf1 d7;rw[hback] at d8;clear hback h2 hb2 hc1 hf1;generalize chN (shZ dc dr) (bxZ (shZ dc dr)) n=m2 at *)
  | (have d5:=Moved_y (gl:=gl) n dc dr hc hf c1;have d6:=bads_d (gl:=gl) (chN (shZ dc dr) (bxZ (shZ dc dr)) n) (Nat.le_trans (bd_cnt n) (by omega));rw[hb2] at d6;obtain ⟨e2,d7⟩:=chk_n te pe hV hl hm (ch_ok n ho) h2;have d8:=Moved_n (gl:=gl) (chN (shZ dc dr) (bxZ (shZ dc dr)) n) (IntKind.i64.wrap (0 - dc)) (IntKind.i64.wrap (0 - dr)) e2 d7;clear h2 hb2;generalize chN (shZ dc dr) (bxZ (shZ dc dr)) n=m2 at *)
  | (have d5:=Moved_y (gl:=gl) n dc dr hc hf c1;have d6:=bads_d (gl:=gl) (chN (shZ dc dr) (bxZ (shZ dc dr)) n) (Nat.le_trans (bd_cnt n) (by omega));rw[hb2] at d6;clear hb2;generalize chN (shZ dc dr) (bxZ (shZ dc dr)) n=m2 at *)
  | (have d5:=Moved_y (gl:=gl) n dc dr hc hf c1;have d6:=bads_d (gl:=gl) (chN (shZ dc dr) (bxZ (shZ dc dr)) n) (Nat.le_trans (bd_cnt n) (by omega));have hb3:¬ ((bdN (chN (shZ dc dr) (bxZ (shZ dc dr)) n):Nat):Int)=((bdN n:Nat):Int):=(by omega);generalize ((bdN (chN (shZ dc dr) (bxZ (shZ dc dr)) n):Nat):Int)=b2 at *;generalize chN (shZ dc dr) (bxZ (shZ dc dr)) n=m2 at *)
 all_goals
  generalize ((bdN n:Nat):Int)=b0 at *
  generalize n00=nq at *
  clear ho hf hc h0
  obtain ⟨k,m,t,a,b,ks⟩:=n
  (try obtain ⟨k1,m1,t1,a1,b1,ks1⟩:=m1)
  obtain ⟨k2,m2,t2,a2,b2,ks2⟩:=m2
  obtain ⟨k3,m3,t3,a3,b3,ks3⟩:=nq
  refine fnP_of_vc (nv:=9999) (cu:=[]) fits mixed Tryz.func9 rfl hoB rfl ?_
  ((repeat' ((conv=>whnf);first|exact .intro|refine .ya ?_|refine .na ?_|refine .ys ?_|refine .ns ?_|refine .neg (fun _=>?_) (fun _=>?_)|refine .mk (fun _=>?_) (fun _=>?_)|refine .inl (.inl (X1 (by first|exact c0|exact c00|exact c1|exact c2|exact c3|exact c4|exact c5|exact c6|exact c7|exact c8|exact d5|exact d6|exact d7|exact d8|exact c9) ?_))|refine .inl (X1 (by first|exact c0|exact c00|exact c1|exact c2|exact c3|exact c4|exact c5|exact c6|exact c7|exact c8|exact d5|exact d6|exact d7|exact d8|exact c9) ?_)|refine X1 (by first|exact c0|exact c00|exact c1|exact c2|exact c3|exact c4|exact c5|exact c6|exact c7|exact c8|exact d5|exact d6|exact d7|exact d8|exact c9) ?_|refine .mk ?_ ?_|refine AK ?_|refine AT ?_|fail));all_goals conv=>whnf)
  all_goals first|exact LeD.rfl|exact LeD.vt rfl|exact LeD.vt (by simp)|(exfalso;omega)
theorem RefsBack_d:RBack gl n row p q dc dr:=by
 by_cases h0:(prZ rfZ n).2=0
 ·exact back_y te pe hV hl hm n ho row p q dc dr h0
 ·exact back_e te pe hV hl hm n ho row p q dc dr h0
end
theorem RefsBack_g (te:TypeId) (pe:Value) (mx:Int) (n:Nd) (ho:okN n) (row:Bool) (p q dc dr:Int):FnP Tryz.prog (glW te pe mx) 9 [.agg n.cs,.v (.bool row),iD p,iD q,iD dc,iD dr] (.v (.bool true)) :=
 RefsBack_d te pe (glW_has te pe mx) rfl rfl n ho row p q dc dr
end Go.Proofs.YtdpigpahfiachaaGreatDoor
end
