/- Proved: a part of what the law is proved with (the reckoner, contracts of functions, plain laws). Conditions: as each says. -/
import Derived.Test.YtfcmhmglpcimiaaGreatDoorKErrAs
import Derived.Test.YtfcmhmglpcimiaaGreatDoorKGe
import Derived.Test.YtfcmhmglpcimiaaGreatDoorKHa
import Derived.Test.YtfcmhmglpcimiaaGreatDoorKHd
import Derived.Test.YtfcmhmglpcimiaaGreatDoorKIg
import Derived.Test.YtfcmhmglpcimiaaGreatDoorKJk
import Derived.Test.YtfcmhmglpcimiaaGreatDoorKOe
import Derived.Test.YtfcmhmglpcimiaaGreatDoorKWa
namespace Go.Proofs.YtfcmhmglpcimiaaGreatDoor
open Go Go.EYtfcmhmglpcimiaaGreatDoor
set_option maxRecDepth 100000
section
variable {gl:List (Nat×List D)}
theorem digsTab:∀ n:Fin 100,1≤n.val→digs n.val≠[]∧(digs n.val).head?≠some 48∧(digs n.val).head?≠some 36∧(∀ d ∈ digs n.val,isDig d)∧rv (digs n.val) (digs n.val).length=n.val:=by decide +kernel
theorem chTab:∀ n:Fin 27,1≤n.val→(UInt8.ofNat (64+n.val)).toNat=64+n.val:=by decide +kernel
theorem dl_n {b:UInt8} {s:List UInt8} (h:b≠36):dl (b::s)=(false,b::s):=by simp[dl,h]
theorem dl_y (s:List UInt8):dl (36::s)=(true,s):=by simp[dl]
theorem dl_if (f:Bool) {b:UInt8} {s:List UInt8} (h:b≠36):dl ((if f=true then [36] else [])++b::s)=(f,b::s):=by
 cases f
 ·exact dl_n h
 ·exact dl_y _
end
section
variable {gl:List (Nat×List D)}
def rfZ (s:List UInt8):Option Rf:=match (dl s).2 with
 | []=>none
 | ch::t=>if (65≤ch.toNat∧ch.toNat≤90)∧(dl t).2≠[]∧(dl t).2.length≤2∧(dl t).2.head?≠some 48∧(∀ d ∈ (dl t).2,isDig d) then some ⟨((ch.toNat - 64:Nat):Int),((rv (dl t).2 (dl t).2.length:Nat):Int),(dl s).1,(dl t).1⟩ else none
theorem rv_99 {l:List UInt8} (h0:l≠[]) (h2:l.length≤2) (h3:l.head?≠some 48) (hd:∀ d ∈ l,isDig d):1≤rv l l.length∧rv l l.length≤99:=by
 have hlt:=rv_lt (l:=l) (Nat.le_refl _) (fun d hx=>hd d (List.mem_of_mem_take hx))
 have hlen:0<l.length:=List.length_pos_iff.2 h0
 have hge:=rv_ge h0 h3 hd (l.length - 1) (by omega)
 rw[Nat.sub_add_cancel hlen] at hge
 have h99:rv l l.length<100:=Nat.lt_of_lt_of_le hlt (Nat.pow_le_pow_right (n:=10) (by decide) h2)
 have h01:1≤rv l l.length:=by have:=Nat.pow_le_pow_right (n:=10) (by decide) (Nat.zero_le (l.length - 1));omega
 omega
theorem ref_z (s:List UInt8) (hs:s.length≤140737488355328) :
 (∀ a,rfZ s=some a→FnP Tryz.prog gl 146 [.str s] (.tup [refD a.c a.r a.fc a.fr,errD 0])∧FnP Tryz.prog gl 80 [.str s] (.tup [refD a.c a.r a.fc a.fr,tD true]))∧
 (rfZ s=none→FnP Tryz.prog gl 146 [.str s] refBad∧FnP Tryz.prog gl 80 [.str s] rrBad):=by
 have bad:rfZ s=none→FnP Tryz.prog gl 146 [.str s] refBad∧FnP Tryz.prog gl 80 [.str s] rrBad→(∀ a,rfZ s=some a→FnP Tryz.prog gl 146 [.str s] (.tup [refD a.c a.r a.fc a.fr,errD 0])∧FnP Tryz.prog gl 80 [.str s] (.tup [refD a.c a.r a.fc a.fr,tD true]))∧
  (rfZ s=none→FnP Tryz.prog gl 146 [.str s] refBad∧FnP Tryz.prog gl 80 [.str s] rrBad):=fun h1 h2=>⟨fun a ha=>(by rw[h1] at ha;cases ha),fun _=>h2⟩
 obtain ⟨b,t0,h⟩:∃ b t0,dl s=(b,t0):=⟨_,_,rfl⟩
 cases t0 with
 | nil=>exact bad (by unfold rfZ;rw[h]) ⟨Ref_1 h,rRef_1 h⟩
 | cons ch t =>
  by_cases hc:65≤ch.toNat∧ch.toNat≤90
  ·obtain ⟨b',l,h'⟩:∃ b' l,dl t=(b',l):=⟨_,_,rfl⟩
   have e:rfZ s=if (65≤ch.toNat∧ch.toNat≤90)∧l≠[]∧l.length≤2∧l.head?≠some 48∧(∀ d ∈ l,isDig d) then some ⟨((ch.toNat - 64:Nat):Int),((rv l l.length:Nat):Int),b,b'⟩ else none:=by
    unfold rfZ
    rw[h]
    simp only[]
    rw[h']
   have hll:l.length≤s.length:=by
    rcases dl_inv2 h with ⟨rfl,_⟩|⟨rfl,_,_⟩ <;> rcases dl_inv3 h' with ⟨rfl,_⟩|⟨rfl,_,_⟩ <;> simp <;> omega
   by_cases h0:l=[]
   ·subst h0
    exact bad (by rw[e,if_neg (fun hh=>hh.2.1 rfl)]) ⟨Ref_3 h hc h' (.inl rfl),rRef_f h hc h' refWhole_e⟩
   by_cases hz:l.head?=some 48∧l≠[48]
   ·refine bad (by rw[e,if_neg (fun hh=>hh.2.2.2.1 hz.1)]) ⟨Ref_3 h hc h' (.inr (.inr hz.1)),rRef_f h hc h' ?_⟩
    obtain ⟨a,l,rfl⟩:=List.exists_cons_of_ne_nil h0
    obtain rfl:a=48:=Option.some.inj hz.1
    exact refWhole_z fun e=>hz.2 (by rw[e])
   have hW:=Whole_p (gl:=gl) l h0 hz (by omega)
   by_cases hg:l.length≤2∧l.head?≠some 48
   ·have h4:=Ref_4 (gl:=gl) h hc h' h0 hg.1 hg.2
    by_cases hd:∀ d ∈ l,isDig d
    ·have h99:=rv_99 h0 hg.1 hg.2 hd
     rw[if_pos hd] at h4
     rw[if_pos ⟨hd,by omega⟩] at hW
     rw[e,if_pos ⟨hc,h0,hg.1,hg.2,hd⟩]
     refine ⟨fun a ha=>?_,fun ha=>by cases ha⟩
     cases ha
     exact ⟨h4,rRef_s (n:=((rv l l.length:Nat):Int)) h hc h' hW (by omega)⟩
    ·rw[if_neg hd] at h4
     rw[if_neg fun hh=>hd hh.1] at hW
     exact bad (by rw[e,if_neg (fun hh=>hd hh.2.2.2.2)]) ⟨h4,rRef_f h hc h' hW⟩
   ·have hb:2<l.length∨l.head?=some 48:=by
     by_cases e:l.head?=some 48
     ·exact .inr e
     ·exact .inl (Nat.lt_of_not_le fun h=>hg ⟨h,e⟩)
    have h3:=Ref_3 (gl:=gl) h hc h' (.inr hb)
    have en:rfZ s=none:=by rw[e,if_neg (fun hh=>hg ⟨hh.2.2.1,hh.2.2.2.1⟩)]
    by_cases hw:wholeC l
    ·rw[if_pos hw] at hW
     refine bad en ⟨h3,rRef_n h hc h' hW ?_⟩
     by_cases e:l.head?=some 48
     ·have:l=[48]:=Classical.byContradiction fun hn=>hz ⟨e,hn⟩
      subst this
      left;show ((0 * 10+(48 - 48):Nat):Int)<1;decide
     ·right
      have h2:2<l.length:=by rcases hb with hb|hb;exact hb;exact absurd hb e
      have hge:=rv_ge h0 e hw.1 (l.length - 1) (by omega)
      rw[Nat.sub_add_cancel (by omega)] at hge
      have:10 ^ 2≤10 ^ (l.length - 1):=Nat.pow_le_pow_right (by decide) (by omega)
      omega
    ·rw[if_neg hw] at hW
     exact bad en ⟨h3,rRef_f h hc h' hW⟩
  ·exact bad (by unfold rfZ;rw[h];simp only[];rw[if_neg (fun hh=>hc hh.1)]) ⟨Ref_2 h hc,rRef_2 h hc⟩
theorem rfZ_ok:RefsOk rfZ:=fun gl s hs=>ref_z (gl:=gl) s (by omega)
theorem rfZ_nil:rfZ []=none:=rfl
theorem dl_app {s l:List UInt8} {b:Bool} (h:dl s=(b,l)):s.length=(if b=true then 1 else 0)+l.length:=by
 rcases dl_inv3 h with ⟨rfl,rfl⟩|⟨rfl,_,rfl⟩ <;> simp <;> omega
theorem digs_le {l:List UInt8} (h0:l≠[]) (hd:∀ d ∈ l,isDig d):(digs (rv l l.length)).length≤l.length:=by
 have h1:0<l.length:=List.length_pos_iff.2 h0
 unfold digs
 split
 ·show 1≤l.length
  omega
 ·rename_i hn
  have hlt:=rv_lt (l:=l) (Nat.le_refl _) (fun d hx=>hd d (List.mem_of_mem_take hx))
  have:l.length≠1:=fun e=>by rw[e] at hlt hn;omega
  simp
  omega
theorem rfZ_some {s:List UInt8} {a:Rf} (h:rfZ s=some a):okP a.c a.r∧(nmR a).length≤s.length∧1≤s.length:=by
 unfold rfZ at h
 split at h
 ·cases h
 ·rename_i ch t e
  split at h
  ·rename_i hh
   obtain ⟨hc,h0,h2,h3,hd⟩:=hh
   have h99:=rv_99 h0 h2 h3 hd
   have l1:=dl_app (s:=s) (l:=ch::t) (b:=(dl s).1) (by rw[← e])
   have l2:=dl_app (s:=t) (l:=(dl t).2) (b:=(dl t).1) rfl
   have l3:=digs_le h0 hd
   cases h
   refine ⟨show 1≤((ch.toNat - 64:Nat):Int)∧((ch.toNat - 64:Nat):Int)≤26∧1≤((rv (dl t).2 (dl t).2.length:Nat):Int)∧((rv (dl t).2 (dl t).2.length:Nat):Int)≤99 by omega,?_,by rw[l1,List.length_cons];omega⟩
   show (nameL _ _ _ _).length≤_
   unfold nameL
   rw[l1,Int.toNat_natCast]
   simp only[List.length_append,List.length_cons]
   rw[l2]
   cases (dl s).1 <;> cases (dl t).1 <;> simp <;> omega
  ·cases h
theorem rfZ_name {a:Rf} (h:okP a.c a.r):rfZ (nmR a)=some a:=by
 obtain ⟨c,r,fc,fr⟩:=a
 obtain ⟨h1,h2,h3,h4⟩:=h
 simp only at h1 h2 h3 h4
 obtain ⟨n,rfl⟩:=Int.eq_ofNat_of_zero_le (show 0≤r by omega)
 obtain ⟨m,rfl⟩:=Int.eq_ofNat_of_zero_le (show 0≤c by omega)
 obtain ⟨d1,d2,d3,d4,d5⟩:=digsTab ⟨n,by omega⟩ (by show 1≤n;omega)
 have hc:=chTab ⟨m,by omega⟩ (by show 1≤m;omega)
 simp only at d1 d2 d3 d4 d5 hc
 obtain ⟨x,l,e⟩:=List.exists_cons_of_ne_nil d1
 have hch:UInt8.ofNat (64+m)≠36:=fun e=>by rw[e] at hc;have:(36:Nat)=64+m:=hc;omega
 have ha:x≠36:=fun h=>d3 (by rw[e,h];rfl)
 have e1:dl (nameL m n fc fr)=(fc,UInt8.ofNat (64+m)::((if fr=true then [36] else [])++digs n)):=dl_if fc hch
 have e2:dl ((if fr=true then [36] else [])++digs n)=(fr,digs n):=by rw[e];exact dl_if fr ha
 show rfZ (nameL m n fc fr)=_
 unfold rfZ
 rw[e1]
 simp only[]
 rw[e2,if_pos ⟨by omega,d1,digs_len n,d2,d4⟩,d5,hc,show 64+m - 64=m by omega]
theorem dig_word {c:UInt8} (h:isDig c):wordlyP c:=.inr (.inl ⟨UInt8.le_iff_toNat_le.2 h.1,UInt8.le_iff_toNat_le.2 h.2⟩)
theorem nmR_word {a:Rf} (h:okP a.c a.r):nmR a≠[]∧∀ c ∈ nmR a,wordlyP c:=by
 obtain ⟨c,r,fc,fr⟩:=a
 obtain ⟨h1,h2,h3,h4⟩:=h
 simp only at h1 h2 h3 h4
 obtain ⟨n,rfl⟩:=Int.eq_ofNat_of_zero_le (show 0≤r by omega)
 obtain ⟨m,rfl⟩:=Int.eq_ofNat_of_zero_le (show 0≤c by omega)
 obtain ⟨d1,d2,d3,d4,d5⟩:=digsTab ⟨n,by omega⟩ (by show 1≤n;omega)
 have hc:=chTab ⟨m,by omega⟩ (by show 1≤m;omega)
 simp only at d1 d2 d3 d4 d5 hc
 have hch:wordlyP (UInt8.ofNat (64+m)):=.inr (.inr (.inl ⟨UInt8.le_iff_toNat_le.2 (by rw[hc];show 65≤64+m;omega),UInt8.le_iff_toNat_le.2 (by rw[hc];show 64+m≤90;omega)⟩))
 have h36:wordlyP 36:=.inl rfl
 show nameL m n fc fr≠[]∧∀ c ∈ nameL m n fc fr,wordlyP c
 unfold nameL
 rw[Int.toNat_natCast,Int.toNat_natCast]
 refine ⟨by simp,fun c hc'=>?_⟩
 simp only[List.mem_append,List.mem_cons] at hc'
 rcases hc' with hc'|rfl|hc'|hc'
 ·cases fc
  ·simp at hc'
  ·simp at hc';subst hc';exact h36
 ·exact hch
 ·cases fr
  ·simp at hc'
  ·simp at hc';subst hc';exact h36
 ·exact dig_word (d4 c hc')
end
section
theorem itoa_word {m:Int} (h:0≤m):Lib.itoa m≠[]∧∀ c ∈ Lib.itoa m,wordlyP c:=by
 unfold Lib.itoa
 rw[if_neg (by omega)]
 obtain ⟨h1,h2,h3,h4⟩:=dec_facts m.toNat
 exact ⟨h3,fun c hc=>dig_word (h2 c hc)⟩
theorem nmR_char {a:Rf} (h:okP a.c a.r):(∃ c ∈ unsg (nmR a),¬ isDig c)∧(∃ c ∈ nmR a,isDig c)∧(∃ c,(nmR a).head?=some c∧wordlyP c):=by
 obtain ⟨w1,w2⟩:=nmR_word h
 have hw:∃ c,(nmR a).head?=some c∧wordlyP c:=by
  cases e:nmR a with
  | nil=>exact absurd e w1
  | cons c r=>exact ⟨c,rfl,w2 c (by rw[e];simp)⟩
 have hu:unsg (nmR a)=nmR a:=by
  unfold unsg
  rw[if_neg fun e=>?_]
  obtain ⟨c,hc,hcw⟩:=hw
  rw[hc] at e
  cases e
  exact (wordly_ne hcw).1 rfl
 refine ⟨?_,?_,hw⟩
 ·rw[hu]
  obtain ⟨c,r,fc,fr⟩:=a
  obtain ⟨h1,h2,h3,h4⟩:=h
  simp only at h1 h2 h3 h4
  obtain ⟨m,rfl⟩:=Int.eq_ofNat_of_zero_le (show 0≤c by omega)
  have hc:=chTab ⟨m,by omega⟩ (by show 1≤m;omega)
  simp only at hc
  refine ⟨UInt8.ofNat (64+m),?_,?_⟩
  ·show _ ∈ nameL m r fc fr
   unfold nameL
   rw[Int.toNat_natCast]
   simp
  ·unfold isDig
   rw[hc]
   omega
 ·obtain ⟨c,r,fc,fr⟩:=a
  obtain ⟨h1,h2,h3,h4⟩:=h
  simp only at h1 h2 h3 h4
  obtain ⟨n,rfl⟩:=Int.eq_ofNat_of_zero_le (show 0≤r by omega)
  obtain ⟨d1,d2,d3,d4,d5⟩:=digsTab ⟨n,by omega⟩ (by show 1≤n;omega)
  simp only at d1 d4
  obtain ⟨x,l,e⟩:=List.exists_cons_of_ne_nil d1
  refine ⟨x,?_,d4 x (by rw[e];simp)⟩
  show x ∈ nameL c n fc fr
  unfold nameL
  rw[Int.toNat_natCast,e]
  simp
theorem litZ_ref {a:Rf} (h:okP a.c a.r):litZ (nmR a)=none:=by
 obtain ⟨-,⟨d,hd,hdd⟩,c,hc,hcw⟩:=nmR_char h
 rw[litZ_word hc hcw,if_neg,if_neg]
 ·intro e
  rw[e] at hd
  simp only[List.mem_cons,List.not_mem_nil,or_false] at hd
  rcases hd with rfl|rfl|rfl|rfl|rfl <;> revert hdd <;> decide
 ·intro e
  rw[e] at hd
  simp only[List.mem_cons,List.not_mem_nil,or_false] at hd
  rcases hd with rfl|rfl|rfl|rfl <;> revert hdd <;> decide
theorem litN_skip {t:List UInt8}:∀ (k f n:Nat) (q:Int×Int),(∀ j,j<k→litZ (t.take (n+j))=none)→litZ (t.take (n+k))=some q→litN t (k+1+f) n=some (q.2,n+k)
 | 0,f,n,q,_,h=>by
  rw[show 0+1+f=f+1 by omega]
  unfold litN
  rw[show t.take n=t.take (n+0) from rfl,h]
  rfl
 | k+1,f,n,q,h0,h=>by
  rw[show k+1+1+f=(k+1+f)+1 by omega]
  unfold litN
  rw[show t.take n=t.take (n+0) from rfl,h0 0 (by omega)]
  have:=litN_skip k f (n+1) q (fun j hj=>by rw[show n+1+j=n+(j+1) by omega];exact h0 (j+1) (by omega)) (by rw[show n+1+k=n+(k+1) by omega];exact h)
  rw[this,show n+1+k=n+(k+1) by omega]
theorem litN_sound {t:List UInt8}:∀ (f n:Nat) (m:Int) (l:Nat),litN t f n=some (m,l)→∃ k,litZ (t.take l)=some (k,m)
 | 0,n,m,l,h=>by cases h
 | f+1,n,m,l,h=>by
  unfold litN at h
  split at h
  ·rename_i q hq
   cases h
   exact ⟨q.1,hq⟩
  ·exact litN_sound f (n+1) m l h
theorem lit_tab:∀ m:Fin 7,1≤m.val→(∀ j:Fin 7,j.val+1<(tx.getD m.val []).length→litZ ((tx.getD m.val []).take (1+j.val))=none)∧litZ (tx.getD m.val [])=some (4,(m.val:Int))∧1≤(tx.getD m.val []).length∧(tx.getD m.val []).length≤7:=by decide +kernel
theorem litF_tx (m:Int) (post:List UInt8) (h1:1≤m) (h2:m≤6):litF (tx.getD m.toNat []++post)=some (m,(tx.getD m.toNat []).length):=by
 obtain ⟨k,rfl⟩:=Int.eq_ofNat_of_zero_le (show 0≤m by omega)
 obtain ⟨a,b,c,d⟩:=lit_tab ⟨k,by omega⟩ (by show 1≤k;omega)
 simp only at a b c d
 rw[Int.toNat_natCast]
 generalize tx.getD k []=x at *
 unfold litF
 obtain ⟨n,hn⟩:∃ n,x.length=n+1:=⟨x.length - 1,by omega⟩
 have:=litN_skip (t:=x++post) n post.length 1 (4,(k:Int)) (fun j hj=>by
  rw[List.take_append_of_le_length (by omega)]
  exact a ⟨j,by omega⟩ (by show j+1<_;omega)) (by
  rw[show 1+n=x.length by omega,List.take_left]
  exact b)
 rw[List.length_append,hn,this,show 1+n=n+1 by omega]
theorem txI_sound {s:List UInt8}:∀ {n i:Nat},n≤6→txI s n=some i→1≤i∧i≤6∧tx.getD i []=s
 | 0,i,_,h=>by cases h
 | n+1,i,hn,h=>by
  unfold txI at h
  split at h
  ·rename_i e
   cases h
   exact ⟨by omega,by omega,e⟩
  ·exact txI_sound (by omega) h
theorem litF_sound {t:List UInt8} {m:Int} {l:Nat} (h35:t.head?=some 35) (h:litF t=some (m,l)):1≤m∧m≤6∧(tx.getD m.toNat []).length≤l:=by
 obtain ⟨k,hk⟩:=litN_sound _ _ _ _ h
 have hl:=litF_len t m l h
 obtain ⟨r,rfl⟩:∃ r,t=35::r:=by
  cases t with
  | nil=>cases h35
  | cons c r=>cases h35;exact ⟨r,rfl⟩
 obtain ⟨l',rfl⟩:∃ l',l=l'+1:=⟨l - 1,by omega⟩
 rw[List.take_succ_cons] at hk
 unfold litZ at hk
 rw[if_neg (by simp),if_neg (by simp)] at hk
 obtain ⟨i,hi,e⟩:=Option.map_eq_some_iff.1 hk
 cases e
 obtain ⟨a,b,c⟩:=txI_sound (by omega) hi
 refine ⟨by omega,by omega,?_⟩
 rw[Int.toNat_natCast,c]
 simp
 omega
theorem pbZ:PB (parZ rfZ) where
 num:=fun m h0 h=>by
  show plZ rfZ _=_
  unfold plZ
  rw[whole_itoa h]
 numW:=fun m h=>itoa_word h
 tru:=by
  change plZ rfZ tT=some (Nd.mk 3 1 [] z0 z0 [])
  unfold plZ
  rw[wholeZ_no ⟨84,by decide,by decide⟩]
  rfl
 fal:=by
  change plZ rfZ tF=some (Nd.mk 3 0 [] z0 z0 [])
  unfold plZ
  rw[wholeZ_no ⟨70,by decide,by decide⟩]
  rfl
 ref:=fun a h=>by
  refine ⟨?_,rfZ_name h⟩
  show plZ rfZ _=_
  unfold plZ
  rw[wholeZ_no (nmR_char h).1,litZ_ref h,rfZ_name h]
  rfl
 refW:=fun a h=>nmR_word h
 lit:=litF_tx
 cl:=rfl
theorem pcZ:PC (parZ rfZ) where
 pl:=fun w n hw hc h=>by
  change plZ rfZ w=some n at h
  unfold plZ at h
  cases hwz:wholeZ w with
  | some v =>
   rw[hwz] at h
   cases h
   have e:=itoa_whole hwz
   have hv:0≤v∧okI v:=by
    unfold wholeZ at hwz
    split at hwz
    ·rename_i hh
     cases hwz
     refine ⟨?_,hh.2⟩
     unfold wholeV
     split
     ·rename_i h45
      exfalso
      cases w with
      | nil=>cases h45
      | cons c r=>cases h45;exact (wordly_ne (hc 45 (by simp))).1 rfl
     ·omega
    ·cases hwz
   refine ⟨by rw[frm_1];exact ⟨rfl,rfl,⟨noR_z0,noR_z0⟩,hv.1⟩,⟨hv.2,by decide,trivial⟩,rfl,rfl,?_,rfl⟩
   show (Lib.itoa v).length≤_
   rw[e]
   exact Nat.le_refl _
  | none =>
   rw[hwz] at h
   simp only at h
   cases w with
   | nil=>cases h
   | cons c r =>
    rw[litZ_word (w:=c::r) (c:=c) rfl (hc c (by simp))] at h
    by_cases h1:c::r=tT
    ·rw[if_pos h1] at h
     cases h
     refine ⟨by rw[frm_3];exact ⟨rfl,rfl,⟨noR_z0,noR_z0⟩,.inr rfl⟩,⟨by decide,by decide,trivial⟩,rfl,rfl,?_,rfl⟩
     rw[h1];decide
    ·rw[if_neg h1] at h
     by_cases h2:c::r=tF
     ·rw[if_pos h2] at h
      cases h
      refine ⟨by rw[frm_3];exact ⟨rfl,rfl,⟨noR_z0,noR_z0⟩,.inl rfl⟩,⟨by decide,by decide,trivial⟩,rfl,rfl,?_,rfl⟩
      rw[h2];decide
     ·rw[if_neg h2] at h
      simp only at h
      obtain ⟨a,ha,e⟩:=Option.map_eq_some_iff.1 h
      cases e
      obtain ⟨k1,k2,k3⟩:=rfZ_some ha
      exact ⟨by rw[frm_5];exact ⟨rfl,rfl,rfl,noR_z0,k1⟩,⟨by decide,by decide,trivial⟩,rfl,rfl,k2,rfl⟩
 rf:=fun w a _ h=>rfZ_some h
 lit:=fun t m l h35 h=>litF_sound h35 h
 cl:=rfl
theorem parse_short {s:List UInt8} {m:Nd} {i:Nat} (h:parseZ rfZ s=.ok m i):frmN m False∧okN m∧cntN m≤200∧(61::wrN m).length≤s.length∧∃ j,parseZ rfZ (61::wrN m)=.ok m j:=by
 unfold parseZ at h
 split at h
 ·cases h
 ·rename_i h200
  split at h
  ·rename_i h61
   have h1:1≤s.length:=by
    cases s with
    | nil=>cases h61
    | cons c r=>simp
   obtain ⟨a,b,c,d,e⟩:=parse_rw pcZ (by omega) h1 h
   refine ⟨a,b,c,d,0,?_⟩
   unfold parseZ
   rw[if_neg (by omega),List.head?_cons,if_pos rfl]
   exact (parse_wr pbZ a b).1 e
  ·cases h
end
section
set_option maxHeartbeats 4000000
variable {gl:List (Nat×List D)}
def textZ (rf:List UInt8→Option Rf) (s:List UInt8):Int:=if 200<s.length then 4 else if s.head?=some 61 then (match parseZ rf s with|.ok _ _=>0|.no _ _=>2) else 0
theorem gText_k (s:List UInt8) (h:200<s.length):FnP Tryz.prog gl 21 [.str s] (erD 4):=by
 have h1:((s.length:Nat):Int)>200:=by omega
 refine S0 Tryz.func21 rfl ?_
 ((repeat' ((conv=>whnf);first|exact .intro|refine G ?_|intro _|refine .mk ?_ ?_|refine H ?_|fail));all_goals conv=>whnf)
 exact LeD.rfl
theorem gText_c (s:List UInt8) (h:¬ 200<s.length) (h6:s.head?≠some 61):FnP Tryz.prog gl 21 [.str s] (.v .nilIface):=by
 have h1:¬ ((s.length:Nat):Int)>200:=by omega
 have c0:=Constant_d (gl:=gl) s (b:=true) (by simp[h6])
 refine S0 Tryz.func21 rfl ?_
 ((repeat' ((conv=>whnf);first|exact .intro|refine G ?_|intro _|refine C1 c0 ?_|refine .mk ?_ ?_|refine H ?_|fail));all_goals conv=>whnf)
 exact LeD.rfl
theorem gText_p (te:TypeId) (pe:Value) (hV:Has gl (glV te pe)) (hl:Go.EYtfcmhmglpcimiaaGreatDoor.look gl 1=some lvAll) {rf:List UInt8→Option Rf} (hR:RefsOk rf) (s:List UInt8) (h:¬ 200<s.length) (h6:s.head?=some 61) {n:Nd} {k:Nat} (hp:parseZ rf s=.ok n k):FnP Tryz.prog gl 21 [.str s] (.v .nilIface):=by
 have h1:¬ ((s.length:Nat):Int)>200:=by omega
 have c0:=Constant_d (gl:=gl) s (b:=false) (by simp[h6])
 have c1:=Parse_d te pe hV hl hR s
 rw[hp] at c1
 unfold parseD at c1
 obtain ⟨k0,m0,t0,a0,b0,ks0⟩:=n
 refine S0 Tryz.func21 rfl ?_
 ((repeat' ((conv=>whnf);first|exact .intro|refine G ?_|intro _|refine C1 c0 ?_|refine C1 c1 ?_|refine .mk ?_ ?_|refine H ?_|fail));all_goals conv=>whnf)
 exact LeD.rfl
theorem gText_q (te:TypeId) (pe:Value) (hV:Has gl (glV te pe)) (hl:Go.EYtfcmhmglpcimiaaGreatDoor.look gl 1=some lvAll) {rf:List UInt8→Option Rf} (hR:RefsOk rf) (s:List UInt8) (h:¬ 200<s.length) (h6:s.head?=some 61) {a:Nat} {e:Int} (hp:parseZ rf s=.no a e):FnP Tryz.prog gl 21 [.str s] (erD 2):=by
 have h1:¬ ((s.length:Nat):Int)>200:=by omega
 have c0:=Constant_d (gl:=gl) s (b:=false) (by simp[h6])
 have c1:=Parse_d te pe hV hl hR s
 rw[hp] at c1
 unfold parseD at c1
 refine S0 Tryz.func21 rfl ?_
 ((repeat' ((conv=>whnf);first|exact .intro|refine G ?_|intro _|refine C1 c0 ?_|refine C1 c1 ?_|refine .mk ?_ ?_|refine H ?_|fail));all_goals conv=>whnf)
 exact LeD.rfl
theorem gText_d (te:TypeId) (pe:Value) (hV:Has gl (glV te pe)) (hl:Go.EYtfcmhmglpcimiaaGreatDoor.look gl 1=some lvAll) {rf:List UInt8→Option Rf} (hR:RefsOk rf) (s:List UInt8) :
 (textZ rf s=0∧FnP Tryz.prog gl 21 [.str s] (.v .nilIface))∨∃ e,e≠0∧textZ rf s=e∧FnP Tryz.prog gl 21 [.str s] (erD e):=by
 unfold textZ
 by_cases h:200<s.length
 ·rw[if_pos h];exact .inr ⟨4,by decide,rfl,gText_k s h⟩
 ·rw[if_neg h]
  by_cases h6:s.head?=some 61
  ·rw[if_pos h6]
   cases hp:parseZ rf s with
   | ok n k=>exact .inl ⟨rfl,gText_p te pe hV hl hR s h h6 hp⟩
   | no a e=>exact .inr ⟨2,by decide,rfl,gText_q te pe hV hl hR s h h6 hp⟩
  ·rw[if_neg h6];exact .inl ⟨rfl,gText_c s h h6⟩
end
section
set_option maxHeartbeats 4000000
variable {gl:List (Nat×List D)}
def stepZ (rf:List UInt8→Option Rf) (l:List Fl) (k:Nat):Int:=match l[k]? with
 | none=>0
 | some f=>if okP f.c f.r then if (match l[k - 1]? with|some g=>decide (0<k→lessF g f)|none=>true)=true then if f.t=[] then 3 else textZ rf f.t else 5 else 1
theorem stepZ_at {rf:List UInt8→Option Rf} {l:List Fl} {k:Nat} (hlt:k<l.length):stepZ rf l k=if okP l[k].c l[k].r then if 0<k→lessF (l[k - 1]'(by omega)) l[k] then if l[k].t=[] then 3 else textZ rf l[k].t else 5 else 1:=by
 unfold stepZ
 rw[List.getElem?_eq_getElem hlt]
 simp only[]
 rw[List.getElem?_eq_getElem (show k - 1<l.length by omega)]
 simp only[decide_eq_true_eq]
theorem gCheck_m (te:TypeId) (pe:Value) (hV:Has gl (glV te pe)) (hl:Go.EYtfcmhmglpcimiaaGreatDoor.look gl 1=some lvAll) {rf:List UInt8→Option Rf} (hR:RefsOk rf) (l:List Fl) (h:l.length≤200) (m:Nat) (r:D)
 (hm:m≤l.length) (h0:∀ k,k<m→stepZ rf l k=0) (hr:(m=l.length∧r=.v .nilIface)∨(m<l.length∧∃ e,e≠0∧stepZ rf l m=e∧r=erD e)):FnP Tryz.prog gl 6 [.lst 3 (l.map flD)] r:=by
 have h1:¬ (((l.map flD).length:Nat):Int)>200:=by rw[List.length_map];omega
 refine S0 Tryz.func6 rfl ?_
 ((repeat' ((conv=>whnf);first|exact .intro|refine G ?_|intro _|refine .mk ?_ ?_|refine H ?_|fail));all_goals conv=>whnf)
 refine ⟨{ σ:=Nat,fr:=fun k=>[(12,.c (.d (iD (k:Int))))],ks:=[],L:=fun k=>[],ex:=0,I:=fun k=>k≤m,μ:=fun k=>l.length - k },⟨0,Nat.zero_le _,?_⟩,fun (k:Nat) hk=>?_⟩
 ·((repeat' first|exact rfl|((conv=>whnf);first|done|exact suL|refine And.intro ?_ ?_|fail));all_goals conv=>whnf)
 ·replace hk:k≤m:=hk
  have e0:IntKind.i64.wrap ((k:Int)+1)=((k+1:Nat):Int):=by rw[wrapI (by omega)];rfl
  by_cases hlt:k<l.length
  ·have h2:(k:Int)<((l.map flD).length:Nat):=by rw[List.length_map];omega
   have hs:=stepZ_at (rf:=rf) hlt
   have hk1:k - 1<l.length:=by omega
   by_cases ho:okP l[k].c l[k].r
   ·have c1:=Check_s (gl:=gl) ho
    rw[if_pos ho] at hs
    have c3:=Less_d (gl:=gl) (l[k - 1]'hk1).c (l[k - 1]'hk1).r l[k].c l[k].r
    have g1:=get_map (f:=flD) hlt
    have g2:=get_map (f:=flD) (show k - 1<l.length by omega)
    have e1:0<k→IntKind.i64.wrap ((k:Int) - 1)=((k - 1:Nat):Int):=fun _=>by rw[wrapI (by omega)];omega
    have stop:stepZ rf l k≠0→∃ e,e≠0∧stepZ rf l k=e∧r=erD e:=fun hn=>by
     have hkm:k=m:=Classical.byContradiction fun hh=>hn (h0 k (by omega))
     subst hkm
     rcases hr with ⟨hr,_⟩|⟨_,hr⟩
     ·omega
     ·exact hr
    by_cases hb:0<k→lessF (l[k - 1]'hk1) l[k]
    ·rw[if_pos hb] at hs
     have hcase:((k:Int)>0∧lessF (l[k - 1]'hk1) l[k])∨¬ (k:Int)>0:=by
      by_cases hp:(k:Int)>0
      ·exact .inl ⟨hp,hb (by omega)⟩
      ·exact .inr hp
     by_cases ht:l[k].t=[]
     ·rw[if_pos ht] at hs
      obtain ⟨e,_,he,rfl⟩:=stop (by omega)
      obtain rfl:e=3:=by omega
      clear hs h0 hr hm stop hb
      rcases hcase with ⟨hp,hls⟩|hp
      ·replace e1:=e1 (by omega)
       ((repeat' ((conv=>whnf);first|exact .intro|refine G ?_|intro _|refine C1 c1 ?_|refine C1 c3 ?_|(first|rw[e1]|refine ⟨Int.natCast_nonneg _,_,g1,?_⟩|refine ⟨Int.natCast_nonneg _,_,g2,?_⟩)|refine .mk ?_ ?_|refine H ?_|fail));all_goals conv=>whnf)
       exact LeD.rfl
      ·clear e1
       ((repeat' ((conv=>whnf);first|exact .intro|refine G ?_|intro _|refine C1 c1 ?_|refine C1 c3 ?_|(first|refine ⟨Int.natCast_nonneg _,_,g1,?_⟩|refine ⟨Int.natCast_nonneg _,_,g2,?_⟩)|refine .mk ?_ ?_|refine H ?_|fail));all_goals conv=>whnf)
       exact LeD.rfl
     ·rw[if_neg ht] at hs
      rcases gText_d te pe hV hl hR l[k].t with ⟨hz,c4⟩|⟨e,he,hz,c4⟩
      ·have hkm:k<m:=by
        rcases hr with ⟨hr,_⟩|⟨_,e,he,hr,_⟩
        ·omega
        ·refine Nat.lt_of_le_of_ne hk fun hh=>?_
         subst hh
         omega
       clear hs h0 hr hm stop hb
       rcases hcase with ⟨hp,hls⟩|hp
       ·replace e1:=e1 (by omega)
        ((repeat' ((conv=>whnf);first|exact .intro|refine G ?_|intro _|refine C1 c1 ?_|refine C1 c3 ?_|refine C1 c4 ?_|(first|rw[e1]|refine ⟨Int.natCast_nonneg _,_,g1,?_⟩|refine ⟨Int.natCast_nonneg _,_,g2,?_⟩)|refine .mk ?_ ?_|refine H ?_|fail));all_goals conv=>whnf)
        refine ⟨k+1,⟨hkm,by show l.length - (k+1)<l.length - k;omega⟩,?_⟩
        ((repeat' first|exact rfl|((conv=>whnf);first|done|exact suL|refine And.intro ?_ ?_|fail));all_goals conv=>whnf)
        exact ceq e0
       ·clear e1
        ((repeat' ((conv=>whnf);first|exact .intro|refine G ?_|intro _|refine C1 c1 ?_|refine C1 c3 ?_|refine C1 c4 ?_|(first|refine ⟨Int.natCast_nonneg _,_,g1,?_⟩|refine ⟨Int.natCast_nonneg _,_,g2,?_⟩)|refine .mk ?_ ?_|refine H ?_|fail));all_goals conv=>whnf)
        refine ⟨k+1,⟨hkm,by show l.length - (k+1)<l.length - k;omega⟩,?_⟩
        ((repeat' first|exact rfl|((conv=>whnf);first|done|exact suL|refine And.intro ?_ ?_|fail));all_goals conv=>whnf)
        exact ceq e0
      ·obtain ⟨e',_,he',rfl⟩:=stop (by omega)
       obtain rfl:e'=e:=by omega
       clear hs h0 hr hm stop hb
       rcases hcase with ⟨hp,hls⟩|hp
       ·replace e1:=e1 (by omega)
        ((repeat' ((conv=>whnf);first|exact .intro|refine G ?_|intro _|refine C1 c1 ?_|refine C1 c3 ?_|refine C1 c4 ?_|(first|rw[e1]|refine ⟨Int.natCast_nonneg _,_,g1,?_⟩|refine ⟨Int.natCast_nonneg _,_,g2,?_⟩)|refine .mk ?_ ?_|refine H ?_|fail));all_goals conv=>whnf)
        exact LeD.rfl
       ·clear e1
        ((repeat' ((conv=>whnf);first|exact .intro|refine G ?_|intro _|refine C1 c1 ?_|refine C1 c3 ?_|refine C1 c4 ?_|(first|refine ⟨Int.natCast_nonneg _,_,g1,?_⟩|refine ⟨Int.natCast_nonneg _,_,g2,?_⟩)|refine .mk ?_ ?_|refine H ?_|fail));all_goals conv=>whnf)
        exact LeD.rfl
    ·rw[if_neg hb] at hs
     obtain ⟨e,_,he,rfl⟩:=stop (by omega)
     obtain rfl:e=5:=by omega
     have hp:(k:Int)>0:=Classical.byContradiction fun hh=>hb fun h=>by omega
     have hls:¬ lessF (l[k - 1]'hk1) l[k]:=fun hh=>hb fun _=>hh
     replace e1:=e1 (by omega)
     clear hs h0 hr hk hm stop hb
     ((repeat' ((conv=>whnf);first|exact .intro|refine G ?_|intro _|refine C1 c1 ?_|refine C1 c3 ?_|(first|rw[e1]|refine ⟨Int.natCast_nonneg _,_,g1,?_⟩|refine ⟨Int.natCast_nonneg _,_,g2,?_⟩)|refine .mk ?_ ?_|refine H ?_|fail));all_goals conv=>whnf)
     exact LeD.rfl
   ·have c1:=Check_n (gl:=gl) ho
    rw[if_neg ho] at hs
    have hkm:k=m:=Classical.byContradiction fun hn=>by have:=h0 k (by omega);omega
    subst hkm
    obtain ⟨e,_,he,rfl⟩:∃ e,e≠0∧stepZ rf l k=e∧r=erD e:=by
     rcases hr with ⟨hr,_⟩|⟨_,hr⟩
     ·omega
     ·exact hr
    obtain rfl:e=1:=by omega
    ((repeat' ((conv=>whnf);first|exact .intro|refine G ?_|intro _|refine C1 c1 ?_|(refine ⟨Int.natCast_nonneg _,_,get_map hlt,?_⟩)|refine .mk ?_ ?_|refine H ?_|fail));all_goals conv=>whnf)
    exact LeD.rfl
  ·have h2:¬ (k:Int)<((l.map flD).length:Nat):=by rw[List.length_map];omega
   have hkl:k=l.length:=by omega
   obtain rfl:r=.v .nilIface:=by
    rcases hr with ⟨_,hr⟩|⟨hr,_⟩
    ·exact hr
    ·omega
   ((repeat' ((conv=>whnf);first|exact .intro|refine G ?_|intro _|refine .mk ?_ ?_|refine H ?_|fail));all_goals conv=>whnf)
   exact LeD.rfl
def goodZ (rf:List UInt8→Option Rf) (l:List Fl):Prop:=l.length≤200∧∀ k,k<l.length→stepZ rf l k=0
theorem gCheck_k (l:List Fl) (h:200<l.length):FnP Tryz.prog gl 6 [.lst 3 (l.map flD)] (erD 4):=by
 have h1:(((l.map flD).length:Nat):Int)>200:=by rw[List.length_map];omega
 refine S0 Tryz.func6 rfl ?_
 ((repeat' ((conv=>whnf);first|exact .intro|refine G ?_|intro _|refine .mk ?_ ?_|refine H ?_|fail));all_goals conv=>whnf)
 exact LeD.rfl
theorem first_of {p:Nat→Prop} [DecidablePred p]:∀ n:Nat,(∀ k,k<n→p k)∨∃ m,m<n∧(∀ k,k<m→p k)∧¬ p m
 | 0=>.inl fun k h=>by omega
 | n+1=>by
  rcases first_of (p:=p) n with h|⟨m,h1,h2,h3⟩
  ·by_cases hn:p n
   ·exact .inl fun k hk=>by rcases Nat.lt_succ_iff_lt_or_eq.1 hk with hk|rfl;exact h k hk;exact hn
   ·exact .inr ⟨n,Nat.lt_succ_self n,h,hn⟩
  ·exact .inr ⟨m,by omega,h2,h3⟩
end
end Go.Proofs.YtfcmhmglpcimiaaGreatDoor
