/- Proved: a part of what the law is proved with (the reckoner, contracts of functions, plain laws). Conditions: as each says. -/
import Derived.Test.YtaheflnnigocgaaGreatDoorHFp
import Derived.Test.YtaheflnnigocgaaGreatDoorHGi
import Derived.Test.YtaheflnnigocgaaGreatDoorHIa
import Derived.Test.YtaheflnnigocgaaGreatDoorHIn
import Derived.Test.YtaheflnnigocgaaGreatDoorHPg
section
namespace Go.Proofs.YtaheflnnigocgaaGreatDoor
open Go Go.EYtaheflnnigocgaaGreatDoor
set_option maxRecDepth 100000
theorem txI_at {s:List UInt8}:∀ {n i:Nat},txI s n=some i→n≤6→tx.getD i []=s∧1≤i∧i≤6
 | 0,i,h,_=>by cases h
 | n+1,i,h,hn=>by
  unfold txI at h
  split at h
  ·rename_i e;cases h;exact ⟨e,by omega,by omega⟩
  ·exact txI_at h (by omega)
end Go.Proofs.YtaheflnnigocgaaGreatDoor
end
section
namespace Go.Proofs.YtaheflnnigocgaaGreatDoor
open Go Go.EYtaheflnnigocgaaGreatDoor
set_option maxRecDepth 100000
variable {gl:List (Nat×List D)}
theorem litZ_word {w:List UInt8} {c:UInt8} (h:w.head?=some c) (hw:wordlyP c):litZ w=if w=tT then some (3,1) else if w=tF then some (3,0) else none:=by
 unfold litZ
 by_cases h1:w=tT
 ·rw[if_pos h1,if_pos h1]
 ·rw[if_neg h1,if_neg h1]
  by_cases h2:w=tF
  ·rw[if_pos h2,if_pos h2]
  ·rw[if_neg h2,if_neg h2]
   cases hx:txI w 6 with
   | none=>rfl
   | some i =>
    obtain ⟨e,h3,h4⟩:=txI_at hx (Nat.le_refl _)
    subst e
    have:c=35:=by
     match i,h3,h4 with
     | 1,_,_=>cases h;rfl
     | 2,_,_=>cases h;rfl
     | 3,_,_=>cases h;rfl
     | 4,_,_=>cases h;rfl
     | 5,_,_=>cases h;rfl
     | 6,_,_=>cases h;rfl
    subst this
    exact absurd hw (by decide)
end Go.Proofs.YtaheflnnigocgaaGreatDoor
end
section
namespace Go.Proofs.YtaheflnnigocgaaGreatDoor
open Go Go.EYtaheflnnigocgaaGreatDoor
set_option maxRecDepth 100000
variable {gl:List (Nat×List D)}
def rfZ (s:List UInt8):Option Rf:=match (dl s).2 with
 | []=>none
 | ch::t=>if (65≤ch.toNat∧ch.toNat≤90)∧(dl t).2≠[]∧(dl t).2.length≤2∧(dl t).2.head?≠some 48∧(∀ d ∈ (dl t).2,isDig d) then some ⟨((ch.toNat - 64:Nat):Int),((rv (dl t).2 (dl t).2.length:Nat):Int),(dl s).1,(dl t).1⟩ else none
theorem rv_99 {l:List UInt8} (h0:l≠[]) (h2:l.length≤2) (h3:l.head?≠some 48) (hd:∀ d ∈ l,isDig d):1≤rv l l.length∧rv l l.length≤99:=by
 have hlt:=rv_lt (l:=l) (Nat.le_refl _) (fun d hx=>hd d (List.mem_of_mem_take hx))
 have hlen:0<l.length:=List.length_pos_iff.2 h0
 have hge:=rv_ge h0 h3 hd (l.length - 1) (by omega)
 rw[Nat.sub_add_cancel hlen] at hge
 have h99:rv l l.length<100:=Nat.lt_of_lt_of_le hlt (Nat.pow_le_pow_right (n:=10) (by decide) h2)
 have h01:1≤rv l l.length:=by have:=Nat.pow_le_pow_right (n:=10) (by decide) (Nat.zero_le (l.length - 1));omega
 omega
theorem ref_z (s:List UInt8):(∀ a,rfZ s=some a→FnP Tryz.prog gl 119 [.str s] (.tup [refD a.c a.r a.fc a.fr,errD 0])∧True)∧(rfZ s=none→FnP Tryz.prog gl 119 [.str s] refBad∧True):=by
 have bad:rfZ s=none→FnP Tryz.prog gl 119 [.str s] refBad→(∀ a,rfZ s=some a→FnP Tryz.prog gl 119 [.str s] (.tup [refD a.c a.r a.fc a.fr,errD 0])∧True)∧(rfZ s=none→FnP Tryz.prog gl 119 [.str s] refBad∧True):=fun h1 h2=>⟨fun a ha=>(by rw[h1] at ha;cases ha),fun _=>⟨h2,trivial⟩⟩
 obtain ⟨b,t0,h⟩:∃ b t0,dl s=(b,t0):=⟨_,_,rfl⟩
 cases t0 with
 | nil=>exact bad (by unfold rfZ;rw[h]) (Ref_1 h)
 | cons ch t =>
  by_cases hc:65≤ch.toNat∧ch.toNat≤90
  ·obtain ⟨b',l,h'⟩:∃ b' l,dl t=(b',l):=⟨_,_,rfl⟩
   have e:rfZ s=if (65≤ch.toNat∧ch.toNat≤90)∧l≠[]∧l.length≤2∧l.head?≠some 48∧(∀ d ∈ l,isDig d) then some ⟨((ch.toNat - 64:Nat):Int),((rv l l.length:Nat):Int),b,b'⟩ else none:=by
    unfold rfZ
    rw[h]
    simp only[]
    rw[h']
   by_cases h0:l=[]
   ·exact bad (by rw[e,if_neg (fun hh=>hh.2.1 h0)]) (Ref_3 h hc h' (.inl h0))
   by_cases hg:l.length≤2∧l.head?≠some 48
   ·have h4:=Ref_4 (gl:=gl) h hc h' h0 hg.1 hg.2
    by_cases hd:∀ d ∈ l,isDig d
    ·rw[if_pos hd] at h4
     rw[e,if_pos ⟨hc,h0,hg.1,hg.2,hd⟩]
     refine ⟨fun a ha=>?_,fun ha=>by cases ha⟩
     cases ha
     exact ⟨h4,trivial⟩
    ·rw[if_neg hd] at h4
     exact bad (by rw[e,if_neg (fun hh=>hd hh.2.2.2.2)]) h4
   ·have hb:2<l.length∨l.head?=some 48:=by
     by_cases e:l.head?=some 48
     ·exact .inr e
     ·exact .inl (Nat.lt_of_not_le fun h=>hg ⟨h,e⟩)
    exact bad (by rw[e,if_neg (fun hh=>hg ⟨hh.2.2.1,hh.2.2.2.1⟩)]) (Ref_3 h hc h' (.inr hb))
  ·exact bad (by unfold rfZ;rw[h];simp only[];rw[if_neg (fun hh=>hc hh.1)]) (Ref_2 h hc)
theorem rfZ_ok:RefsOk rfZ:=fun gl s _hs=>ref_z (gl:=gl) s
theorem dl_app {s l:List UInt8} {b:Bool} (h:dl s=(b,l)):s.length=(if b=true then 1 else 0)+l.length:=by
 rcases dl_inv3 h with ⟨rfl,rfl⟩|⟨rfl,_,rfl⟩ <;> simp <;> omega
theorem digs_le {l:List UInt8} (h0:l≠[]) (hd:∀ d ∈ l,isDig d):(digs (rv l l.length)).length≤l.length:=by
 have h1:0<l.length:=List.length_pos_iff.2 h0
 unfold digs
 split
 ·show 1≤l.length
  omega
 ·rename_i hn
  have hlt:=rv_lt (l:=l) (Nat.le_refl _) (fun d hx=>hd d (List.mem_of_mem_take hx))
  have:l.length≠1:=fun e=>by rw[e] at hlt hn;omega
  simp
  omega
theorem rfZ_some {s:List UInt8} {a:Rf} (h:rfZ s=some a):okP a.c a.r∧(nmR a).length≤s.length∧1≤s.length:=by
 unfold rfZ at h
 split at h
 ·cases h
 ·rename_i ch t e
  split at h
  ·rename_i hh
   obtain ⟨hc,h0,h2,h3,hd⟩:=hh
   have h99:=rv_99 h0 h2 h3 hd
   have l1:=dl_app (s:=s) (l:=ch::t) (b:=(dl s).1) (by rw[← e])
   have l2:=dl_app (s:=t) (l:=(dl t).2) (b:=(dl t).1) rfl
   have l3:=digs_le h0 hd
   cases h
   refine ⟨show 1≤((ch.toNat - 64:Nat):Int)∧((ch.toNat - 64:Nat):Int)≤26∧1≤((rv (dl t).2 (dl t).2.length:Nat):Int)∧((rv (dl t).2 (dl t).2.length:Nat):Int)≤99 by omega,?_,by rw[l1,List.length_cons];omega⟩
   show (nameL _ _ _ _).length≤_
   unfold nameL
   rw[l1,Int.toNat_natCast]
   simp only[List.length_append,List.length_cons]
   rw[l2]
   cases (dl s).1 <;> cases (dl t).1 <;> simp <;> omega
  ·cases h
theorem rfZ_name {a:Rf} (h:okP a.c a.r):rfZ (nmR a)=some a:=by
 obtain ⟨c,r,fc,fr⟩:=a
 obtain ⟨h1,h2,h3,h4⟩:=h
 simp only at h1 h2 h3 h4
 obtain ⟨n,rfl⟩:=Int.eq_ofNat_of_zero_le (show 0≤r by omega)
 obtain ⟨m,rfl⟩:=Int.eq_ofNat_of_zero_le (show 0≤c by omega)
 obtain ⟨d1,d2,d3,d4,d5⟩:=digsTab ⟨n,by omega⟩ (by show 1≤n;omega)
 have hc:=chTab ⟨m,by omega⟩ (by show 1≤m;omega)
 simp only at d1 d2 d3 d4 d5 hc
 obtain ⟨x,l,e⟩:=List.exists_cons_of_ne_nil d1
 have hch:UInt8.ofNat (64+m)≠36:=fun e=>by rw[e] at hc;have:(36:Nat)=64+m:=hc;omega
 have ha:x≠36:=fun h=>d3 (by rw[e,h];rfl)
 have e1:dl (nameL m n fc fr)=(fc,UInt8.ofNat (64+m)::((if fr=true then [36] else [])++digs n)):=dl_if fc hch
 have e2:dl ((if fr=true then [36] else [])++digs n)=(fr,digs n):=by rw[e];exact dl_if fr ha
 show rfZ (nameL m n fc fr)=_
 unfold rfZ
 rw[e1]
 simp only[]
 rw[e2,if_pos ⟨by omega,d1,digs_len n,d2,d4⟩,d5,hc,show 64+m - 64=m by omega]
theorem dig_word {c:UInt8} (h:isDig c):wordlyP c:=.inr (.inl ⟨UInt8.le_iff_toNat_le.2 h.1,UInt8.le_iff_toNat_le.2 h.2⟩)
theorem nmR_word {a:Rf} (h:okP a.c a.r):nmR a≠[]∧∀ c ∈ nmR a,wordlyP c:=by
 obtain ⟨c,r,fc,fr⟩:=a
 obtain ⟨h1,h2,h3,h4⟩:=h
 simp only at h1 h2 h3 h4
 obtain ⟨n,rfl⟩:=Int.eq_ofNat_of_zero_le (show 0≤r by omega)
 obtain ⟨m,rfl⟩:=Int.eq_ofNat_of_zero_le (show 0≤c by omega)
 obtain ⟨d1,d2,d3,d4,d5⟩:=digsTab ⟨n,by omega⟩ (by show 1≤n;omega)
 have hc:=chTab ⟨m,by omega⟩ (by show 1≤m;omega)
 simp only at d1 d2 d3 d4 d5 hc
 have hch:wordlyP (UInt8.ofNat (64+m)):=.inr (.inr (.inl ⟨UInt8.le_iff_toNat_le.2 (by rw[hc];show 65≤64+m;omega),UInt8.le_iff_toNat_le.2 (by rw[hc];show 64+m≤90;omega)⟩))
 have h36:wordlyP 36:=.inl rfl
 show nameL m n fc fr≠[]∧∀ c ∈ nameL m n fc fr,wordlyP c
 unfold nameL
 rw[Int.toNat_natCast,Int.toNat_natCast]
 refine ⟨by simp,fun c hc'=>?_⟩
 simp only[List.mem_append,List.mem_cons] at hc'
 rcases hc' with hc'|rfl|hc'|hc'
 ·cases fc
  ·simp at hc'
  ·simp at hc';subst hc';exact h36
 ·exact hch
 ·cases fr
  ·simp at hc'
  ·simp at hc';subst hc';exact h36
 ·exact dig_word (d4 c hc')
end Go.Proofs.YtaheflnnigocgaaGreatDoor
end
section
namespace Go.Proofs.YtaheflnnigocgaaGreatDoor
open Go Go.EYtaheflnnigocgaaGreatDoor
set_option maxRecDepth 100000
theorem itoa_word {m:Int} (h:0≤m):Lib.itoa m≠[]∧∀ c ∈ Lib.itoa m,wordlyP c:=by
 unfold Lib.itoa
 rw[if_neg (by omega)]
 obtain ⟨h1,h2,h3,h4⟩:=dec_facts m.toNat
 exact ⟨h3,fun c hc=>dig_word (h2 c hc)⟩
theorem nmR_char {a:Rf} (h:okP a.c a.r):(∃ c ∈ unsg (nmR a),¬ isDig c)∧(∃ c ∈ nmR a,isDig c)∧(∃ c,(nmR a).head?=some c∧wordlyP c):=by
 obtain ⟨w1,w2⟩:=nmR_word h
 have hw:∃ c,(nmR a).head?=some c∧wordlyP c:=by
  cases e:nmR a with
  | nil=>exact absurd e w1
  | cons c r=>exact ⟨c,rfl,w2 c (by rw[e];simp)⟩
 have hu:unsg (nmR a)=nmR a:=by
  unfold unsg
  rw[if_neg fun e=>?_]
  obtain ⟨c,hc,hcw⟩:=hw
  rw[hc] at e
  cases e
  exact (wordly_ne hcw).1 rfl
 refine ⟨?_,?_,hw⟩
 ·rw[hu]
  obtain ⟨c,r,fc,fr⟩:=a
  obtain ⟨h1,h2,h3,h4⟩:=h
  simp only at h1 h2 h3 h4
  obtain ⟨m,rfl⟩:=Int.eq_ofNat_of_zero_le (show 0≤c by omega)
  have hc:=chTab ⟨m,by omega⟩ (by show 1≤m;omega)
  simp only at hc
  refine ⟨UInt8.ofNat (64+m),?_,?_⟩
  ·show _ ∈ nameL m r fc fr
   unfold nameL
   rw[Int.toNat_natCast]
   simp
  ·unfold isDig
   rw[hc]
   omega
 ·obtain ⟨c,r,fc,fr⟩:=a
  obtain ⟨h1,h2,h3,h4⟩:=h
  simp only at h1 h2 h3 h4
  obtain ⟨n,rfl⟩:=Int.eq_ofNat_of_zero_le (show 0≤r by omega)
  obtain ⟨d1,d2,d3,d4,d5⟩:=digsTab ⟨n,by omega⟩ (by show 1≤n;omega)
  simp only at d1 d4
  obtain ⟨x,l,e⟩:=List.exists_cons_of_ne_nil d1
  refine ⟨x,?_,d4 x (by rw[e];simp)⟩
  show x ∈ nameL c n fc fr
  unfold nameL
  rw[Int.toNat_natCast,e]
  simp
theorem litZ_ref {a:Rf} (h:okP a.c a.r):litZ (nmR a)=none:=by
 obtain ⟨-,⟨d,hd,hdd⟩,c,hc,hcw⟩:=nmR_char h
 rw[litZ_word hc hcw,if_neg,if_neg]
 ·intro e
  rw[e] at hd
  simp only[List.mem_cons,List.not_mem_nil,or_false] at hd
  rcases hd with rfl|rfl|rfl|rfl|rfl <;> revert hdd <;> decide
 ·intro e
  rw[e] at hd
  simp only[List.mem_cons,List.not_mem_nil,or_false] at hd
  rcases hd with rfl|rfl|rfl|rfl <;> revert hdd <;> decide
theorem litN_skip {t:List UInt8}:∀ (k f n:Nat) (q:Int×Int),(∀ j,j<k→litZ (t.take (n+j))=none)→litZ (t.take (n+k))=some q→litN t (k+1+f) n=some (q.2,n+k)
 | 0,f,n,q,_,h=>by
  rw[show 0+1+f=f+1 by omega]
  unfold litN
  rw[show t.take n=t.take (n+0) from rfl,h]
  rfl
 | k+1,f,n,q,h0,h=>by
  rw[show k+1+1+f=(k+1+f)+1 by omega]
  unfold litN
  rw[show t.take n=t.take (n+0) from rfl,h0 0 (by omega)]
  have:=litN_skip k f (n+1) q (fun j hj=>by rw[show n+1+j=n+(j+1) by omega];exact h0 (j+1) (by omega)) (by rw[show n+1+k=n+(k+1) by omega];exact h)
  rw[this,show n+1+k=n+(k+1) by omega]
theorem litN_sound {t:List UInt8}:∀ (f n:Nat) (m:Int) (l:Nat),litN t f n=some (m,l)→∃ k,litZ (t.take l)=some (k,m)
 | 0,n,m,l,h=>by cases h
 | f+1,n,m,l,h=>by
  unfold litN at h
  split at h
  ·rename_i q hq
   cases h
   exact ⟨q.1,hq⟩
  ·exact litN_sound f (n+1) m l h
theorem lit_tab:∀ m:Fin 7,1≤m.val→(∀ j:Fin 7,j.val+1<(tx.getD m.val []).length→litZ ((tx.getD m.val []).take (1+j.val))=none)∧litZ (tx.getD m.val [])=some (4,(m.val:Int))∧1≤(tx.getD m.val []).length∧(tx.getD m.val []).length≤7:=by decide +kernel
theorem litF_tx (m:Int) (post:List UInt8) (h1:1≤m) (h2:m≤6):litF (tx.getD m.toNat []++post)=some (m,(tx.getD m.toNat []).length):=by
 obtain ⟨k,rfl⟩:=Int.eq_ofNat_of_zero_le (show 0≤m by omega)
 obtain ⟨a,b,c,d⟩:=lit_tab ⟨k,by omega⟩ (by show 1≤k;omega)
 simp only at a b c d
 rw[Int.toNat_natCast]
 generalize tx.getD k []=x at *
 unfold litF
 obtain ⟨n,hn⟩:∃ n,x.length=n+1:=⟨x.length - 1,by omega⟩
 have:=litN_skip (t:=x++post) n post.length 1 (4,(k:Int)) (fun j hj=>by
  rw[List.take_append_of_le_length (by omega)]
  exact a ⟨j,by omega⟩ (by show j+1<_;omega)) (by
  rw[show 1+n=x.length by omega,List.take_left]
  exact b)
 rw[List.length_append,hn,this,show 1+n=n+1 by omega]
theorem txI_sound {s:List UInt8}:∀ {n i:Nat},n≤6→txI s n=some i→1≤i∧i≤6∧tx.getD i []=s
 | 0,i,_,h=>by cases h
 | n+1,i,hn,h=>by
  unfold txI at h
  split at h
  ·rename_i e
   cases h
   exact ⟨by omega,by omega,e⟩
  ·exact txI_sound (by omega) h
theorem litF_sound {t:List UInt8} {m:Int} {l:Nat} (h35:t.head?=some 35) (h:litF t=some (m,l)):1≤m∧m≤6∧(tx.getD m.toNat []).length≤l:=by
 obtain ⟨k,hk⟩:=litN_sound _ _ _ _ h
 have hl:=litF_len t m l h
 obtain ⟨r,rfl⟩:∃ r,t=35::r:=by
  cases t with
  | nil=>cases h35
  | cons c r=>cases h35;exact ⟨r,rfl⟩
 obtain ⟨l',rfl⟩:∃ l',l=l'+1:=⟨l - 1,by omega⟩
 rw[List.take_succ_cons] at hk
 unfold litZ at hk
 rw[if_neg (by simp),if_neg (by simp)] at hk
 obtain ⟨i,hi,e⟩:=Option.map_eq_some_iff.1 hk
 cases e
 obtain ⟨a,b,c⟩:=txI_sound (by omega) hi
 refine ⟨by omega,by omega,?_⟩
 rw[Int.toNat_natCast,c]
 simp
 omega
theorem pbZ:PB (parZ rfZ) where
 num:=fun m h0 h=>by
  show plZ rfZ _=_
  unfold plZ
  rw[whole_itoa h]
 numW:=fun m h=>itoa_word h
 tru:=by
  change plZ rfZ tT=some (Nd.mk 3 1 [] z0 z0 [])
  unfold plZ
  rw[wholeZ_no ⟨84,by decide,by decide⟩]
  rfl
 fal:=by
  change plZ rfZ tF=some (Nd.mk 3 0 [] z0 z0 [])
  unfold plZ
  rw[wholeZ_no ⟨70,by decide,by decide⟩]
  rfl
 ref:=fun a h=>by
  refine ⟨?_,rfZ_name h⟩
  show plZ rfZ _=_
  unfold plZ
  rw[wholeZ_no (nmR_char h).1,litZ_ref h,rfZ_name h]
  rfl
 refW:=fun a h=>nmR_word h
 lit:=litF_tx
 cl:=rfl
theorem pcZ:PC (parZ rfZ) where
 pl:=fun w n hw hc h=>by
  change plZ rfZ w=some n at h
  unfold plZ at h
  cases hwz:wholeZ w with
  | some v =>
   rw[hwz] at h
   cases h
   have e:=itoa_whole hwz
   have hv:0≤v∧okI v:=by
    unfold wholeZ at hwz
    split at hwz
    ·rename_i hh
     cases hwz
     refine ⟨?_,hh.2⟩
     unfold wholeV
     split
     ·rename_i h45
      exfalso
      cases w with
      | nil=>cases h45
      | cons c r=>cases h45;exact (wordly_ne (hc 45 (by simp))).1 rfl
     ·omega
    ·cases hwz
   refine ⟨by rw[frm_1];exact ⟨rfl,rfl,⟨noR_z0,noR_z0⟩,hv.1⟩,⟨hv.2,by decide,trivial⟩,rfl,rfl,?_,rfl⟩
   show (Lib.itoa v).length≤_
   rw[e]
   exact Nat.le_refl _
  | none =>
   rw[hwz] at h
   simp only at h
   cases w with
   | nil=>cases h
   | cons c r =>
    rw[litZ_word (w:=c::r) (c:=c) rfl (hc c (by simp))] at h
    by_cases h1:c::r=tT
    ·rw[if_pos h1] at h
     cases h
     refine ⟨by rw[frm_3];exact ⟨rfl,rfl,⟨noR_z0,noR_z0⟩,.inr rfl⟩,⟨by decide,by decide,trivial⟩,rfl,rfl,?_,rfl⟩
     rw[h1];decide
    ·rw[if_neg h1] at h
     by_cases h2:c::r=tF
     ·rw[if_pos h2] at h
      cases h
      refine ⟨by rw[frm_3];exact ⟨rfl,rfl,⟨noR_z0,noR_z0⟩,.inl rfl⟩,⟨by decide,by decide,trivial⟩,rfl,rfl,?_,rfl⟩
      rw[h2];decide
     ·rw[if_neg h2] at h
      simp only at h
      obtain ⟨a,ha,e⟩:=Option.map_eq_some_iff.1 h
      cases e
      obtain ⟨k1,k2,k3⟩:=rfZ_some ha
      exact ⟨by rw[frm_5];exact ⟨rfl,rfl,rfl,noR_z0,k1⟩,⟨by decide,by decide,trivial⟩,rfl,rfl,k2,rfl⟩
 rf:=fun w a _ h=>rfZ_some h
 lit:=fun t m l h35 h=>litF_sound h35 h
 cl:=rfl
theorem parse_short {s:List UInt8} {m:Nd} {i:Nat} (h:parseZ rfZ s=.ok m i):frmN m False∧okN m∧cntN m≤200∧(61::wrN m).length≤s.length∧∃ j,parseZ rfZ (61::wrN m)=.ok m j:=by
 unfold parseZ at h
 split at h
 ·cases h
 ·rename_i h200
  split at h
  ·rename_i h61
   have h1:1≤s.length:=by
    cases s with
    | nil=>cases h61
    | cons c r=>simp
   obtain ⟨a,b,c,d,e⟩:=parse_rw pcZ (by omega) h1 h
   refine ⟨a,b,c,d,0,?_⟩
   unfold parseZ
   rw[if_neg (by omega),List.head?_cons,if_pos rfl]
   exact (parse_wr pbZ a b).1 e
  ·cases h
end Go.Proofs.YtaheflnnigocgaaGreatDoor
end
