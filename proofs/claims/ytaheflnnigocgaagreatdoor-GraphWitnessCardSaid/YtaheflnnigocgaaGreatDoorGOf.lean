/- Proved: a part of what the law is proved with (the reckoner, contracts of functions, plain laws). Conditions: as each says. -/
import Derived.Test.YtaheflnnigocgaaGreatDoorGBa
import Derived.Test.YtaheflnnigocgaaGreatDoorGGi
import Derived.Test.YtaheflnnigocgaaGreatDoorGIa
import Derived.Test.YtaheflnnigocgaaGreatDoorGJk
import Derived.Test.YtaheflnnigocgaaGreatDoorGOe
section
namespace Go.Proofs.YtaheflnnigocgaaGreatDoor
open Go Go.EYtaheflnnigocgaaGreatDoor
set_option maxRecDepth 100000
variable {gl:List (Nat×List D)}
theorem digsTab:∀ n:Fin 100,1≤n.val→digs n.val≠[]∧(digs n.val).head?≠some 48∧(digs n.val).head?≠some 36∧(∀ d ∈ digs n.val,isDig d)∧rv (digs n.val) (digs n.val).length=n.val:=by decide +kernel
theorem chTab:∀ n:Fin 27,1≤n.val→(UInt8.ofNat (64+n.val)).toNat=64+n.val:=by decide +kernel
theorem dl_n {b:UInt8} {s:List UInt8} (h:b≠36):dl (b::s)=(false,b::s):=by simp[dl,h]
theorem dl_y (s:List UInt8):dl (36::s)=(true,s):=by simp[dl]
theorem dl_if (f:Bool) {b:UInt8} {s:List UInt8} (h:b≠36):dl ((if f=true then [36] else [])++b::s)=(f,b::s):=by
 cases f
 ·exact dl_n h
 ·exact dl_y _
end Go.Proofs.YtaheflnnigocgaaGreatDoor
end
section
namespace Go.Proofs.YtaheflnnigocgaaGreatDoor
open Go Go.EYtaheflnnigocgaaGreatDoor
set_option maxRecDepth 100000
theorem txI_at {s:List UInt8}:∀ {n i:Nat},txI s n=some i→n≤6→tx.getD i []=s∧1≤i∧i≤6
 | 0,i,h,_=>by cases h
 | n+1,i,h,hn=>by
  unfold txI at h
  split at h
  ·rename_i e;cases h;exact ⟨e,by omega,by omega⟩
  ·exact txI_at h (by omega)
end Go.Proofs.YtaheflnnigocgaaGreatDoor
end
section
namespace Go.Proofs.YtaheflnnigocgaaGreatDoor
open Go Go.EYtaheflnnigocgaaGreatDoor
set_option maxRecDepth 100000
variable {gl:List (Nat×List D)}
theorem litZ_word {w:List UInt8} {c:UInt8} (h:w.head?=some c) (hw:wordlyP c):litZ w=if w=tT then some (3,1) else if w=tF then some (3,0) else none:=by
 unfold litZ
 by_cases h1:w=tT
 ·rw[if_pos h1,if_pos h1]
 ·rw[if_neg h1,if_neg h1]
  by_cases h2:w=tF
  ·rw[if_pos h2,if_pos h2]
  ·rw[if_neg h2,if_neg h2]
   cases hx:txI w 6 with
   | none=>rfl
   | some i =>
    obtain ⟨e,h3,h4⟩:=txI_at hx (Nat.le_refl _)
    subst e
    have:c=35:=by
     match i,h3,h4 with
     | 1,_,_=>cases h;rfl
     | 2,_,_=>cases h;rfl
     | 3,_,_=>cases h;rfl
     | 4,_,_=>cases h;rfl
     | 5,_,_=>cases h;rfl
     | 6,_,_=>cases h;rfl
    subst this
    exact absurd hw (by decide)
end Go.Proofs.YtaheflnnigocgaaGreatDoor
end
section
namespace Go.Proofs.YtaheflnnigocgaaGreatDoor
open Go Go.EYtaheflnnigocgaaGreatDoor
set_option maxRecDepth 100000
variable {gl:List (Nat×List D)}
def rfZ (s:List UInt8):Option Rf:=match (dl s).2 with
 | []=>none
 | ch::t=>if (65≤ch.toNat∧ch.toNat≤90)∧(dl t).2≠[]∧(dl t).2.length≤2∧(dl t).2.head?≠some 48∧(∀ d ∈ (dl t).2,isDig d) then some ⟨((ch.toNat - 64:Nat):Int),((rv (dl t).2 (dl t).2.length:Nat):Int),(dl s).1,(dl t).1⟩ else none
theorem rv_99 {l:List UInt8} (h0:l≠[]) (h2:l.length≤2) (h3:l.head?≠some 48) (hd:∀ d ∈ l,isDig d):1≤rv l l.length∧rv l l.length≤99:=by
 have hlt:=rv_lt (l:=l) (Nat.le_refl _) (fun d hx=>hd d (List.mem_of_mem_take hx))
 have hlen:0<l.length:=List.length_pos_iff.2 h0
 have hge:=rv_ge h0 h3 hd (l.length - 1) (by omega)
 rw[Nat.sub_add_cancel hlen] at hge
 have h99:rv l l.length<100:=Nat.lt_of_lt_of_le hlt (Nat.pow_le_pow_right (n:=10) (by decide) h2)
 have h01:1≤rv l l.length:=by have:=Nat.pow_le_pow_right (n:=10) (by decide) (Nat.zero_le (l.length - 1));omega
 omega
theorem ref_z (s:List UInt8):(∀ a,rfZ s=some a→FnP Tryz.prog gl 119 [.str s] (.tup [refD a.c a.r a.fc a.fr,errD 0])∧True)∧(rfZ s=none→FnP Tryz.prog gl 119 [.str s] refBad∧True):=by
 have bad:rfZ s=none→FnP Tryz.prog gl 119 [.str s] refBad→(∀ a,rfZ s=some a→FnP Tryz.prog gl 119 [.str s] (.tup [refD a.c a.r a.fc a.fr,errD 0])∧True)∧(rfZ s=none→FnP Tryz.prog gl 119 [.str s] refBad∧True):=fun h1 h2=>⟨fun a ha=>(by rw[h1] at ha;cases ha),fun _=>⟨h2,trivial⟩⟩
 obtain ⟨b,t0,h⟩:∃ b t0,dl s=(b,t0):=⟨_,_,rfl⟩
 cases t0 with
 | nil=>exact bad (by unfold rfZ;rw[h]) (Ref_1 h)
 | cons ch t =>
  by_cases hc:65≤ch.toNat∧ch.toNat≤90
  ·obtain ⟨b',l,h'⟩:∃ b' l,dl t=(b',l):=⟨_,_,rfl⟩
   have e:rfZ s=if (65≤ch.toNat∧ch.toNat≤90)∧l≠[]∧l.length≤2∧l.head?≠some 48∧(∀ d ∈ l,isDig d) then some ⟨((ch.toNat - 64:Nat):Int),((rv l l.length:Nat):Int),b,b'⟩ else none:=by
    unfold rfZ
    rw[h]
    simp only[]
    rw[h']
   by_cases h0:l=[]
   ·exact bad (by rw[e,if_neg (fun hh=>hh.2.1 h0)]) (Ref_3 h hc h' (.inl h0))
   by_cases hg:l.length≤2∧l.head?≠some 48
   ·have h4:=Ref_4 (gl:=gl) h hc h' h0 hg.1 hg.2
    by_cases hd:∀ d ∈ l,isDig d
    ·rw[if_pos hd] at h4
     rw[e,if_pos ⟨hc,h0,hg.1,hg.2,hd⟩]
     refine ⟨fun a ha=>?_,fun ha=>by cases ha⟩
     cases ha
     exact ⟨h4,trivial⟩
    ·rw[if_neg hd] at h4
     exact bad (by rw[e,if_neg (fun hh=>hd hh.2.2.2.2)]) h4
   ·have hb:2<l.length∨l.head?=some 48:=by
     by_cases e:l.head?=some 48
     ·exact .inr e
     ·exact .inl (Nat.lt_of_not_le fun h=>hg ⟨h,e⟩)
    exact bad (by rw[e,if_neg (fun hh=>hg ⟨hh.2.2.1,hh.2.2.2.1⟩)]) (Ref_3 h hc h' (.inr hb))
  ·exact bad (by unfold rfZ;rw[h];simp only[];rw[if_neg (fun hh=>hc hh.1)]) (Ref_2 h hc)
theorem rfZ_ok:RefsOk rfZ:=fun gl s _hs=>ref_z (gl:=gl) s
theorem dl_app {s l:List UInt8} {b:Bool} (h:dl s=(b,l)):s.length=(if b=true then 1 else 0)+l.length:=by
 rcases dl_inv3 h with ⟨rfl,rfl⟩|⟨rfl,_,rfl⟩ <;> simp <;> omega
theorem digs_le {l:List UInt8} (h0:l≠[]) (hd:∀ d ∈ l,isDig d):(digs (rv l l.length)).length≤l.length:=by
 have h1:0<l.length:=List.length_pos_iff.2 h0
 unfold digs
 split
 ·show 1≤l.length
  omega
 ·rename_i hn
  have hlt:=rv_lt (l:=l) (Nat.le_refl _) (fun d hx=>hd d (List.mem_of_mem_take hx))
  have:l.length≠1:=fun e=>by rw[e] at hlt hn;omega
  simp
  omega
theorem rfZ_some {s:List UInt8} {a:Rf} (h:rfZ s=some a):okP a.c a.r∧(nmR a).length≤s.length∧1≤s.length:=by
 unfold rfZ at h
 split at h
 ·cases h
 ·rename_i ch t e
  split at h
  ·rename_i hh
   obtain ⟨hc,h0,h2,h3,hd⟩:=hh
   have h99:=rv_99 h0 h2 h3 hd
   have l1:=dl_app (s:=s) (l:=ch::t) (b:=(dl s).1) (by rw[← e])
   have l2:=dl_app (s:=t) (l:=(dl t).2) (b:=(dl t).1) rfl
   have l3:=digs_le h0 hd
   cases h
   refine ⟨show 1≤((ch.toNat - 64:Nat):Int)∧((ch.toNat - 64:Nat):Int)≤26∧1≤((rv (dl t).2 (dl t).2.length:Nat):Int)∧((rv (dl t).2 (dl t).2.length:Nat):Int)≤99 by omega,?_,by rw[l1,List.length_cons];omega⟩
   show (nameL _ _ _ _).length≤_
   unfold nameL
   rw[l1,Int.toNat_natCast]
   simp only[List.length_append,List.length_cons]
   rw[l2]
   cases (dl s).1 <;> cases (dl t).1 <;> simp <;> omega
  ·cases h
theorem rfZ_name {a:Rf} (h:okP a.c a.r):rfZ (nmR a)=some a:=by
 obtain ⟨c,r,fc,fr⟩:=a
 obtain ⟨h1,h2,h3,h4⟩:=h
 simp only at h1 h2 h3 h4
 obtain ⟨n,rfl⟩:=Int.eq_ofNat_of_zero_le (show 0≤r by omega)
 obtain ⟨m,rfl⟩:=Int.eq_ofNat_of_zero_le (show 0≤c by omega)
 obtain ⟨d1,d2,d3,d4,d5⟩:=digsTab ⟨n,by omega⟩ (by show 1≤n;omega)
 have hc:=chTab ⟨m,by omega⟩ (by show 1≤m;omega)
 simp only at d1 d2 d3 d4 d5 hc
 obtain ⟨x,l,e⟩:=List.exists_cons_of_ne_nil d1
 have hch:UInt8.ofNat (64+m)≠36:=fun e=>by rw[e] at hc;have:(36:Nat)=64+m:=hc;omega
 have ha:x≠36:=fun h=>d3 (by rw[e,h];rfl)
 have e1:dl (nameL m n fc fr)=(fc,UInt8.ofNat (64+m)::((if fr=true then [36] else [])++digs n)):=dl_if fc hch
 have e2:dl ((if fr=true then [36] else [])++digs n)=(fr,digs n):=by rw[e];exact dl_if fr ha
 show rfZ (nameL m n fc fr)=_
 unfold rfZ
 rw[e1]
 simp only[]
 rw[e2,if_pos ⟨by omega,d1,digs_len n,d2,d4⟩,d5,hc,show 64+m - 64=m by omega]
theorem dig_word {c:UInt8} (h:isDig c):wordlyP c:=.inr (.inl ⟨UInt8.le_iff_toNat_le.2 h.1,UInt8.le_iff_toNat_le.2 h.2⟩)
theorem nmR_word {a:Rf} (h:okP a.c a.r):nmR a≠[]∧∀ c ∈ nmR a,wordlyP c:=by
 obtain ⟨c,r,fc,fr⟩:=a
 obtain ⟨h1,h2,h3,h4⟩:=h
 simp only at h1 h2 h3 h4
 obtain ⟨n,rfl⟩:=Int.eq_ofNat_of_zero_le (show 0≤r by omega)
 obtain ⟨m,rfl⟩:=Int.eq_ofNat_of_zero_le (show 0≤c by omega)
 obtain ⟨d1,d2,d3,d4,d5⟩:=digsTab ⟨n,by omega⟩ (by show 1≤n;omega)
 have hc:=chTab ⟨m,by omega⟩ (by show 1≤m;omega)
 simp only at d1 d2 d3 d4 d5 hc
 have hch:wordlyP (UInt8.ofNat (64+m)):=.inr (.inr (.inl ⟨UInt8.le_iff_toNat_le.2 (by rw[hc];show 65≤64+m;omega),UInt8.le_iff_toNat_le.2 (by rw[hc];show 64+m≤90;omega)⟩))
 have h36:wordlyP 36:=.inl rfl
 show nameL m n fc fr≠[]∧∀ c ∈ nameL m n fc fr,wordlyP c
 unfold nameL
 rw[Int.toNat_natCast,Int.toNat_natCast]
 refine ⟨by simp,fun c hc'=>?_⟩
 simp only[List.mem_append,List.mem_cons] at hc'
 rcases hc' with hc'|rfl|hc'|hc'
 ·cases fc
  ·simp at hc'
  ·simp at hc';subst hc';exact h36
 ·exact hch
 ·cases fr
  ·simp at hc'
  ·simp at hc';subst hc';exact h36
 ·exact dig_word (d4 c hc')
end Go.Proofs.YtaheflnnigocgaaGreatDoor
end
