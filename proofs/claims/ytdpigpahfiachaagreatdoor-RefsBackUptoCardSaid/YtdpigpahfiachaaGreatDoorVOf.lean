/- Proved: a part of what the law is proved with (the reckoner, contracts of functions, plain laws). Conditions: as each says. -/
import Derived.Test.YtdpigpahfiachaaGreatDoorVFv
import Derived.Test.YtdpigpahfiachaaGreatDoorVGe
import Derived.Test.YtdpigpahfiachaaGreatDoorVGi
import Derived.Test.YtdpigpahfiachaaGreatDoorVHd
import Derived.Test.YtdpigpahfiachaaGreatDoorVOd
import Derived.Test.YtdpigpahfiachaaGreatDoorVPg
section
namespace Go.Proofs.YtdpigpahfiachaaGreatDoor
open Go Go.EYtdpigpahfiachaaGreatDoor
set_option maxRecDepth 100000
section
variable {p:Par} {s:List UInt8}
theorem prim_rw (hc:PC p) {full:Bool} {tw:Nat→Rs Nd} {d D:Nat} (h200:s.length≤200) (hw:Fwd s tw) (hD:full=false→Rw s tw 1 d∧d+1≤D) {i j:Nat} {n:Nd} (h:primF p s full tw i=.ok n j):Gn n (j - i)∧Pd n 5 (j - i) D:=by
 have hpos:=primF_fwd hw h
 unfold primF at h
 split at h
 ·cases h
 ·rename_i c hcc
  have hl:=lt_of_get hcc
  split at h
  ·split at h
   ·cases h
   ·rename_i hfull
    obtain ⟨ht,hd⟩:=hD (by simpa using hfull)
    unfold parF at h
    cases hx:tw (i+1) with
    | no a e=>rw[hx] at h;cases h
    | ok m k =>
     rw[hx] at h
     simp only[Rs.bind_ok] at h
     have h1:=hw _ _ _ (show i+1≤s.length from hl) hx
     obtain ⟨⟨a,b,cc⟩,e⟩:=ht _ _ _ (show i+1≤s.length from hl) hx
     rw[Pd.bare (tgtN_pos m)] at e
     split at h
     ·cases h
      have:=le_skp s k
      exact ⟨⟨a,b,by omega⟩,(Pd.par e 5).mono (Int.le_refl _) (by omega) (by omega)⟩
     ·cases h
  ·split at h
   ·split at h
    ·rename_i b l hq
     have h1:=txtF_w _ _ _ hq
     have h2:=txtF_len _ _ _ hq
     rw[List.length_drop] at h2
     cases h
     refine ⟨⟨?_,⟨by decide,by omega,trivial⟩,?_⟩,(Pd.bare (Int.le_refl _)).2 ⟨?_,Nat.zero_le _⟩⟩
     ·rw[frm_2];exact ⟨rfl,⟨noR_z0,noR_z0⟩,rfl⟩
     ·show 0+1≤_;omega
     ·show (34::(dqN b++[34])).length≤_
      simp only[List.length_cons,List.length_append,List.length_nil]
      omega
    ·cases h
   ·split at h
    ·rename_i h35
     split at h
     ·rename_i m l hq
      obtain ⟨h1,h2,h3⟩:=hc.lit _ _ _ (by rw[List.head?_drop,hcc,h35]) hq
      have h4:=p.hlit _ _ _ hq
      cases h
      refine ⟨⟨?_,⟨⟨by omega,by omega⟩,by decide,trivial⟩,?_⟩,(Pd.bare (Int.le_refl _)).2 ⟨?_,Nat.zero_le _⟩⟩
      ·rw[frm_4];exact ⟨rfl,rfl,⟨noR_z0,noR_z0⟩,h1,h2⟩
      ·show 0+1≤_;omega
      ·show (tx.getD m.toNat []).length≤_;omega
     ·cases h
    ·split at h
     ·unfold wordF at h
      have lw:=wdAt_len (s:=s) i
      split at h
      ·rename_i hq
       split at h
       ·cases h
       ·rename_i hfull
        obtain ⟨ht,hd⟩:=hD (by simpa using hfull)
        have hcl:=hq.2
        rw[hc.cl] at hcl
        have hk:=lt_of_get hq.1
        have hlt:(wdAt s i).length≤1048576:=Nat.le_trans (wdAt_le (s:=s) i) (by omega)
        have mk:∀ ks:List Nd,frmL True ks→okL ks→cntL ks+1≤j - i→(wdAt s i).length+((comN (wrL ks)).length+2)≤j - i→mxL (depL ks)+1≤D→Gn (.mk 9 0 (wdAt s i) z0 z0 ks) (j - i)∧Pd (.mk 9 0 (wdAt s i) z0 z0 ks) 5 (j - i) D:=fun ks g1 g2 g3 g4 g5=>by
         refine ⟨⟨?_,⟨by decide,hlt,g2⟩,g3⟩,(Pd.bare (Int.le_refl _)).2 ⟨?_,g5⟩⟩
         ·rw[frm_9];exact ⟨hcl,⟨noR_z0,noR_z0⟩,rfl,g1⟩
         ·show ((wdAt s i)++40::(comN (wrL ks)++[41])).length≤_
          simp only[List.length_cons,List.length_append,List.length_nil]
          omega
        unfold callF at h
        split at h
        ·cases h
         have:=le_skp s (wdE s i+1)
         exact mk [] trivial trivial (by show 0+1≤_;omega) (by show _+(0+2)≤_;omega) (by show 0+1≤D;omega)
        ·cases hx:argsF p s tw (s.length+1) [] (wdE s i+1) with
         | no a e=>rw[hx] at h;cases h
         | ok ls k =>
          rw[hx] at h
          cases h
          obtain ⟨ks,e0,g1,g2,g3,g4,g5,g6⟩:=argsF_rw hc h200 hw ht (show wdE s i+1≤s.length from hk) (by omega) hx
          rw[List.nil_append] at e0
          subst e0
          have:=argsF_fwd hw (show wdE s i+1≤s.length from hk) hx
          exact mk ls g1 g2 (by omega) (by omega) (by omega)
      ·split at h
       ·rename_i m hm
        cases h
        obtain ⟨a,b,e,f,g,q⟩:=hc.pl _ _ (Nat.le_trans (wdAt_le (s:=s) i) h200) (wdl_all _) hm
        exact ⟨⟨a,b,by omega⟩,(Pd.bare (by omega)).2 ⟨by omega,by omega⟩⟩
       ·cases h
     ·cases h
theorem neg_rw (hc:PC p) {full:Bool} {ng tw:Nat→Rs Nd} {d D:Nat} (h200:s.length≤200) (hn:Fwd s ng) (hw:Fwd s tw) (hD:full=false→(Rw s ng 5 d∧Rw s tw 1 d)∧d+1≤D):Rw s (negF p s full ng tw) 5 D:=by
 intro i n j hi h
 have h2:=le_skp s i
 unfold negF at h
 split at h
 ·rename_i hq
  have hl:=lt_of_get hq
  split at h
  ·cases h
  ·rename_i hfull
   obtain ⟨⟨hr,-⟩,hd⟩:=hD (by simpa using hfull)
   cases hx:ng (skp s i+1) with
   | no a e=>rw[hx] at h;cases h
   | ok m k =>
    rw[hx] at h
    cases h
    have h1:=hn _ _ _ (show skp s i+1≤s.length from hl) hx
    obtain ⟨⟨a,b,cc⟩,e1,e2⟩:=hr _ _ _ (show skp s i+1≤s.length from hl) hx
    refine ⟨⟨?_,⟨by decide,by decide,b,trivial⟩,?_⟩,(Pd.bare (Int.le_refl _)).2 ⟨?_,?_⟩⟩
    ·show frmN (.mk 7 0 [] z0 z0 [m]) False
     rw[frm_7];exact ⟨rfl,rfl,⟨noR_z0,noR_z0⟩,rfl,a,trivial⟩
    ·show (cntN m+0)+1≤_;omega
    ·show (45::brN (wrN m) (tgtN m<5)).length≤_
     rw[List.length_cons];omega
    ·show brD m 5 (depN m)+1≤D;omega
 ·obtain ⟨⟨a,b,cc⟩,e⟩:=prim_rw hc h200 hw (fun hf=>⟨(hD hf).1.2,(hD hf).2⟩) h
  exact ⟨⟨a,b,by omega⟩,e.mono (Int.le_refl _) (by omega) (Nat.le_refl _)⟩
theorem one_rw (hc:PC p) (h200:s.length≤200):∀ d,Rw s (oneB p s d) 5 d
 | 0=>neg_rw (d:=0) hc h200 no_fwd no_fwd (fun h=>by cases h)
 | d+1=>neg_rw (d:=d) hc h200 (oneBF_fwd p d) (Lo_fwd (oneBF_fwd p d) 4 1) (fun _=>⟨⟨one_rw hc h200 d,Lo_rw (oneBF_fwd p d) (one_rw hc h200 d) 4 1 (by omega) (by omega)⟩,Nat.le_refl _⟩)
theorem parse_rw (hc:PC p) (h200:s.length≤200) (h1:1≤s.length) {n:Nd} {i:Nat} (h:allF (s:=s) (Tw s (oneA p s 30) 4)=.ok n i):frmN n False∧okN n∧cntN n≤200∧(61::wrN n).length≤s.length∧depN n≤30:=by
 rw[all_eq 30 h1] at h
 unfold allF at h
 cases hx:Lo s (oneB p s 30) 4 1 1 with
 | no a e=>rw[hx] at h;cases h
 | ok m k =>
  rw[hx] at h
  simp only[Rs.bind_ok] at h
  have h3:=Lo_fwd (oneBF_fwd p 30) 4 1 _ _ _ h1 hx
  obtain ⟨⟨a,b,cc⟩,e⟩:=Lo_rw (oneBF_fwd p 30) (one_rw hc h200 30) 4 1 (by omega) (by omega) 1 m k h1 hx
  replace e:=(Pd.bare (by have:=tgtN_pos m;omega)).1 e
  split at h
  ·cases h
   exact ⟨a,b,by omega,by rw[List.length_cons];omega,e.2⟩
  ·cases h
end
end Go.Proofs.YtdpigpahfiachaaGreatDoor
end
section
namespace Go.Proofs.YtdpigpahfiachaaGreatDoor
open Go Go.EYtdpigpahfiachaaGreatDoor
set_option maxRecDepth 100000
variable {gl:List (Nat×List D)}
def rfZ (s:List UInt8):Option Rf:=match (dl s).2 with
 | []=>none
 | ch::t=>if (65≤ch.toNat∧ch.toNat≤90)∧(dl t).2≠[]∧(dl t).2.length≤2∧(dl t).2.head?≠some 48∧(∀ d ∈ (dl t).2,isDig d) then some ⟨((ch.toNat - 64:Nat):Int),((rv (dl t).2 (dl t).2.length:Nat):Int),(dl s).1,(dl t).1⟩ else none
theorem rv_99 {l:List UInt8} (h0:l≠[]) (h2:l.length≤2) (h3:l.head?≠some 48) (hd:∀ d ∈ l,isDig d):1≤rv l l.length∧rv l l.length≤99:=by
 have hlt:=rv_lt (l:=l) (Nat.le_refl _) (fun d hx=>hd d (List.mem_of_mem_take hx))
 have hlen:0<l.length:=List.length_pos_iff.2 h0
 have hge:=rv_ge h0 h3 hd (l.length - 1) (by omega)
 rw[Nat.sub_add_cancel hlen] at hge
 have h99:rv l l.length<100:=Nat.lt_of_lt_of_le hlt (Nat.pow_le_pow_right (n:=10) (by decide) h2)
 have h01:1≤rv l l.length:=by have:=Nat.pow_le_pow_right (n:=10) (by decide) (Nat.zero_le (l.length - 1));omega
 omega
theorem ref_z (s:List UInt8) (hs:s.length≤140737488355328) :
 (∀ a,rfZ s=some a→FnP Tryz.prog gl 205 [.str s] (.tup [refD a.c a.r a.fc a.fr,errD 0])∧FnP Tryz.prog gl 140 [.str s] (.tup [refD a.c a.r a.fc a.fr,tD true]))∧
 (rfZ s=none→FnP Tryz.prog gl 205 [.str s] refBad∧FnP Tryz.prog gl 140 [.str s] rrBad):=by
 have bad:rfZ s=none→FnP Tryz.prog gl 205 [.str s] refBad∧FnP Tryz.prog gl 140 [.str s] rrBad→(∀ a,rfZ s=some a→FnP Tryz.prog gl 205 [.str s] (.tup [refD a.c a.r a.fc a.fr,errD 0])∧FnP Tryz.prog gl 140 [.str s] (.tup [refD a.c a.r a.fc a.fr,tD true]))∧
  (rfZ s=none→FnP Tryz.prog gl 205 [.str s] refBad∧FnP Tryz.prog gl 140 [.str s] rrBad):=fun h1 h2=>⟨fun a ha=>(by rw[h1] at ha;cases ha),fun _=>h2⟩
 obtain ⟨b,t0,h⟩:∃ b t0,dl s=(b,t0):=⟨_,_,rfl⟩
 cases t0 with
 | nil=>exact bad (by unfold rfZ;rw[h]) ⟨Ref_1 h,rRef_1 h⟩
 | cons ch t =>
  by_cases hc:65≤ch.toNat∧ch.toNat≤90
  ·obtain ⟨b',l,h'⟩:∃ b' l,dl t=(b',l):=⟨_,_,rfl⟩
   have e:rfZ s=if (65≤ch.toNat∧ch.toNat≤90)∧l≠[]∧l.length≤2∧l.head?≠some 48∧(∀ d ∈ l,isDig d) then some ⟨((ch.toNat - 64:Nat):Int),((rv l l.length:Nat):Int),b,b'⟩ else none:=by
    unfold rfZ
    rw[h]
    simp only[]
    rw[h']
   have hll:l.length≤s.length:=by
    rcases dl_inv2 h with ⟨rfl,_⟩|⟨rfl,_,_⟩ <;> rcases dl_inv3 h' with ⟨rfl,_⟩|⟨rfl,_,_⟩ <;> simp <;> omega
   by_cases h0:l=[]
   ·subst h0
    exact bad (by rw[e,if_neg (fun hh=>hh.2.1 rfl)]) ⟨Ref_3 h hc h' (.inl rfl),rRef_f h hc h' refWhole_e⟩
   by_cases hz:l.head?=some 48∧l≠[48]
   ·refine bad (by rw[e,if_neg (fun hh=>hh.2.2.2.1 hz.1)]) ⟨Ref_3 h hc h' (.inr (.inr hz.1)),rRef_f h hc h' ?_⟩
    obtain ⟨a,l,rfl⟩:=List.exists_cons_of_ne_nil h0
    obtain rfl:a=48:=Option.some.inj hz.1
    exact refWhole_z fun e=>hz.2 (by rw[e])
   have hW:=Whole_p (gl:=gl) l h0 hz (by omega)
   by_cases hg:l.length≤2∧l.head?≠some 48
   ·have h4:=Ref_4 (gl:=gl) h hc h' h0 hg.1 hg.2
    by_cases hd:∀ d ∈ l,isDig d
    ·have h99:=rv_99 h0 hg.1 hg.2 hd
     rw[if_pos hd] at h4
     rw[if_pos ⟨hd,by omega⟩] at hW
     rw[e,if_pos ⟨hc,h0,hg.1,hg.2,hd⟩]
     refine ⟨fun a ha=>?_,fun ha=>by cases ha⟩
     cases ha
     exact ⟨h4,rRef_s (n:=((rv l l.length:Nat):Int)) h hc h' hW (by omega)⟩
    ·rw[if_neg hd] at h4
     rw[if_neg fun hh=>hd hh.1] at hW
     exact bad (by rw[e,if_neg (fun hh=>hd hh.2.2.2.2)]) ⟨h4,rRef_f h hc h' hW⟩
   ·have hb:2<l.length∨l.head?=some 48:=by
     by_cases e:l.head?=some 48
     ·exact .inr e
     ·exact .inl (Nat.lt_of_not_le fun h=>hg ⟨h,e⟩)
    have h3:=Ref_3 (gl:=gl) h hc h' (.inr hb)
    have en:rfZ s=none:=by rw[e,if_neg (fun hh=>hg ⟨hh.2.2.1,hh.2.2.2.1⟩)]
    by_cases hw:wholeC l
    ·rw[if_pos hw] at hW
     refine bad en ⟨h3,rRef_n h hc h' hW ?_⟩
     by_cases e:l.head?=some 48
     ·have:l=[48]:=Classical.byContradiction fun hn=>hz ⟨e,hn⟩
      subst this
      left;show ((0 * 10+(48 - 48):Nat):Int)<1;decide
     ·right
      have h2:2<l.length:=by rcases hb with hb|hb;exact hb;exact absurd hb e
      have hge:=rv_ge h0 e hw.1 (l.length - 1) (by omega)
      rw[Nat.sub_add_cancel (by omega)] at hge
      have:10 ^ 2≤10 ^ (l.length - 1):=Nat.pow_le_pow_right (by decide) (by omega)
      omega
    ·rw[if_neg hw] at hW
     exact bad en ⟨h3,rRef_f h hc h' hW⟩
  ·exact bad (by unfold rfZ;rw[h];simp only[];rw[if_neg (fun hh=>hc hh.1)]) ⟨Ref_2 h hc,rRef_2 h hc⟩
theorem rfZ_ok:RefsOk rfZ:=fun gl s hs=>ref_z (gl:=gl) s (by omega)
theorem dl_app {s l:List UInt8} {b:Bool} (h:dl s=(b,l)):s.length=(if b=true then 1 else 0)+l.length:=by
 rcases dl_inv3 h with ⟨rfl,rfl⟩|⟨rfl,_,rfl⟩ <;> simp <;> omega
theorem digs_le {l:List UInt8} (h0:l≠[]) (hd:∀ d ∈ l,isDig d):(digs (rv l l.length)).length≤l.length:=by
 have h1:0<l.length:=List.length_pos_iff.2 h0
 unfold digs
 split
 ·show 1≤l.length
  omega
 ·rename_i hn
  have hlt:=rv_lt (l:=l) (Nat.le_refl _) (fun d hx=>hd d (List.mem_of_mem_take hx))
  have:l.length≠1:=fun e=>by rw[e] at hlt hn;omega
  simp
  omega
theorem rfZ_some {s:List UInt8} {a:Rf} (h:rfZ s=some a):okP a.c a.r∧(nmR a).length≤s.length∧1≤s.length:=by
 unfold rfZ at h
 split at h
 ·cases h
 ·rename_i ch t e
  split at h
  ·rename_i hh
   obtain ⟨hc,h0,h2,h3,hd⟩:=hh
   have h99:=rv_99 h0 h2 h3 hd
   have l1:=dl_app (s:=s) (l:=ch::t) (b:=(dl s).1) (by rw[← e])
   have l2:=dl_app (s:=t) (l:=(dl t).2) (b:=(dl t).1) rfl
   have l3:=digs_le h0 hd
   cases h
   refine ⟨show 1≤((ch.toNat - 64:Nat):Int)∧((ch.toNat - 64:Nat):Int)≤26∧1≤((rv (dl t).2 (dl t).2.length:Nat):Int)∧((rv (dl t).2 (dl t).2.length:Nat):Int)≤99 by omega,?_,by rw[l1,List.length_cons];omega⟩
   show (nameL _ _ _ _).length≤_
   unfold nameL
   rw[l1,Int.toNat_natCast]
   simp only[List.length_append,List.length_cons]
   rw[l2]
   cases (dl s).1 <;> cases (dl t).1 <;> simp <;> omega
  ·cases h
theorem rfZ_name {a:Rf} (h:okP a.c a.r):rfZ (nmR a)=some a:=by
 obtain ⟨c,r,fc,fr⟩:=a
 obtain ⟨h1,h2,h3,h4⟩:=h
 simp only at h1 h2 h3 h4
 obtain ⟨n,rfl⟩:=Int.eq_ofNat_of_zero_le (show 0≤r by omega)
 obtain ⟨m,rfl⟩:=Int.eq_ofNat_of_zero_le (show 0≤c by omega)
 obtain ⟨d1,d2,d3,d4,d5⟩:=digsTab ⟨n,by omega⟩ (by show 1≤n;omega)
 have hc:=chTab ⟨m,by omega⟩ (by show 1≤m;omega)
 simp only at d1 d2 d3 d4 d5 hc
 obtain ⟨x,l,e⟩:=List.exists_cons_of_ne_nil d1
 have hch:UInt8.ofNat (64+m)≠36:=fun e=>by rw[e] at hc;have:(36:Nat)=64+m:=hc;omega
 have ha:x≠36:=fun h=>d3 (by rw[e,h];rfl)
 have e1:dl (nameL m n fc fr)=(fc,UInt8.ofNat (64+m)::((if fr=true then [36] else [])++digs n)):=dl_if fc hch
 have e2:dl ((if fr=true then [36] else [])++digs n)=(fr,digs n):=by rw[e];exact dl_if fr ha
 show rfZ (nameL m n fc fr)=_
 unfold rfZ
 rw[e1]
 simp only[]
 rw[e2,if_pos ⟨by omega,d1,digs_len n,d2,d4⟩,d5,hc,show 64+m - 64=m by omega]
theorem dig_word {c:UInt8} (h:isDig c):wordlyP c:=.inr (.inl ⟨UInt8.le_iff_toNat_le.2 h.1,UInt8.le_iff_toNat_le.2 h.2⟩)
theorem nmR_word {a:Rf} (h:okP a.c a.r):nmR a≠[]∧∀ c ∈ nmR a,wordlyP c:=by
 obtain ⟨c,r,fc,fr⟩:=a
 obtain ⟨h1,h2,h3,h4⟩:=h
 simp only at h1 h2 h3 h4
 obtain ⟨n,rfl⟩:=Int.eq_ofNat_of_zero_le (show 0≤r by omega)
 obtain ⟨m,rfl⟩:=Int.eq_ofNat_of_zero_le (show 0≤c by omega)
 obtain ⟨d1,d2,d3,d4,d5⟩:=digsTab ⟨n,by omega⟩ (by show 1≤n;omega)
 have hc:=chTab ⟨m,by omega⟩ (by show 1≤m;omega)
 simp only at d1 d2 d3 d4 d5 hc
 have hch:wordlyP (UInt8.ofNat (64+m)):=.inr (.inr (.inl ⟨UInt8.le_iff_toNat_le.2 (by rw[hc];show 65≤64+m;omega),UInt8.le_iff_toNat_le.2 (by rw[hc];show 64+m≤90;omega)⟩))
 have h36:wordlyP 36:=.inl rfl
 show nameL m n fc fr≠[]∧∀ c ∈ nameL m n fc fr,wordlyP c
 unfold nameL
 rw[Int.toNat_natCast,Int.toNat_natCast]
 refine ⟨by simp,fun c hc'=>?_⟩
 simp only[List.mem_append,List.mem_cons] at hc'
 rcases hc' with hc'|rfl|hc'|hc'
 ·cases fc
  ·simp at hc'
  ·simp at hc';subst hc';exact h36
 ·exact hch
 ·cases fr
  ·simp at hc'
  ·simp at hc';subst hc';exact h36
 ·exact dig_word (d4 c hc')
end Go.Proofs.YtdpigpahfiachaaGreatDoor
end
