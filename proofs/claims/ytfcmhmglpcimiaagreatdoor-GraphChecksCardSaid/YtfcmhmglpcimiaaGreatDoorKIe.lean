/- Proved: a part of what the law is proved with (the reckoner, contracts of functions, plain laws). Conditions: as each says. -/
import Derived.Test.YtfcmhmglpcimiaaGreatDoorKIc
namespace Go.Proofs.YtfcmhmglpcimiaaGreatDoor
open Go Go.EYtfcmhmglpcimiaaGreatDoor
set_option maxRecDepth 100000
section
set_option maxHeartbeats 8000000
variable {gl:List (Nat×List D)}
theorem two_4 {s:List UInt8} {i d:Nat} {r:Rs Nd} (hp:Gives1 gl 71 [.c (.ptr 0 0)] s i d r):Gives1 gl 46 [.c (.ptr 0 0),.c (.d (iD 4))] s i d r:=by
 cases r with
 | ok n k =>
  obtain ⟨k0,m,t,a,b,ks⟩:=n
  unfold Gives1 at hp ⊢
  refine S1 Tryz.func46 rfl ?_
  ((repeat' ((conv=>whnf);first|exact .intro|refine G ?_|intro _|refine C5 hp [0] ?_|refine .mk ?_ ?_|refine H ?_|fail));all_goals conv=>whnf)
  ((repeat' first|exact rfl|((conv=>whnf);first|done|exact suL|refine And.intro ?_ ?_|fail));all_goals conv=>whnf)
 | no q e =>
  unfold Gives1 at hp ⊢
  refine S1 Tryz.func46 rfl ?_
  ((repeat' ((conv=>whnf);first|exact .intro|refine G ?_|intro _|refine C5 hp [0] ?_|refine .mk ?_ ?_|refine H ?_|fail));all_goals conv=>whnf)
  ((repeat' first|exact rfl|((conv=>whnf);first|done|exact suL|refine And.intro ?_ ?_|fail));all_goals conv=>whnf)
theorem drop_slice {s:List UInt8} {j:Nat}:List.drop ((some ((j:Nat):Int)).getD 0).toNat (List.take ((none:Option Int).getD ((s.length:Nat):Int)).toNat s)=s.drop j:=by
 simp only[Option.getD_some,Option.getD_none,Int.toNat_natCast,List.take_length]
theorem sval_g {gl:List (Nat×List D)} {g:Nat} {l:List D} (h:Go.EYtfcmhmglpcimiaaGreatDoor.look gl g=some l) (fr:List (Nat×V)):sval gl fr (.global g)=some (.c (.d (.imm l))):=by
 show (match Go.EYtfcmhmglpcimiaaGreatDoor.look gl g with|some l=>some (V.c (.d (.imm l)))|none=>none)=_
 rw[h]
theorem frm_y {s:List UInt8} {sub:Nat→Nat→Rs Nd} {sel:Nat→Bool} {f:Nat} {n:Nd} {j op len:Nat} (h:opA s j=some (op,len)) (hs:sel op=true):frm s sub sel (f+1) n j=(sub op (skp s j+len)).bind fun m k=>frm s sub sel f (twoN op n m) k:=by
 rw[frm,h]
 simp only[]
 rw[if_pos hs]
theorem two_e {s:List UInt8} {l d i:Nat} {tw:Nat→Rs Nd} (_hl:Go.EYtfcmhmglpcimiaaGreatDoor.look gl 1=some lvAll) (hl3:l≤3) (_hs:s.length≤200) (_hf:Fwd s tw) (hi:i≤s.length)
 (ht:∀ j,j≤s.length→Gives1 gl 46 [.c (.ptr 0 0),.c (.d (iD ((l+1:Nat):Int)))] s j d (tw j)) {a:Nat} {e:Int} (hx:tw i=.no a e):Gives1 gl 46 [.c (.ptr 0 0),.c (.d (iD (l:Int)))] s i d (.no a e):=by
 have e0:IntKind.i64.wrap (((l:Nat):Int)+1)=((l+1:Nat):Int):=by rw[wrapI (by omega)];rfl
 have h4:¬ ((l:Nat):Int)=4:=by omega
 have hx0:=ht i hi
 rw[hx] at hx0
 unfold Gives1 at hx0 ⊢
 refine fn_of_vcS (nv:=9999) (cu:=[100010]) (l:=0) fits mixed Tryz.func46 rfl rfl hoB rfl rfl rfl rfl ?_
 ((repeat' ((conv=>whnf);first|exact .intro|refine G ?_|intro _|refine .mk ?_ ?_|refine H ?_|fail));all_goals conv=>whnf)
 refine ⟨{ σ:=Nat,fr:=fun q=>[],ks:=[],L:=fun q=>[],ex:=0,I:=fun q=>False,μ:=fun q=>0 },?_,fun q hq=>hq.elim⟩
 ((repeat' ((conv=>whnf);first|exact .intro|refine G ?_|intro _|refine C5 hx0 [0] ?_|(rw[e0])|refine .mk ?_ ?_|refine H ?_|fail));all_goals conv=>whnf)
 ((repeat' first|exact rfl|((conv=>whnf);first|done|exact suL|refine And.intro ?_ ?_|fail));all_goals conv=>whnf)
theorem two_lo {s:List UInt8} {l d i:Nat} {tw:Nat→Rs Nd} (hl:Go.EYtfcmhmglpcimiaaGreatDoor.look gl 1=some lvAll) (hl3:l≤3) (hs:s.length≤200) (hf:Fwd s tw) (hi:i≤s.length)
 (ht:∀ j,j≤s.length→Gives1 gl 46 [.c (.ptr 0 0),.c (.d (iD ((l+1:Nat):Int)))] s j d (tw j)) {n:Nd} {m:Nat} (hx:tw i=.ok n m) {nn:Nd} {jj:Nat} (hR:skR s (frm s (fun _=>tw) (fun op=>decide (tgt op=l+1)) (s.length+1) n m)=.ok nn jj) :
 Gives1 gl 46 [.c (.ptr 0 0),.c (.d (iD (l:Int)))] s i d (.ok nn jj):=by
 have e0:IntKind.i64.wrap (((l:Nat):Int)+1)=((l+1:Nat):Int):=by rw[wrapI (by omega)];rfl
 have h4:¬ ((l:Nat):Int)=4:=by omega
 have hx0:=ht i hi
 rw[hx] at hx0
 obtain ⟨hm0,hm1⟩:=hf i n m hi hx
 unfold Gives1 at hx0 ⊢
 clear hx
 refine fn_of_vcS (nv:=9999) (cu:=[100010]) (l:=0) fits mixed Tryz.func46 rfl rfl hoB rfl rfl rfl rfl ?_
 ((repeat' ((conv=>whnf);first|exact .intro|refine G ?_|intro _|refine .mk ?_ ?_|refine H ?_|fail));all_goals conv=>whnf)
 refine ⟨{ σ:=Nat×Nd,fr:=fun q=>[(5,.c (.ptr 2 0))],ks:=[0,2],L:=fun q=>[(0,rdB s q.1 d),(2,.var (ndC q.2) 64)],ex:=1,fz:=[3],I:=fun q=>q.1≤s.length∧∃ f,s.length - q.1<f∧skR s (frm s (fun _=>tw) (fun op=>decide (tgt op=l+1)) f q.2 q.1)=.ok nn jj,μ:=fun q=>s.length - q.1 },?_,?_⟩
 ·obtain ⟨f,hm2,hm3⟩:∃ f,s.length - m<f∧skR s (frm s (fun _=>tw) (fun op=>decide (tgt op=l+1)) f n m)=.ok nn jj:=⟨s.length+1,by omega,hR⟩
  obtain ⟨f,rfl⟩:∃ g,f=g+1:=⟨f - 1,by omega⟩
  have bl:=blanks_d (gl:=gl) s m d hm1 hs
  have hj:=skp_le hm1
  have hge:=le_skp s m
  have hop:opA s m=opT (s.drop (skp s m)):=rfl
  have hls:=lv_spec hl3 (s.drop (skp s m))
  rw[← hop] at hls
  obtain ⟨j,hjj⟩:∃ j,skp s m=j:=⟨_,rfl⟩
  rw[hjj] at bl hj hge hls
  obtain ⟨k0,m0,t0,a0,b0,ks0⟩:=n
  ((repeat' ((conv=>whnf);first|exact .intro|refine G ?_|intro _|refine C5 hx0 [0] ?_|refine C5 bl [0] ?_|(first|rw[e0]|rw[sval_g hl]|(refine ⟨_,lv_cut hl3,?_⟩)|(refine ⟨⟨Int.natCast_nonneg _,(show ((l:Nat):Int)<4 by omega)⟩,?_⟩))|refine .mk ?_ ?_|refine H ?_|fail));all_goals conv=>whnf)
  refine ⟨{ σ:=Nat,fr:=fun x=>[(22,.c (.d (iD (x:Int))))],ks:=[],L:=fun x=>[],ex:=0,I:=fun x=>x≤(lvs l).length∧lvF ((lvs l).drop x) (s.drop j)=lvF (lvs l) (s.drop j),μ:=fun x=>(lvs l).length - x },⟨0,⟨Nat.zero_le _,rfl⟩,?_⟩,fun (x:Nat) hx=>?_⟩
  ·((repeat' first|exact rfl|((conv=>whnf);first|done|exact suL|refine And.intro ?_ ?_|fail));all_goals conv=>whnf)
  ·obtain ⟨hx1,hx2⟩:=hx
   have hlen:=lvR_len l
   have hl6:=lvs_len l
   by_cases hx7:x<(lvs l).length
   ·have hx7':(x:Int)<((lvR l).length:Int):=by omega
    have hget:=lv_get hx7
    have hmem:=lv_mem hx7
    rw[lvF_drop hx7] at hx2
    generalize (lvs l)[x]=q at *
    obtain ⟨op,tx1⟩:=q
    simp only at hget hx2
    have c9:=opOf_d (gl:=gl) op tx1 hmem
    by_cases hpre:tx1.length≤(s.drop j).length∧(s.drop j).take tx1.length=tx1
    ·rw[if_pos hpre] at hx2
     have c2:=HasPrefix_d (gl:=gl) (s.drop j) tx1 (b:=true) (by simp only[hpre.1,hpre.2,decide_true,Bool.and_self])
     rw[← drop_slice] at c2
     rw[hls] at hx2
     obtain ⟨ho,hsel⟩:=Option.filter_eq_some_iff.1 hx2.symm
     have h8:=hpre.1
     rw[List.length_drop] at h8
     have h9:1≤tx1.length:=(opA_len ho).1
     rw[frm_y ho hsel,hjj] at hm3
     have e1:IntKind.i64.wrap (((j:Nat):Int)+((tx1.length:Nat):Int))=((j+tx1.length:Nat):Int):=by rw[wrapI (by omega)];rfl
     have hjl:j+tx1.length≤s.length:=by omega
     have hy0:=ht (j+tx1.length) hjl
     clear hpre hmem
     cases hy:tw (j+tx1.length) with
     | no q0 e0 =>
      rw[hy] at hm3
      cases hm3
     | ok n2 k2 =>
      rw[hy] at hm3 hy0
      unfold Gives1 at hy0
      simp only[Rs.bind_ok] at hm3
      obtain ⟨hk1,hk2⟩:=hf _ _ _ hjl hy
      obtain ⟨k1,m1,t1,a1,b1,ks1⟩:=n2
      ((repeat' ((conv=>whnf);first|exact .intro|refine G ?_|intro _|refine C5 hy0 [0] ?_|refine C1 c2 ?_|refine C1 c9 ?_|(first|rw[e0]|rw[e1]|(refine ⟨_,hget,?_⟩)|(refine ⟨⟨Int.natCast_nonneg _,(show ((j:Nat):Int)≤((s.length:Nat):Int) by omega),Int.le_refl _⟩,?_⟩))|refine .mk ?_ ?_|refine H ?_|fail));all_goals conv=>whnf)
      all_goals
       refine ⟨(k2,twoN op (.mk k0 m0 t0 a0 b0 ks0) (.mk k1 m1 t1 a1 b1 ks1)),⟨hk2,f,by show s.length - k2<f;omega,hm3⟩,?_⟩
       ((repeat' first|exact rfl|((conv=>whnf);first|done|exact suL|refine And.intro ?_ ?_|fail));all_goals conv=>whnf)
       all_goals exact lf0
    ·rw[if_neg hpre] at hx2
     have c2:=HasPrefix_d (gl:=gl) (s.drop j) tx1 (b:=false) (by
      by_cases g1:tx1.length≤(s.drop j).length
      ·by_cases g2:(s.drop j).take tx1.length=tx1
       ·exact absurd ⟨g1,g2⟩ hpre
       ·simp only[g2,decide_false,Bool.and_false]
      ·simp only[g1,decide_false,Bool.false_and])
     rw[← drop_slice] at c2
     clear hpre hmem
     ((repeat' ((conv=>whnf);first|exact .intro|refine G ?_|intro _|refine C5 hy0 [0] ?_|refine C1 c2 ?_|refine C1 c9 ?_|(first|rw[e0]|rw[e1]|(refine ⟨_,hget,?_⟩)|(refine ⟨⟨Int.natCast_nonneg _,(show ((j:Nat):Int)≤((s.length:Nat):Int) by omega),Int.le_refl _⟩,?_⟩))|refine .mk ?_ ?_|refine H ?_|fail));all_goals conv=>whnf)
     refine ⟨x+1,⟨⟨by omega,hx2⟩,by show (lvs l).length - (x+1)<(lvs l).length - x;omega⟩,?_⟩
     ((repeat' first|exact rfl|((conv=>whnf);first|done|exact suL|refine And.intro ?_ ?_|fail));all_goals conv=>whnf)
     exact ceq (by rw[wrapI (by omega)];rfl)
   ·have hx8:¬ (x:Int)<((lvR l).length:Int):=by omega
    obtain rfl:x=(lvs l).length:=by omega
    rw[List.drop_length,hls] at hx2
    have hx3:=Option.filter_eq_none_iff.1 hx2.symm
    rw[frm_none fun op len ho=>by
     have:=hx3 (op,len) ho
     simpa using this] at hm3
    simp only[skR,hjj,Rs.ok.injEq] at hm3
    obtain ⟨rfl,rfl⟩:=hm3
    ((repeat' ((conv=>whnf);first|exact .intro|refine G ?_|intro _|refine .mk ?_ ?_|refine H ?_|fail));all_goals conv=>whnf)
    ((repeat' first|exact rfl|((conv=>whnf);first|done|exact suL|refine And.intro ?_ ?_|fail));all_goals conv=>whnf)
 ·clear hm0 hm1 hx0 hR
  rintro ⟨m,n⟩ ⟨hm1,f,hm2,hm3⟩
  simp only at hm1 hm2 hm3
  obtain ⟨f,rfl⟩:∃ g,f=g+1:=⟨f - 1,by omega⟩
  have bl:=blanks_d (gl:=gl) s m d hm1 hs
  have hj:=skp_le hm1
  have hge:=le_skp s m
  have hop:opA s m=opT (s.drop (skp s m)):=rfl
  have hls:=lv_spec hl3 (s.drop (skp s m))
  rw[← hop] at hls
  obtain ⟨j,hjj⟩:∃ j,skp s m=j:=⟨_,rfl⟩
  rw[hjj] at bl hj hge hls
  obtain ⟨k0,m0,t0,a0,b0,ks0⟩:=n
  ((repeat' ((conv=>whnf);first|exact .intro|refine G ?_|intro _|refine C5 bl [0] ?_|(first|rw[e0]|rw[sval_g hl]|(refine ⟨_,lv_cut hl3,?_⟩)|(refine ⟨⟨Int.natCast_nonneg _,(show ((l:Nat):Int)<4 by omega)⟩,?_⟩))|refine .mk ?_ ?_|refine H ?_|fail));all_goals conv=>whnf)
  refine ⟨{ σ:=Nat,fr:=fun x=>[(22,.c (.d (iD (x:Int))))],ks:=[],L:=fun x=>[],ex:=0,I:=fun x=>x≤(lvs l).length∧lvF ((lvs l).drop x) (s.drop j)=lvF (lvs l) (s.drop j),μ:=fun x=>(lvs l).length - x },⟨0,⟨Nat.zero_le _,rfl⟩,?_⟩,fun (x:Nat) hx=>?_⟩
  ·((repeat' first|exact rfl|((conv=>whnf);first|done|exact suL|refine And.intro ?_ ?_|fail));all_goals conv=>whnf)
  ·obtain ⟨hx1,hx2⟩:=hx
   have hlen:=lvR_len l
   have hl6:=lvs_len l
   by_cases hx7:x<(lvs l).length
   ·have hx7':(x:Int)<((lvR l).length:Int):=by omega
    have hget:=lv_get hx7
    have hmem:=lv_mem hx7
    rw[lvF_drop hx7] at hx2
    generalize (lvs l)[x]=q at *
    obtain ⟨op,tx1⟩:=q
    simp only at hget hx2
    have c9:=opOf_d (gl:=gl) op tx1 hmem
    by_cases hpre:tx1.length≤(s.drop j).length∧(s.drop j).take tx1.length=tx1
    ·rw[if_pos hpre] at hx2
     have c2:=HasPrefix_d (gl:=gl) (s.drop j) tx1 (b:=true) (by simp only[hpre.1,hpre.2,decide_true,Bool.and_self])
     rw[← drop_slice] at c2
     rw[hls] at hx2
     obtain ⟨ho,hsel⟩:=Option.filter_eq_some_iff.1 hx2.symm
     have h8:=hpre.1
     rw[List.length_drop] at h8
     have h9:1≤tx1.length:=(opA_len ho).1
     rw[frm_y ho hsel,hjj] at hm3
     have e1:IntKind.i64.wrap (((j:Nat):Int)+((tx1.length:Nat):Int))=((j+tx1.length:Nat):Int):=by rw[wrapI (by omega)];rfl
     have hjl:j+tx1.length≤s.length:=by omega
     have hy0:=ht (j+tx1.length) hjl
     clear hpre hmem
     cases hy:tw (j+tx1.length) with
     | no q0 e0 =>
      rw[hy] at hm3
      cases hm3
     | ok n2 k2 =>
      rw[hy] at hm3 hy0
      unfold Gives1 at hy0
      simp only[Rs.bind_ok] at hm3
      obtain ⟨hk1,hk2⟩:=hf _ _ _ hjl hy
      obtain ⟨k1,m1,t1,a1,b1,ks1⟩:=n2
      ((repeat' ((conv=>whnf);first|exact .intro|refine G ?_|intro _|refine C5 hy0 [0] ?_|refine C1 c2 ?_|refine C1 c9 ?_|(first|rw[e0]|rw[e1]|(refine ⟨_,hget,?_⟩)|(refine ⟨⟨Int.natCast_nonneg _,(show ((j:Nat):Int)≤((s.length:Nat):Int) by omega),Int.le_refl _⟩,?_⟩))|refine .mk ?_ ?_|refine H ?_|fail));all_goals conv=>whnf)
      all_goals
       refine ⟨(k2,twoN op (.mk k0 m0 t0 a0 b0 ks0) (.mk k1 m1 t1 a1 b1 ks1)),⟨⟨hk2,f,by show s.length - k2<f;omega,hm3⟩,by show s.length - k2<s.length - m;omega⟩,?_⟩
       ((repeat' first|exact rfl|((conv=>whnf);first|done|exact suL|refine And.intro ?_ ?_|fail));all_goals conv=>whnf)
       all_goals exact lf0
    ·rw[if_neg hpre] at hx2
     have c2:=HasPrefix_d (gl:=gl) (s.drop j) tx1 (b:=false) (by
      by_cases g1:tx1.length≤(s.drop j).length
      ·by_cases g2:(s.drop j).take tx1.length=tx1
       ·exact absurd ⟨g1,g2⟩ hpre
       ·simp only[g2,decide_false,Bool.and_false]
      ·simp only[g1,decide_false,Bool.false_and])
     rw[← drop_slice] at c2
     clear hpre hmem
     ((repeat' ((conv=>whnf);first|exact .intro|refine G ?_|intro _|refine C5 hy0 [0] ?_|refine C1 c2 ?_|refine C1 c9 ?_|(first|rw[e0]|rw[e1]|(refine ⟨_,hget,?_⟩)|(refine ⟨⟨Int.natCast_nonneg _,(show ((j:Nat):Int)≤((s.length:Nat):Int) by omega),Int.le_refl _⟩,?_⟩))|refine .mk ?_ ?_|refine H ?_|fail));all_goals conv=>whnf)
     refine ⟨x+1,⟨⟨by omega,hx2⟩,by show (lvs l).length - (x+1)<(lvs l).length - x;omega⟩,?_⟩
     ((repeat' first|exact rfl|((conv=>whnf);first|done|exact suL|refine And.intro ?_ ?_|fail));all_goals conv=>whnf)
     exact ceq (by rw[wrapI (by omega)];rfl)
   ·have hx8:¬ (x:Int)<((lvR l).length:Int):=by omega
    obtain rfl:x=(lvs l).length:=by omega
    rw[List.drop_length,hls] at hx2
    have hx3:=Option.filter_eq_none_iff.1 hx2.symm
    rw[frm_none fun op len ho=>by
     have:=hx3 (op,len) ho
     simpa using this] at hm3
    simp only[skR,hjj,Rs.ok.injEq] at hm3
    obtain ⟨rfl,rfl⟩:=hm3
    ((repeat' ((conv=>whnf);first|exact .intro|refine G ?_|intro _|refine .mk ?_ ?_|refine H ?_|fail));all_goals conv=>whnf)
    ((repeat' first|exact rfl|((conv=>whnf);first|done|exact suL|refine And.intro ?_ ?_|fail));all_goals conv=>whnf)
theorem two_ln {s:List UInt8} {l d i:Nat} {tw:Nat→Rs Nd} (hl:Go.EYtfcmhmglpcimiaaGreatDoor.look gl 1=some lvAll) (hl3:l≤3) (hs:s.length≤200) (hf:Fwd s tw) (hi:i≤s.length)
 (ht:∀ j,j≤s.length→Gives1 gl 46 [.c (.ptr 0 0),.c (.d (iD ((l+1:Nat):Int)))] s j d (tw j)) {n:Nd} {m:Nat} (hx:tw i=.ok n m) {aa:Nat} {ee:Int} (hR:skR s (frm s (fun _=>tw) (fun op=>decide (tgt op=l+1)) (s.length+1) n m)=.no aa ee) :
 Gives1 gl 46 [.c (.ptr 0 0),.c (.d (iD (l:Int)))] s i d (.no aa ee):=by
 have e0:IntKind.i64.wrap (((l:Nat):Int)+1)=((l+1:Nat):Int):=by rw[wrapI (by omega)];rfl
 have h4:¬ ((l:Nat):Int)=4:=by omega
 have hx0:=ht i hi
 rw[hx] at hx0
 obtain ⟨hm0,hm1⟩:=hf i n m hi hx
 unfold Gives1 at hx0 ⊢
 clear hx
 refine fn_of_vcS (nv:=9999) (cu:=[100010]) (l:=0) fits mixed Tryz.func46 rfl rfl hoB rfl rfl rfl rfl ?_
 ((repeat' ((conv=>whnf);first|exact .intro|refine G ?_|intro _|refine .mk ?_ ?_|refine H ?_|fail));all_goals conv=>whnf)
 refine ⟨{ σ:=Nat×Nd,fr:=fun q=>[(5,.c (.ptr 2 0))],ks:=[0,2],L:=fun q=>[(0,rdB s q.1 d),(2,.var (ndC q.2) 64)],ex:=1,fz:=[3],I:=fun q=>q.1≤s.length∧∃ f,s.length - q.1<f∧skR s (frm s (fun _=>tw) (fun op=>decide (tgt op=l+1)) f q.2 q.1)=.no aa ee,μ:=fun q=>s.length - q.1 },?_,?_⟩
 ·obtain ⟨f,hm2,hm3⟩:∃ f,s.length - m<f∧skR s (frm s (fun _=>tw) (fun op=>decide (tgt op=l+1)) f n m)=.no aa ee:=⟨s.length+1,by omega,hR⟩
  obtain ⟨f,rfl⟩:∃ g,f=g+1:=⟨f - 1,by omega⟩
  have bl:=blanks_d (gl:=gl) s m d hm1 hs
  have hj:=skp_le hm1
  have hge:=le_skp s m
  have hop:opA s m=opT (s.drop (skp s m)):=rfl
  have hls:=lv_spec hl3 (s.drop (skp s m))
  rw[← hop] at hls
  obtain ⟨j,hjj⟩:∃ j,skp s m=j:=⟨_,rfl⟩
  rw[hjj] at bl hj hge hls
  obtain ⟨k0,m0,t0,a0,b0,ks0⟩:=n
  ((repeat' ((conv=>whnf);first|exact .intro|refine G ?_|intro _|refine C5 hx0 [0] ?_|refine C5 bl [0] ?_|(first|rw[e0]|rw[sval_g hl]|(refine ⟨_,lv_cut hl3,?_⟩)|(refine ⟨⟨Int.natCast_nonneg _,(show ((l:Nat):Int)<4 by omega)⟩,?_⟩))|refine .mk ?_ ?_|refine H ?_|fail));all_goals conv=>whnf)
  refine ⟨{ σ:=Nat,fr:=fun x=>[(22,.c (.d (iD (x:Int))))],ks:=[],L:=fun x=>[],ex:=0,I:=fun x=>x≤(lvs l).length∧lvF ((lvs l).drop x) (s.drop j)=lvF (lvs l) (s.drop j),μ:=fun x=>(lvs l).length - x },⟨0,⟨Nat.zero_le _,rfl⟩,?_⟩,fun (x:Nat) hx=>?_⟩
  ·((repeat' first|exact rfl|((conv=>whnf);first|done|exact suL|refine And.intro ?_ ?_|fail));all_goals conv=>whnf)
  ·obtain ⟨hx1,hx2⟩:=hx
   have hlen:=lvR_len l
   have hl6:=lvs_len l
   by_cases hx7:x<(lvs l).length
   ·have hx7':(x:Int)<((lvR l).length:Int):=by omega
    have hget:=lv_get hx7
    have hmem:=lv_mem hx7
    rw[lvF_drop hx7] at hx2
    generalize (lvs l)[x]=q at *
    obtain ⟨op,tx1⟩:=q
    simp only at hget hx2
    have c9:=opOf_d (gl:=gl) op tx1 hmem
    by_cases hpre:tx1.length≤(s.drop j).length∧(s.drop j).take tx1.length=tx1
    ·rw[if_pos hpre] at hx2
     have c2:=HasPrefix_d (gl:=gl) (s.drop j) tx1 (b:=true) (by simp only[hpre.1,hpre.2,decide_true,Bool.and_self])
     rw[← drop_slice] at c2
     rw[hls] at hx2
     obtain ⟨ho,hsel⟩:=Option.filter_eq_some_iff.1 hx2.symm
     have h8:=hpre.1
     rw[List.length_drop] at h8
     have h9:1≤tx1.length:=(opA_len ho).1
     rw[frm_y ho hsel,hjj] at hm3
     have e1:IntKind.i64.wrap (((j:Nat):Int)+((tx1.length:Nat):Int))=((j+tx1.length:Nat):Int):=by rw[wrapI (by omega)];rfl
     have hjl:j+tx1.length≤s.length:=by omega
     have hy0:=ht (j+tx1.length) hjl
     clear hpre hmem
     cases hy:tw (j+tx1.length) with
     | no q0 e00 =>
      rw[hy] at hm3 hy0
      cases hm3
      unfold Gives1 at hy0
      ((repeat' ((conv=>whnf);first|exact .intro|refine G ?_|intro _|refine C5 hy0 [0] ?_|refine C1 c2 ?_|refine C1 c9 ?_|(first|rw[e0]|rw[e1]|(refine ⟨_,hget,?_⟩)|(refine ⟨⟨Int.natCast_nonneg _,(show ((j:Nat):Int)≤((s.length:Nat):Int) by omega),Int.le_refl _⟩,?_⟩))|refine .mk ?_ ?_|refine H ?_|fail));all_goals conv=>whnf)
      ((repeat' first|exact rfl|((conv=>whnf);first|done|exact suL|refine And.intro ?_ ?_|fail));all_goals conv=>whnf)
     | ok n2 k2 =>
      rw[hy] at hm3 hy0
      unfold Gives1 at hy0
      simp only[Rs.bind_ok] at hm3
      obtain ⟨hk1,hk2⟩:=hf _ _ _ hjl hy
      obtain ⟨k1,m1,t1,a1,b1,ks1⟩:=n2
      ((repeat' ((conv=>whnf);first|exact .intro|refine G ?_|intro _|refine C5 hy0 [0] ?_|refine C1 c2 ?_|refine C1 c9 ?_|(first|rw[e0]|rw[e1]|(refine ⟨_,hget,?_⟩)|(refine ⟨⟨Int.natCast_nonneg _,(show ((j:Nat):Int)≤((s.length:Nat):Int) by omega),Int.le_refl _⟩,?_⟩))|refine .mk ?_ ?_|refine H ?_|fail));all_goals conv=>whnf)
      all_goals
       refine ⟨(k2,twoN op (.mk k0 m0 t0 a0 b0 ks0) (.mk k1 m1 t1 a1 b1 ks1)),⟨hk2,f,by show s.length - k2<f;omega,hm3⟩,?_⟩
       ((repeat' first|exact rfl|((conv=>whnf);first|done|exact suL|refine And.intro ?_ ?_|fail));all_goals conv=>whnf)
       all_goals exact lf0
    ·rw[if_neg hpre] at hx2
     have c2:=HasPrefix_d (gl:=gl) (s.drop j) tx1 (b:=false) (by
      by_cases g1:tx1.length≤(s.drop j).length
      ·by_cases g2:(s.drop j).take tx1.length=tx1
       ·exact absurd ⟨g1,g2⟩ hpre
       ·simp only[g2,decide_false,Bool.and_false]
      ·simp only[g1,decide_false,Bool.false_and])
     rw[← drop_slice] at c2
     clear hpre hmem
     ((repeat' ((conv=>whnf);first|exact .intro|refine G ?_|intro _|refine C5 hy0 [0] ?_|refine C1 c2 ?_|refine C1 c9 ?_|(first|rw[e0]|rw[e1]|(refine ⟨_,hget,?_⟩)|(refine ⟨⟨Int.natCast_nonneg _,(show ((j:Nat):Int)≤((s.length:Nat):Int) by omega),Int.le_refl _⟩,?_⟩))|refine .mk ?_ ?_|refine H ?_|fail));all_goals conv=>whnf)
     refine ⟨x+1,⟨⟨by omega,hx2⟩,by show (lvs l).length - (x+1)<(lvs l).length - x;omega⟩,?_⟩
     ((repeat' first|exact rfl|((conv=>whnf);first|done|exact suL|refine And.intro ?_ ?_|fail));all_goals conv=>whnf)
     exact ceq (by rw[wrapI (by omega)];rfl)
   ·have hx8:¬ (x:Int)<((lvR l).length:Int):=by omega
    obtain rfl:x=(lvs l).length:=by omega
    rw[List.drop_length,hls] at hx2
    have hx3:=Option.filter_eq_none_iff.1 hx2.symm
    rw[frm_none fun op len ho=>by
     have:=hx3 (op,len) ho
     simpa using this] at hm3
    simp only[skR,reduceCtorEq] at hm3
 ·clear hm0 hm1 hx0 hR
  rintro ⟨m,n⟩ ⟨hm1,f,hm2,hm3⟩
  simp only at hm1 hm2 hm3
  obtain ⟨f,rfl⟩:∃ g,f=g+1:=⟨f - 1,by omega⟩
  have bl:=blanks_d (gl:=gl) s m d hm1 hs
  have hj:=skp_le hm1
  have hge:=le_skp s m
  have hop:opA s m=opT (s.drop (skp s m)):=rfl
  have hls:=lv_spec hl3 (s.drop (skp s m))
  rw[← hop] at hls
  obtain ⟨j,hjj⟩:∃ j,skp s m=j:=⟨_,rfl⟩
  rw[hjj] at bl hj hge hls
  obtain ⟨k0,m0,t0,a0,b0,ks0⟩:=n
  ((repeat' ((conv=>whnf);first|exact .intro|refine G ?_|intro _|refine C5 bl [0] ?_|(first|rw[e0]|rw[sval_g hl]|(refine ⟨_,lv_cut hl3,?_⟩)|(refine ⟨⟨Int.natCast_nonneg _,(show ((l:Nat):Int)<4 by omega)⟩,?_⟩))|refine .mk ?_ ?_|refine H ?_|fail));all_goals conv=>whnf)
  refine ⟨{ σ:=Nat,fr:=fun x=>[(22,.c (.d (iD (x:Int))))],ks:=[],L:=fun x=>[],ex:=0,I:=fun x=>x≤(lvs l).length∧lvF ((lvs l).drop x) (s.drop j)=lvF (lvs l) (s.drop j),μ:=fun x=>(lvs l).length - x },⟨0,⟨Nat.zero_le _,rfl⟩,?_⟩,fun (x:Nat) hx=>?_⟩
  ·((repeat' first|exact rfl|((conv=>whnf);first|done|exact suL|refine And.intro ?_ ?_|fail));all_goals conv=>whnf)
  ·obtain ⟨hx1,hx2⟩:=hx
   have hlen:=lvR_len l
   have hl6:=lvs_len l
   by_cases hx7:x<(lvs l).length
   ·have hx7':(x:Int)<((lvR l).length:Int):=by omega
    have hget:=lv_get hx7
    have hmem:=lv_mem hx7
    rw[lvF_drop hx7] at hx2
    generalize (lvs l)[x]=q at *
    obtain ⟨op,tx1⟩:=q
    simp only at hget hx2
    have c9:=opOf_d (gl:=gl) op tx1 hmem
    by_cases hpre:tx1.length≤(s.drop j).length∧(s.drop j).take tx1.length=tx1
    ·rw[if_pos hpre] at hx2
     have c2:=HasPrefix_d (gl:=gl) (s.drop j) tx1 (b:=true) (by simp only[hpre.1,hpre.2,decide_true,Bool.and_self])
     rw[← drop_slice] at c2
     rw[hls] at hx2
     obtain ⟨ho,hsel⟩:=Option.filter_eq_some_iff.1 hx2.symm
     have h8:=hpre.1
     rw[List.length_drop] at h8
     have h9:1≤tx1.length:=(opA_len ho).1
     rw[frm_y ho hsel,hjj] at hm3
     have e1:IntKind.i64.wrap (((j:Nat):Int)+((tx1.length:Nat):Int))=((j+tx1.length:Nat):Int):=by rw[wrapI (by omega)];rfl
     have hjl:j+tx1.length≤s.length:=by omega
     have hy0:=ht (j+tx1.length) hjl
     clear hpre hmem
     cases hy:tw (j+tx1.length) with
     | no q0 e00 =>
      rw[hy] at hm3 hy0
      cases hm3
      unfold Gives1 at hy0
      ((repeat' ((conv=>whnf);first|exact .intro|refine G ?_|intro _|refine C5 hy0 [0] ?_|refine C1 c2 ?_|refine C1 c9 ?_|(first|rw[e0]|rw[e1]|(refine ⟨_,hget,?_⟩)|(refine ⟨⟨Int.natCast_nonneg _,(show ((j:Nat):Int)≤((s.length:Nat):Int) by omega),Int.le_refl _⟩,?_⟩))|refine .mk ?_ ?_|refine H ?_|fail));all_goals conv=>whnf)
      ((repeat' first|exact rfl|((conv=>whnf);first|done|exact suL|refine And.intro ?_ ?_|fail));all_goals conv=>whnf)
     | ok n2 k2 =>
      rw[hy] at hm3 hy0
      unfold Gives1 at hy0
      simp only[Rs.bind_ok] at hm3
      obtain ⟨hk1,hk2⟩:=hf _ _ _ hjl hy
      obtain ⟨k1,m1,t1,a1,b1,ks1⟩:=n2
      ((repeat' ((conv=>whnf);first|exact .intro|refine G ?_|intro _|refine C5 hy0 [0] ?_|refine C1 c2 ?_|refine C1 c9 ?_|(first|rw[e0]|rw[e1]|(refine ⟨_,hget,?_⟩)|(refine ⟨⟨Int.natCast_nonneg _,(show ((j:Nat):Int)≤((s.length:Nat):Int) by omega),Int.le_refl _⟩,?_⟩))|refine .mk ?_ ?_|refine H ?_|fail));all_goals conv=>whnf)
      all_goals
       refine ⟨(k2,twoN op (.mk k0 m0 t0 a0 b0 ks0) (.mk k1 m1 t1 a1 b1 ks1)),⟨⟨hk2,f,by show s.length - k2<f;omega,hm3⟩,by show s.length - k2<s.length - m;omega⟩,?_⟩
       ((repeat' first|exact rfl|((conv=>whnf);first|done|exact suL|refine And.intro ?_ ?_|fail));all_goals conv=>whnf)
       all_goals exact lf0
    ·rw[if_neg hpre] at hx2
     have c2:=HasPrefix_d (gl:=gl) (s.drop j) tx1 (b:=false) (by
      by_cases g1:tx1.length≤(s.drop j).length
      ·by_cases g2:(s.drop j).take tx1.length=tx1
       ·exact absurd ⟨g1,g2⟩ hpre
       ·simp only[g2,decide_false,Bool.and_false]
      ·simp only[g1,decide_false,Bool.false_and])
     rw[← drop_slice] at c2
     clear hpre hmem
     ((repeat' ((conv=>whnf);first|exact .intro|refine G ?_|intro _|refine C5 hy0 [0] ?_|refine C1 c2 ?_|refine C1 c9 ?_|(first|rw[e0]|rw[e1]|(refine ⟨_,hget,?_⟩)|(refine ⟨⟨Int.natCast_nonneg _,(show ((j:Nat):Int)≤((s.length:Nat):Int) by omega),Int.le_refl _⟩,?_⟩))|refine .mk ?_ ?_|refine H ?_|fail));all_goals conv=>whnf)
     refine ⟨x+1,⟨⟨by omega,hx2⟩,by show (lvs l).length - (x+1)<(lvs l).length - x;omega⟩,?_⟩
     ((repeat' first|exact rfl|((conv=>whnf);first|done|exact suL|refine And.intro ?_ ?_|fail));all_goals conv=>whnf)
     exact ceq (by rw[wrapI (by omega)];rfl)
   ·have hx8:¬ (x:Int)<((lvR l).length:Int):=by omega
    obtain rfl:x=(lvs l).length:=by omega
    rw[List.drop_length,hls] at hx2
    have hx3:=Option.filter_eq_none_iff.1 hx2.symm
    rw[frm_none fun op len ho=>by
     have:=hx3 (op,len) ho
     simpa using this] at hm3
    simp only[skR,reduceCtorEq] at hm3
theorem two_l {s:List UInt8} {l d i:Nat} {tw:Nat→Rs Nd} (hl:Go.EYtfcmhmglpcimiaaGreatDoor.look gl 1=some lvAll) (hl3:l≤3) (hs:s.length≤200) (hf:Fwd s tw) (hi:i≤s.length)
 (ht:∀ j,j≤s.length→Gives1 gl 46 [.c (.ptr 0 0),.c (.d (iD ((l+1:Nat):Int)))] s j d (tw j)) {R:Rs Nd} (hR:((tw i).bind fun n j=>skR s (frm s (fun _=>tw) (fun op=>decide (tgt op=l+1)) (s.length+1) n j))=R) :
 Gives1 gl 46 [.c (.ptr 0 0),.c (.d (iD (l:Int)))] s i d R:=by
 cases hx:tw i with
 | no a e =>
  rw[hx] at hR
  subst hR
  exact two_e hl hl3 hs hf hi ht hx
 | ok n m =>
  rw[hx] at hR
  simp only[Rs.bind_ok] at hR
  cases R with
  | ok nn jj=>exact two_lo hl hl3 hs hf hi ht hx hR
  | no aa ee=>exact two_ln hl hl3 hs hf hi ht hx hR
end
section
variable {gl:List (Nat×List D)}
theorem two_all {s:List UInt8} {d:Nat} {one:Nat→Rs Nd} (hl:Go.EYtfcmhmglpcimiaaGreatDoor.look gl 1=some lvAll) (hs:s.length≤200) (hf:Fwd s one)
 (hn:∀ i,i≤s.length→Gives1 gl 71 [.c (.ptr 0 0)] s i d (one i)):∀ c,c≤4→∀ i,i≤s.length→Gives1 gl 46 [.c (.ptr 0 0),.c (.d (iD ((4 - c:Nat):Int)))] s i d (Tw s one c i)
 | 0,_,i,hi=>two_4 (hn i hi)
 | c+1,hc,i,hi=>by
  have ih:=two_all hl hs hf hn c (by omega)
  have e:4 - c=(3 - c)+1:=by omega
  have e2:4 - (c+1)=3 - c:=by omega
  rw[e] at ih
  rw[e2]
  refine two_l hl (by omega) hs (Tw_fwd hf c) hi ih ?_
  rw[← e]
  rfl
theorem argsF_skp {p:Par} {s:List UInt8} {tw:Nat→Rs Nd} {f:Nat} {ks:List Nd} {i:Nat} (hf:0<f):argsF p s tw f ks (skp s i)=argsF p s tw f ks i:=by
 obtain ⟨f,rfl⟩:∃ g,f=g+1:=⟨f - 1,by omega⟩
 unfold argsF
 have:argF p s tw (skp s i)=argF p s tw i:=by unfold argF;rw[skp_skp]
 rw[this]
theorem call_d {p:Par} {s w:List UInt8} {k d:Nat} (hk:k<s.length) (hs:s.length≤200) {tw:Nat→Rs Nd} (hf:Fwd s tw)
 (ha:∀ i,i≤s.length→Gives1 gl 144 [.c (.ptr 0 0)] s i d (argF p s tw i)):Gives1 gl 124 [.c (.ptr 0 0),.c (.d (.str w))] s k d (callF p s tw w k):=by
 unfold callF
 by_cases h:s[skp s (k+1)]?=some 41
 ·rw[if_pos h];exact call_none hk hs h
 ·rw[if_neg h]
  exact call_args hk hs h hf ha (argsF_skp (by omega))
theorem neg_all (te:TypeId) (pe:Value) (hV:Has gl (glV te pe)) (hl:Go.EYtfcmhmglpcimiaaGreatDoor.look gl 1=some lvAll) {rf:List UInt8→Option Rf} (hR:RefsOk rf) {s:List UInt8} (hs:s.length≤200) :
 ∀ (x d:Nat),d+x=30→∀ i,i≤s.length→Gives1 gl 71 [.c (.ptr 0 0)] s i d (oneA (parZ rf) s x i)
 | 0,d,hd,i,hi=>by
  obtain rfl:d=30:=by omega
  exact neg_d te pe hV hR hs (Nat.le_refl _) hi no_fwd (fun h=>absurd h (by omega)) (fun h=>absurd h (by omega)) (fun h=>absurd h (by omega))
 | x+1,d,hd,i,hi=>by
  have ih:=neg_all te pe hV hl hR hs x (d+1) (by omega)
  have h2:=two_all hl hs (oneA_fwd x) ih 4 (Nat.le_refl _)
  have hf:=Tw_fwd (oneA_fwd (p:=parZ rf) (s:=s) x) 4
  have:=neg_d te pe hV hR hs (show d≤30 by omega) hi hf (fun _=>ih) (fun _=>h2) (fun _ w k hk=>call_d hk hs hf fun i hi=>arg_d hR hi hs h2)
  rw[show decide (d=30)=false from decide_eq_false (by omega)] at this
  exact this
theorem two_0 (te:TypeId) (pe:Value) (hV:Has gl (glV te pe)) (hl:Go.EYtfcmhmglpcimiaaGreatDoor.look gl 1=some lvAll) {rf:List UInt8→Option Rf} (hR:RefsOk rf) {s:List UInt8} (hs:s.length≤200) {i:Nat} (hi:i≤s.length) :
 Gives1 gl 46 [.c (.ptr 0 0),.c (.d (iD 0))] s i 0 (Tw s (oneA (parZ rf) s 30) 4 i) :=
 two_all hl hs (oneA_fwd 30) (neg_all te pe hV hl hR hs 30 0 rfl) 4 (Nat.le_refl _) i hi
end
end Go.Proofs.YtfcmhmglpcimiaaGreatDoor
