/- Proved: a part of what the law is proved with (the reckoner, contracts of functions, plain laws). Conditions: as each says. -/
import Derived.Test.YtfcmhmglpcimiaaGreatDoorKGm
import Derived.Test.YtfcmhmglpcimiaaGreatDoorKHa
namespace Go.Proofs.YtfcmhmglpcimiaaGreatDoor
open Go Go.EYtfcmhmglpcimiaaGreatDoor
set_option maxRecDepth 100000
variable {gl:List (Nat×List D)}
theorem rwordly_y {n:Int} (h:wdlyP n):FnP Tryz.prog gl 55 [.v (.int .u8 n)] (.v (.bool true)):=by
 refine S0 Tryz.func55 rfl ?_
 ((repeat' ((conv=>whnf);first|exact .intro|refine G ?_|intro _|refine .mk ?_ ?_|refine H ?_|fail));all_goals conv=>whnf)
 all_goals first|exact LeD.rfl|exact LeD.vt (by omega)|(exfalso;omega)
theorem rwordly_n {n:Int} (h:¬ wdlyP n):FnP Tryz.prog gl 55 [.v (.int .u8 n)] (.v (.bool false)):=by
 refine S0 Tryz.func55 rfl ?_
 ((repeat' ((conv=>whnf);first|exact .intro|refine G ?_|intro _|refine .mk ?_ ?_|refine H ?_|fail));all_goals conv=>whnf)
 all_goals first|exact LeD.rfl|exact LeD.vf (by omega)|(exfalso;omega)
theorem token_end {s:List UInt8} {i j:Nat} (hi:i≤s.length) (hs:s.length≤200) (hj:skp s i=j) (h:j=s.length):FnP Tryz.prog gl 35 [.str s,iD (i:Int)] (.agg [iD 0,iD (j:Int),iD (j:Int),.str []]):=by
 refine S0 Tryz.func35 rfl ?_
 ((repeat' ((conv=>whnf);first|exact .intro|refine G ?_|intro _|refine .mk ?_ ?_|refine H ?_|fail));all_goals conv=>whnf)
 refine ⟨{ σ:=Nat,fr:=fun k=>[(1,.c (.d (iD (k:Int))))],ks:=[],L:=fun k=>[],ex:=0,I:=fun k=>k≤s.length∧skp s k=j,μ:=fun k=>s.length - k },⟨i,⟨hi,hj⟩,?_⟩,fun (k:Nat) hk=>?_⟩
 ·((repeat' first|exact rfl|((conv=>whnf);first|done|exact suL|refine And.intro ?_ ?_|fail));all_goals conv=>whnf)
 ·obtain ⟨hk1,hk2⟩:=hk
  by_cases hk7:k<s.length
  ·have hk7':(k:Int)<(s.length:Int):=by omega
   by_cases hc:(((s.getD ((k:Nat):Int).toNat 0).toNat:Nat):Int)=32
   ·have hc':=(byt 32 hk7).1 hc
    ((repeat' ((conv=>whnf);first|exact .intro|refine G ?_|intro _|refine .mk ?_ ?_|refine H ?_|fail));all_goals conv=>whnf)
    refine ⟨k+1,⟨⟨hk7,by rw[skp_32 hc',hk2]⟩,by show s.length - (k+1)<s.length - k;omega⟩,?_⟩
    ((repeat' first|exact rfl|((conv=>whnf);first|done|exact suL|refine And.intro ?_ ?_|fail));all_goals conv=>whnf)
    exact ceq (by rw[wrapI (by omega)];rfl)
   ·have hc':s[k]?≠some 32:=fun h=>hc ((byt 32 hk7).2 h)
    rw[skp_n hc'] at hk2
    subst hk2
    omega
  ·have hc':s[k]?≠some 32:=by rw[List.getElem?_eq_none (by omega)];simp
   rw[skp_n hc'] at hk2
   subst hk2
   have hk8:¬ (k:Int)<(s.length:Int):=by omega
   have hk9:(k:Int)=(s.length:Int):=by omega
   ((repeat' ((conv=>whnf);first|exact .intro|refine G ?_|intro _|refine .mk ?_ ?_|refine H ?_|fail));all_goals conv=>whnf)
   ((repeat' first|exact rfl|((conv=>whnf);first|done|exact suL|refine And.intro ?_ ?_|fail));all_goals conv=>whnf)
   all_goals first|exact LeD.rfl
theorem token_word {s:List UInt8} {i j:Nat} (hi:i≤s.length) (hs:s.length≤200) (hj:skp s i=j) {c:UInt8} (h:s[j]?=some c) (hw:wordlyP c):FnP Tryz.prog gl 35 [.str s,iD (i:Int)] (.agg [iD 1,iD (j:Int),iD ((wdE s j:Nat):Int),.str (wdAt s j)]):=by
 refine S0 Tryz.func35 rfl ?_
 ((repeat' ((conv=>whnf);first|exact .intro|refine G ?_|intro _|refine .mk ?_ ?_|refine H ?_|fail));all_goals conv=>whnf)
 refine ⟨{ σ:=Nat,fr:=fun k=>[(1,.c (.d (iD (k:Int))))],ks:=[],L:=fun k=>[],ex:=0,I:=fun k=>k≤s.length∧skp s k=j,μ:=fun k=>s.length - k },⟨i,⟨hi,hj⟩,?_⟩,fun (k:Nat) hk=>?_⟩
 ·((repeat' first|exact rfl|((conv=>whnf);first|done|exact suL|refine And.intro ?_ ?_|fail));all_goals conv=>whnf)
 ·obtain ⟨hk1,hk2⟩:=hk
  by_cases hk7:k<s.length
  ·have hk7':(k:Int)<(s.length:Int):=by omega
   by_cases hc:(((s.getD ((k:Nat):Int).toNat 0).toNat:Nat):Int)=32
   ·have hc':=(byt 32 hk7).1 hc
    ((repeat' ((conv=>whnf);first|exact .intro|refine G ?_|intro _|refine .mk ?_ ?_|refine H ?_|fail));all_goals conv=>whnf)
    refine ⟨k+1,⟨⟨hk7,by rw[skp_32 hc',hk2]⟩,by show s.length - (k+1)<s.length - k;omega⟩,?_⟩
    ((repeat' first|exact rfl|((conv=>whnf);first|done|exact suL|refine And.intro ?_ ?_|fail));all_goals conv=>whnf)
    exact ceq (by rw[wrapI (by omega)];rfl)
   ·have hc':s[k]?≠some 32:=fun h=>hc ((byt 32 hk7).2 h)
    rw[skp_n hc'] at hk2
    subst hk2
    have h2:¬ ((k:Nat):Int)=((s.length:Nat):Int):=by omega
    rw[← getD_of h] at hw
    have c0:=rwordly_y (gl:=gl) ((wdly_iff _).2 hw)
    ((repeat' ((conv=>whnf);first|exact .intro|refine G ?_|intro _|refine C1 c0 ?_|refine .mk ?_ ?_|refine H ?_|fail));all_goals conv=>whnf)
    refine ⟨{ σ:=Nat,fr:=fun m=>[(7,.c (.d (iD (m:Int))))],ks:=[],L:=fun m=>[],ex:=0,I:=fun m=>k≤m∧m≤s.length∧wdE s m=wdE s k,μ:=fun m=>s.length - m },⟨k,⟨Nat.le_refl _,hk1,rfl⟩,?_⟩,fun (m:Nat) hm=>?_⟩
    ·((repeat' first|exact rfl|((conv=>whnf);first|done|exact suL|refine And.intro ?_ ?_|fail));all_goals conv=>whnf)
    ·obtain ⟨hm0,hm1,hm2⟩:=hm
     by_cases hm7:m<s.length
     ·have hm7':(m:Int)<(s.length:Int):=by omega
      have hg:s[m]?=some (s.getD ((m:Nat):Int).toNat 0):=(byt _ hm7).1 rfl
      by_cases hcm:wordlyP (s.getD ((m:Nat):Int).toNat 0)
      ·have c1:=rwordly_y (gl:=gl) ((wdly_iff _).2 hcm)
       ((repeat' ((conv=>whnf);first|exact .intro|refine G ?_|intro _|refine C1 c1 ?_|refine .mk ?_ ?_|refine H ?_|fail));all_goals conv=>whnf)
       refine ⟨m+1,⟨⟨by omega,hm7,by rw[wdE_y hg hcm,hm2]⟩,by show s.length - (m+1)<s.length - m;omega⟩,?_⟩
       ((repeat' first|exact rfl|((conv=>whnf);first|done|exact suL|refine And.intro ?_ ?_|fail));all_goals conv=>whnf)
       exact ceq (by rw[wrapI (by omega)];rfl)
      ·have c1:=rwordly_n (gl:=gl) (fun h=>hcm ((wdly_iff _).1 h))
       rw[wdE_n fun c h=>by rw[hg] at h;cases h;exact hcm] at hm2
       subst hm2
       ((repeat' ((conv=>whnf);first|exact .intro|refine G ?_|intro _|refine C1 c1 ?_|refine .mk ?_ ?_|refine H ?_|fail));all_goals conv=>whnf)
       refine ⟨⟨(show (0:Int)≤((k:Nat):Int) by omega),(show ((k:Nat):Int)≤((wdE s k:Nat):Int) by omega),(show ((wdE s k:Nat):Int)≤((s.length:Nat):Int) by omega)⟩,?_⟩
       ((repeat' ((conv=>whnf);first|exact .intro|refine G ?_|intro _|refine .mk ?_ ?_|refine H ?_|fail));all_goals conv=>whnf)
       rw[wd_slice]
       exact LeD.rfl
     ·have hm8:¬ (m:Int)<(s.length:Int):=by omega
      rw[wdE_n fun c h=>absurd (lt_of_get h) hm7] at hm2
      subst hm2
      ((repeat' ((conv=>whnf);first|exact .intro|refine G ?_|intro _|refine .mk ?_ ?_|refine H ?_|fail));all_goals conv=>whnf)
      refine ⟨⟨(show (0:Int)≤((k:Nat):Int) by omega),(show ((k:Nat):Int)≤((wdE s k:Nat):Int) by omega),(show ((wdE s k:Nat):Int)≤((s.length:Nat):Int) by omega)⟩,?_⟩
      ((repeat' ((conv=>whnf);first|exact .intro|refine G ?_|intro _|refine .mk ?_ ?_|refine H ?_|fail));all_goals conv=>whnf)
      rw[wd_slice]
      exact LeD.rfl
  ·have hc':s[k]?≠some 32:=by rw[List.getElem?_eq_none (by omega)];simp
   rw[skp_n hc'] at hk2
   subst hk2
   exact absurd (lt_of_get h) hk7
theorem token_sign2 {s:List UInt8} {i j:Nat} (hi:i≤s.length) (hs:s.length≤200) (hj:skp s i=j) {c:UInt8} (h:s[j]?=some c) (hw:¬ wordlyP c) (h34:c≠34) (h35:c≠35) (h2l:j+2≤s.length) (ht:two3 (s.drop j)):FnP Tryz.prog gl 35 [.str s,iD (i:Int)] (.agg [iD 4,iD (j:Int),iD ((j+2:Nat):Int),.str ((s.drop j).take 2)]):=by
 refine S0 Tryz.func35 rfl ?_
 ((repeat' ((conv=>whnf);first|exact .intro|refine G ?_|intro _|refine .mk ?_ ?_|refine H ?_|fail));all_goals conv=>whnf)
 refine ⟨{ σ:=Nat,fr:=fun k=>[(1,.c (.d (iD (k:Int))))],ks:=[],L:=fun k=>[],ex:=0,I:=fun k=>k≤s.length∧skp s k=j,μ:=fun k=>s.length - k },⟨i,⟨hi,hj⟩,?_⟩,fun (k:Nat) hk=>?_⟩
 ·((repeat' first|exact rfl|((conv=>whnf);first|done|exact suL|refine And.intro ?_ ?_|fail));all_goals conv=>whnf)
 ·obtain ⟨hk1,hk2⟩:=hk
  by_cases hk7:k<s.length
  ·have hk7':(k:Int)<(s.length:Int):=by omega
   by_cases hc:(((s.getD ((k:Nat):Int).toNat 0).toNat:Nat):Int)=32
   ·have hc':=(byt 32 hk7).1 hc
    ((repeat' ((conv=>whnf);first|exact .intro|refine G ?_|intro _|refine .mk ?_ ?_|refine H ?_|fail));all_goals conv=>whnf)
    refine ⟨k+1,⟨⟨hk7,by rw[skp_32 hc',hk2]⟩,by show s.length - (k+1)<s.length - k;omega⟩,?_⟩
    ((repeat' first|exact rfl|((conv=>whnf);first|done|exact suL|refine And.intro ?_ ?_|fail));all_goals conv=>whnf)
    exact ceq (by rw[wrapI (by omega)];rfl)
   ·have hc':s[k]?≠some 32:=fun h=>hc ((byt 32 hk7).2 h)
    rw[skp_n hc'] at hk2
    subst hk2
    have h2:¬ ((k:Nat):Int)=((s.length:Nat):Int):=by omega
    have h3:¬ wdlyP (((s.getD ((k:Nat):Int).toNat 0).toNat:Nat):Int):=fun e=>hw (by rw[getD_of h] at e;exact (wdly_iff _).1 e)
    have c0:=rwordly_n (gl:=gl) h3
    have h4:¬ (((s.getD ((k:Nat):Int).toNat 0).toNat:Nat):Int)=34:=fun e=>h34 (by rw[getD_of h] at e;exact UInt8.toNat_inj.1 (Int.ofNat.inj e))
    have h5:¬ (((s.getD ((k:Nat):Int).toNat 0).toNat:Nat):Int)=35:=fun e=>h35 (by rw[getD_of h] at e;exact UInt8.toNat_inj.1 (Int.ofNat.inj e))
    have e1:IntKind.i64.wrap (((k:Nat):Int)+1)=((k+1:Nat):Int):=by rw[wrapI (by omega)];rfl
    have e2:IntKind.i64.wrap (((k:Nat):Int)+2)=((k+2:Nat):Int):=by rw[wrapI (by omega)];rfl
    have h6:IntKind.i64.wrap (((k:Nat):Int)+2)≤((s.length:Nat):Int):=by rw[e2];omega
    have e3:=lit_slice s k 2
    rcases ht with ht|ht|ht
    ·have g1:=e3.trans ht
     ((repeat' ((conv=>whnf);first|exact .intro|refine G ?_|intro _|refine C1 c0 ?_|((first|rw[e2]|rw[e1]))|refine .mk ?_ ?_|refine H ?_|fail));all_goals conv=>whnf)
     refine ⟨⟨(show (0:Int)≤((k:Nat):Int) by omega),(show ((k:Nat):Int)≤((k+2:Nat):Int) by omega),(show ((k+2:Nat):Int)≤((s.length:Nat):Int) by omega)⟩,?_⟩
     ((repeat' ((conv=>whnf);first|exact .intro|refine G ?_|intro _|refine C1 c0 ?_|((first|rw[e2]|rw[e1]))|refine .mk ?_ ?_|refine H ?_|fail));all_goals conv=>whnf)
     rw[e3]
     exact LeD.rfl
    ·have g1:=e3.trans ht
     have g2:¬ List.drop ((some ((k:Nat):Int)).getD 0).toNat (List.take ((some ((k+2:Nat):Int)).getD ((s.length:Nat):Int)).toNat s)=[60,62]:=by rw[g1];decide
     ((repeat' ((conv=>whnf);first|exact .intro|refine G ?_|intro _|refine C1 c0 ?_|((first|rw[e2]|rw[e1]))|refine .mk ?_ ?_|refine H ?_|fail));all_goals conv=>whnf)
     refine ⟨⟨(show (0:Int)≤((k:Nat):Int) by omega),(show ((k:Nat):Int)≤((k+2:Nat):Int) by omega),(show ((k+2:Nat):Int)≤((s.length:Nat):Int) by omega)⟩,?_⟩
     ((repeat' ((conv=>whnf);first|exact .intro|refine G ?_|intro _|refine C1 c0 ?_|((first|rw[e2]|rw[e1]))|refine .mk ?_ ?_|refine H ?_|fail));all_goals conv=>whnf)
     rw[e3]
     exact LeD.rfl
    ·have g1:=e3.trans ht
     have g2:¬ List.drop ((some ((k:Nat):Int)).getD 0).toNat (List.take ((some ((k+2:Nat):Int)).getD ((s.length:Nat):Int)).toNat s)=[60,62]:=by rw[g1];decide
     have g3:¬ List.drop ((some ((k:Nat):Int)).getD 0).toNat (List.take ((some ((k+2:Nat):Int)).getD ((s.length:Nat):Int)).toNat s)=[60,61]:=by rw[g1];decide
     ((repeat' ((conv=>whnf);first|exact .intro|refine G ?_|intro _|refine C1 c0 ?_|((first|rw[e2]|rw[e1]))|refine .mk ?_ ?_|refine H ?_|fail));all_goals conv=>whnf)
     refine ⟨⟨(show (0:Int)≤((k:Nat):Int) by omega),(show ((k:Nat):Int)≤((k+2:Nat):Int) by omega),(show ((k+2:Nat):Int)≤((s.length:Nat):Int) by omega)⟩,?_⟩
     ((repeat' ((conv=>whnf);first|exact .intro|refine G ?_|intro _|refine C1 c0 ?_|((first|rw[e2]|rw[e1]))|refine .mk ?_ ?_|refine H ?_|fail));all_goals conv=>whnf)
     rw[e3]
     exact LeD.rfl
  ·have hc':s[k]?≠some 32:=by rw[List.getElem?_eq_none (by omega)];simp
   rw[skp_n hc'] at hk2
   subst hk2
   exact absurd (lt_of_get h) hk7
theorem token_sign1 {s:List UInt8} {i j:Nat} (hi:i≤s.length) (hs:s.length≤200) (hj:skp s i=j) {c:UInt8} (h:s[j]?=some c) (hw:¬ wordlyP c) (h34:c≠34) (h35:c≠35) (ht:¬ two3 (s.drop j)):FnP Tryz.prog gl 35 [.str s,iD (i:Int)] (.agg [iD 4,iD (j:Int),iD ((j+1:Nat):Int),.str [c]]):=by
 refine S0 Tryz.func35 rfl ?_
 ((repeat' ((conv=>whnf);first|exact .intro|refine G ?_|intro _|refine .mk ?_ ?_|refine H ?_|fail));all_goals conv=>whnf)
 refine ⟨{ σ:=Nat,fr:=fun k=>[(1,.c (.d (iD (k:Int))))],ks:=[],L:=fun k=>[],ex:=0,I:=fun k=>k≤s.length∧skp s k=j,μ:=fun k=>s.length - k },⟨i,⟨hi,hj⟩,?_⟩,fun (k:Nat) hk=>?_⟩
 ·((repeat' first|exact rfl|((conv=>whnf);first|done|exact suL|refine And.intro ?_ ?_|fail));all_goals conv=>whnf)
 ·obtain ⟨hk1,hk2⟩:=hk
  by_cases hk7:k<s.length
  ·have hk7':(k:Int)<(s.length:Int):=by omega
   by_cases hc:(((s.getD ((k:Nat):Int).toNat 0).toNat:Nat):Int)=32
   ·have hc':=(byt 32 hk7).1 hc
    ((repeat' ((conv=>whnf);first|exact .intro|refine G ?_|intro _|refine .mk ?_ ?_|refine H ?_|fail));all_goals conv=>whnf)
    refine ⟨k+1,⟨⟨hk7,by rw[skp_32 hc',hk2]⟩,by show s.length - (k+1)<s.length - k;omega⟩,?_⟩
    ((repeat' first|exact rfl|((conv=>whnf);first|done|exact suL|refine And.intro ?_ ?_|fail));all_goals conv=>whnf)
    exact ceq (by rw[wrapI (by omega)];rfl)
   ·have hc':s[k]?≠some 32:=fun h=>hc ((byt 32 hk7).2 h)
    rw[skp_n hc'] at hk2
    subst hk2
    have h2:¬ ((k:Nat):Int)=((s.length:Nat):Int):=by omega
    have h3:¬ wdlyP (((s.getD ((k:Nat):Int).toNat 0).toNat:Nat):Int):=fun e=>hw (by rw[getD_of h] at e;exact (wdly_iff _).1 e)
    have c0:=rwordly_n (gl:=gl) h3
    have h4:¬ (((s.getD ((k:Nat):Int).toNat 0).toNat:Nat):Int)=34:=fun e=>h34 (by rw[getD_of h] at e;exact UInt8.toNat_inj.1 (Int.ofNat.inj e))
    have h5:¬ (((s.getD ((k:Nat):Int).toNat 0).toNat:Nat):Int)=35:=fun e=>h35 (by rw[getD_of h] at e;exact UInt8.toNat_inj.1 (Int.ofNat.inj e))
    have e1:IntKind.i64.wrap (((k:Nat):Int)+1)=((k+1:Nat):Int):=by rw[wrapI (by omega)];rfl
    have e4:List.drop ((some ((k:Nat):Int)).getD 0).toNat (List.take ((some ((k+1:Nat):Int)).getD ((s.length:Nat):Int)).toNat s)=[c]:=by rw[lit_slice s k 1,drop_get h];rfl
    by_cases h6:k+2≤s.length
    ·have e2:IntKind.i64.wrap (((k:Nat):Int)+2)=((k+2:Nat):Int):=by rw[wrapI (by omega)];rfl
     have h6:IntKind.i64.wrap (((k:Nat):Int)+2)≤((s.length:Nat):Int):=by rw[e2];omega
     have e3:=lit_slice s k 2
     have g1:¬ List.drop ((some ((k:Nat):Int)).getD 0).toNat (List.take ((some ((k+2:Nat):Int)).getD ((s.length:Nat):Int)).toNat s)=[60,62]:=fun e=>ht (.inl (e3.symm.trans e))
     have g2:¬ List.drop ((some ((k:Nat):Int)).getD 0).toNat (List.take ((some ((k+2:Nat):Int)).getD ((s.length:Nat):Int)).toNat s)=[60,61]:=fun e=>ht (.inr (.inl (e3.symm.trans e)))
     have g3:¬ List.drop ((some ((k:Nat):Int)).getD 0).toNat (List.take ((some ((k+2:Nat):Int)).getD ((s.length:Nat):Int)).toNat s)=[62,61]:=fun e=>ht (.inr (.inr (e3.symm.trans e)))
     ((repeat' ((conv=>whnf);first|exact .intro|refine G ?_|intro _|refine C1 c0 ?_|((first|rw[e2]|rw[e1]))|refine .mk ?_ ?_|refine H ?_|fail));all_goals conv=>whnf)
     refine ⟨⟨(show (0:Int)≤((k:Nat):Int) by omega),(show ((k:Nat):Int)≤((k+2:Nat):Int) by omega),(show ((k+2:Nat):Int)≤((s.length:Nat):Int) by omega)⟩,?_⟩
     ((repeat' ((conv=>whnf);first|exact .intro|refine G ?_|intro _|refine C1 c0 ?_|((first|rw[e2]|rw[e1]))|refine .mk ?_ ?_|refine H ?_|fail));all_goals conv=>whnf)
     refine ⟨⟨(show (0:Int)≤((k:Nat):Int) by omega),(show ((k:Nat):Int)≤((k+1:Nat):Int) by omega),(show ((k+1:Nat):Int)≤((s.length:Nat):Int) by omega)⟩,?_⟩
     ((repeat' ((conv=>whnf);first|exact .intro|refine G ?_|intro _|refine C1 c0 ?_|((first|rw[e2]|rw[e1]))|refine .mk ?_ ?_|refine H ?_|fail));all_goals conv=>whnf)
     rw[e4]
     exact LeD.rfl
    ·have e2:IntKind.i64.wrap (((k:Nat):Int)+2)=((k+2:Nat):Int):=by rw[wrapI (by omega)];rfl
     have h6:¬ IntKind.i64.wrap (((k:Nat):Int)+2)≤((s.length:Nat):Int):=by rw[e2];omega
     ((repeat' ((conv=>whnf);first|exact .intro|refine G ?_|intro _|refine C1 c0 ?_|((first|rw[e2]|rw[e1]))|refine .mk ?_ ?_|refine H ?_|fail));all_goals conv=>whnf)
     refine ⟨⟨(show (0:Int)≤((k:Nat):Int) by omega),(show ((k:Nat):Int)≤((k+1:Nat):Int) by omega),(show ((k+1:Nat):Int)≤((s.length:Nat):Int) by omega)⟩,?_⟩
     ((repeat' ((conv=>whnf);first|exact .intro|refine G ?_|intro _|refine C1 c0 ?_|((first|rw[e2]|rw[e1]))|refine .mk ?_ ?_|refine H ?_|fail));all_goals conv=>whnf)
     rw[e4]
     exact LeD.rfl
  ·have hc':s[k]?≠some 32:=by rw[List.getElem?_eq_none (by omega)];simp
   rw[skp_n hc'] at hk2
   subst hk2
   exact absurd (lt_of_get h) hk7
theorem token_text {s:List UInt8} {i j:Nat} (hi:i≤s.length) (hs:s.length≤200) (hj:skp s i=j) (h:s[j]?=some 34) {b:List UInt8} {l:Nat} (ht:txtF (s.drop (j+1))=some (b,l)):FnP Tryz.prog gl 35 [.str s,iD (i:Int)] (.agg [iD 2,iD (j:Int),iD ((j+1+l:Nat):Int),.str b]):=by
 refine S0 Tryz.func35 rfl ?_
 ((repeat' ((conv=>whnf);first|exact .intro|refine G ?_|intro _|refine .mk ?_ ?_|refine H ?_|fail));all_goals conv=>whnf)
 refine ⟨{ σ:=Nat,fr:=fun k=>[(1,.c (.d (iD (k:Int))))],ks:=[],L:=fun k=>[],ex:=0,I:=fun k=>k≤s.length∧skp s k=j,μ:=fun k=>s.length - k },⟨i,⟨hi,hj⟩,?_⟩,fun (k:Nat) hk=>?_⟩
 ·((repeat' first|exact rfl|((conv=>whnf);first|done|exact suL|refine And.intro ?_ ?_|fail));all_goals conv=>whnf)
 ·obtain ⟨hk1,hk2⟩:=hk
  by_cases hk7:k<s.length
  ·have hk7':(k:Int)<(s.length:Int):=by omega
   by_cases hc:(((s.getD ((k:Nat):Int).toNat 0).toNat:Nat):Int)=32
   ·have hc':=(byt 32 hk7).1 hc
    ((repeat' ((conv=>whnf);first|exact .intro|refine G ?_|intro _|refine .mk ?_ ?_|refine H ?_|fail));all_goals conv=>whnf)
    refine ⟨k+1,⟨⟨hk7,by rw[skp_32 hc',hk2]⟩,by show s.length - (k+1)<s.length - k;omega⟩,?_⟩
    ((repeat' first|exact rfl|((conv=>whnf);first|done|exact suL|refine And.intro ?_ ?_|fail));all_goals conv=>whnf)
    exact ceq (by rw[wrapI (by omega)];rfl)
   ·have hc':s[k]?≠some 32:=fun h=>hc ((byt 32 hk7).2 h)
    rw[skp_n hc'] at hk2
    subst hk2
    have h2:¬ ((k:Nat):Int)=((s.length:Nat):Int):=by omega
    have hw:¬ wordlyP 34:=by decide
    have h3:¬ wdlyP (((s.getD ((k:Nat):Int).toNat 0).toNat:Nat):Int):=fun e=>hw (by rw[getD_of h] at e;exact (wdly_iff _).1 e)
    have c0:=rwordly_n (gl:=gl) h3
    have h1:=(byt 34 hk7).2 h
    ((repeat' ((conv=>whnf);first|exact .intro|refine G ?_|intro _|refine C1 c0 ?_|refine .mk ?_ ?_|refine H ?_|fail));all_goals conv=>whnf)
    refine ⟨{ σ:=(Nat×List UInt8),fr:=fun q=>[(9,.c (.d (iD (q.1:Int)))),(8,.c (.all 1 1))],ks:=[],L:=fun q=>[(1,.rows 1 (bD q.2) 5)],ex:=1,I:=fun q=>k+1≤q.1∧q.1≤s.length∧q.2.length≤q.1∧txtF (s.drop (k+1))=(txtF (s.drop q.1)).map fun r=>(q.2++r.1,q.1 - (k+1)+r.2),μ:=fun q=>s.length - q.1 },⟨(k+1,[]),⟨Nat.le_refl _,hk7,Nat.zero_le _,by simp⟩,?_⟩,?_⟩
    ·((repeat' first|exact rfl|((conv=>whnf);first|done|exact suL|refine And.intro ?_ ?_|fail));all_goals conv=>whnf)
     ·exact ceq (by rw[wrapI (by omega)];rfl)
     ·exact .inr (.inr (.inl ⟨rfl,1,1,rfl,Nat.le_refl _⟩))
     ·exact ⟨1,_,rfl,by decide,Nat.le_refl _⟩
    ·rintro ⟨m,a⟩ ⟨f1,f2,f3,f4⟩
     simp only at f1 f2 f3 f4
     by_cases hm7:m<s.length
     ·have hm7':(m:Int)<(s.length:Int):=by omega
      by_cases hcm:(((s.getD ((m:Nat):Int).toNat 0).toNat:Nat):Int)=34
      ·have hg:=(byt 34 hm7).1 hcm
       have e1:IntKind.i64.wrap ((((m,a):Nat×List UInt8).1:Int)+1)=((m+1:Nat):Int):=by rw[wrapI (by show _≤(m:Int)+1∧(m:Int)+1≤_;omega)];rfl
       rw[drop_get hg] at f4
       by_cases hm9:m+1<s.length
       ·have hm9':IntKind.i64.wrap ((((m,a):Nat×List UInt8).1:Int)+1)<((s.length:Nat):Int):=by rw[e1];omega
        by_cases hc2:(((s.getD ((m+1:Nat):Int).toNat 0).toNat:Nat):Int)=34
        ·have hg2:=(byt 34 hm9).1 hc2
         rw[drop_get hg2,txtF_2,Option.map_map] at f4
         ((repeat' ((conv=>whnf);first|exact .intro|refine G ?_|intro _|refine C1 c0 ?_|(rw[e1])|refine .mk ?_ ?_|refine H ?_|fail));all_goals conv=>whnf)
         refine ⟨⟨rfl,by show ((bD a).length+1) * 1≤140737488355328;rw[bD_len];omega,by show (bD a).length+1≤maxLen;rw[bD_len];unfold maxLen;omega⟩,?_⟩
         ((repeat' ((conv=>whnf);first|exact .intro|refine G ?_|intro _|refine C1 c0 ?_|(rw[e1])|refine .mk ?_ ?_|refine H ?_|fail));all_goals conv=>whnf)
         refine ⟨(m+2,a++[34]),⟨⟨by show k+1≤m+2;omega,hm9,by show (a++[34]).length≤m+2;simp;omega,?_⟩,by show s.length - (m+2)<s.length - m;omega⟩,?_⟩
         ·rw[f4]
          show _=(txtF (s.drop (m+1+1))).map _
          congr 1
          funext q
          simp;omega
         ·((repeat' first|exact rfl|((conv=>whnf);first|done|exact suL|refine And.intro ?_ ?_|fail));all_goals conv=>whnf)
          ·exact ceq (by rw[wrapI (by omega)];rfl)
          show bD a++[[D.v (.int .u8 34)]]=bD (a++[34])
          rw[bD_app]
          rfl
        ·have hn:(s.drop (m+1)).head?≠some 34:=by
          rw[List.head?_drop]
          exact fun e=>hc2 ((byt 34 hm9).2 e)
         rw[txtF_1 hn,ht] at f4
         obtain ⟨rfl,rfl⟩:a=b∧m - (k+1)+1=l:=by simpa[eq_comm] using f4
         ((repeat' ((conv=>whnf);first|exact .intro|refine G ?_|intro _|refine C1 c0 ?_|(rw[e1])|refine .mk ?_ ?_|refine H ?_|fail));all_goals conv=>whnf)
         refine ⟨a,rfl,?_⟩
         ((repeat' ((conv=>whnf);first|exact .intro|refine G ?_|intro _|refine C1 c0 ?_|(rw[e1])|refine .mk ?_ ?_|refine H ?_|fail));all_goals conv=>whnf)
         rw[show m+1=k+1+(m - (k+1)+1) by omega]
         exact LeD.rfl
       ·have hm9':¬ IntKind.i64.wrap ((((m,a):Nat×List UInt8).1:Int)+1)<((s.length:Nat):Int):=by rw[e1];omega
        rw[show s.drop (m+1)=[] from List.drop_eq_nil_of_le (by omega),txtF_1 (by simp),ht] at f4
        obtain ⟨rfl,rfl⟩:a=b∧m - (k+1)+1=l:=by simpa[eq_comm] using f4
        ((repeat' ((conv=>whnf);first|exact .intro|refine G ?_|intro _|refine C1 c0 ?_|(rw[e1])|refine .mk ?_ ?_|refine H ?_|fail));all_goals conv=>whnf)
        refine ⟨a,rfl,?_⟩
        ((repeat' ((conv=>whnf);first|exact .intro|refine G ?_|intro _|refine C1 c0 ?_|(rw[e1])|refine .mk ?_ ?_|refine H ?_|fail));all_goals conv=>whnf)
        rw[show m+1=k+1+(m - (k+1)+1) by omega]
        exact LeD.rfl
      ·have hg:s[m]?=some (s.getD ((m:Nat):Int).toNat 0):=(byt _ hm7).1 rfl
       have hne:s.getD ((m:Nat):Int).toNat 0≠34:=fun e=>hcm (by rw[e];rfl)
       rw[drop_get hg,txtF_c hne,Option.map_map] at f4
       ((repeat' ((conv=>whnf);first|exact .intro|refine G ?_|intro _|refine .mk ?_ ?_|refine H ?_|fail));all_goals conv=>whnf)
       refine ⟨⟨rfl,by show ((bD a).length+1) * 1≤140737488355328;rw[bD_len];omega,by show (bD a).length+1≤maxLen;rw[bD_len];unfold maxLen;omega⟩,?_⟩
       ((repeat' ((conv=>whnf);first|exact .intro|refine G ?_|intro _|refine .mk ?_ ?_|refine H ?_|fail));all_goals conv=>whnf)
       refine ⟨(m+1,a++[s.getD ((m:Nat):Int).toNat 0]),⟨⟨by show k+1≤m+1;omega,hm7,by show (a++[_]).length≤m+1;simp;omega,?_⟩,by show s.length - (m+1)<s.length - m;omega⟩,?_⟩
       ·rw[f4]
        show _=(txtF (s.drop (m+1))).map _
        congr 1
        funext q
        simp;omega
       ·((repeat' first|exact rfl|((conv=>whnf);first|done|exact suL|refine And.intro ?_ ?_|fail));all_goals conv=>whnf)
        ·exact ceq (by rw[wrapI (by omega)];rfl)
        show bD a++[[D.v (.int .u8 (((s.getD ((m:Nat):Int).toNat 0).toNat:Nat):Int))]]=bD (a++[_])
        rw[bD_app]
     ·rw[show s.drop m=[] from List.drop_eq_nil_of_le (by omega),ht] at f4
      cases f4
  ·have hc':s[k]?≠some 32:=by rw[List.getElem?_eq_none (by omega)];simp
   rw[skp_n hc'] at hk2
   subst hk2
   exact absurd (lt_of_get h) hk7
theorem token_textn {s:List UInt8} {i j:Nat} (hi:i≤s.length) (hs:s.length≤200) (hj:skp s i=j) (h:s[j]?=some 34) (ht:txtF (s.drop (j+1))=none):FnP Tryz.prog gl 35 [.str s,iD (i:Int)] (.agg [iD 9,iD (j:Int),iD (j:Int),.str []]):=by
 refine S0 Tryz.func35 rfl ?_
 ((repeat' ((conv=>whnf);first|exact .intro|refine G ?_|intro _|refine .mk ?_ ?_|refine H ?_|fail));all_goals conv=>whnf)
 refine ⟨{ σ:=Nat,fr:=fun k=>[(1,.c (.d (iD (k:Int))))],ks:=[],L:=fun k=>[],ex:=0,I:=fun k=>k≤s.length∧skp s k=j,μ:=fun k=>s.length - k },⟨i,⟨hi,hj⟩,?_⟩,fun (k:Nat) hk=>?_⟩
 ·((repeat' first|exact rfl|((conv=>whnf);first|done|exact suL|refine And.intro ?_ ?_|fail));all_goals conv=>whnf)
 ·obtain ⟨hk1,hk2⟩:=hk
  by_cases hk7:k<s.length
  ·have hk7':(k:Int)<(s.length:Int):=by omega
   by_cases hc:(((s.getD ((k:Nat):Int).toNat 0).toNat:Nat):Int)=32
   ·have hc':=(byt 32 hk7).1 hc
    ((repeat' ((conv=>whnf);first|exact .intro|refine G ?_|intro _|refine .mk ?_ ?_|refine H ?_|fail));all_goals conv=>whnf)
    refine ⟨k+1,⟨⟨hk7,by rw[skp_32 hc',hk2]⟩,by show s.length - (k+1)<s.length - k;omega⟩,?_⟩
    ((repeat' first|exact rfl|((conv=>whnf);first|done|exact suL|refine And.intro ?_ ?_|fail));all_goals conv=>whnf)
    exact ceq (by rw[wrapI (by omega)];rfl)
   ·have hc':s[k]?≠some 32:=fun h=>hc ((byt 32 hk7).2 h)
    rw[skp_n hc'] at hk2
    subst hk2
    have h2:¬ ((k:Nat):Int)=((s.length:Nat):Int):=by omega
    have hw:¬ wordlyP 34:=by decide
    have h3:¬ wdlyP (((s.getD ((k:Nat):Int).toNat 0).toNat:Nat):Int):=fun e=>hw (by rw[getD_of h] at e;exact (wdly_iff _).1 e)
    have c0:=rwordly_n (gl:=gl) h3
    have h1:=(byt 34 hk7).2 h
    ((repeat' ((conv=>whnf);first|exact .intro|refine G ?_|intro _|refine C1 c0 ?_|refine .mk ?_ ?_|refine H ?_|fail));all_goals conv=>whnf)
    refine ⟨{ σ:=(Nat×List UInt8),fr:=fun q=>[(9,.c (.d (iD (q.1:Int)))),(8,.c (.all 1 1))],ks:=[],L:=fun q=>[(1,.rows 1 (bD q.2) 5)],ex:=1,I:=fun q=>k+1≤q.1∧q.1≤s.length∧q.2.length≤q.1∧txtF (s.drop q.1)=none,μ:=fun q=>s.length - q.1 },⟨(k+1,[]),⟨Nat.le_refl _,hk7,Nat.zero_le _,ht⟩,?_⟩,?_⟩
    ·((repeat' first|exact rfl|((conv=>whnf);first|done|exact suL|refine And.intro ?_ ?_|fail));all_goals conv=>whnf)
     ·exact ceq (by rw[wrapI (by omega)];rfl)
     ·exact .inr (.inr (.inl ⟨rfl,1,1,rfl,Nat.le_refl _⟩))
     ·exact ⟨1,_,rfl,by decide,Nat.le_refl _⟩
    ·rintro ⟨m,a⟩ ⟨f1,f2,f3,f4⟩
     simp only at f1 f2 f3 f4
     by_cases hm7:m<s.length
     ·have hm7':(m:Int)<(s.length:Int):=by omega
      by_cases hcm:(((s.getD ((m:Nat):Int).toNat 0).toNat:Nat):Int)=34
      ·have hg:=(byt 34 hm7).1 hcm
       have e1:IntKind.i64.wrap ((((m,a):Nat×List UInt8).1:Int)+1)=((m+1:Nat):Int):=by rw[wrapI (by show _≤(m:Int)+1∧(m:Int)+1≤_;omega)];rfl
       rw[drop_get hg] at f4
       by_cases hm9:m+1<s.length
       ·have hm9':IntKind.i64.wrap ((((m,a):Nat×List UInt8).1:Int)+1)<((s.length:Nat):Int):=by rw[e1];omega
        by_cases hc2:(((s.getD ((m+1:Nat):Int).toNat 0).toNat:Nat):Int)=34
        ·have hg2:=(byt 34 hm9).1 hc2
         rw[drop_get hg2,txtF_2,Option.map_eq_none_iff] at f4
         ((repeat' ((conv=>whnf);first|exact .intro|refine G ?_|intro _|refine C1 c0 ?_|(rw[e1])|refine .mk ?_ ?_|refine H ?_|fail));all_goals conv=>whnf)
         refine ⟨⟨rfl,by show ((bD a).length+1) * 1≤140737488355328;rw[bD_len];omega,by show (bD a).length+1≤maxLen;rw[bD_len];unfold maxLen;omega⟩,?_⟩
         ((repeat' ((conv=>whnf);first|exact .intro|refine G ?_|intro _|refine C1 c0 ?_|(rw[e1])|refine .mk ?_ ?_|refine H ?_|fail));all_goals conv=>whnf)
         refine ⟨(m+2,a++[34]),⟨⟨by show k+1≤m+2;omega,hm9,by show (a++[34]).length≤m+2;simp;omega,f4⟩,by show s.length - (m+2)<s.length - m;omega⟩,?_⟩
         ·((repeat' first|exact rfl|((conv=>whnf);first|done|exact suL|refine And.intro ?_ ?_|fail));all_goals conv=>whnf)
          ·exact ceq (by rw[wrapI (by omega)];rfl)
          show bD a++[[D.v (.int .u8 34)]]=bD (a++[34])
          rw[bD_app]
          rfl
        ·have hn:(s.drop (m+1)).head?≠some 34:=by
          rw[List.head?_drop]
          exact fun e=>hc2 ((byt 34 hm9).2 e)
         rw[txtF_1 hn] at f4
         cases f4
       ·have hm9':¬ IntKind.i64.wrap ((((m,a):Nat×List UInt8).1:Int)+1)<((s.length:Nat):Int):=by rw[e1];omega
        rw[show s.drop (m+1)=[] from List.drop_eq_nil_of_le (by omega),txtF_1 (by simp)] at f4
        cases f4
      ·have hg:s[m]?=some (s.getD ((m:Nat):Int).toNat 0):=(byt _ hm7).1 rfl
       have hne:s.getD ((m:Nat):Int).toNat 0≠34:=fun e=>hcm (by rw[e];rfl)
       rw[drop_get hg,txtF_c hne,Option.map_eq_none_iff] at f4
       ((repeat' ((conv=>whnf);first|exact .intro|refine G ?_|intro _|refine .mk ?_ ?_|refine H ?_|fail));all_goals conv=>whnf)
       refine ⟨⟨rfl,by show ((bD a).length+1) * 1≤140737488355328;rw[bD_len];omega,by show (bD a).length+1≤maxLen;rw[bD_len];unfold maxLen;omega⟩,?_⟩
       ((repeat' ((conv=>whnf);first|exact .intro|refine G ?_|intro _|refine .mk ?_ ?_|refine H ?_|fail));all_goals conv=>whnf)
       refine ⟨(m+1,a++[s.getD ((m:Nat):Int).toNat 0]),⟨⟨by show k+1≤m+1;omega,hm7,by show (a++[_]).length≤m+1;simp;omega,f4⟩,by show s.length - (m+1)<s.length - m;omega⟩,?_⟩
       ·((repeat' first|exact rfl|((conv=>whnf);first|done|exact suL|refine And.intro ?_ ?_|fail));all_goals conv=>whnf)
        ·exact ceq (by rw[wrapI (by omega)];rfl)
        show bD a++[[D.v (.int .u8 (((s.getD ((m:Nat):Int).toNat 0).toNat:Nat):Int))]]=bD (a++[_])
        rw[bD_app]
     ·have hm8:¬ (m:Int)<(s.length:Int):=by omega
      ((repeat' ((conv=>whnf);first|exact .intro|refine G ?_|intro _|refine .mk ?_ ?_|refine H ?_|fail));all_goals conv=>whnf)
      exact LeD.rfl
  ·have hc':s[k]?≠some 32:=by rw[List.getElem?_eq_none (by omega)];simp
   rw[skp_n hc'] at hk2
   subst hk2
   exact absurd (lt_of_get h) hk7
theorem tx_len {x:Nat} (h:x<7):(tx.getD x []).length≤7:=by
 have key:∀ n:Fin 7,(tx.getD n.val []).length≤7:=by decide
 exact key ⟨x,h⟩
theorem bdI_step {s:List UInt8} {k:Nat} (h0:1≤k) (h:k≤6):bdI s (7 - k)=if s.take (tx.getD k []).length=tx.getD k [] then some k else bdI s (7 - (k+1)):=by
 have e:7 - k=(6 - k)+1:=by omega
 have e2:6 - (6 - k)=k:=by omega
 have e3:7 - (k+1)=6 - k:=by omega
 rw[e,e3,bdI,e2]
theorem token_bad {s:List UInt8} {i j:Nat} (hi:i≤s.length) (hs:s.length≤200) (hj:skp s i=j) (h:s[j]?=some 35) {m:Nat} (hb:bdI (s.drop j) 6=some m):FnP Tryz.prog gl 35 [.str s,iD (i:Int)] (.agg [iD 3,iD (j:Int),iD ((j+(tx.getD m []).length:Nat):Int),.str (tx.getD m [])]):=by
 refine S0 Tryz.func35 rfl ?_
 ((repeat' ((conv=>whnf);first|exact .intro|refine G ?_|intro _|refine .mk ?_ ?_|refine H ?_|fail));all_goals conv=>whnf)
 refine ⟨{ σ:=Nat,fr:=fun k=>[(1,.c (.d (iD (k:Int))))],ks:=[],L:=fun k=>[],ex:=0,I:=fun k=>k≤s.length∧skp s k=j,μ:=fun k=>s.length - k },⟨i,⟨hi,hj⟩,?_⟩,fun (k:Nat) hk=>?_⟩
 ·((repeat' first|exact rfl|((conv=>whnf);first|done|exact suL|refine And.intro ?_ ?_|fail));all_goals conv=>whnf)
 ·obtain ⟨hk1,hk2⟩:=hk
  by_cases hk7:k<s.length
  ·have hk7':(k:Int)<(s.length:Int):=by omega
   by_cases hc:(((s.getD ((k:Nat):Int).toNat 0).toNat:Nat):Int)=32
   ·have hc':=(byt 32 hk7).1 hc
    ((repeat' ((conv=>whnf);first|exact .intro|refine G ?_|intro _|refine .mk ?_ ?_|refine H ?_|fail));all_goals conv=>whnf)
    refine ⟨k+1,⟨⟨hk7,by rw[skp_32 hc',hk2]⟩,by show s.length - (k+1)<s.length - k;omega⟩,?_⟩
    ((repeat' first|exact rfl|((conv=>whnf);first|done|exact suL|refine And.intro ?_ ?_|fail));all_goals conv=>whnf)
    exact ceq (by rw[wrapI (by omega)];rfl)
   ·have hc':s[k]?≠some 32:=fun h=>hc ((byt 32 hk7).2 h)
    rw[skp_n hc'] at hk2
    subst hk2
    have h2:¬ ((k:Nat):Int)=((s.length:Nat):Int):=by omega
    have hw:¬ wordlyP 35:=by decide
    have h3:¬ wdlyP (((s.getD ((k:Nat):Int).toNat 0).toNat:Nat):Int):=fun e=>hw (by rw[getD_of h] at e;exact (wdly_iff _).1 e)
    have c0:=rwordly_n (gl:=gl) h3
    have h1:=(byt 35 hk7).2 h
    have h4:¬ (((s.getD ((k:Nat):Int).toNat 0).toNat:Nat):Int)=34:=fun e=>by rw[h1] at e;exact absurd e (by decide)
    ((repeat' ((conv=>whnf);first|exact .intro|refine G ?_|intro _|refine C1 c0 ?_|refine C1 Wrongs_d ?_|refine .mk ?_ ?_|refine H ?_|fail));all_goals conv=>whnf)
    refine ⟨{ σ:=Nat,fr:=fun x=>[(11,.c (.d (iD (x:Int))))],ks:=[],L:=fun x=>[],ex:=0,I:=fun x=>1≤x∧x≤7∧bdI (s.drop k) (7 - x)=some m,μ:=fun x=>7 - x },⟨1,⟨Nat.le_refl _,by omega,hb⟩,?_⟩,fun (x:Nat) hx=>?_⟩
    ·((repeat' first|exact rfl|((conv=>whnf);first|done|exact suL|refine And.intro ?_ ?_|fail));all_goals conv=>whnf)
    ·obtain ⟨x0,x1,x2⟩:=hx
     by_cases hx7:x<7
     ·have hx7':(x:Int)<7:=by omega
      rw[bdI_step x0 (by omega)] at x2
      have hl7:=tx_len hx7
      have e1:IntKind.i64.wrap (((k:Nat):Int)+(((tx.getD x []).length:Nat):Int))=((k+(tx.getD x []).length:Nat):Int):=by rw[wrapI (by omega)];rfl
      have e3:=lit_slice s k (tx.getD x []).length
      by_cases hm:(s.drop k).take (tx.getD x []).length=tx.getD x []
      ·rw[if_pos hm] at x2
       have hl8:=congrArg List.length hm
       rw[List.length_take,List.length_drop] at hl8
       have g0:IntKind.i64.wrap (((k:Nat):Int)+(((tx.getD x []).length:Nat):Int))≤((s.length:Nat):Int):=by rw[e1];omega
       have g1:=e3.trans hm
       ((repeat' ((conv=>whnf);first|exact .intro|refine G ?_|intro _|((first|rw[e1]|refine ⟨_,txr_get hx7,?_⟩|refine ⟨⟨(show (0:Int)≤((k:Nat):Int) by omega),(show ((k:Nat):Int)≤((k+(tx.getD x []).length:Nat):Int) by omega),(show ((k+(tx.getD x []).length:Nat):Int)≤((s.length:Nat):Int) by omega)⟩,?_⟩))|refine .mk ?_ ?_|refine H ?_|fail));all_goals conv=>whnf)
       rw[Option.some.inj x2] at *
       exact LeD.rfl
      ·rw[if_neg hm] at x2
       by_cases g0:k+(tx.getD x []).length≤s.length
       ·have g0':IntKind.i64.wrap (((k:Nat):Int)+(((tx.getD x []).length:Nat):Int))≤((s.length:Nat):Int):=by rw[e1];omega
        have g1:=fun e=>hm (e3.symm.trans e)
        ((repeat' ((conv=>whnf);first|exact .intro|refine G ?_|intro _|((first|rw[e1]|refine ⟨_,txr_get hx7,?_⟩|refine ⟨⟨(show (0:Int)≤((k:Nat):Int) by omega),(show ((k:Nat):Int)≤((k+(tx.getD x []).length:Nat):Int) by omega),(show ((k+(tx.getD x []).length:Nat):Int)≤((s.length:Nat):Int) by omega)⟩,?_⟩))|refine .mk ?_ ?_|refine H ?_|fail));all_goals conv=>whnf)
        refine ⟨x+1,⟨⟨by omega,by omega,x2⟩,by show 7 - (x+1)<7 - x;omega⟩,?_⟩
        ((repeat' first|exact rfl|((conv=>whnf);first|done|exact suL|refine And.intro ?_ ?_|fail));all_goals conv=>whnf)
        exact ceq (by rw[wrapI (by omega)];rfl)
       ·have g0':¬ IntKind.i64.wrap (((k:Nat):Int)+(((tx.getD x []).length:Nat):Int))≤((s.length:Nat):Int):=by rw[e1];omega
        ((repeat' ((conv=>whnf);first|exact .intro|refine G ?_|intro _|((first|rw[e1]|refine ⟨_,txr_get hx7,?_⟩|refine ⟨⟨(show (0:Int)≤((k:Nat):Int) by omega),(show ((k:Nat):Int)≤((k+(tx.getD x []).length:Nat):Int) by omega),(show ((k+(tx.getD x []).length:Nat):Int)≤((s.length:Nat):Int) by omega)⟩,?_⟩))|refine .mk ?_ ?_|refine H ?_|fail));all_goals conv=>whnf)
        refine ⟨x+1,⟨⟨by omega,by omega,x2⟩,by show 7 - (x+1)<7 - x;omega⟩,?_⟩
        ((repeat' first|exact rfl|((conv=>whnf);first|done|exact suL|refine And.intro ?_ ?_|fail));all_goals conv=>whnf)
        exact ceq (by rw[wrapI (by omega)];rfl)
     ·have hx8:¬ (x:Int)<7:=by omega
      have:x=7:=by omega
      subst this
      cases x2
  ·have hc':s[k]?≠some 32:=by rw[List.getElem?_eq_none (by omega)];simp
   rw[skp_n hc'] at hk2
   subst hk2
   exact absurd (lt_of_get h) hk7
theorem token_badn {s:List UInt8} {i j:Nat} (hi:i≤s.length) (hs:s.length≤200) (hj:skp s i=j) (h:s[j]?=some 35) (hb:bdI (s.drop j) 6=none):FnP Tryz.prog gl 35 [.str s,iD (i:Int)] (.agg [iD 9,iD (j:Int),iD (j:Int),.str []]):=by
 refine S0 Tryz.func35 rfl ?_
 ((repeat' ((conv=>whnf);first|exact .intro|refine G ?_|intro _|refine .mk ?_ ?_|refine H ?_|fail));all_goals conv=>whnf)
 refine ⟨{ σ:=Nat,fr:=fun k=>[(1,.c (.d (iD (k:Int))))],ks:=[],L:=fun k=>[],ex:=0,I:=fun k=>k≤s.length∧skp s k=j,μ:=fun k=>s.length - k },⟨i,⟨hi,hj⟩,?_⟩,fun (k:Nat) hk=>?_⟩
 ·((repeat' first|exact rfl|((conv=>whnf);first|done|exact suL|refine And.intro ?_ ?_|fail));all_goals conv=>whnf)
 ·obtain ⟨hk1,hk2⟩:=hk
  by_cases hk7:k<s.length
  ·have hk7':(k:Int)<(s.length:Int):=by omega
   by_cases hc:(((s.getD ((k:Nat):Int).toNat 0).toNat:Nat):Int)=32
   ·have hc':=(byt 32 hk7).1 hc
    ((repeat' ((conv=>whnf);first|exact .intro|refine G ?_|intro _|refine .mk ?_ ?_|refine H ?_|fail));all_goals conv=>whnf)
    refine ⟨k+1,⟨⟨hk7,by rw[skp_32 hc',hk2]⟩,by show s.length - (k+1)<s.length - k;omega⟩,?_⟩
    ((repeat' first|exact rfl|((conv=>whnf);first|done|exact suL|refine And.intro ?_ ?_|fail));all_goals conv=>whnf)
    exact ceq (by rw[wrapI (by omega)];rfl)
   ·have hc':s[k]?≠some 32:=fun h=>hc ((byt 32 hk7).2 h)
    rw[skp_n hc'] at hk2
    subst hk2
    have h2:¬ ((k:Nat):Int)=((s.length:Nat):Int):=by omega
    have hw:¬ wordlyP 35:=by decide
    have h3:¬ wdlyP (((s.getD ((k:Nat):Int).toNat 0).toNat:Nat):Int):=fun e=>hw (by rw[getD_of h] at e;exact (wdly_iff _).1 e)
    have c0:=rwordly_n (gl:=gl) h3
    have h1:=(byt 35 hk7).2 h
    have h4:¬ (((s.getD ((k:Nat):Int).toNat 0).toNat:Nat):Int)=34:=fun e=>by rw[h1] at e;exact absurd e (by decide)
    ((repeat' ((conv=>whnf);first|exact .intro|refine G ?_|intro _|refine C1 c0 ?_|refine C1 Wrongs_d ?_|refine .mk ?_ ?_|refine H ?_|fail));all_goals conv=>whnf)
    refine ⟨{ σ:=Nat,fr:=fun x=>[(11,.c (.d (iD (x:Int))))],ks:=[],L:=fun x=>[],ex:=0,I:=fun x=>1≤x∧x≤7∧bdI (s.drop k) (7 - x)=none,μ:=fun x=>7 - x },⟨1,⟨Nat.le_refl _,by omega,hb⟩,?_⟩,fun (x:Nat) hx=>?_⟩
    ·((repeat' first|exact rfl|((conv=>whnf);first|done|exact suL|refine And.intro ?_ ?_|fail));all_goals conv=>whnf)
    ·obtain ⟨x0,x1,x2⟩:=hx
     by_cases hx7:x<7
     ·have hx7':(x:Int)<7:=by omega
      rw[bdI_step x0 (by omega)] at x2
      have hl7:=tx_len hx7
      have e1:IntKind.i64.wrap (((k:Nat):Int)+(((tx.getD x []).length:Nat):Int))=((k+(tx.getD x []).length:Nat):Int):=by rw[wrapI (by omega)];rfl
      have e3:=lit_slice s k (tx.getD x []).length
      by_cases hm:(s.drop k).take (tx.getD x []).length=tx.getD x []
      ·rw[if_pos hm] at x2
       have hl8:=congrArg List.length hm
       rw[List.length_take,List.length_drop] at hl8
       have g0:IntKind.i64.wrap (((k:Nat):Int)+(((tx.getD x []).length:Nat):Int))≤((s.length:Nat):Int):=by rw[e1];omega
       have g1:=e3.trans hm
       ((repeat' ((conv=>whnf);first|exact .intro|refine G ?_|intro _|((first|rw[e1]|refine ⟨_,txr_get hx7,?_⟩|refine ⟨⟨(show (0:Int)≤((k:Nat):Int) by omega),(show ((k:Nat):Int)≤((k+(tx.getD x []).length:Nat):Int) by omega),(show ((k+(tx.getD x []).length:Nat):Int)≤((s.length:Nat):Int) by omega)⟩,?_⟩))|refine .mk ?_ ?_|refine H ?_|fail));all_goals conv=>whnf)
       cases x2
      ·rw[if_neg hm] at x2
       by_cases g0:k+(tx.getD x []).length≤s.length
       ·have g0':IntKind.i64.wrap (((k:Nat):Int)+(((tx.getD x []).length:Nat):Int))≤((s.length:Nat):Int):=by rw[e1];omega
        have g1:=fun e=>hm (e3.symm.trans e)
        ((repeat' ((conv=>whnf);first|exact .intro|refine G ?_|intro _|((first|rw[e1]|refine ⟨_,txr_get hx7,?_⟩|refine ⟨⟨(show (0:Int)≤((k:Nat):Int) by omega),(show ((k:Nat):Int)≤((k+(tx.getD x []).length:Nat):Int) by omega),(show ((k+(tx.getD x []).length:Nat):Int)≤((s.length:Nat):Int) by omega)⟩,?_⟩))|refine .mk ?_ ?_|refine H ?_|fail));all_goals conv=>whnf)
        refine ⟨x+1,⟨⟨by omega,by omega,x2⟩,by show 7 - (x+1)<7 - x;omega⟩,?_⟩
        ((repeat' first|exact rfl|((conv=>whnf);first|done|exact suL|refine And.intro ?_ ?_|fail));all_goals conv=>whnf)
        exact ceq (by rw[wrapI (by omega)];rfl)
       ·have g0':¬ IntKind.i64.wrap (((k:Nat):Int)+(((tx.getD x []).length:Nat):Int))≤((s.length:Nat):Int):=by rw[e1];omega
        ((repeat' ((conv=>whnf);first|exact .intro|refine G ?_|intro _|((first|rw[e1]|refine ⟨_,txr_get hx7,?_⟩|refine ⟨⟨(show (0:Int)≤((k:Nat):Int) by omega),(show ((k:Nat):Int)≤((k+(tx.getD x []).length:Nat):Int) by omega),(show ((k+(tx.getD x []).length:Nat):Int)≤((s.length:Nat):Int) by omega)⟩,?_⟩))|refine .mk ?_ ?_|refine H ?_|fail));all_goals conv=>whnf)
        refine ⟨x+1,⟨⟨by omega,by omega,x2⟩,by show 7 - (x+1)<7 - x;omega⟩,?_⟩
        ((repeat' first|exact rfl|((conv=>whnf);first|done|exact suL|refine And.intro ?_ ?_|fail));all_goals conv=>whnf)
        exact ceq (by rw[wrapI (by omega)];rfl)
     ·have hx8:¬ (x:Int)<7:=by omega
      have:x=7:=by omega
      subst this
      ((repeat' ((conv=>whnf);first|exact .intro|refine G ?_|intro _|refine .mk ?_ ?_|refine H ?_|fail));all_goals conv=>whnf)
      exact LeD.rfl
  ·have hc':s[k]?≠some 32:=by rw[List.getElem?_eq_none (by omega)];simp
   rw[skp_n hc'] at hk2
   subst hk2
   exact absurd (lt_of_get h) hk7
end Go.Proofs.YtfcmhmglpcimiaaGreatDoor
