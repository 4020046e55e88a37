/- Proved: a part of what the law is proved with (the reckoner, contracts of functions, plain laws). Conditions: as each says. -/
import Derived.Test.YtfcmhmglpcimiaaGreatDoorKHb
namespace Go.Proofs.YtfcmhmglpcimiaaGreatDoor
open Go Go.EYtfcmhmglpcimiaaGreatDoor
set_option maxRecDepth 100000
section
variable {gl:List (Nat×List D)}
theorem tok_d {s:List UInt8} {i:Nat} (hi:i≤s.length) (hs:s.length≤200):FnP Tryz.prog gl 35 [.str s,iD (i:Int)] (.agg [iD ((tokZ s i).k:Int),iD ((tokZ s i).a:Int),iD ((tokZ s i).e:Int),.str (tokZ s i).t]):=by
 have h1:=skp_le hi
 cases hg:s[skp s i]? with
 | none =>
  have he:skp s i=s.length:=by have:=List.getElem?_eq_none_iff.1 hg;omega
  have:tokZ s i=⟨0,skp s i,skp s i,[]⟩:=by
   unfold tokZ
   rw[List.drop_eq_nil_of_le (by omega)]
   rfl
  rw[this]
  exact token_end hi hs rfl he
 | some c =>
  have hz:tokZ s i=tokU (skp s i) (c::s.drop (skp s i+1)):=by unfold tokZ;rw[drop_get hg]
  rw[tokU_cons] at hz
  by_cases hw:wordlyP c
  ·rw[tok_word hg hw]
   exact token_word hi hs rfl hg hw
  ·rw[if_neg hw] at hz
   by_cases h34:c=34
   ·subst h34
    rw[if_pos rfl] at hz
    rw[hz]
    cases hx:txtF (s.drop (skp s i+1)) with
    | none=>exact token_textn hi hs rfl hg hx
    | some q=>obtain ⟨b,l⟩:=q;exact token_text hi hs rfl hg hx
   ·rw[if_neg h34] at hz
    by_cases h35:c=35
    ·subst h35
     rw[if_pos rfl,← drop_get hg] at hz
     rw[hz]
     cases hx:bdI (s.drop (skp s i)) 6 with
     | none=>exact token_badn hi hs rfl hg hx
     | some m=>exact token_bad hi hs rfl hg hx
    ·rw[if_neg h35,← drop_get hg] at hz
     rw[hz]
     by_cases h2:two3 (s.drop (skp s i))
     ·rw[if_pos h2]
      refine token_sign2 hi hs rfl hg hw h34 h35 (show skp s i+2≤s.length from ?_) h2
      have hl:=lt_of_get hg
      rcases h2 with h2|h2|h2 <;>
      ·have:=congrArg List.length h2
       rw[List.length_take,List.length_drop] at this
       simp only[List.length_cons,List.length_nil] at this
       omega
     ·rw[if_neg h2]
      exact token_sign1 hi hs rfl hg hw h34 h35 h2
theorem sg_get {k:Nat} (h:k<12):(sg.map fun t=>[D.str t])[((k:Nat):Int).toNat]?=some [.str (sg.getD k [])]:=by
 have h':k<sg.length:=h
 rw[Int.toNat_natCast,List.getElem?_map,List.getElem?_eq_getElem h']
 simp[List.getD,List.getElem?_eq_getElem h']
theorem sgI_step {s:List UInt8} {k:Nat} (h0:1≤k) (h:k≤11):sgI s (12 - k)=if sg.getD k []=s then k else sgI s (12 - (k+1)):=by
 have e:12 - k=(11 - k)+1:=by omega
 have e2:11 - (11 - k)=k:=by omega
 have e3:12 - (k+1)=11 - k:=by omega
 rw[e,e3,sgI,e2]
theorem Sign_d (t:List UInt8):FnP Tryz.prog gl 53 [.str t] (iD (signZ t:Int)):=by
 obtain ⟨R,hR⟩:∃ R,signZ t=R:=⟨_,rfl⟩
 rw[hR]
 refine S0 Tryz.func53 rfl ?_
 ((repeat' ((conv=>whnf);first|exact .intro|refine G ?_|intro _|refine .mk ?_ ?_|refine H ?_|fail));all_goals conv=>whnf)
 refine ⟨{ σ:=Nat,fr:=fun x=>[(4,.c (.d (iD (x:Int))))],ks:=[],L:=fun x=>[],ex:=0,I:=fun x=>1≤x∧x≤12∧sgI t (12 - x)=R,μ:=fun x=>12 - x },⟨1,⟨Nat.le_refl _,by omega,hR⟩,?_⟩,fun (x:Nat) hx=>?_⟩
 ·((repeat' first|exact rfl|((conv=>whnf);first|done|exact suL|refine And.intro ?_ ?_|fail));all_goals conv=>whnf)
 ·obtain ⟨x0,x1,x2⟩:=hx
  by_cases hx7:x<12
  ·have hx7':(x:Int)<12:=by omega
   rw[sgI_step x0 (by omega)] at x2
   by_cases hm:sg.getD x []=t
   ·rw[if_pos hm] at x2
    subst x2
    ((repeat' ((conv=>whnf);first|exact .intro|refine G ?_|intro _|(first|refine ⟨_,sg_get hx7,?_⟩|refine ⟨⟨Int.natCast_nonneg _,hx7'⟩,?_⟩)|refine .mk ?_ ?_|refine H ?_|fail));all_goals conv=>whnf)
    exact LeD.rfl
   ·rw[if_neg hm] at x2
    ((repeat' ((conv=>whnf);first|exact .intro|refine G ?_|intro _|(first|refine ⟨_,sg_get hx7,?_⟩|refine ⟨⟨Int.natCast_nonneg _,hx7'⟩,?_⟩)|refine .mk ?_ ?_|refine H ?_|fail));all_goals conv=>whnf)
    refine ⟨x+1,⟨⟨by omega,by omega,x2⟩,by show 12 - (x+1)<12 - x;omega⟩,?_⟩
    ((repeat' first|exact rfl|((conv=>whnf);first|done|exact suL|refine And.intro ?_ ?_|fail));all_goals conv=>whnf)
    exact ceq (by rw[wrapI (by omega)];rfl)
  ·have hx8:¬ (x:Int)<12:=by omega
   have:x=12:=by omega
   subst this
   have:(0:Nat)=R:=x2
   subst this
   ((repeat' ((conv=>whnf);first|exact .intro|refine G ?_|intro _|refine .mk ?_ ?_|refine H ?_|fail));all_goals conv=>whnf)
   exact LeD.rfl
theorem Tight_d (op:Nat):FnP Tryz.prog gl 54 [iD (op:Int)] (iD (tgt op:Int)):=by
 unfold tgt
 by_cases h1:op≤6
 ·rw[if_pos h1]
  have h1':(op:Int)≤6:=by omega
  refine S0 Tryz.func54 rfl ?_
  ((repeat' ((conv=>whnf);first|exact .intro|refine G ?_|intro _|refine .mk ?_ ?_|refine H ?_|fail));all_goals conv=>whnf)
  exact LeD.rfl
 ·rw[if_neg h1]
  have h1':¬ (op:Int)≤6:=by omega
  by_cases h2:op=7
  ·rw[if_pos h2]
   have h2':(op:Int)=7:=by omega
   refine S0 Tryz.func54 rfl ?_
   ((repeat' ((conv=>whnf);first|exact .intro|refine G ?_|intro _|refine .mk ?_ ?_|refine H ?_|fail));all_goals conv=>whnf)
   exact LeD.rfl
  ·rw[if_neg h2]
   have h2':¬ (op:Int)=7:=by omega
   by_cases h3:op≤9
   ·rw[if_pos h3]
    have h3':(op:Int)≤9:=by omega
    refine S0 Tryz.func54 rfl ?_
    ((repeat' ((conv=>whnf);first|exact .intro|refine G ?_|intro _|refine .mk ?_ ?_|refine H ?_|fail));all_goals conv=>whnf)
    exact LeD.rfl
   ·rw[if_neg h3]
    have h3':¬ (op:Int)≤9:=by omega
    refine S0 Tryz.func54 rfl ?_
    ((repeat' ((conv=>whnf);first|exact .intro|refine G ?_|intro _|refine .mk ?_ ?_|refine H ?_|fail));all_goals conv=>whnf)
    exact LeD.rfl
theorem clZ_all {s:List UInt8}:clZ s=true↔2≤s.length∧s.length≤10∧∀ k,k<s.length→65≤(s.getD k 0).toNat∧(s.getD k 0).toNat≤90:=by
 unfold clZ
 simp only[Bool.and_eq_true,decide_eq_true_eq,List.all_eq_true,and_assoc]
 refine and_congr Iff.rfl (and_congr Iff.rfl ⟨fun h k hk=>?_,fun h x hx=>?_⟩)
 ·rw[List.getD,List.getElem?_eq_getElem hk]
  exact h _ (List.getElem_mem hk)
 ·obtain ⟨k,hk,rfl⟩:=List.mem_iff_getElem.1 hx
  have:=h k hk
  rw[List.getD,List.getElem?_eq_getElem hk] at this
  exact this
theorem rcalled_y {s:List UInt8} (hs:s.length≤200) (h:clZ s=true):FnP Tryz.prog gl 76 [.str s] (.v (.bool true)):=by
 obtain ⟨h1,h2,h3⟩:=clZ_all.1 h
 have g1:¬ (s.length:Int)<2:=by omega
 have g2:¬ (s.length:Int)>10:=by omega
 refine S0 Tryz.func76 rfl ?_
 ((repeat' ((conv=>whnf);first|exact .intro|refine G ?_|intro _|refine .mk ?_ ?_|refine H ?_|fail));all_goals conv=>whnf)
 refine ⟨{ σ:=Nat,fr:=fun k=>[(3,.c (.d (iD (k:Int))))],ks:=[],L:=fun k=>[],ex:=0,I:=fun k=>k≤s.length,μ:=fun k=>s.length - k },⟨0,Nat.zero_le _,?_⟩,fun (k:Nat) (hk:k≤s.length)=>?_⟩
 ·((repeat' first|exact rfl|((conv=>whnf);first|done|exact suL|refine And.intro ?_ ?_|fail));all_goals conv=>whnf)
 ·by_cases hk7:k<s.length
  ·have hk7':(k:Int)<(s.length:Int):=by omega
   have h4:=h3 k hk7
   have e:((k:Nat):Int).toNat=k:=by omega
   have g3:¬ (((s.getD ((k:Nat):Int).toNat 0).toNat:Nat):Int)<65:=by rw[e];omega
   have g4:¬ (((s.getD ((k:Nat):Int).toNat 0).toNat:Nat):Int)>90:=by rw[e];omega
   ((repeat' ((conv=>whnf);first|exact .intro|refine G ?_|intro _|refine .mk ?_ ?_|refine H ?_|fail));all_goals conv=>whnf)
   refine ⟨k+1,⟨hk7,by show s.length - (k+1)<s.length - k;omega⟩,?_⟩
   ((repeat' first|exact rfl|((conv=>whnf);first|done|exact suL|refine And.intro ?_ ?_|fail));all_goals conv=>whnf)
   exact ceq (by rw[wrapI (by omega)];rfl)
  ·have hk8:¬ (k:Int)<(s.length:Int):=by omega
   ((repeat' ((conv=>whnf);first|exact .intro|refine G ?_|intro _|refine .mk ?_ ?_|refine H ?_|fail));all_goals conv=>whnf)
   exact LeD.rfl
theorem rcalled_n {s:List UInt8} (hs:s.length≤200) (h:clZ s=false):FnP Tryz.prog gl 76 [.str s] (.v (.bool false)):=by
 by_cases g1:(s.length:Int)<2
 ·refine S0 Tryz.func76 rfl ?_
  ((repeat' ((conv=>whnf);first|exact .intro|refine G ?_|intro _|refine .mk ?_ ?_|refine H ?_|fail));all_goals conv=>whnf)
  exact LeD.rfl
 by_cases g2:(s.length:Int)>10
 ·refine S0 Tryz.func76 rfl ?_
  ((repeat' ((conv=>whnf);first|exact .intro|refine G ?_|intro _|refine .mk ?_ ?_|refine H ?_|fail));all_goals conv=>whnf)
  exact LeD.rfl
 refine S0 Tryz.func76 rfl ?_
 ((repeat' ((conv=>whnf);first|exact .intro|refine G ?_|intro _|refine .mk ?_ ?_|refine H ?_|fail));all_goals conv=>whnf)
 refine ⟨{ σ:=Nat,fr:=fun k=>[(3,.c (.d (iD (k:Int))))],ks:=[],L:=fun k=>[],ex:=0,I:=fun k=>k≤s.length∧∀ m,m<k→65≤(s.getD m 0).toNat∧(s.getD m 0).toNat≤90,μ:=fun k=>s.length - k },⟨0,⟨Nat.zero_le _,fun m hm=>absurd hm (Nat.not_lt_zero _)⟩,?_⟩,fun (k:Nat) hk=>?_⟩
 ·((repeat' first|exact rfl|((conv=>whnf);first|done|exact suL|refine And.intro ?_ ?_|fail));all_goals conv=>whnf)
 ·obtain ⟨hk,hk2⟩:=hk
  by_cases hk7:k<s.length
  ·have hk7':(k:Int)<(s.length:Int):=by omega
   have e:((k:Nat):Int).toNat=k:=by omega
   by_cases g3:(((s.getD ((k:Nat):Int).toNat 0).toNat:Nat):Int)<65
   ·((repeat' ((conv=>whnf);first|exact .intro|refine G ?_|intro _|refine .mk ?_ ?_|refine H ?_|fail));all_goals conv=>whnf)
    exact LeD.rfl
   by_cases g4:(((s.getD ((k:Nat):Int).toNat 0).toNat:Nat):Int)>90
   ·((repeat' ((conv=>whnf);first|exact .intro|refine G ?_|intro _|refine .mk ?_ ?_|refine H ?_|fail));all_goals conv=>whnf)
    exact LeD.rfl
   ((repeat' ((conv=>whnf);first|exact .intro|refine G ?_|intro _|refine .mk ?_ ?_|refine H ?_|fail));all_goals conv=>whnf)
   refine ⟨k+1,⟨⟨hk7,fun m hm=>?_⟩,by show s.length - (k+1)<s.length - k;omega⟩,?_⟩
   ·rcases Nat.lt_or_ge m k with h5|h5
    ·exact hk2 m h5
    ·have:m=k:=by omega
     subst this
     rw[e] at g3 g4
     omega
   ((repeat' first|exact rfl|((conv=>whnf);first|done|exact suL|refine And.intro ?_ ?_|fail));all_goals conv=>whnf)
   exact ceq (by rw[wrapI (by omega)];rfl)
  ·have:k=s.length:=by omega
   subst this
   rw[clZ_all.2 ⟨by omega,by omega,hk2⟩] at h
   cases h
end
section
variable {gl:List (Nat×List D)}
abbrev pB (s:List UInt8) (a w:Nat) (b d:Int):Blk:=.var [.d (.str s),.d (iD (a:Int)),.d (iD (w:Int)),.d (iD b),.d (iD d)] 90
theorem pfail_0 (s:List UInt8) (i j:Nat) (d e:Int):Go.EYtfcmhmglpcimiaaGreatDoor.Fn Tryz.prog gl 36 [.c (.ptr 0 0),.c (.d (iD (j:Int))),.c (.d (iD e))] [(0,pB s i 0 0 d)] 1 (.ret (.tup [])) [(0,pB s i j e d)] 1 []:=by
 refine S1 Tryz.func36 rfl ?_
 ((repeat' ((conv=>whnf);first|exact .intro|refine G ?_|intro _|refine .mk ?_ ?_|refine H ?_|fail));all_goals conv=>whnf)
 ((repeat' first|exact rfl|((conv=>whnf);first|done|exact suL|refine And.intro ?_ ?_|fail));all_goals conv=>whnf)
theorem deeper_y (s:List UInt8) (i j d:Nat) (hd:d<30):Go.EYtfcmhmglpcimiaaGreatDoor.Fn Tryz.prog gl 77 [.c (.ptr 0 0),.c (.d (iD (j:Int)))] [(0,pB s i 0 0 (d:Int))] 1 (.ret (.c (.d (.v (.bool true))))) [(0,pB s i 0 0 ((d+1:Nat):Int))] 1 []:=by
 have h30:¬ ((d:Nat):Int)=30:=by omega
 refine S1 Tryz.func77 rfl ?_
 ((repeat' ((conv=>whnf);first|exact .intro|refine G ?_|intro _|refine .mk ?_ ?_|refine H ?_|fail));all_goals conv=>whnf)
 ((repeat' first|exact rfl|((conv=>whnf);first|done|exact suL|refine And.intro ?_ ?_|fail));all_goals conv=>whnf)
 exact ceq (by rw[wrapI (by omega)];rfl)
theorem deeper_n (s:List UInt8) (i j:Nat):Go.EYtfcmhmglpcimiaaGreatDoor.Fn Tryz.prog gl 77 [.c (.ptr 0 0),.c (.d (iD (j:Int)))] [(0,pB s i 0 0 30)] 1 (.ret (.c (.d (.v (.bool false))))) [(0,pB s i j 4 30)] 1 []:=by
 have c1:=pfail_0 (gl:=gl) s i j 30 4
 refine S1 Tryz.func77 rfl ?_
 ((repeat' ((conv=>whnf);first|exact .intro|refine G ?_|intro _|refine C5 c1 [0] ?_|refine .mk ?_ ?_|refine H ?_|fail));all_goals conv=>whnf)
 ((repeat' first|exact rfl|((conv=>whnf);first|done|exact suL|refine And.intro ?_ ?_|fail));all_goals conv=>whnf)
theorem close_y {s:List UInt8} {i d:Nat} (hi:i≤s.length) (hs:s.length≤200) (hd:d≤30) (h:s[skp s i]?=some 41):Go.EYtfcmhmglpcimiaaGreatDoor.Fn Tryz.prog gl 82 [.c (.ptr 0 0)] [(0,pB s i 0 0 ((d+1:Nat):Int))] 1 (.ret (.tup [])) [(0,pB s (skp s i+1) 0 0 (d:Int))] 1 []:=by
 have c1:=tok_d (gl:=gl) hi hs
 rw[tok_mark (by decide) h] at c1
 change FnP Tryz.prog gl 35 _ (.agg [iD 4,iD ((skp s i:Nat):Int),iD ((skp s i+1:Nat):Int),.str [41]]) at c1
 refine S1 Tryz.func82 rfl ?_
 ((repeat' ((conv=>whnf);first|exact .intro|refine G ?_|intro _|refine C1 c1 ?_|refine .mk ?_ ?_|refine H ?_|fail));all_goals conv=>whnf)
 ((repeat' first|exact rfl|((conv=>whnf);first|done|exact suL|refine And.intro ?_ ?_|fail));all_goals conv=>whnf)
 all_goals exact ceq (by rw[wrapI (by omega)];omega)
theorem close_n {s:List UInt8} {i:Nat} {d:Int} (hi:i≤s.length) (hs:s.length≤200) (h:s[skp s i]?≠some 41):Go.EYtfcmhmglpcimiaaGreatDoor.Fn Tryz.prog gl 82 [.c (.ptr 0 0)] [(0,pB s i 0 0 d)] 1 (.ret (.tup [])) [(0,pB s (tokZ s i).e (skp s i) 2 (IntKind.i64.wrap (d - 1)))] 1 []:=by
 have c1:=tok_d (gl:=gl) hi hs
 have ha:=tok_a s i
 have hk:=fun (h1:(tokZ s i).k=4) (h2:(tokZ s i).t=[41])=>h (tok_mark_of h1 h2)
 generalize tokZ s i=tk at *
 obtain ⟨K,a,e,t⟩:=tk
 simp only at ha hk
 subst ha
 change FnP Tryz.prog gl 35 _ (.agg [iD (K:Int),iD ((skp s i:Nat):Int),iD ((e:Nat):Int),.str t]) at c1
 have c2:=pfail_0 (gl:=gl) s i (skp s i) d 2
 generalize skp s i=j at *
 by_cases h4:((K:Nat):Int)=4
 ·have h5:¬ t=[41]:=hk (by omega)
  have h4':¬ ¬ ((K:Nat):Int)=4:=fun hh=>hh h4
  refine S1 Tryz.func82 rfl ?_
  ((repeat' ((conv=>whnf);first|exact .intro|refine G ?_|intro _|refine C5 c2 [0] ?_|refine C1 c1 ?_|refine .mk ?_ ?_|refine H ?_|fail));all_goals conv=>whnf)
  ((repeat' first|exact rfl|((conv=>whnf);first|done|exact suL|refine And.intro ?_ ?_|fail));all_goals conv=>whnf)
 ·refine S1 Tryz.func82 rfl ?_
  ((repeat' ((conv=>whnf);first|exact .intro|refine G ?_|intro _|refine C5 c2 [0] ?_|refine C1 c1 ?_|refine .mk ?_ ?_|refine H ?_|fail));all_goals conv=>whnf)
  ((repeat' first|exact rfl|((conv=>whnf);first|done|exact suL|refine And.intro ?_ ?_|fail));all_goals conv=>whnf)
theorem close_b {s:List UInt8} {i w:Nat} {b d:Int} (hi:i≤s.length) (hs:s.length≤200) (hb:b≠0):Go.EYtfcmhmglpcimiaaGreatDoor.Fn Tryz.prog gl 82 [.c (.ptr 0 0)] [(0,pB s i w b d)] 1 (.ret (.tup [])) [(0,pB s (tokZ s i).e w b (IntKind.i64.wrap (d - 1)))] 1 []:=by
 have c1:=tok_d (gl:=gl) hi hs
 generalize tokZ s i=tk at *
 obtain ⟨K,a,e,t⟩:=tk
 change FnP Tryz.prog gl 35 _ (.agg [iD (K:Int),iD ((a:Nat):Int),iD ((e:Nat):Int),.str t]) at c1
 have hb':¬ b=0:=hb
 refine S1 Tryz.func82 rfl ?_
 ((repeat' ((conv=>whnf);first|exact .intro|refine G ?_|intro _|refine C1 c1 ?_|refine .mk ?_ ?_|refine H ?_|fail));all_goals conv=>whnf)
 ((repeat' first|exact rfl|((conv=>whnf);first|done|exact suL|refine And.intro ?_ ?_|fail));all_goals conv=>whnf)
end
section
variable {gl:List (Nat×List D)}
theorem unsg_n {s:List UInt8} (h:s.head?≠some 45):unsg s=s:=by unfold unsg;rw[if_neg h]
theorem wholeV_n {s:List UInt8} (h:s.head?≠some 45):wholeV s=(rv s s.length:Int):=by unfold wholeV;rw[if_neg h,unsg_n h]
theorem wWhole_some {s:List UInt8} {v:Int} (h45:s.head?≠some 45) (hs:s.length≤140737488355328) (h:wholeZ s=some v):FnP Tryz.prog gl 79 [.str s,fD] (.tup [iD v,.v (.bool true)]):=by
 unfold wholeZ wholeOk at h
 rw[unsg_n h45,wholeV_n h45] at h
 split at h
 ·rename_i hh
  cases h
  have:=Whole_p (gl:=gl) s hh.1.1 hh.1.2.1 hs
  rwa [if_pos ⟨hh.1.2.2,by have:=hh.2;unfold okI at this;omega⟩] at this
 ·cases h
theorem wWhole_none {s:List UInt8} (h45:s.head?≠some 45) (hs:s.length≤140737488355328) (h:wholeZ s=none):FnP Tryz.prog gl 79 [.str s,fD] (.tup [iD 0,fD]):=by
 unfold wholeZ wholeOk at h
 rw[unsg_n h45,wholeV_n h45] at h
 split at h
 ·cases h
 ·rename_i hh
  by_cases q1:s=[]
  ·subst q1;exact refWhole_e
  ·by_cases q2:s.head?=some 48∧s≠[48]
   ·obtain ⟨a,l,rfl⟩:=List.exists_cons_of_ne_nil q1
    obtain rfl:a=48:=Option.some.inj q2.1
    exact refWhole_z fun e=>q2.2 (by rw[e])
   ·have:=Whole_p (gl:=gl) s q1 q2 hs
    rwa [if_neg (fun h=>hh ⟨⟨q1,q2,h.1⟩,by unfold okI;have:=h.2;omega⟩)] at this
theorem wd_head {s:List UInt8} {j:Nat} {c:UInt8} (h:s[j]?=some c) (hw:wordlyP c):(wdAt s j).head?=some c:=by
 unfold wdAt
 rw[drop_get h,wdl,if_pos hw]
 rfl
theorem litZ_word {w:List UInt8} {c:UInt8} (h:w.head?=some c) (hw:wordlyP c):litZ w=if w=tT then some (3,1) else if w=tF then some (3,0) else none:=by
 unfold litZ
 by_cases h1:w=tT
 ·rw[if_pos h1,if_pos h1]
 ·rw[if_neg h1,if_neg h1]
  by_cases h2:w=tF
  ·rw[if_pos h2,if_pos h2]
  ·rw[if_neg h2,if_neg h2]
   cases hx:txI w 6 with
   | none=>rfl
   | some i =>
    obtain ⟨e,h3,h4⟩:=txI_at hx (Nat.le_refl _)
    subst e
    have:c=35:=by
     match i,h3,h4 with
     | 1,_,_=>cases h;rfl
     | 2,_,_=>cases h;rfl
     | 3,_,_=>cases h;rfl
     | 4,_,_=>cases h;rfl
     | 5,_,_=>cases h;rfl
     | 6,_,_=>cases h;rfl
    subst this
    exact absurd hw (by decide)
def GivesP (gl:List (Nat×List D)) (f:Nat) (vs:List V) (s:List UInt8) (i d d':Nat):Rs Nd→Prop
 | .ok n j=>Go.EYtfcmhmglpcimiaaGreatDoor.Fn Tryz.prog gl f vs [(0,pB s i 0 0 (d:Int))] 1 (.ret (.agg (ndC n))) [(0,pB s j 0 0 (d':Int))] 1 []
 | .no a e=>∃ (m:Nd) (j:Nat) (x:Int),j≤s.length∧e≠0∧Go.EYtfcmhmglpcimiaaGreatDoor.Fn Tryz.prog gl f vs [(0,pB s i 0 0 (d:Int))] 1 (.ret (.agg (ndC m))) [(0,pB s j a e x)] 1 []
abbrev n0:Nd:=.mk 0 0 [] z0 z0 []
theorem one_none {s:List UInt8} {i d:Nat} (hi:i≤s.length) (hs:s.length≤200) (h1:(tokZ s i).k≠1) (h2:(tokZ s i).k≠2) (h3:(tokZ s i).k≠3) (h4:(tokZ s i).k=4→(tokZ s i).t≠[45]∧(tokZ s i).t≠[40]) :
 GivesP gl 52 [.c (.ptr 0 0)] s i d d (.no (skp s i) 2):=by
 have c1:=tok_d (gl:=gl) hi hs
 have ha:=tok_a s i
 have he:=(tok_e hi).2
 generalize tokZ s i=tk at *
 obtain ⟨K,a,e,t⟩:=tk
 simp only at h1 h2 h3 h4 ha he
 subst ha
 change FnP Tryz.prog gl 35 _ (.agg [iD (K:Int),iD ((skp s i:Nat):Int),iD ((e:Nat):Int),.str t]) at c1
 have c2:=pfail_0 (gl:=gl) s e (skp s i) (d:Int) 2
 generalize skp s i=j at *
 refine ⟨n0,e,d,he,by decide,?_⟩
 have g1:¬ ((K:Nat):Int)=1:=by omega
 have g2:¬ ((K:Nat):Int)=2:=by omega
 have g3:¬ ((K:Nat):Int)=3:=by omega
 by_cases g4:((K:Nat):Int)=4
 ·obtain ⟨g5,g6⟩:=h4 (by omega)
  refine S1 Tryz.func52 rfl ?_
  ((repeat' ((conv=>whnf);first|exact .intro|refine G ?_|intro _|refine C5 c2 [0] ?_|refine C1 c1 ?_|refine .mk ?_ ?_|refine H ?_|fail));all_goals conv=>whnf)
  ((repeat' first|exact rfl|((conv=>whnf);first|done|exact suL|refine And.intro ?_ ?_|fail));all_goals conv=>whnf)
  all_goals (refine .inr ?_;repeat' first|exact .intro|exact .inr (.inl rfl)|exact lf0|exact ln0|((conv=>whnf);first|exact .intro|exact .inr (.inl rfl)|exact lf0|exact ln0|refine And.intro ?_ ?_|fail))
 ·refine S1 Tryz.func52 rfl ?_
  ((repeat' ((conv=>whnf);first|exact .intro|refine G ?_|intro _|refine C5 c2 [0] ?_|refine C1 c1 ?_|refine .mk ?_ ?_|refine H ?_|fail));all_goals conv=>whnf)
  ((repeat' first|exact rfl|((conv=>whnf);first|done|exact suL|refine And.intro ?_ ?_|fail));all_goals conv=>whnf)
  all_goals (refine .inr ?_;repeat' first|exact .intro|exact .inr (.inl rfl)|exact lf0|exact ln0|((conv=>whnf);first|exact .intro|exact .inr (.inl rfl)|exact lf0|exact ln0|refine And.intro ?_ ?_|fail))
theorem one_text {s:List UInt8} {i d:Nat} (hi:i≤s.length) (hs:s.length≤200) {b:List UInt8} {e:Nat} (h:tokZ s i=⟨2,skp s i,e,b⟩):GivesP gl 52 [.c (.ptr 0 0)] s i d d (.ok (.mk 2 0 b z0 z0 []) e):=by
 have c1:=tok_d (gl:=gl) hi hs
 rw[h] at c1
 change FnP Tryz.prog gl 35 _ (.agg [iD 2,iD ((skp s i:Nat):Int),iD ((e:Nat):Int),.str b]) at c1
 unfold GivesP
 refine S1 Tryz.func52 rfl ?_
 ((repeat' ((conv=>whnf);first|exact .intro|refine G ?_|intro _|refine C1 c1 ?_|refine .mk ?_ ?_|refine H ?_|fail));all_goals conv=>whnf)
 ((repeat' first|exact rfl|((conv=>whnf);first|done|exact suL|refine And.intro ?_ ?_|fail));all_goals conv=>whnf)
 all_goals (refine .inr ?_;repeat' first|exact .intro|exact .inr (.inl rfl)|exact lf0|exact ln0|((conv=>whnf);first|exact .intro|exact .inr (.inl rfl)|exact lf0|exact ln0|refine And.intro ?_ ?_|fail))
theorem one_bad {s:List UInt8} {i d:Nat} (hi:i≤s.length) (hs:s.length≤200) {b:List UInt8} {e:Nat} {m:Int} (h:tokZ s i=⟨3,skp s i,e,b⟩) (hb:litZ b=some (4,m)):GivesP gl 52 [.c (.ptr 0 0)] s i d d (.ok (.mk 4 m [] z0 z0 []) e):=by
 have c1:=tok_d (gl:=gl) hi hs
 have c2:=Named_d (gl:=gl) b
 rw[h] at c1
 rw[hb] at c2
 change FnP Tryz.prog gl 35 _ (.agg [iD 3,iD ((skp s i:Nat):Int),iD ((e:Nat):Int),.str b]) at c1
 change FnP Tryz.prog gl 81 _ (.tup [vlD 4 m [],.v (.bool true)]) at c2
 unfold GivesP
 refine S1 Tryz.func52 rfl ?_
 ((repeat' ((conv=>whnf);first|exact .intro|refine G ?_|intro _|refine C1 c1 ?_|refine C1 c2 ?_|refine .mk ?_ ?_|refine H ?_|fail));all_goals conv=>whnf)
 ((repeat' first|exact rfl|((conv=>whnf);first|done|exact suL|refine And.intro ?_ ?_|fail));all_goals conv=>whnf)
 all_goals (refine .inr ?_;repeat' first|exact .intro|exact .inr (.inl rfl)|exact lf0|exact ln0|((conv=>whnf);first|exact .intro|exact .inr (.inl rfl)|exact lf0|exact ln0|refine And.intro ?_ ?_|fail))
theorem one_minus_full {s:List UInt8} {i:Nat} (hi:i≤s.length) (hs:s.length≤200) (h:s[skp s i]?=some 45):GivesP gl 52 [.c (.ptr 0 0)] s i 30 30 (.no (skp s i) 4):=by
 have c1:=tok_d (gl:=gl) hi hs
 rw[tok_mark (by decide) h] at c1
 have hl:=lt_of_get h
 change FnP Tryz.prog gl 35 _ (.agg [iD 4,iD ((skp s i:Nat):Int),iD ((skp s i+1:Nat):Int),.str [45]]) at c1
 have c2:=deeper_n (gl:=gl) s (skp s i+1) (skp s i)
 generalize skp s i=j at *
 refine ⟨n0,j+1,30,hl,by decide,?_⟩
 refine S1 Tryz.func52 rfl ?_
 ((repeat' ((conv=>whnf);first|exact .intro|refine G ?_|intro _|refine C5 c2 [0] ?_|refine C1 c1 ?_|refine .mk ?_ ?_|refine H ?_|fail));all_goals conv=>whnf)
 ((repeat' first|exact rfl|((conv=>whnf);first|done|exact suL|refine And.intro ?_ ?_|fail));all_goals conv=>whnf)
 all_goals (refine .inr ?_;repeat' first|exact .intro|exact .inr (.inl rfl)|exact lf0|exact ln0|((conv=>whnf);first|exact .intro|exact .inr (.inl rfl)|exact lf0|exact ln0|refine And.intro ?_ ?_|fail))
theorem one_minus {s:List UInt8} {i d k:Nat} {n:Nd} (hi:i≤s.length) (hs:s.length≤200) (hd:d<30) (h:s[skp s i]?=some 45) (hn:GivesP gl 52 [.c (.ptr 0 0)] s (skp s i+1) (d+1) (d+1) (.ok n k)) :
 GivesP gl 52 [.c (.ptr 0 0)] s i d d (.ok (negN n) k):=by
 have c1:=tok_d (gl:=gl) hi hs
 rw[tok_mark (by decide) h] at c1
 have hl:=lt_of_get h
 change FnP Tryz.prog gl 35 _ (.agg [iD 4,iD ((skp s i:Nat):Int),iD ((skp s i+1:Nat):Int),.str [45]]) at c1
 have c2:=deeper_y (gl:=gl) s (skp s i+1) (skp s i) d hd
 unfold GivesP at hn ⊢
 generalize skp s i=j at *
 obtain ⟨k0,m,t,a,b,ks⟩:=n
 refine S1 Tryz.func52 rfl ?_
 ((repeat' ((conv=>whnf);first|exact .intro|refine G ?_|intro _|refine C5 c2 [0] ?_|refine C5 hn [0] ?_|refine C1 c1 ?_|refine .mk ?_ ?_|refine H ?_|fail));all_goals conv=>whnf)
 ((repeat' first|exact rfl|((conv=>whnf);first|done|exact suL|refine And.intro ?_ ?_|fail));all_goals conv=>whnf)
 all_goals first
  | exact ceq (by rw[wrapI (by omega)];omega)
  | (refine .inr ?_;repeat' first|exact .intro|exact .inr (.inl rfl)|exact lf0|exact ln0|((conv=>whnf);first|exact .intro|exact .inr (.inl rfl)|exact lf0|exact ln0|refine And.intro ?_ ?_|fail))
theorem one_minus_no {s:List UInt8} {i d q:Nat} {e:Int} (hi:i≤s.length) (hs:s.length≤200) (hd:d<30) (h:s[skp s i]?=some 45) (hn:GivesP gl 52 [.c (.ptr 0 0)] s (skp s i+1) (d+1) (d+1) (.no q e)) :
 GivesP gl 52 [.c (.ptr 0 0)] s i d d (.no q e):=by
 have c1:=tok_d (gl:=gl) hi hs
 rw[tok_mark (by decide) h] at c1
 have hl:=lt_of_get h
 change FnP Tryz.prog gl 35 _ (.agg [iD 4,iD ((skp s i:Nat):Int),iD ((skp s i+1:Nat):Int),.str [45]]) at c1
 have c2:=deeper_y (gl:=gl) s (skp s i+1) (skp s i) d hd
 obtain ⟨m,k,x,hk,he,hn⟩:=hn
 generalize skp s i=j at *
 refine ⟨negN m,k,IntKind.i64.wrap (x - 1),hk,he,?_⟩
 obtain ⟨k0,m,t,a,b,ks⟩:=m
 refine S1 Tryz.func52 rfl ?_
 ((repeat' ((conv=>whnf);first|exact .intro|refine G ?_|intro _|refine C5 c2 [0] ?_|refine C5 hn [0] ?_|refine C1 c1 ?_|refine .mk ?_ ?_|refine H ?_|fail));all_goals conv=>whnf)
 ((repeat' first|exact rfl|((conv=>whnf);first|done|exact suL|refine And.intro ?_ ?_|fail));all_goals conv=>whnf)
 all_goals (refine .inr ?_;repeat' first|exact .intro|exact .inr (.inl rfl)|exact lf0|exact ln0|((conv=>whnf);first|exact .intro|exact .inr (.inl rfl)|exact lf0|exact ln0|refine And.intro ?_ ?_|fail))
theorem one_par_full {s:List UInt8} {i:Nat} (hi:i≤s.length) (hs:s.length≤200) (h:s[skp s i]?=some 40):GivesP gl 52 [.c (.ptr 0 0)] s i 30 30 (.no (skp s i) 4):=by
 have c1:=tok_d (gl:=gl) hi hs
 rw[tok_mark (by decide) h] at c1
 have hl:=lt_of_get h
 change FnP Tryz.prog gl 35 _ (.agg [iD 4,iD ((skp s i:Nat):Int),iD ((skp s i+1:Nat):Int),.str [40]]) at c1
 have c2:=deeper_n (gl:=gl) s (skp s i+1) (skp s i)
 generalize skp s i=j at *
 refine ⟨n0,j+1,30,hl,by decide,?_⟩
 refine S1 Tryz.func52 rfl ?_
 ((repeat' ((conv=>whnf);first|exact .intro|refine G ?_|intro _|refine C5 c2 [0] ?_|refine C1 c1 ?_|refine .mk ?_ ?_|refine H ?_|fail));all_goals conv=>whnf)
 ((repeat' first|exact rfl|((conv=>whnf);first|done|exact suL|refine And.intro ?_ ?_|fail));all_goals conv=>whnf)
 all_goals (refine .inr ?_;repeat' first|exact .intro|exact .inr (.inl rfl)|exact lf0|exact ln0|((conv=>whnf);first|exact .intro|exact .inr (.inl rfl)|exact lf0|exact ln0|refine And.intro ?_ ?_|fail))
theorem one_par {s:List UInt8} {i d k:Nat} {n:Nd} (hi:i≤s.length) (hs:s.length≤200) (hd:d<30) (h:s[skp s i]?=some 40) (hk:k≤s.length) (hn:GivesP gl 34 [.c (.ptr 0 0),.c (.d (iD 1))] s (skp s i+1) (d+1) (d+1) (.ok n k)) (hq:s[skp s k]?=some 41) :
 GivesP gl 52 [.c (.ptr 0 0)] s i d d (.ok n (skp s k+1)):=by
 have c1:=tok_d (gl:=gl) hi hs
 rw[tok_mark (by decide) h] at c1
 change FnP Tryz.prog gl 35 _ (.agg [iD 4,iD ((skp s i:Nat):Int),iD ((skp s i+1:Nat):Int),.str [40]]) at c1
 have c2:=deeper_y (gl:=gl) s (skp s i+1) (skp s i) d hd
 have c3:=close_y (gl:=gl) (d:=d) hk hs (by omega) hq
 unfold GivesP at hn ⊢
 generalize skp s i=j at *
 obtain ⟨k0,m,t,a,b,ks⟩:=n
 refine S1 Tryz.func52 rfl ?_
 ((repeat' ((conv=>whnf);first|exact .intro|refine G ?_|intro _|refine C5 c2 [0] ?_|refine C5 hn [0] ?_|refine C5 c3 [0] ?_|refine C1 c1 ?_|refine .mk ?_ ?_|refine H ?_|fail));all_goals conv=>whnf)
 ((repeat' first|exact rfl|((conv=>whnf);first|done|exact suL|refine And.intro ?_ ?_|fail));all_goals conv=>whnf)
theorem one_par_n {s:List UInt8} {i d k:Nat} {n:Nd} (hi:i≤s.length) (hs:s.length≤200) (hd:d<30) (h:s[skp s i]?=some 40) (hk:k≤s.length) (hn:GivesP gl 34 [.c (.ptr 0 0),.c (.d (iD 1))] s (skp s i+1) (d+1) (d+1) (.ok n k)) (hq:s[skp s k]?≠some 41) :
 GivesP gl 52 [.c (.ptr 0 0)] s i d d (.no (skp s k) 2):=by
 have c1:=tok_d (gl:=gl) hi hs
 rw[tok_mark (by decide) h] at c1
 change FnP Tryz.prog gl 35 _ (.agg [iD 4,iD ((skp s i:Nat):Int),iD ((skp s i+1:Nat):Int),.str [40]]) at c1
 have c2:=deeper_y (gl:=gl) s (skp s i+1) (skp s i) d hd
 have c3:=close_n (gl:=gl) (d:=((d+1:Nat):Int)) hk hs hq
 refine ⟨n,(tokZ s k).e,IntKind.i64.wrap (((d+1:Nat):Int) - 1),(tok_e hk).2,by decide,?_⟩
 unfold GivesP at hn
 generalize (tokZ s k).e=e at *
 generalize skp s i=j at *
 obtain ⟨k0,m,t,a,b,ks⟩:=n
 refine S1 Tryz.func52 rfl ?_
 ((repeat' ((conv=>whnf);first|exact .intro|refine G ?_|intro _|refine C5 c2 [0] ?_|refine C5 hn [0] ?_|refine C5 c3 [0] ?_|refine C1 c1 ?_|refine .mk ?_ ?_|refine H ?_|fail));all_goals conv=>whnf)
 ((repeat' first|exact rfl|((conv=>whnf);first|done|exact suL|refine And.intro ?_ ?_|fail));all_goals conv=>whnf)
theorem one_par_no {s:List UInt8} {i d q:Nat} {e:Int} (hi:i≤s.length) (hs:s.length≤200) (hd:d<30) (h:s[skp s i]?=some 40) (hn:GivesP gl 34 [.c (.ptr 0 0),.c (.d (iD 1))] s (skp s i+1) (d+1) (d+1) (.no q e)) :
 GivesP gl 52 [.c (.ptr 0 0)] s i d d (.no q e):=by
 have c1:=tok_d (gl:=gl) hi hs
 rw[tok_mark (by decide) h] at c1
 change FnP Tryz.prog gl 35 _ (.agg [iD 4,iD ((skp s i:Nat):Int),iD ((skp s i+1:Nat):Int),.str [40]]) at c1
 have c2:=deeper_y (gl:=gl) s (skp s i+1) (skp s i) d hd
 obtain ⟨m,k,x,hk,he,hn⟩:=hn
 have c3:=close_b (gl:=gl) (w:=q) (d:=x) hk hs he
 refine ⟨m,(tokZ s k).e,IntKind.i64.wrap (x - 1),(tok_e hk).2,he,?_⟩
 generalize (tokZ s k).e=e2 at *
 generalize skp s i=j at *
 obtain ⟨k0,m,t,a,b,ks⟩:=m
 refine S1 Tryz.func52 rfl ?_
 ((repeat' ((conv=>whnf);first|exact .intro|refine G ?_|intro _|refine C5 c2 [0] ?_|refine C5 hn [0] ?_|refine C5 c3 [0] ?_|refine C1 c1 ?_|refine .mk ?_ ?_|refine H ?_|fail));all_goals conv=>whnf)
 ((repeat' first|exact rfl|((conv=>whnf);first|done|exact suL|refine And.intro ?_ ?_|fail));all_goals conv=>whnf)
end
end Go.Proofs.YtfcmhmglpcimiaaGreatDoor
