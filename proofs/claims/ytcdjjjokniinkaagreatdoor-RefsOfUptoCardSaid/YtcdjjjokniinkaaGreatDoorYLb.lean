/- Proved: a part of what the law is proved with (the reckoner, contracts of functions, plain laws). Conditions: as each says. -/
import Derived.Test.YtcdjjjokniinkaaGreatDoorYCg
import Derived.Test.YtcdjjjokniinkaaGreatDoorYHb
section
namespace Go.Proofs.YtcdjjjokniinkaaGreatDoor
open Go Go.EYtcdjjjokniinkaaGreatDoor
set_option maxRecDepth 100000
variable {gl:List (Nat×List D)}
theorem tok_d {s:List UInt8} {i:Nat} (hi:i≤s.length) (hs:s.length≤200):FnP Tryz.prog gl 53 [.str s,iD (i:Int)] (.agg [iD ((tokZ s i).k:Int),iD ((tokZ s i).a:Int),iD ((tokZ s i).e:Int),.str (tokZ s i).t]):=by
 have h1:=skp_le hi
 cases hg:s[skp s i]? with
 | none =>
  have he:skp s i=s.length:=by have:=List.getElem?_eq_none_iff.1 hg;omega
  have:tokZ s i=⟨0,skp s i,skp s i,[]⟩:=by
   unfold tokZ
   rw[List.drop_eq_nil_of_le (by omega)]
   rfl
  rw[this]
  exact token_end hi hs rfl he
 | some c =>
  have hz:tokZ s i=tokU (skp s i) (c::s.drop (skp s i+1)):=by unfold tokZ;rw[drop_get hg]
  rw[tokU_cons] at hz
  by_cases hw:wordlyP c
  ·rw[tok_word hg hw]
   exact token_word hi hs rfl hg hw
  ·rw[if_neg hw] at hz
   by_cases h34:c=34
   ·subst h34
    rw[if_pos rfl] at hz
    rw[hz]
    cases hx:txtF (s.drop (skp s i+1)) with
    | none=>exact token_textn hi hs rfl hg hx
    | some q=>obtain ⟨b,l⟩:=q;exact token_text hi hs rfl hg hx
   ·rw[if_neg h34] at hz
    by_cases h35:c=35
    ·subst h35
     rw[if_pos rfl,← drop_get hg] at hz
     rw[hz]
     cases hx:bdI (s.drop (skp s i)) 6 with
     | none=>exact token_badn hi hs rfl hg hx
     | some m=>exact token_bad hi hs rfl hg hx
    ·rw[if_neg h35,← drop_get hg] at hz
     rw[hz]
     by_cases h2:two3 (s.drop (skp s i))
     ·rw[if_pos h2]
      refine token_sign2 hi hs rfl hg hw h34 h35 (show skp s i+2≤s.length from ?_) h2
      have hl:=lt_of_get hg
      rcases h2 with h2|h2|h2 <;>
      ·have:=congrArg List.length h2
       rw[List.length_take,List.length_drop] at this
       simp only[List.length_cons,List.length_nil] at this
       omega
     ·rw[if_neg h2]
      exact token_sign1 hi hs rfl hg hw h34 h35 h2
theorem sg_get {k:Nat} (h:k<12):(sg.map fun t=>[D.str t])[((k:Nat):Int).toNat]?=some [.str (sg.getD k [])]:=by
 have h':k<sg.length:=h
 rw[Int.toNat_natCast,List.getElem?_map,List.getElem?_eq_getElem h']
 simp[List.getD,List.getElem?_eq_getElem h']
theorem sgI_step {s:List UInt8} {k:Nat} (h0:1≤k) (h:k≤11):sgI s (12 - k)=if sg.getD k []=s then k else sgI s (12 - (k+1)):=by
 have e:12 - k=(11 - k)+1:=by omega
 have e2:11 - (11 - k)=k:=by omega
 have e3:12 - (k+1)=11 - k:=by omega
 rw[e,e3,sgI,e2]
theorem Sign_d (t:List UInt8):FnP Tryz.prog gl 77 [.str t] (iD (signZ t:Int)):=by
 obtain ⟨R,hR⟩:∃ R,signZ t=R:=⟨_,rfl⟩
 rw[hR]
 refine fnP_of_vc (nv:=9999) (cu:=[]) fits mixed Tryz.func77 rfl hoB rfl ?_
 ((repeat' ((conv=>whnf);first|exact .intro|refine .ya ?_|refine .na ?_|refine .ys ?_|refine .ns ?_|refine .neg (fun _=>?_) (fun _=>?_)|refine .mk (fun _=>?_) (fun _=>?_)|refine .mk ?_ ?_|refine AK ?_|refine AT ?_|fail));all_goals conv=>whnf)
 refine ⟨{ σ:=Nat,fr:=fun x=>[(4,.c (.d (iD (x:Int))))],ks:=[],L:=fun x=>[],ex:=0,I:=fun x=>1≤x∧x≤12∧sgI t (12 - x)=R,μ:=fun x=>12 - x },⟨1,⟨Nat.le_refl _,by omega,hR⟩,?_⟩,fun (x:Nat) hx=>?_⟩
 ·((repeat' first|exact rfl|((conv=>whnf);first|done|exact suL|refine And.intro ?_ ?_|fail));all_goals conv=>whnf)
 ·obtain ⟨x0,x1,x2⟩:=hx
  by_cases hx7:x<12
  ·have hx7':(x:Int)<12:=by omega
   rw[sgI_step x0 (by omega)] at x2
   by_cases hm:sg.getD x []=t
   ·rw[if_pos hm] at x2
    subst x2
    ((repeat' ((conv=>whnf);first|exact .intro|refine .ya ?_|refine .na ?_|refine .ys ?_|refine .ns ?_|refine .neg (fun _=>?_) (fun _=>?_)|refine .mk (fun _=>?_) (fun _=>?_)|(first|refine ⟨_,sg_get hx7,?_⟩|refine ⟨⟨Int.natCast_nonneg _,hx7'⟩,?_⟩)|refine .mk ?_ ?_|refine AK ?_|refine AT ?_|fail));all_goals conv=>whnf)
    exact LeD.rfl
   ·rw[if_neg hm] at x2
    ((repeat' ((conv=>whnf);first|exact .intro|refine .ya ?_|refine .na ?_|refine .ys ?_|refine .ns ?_|refine .neg (fun _=>?_) (fun _=>?_)|refine .mk (fun _=>?_) (fun _=>?_)|(first|refine ⟨_,sg_get hx7,?_⟩|refine ⟨⟨Int.natCast_nonneg _,hx7'⟩,?_⟩)|refine .mk ?_ ?_|refine AK ?_|refine AT ?_|fail));all_goals conv=>whnf)
    refine ⟨x+1,⟨⟨by omega,by omega,x2⟩,by show 12 - (x+1)<12 - x;omega⟩,?_⟩
    ((repeat' first|exact rfl|((conv=>whnf);first|done|exact suL|refine And.intro ?_ ?_|fail));all_goals conv=>whnf)
    exact ceq (by rw[wrapI (by omega)];rfl)
  ·have hx8:¬ (x:Int)<12:=by omega
   have:x=12:=by omega
   subst this
   have:(0:Nat)=R:=x2
   subst this
   ((repeat' ((conv=>whnf);first|exact .intro|refine .ya ?_|refine .na ?_|refine .ys ?_|refine .ns ?_|refine .neg (fun _=>?_) (fun _=>?_)|refine .mk (fun _=>?_) (fun _=>?_)|refine .mk ?_ ?_|refine AK ?_|refine AT ?_|fail));all_goals conv=>whnf)
   exact LeD.rfl
theorem Tight_d (op:Nat):FnP Tryz.prog gl 49 [iD (op:Int)] (iD (tgt op:Int)):=by
 unfold tgt
 by_cases h1:op≤6
 ·rw[if_pos h1]
  have h1':(op:Int)≤6:=by omega
  refine fnP_of_vc (nv:=9999) (cu:=[]) fits mixed Tryz.func49 rfl hoB rfl ?_
  ((repeat' ((conv=>whnf);first|exact .intro|refine .ya ?_|refine .na ?_|refine .ys ?_|refine .ns ?_|refine .neg (fun _=>?_) (fun _=>?_)|refine .mk (fun _=>?_) (fun _=>?_)|refine .mk ?_ ?_|refine AK ?_|refine AT ?_|fail));all_goals conv=>whnf)
  exact LeD.rfl
 ·rw[if_neg h1]
  have h1':¬ (op:Int)≤6:=by omega
  by_cases h2:op=7
  ·rw[if_pos h2]
   have h2':(op:Int)=7:=by omega
   refine fnP_of_vc (nv:=9999) (cu:=[]) fits mixed Tryz.func49 rfl hoB rfl ?_
   ((repeat' ((conv=>whnf);first|exact .intro|refine .ya ?_|refine .na ?_|refine .ys ?_|refine .ns ?_|refine .neg (fun _=>?_) (fun _=>?_)|refine .mk (fun _=>?_) (fun _=>?_)|refine .mk ?_ ?_|refine AK ?_|refine AT ?_|fail));all_goals conv=>whnf)
   exact LeD.rfl
  ·rw[if_neg h2]
   have h2':¬ (op:Int)=7:=by omega
   by_cases h3:op≤9
   ·rw[if_pos h3]
    have h3':(op:Int)≤9:=by omega
    refine fnP_of_vc (nv:=9999) (cu:=[]) fits mixed Tryz.func49 rfl hoB rfl ?_
    ((repeat' ((conv=>whnf);first|exact .intro|refine .ya ?_|refine .na ?_|refine .ys ?_|refine .ns ?_|refine .neg (fun _=>?_) (fun _=>?_)|refine .mk (fun _=>?_) (fun _=>?_)|refine .mk ?_ ?_|refine AK ?_|refine AT ?_|fail));all_goals conv=>whnf)
    exact LeD.rfl
   ·rw[if_neg h3]
    have h3':¬ (op:Int)≤9:=by omega
    refine fnP_of_vc (nv:=9999) (cu:=[]) fits mixed Tryz.func49 rfl hoB rfl ?_
    ((repeat' ((conv=>whnf);first|exact .intro|refine .ya ?_|refine .na ?_|refine .ys ?_|refine .ns ?_|refine .neg (fun _=>?_) (fun _=>?_)|refine .mk (fun _=>?_) (fun _=>?_)|refine .mk ?_ ?_|refine AK ?_|refine AT ?_|fail));all_goals conv=>whnf)
    exact LeD.rfl
theorem clZ_all {s:List UInt8}:clZ s=true↔2≤s.length∧s.length≤10∧∀ k,k<s.length→65≤(s.getD k 0).toNat∧(s.getD k 0).toNat≤90:=by
 unfold clZ
 simp only[Bool.and_eq_true,decide_eq_true_eq,List.all_eq_true,and_assoc]
 refine and_congr Iff.rfl (and_congr Iff.rfl ⟨fun h k hk=>?_,fun h x hx=>?_⟩)
 ·rw[List.getD,List.getElem?_eq_getElem hk]
  exact h _ (List.getElem_mem hk)
 ·obtain ⟨k,hk,rfl⟩:=List.mem_iff_getElem.1 hx
  have:=h k hk
  rw[List.getD,List.getElem?_eq_getElem hk] at this
  exact this
theorem rcalled_y {s:List UInt8} (hs:s.length≤200) (h:clZ s=true):FnP Tryz.prog gl 42 [.str s] (.v (.bool true)):=by
 obtain ⟨h1,h2,h3⟩:=clZ_all.1 h
 have g1:¬ (s.length:Int)<2:=by omega
 have g2:¬ (s.length:Int)>10:=by omega
 refine fnP_of_vc (nv:=9999) (cu:=[]) fits mixed Tryz.func42 rfl hoB rfl ?_
 ((repeat' ((conv=>whnf);first|exact .intro|refine .ya ?_|refine .na ?_|refine .ys ?_|refine .ns ?_|refine .neg (fun _=>?_) (fun _=>?_)|refine .mk (fun _=>?_) (fun _=>?_)|refine .mk ?_ ?_|refine AK ?_|refine AT ?_|fail));all_goals conv=>whnf)
 refine ⟨{ σ:=Nat,fr:=fun k=>[(3,.c (.d (iD (k:Int))))],ks:=[],L:=fun k=>[],ex:=0,I:=fun k=>k≤s.length,μ:=fun k=>s.length - k },⟨0,Nat.zero_le _,?_⟩,fun (k:Nat) (hk:k≤s.length)=>?_⟩
 ·((repeat' first|exact rfl|((conv=>whnf);first|done|exact suL|refine And.intro ?_ ?_|fail));all_goals conv=>whnf)
 ·by_cases hk7:k<s.length
  ·have hk7':(k:Int)<(s.length:Int):=by omega
   have h4:=h3 k hk7
   have e:((k:Nat):Int).toNat=k:=by omega
   have g3:¬ (((s.getD ((k:Nat):Int).toNat 0).toNat:Nat):Int)<65:=by rw[e];omega
   have g4:¬ (((s.getD ((k:Nat):Int).toNat 0).toNat:Nat):Int)>90:=by rw[e];omega
   ((repeat' ((conv=>whnf);first|exact .intro|refine .ya ?_|refine .na ?_|refine .ys ?_|refine .ns ?_|refine .neg (fun _=>?_) (fun _=>?_)|refine .mk (fun _=>?_) (fun _=>?_)|refine .mk ?_ ?_|refine AK ?_|refine AT ?_|fail));all_goals conv=>whnf)
   refine ⟨k+1,⟨hk7,by show s.length - (k+1)<s.length - k;omega⟩,?_⟩
   ((repeat' first|exact rfl|((conv=>whnf);first|done|exact suL|refine And.intro ?_ ?_|fail));all_goals conv=>whnf)
   exact ceq (by rw[wrapI (by omega)];rfl)
  ·have hk8:¬ (k:Int)<(s.length:Int):=by omega
   ((repeat' ((conv=>whnf);first|exact .intro|refine .ya ?_|refine .na ?_|refine .ys ?_|refine .ns ?_|refine .neg (fun _=>?_) (fun _=>?_)|refine .mk (fun _=>?_) (fun _=>?_)|refine .mk ?_ ?_|refine AK ?_|refine AT ?_|fail));all_goals conv=>whnf)
   exact LeD.rfl
theorem rcalled_n {s:List UInt8} (hs:s.length≤200) (h:clZ s=false):FnP Tryz.prog gl 42 [.str s] (.v (.bool false)):=by
 by_cases g1:(s.length:Int)<2
 ·refine fnP_of_vc (nv:=9999) (cu:=[]) fits mixed Tryz.func42 rfl hoB rfl ?_
  ((repeat' ((conv=>whnf);first|exact .intro|refine .ya ?_|refine .na ?_|refine .ys ?_|refine .ns ?_|refine .neg (fun _=>?_) (fun _=>?_)|refine .mk (fun _=>?_) (fun _=>?_)|refine .mk ?_ ?_|refine AK ?_|refine AT ?_|fail));all_goals conv=>whnf)
  exact LeD.rfl
 by_cases g2:(s.length:Int)>10
 ·refine fnP_of_vc (nv:=9999) (cu:=[]) fits mixed Tryz.func42 rfl hoB rfl ?_
  ((repeat' ((conv=>whnf);first|exact .intro|refine .ya ?_|refine .na ?_|refine .ys ?_|refine .ns ?_|refine .neg (fun _=>?_) (fun _=>?_)|refine .mk (fun _=>?_) (fun _=>?_)|refine .mk ?_ ?_|refine AK ?_|refine AT ?_|fail));all_goals conv=>whnf)
  exact LeD.rfl
 refine fnP_of_vc (nv:=9999) (cu:=[]) fits mixed Tryz.func42 rfl hoB rfl ?_
 ((repeat' ((conv=>whnf);first|exact .intro|refine .ya ?_|refine .na ?_|refine .ys ?_|refine .ns ?_|refine .neg (fun _=>?_) (fun _=>?_)|refine .mk (fun _=>?_) (fun _=>?_)|refine .mk ?_ ?_|refine AK ?_|refine AT ?_|fail));all_goals conv=>whnf)
 refine ⟨{ σ:=Nat,fr:=fun k=>[(3,.c (.d (iD (k:Int))))],ks:=[],L:=fun k=>[],ex:=0,I:=fun k=>k≤s.length∧∀ m,m<k→65≤(s.getD m 0).toNat∧(s.getD m 0).toNat≤90,μ:=fun k=>s.length - k },⟨0,⟨Nat.zero_le _,fun m hm=>absurd hm (Nat.not_lt_zero _)⟩,?_⟩,fun (k:Nat) hk=>?_⟩
 ·((repeat' first|exact rfl|((conv=>whnf);first|done|exact suL|refine And.intro ?_ ?_|fail));all_goals conv=>whnf)
 ·obtain ⟨hk,hk2⟩:=hk
  by_cases hk7:k<s.length
  ·have hk7':(k:Int)<(s.length:Int):=by omega
   have e:((k:Nat):Int).toNat=k:=by omega
   by_cases g3:(((s.getD ((k:Nat):Int).toNat 0).toNat:Nat):Int)<65
   ·((repeat' ((conv=>whnf);first|exact .intro|refine .ya ?_|refine .na ?_|refine .ys ?_|refine .ns ?_|refine .neg (fun _=>?_) (fun _=>?_)|refine .mk (fun _=>?_) (fun _=>?_)|refine .mk ?_ ?_|refine AK ?_|refine AT ?_|fail));all_goals conv=>whnf)
    exact LeD.rfl
   by_cases g4:(((s.getD ((k:Nat):Int).toNat 0).toNat:Nat):Int)>90
   ·((repeat' ((conv=>whnf);first|exact .intro|refine .ya ?_|refine .na ?_|refine .ys ?_|refine .ns ?_|refine .neg (fun _=>?_) (fun _=>?_)|refine .mk (fun _=>?_) (fun _=>?_)|refine .mk ?_ ?_|refine AK ?_|refine AT ?_|fail));all_goals conv=>whnf)
    exact LeD.rfl
   ((repeat' ((conv=>whnf);first|exact .intro|refine .ya ?_|refine .na ?_|refine .ys ?_|refine .ns ?_|refine .neg (fun _=>?_) (fun _=>?_)|refine .mk (fun _=>?_) (fun _=>?_)|refine .mk ?_ ?_|refine AK ?_|refine AT ?_|fail));all_goals conv=>whnf)
   refine ⟨k+1,⟨⟨hk7,fun m hm=>?_⟩,by show s.length - (k+1)<s.length - k;omega⟩,?_⟩
   ·rcases Nat.lt_or_ge m k with h5|h5
    ·exact hk2 m h5
    ·have:m=k:=by omega
     subst this
     rw[e] at g3 g4
     omega
   ((repeat' first|exact rfl|((conv=>whnf);first|done|exact suL|refine And.intro ?_ ?_|fail));all_goals conv=>whnf)
   exact ceq (by rw[wrapI (by omega)];rfl)
  ·have:k=s.length:=by omega
   subst this
   rw[clZ_all.2 ⟨by omega,by omega,hk2⟩] at h
   cases h
end Go.Proofs.YtcdjjjokniinkaaGreatDoor
end
section
namespace Go.Proofs.YtcdjjjokniinkaaGreatDoor
open Go Go.EYtcdjjjokniinkaaGreatDoor
set_option maxRecDepth 100000
set_option maxHeartbeats 4000000
variable {gl:List (Nat×List D)}
theorem rcalled_all (s:List UInt8):FnP Tryz.prog gl 42 [.str s] (.v (.bool (clZ s))):=by
 by_cases hs:s.length≤200
 ·cases h:clZ s with
  | true=>exact rcalled_y hs h
  | false=>exact rcalled_n hs h
 ·have h:clZ s=false:=by
   unfold clZ
   rw[decide_eq_false (show ¬ s.length≤10 by omega)]
   simp
  rw[h]
  have h1:¬ ((s.length:Nat):Int)<2:=by omega
  have h2:((s.length:Nat):Int)>10:=by omega
  refine fnP_of_vc (nv:=9999) (cu:=[]) fits mixed Tryz.func42 rfl hoB rfl ?_
  ((repeat' ((conv=>whnf);first|exact .intro|refine .ya ?_|refine .na ?_|refine .ys ?_|refine .ns ?_|refine .neg (fun _=>?_) (fun _=>?_)|refine .mk (fun _=>?_) (fun _=>?_)|refine .mk ?_ ?_|refine AK ?_|refine AT ?_|fail));all_goals conv=>whnf)
  exact LeD.rfl
theorem rFormed_d (n:Nd):∀ bx:Bool,FnP Tryz.prog gl 23 [.agg n.cs,.v (.bool bx)] (.b (frmN n (bx=true)) (Classical.propDecidable _)):=by
 match n with
 | .mk k m t a b ks =>
  have ih:∀ x (h:x<ks.length),∀ bx:Bool,FnP Tryz.prog gl 23 [.agg (ks[x]).cs,.v (.bool bx)] (.b (frmN ks[x] (bx=true)) (Classical.propDecidable _)):=fun x h=>rFormed_d ks[x]
  intro bx
  suffices hh:ks.length≤9223372036854775807→FnP Tryz.prog gl 23 [.agg (Nd.mk k m t a b ks).cs,.v (.bool bx)] (.b (frmN (.mk k m t a b ks) (bx=true)) (Classical.propDecidable _)) from fun w M xs hM hg hd=>(match xs,hd with
   | x::ys,hd=>hh (kids_le hd.1) w M (x::ys) hM hg hd
   | [],hd=>hd.elim)
  intro hks
  have hlen:=kid_len ks
  by_cases k1:k=1
  ·subst k1
   refine fnP_of_vc (nv:=9999) (cu:=[]) fits mixed Tryz.func23 rfl hoB rfl ?_
   ((repeat' ((conv=>whnf);first|exact .intro|refine .ya ?_|refine .na ?_|refine .ys ?_|refine .ns ?_|refine .neg (fun _=>?_) (fun _=>?_)|refine .mk (fun _=>?_) (fun _=>?_)|refine .mk ?_ ?_|refine AK ?_|refine AT ?_|fail));all_goals conv=>whnf)
   all_goals simp only[andPD] at *
   all_goals clear ih
   all_goals first
    | (refine LeD.b ?_;rw[frm_1];grind)
    | (refine LeD.bf ?_;rw[frm_1];grind)
    | (refine LeD.bt ?_;rw[frm_1];grind)
  by_cases k2:k=2
  ·subst k2
   refine fnP_of_vc (nv:=9999) (cu:=[]) fits mixed Tryz.func23 rfl hoB rfl ?_
   ((repeat' ((conv=>whnf);first|exact .intro|refine .ya ?_|refine .na ?_|refine .ys ?_|refine .ns ?_|refine .neg (fun _=>?_) (fun _=>?_)|refine .mk (fun _=>?_) (fun _=>?_)|refine .mk ?_ ?_|refine AK ?_|refine AT ?_|fail));all_goals conv=>whnf)
   all_goals simp only[andPD] at *
   all_goals clear ih
   all_goals first
    | (refine LeD.b ?_;rw[frm_2];grind)
    | (refine LeD.bf ?_;rw[frm_2];grind)
    | (refine LeD.bt ?_;rw[frm_2];grind)
  by_cases k3:k=3
  ·subst k3
   refine fnP_of_vc (nv:=9999) (cu:=[]) fits mixed Tryz.func23 rfl hoB rfl ?_
   ((repeat' ((conv=>whnf);first|exact .intro|refine .ya ?_|refine .na ?_|refine .ys ?_|refine .ns ?_|refine .neg (fun _=>?_) (fun _=>?_)|refine .mk (fun _=>?_) (fun _=>?_)|refine .mk ?_ ?_|refine AK ?_|refine AT ?_|fail));all_goals conv=>whnf)
   all_goals simp only[andPD] at *
   all_goals clear ih
   all_goals first
    | (refine LeD.b ?_;rw[frm_3];grind)
    | (refine LeD.bf ?_;rw[frm_3];grind)
    | (refine LeD.bt ?_;rw[frm_3];grind)
  by_cases k4:k=4
  ·subst k4
   refine fnP_of_vc (nv:=9999) (cu:=[]) fits mixed Tryz.func23 rfl hoB rfl ?_
   ((repeat' ((conv=>whnf);first|exact .intro|refine .ya ?_|refine .na ?_|refine .ys ?_|refine .ns ?_|refine .neg (fun _=>?_) (fun _=>?_)|refine .mk (fun _=>?_) (fun _=>?_)|refine .mk ?_ ?_|refine AK ?_|refine AT ?_|fail));all_goals conv=>whnf)
   all_goals simp only[andPD] at *
   all_goals clear ih
   all_goals first
    | (refine LeD.b ?_;rw[frm_4];grind)
    | (refine LeD.bf ?_;rw[frm_4];grind)
    | (refine LeD.bt ?_;rw[frm_4];grind)
  by_cases k5:k=5
  ·subst k5
   have c1:=In_d (gl:=gl) a.c a.r
   refine fnP_of_vc (nv:=9999) (cu:=[]) fits mixed Tryz.func23 rfl hoB rfl ?_
   ((repeat' ((conv=>whnf);first|exact .intro|refine .ya ?_|refine .na ?_|refine .ys ?_|refine .ns ?_|refine .neg (fun _=>?_) (fun _=>?_)|refine .mk (fun _=>?_) (fun _=>?_)|refine .inl (.inl (X1 (c1) ?_))|refine .inl (X1 (c1) ?_)|refine X1 (c1) ?_|refine .mk ?_ ?_|refine AK ?_|refine AT ?_|fail));all_goals conv=>whnf)
   all_goals simp only[andPD] at *
   all_goals clear ih c1
   all_goals first
    | (refine LeD.b ?_;rw[frm_5];grind)
    | (refine LeD.bf ?_;rw[frm_5];grind)
    | (refine LeD.bt ?_;rw[frm_5];grind)
  by_cases k6:k=6
  ·subst k6
   have c1:=In_d (gl:=gl) a.c a.r
   have c2:=In_d (gl:=gl) b.c b.r
   cases bx
   all_goals refine fnP_of_vc (nv:=9999) (cu:=[]) fits mixed Tryz.func23 rfl hoB rfl ?_
   all_goals ((repeat' ((conv=>whnf);first|exact .intro|refine .ya ?_|refine .na ?_|refine .ys ?_|refine .ns ?_|refine .neg (fun _=>?_) (fun _=>?_)|refine .mk (fun _=>?_) (fun _=>?_)|refine .inl (.inl (X1 (by first|exact c1|exact c2) ?_))|refine .inl (X1 (by first|exact c1|exact c2) ?_)|refine X1 (by first|exact c1|exact c2) ?_|refine .mk ?_ ?_|refine AK ?_|refine AT ?_|fail));all_goals conv=>whnf)
   all_goals simp only[andPD] at *
   all_goals clear ih c1 c2
   all_goals first
    | (refine LeD.b ?_;rw[frm_6];grind)
    | (refine LeD.bf ?_;rw[frm_6];grind)
    | (refine LeD.bt ?_;rw[frm_6];grind)
  by_cases k7:k=7
  ·subst k7
   by_cases hl:ks.length=1
   ·obtain ⟨x,rfl⟩:=List.length_eq_one_iff.1 hl
    obtain ⟨kx,mx,tx,ax,bx',sx⟩:=x
    have c1:FnP Tryz.prog gl 23 [.agg (Nd.mk kx mx tx ax bx' sx).cs,.v (.bool false)] (.b (frmN (.mk kx mx tx ax bx' sx) (false=true)) (Classical.propDecidable _)):=ih 0 (by simp) false
    have f7:frmL False [.mk kx mx tx ax bx' sx]↔frmN (.mk kx mx tx ax bx' sx) (false=true):=by simp[frmL]
    have g1:(Nd.csL [.mk kx mx tx ax bx' sx])[(0:Int).toNat]?=some [iD kx,iD mx,.str tx,iD ax.c,iD ax.r,tD ax.fc,tD ax.fr,iD bx'.c,iD bx'.r,tD bx'.fc,tD bx'.fr,.lst 12 (Nd.csL sx)]:=rfl
    refine fnP_of_vc (nv:=9999) (cu:=[]) fits mixed Tryz.func23 rfl hoB rfl ?_
    ((repeat' ((conv=>whnf);first|exact .intro|refine .ya ?_|refine .na ?_|refine .ys ?_|refine .ns ?_|refine .neg (fun _=>?_) (fun _=>?_)|refine .mk (fun _=>?_) (fun _=>?_)|refine .inl (.inl (X1 (c1) ?_))|refine .inl (X1 (c1) ?_)|refine X1 (c1) ?_|(refine ⟨Int.le_refl _,_,g1,?_⟩)|refine .mk ?_ ?_|refine AK ?_|refine AT ?_|fail));all_goals conv=>whnf)
    all_goals simp only[andPD] at *
    all_goals clear ih c1 g1
    all_goals first
     | (refine LeD.b ?_;rw[frm_7,f7];grind)
     | (refine LeD.bf ?_;rw[frm_7,f7];grind)
     | (refine LeD.bt ?_;rw[frm_7,f7];grind)
   ·have hl2:¬ (((Nd.csL ks).length:Nat):Int)=1:=by omega
    refine fnP_of_vc (nv:=9999) (cu:=[]) fits mixed Tryz.func23 rfl hoB rfl ?_
    ((repeat' ((conv=>whnf);first|exact .intro|refine .ya ?_|refine .na ?_|refine .ys ?_|refine .ns ?_|refine .neg (fun _=>?_) (fun _=>?_)|refine .mk (fun _=>?_) (fun _=>?_)|refine .mk ?_ ?_|refine AK ?_|refine AT ?_|fail));all_goals conv=>whnf)
    all_goals simp only[andPD] at *
    all_goals clear ih
    all_goals first
     | (refine LeD.b ?_;rw[frm_7];grind)
     | (refine LeD.bf ?_;rw[frm_7];grind)
     | (refine LeD.bt ?_;rw[frm_7];grind)
  by_cases k8:k=8
  ·subst k8
   by_cases hl:ks.length=2
   ·obtain ⟨x,y,rfl⟩:∃ x y,ks=[x,y]:=by
     match ks,hl with
     | [x,y],_=>exact ⟨x,y,rfl⟩
    obtain ⟨kx,mx,tx,ax,bx',sx⟩:=x
    obtain ⟨ky,my,ty,ay,by',sy⟩:=y
    have c1:FnP Tryz.prog gl 23 [.agg (Nd.mk kx mx tx ax bx' sx).cs,.v (.bool false)] (.b (frmN (.mk kx mx tx ax bx' sx) (false=true)) (Classical.propDecidable _)):=ih 0 (by simp) false
    have c2:FnP Tryz.prog gl 23 [.agg (Nd.mk ky my ty ay by' sy).cs,.v (.bool false)] (.b (frmN (.mk ky my ty ay by' sy) (false=true)) (Classical.propDecidable _)):=ih 1 (by simp) false
    have f8:frmL False [.mk kx mx tx ax bx' sx,.mk ky my ty ay by' sy]↔frmN (.mk kx mx tx ax bx' sx) (false=true)∧frmN (.mk ky my ty ay by' sy) (false=true):=by simp[frmL]
    have g1:(Nd.csL [.mk kx mx tx ax bx' sx,.mk ky my ty ay by' sy])[(0:Int).toNat]?=some [iD kx,iD mx,.str tx,iD ax.c,iD ax.r,tD ax.fc,tD ax.fr,iD bx'.c,iD bx'.r,tD bx'.fc,tD bx'.fr,.lst 12 (Nd.csL sx)]:=rfl
    have g2:(Nd.csL [.mk kx mx tx ax bx' sx,.mk ky my ty ay by' sy])[(1:Int).toNat]?=some [iD ky,iD my,.str ty,iD ay.c,iD ay.r,tD ay.fc,tD ay.fr,iD by'.c,iD by'.r,tD by'.fc,tD by'.fr,.lst 12 (Nd.csL sy)]:=rfl
    refine fnP_of_vc (nv:=9999) (cu:=[]) fits mixed Tryz.func23 rfl hoB rfl ?_
    ((repeat' ((conv=>whnf);first|exact .intro|refine .ya ?_|refine .na ?_|refine .ys ?_|refine .ns ?_|refine .neg (fun _=>?_) (fun _=>?_)|refine .mk (fun _=>?_) (fun _=>?_)|refine .inl (.inl (X1 (by first|exact c1|exact c2) ?_))|refine .inl (X1 (by first|exact c1|exact c2) ?_)|refine X1 (by first|exact c1|exact c2) ?_|(first|refine ⟨Int.le_refl _,_,g1,?_⟩|refine ⟨by decide,_,g2,?_⟩)|refine .mk ?_ ?_|refine AK ?_|refine AT ?_|fail));all_goals conv=>whnf)
    all_goals simp only[andPD] at *
    all_goals clear ih c1 c2 g1 g2
    all_goals first
     | (refine LeD.b ?_;rw[frm_8,f8];grind)
     | (refine LeD.bf ?_;rw[frm_8,f8];grind)
     | (refine LeD.bt ?_;rw[frm_8,f8];grind)
   ·have hl2:¬ (((Nd.csL ks).length:Nat):Int)=2:=by omega
    refine fnP_of_vc (nv:=9999) (cu:=[]) fits mixed Tryz.func23 rfl hoB rfl ?_
    ((repeat' ((conv=>whnf);first|exact .intro|refine .ya ?_|refine .na ?_|refine .ys ?_|refine .ns ?_|refine .neg (fun _=>?_) (fun _=>?_)|refine .mk (fun _=>?_) (fun _=>?_)|refine .mk ?_ ?_|refine AK ?_|refine AT ?_|fail));all_goals conv=>whnf)
    all_goals simp only[andPD] at *
    all_goals clear ih
    all_goals first
     | (refine LeD.b ?_;rw[frm_8];grind)
     | (refine LeD.bf ?_;rw[frm_8];grind)
     | (refine LeD.bt ?_;rw[frm_8];grind)
  by_cases k9:k=9
  ·subst k9
   cases hc:clZ t with
   | false =>
    have c0:=rcalled_all (gl:=gl) t
    rw[hc] at c0
    refine fnP_of_vc (nv:=9999) (cu:=[]) fits mixed Tryz.func23 rfl hoB rfl ?_
    ((repeat' ((conv=>whnf);first|exact .intro|refine .ya ?_|refine .na ?_|refine .ys ?_|refine .ns ?_|refine .neg (fun _=>?_) (fun _=>?_)|refine .mk (fun _=>?_) (fun _=>?_)|refine .inl (.inl (X1 (c0) ?_))|refine .inl (X1 (c0) ?_)|refine X1 (c0) ?_|refine .mk ?_ ?_|refine AK ?_|refine AT ?_|fail));all_goals conv=>whnf)
    all_goals exact LeD.bf (by rw[frm_9,hc];rintro ⟨h,_⟩;cases h)
   | true =>
    have c0:=rcalled_all (gl:=gl) t
    rw[hc] at c0
    have htn:¬ t=(⟨#[]⟩:ByteArray).data.toList:=by
     rintro rfl
     cases hc
    by_cases hz:(noR a∧noR b)∧m=0
    ·have hz':=hz
     obtain ⟨hz1,hm⟩:=hz
     obtain ⟨ha,hb⟩:=hz1
     refine fnP_of_vc (nv:=9999) (cu:=[]) fits mixed Tryz.func23 rfl hoB rfl ?_
     ((repeat' ((conv=>whnf);first|exact .intro|refine .ya ?_|refine .na ?_|refine .ys ?_|refine .ns ?_|refine .neg (fun _=>?_) (fun _=>?_)|refine .mk (fun _=>?_) (fun _=>?_)|refine .inl (.inl (X1 (c0) ?_))|refine .inl (X1 (c0) ?_)|refine X1 (c0) ?_|refine .mk ?_ ?_|refine AK ?_|refine AT ?_|fail));all_goals conv=>whnf)
     refine ⟨{ σ:=Nat,fr:=fun x=>[(8,.c (.d (iD (x:Int))))],ks:=[],L:=fun x=>[],ex:=0,I:=fun x=>x≤ks.length∧∀ y (h:y<ks.length),y<x→frmN ks[y] True,μ:=fun x=>ks.length - x },⟨0,⟨Nat.zero_le _,fun y h hy=>by omega⟩,?_⟩,fun (x:Nat) hx=>?_⟩
     ·((repeat' first|exact rfl|((conv=>whnf);first|done|exact suL|refine And.intro ?_ ?_|fail));all_goals conv=>whnf)
     ·obtain ⟨hx1,hx2⟩:=hx
      by_cases hlt:x<ks.length
      ·have h2:(x:Int)<((Nd.csL ks).length:Nat):=by omega
       have g1:=kid_get hlt
       have c1:=ih x hlt true
       have e0:IntKind.i64.wrap ((x:Int)+1)=((x+1:Nat):Int):=by rw[wrapI (by omega)];rfl
       have hf:∀ p:Prop,p=frmN ks[x] (true=true)→frmN ks[x] True=p:=fun p hp=>by rw[hp];simp
       obtain ⟨pq,hpq⟩:∃ p,p=frmN ks[x] (true=true):=⟨_,rfl⟩
       have hp:=hf pq hpq
       rw[← hpq] at c1
       have stop:¬ pq→¬ frmN (.mk 9 m t a b ks) (bx=true):=fun hn hh=>by
        rw[frm_9] at hh
        have:=frmL_iff.1 hh.2.2.2 x hlt
        rw[hp] at this
        exact hn this
       have step:pq→∀ y (h:y<ks.length),y<x+1→frmN ks[y] True:=fun hq y h hy=>by
        rcases Nat.lt_succ_iff_lt_or_eq.1 hy with hy|rfl
        ·exact hx2 y h hy
        ·rw[hp];exact hq
       clear hf hp hpq
       generalize ks[x]=q at g1 c1
       obtain ⟨k1',m1,t1,a1,b1,ks1⟩:=q
       change (Nd.csL ks)[((x:Nat):Int).toNat]?=some [iD k1',iD m1,.str t1,iD a1.c,iD a1.r,tD a1.fc,tD a1.fr,iD b1.c,iD b1.r,tD b1.fc,tD b1.fr,.lst 12 (Nd.csL ks1)] at g1
       ((repeat' ((conv=>whnf);first|exact .intro|refine .ya ?_|refine .na ?_|refine .ys ?_|refine .ns ?_|refine .neg (fun _=>?_) (fun _=>?_)|refine .mk (fun _=>?_) (fun _=>?_)|refine .inl (.inl (X1 (c1) ?_))|refine .inl (X1 (c1) ?_)|refine X1 (c1) ?_|(refine ⟨Int.natCast_nonneg _,_,g1,?_⟩)|refine .mk ?_ ?_|refine AK ?_|refine AT ?_|fail));all_goals conv=>whnf)
       ·rename_i h
        exact LeD.bf (stop h)
       ·rename_i h
        refine ⟨x+1,⟨⟨hlt,step h⟩,by show ks.length - (x+1)<ks.length - x;omega⟩,?_⟩
        ((repeat' first|exact rfl|((conv=>whnf);first|done|exact suL|refine And.intro ?_ ?_|fail));all_goals conv=>whnf)
        exact ceq e0
      ·have h2:¬ (x:Int)<((Nd.csL ks).length:Nat):=by omega
       ((repeat' ((conv=>whnf);first|exact .intro|refine .ya ?_|refine .na ?_|refine .ys ?_|refine .ns ?_|refine .neg (fun _=>?_) (fun _=>?_)|refine .mk (fun _=>?_) (fun _=>?_)|refine .mk ?_ ?_|refine AK ?_|refine AT ?_|fail));all_goals conv=>whnf)
       exact LeD.bt (by rw[frm_9];exact ⟨hc,⟨ha,hb⟩,hm,frmL_iff.2 fun y h=>hx2 y h (by omega)⟩)
    ·have hn:¬ frmN (.mk 9 m t a b ks) (bx=true):=fun hh=>by
      rw[frm_9] at hh
      exact hz ⟨hh.2.1,hh.2.2.1⟩
     by_cases ha:noR a
     ·by_cases hb:noR b
      ·have hm:¬ m=0:=fun hm=>hz ⟨⟨ha,hb⟩,hm⟩
       refine fnP_of_vc (nv:=9999) (cu:=[]) fits mixed Tryz.func23 rfl hoB rfl ?_
       ((repeat' ((conv=>whnf);first|exact .intro|refine .ya ?_|refine .na ?_|refine .ys ?_|refine .ns ?_|refine .neg (fun _=>?_) (fun _=>?_)|refine .mk (fun _=>?_) (fun _=>?_)|refine .inl (.inl (X1 (c0) ?_))|refine .inl (X1 (c0) ?_)|refine X1 (c0) ?_|refine .mk ?_ ?_|refine AK ?_|refine AT ?_|fail));all_goals conv=>whnf)
       exact LeD.bf hn
      ·refine fnP_of_vc (nv:=9999) (cu:=[]) fits mixed Tryz.func23 rfl hoB rfl ?_
       ((repeat' ((conv=>whnf);first|exact .intro|refine .ya ?_|refine .na ?_|refine .ys ?_|refine .ns ?_|refine .neg (fun _=>?_) (fun _=>?_)|refine .mk (fun _=>?_) (fun _=>?_)|refine .inl (.inl (X1 (c0) ?_))|refine .inl (X1 (c0) ?_)|refine X1 (c0) ?_|refine .mk ?_ ?_|refine AK ?_|refine AT ?_|fail));all_goals conv=>whnf)
       exact LeD.bf hn
     ·refine fnP_of_vc (nv:=9999) (cu:=[]) fits mixed Tryz.func23 rfl hoB rfl ?_
      ((repeat' ((conv=>whnf);first|exact .intro|refine .ya ?_|refine .na ?_|refine .ys ?_|refine .ns ?_|refine .neg (fun _=>?_) (fun _=>?_)|refine .mk (fun _=>?_) (fun _=>?_)|refine .inl (.inl (X1 (c0) ?_))|refine .inl (X1 (c0) ?_)|refine X1 (c0) ?_|refine .mk ?_ ?_|refine AK ?_|refine AT ?_|fail));all_goals conv=>whnf)
      exact LeD.bf hn
  have hk:k<1∨9<k:=by omega
  refine fnP_of_vc (nv:=9999) (cu:=[]) fits mixed Tryz.func23 rfl hoB rfl ?_
  ((repeat' ((conv=>whnf);first|exact .intro|refine .ya ?_|refine .na ?_|refine .ys ?_|refine .ns ?_|refine .neg (fun _=>?_) (fun _=>?_)|refine .mk (fun _=>?_) (fun _=>?_)|refine .mk ?_ ?_|refine AK ?_|refine AT ?_|fail));all_goals conv=>whnf)
  all_goals first|exact LeD.bf (frm_0 hk)|skip
termination_by SizeOf.sizeOf n
decreasing_by
 simp only[Nd.mk.sizeOf_spec]
 have:=List.sizeOf_lt_of_mem (List.getElem_mem h)
 omega
end Go.Proofs.YtcdjjjokniinkaaGreatDoor
end
