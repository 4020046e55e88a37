/- Proved: a part of what the law is proved with (the reckoner, contracts of functions, plain laws). Conditions: as each says. -/
import Derived.Test.YtfkjhfdpphfjhaaGreatDoorXDo
import Derived.Test.YtfkjhfdpphfjhaaGreatDoorXKg
import Derived.Test.YtfkjhfdpphfjhaaGreatDoorXTf
namespace Go.Proofs.YtfkjhfdpphfjhaaGreatDoor
open Go Go.RowKit Go.EYtfkjhfdpphfjhaaGreatDoor
set_option maxRecDepth 100000
set_option maxHeartbeats 4000000
section
variable {gl:List (Nat×List D)}
theorem mmL_snoc {t:List UInt8} {l:List Int} {k:Nat} (h:k<l.length):mmL t (l.take (k+1))=if k=0 then l[k] else mmS t (mmL t (l.take k)) l[k]:=by
 rw[List.take_succ_eq_append_getElem h]
 cases k with
 | zero=>simp[mmL]
 | succ k =>
  rw[if_neg (by omega)]
  cases l with
  | nil=>cases h
  | cons x r =>
   rw[List.take_succ_cons]
   simp only[mmL,List.cons_append,List.foldl_append,List.getElem_cons_succ]
   rfl
section
variable (te:TypeId) (pe:Value) (hV:Has gl (glV te pe))
include hV
theorem numbers_d (t:List UInt8) (l:List Int) (h:∀ n ∈ l,okI n) (hl:l.length≤1048576):FnP Tryz.prog gl 174 [.str t,.lst 1 (l.map iR)] (numbersV t l).d:=by
 have hlen:(l.map iR).length=l.length:=List.length_map _
 unfold numbersV
 by_cases hm:t=nMIN∨t=nMAX
 ·rw[if_pos hm]
  refine fnP_of_vc (nv:=9999) (cu:=[]) fitsE mixed Tryz.func174 rfl hoB rfl ?_
  rcases hm with hm|hm
  ·have hx:¬ t=nMAX:=by rw[hm];decide
   ((repeat' ((conv=>whnf);first|exact .intro|refine G ?_|intro _|refine .mk ?_ ?_|refine H ?_|fail));all_goals conv=>whnf)
   refine ⟨{ σ:=Nat,fr:=fun k=>[(17,.c (.d (iD (k:Int)))),(5,.c (.d (iD (mmL t (l.take k)))))],ks:=[],L:=fun k=>[],ex:=0,I:=fun k=>k≤l.length,μ:=fun k=>l.length - k },⟨0,Nat.zero_le _,?_⟩,fun (k:Nat) hk=>?_⟩
   ·((repeat' first|exact rfl|((conv=>whnf);first|done|exact suL|refine And.intro ?_ ?_|fail));all_goals conv=>whnf)
   ·replace hk:k≤l.length:=hk
    by_cases hlt:k<l.length
    ·have h2:(k:Int)<(((l.map iR).length:Nat):Int):=by omega
     have g1:=get_map (f:=iR) hlt
     have hsn:=mmL_snoc (t:=t) hlt
     have e0:=wx (x:=k) (by omega)
     generalize l[k]=m at *
     by_cases h0:k=0
     ·have h0':(k:Int)=0:=by omega
      rw[if_pos h0] at hsn
      ((repeat' ((conv=>whnf);first|exact .intro|refine G ?_|intro _|(refine ⟨Int.natCast_nonneg _,_,g1,?_⟩)|refine .mk ?_ ?_|refine H ?_|fail));all_goals conv=>whnf)
      all_goals refine ⟨k+1,⟨hlt,by show l.length - (k+1)<l.length - k;omega⟩,?_⟩
      all_goals ((repeat' first|exact rfl|((conv=>whnf);first|done|exact suL|refine And.intro ?_ ?_|fail));all_goals conv=>whnf)
      all_goals first|exact ceq e0|exact ceq hsn.symm|skip
     ·have h0':¬ (k:Int)=0:=by omega
      rw[if_neg h0] at hsn
      unfold mmS at hsn
      by_cases hlo:m<mmL t (l.take k)
      ·rw[if_pos (.inl ⟨hm,hlo⟩)] at hsn
       ((repeat' ((conv=>whnf);first|exact .intro|refine G ?_|intro _|(refine ⟨Int.natCast_nonneg _,_,g1,?_⟩)|refine .mk ?_ ?_|refine H ?_|fail));all_goals conv=>whnf)
       all_goals refine ⟨k+1,⟨hlt,by show l.length - (k+1)<l.length - k;omega⟩,?_⟩
       all_goals ((repeat' first|exact rfl|((conv=>whnf);first|done|exact suL|refine And.intro ?_ ?_|fail));all_goals conv=>whnf)
       all_goals first|exact ceq e0|exact ceq hsn.symm|skip
      ·rw[if_neg (by rintro (hh|hh);exact hlo hh.2;exact hx hh.1)] at hsn
       ((repeat' ((conv=>whnf);first|exact .intro|refine G ?_|intro _|(refine ⟨Int.natCast_nonneg _,_,g1,?_⟩)|refine .mk ?_ ?_|refine H ?_|fail));all_goals conv=>whnf)
       all_goals refine ⟨k+1,⟨hlt,by show l.length - (k+1)<l.length - k;omega⟩,?_⟩
       all_goals ((repeat' first|exact rfl|((conv=>whnf);first|done|exact suL|refine And.intro ?_ ?_|fail));all_goals conv=>whnf)
       all_goals first|exact ceq e0|exact ceq hsn.symm|skip
    ·have h2:¬ (k:Int)<(((l.map iR).length:Nat):Int):=by omega
     obtain rfl:k=l.length:=by omega
     have c1:=Num_d (gl:=gl) (mmL t (l.take l.length))
     ((repeat' ((conv=>whnf);first|exact .intro|refine G ?_|intro _|refine C1 c1 ?_|refine .mk ?_ ?_|refine H ?_|fail));all_goals conv=>whnf)
     all_goals exact LeD.of (by rw[List.take_length];rfl)
  ·have hx:¬ t=nMIN:=by rw[hm];decide
   ((repeat' ((conv=>whnf);first|exact .intro|refine G ?_|intro _|refine .mk ?_ ?_|refine H ?_|fail));all_goals conv=>whnf)
   refine ⟨{ σ:=Nat,fr:=fun k=>[(17,.c (.d (iD (k:Int)))),(5,.c (.d (iD (mmL t (l.take k)))))],ks:=[],L:=fun k=>[],ex:=0,I:=fun k=>k≤l.length,μ:=fun k=>l.length - k },⟨0,Nat.zero_le _,?_⟩,fun (k:Nat) hk=>?_⟩
   ·((repeat' first|exact rfl|((conv=>whnf);first|done|exact suL|refine And.intro ?_ ?_|fail));all_goals conv=>whnf)
   ·replace hk:k≤l.length:=hk
    by_cases hlt:k<l.length
    ·have h2:(k:Int)<(((l.map iR).length:Nat):Int):=by omega
     have g1:=get_map (f:=iR) hlt
     have hsn:=mmL_snoc (t:=t) hlt
     have e0:=wx (x:=k) (by omega)
     generalize l[k]=m at *
     by_cases h0:k=0
     ·have h0':(k:Int)=0:=by omega
      rw[if_pos h0] at hsn
      ((repeat' ((conv=>whnf);first|exact .intro|refine G ?_|intro _|(refine ⟨Int.natCast_nonneg _,_,g1,?_⟩)|refine .mk ?_ ?_|refine H ?_|fail));all_goals conv=>whnf)
      all_goals refine ⟨k+1,⟨hlt,by show l.length - (k+1)<l.length - k;omega⟩,?_⟩
      all_goals ((repeat' first|exact rfl|((conv=>whnf);first|done|exact suL|refine And.intro ?_ ?_|fail));all_goals conv=>whnf)
      all_goals first|exact ceq e0|exact ceq hsn.symm|skip
     ·have h0':¬ (k:Int)=0:=by omega
      rw[if_neg h0] at hsn
      unfold mmS at hsn
      by_cases hlo:mmL t (l.take k)<m
      ·rw[if_pos (.inr ⟨hm,hlo⟩)] at hsn
       ((repeat' ((conv=>whnf);first|exact .intro|refine G ?_|intro _|(refine ⟨Int.natCast_nonneg _,_,g1,?_⟩)|refine .mk ?_ ?_|refine H ?_|fail));all_goals conv=>whnf)
       all_goals refine ⟨k+1,⟨hlt,by show l.length - (k+1)<l.length - k;omega⟩,?_⟩
       all_goals ((repeat' first|exact rfl|((conv=>whnf);first|done|exact suL|refine And.intro ?_ ?_|fail));all_goals conv=>whnf)
       all_goals first|exact ceq e0|exact ceq hsn.symm|skip
      ·rw[if_neg (by rintro (hh|hh);exact hx hh.1;exact hlo hh.2)] at hsn
       ((repeat' ((conv=>whnf);first|exact .intro|refine G ?_|intro _|(refine ⟨Int.natCast_nonneg _,_,g1,?_⟩)|refine .mk ?_ ?_|refine H ?_|fail));all_goals conv=>whnf)
       all_goals refine ⟨k+1,⟨hlt,by show l.length - (k+1)<l.length - k;omega⟩,?_⟩
       all_goals ((repeat' first|exact rfl|((conv=>whnf);first|done|exact suL|refine And.intro ?_ ?_|fail));all_goals conv=>whnf)
       all_goals first|exact ceq e0|exact ceq hsn.symm|skip
    ·have h2:¬ (k:Int)<(((l.map iR).length:Nat):Int):=by omega
     obtain rfl:k=l.length:=by omega
     have c1:=Num_d (gl:=gl) (mmL t (l.take l.length))
     ((repeat' ((conv=>whnf);first|exact .intro|refine G ?_|intro _|refine C1 c1 ?_|refine .mk ?_ ?_|refine H ?_|fail));all_goals conv=>whnf)
     all_goals exact LeD.of (by rw[List.take_length];rfl)
 ·rw[if_neg hm]
  have hm1:¬ t=nMIN:=fun hh=>hm (.inl hh)
  have hm2:¬ t=nMAX:=fun hh=>hm (.inr hh)
  have c1:=Sum_d te pe hV l h hl
  have hs:=sumL_ok h
  have c2:=FnP.moreG (Two_v te pe 11 hs (ok_num (n:=(l.length:Int)) (by show okI (l.length:Int);omega))) hV
  have c3:=Num_d (gl:=gl) (((l.map iR).length:Nat):Int)
  rw[hlen] at c3
  by_cases ha:t=nAVG
  ·rw[if_pos ha]
   generalize twoV 11 (sumL l) ⟨1,(l.length:Int),[]⟩=z at *
   generalize sumL l=s at *
   rw[← hlen] at c2 c3
   refine fnP_of_vc (nv:=9999) (cu:=[]) fitsE mixed Tryz.func174 rfl hoB rfl ?_
   ((repeat' ((conv=>whnf);first|exact .intro|refine G ?_|intro _|refine C1 c1 ?_|refine C1 c2 ?_|refine C1 c3 ?_|refine .mk ?_ ?_|refine H ?_|fail));all_goals conv=>whnf)
   all_goals exact LeD.rfl
  ·rw[if_neg ha]
   clear c2
   generalize sumL l=s at *
   refine fnP_of_vc (nv:=9999) (cu:=[]) fitsE mixed Tryz.func174 rfl hoB rfl ?_
   ((repeat' ((conv=>whnf);first|exact .intro|refine G ?_|intro _|refine C1 c1 ?_|refine .mk ?_ ?_|refine H ?_|fail));all_goals conv=>whnf)
   all_goals exact LeD.rfl
end
section
variable (te:TypeId) (pe:Value) (hV:Has (wG gl) (glV te pe))
include hV in
theorem logic_d (and:Bool) {mk:List (Int×Int)} {mv:List Vl} {ev:Int→Int→Vl} (hM:MapOk mk mv ev) (hev:∀ c r,(ev c r).ok) (ks:List Nd) (hk:∀ x (h:x<ks.length),KdOk (wG gl) mk mv ev ks[x]) (hlk:ks.length≤200) :
 FnP Tryz.prog (wG gl) 171 [mpE mk mv,.v (.bool and),.lst 12 (Nd.csL ks)] (logicV and (lgF and (flA (evK ev ks)))).d:=by
 have c1:=tk_lg te pe hV and hM hev ks hk hlk
 generalize lgF and (flA (evK ev ks))=s at *
 have c2:=IsBad_d (gl:=wG gl) s.bad.k s.bad.n s.bad.s
 have c3:FnP Tryz.prog (wG gl) 62 [.v (.bool s.out)] (vlD 3 (if s.out=true then 1 else 0) []):=by
  cases s.out
  ·exact Is_f
  ·exact Is_t
 unfold logicV
 by_cases h4:s.bad.k=4
 ·rw[if_pos h4]
  refine fnP_of_vc (nv:=9999) (cu:=[]) fitsE mixed Tryz.func171 rfl hoB rfl ?_
  ((repeat' ((conv=>whnf);first|exact .intro|refine G ?_|intro _|refine C5 c1 [3,2,0,4,5] ?_|refine C1 c2 ?_|refine .mk ?_ ?_|refine H ?_|fail));all_goals conv=>whnf)
  all_goals exact LeD.rfl
 ·rw[if_neg h4]
  by_cases h0:s.k=0
  ·rw[if_pos h0]
   have h0':(s.k:Int)=0:=by omega
   refine fnP_of_vc (nv:=9999) (cu:=[]) fitsE mixed Tryz.func171 rfl hoB rfl ?_
   ((repeat' ((conv=>whnf);first|exact .intro|refine G ?_|intro _|refine C5 c1 [3,2,0,4,5] ?_|refine C1 c2 ?_|refine .mk ?_ ?_|refine H ?_|fail));all_goals conv=>whnf)
   all_goals exact LeD.rfl
  ·rw[if_neg h0]
   have h0':¬ (s.k:Int)=0:=by omega
   refine fnP_of_vc (nv:=9999) (cu:=[]) fitsE mixed Tryz.func171 rfl hoB rfl ?_
   ((repeat' ((conv=>whnf);first|exact .intro|refine G ?_|intro _|refine C5 c1 [3,2,0,4,5] ?_|refine C1 c2 ?_|refine C1 c3 ?_|refine .mk ?_ ?_|refine H ?_|fail));all_goals conv=>whnf)
   all_goals exact LeD.rfl
theorem FnP.bArg {P:Program} {f:Nat} {a c r:D} {p:Prop} {i:Decidable p} {b:Bool} (hb:(b=true↔p)) (h:FnP P gl f [a,.v (.bool b),c] r):FnP P gl f [a,.b p i,c] r:=fun w M xs hM hG hd=>by
 match xs,hd with
 | [x,y,z],⟨h1,h2,h3⟩ =>
  obtain rfl:=DenD.b_inv h2
  refine h w M _ hM hG ⟨h1,?_,h3⟩
  have:decide p=b:=by
   cases b
   ·exact decide_eq_false fun hp=>by cases hb.2 hp
   ·exact decide_eq_true (hb.1 rfl)
  rw[this]
  exact .v _
include hV in
theorem emany_d (t:List UInt8) {mk:List (Int×Int)} {mv:List Vl} {ev:Int→Int→Vl} (hM:MapOk mk mv ev) (hev:∀ c r,(ev c r).ok) (ks:List Nd) (hk:∀ x (h:x<ks.length),KdOk (wG gl) mk mv ev ks[x]) (hlk:ks.length≤200) :
 FnP Tryz.prog (wG gl) 113 [mpE mk mv,.str t,.lst 12 (Nd.csL ks)] (manyV t (evK ev ks)).d:=by
 have hall:GdL (flA (evK ev ks)):=gd_all (kids_ok hk) (by rw[evK_map,List.length_map];exact hlk)
 unfold manyV manyF
 by_cases hc:t=nCOUNT∨t=nCOUNTA
 ·rw[if_pos hc]
  have c1:=tk_cn te pe hV hc hM hev ks hk hlk
  show FnP Tryz.prog (wG gl) 113 _ (vlD 1 ((cnF t (flA (evK ev ks)):Nat):Int) [])
  generalize cnF t (flA (evK ev ks))=s at *
  have c2:=Num_d (gl:=wG gl) (s:Int)
  rcases hc with hc|hc
  ·refine fnP_of_vc (nv:=9999) (cu:=[]) fitsE mixed Tryz.func113 rfl hoB rfl ?_
   ((repeat' ((conv=>whnf);first|exact .intro|refine G ?_|intro _|refine C5 c1 [0,2] ?_|refine C1 c2 ?_|refine .mk ?_ ?_|refine H ?_|fail));all_goals conv=>whnf)
   all_goals exact LeD.rfl
  ·have hn:¬ t=nCOUNT:=by rw[hc];decide
   refine fnP_of_vc (nv:=9999) (cu:=[]) fitsE mixed Tryz.func113 rfl hoB rfl ?_
   ((repeat' ((conv=>whnf);first|exact .intro|refine G ?_|intro _|refine C5 c1 [0,2] ?_|refine C1 c2 ?_|refine .mk ?_ ?_|refine H ?_|fail));all_goals conv=>whnf)
   all_goals exact LeD.rfl
 rw[if_neg hc]
 have n1:¬ t=nCOUNT:=fun hh=>hc (.inl hh)
 have n2:¬ t=nCOUNTA:=fun hh=>hc (.inr hh)
 by_cases hct:t=nCAT
 ·rw[if_pos hct]
  have c1:=tk_ct te pe hV hM hev ks hk hlk
  show FnP Tryz.prog (wG gl) 113 _ (ctF (flA (evK ev ks))).d
  generalize ctF (flA (evK ev ks))=s at *
  have c2:=Of_d (gl:=wG gl) []
  refine fnP_of_vc (nv:=9999) (cu:=[]) fitsE mixed Tryz.func113 rfl hoB rfl ?_
  ((repeat' ((conv=>whnf);first|exact .intro|refine G ?_|intro _|refine C5 c1 [2] ?_|refine C1 c2 ?_|refine .mk ?_ ?_|refine H ?_|fail));all_goals conv=>whnf)
  all_goals exact LeD.rfl
 rw[if_neg hct]
 by_cases hl:t=nAND∨t=nOR
 ·rw[if_pos hl]
  have c1:FnP Tryz.prog (wG gl) 171 [mpE mk mv,.b (t=nAND) inferInstance,.lst 12 (Nd.csL ks)] (logicV (decide (t=nAND)) (lgF (decide (t=nAND)) (flA (evK ev ks)))).d:=FnP.bArg (by simp) (logic_d te pe hV (decide (t=nAND)) hM hev ks hk hlk)
  show FnP Tryz.prog (wG gl) 113 _ (logicV (decide (t=nAND)) (lgF (decide (t=nAND)) (flA (evK ev ks)))).d
  generalize logicV (decide (t=nAND)) (lgF (decide (t=nAND)) (flA (evK ev ks)))=s at *
  rcases hl with hl|hl
  ·refine fnP_of_vc (nv:=9999) (cu:=[]) fitsE mixed Tryz.func113 rfl hoB rfl ?_
   ((repeat' ((conv=>whnf);first|exact .intro|refine G ?_|intro _|refine C1 c1 ?_|refine .mk ?_ ?_|refine H ?_|fail));all_goals conv=>whnf)
   all_goals exact LeD.rfl
  ·have hn:¬ t=nAND:=by rw[hl];decide
   refine fnP_of_vc (nv:=9999) (cu:=[]) fitsE mixed Tryz.func113 rfl hoB rfl ?_
   ((repeat' ((conv=>whnf);first|exact .intro|refine G ?_|intro _|refine C1 c1 ?_|refine .mk ?_ ?_|refine H ?_|fail));all_goals conv=>whnf)
   all_goals exact LeD.rfl
 rw[if_neg hl]
 have n3:¬ t=nAND:=fun hh=>hl (.inl hh)
 have n4:¬ t=nOR:=fun hh=>hl (.inr hh)
 have c1:=tk_nu te pe hV hM hev ks hk hlk
 have hin:=numS_inv hall.ok
 change ((∀ n ∈ (nuF (flA (evK ev ks))).all,okI n)∧(nuF (flA (evK ev ks))).all.length≤_)∧_ at hin
 have c3:=numbers_d te pe hV t (nuF (flA (evK ev ks))).all hin.1.1 (Nat.le_trans hin.1.2 (Nat.le_trans hall.len (by decide)))
 show FnP Tryz.prog (wG gl) 113 _ (if (nuF (flA (evK ev ks))).bad.k=4 then (nuF (flA (evK ev ks))).bad else numbersV t (nuF (flA (evK ev ks))).all).d
 clear hin hall hk
 generalize nuF (flA (evK ev ks))=s at *
 have c2:=IsBad_d (gl:=wG gl) s.bad.k s.bad.n s.bad.s
 by_cases h4:s.bad.k=4
 ·rw[if_pos h4]
  clear c3
  refine fnP_of_vc (nv:=9999) (cu:=[18]) fitsE mixed Tryz.func113 rfl hoB rfl ?_
  ((repeat' ((conv=>whnf);first|exact .intro|refine G ?_|intro _|refine .mk ?_ ?_|refine H ?_|fail));all_goals conv=>whnf)
  refine ⟨{ σ:=Unit,fr:=fun _=>[(12,.c (.ptr 4 0))],ks:=[2],L:=fun _=>[(2,.var [.all 1 5] 175),(5,.rows 1 (([]:List Int).map iR) 3),(4,.var [.fn 172 [(3,0),(2,0)]] 212)],ex:=2,I:=fun _=>True,μ:=fun _=>0 },?_,fun _ _=>?_⟩
  ·((repeat' ((conv=>whnf);first|exact .intro|refine G ?_|intro _|refine .mk ?_ ?_|refine H ?_|fail));all_goals conv=>whnf)
   refine ⟨(),trivial,?_⟩
   ((repeat' first|exact rfl|((conv=>whnf);first|done|exact suL|refine And.intro ?_ ?_|fail));all_goals conv=>whnf)
   all_goals first|exact .inr (.inr (.inl ⟨rfl,1,5,rfl,by decide⟩))|exact ⟨1,_,rfl,by decide,by decide⟩|skip
  ·((repeat' ((conv=>whnf);first|exact .intro|refine G ?_|intro _|refine C5 c1 [3,2,5,4] ?_|refine C1 c2 ?_|refine .mk ?_ ?_|refine H ?_|fail));all_goals conv=>whnf)
   all_goals exact LeD.rfl
 ·rw[if_neg h4]
  generalize numbersV t s.all=z at *
  refine fnP_of_vc (nv:=9999) (cu:=[18]) fitsE mixed Tryz.func113 rfl hoB rfl ?_
  ((repeat' ((conv=>whnf);first|exact .intro|refine G ?_|intro _|refine .mk ?_ ?_|refine H ?_|fail));all_goals conv=>whnf)
  refine ⟨{ σ:=Unit,fr:=fun _=>[(12,.c (.ptr 4 0))],ks:=[2],L:=fun _=>[(2,.var [.all 1 5] 175),(5,.rows 1 (([]:List Int).map iR) 3),(4,.var [.fn 172 [(3,0),(2,0)]] 212)],ex:=2,I:=fun _=>True,μ:=fun _=>0 },?_,fun _ _=>?_⟩
  ·((repeat' ((conv=>whnf);first|exact .intro|refine G ?_|intro _|refine .mk ?_ ?_|refine H ?_|fail));all_goals conv=>whnf)
   refine ⟨(),trivial,?_⟩
   ((repeat' first|exact rfl|((conv=>whnf);first|done|exact suL|refine And.intro ?_ ?_|fail));all_goals conv=>whnf)
   all_goals first|exact .inr (.inr (.inl ⟨rfl,1,5,rfl,by decide⟩))|exact ⟨1,_,rfl,by decide,by decide⟩|skip
  ·((repeat' ((conv=>whnf);first|exact .intro|refine G ?_|intro _|refine C5 c1 [3,2,5,4] ?_|refine C1 c2 ?_|refine C2 c3 ?_|refine .mk ?_ ?_|refine H ?_|fail));all_goals conv=>whnf)
   all_goals exact LeD.rfl
end
end
section
variable {gl:List (Nat×List D)}
theorem KdOk.vok {mk:List (Int×Int)} {mv:List Vl} {ev:Int→Int→Vl} {x:Nd} (h:KdOk gl mk mv ev x):(evN ev x).ok:=Ar.v_ok h.ok
abbrev ndR (k m:Int) (t:List UInt8) (a b:Rf) (ks:List Nd):List D:=[iD k,iD m,.str t,iD a.c,iD a.r,tD a.fc,tD a.fr,iD b.c,iD b.r,tD b.fc,tD b.fr,.lst 12 (Nd.csL ks)]
section
variable (te:TypeId) (pe:Value) (hV:Has (wG gl) (glV te pe))
include hV
theorem chosen_if3 {mk:List (Int×Int)} {mv:List Vl} {ev:Int→Int→Vl} {x y w:Nd} (hx:KdOk (wG gl) mk mv ev x) (hy:KdOk (wG gl) mk mv ev y) (hw:KdOk (wG gl) mk mv ev w) :
 FnP Tryz.prog (wG gl) 115 [mpE mk mv,.str nIF,.lst 12 (Nd.csL [x,y,w])] (chosenV nIF [evN ev x,evN ev y,evN ev w]).d:=by
 have e:chosenV nIF [evN ev x,evN ev y,evN ev w]=if (truV (evN ev x)).k=4 then truV (evN ev x) else if (truV (evN ev x)).n=1 then evN ev y else evN ev w:=rfl
 have c1:=hx.run
 have c2:=hy.run
 have c6:=hw.run
 have c4:=truC te pe hV hx.vok
 rw[e]
 clear hx hy hw e
 generalize truV (evN ev x)=z at *
 generalize evN ev x=v at *
 generalize evN ev y=u at *
 generalize evN ev w=r at *
 obtain ⟨k1,m1,t1,a1,b1,s1⟩:=x
 obtain ⟨k2,m2,t2,a2,b2,s2⟩:=y
 obtain ⟨k3,m3,t3,a3,b3,s3⟩:=w
 have g1:(Nd.csL [.mk k1 m1 t1 a1 b1 s1,.mk k2 m2 t2 a2 b2 s2,.mk k3 m3 t3 a3 b3 s3])[(0:Int).toNat]?=some (ndR k1 m1 t1 a1 b1 s1):=rfl
 have g2:(Nd.csL [.mk k1 m1 t1 a1 b1 s1,.mk k2 m2 t2 a2 b2 s2,.mk k3 m3 t3 a3 b3 s3])[(1:Int).toNat]?=some (ndR k2 m2 t2 a2 b2 s2):=rfl
 have g3:(Nd.csL [.mk k1 m1 t1 a1 b1 s1,.mk k2 m2 t2 a2 b2 s2,.mk k3 m3 t3 a3 b3 s3])[(2:Int).toNat]?=some (ndR k3 m3 t3 a3 b3 s3):=rfl
 have hl3:(((Nd.csL [.mk k1 m1 t1 a1 b1 s1,.mk k2 m2 t2 a2 b2 s2,.mk k3 m3 t3 a3 b3 s3]).length:Nat):Int)=3:=rfl
 have c3:FnP Tryz.prog (wG gl) 107 [z.d] (.b (z.k=4) inferInstance):=bad_d
 by_cases h4:z.k=4
 ·rw[if_pos h4]
  refine S0 Tryz.func115 rfl ?_
  ((repeat' ((conv=>whnf);first|exact .intro|refine G ?_|intro _|refine C1 c1 ?_|refine C1 c2 ?_|refine C1 c3 ?_|refine C1 c4 ?_|refine C1 c6 ?_|(first|refine ⟨Int.le_refl _,_,g1,?_⟩|refine ⟨by decide,_,g2,?_⟩|refine ⟨by decide,_,g3,?_⟩)|refine .mk ?_ ?_|refine H ?_|fail));all_goals conv=>whnf)
  all_goals exact LeD.rfl
 rw[if_neg h4]
 by_cases h1:z.n=1
 ·rw[if_pos h1]
  refine S0 Tryz.func115 rfl ?_
  ((repeat' ((conv=>whnf);first|exact .intro|refine G ?_|intro _|refine C1 c1 ?_|refine C1 c2 ?_|refine C1 c3 ?_|refine C1 c4 ?_|refine C1 c6 ?_|(first|refine ⟨Int.le_refl _,_,g1,?_⟩|refine ⟨by decide,_,g2,?_⟩|refine ⟨by decide,_,g3,?_⟩)|refine .mk ?_ ?_|refine H ?_|fail));all_goals conv=>whnf)
  all_goals exact LeD.rfl
 ·rw[if_neg h1]
  refine S0 Tryz.func115 rfl ?_
  ((repeat' ((conv=>whnf);first|exact .intro|refine G ?_|intro _|refine C1 c1 ?_|refine C1 c2 ?_|refine C1 c3 ?_|refine C1 c4 ?_|refine C1 c6 ?_|(first|refine ⟨Int.le_refl _,_,g1,?_⟩|refine ⟨by decide,_,g2,?_⟩|refine ⟨by decide,_,g3,?_⟩)|refine .mk ?_ ?_|refine H ?_|fail));all_goals conv=>whnf)
  all_goals exact LeD.rfl
end
end
end Go.Proofs.YtfkjhfdpphfjhaaGreatDoor
