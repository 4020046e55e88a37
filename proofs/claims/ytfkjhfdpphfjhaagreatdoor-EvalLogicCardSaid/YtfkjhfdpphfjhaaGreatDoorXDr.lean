/- Proved: a part of what the law is proved with (the reckoner, contracts of functions, plain laws). Conditions: as each says. -/
import Derived.Test.YtfkjhfdpphfjhaaGreatDoorXDl
namespace Go.Proofs.YtfkjhfdpphfjhaaGreatDoor
open Go Go.RowKit Go.EYtfkjhfdpphfjhaaGreatDoor
set_option maxRecDepth 100000
set_option maxHeartbeats 4000000
variable {gl:List (Nat×List D)}
theorem call_m0 {mk:List (Int×Int)} {mv:List Vl} {ks:List Nd} {t:List UInt8} (hm:isMany t) (h0:(((Nd.csL ks).length:Nat):Int)=0):FnP Tryz.prog (wG gl) 66 [mpE mk mv,.str t,.lst 12 (Nd.csL ks)] wrV.d:=by
 have a1:=many_d (gl:=wG gl) t
 refine S0 Tryz.func66 rfl ?_
 ((repeat' ((conv=>whnf);first|exact .intro|refine G ?_|intro _|refine C1 a1 ?_|refine .mk ?_ ?_|refine H ?_|fail));all_goals conv=>whnf)
 all_goals exact LeD.rfl
theorem call_m {mk:List (Int×Int)} {mv:List Vl} {ks:List Nd} {t:List UInt8} (hm:isMany t) (h0:¬ (((Nd.csL ks).length:Nat):Int)=0) {r:Vl} (c:FnP Tryz.prog (wG gl) 113 [mpE mk mv,.str t,.lst 12 (Nd.csL ks)] r.d):FnP Tryz.prog (wG gl) 66 [mpE mk mv,.str t,.lst 12 (Nd.csL ks)] r.d:=by
 have a1:=many_d (gl:=wG gl) t
 refine S0 Tryz.func66 rfl ?_
 ((repeat' ((conv=>whnf);first|exact .intro|refine G ?_|intro _|refine C1 a1 ?_|refine C1 c ?_|refine .mk ?_ ?_|refine H ?_|fail));all_goals conv=>whnf)
 all_goals exact LeD.rfl
theorem call_cho {mk:List (Int×Int)} {mv:List Vl} {ks:List Nd} {t:List UInt8} (hm:¬ isMany t) {lo hi:Int} (hlh:argZ t=(lo,hi)) (h0:¬ lo<0) (h1:¬ (((Nd.csL ks).length:Nat):Int)<lo) (h2:¬ hi<(((Nd.csL ks).length:Nat):Int)) (hq:t=nIF∨t=nIFBAD∨t=nCHOOSE) {r:Vl} (c:FnP Tryz.prog (wG gl) 115 [mpE mk mv,.str t,.lst 12 (Nd.csL ks)] r.d):FnP Tryz.prog (wG gl) 66 [mpE mk mv,.str t,.lst 12 (Nd.csL ks)] r.d:=by
 have a1:=many_d (gl:=wG gl) t
 have a2:FnP Tryz.prog (wG gl) 114 [.str t] (.tup [iD lo,iD hi]):=by
  have:=arguments_d (gl:=wG gl) t
  rwa [hlh] at this
 rcases hq with q|q|q
 ·skip
  have qNONE:¬ t=nNONE:=by rw[q];decide
  refine S0 Tryz.func66 rfl ?_
  ((repeat' ((conv=>whnf);first|exact .intro|refine G ?_|intro _|refine C1 a1 ?_|refine C1 a2 ?_|refine C1 c ?_|refine .mk ?_ ?_|refine H ?_|fail));all_goals conv=>whnf)
  all_goals exact LeD.rfl
 ·skip
  have qNONE:¬ t=nNONE:=by rw[q];decide
  have qIF:¬ t=nIF:=by rw[q];decide
  refine S0 Tryz.func66 rfl ?_
  ((repeat' ((conv=>whnf);first|exact .intro|refine G ?_|intro _|refine C1 a1 ?_|refine C1 a2 ?_|refine C1 c ?_|refine .mk ?_ ?_|refine H ?_|fail));all_goals conv=>whnf)
  all_goals exact LeD.rfl
 ·skip
  have qNONE:¬ t=nNONE:=by rw[q];decide
  have qIF:¬ t=nIF:=by rw[q];decide
  have qIFBAD:¬ t=nIFBAD:=by rw[q];decide
  refine S0 Tryz.func66 rfl ?_
  ((repeat' ((conv=>whnf);first|exact .intro|refine G ?_|intro _|refine C1 a1 ?_|refine C1 a2 ?_|refine C1 c ?_|refine .mk ?_ ?_|refine H ?_|fail));all_goals conv=>whnf)
  all_goals exact LeD.rfl
theorem call_gen {mk:List (Int×Int)} {mv:List Vl} {ev:Int→Int→Vl} {ks:List Nd} {t:List UInt8} (hm:¬ isMany t) {lo hi:Int} (hlh:argZ t=(lo,hi)) (h0:¬ lo<0) (h1:¬ (((Nd.csL ks).length:Nat):Int)<lo) (h2:¬ hi<(((Nd.csL ks).length:Nat):Int)) (hT:¬ t=nNONE∧¬ t=nIF∧¬ t=nIFBAD∧¬ t=nCHOOSE∧¬ t=nBADP∧¬ t=nBLANKP∧¬ t=nNUMP∧¬ t=nROWS∧¬ t=nCOLS∧¬ t=nINDEX∧¬ t=nMATCH∧¬ t=nLOOKUP∧¬ t=nCOUNTIF∧¬ t=nSUMIF) (hk:∀ x (h:x<ks.length),KdOk (wG gl) mk mv ev ks[x]) (hlk:ks.length≤200) {r:Vl}
 (hr:badL (ks.map (evN ev))=none→(isReck t∧FnP Tryz.prog (wG gl) 117 [.str t,.lst 3 ((ks.map (evN ev)).map vlR')] r.d)∨(¬ isReck t∧FnP Tryz.prog (wG gl) 118 [.str t,.lst 3 ((ks.map (evN ev)).map vlR')] r.d)):FnP Tryz.prog (wG gl) 66 [mpE mk mv,.str t,.lst 12 (Nd.csL ks)] (match badL (ks.map (evN ev)) with|some b=>b|none=>r).d:=by
 have a1:=many_d (gl:=wG gl) t
 have a2:FnP Tryz.prog (wG gl) 114 [.str t] (.tup [iD lo,iD hi]):=by
  have:=arguments_d (gl:=wG gl) t
  rwa [hlh] at this
 have hlen:=kid_len ks
 have hml:(ks.map (evN ev)).length=ks.length:=List.length_map _
 obtain ⟨qNONE,qIF,qIFBAD,qCHOOSE,qBADP,qBLANKP,qNUMP,qROWS,qCOLS,qINDEX,qMATCH,qLOOKUP,qCOUNTIF,qSUMIF⟩:=hT
 refine S0 Tryz.func66 rfl ?_
 ((repeat' ((conv=>whnf);first|exact .intro|refine G ?_|intro _|refine C1 a1 ?_|refine C1 a2 ?_|refine .mk ?_ ?_|refine H ?_|fail));all_goals conv=>whnf)
 refine ⟨{ σ:=Nat,fr:=fun k=>[(100,.c (.d (iD (k:Int)))),(9,.c (.all 3 1))],ks:=[],L:=fun k=>[(1,.rows 3 (((ks.map (evN ev)).take k).map vlR') 31)],ex:=1,I:=fun k=>k≤ks.length,μ:=fun k=>ks.length - k },⟨0,Nat.zero_le _,?_⟩,fun (k:Nat) hk'=>?_⟩
 ·((repeat' first|exact rfl|((conv=>whnf);first|done|exact suL|refine And.intro ?_ ?_|fail));all_goals conv=>whnf)
  all_goals first|exact .inr (.inr (.inl ⟨rfl,3,1,rfl,by decide⟩))|exact ⟨3,_,rfl,by decide,by decide⟩|skip
 replace hk':k≤ks.length:=hk'
 by_cases hlt:k<ks.length
 ·have h3:(k:Int)<((Nd.csL ks).length:Nat):=by omega
  have g1:=kid_get hlt
  have c1:=(hk k hlt).run
  have e0:=wx (x:=k) (by omega)
  have hsn:((ks.map (evN ev)).take (k+1)).map vlR'=((ks.map (evN ev)).take k).map vlR'++[vlR' (evN ev ks[k])]:=by
   rw[List.take_succ_eq_append_getElem (by rw[hml];exact hlt),List.map_append,List.getElem_map]
   rfl
  have hrl:(((ks.map (evN ev)).take k).map vlR').length=k:=by rw[List.length_map,List.length_take,hml];omega
  have b1:((((ks.map (evN ev)).take k).map vlR').length+1) * 32≤140737488355328:=by omega
  have b2:(((ks.map (evN ev)).take k).map vlR').length+1≤maxLen:=by unfold maxLen;omega
  clear hr
  generalize evN ev ks[k]=v at *
  generalize ks[k]=q at *
  obtain ⟨k1,m1,t1,a1',b1',s1⟩:=q
  change (Nd.csL ks)[((k:Nat):Int).toNat]?=some (ndR k1 m1 t1 a1' b1' s1) at g1
  ((repeat' ((conv=>whnf);first|exact .intro|refine G ?_|intro _|refine C1 c1 ?_|(first|refine ⟨Int.natCast_nonneg _,_,g1,?_⟩|refine ⟨⟨rfl,b1,b2⟩,?_⟩)|refine .mk ?_ ?_|refine H ?_|fail));all_goals conv=>whnf)
  all_goals refine ⟨k+1,⟨hlt,by show ks.length - (k+1)<ks.length - k;omega⟩,?_⟩
  all_goals ((repeat' first|exact rfl|((conv=>whnf);first|done|exact suL|refine And.intro ?_ ?_|fail));all_goals conv=>whnf)
  all_goals first|exact ceq e0|(rw[hsn];first|done|rfl)|skip
 have h3:¬ (k:Int)<((Nd.csL ks).length:Nat):=by omega
 obtain rfl:k=ks.length:=by omega
 have hrl:(((ks.map (evN ev)).take ks.length).map vlR').length=ks.length:=by rw[List.length_map,List.length_take,hml];omega
 have htk:(ks.map (evN ev)).take ks.length=ks.map (evN ev):=List.take_of_length_le (by rw[hml];exact Nat.le_refl _)
 ((repeat' ((conv=>whnf);first|exact .intro|refine G ?_|intro _|refine .mk ?_ ?_|refine H ?_|fail));all_goals conv=>whnf)
 refine ⟨{ σ:=Nat,fr:=fun k=>[(113,.c (.d (iD (k:Int))))],ks:=[],L:=fun k=>[],ex:=0,I:=fun k=>k≤ks.length∧∀ (j:Nat) (h:j<(ks.map (evN ev)).length),j<k→¬ (ks.map (evN ev))[j].k=4,μ:=fun k=>ks.length - k },⟨0,⟨Nat.zero_le _,fun j _ h=>absurd h (Nat.not_lt_zero j)⟩,?_⟩,fun (k:Nat) hkk=>?_⟩
 ·((repeat' first|exact rfl|((conv=>whnf);first|done|exact suL|refine And.intro ?_ ?_|fail));all_goals conv=>whnf)
 obtain ⟨hkk,hnb⟩:=hkk
 by_cases hlt:k<ks.length
 ·have h4:(k:Int)<(((((ks.map (evN ev)).take ks.length).map vlR').length:Nat):Int):=by omega
  have hml':k<(ks.map (evN ev)).length:=by omega
  have g1:(((ks.map (evN ev)).take ks.length).map vlR')[((k:Nat):Int).toNat]?=some (vlR' ((ks.map (evN ev))[k])):=by
   rw[htk,Int.toNat_natCast,List.getElem?_map,List.getElem?_eq_getElem hml']
   rfl
  have e0:=wx (x:=k) (by omega)
  have hba:=fun hb:((ks.map (evN ev))[k]).k=4=>badL_at hml' hb fun j hj=>hnb j (Nat.lt_trans hj hml') hj
  have hnb1:=fun hb:¬ ((ks.map (evN ev))[k]).k=4=>fun (j:Nat) (h:j<(ks.map (evN ev)).length) (hj:j<k+1)=>show ¬ (ks.map (evN ev))[j].k=4 by
   rcases Nat.lt_succ_iff_lt_or_eq.1 hj with hh|rfl
   ·exact hnb j h hh
   ·exact hb
  clear hr
  generalize (ks.map (evN ev))[k]=v at *
  have c1:FnP Tryz.prog (wG gl) 107 [v.d] (.b (v.k=4) inferInstance):=bad_d
  by_cases hb:v.k=4
  ·rw[hba hb]
   ((repeat' ((conv=>whnf);first|exact .intro|refine G ?_|intro _|refine C1 c1 ?_|(first|refine ⟨⟨Int.natCast_nonneg _,h4⟩,?_⟩|refine ⟨_,g1,?_⟩)|refine .mk ?_ ?_|refine H ?_|fail));all_goals conv=>whnf)
   all_goals exact LeD.rfl
  ·((repeat' ((conv=>whnf);first|exact .intro|refine G ?_|intro _|refine C1 c1 ?_|(first|refine ⟨⟨Int.natCast_nonneg _,h4⟩,?_⟩|refine ⟨_,g1,?_⟩)|refine .mk ?_ ?_|refine H ?_|fail));all_goals conv=>whnf)
   all_goals refine ⟨k+1,⟨⟨hlt,hnb1 hb⟩,by show ks.length - (k+1)<ks.length - k;omega⟩,?_⟩
   all_goals ((repeat' first|exact rfl|((conv=>whnf);first|done|exact suL|refine And.intro ?_ ?_|fail));all_goals conv=>whnf)
   all_goals first|exact ceq e0|skip
 obtain rfl:k=ks.length:=by omega
 have h4:¬ ((ks.length:Nat):Int)<(((((ks.map (evN ev)).take ks.length).map vlR').length:Nat):Int):=by omega
 have hbn:badL (ks.map (evN ev))=none:=badL_none.2 fun v hv=>by
  obtain ⟨j,hj,rfl⟩:=List.getElem_of_mem hv
  exact hnb j hj (by omega)
 have hr':=hr hbn
 rw[← htk] at hr'
 rw[hbn]
 rcases hr' with ⟨hR,c1⟩|⟨hR,c1⟩
 ·((repeat' ((conv=>whnf);first|exact .intro|refine G ?_|intro _|refine C2 c1 ?_|refine .mk ?_ ?_|refine H ?_|fail));all_goals conv=>whnf)
  all_goals first|exact LeD.rfl|exact absurd hR (by simp[isReck, *])
 ·have n1:¬ t=nNOT:=fun h=>hR (.inl h)
  have n2:¬ t=nABS:=fun h=>hR (.inr (.inl h))
  have n3:¬ t=nSIGN:=fun h=>hR (.inr (.inr (.inl h)))
  have n4:¬ t=nMOD:=fun h=>hR (.inr (.inr (.inr (.inl h))))
  have n5:¬ t=nPOWER:=fun h=>hR (.inr (.inr (.inr (.inr (.inl h)))))
  have n6:¬ t=nVALUE:=fun h=>hR (.inr (.inr (.inr (.inr (.inr h)))))
  ((repeat' ((conv=>whnf);first|exact .intro|refine G ?_|intro _|refine C2 c1 ?_|refine .mk ?_ ?_|refine H ?_|fail));all_goals conv=>whnf)
  all_goals exact LeD.rfl
end Go.Proofs.YtfkjhfdpphfjhaaGreatDoor
