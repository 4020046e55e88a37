/- Proved: a part of what the law is proved with (the reckoner, contracts of functions, plain laws). Conditions: as each says. -/
import Derived.Lib.IndexLaws
import Derived.Test.YtfkjhfdpphfjhaaGreatDoorFDo
import Derived.Test.YtfkjhfdpphfjhaaGreatDoorFKg
namespace Go.Proofs.YtfkjhfdpphfjhaaGreatDoor
open Go Go.RowKit Go.EYtfkjhfdpphfjhaaGreatDoor
set_option maxRecDepth 100000
set_option maxHeartbeats 4000000
variable {gl:List (Nat×List D)}
theorem Index_d {mx:Int} (hm:Go.EYtfkjhfdpphfjhaaGreatDoor.look gl 4=some [iD mx]) (s t:List UInt8) (hs:s.length≤200):FnP Tryz.prog gl 182 [.str s,.str t] (iD (Lib.index s t)):=by
 intro w M xs hM hg hd
 obtain rfl:=str2 hd
 obtain ⟨_,ys,h2,_,h4⟩:=hg _ _ hm
 obtain ⟨y,rfl,h5⟩:=All2.one_iff.1 h4
 obtain rfl:=DenD.v_inv h5
 refine .inl ⟨by unfold HasBody;kernel_rfl,?_⟩
 have h:=Any.strings_Index Tryz.lays143 ⟨s.toArray⟩ ⟨t.toArray⟩ mx w (by have:(⟨s.toArray⟩:ByteArray).size=s.length:=rfl;omega) (globCell h2 0 _ rfl)
 refine h.mono ?_
 rintro e w' ⟨rfl,rfl⟩
 exact ⟨Evo.refl _ _,_,rfl,.v _⟩
theorem xtra105:Builder.Extra Tryz.prog Tryz.lays105_ren:={ sizeBuilder:=by kernel_rfl,liesBuilder:=by kernel_rfl,t5:=Tryz.underlying5,a5:=Tryz.isAgg5,z5:=Tryz.sizeOf5,v5:=Tryz.zeroValue5,infoByte:=by kernel_rfl,cellsByte:=by kernel_rfl,sizeByte:=by kernel_rfl,neB5:=by decide }
theorem repeatL_eq (s:List UInt8):∀ n:Nat,Lib.repeatL s n=(List.replicate n s).flatten
 | 0=>rfl
 | n+1=>by rw[Lib.repeatL,repeatL_eq s n,List.replicate_succ,List.flatten_cons]
theorem Repeat_d (s:List UInt8) (n:Int) (h0:0≤n) (hn:n≤200) (hs:s.length≤200):FnP Tryz.prog gl 183 [.str s,iD n] (.str (List.replicate n.toNat s).flatten) :=
 FnP.of_below (xs:=[.string ⟨s.toArray⟩,.int .i64 n]) (v:=.string ⟨((List.replicate n.toNat s).flatten).toArray⟩) hoB (fun M w ys hd=>by
  obtain ⟨y,ys,rfl,h1,h2⟩:=All2.cons_iff.1 hd
  obtain ⟨z,rfl,h3⟩:=All2.one_iff.1 h2
  rw[DenD.str_inv h1,DenD.v_inv h3]) (fun _ _=>.str _) (fun M w hg=>by
  have hsz:(⟨s.toArray⟩:ByteArray).size=s.length:=rfl
  have hle:s.length * n.toNat≤200 * 200:=Nat.mul_le_mul hs (by omega)
  have h:=Any.strings_Repeat Tryz.lays105 xtra105 ⟨s.toArray⟩ n.toNat w (by omega) (by rw[hsz];omega)
  rw[show ((n.toNat:Nat):Int)=n by omega] at h
  refine h.mono ?_
  rintro e w' ⟨rfl,hb⟩
  exact ⟨by show Ending.returned (Value.string ⟨(Lib.repeatL s n.toNat).toArray⟩)=_;rw[repeatL_eq],hb⟩)
theorem badL1 (y:Vl):badL [y]=if y.k=4 then some y else none:=by
 unfold badL
 by_cases h:y.k=4
 ·rw[List.find?_cons_of_pos (by simpa using h),if_pos h]
 ·rw[List.find?_cons_of_neg (by simpa using h),if_neg h];rfl
theorem text_cut1 {t:List UInt8} (ht:t=nLEFT∨t=nRIGHT∨t=nREPT) (v u:Vl):textV t [v,u]=if (numV u).k=4 then numV u else cutV t (showV v) (numV u).n (numV wrV).n:=by
 unfold textV
 rw[if_neg (by rcases ht with h|h|h <;> (rw[h];decide)),if_neg (by rcases ht with h|h|h <;> (rw[h];decide)),if_neg (by rcases ht with h|h|h <;> (rw[h];decide)),if_neg (by rcases ht with h|h|h <;> (rw[h];decide))]
 show (match badL [numV u] with|some b=>b|none=>cutV t (showV v) (numV u).n (numV wrV).n)=_
 rw[badL1]
 split <;> (split at * <;> simp_all)
theorem badL2 (y z:Vl):badL [y,z]=if y.k=4 then some y else if z.k=4 then some z else none:=by
 unfold badL
 by_cases h:y.k=4
 ·rw[List.find?_cons_of_pos (by simpa using h),if_pos h]
 ·rw[List.find?_cons_of_neg (by simpa using h),if_neg h]
  exact badL1 z
theorem text_cut2 (v u x:Vl):textV nMID [v,u,x]=if (numV u).k=4 then numV u else if (numV x).k=4 then numV x else cutV nMID (showV v) (numV u).n (numV x).n:=by
 show (match badL [numV u,numV x] with|some b=>b|none=>cutV nMID (showV v) (numV u).n (numV x).n)=_
 rw[badL2]
 split
 ·rename_i h
  split at h
  ·rename_i h1;cases h;rw[if_pos h1]
  ·rename_i h1
   rw[if_neg h1]
   split at h
   ·rename_i h2;cases h;rw[if_pos h2]
   ·cases h
 ·rename_i h
  split at h
  ·cases h
  ·rename_i h1
   rw[if_neg h1]
   split at h
   ·cases h
   ·rename_i h2;rw[if_neg h2]
section
variable (te:TypeId) (pe:Value) (hV:Has gl (glV te pe))
include hV
theorem shoC {v:Vl} (hv:v.ok):FnP Tryz.prog gl 109 [v.d] (.str (showV v)):=FnP.moreG (Show_d te pe v hv.2) hV
theorem text_len {v:Vl} (hv:v.ok):FnP Tryz.prog gl 118 [.str nLEN,.lst 3 [vlR' v]] (textV nLEN [v]).d:=by
 have e:textV nLEN [v]=⟨1,(showV v).length,[]⟩:=rfl
 have c1:=shoC te pe hV hv
 rw[e]
 generalize showV v=s at *
 have c2:=Num_d (gl:=gl) (s.length:Int)
 have g1:([vlR' v]:List (List D))[(0:Int).toNat]?=some [iD v.k,iD v.n,.str v.s]:=rfl
 refine S0 Tryz.func118 rfl ?_
 ((repeat' ((conv=>whnf);first|exact .intro|refine G ?_|intro _|refine C1 c1 ?_|refine C1 c2 ?_|(refine ⟨Int.le_refl _,_,g1,?_⟩)|refine .mk ?_ ?_|refine H ?_|fail));all_goals conv=>whnf)
 all_goals exact LeD.rfl
theorem text_case (hC:∀ (s:List UInt8) (p:Prop) (i:Decidable p),s.length≤200→FnP Tryz.prog gl 181 [.str s,.b p i] (.str (s.map (caseB (@decide p i))))) {t:List UInt8} (ht:t=nUPPER∨t=nLOWER) {v:Vl} (hv:v.ok):FnP Tryz.prog gl 118 [.str t,.lst 3 [vlR' v]] (textV t [v]).d:=by
 have e:textV t [v]=⟨2,0,(showV v).map (caseB (decide (t=nUPPER)))⟩:=by
  unfold textV
  rw[if_neg (by rcases ht with h|h <;> (rw[h];decide)),if_pos ht]
  rfl
 have c1:=shoC te pe hV hv
 have c2:=hC (showV v) (t=nUPPER) inferInstance (showV_len hv)
 rw[e]
 generalize showV v=s at *
 generalize s.map (caseB (decide (t=nUPPER)))=u at *
 have c3:=Of_d (gl:=gl) u
 have hn:¬ t=nLEN:=by rcases ht with h|h <;> (rw[h];decide)
 have g1:([vlR' v]:List (List D))[(0:Int).toNat]?=some [iD v.k,iD v.n,.str v.s]:=rfl
 rcases ht with ht|ht
 ·refine S0 Tryz.func118 rfl ?_
  ((repeat' ((conv=>whnf);first|exact .intro|refine G ?_|intro _|refine C1 c1 ?_|refine C1 c2 ?_|refine C1 c3 ?_|(refine ⟨Int.le_refl _,_,g1,?_⟩)|refine .mk ?_ ?_|refine H ?_|fail));all_goals conv=>whnf)
  all_goals exact LeD.rfl
 ·have hn2:¬ t=nUPPER:=by rw[ht];decide
  refine S0 Tryz.func118 rfl ?_
  ((repeat' ((conv=>whnf);first|exact .intro|refine G ?_|intro _|refine C1 c1 ?_|refine C1 c2 ?_|refine C1 c3 ?_|(refine ⟨Int.le_refl _,_,g1,?_⟩)|refine .mk ?_ ?_|refine H ?_|fail));all_goals conv=>whnf)
  all_goals exact LeD.rfl
theorem text_exact {v u:Vl} (hv:v.ok) (hu:u.ok):FnP Tryz.prog gl 118 [.str nEXACT,.lst 3 [vlR' v,vlR' u]] (textV nEXACT [v,u]).d:=by
 have e:textV nEXACT [v,u]=truD (showV v=showV u):=rfl
 have c1:=shoC te pe hV hv
 have c2:=shoC te pe hV hu
 rw[e]
 generalize showV v=s at *
 generalize showV u=z at *
 have c3:FnP Tryz.prog gl 62 [.b (s=z) inferInstance] (vlD 3 (if s=z then 1 else 0) []):=Is_b _
 have g1:([vlR' v,vlR' u]:List (List D))[(0:Int).toNat]?=some [iD v.k,iD v.n,.str v.s]:=rfl
 have g2:([vlR' v,vlR' u]:List (List D))[(1:Int).toNat]?=some [iD u.k,iD u.n,.str u.s]:=rfl
 refine S0 Tryz.func118 rfl ?_
 ((repeat' ((conv=>whnf);first|exact .intro|refine G ?_|intro _|refine C1 c1 ?_|refine C1 c2 ?_|refine C1 c3 ?_|(first|refine ⟨Int.le_refl _,_,g1,?_⟩|refine ⟨by decide,_,g2,?_⟩)|refine .mk ?_ ?_|refine H ?_|fail));all_goals conv=>whnf)
 all_goals exact LeD.rfl
end
section
variable (te:TypeId) (pe:Value) (hV:Has (wG gl) (glV te pe)) {mx:Int} (hm:Go.EYtfkjhfdpphfjhaaGreatDoor.look (wG gl) 4=some [iD mx])
include hV
include hm in
theorem text_find {v u:Vl} (hv:v.ok) (hu:u.ok):FnP Tryz.prog (wG gl) 118 [.str nFIND,.lst 3 [vlR' v,vlR' u]] (textV nFIND [v,u]).d:=by
 have e:textV nFIND [v,u]=if Lib.index (showV u) (showV v)<0 then wrV else ⟨1,Lib.index (showV u) (showV v)+1,[]⟩:=rfl
 have c1:=shoC te pe hV hv
 have c2:=shoC te pe hV hu
 have c3:=Index_d hm (showV u) (showV v) (showV_len hu)
 have hi:=index_okI (showV u) (showV v) (showV_len hu)
 rw[e]
 generalize Lib.index (showV u) (showV v)=z at *
 generalize showV v=s at *
 generalize showV u=r at *
 have c4:=Num_d (gl:=wG gl) (z+1)
 have e1:IntKind.i64.wrap (z+1)=z+1:=wrapI (by unfold okI at hi;omega)
 have g1:([vlR' v,vlR' u]:List (List D))[(0:Int).toNat]?=some [iD v.k,iD v.n,.str v.s]:=rfl
 have g2:([vlR' v,vlR' u]:List (List D))[(1:Int).toNat]?=some [iD u.k,iD u.n,.str u.s]:=rfl
 by_cases h0:z<0
 ·rw[if_pos h0]
  refine S0 Tryz.func118 rfl ?_
  ((repeat' ((conv=>whnf);first|exact .intro|refine G ?_|intro _|refine C1 c1 ?_|refine C1 c2 ?_|refine C1 c3 ?_|(first|refine ⟨Int.le_refl _,_,g1,?_⟩|refine ⟨by decide,_,g2,?_⟩)|refine .mk ?_ ?_|refine H ?_|fail));all_goals conv=>whnf)
  all_goals exact LeD.rfl
 ·rw[if_neg h0]
  refine S0 Tryz.func118 rfl ?_
  ((repeat' ((conv=>whnf);first|exact .intro|refine G ?_|intro _|refine C1 c1 ?_|refine C1 c2 ?_|refine C1 c3 ?_|refine C1 c4 ?_|(first|refine ⟨Int.le_refl _,_,g1,?_⟩|refine ⟨by decide,_,g2,?_⟩|rw[e1])|refine .mk ?_ ?_|refine H ?_|fail));all_goals conv=>whnf)
  all_goals exact LeD.rfl
theorem text_left {v u:Vl} (hv:v.ok) (hu:u.ok):FnP Tryz.prog (wG gl) 118 [.str nLEFT,.lst 3 [vlR' v,vlR' u]] (textV nLEFT [v,u]).d:=by
 have e:textV nLEFT [v,u]=if (numV u).k=4 then numV u else cutV nLEFT (showV v) (numV u).n (numV wrV).n:=text_cut1 (by simp) v u
 have c1:=shoC te pe hV hv
 have n1:=numC te pe hV hu
 have hsl:=showV_len hv
 have hy:=numV_ok hu
 rw[e]
 generalize numV u=y at *
 generalize showV v=s at *
 have n2:FnP Tryz.prog (wG gl) 107 [y.d] (.b (y.k=4) inferInstance):=bad_d
 have g1:([vlR' v,vlR' u]:List (List D))[(0:Int).toNat]?=some [iD v.k,iD v.n,.str v.s]:=rfl
 have g3:([vlR' u]:List (List D))[((0:Nat):Int).toNat]?=some [iD u.k,iD u.n,.str u.s]:=rfl
 have hyn:=hy.1.2
 have b1:(0+1) * 8≤140737488355328:=by decide
 have b2:0+1≤maxLen:=by unfold maxLen;omega
 refine S0 Tryz.func118 rfl ?_
 ((repeat' ((conv=>whnf);first|exact .intro|refine G ?_|intro _|refine C1 c1 ?_|(first|refine ⟨Int.le_refl _,_,g1,?_⟩|refine ⟨⟨by decide,by decide,by decide⟩,?_⟩)|refine .mk ?_ ?_|refine H ?_|fail));all_goals conv=>whnf)
 refine ⟨{ σ:=Nat,fr:=fun k=>[(57,.c (.d (iD (k:Int)))),(7,.c (.all 1 1))],ks:=[],L:=fun k=>[(1,.rows 1 (([iR y.n]:List (List D)).take k) 3)],ex:=1,I:=fun k=>k≤1∧(0<k→¬ y.k=4),μ:=fun k=>1 - k },⟨0,⟨Nat.zero_le _,fun h=>absurd h (Nat.lt_irrefl 0)⟩,?_⟩,fun (k:Nat) hk=>?_⟩
 ·((repeat' first|exact rfl|((conv=>whnf);first|done|exact suL|refine And.intro ?_ ?_|fail));all_goals conv=>whnf)
  all_goals first|exact .inr (.inr (.inl ⟨rfl,1,1,rfl,by decide⟩))|exact ⟨1,_,rfl,by decide,by decide⟩|skip
 ·obtain ⟨hk,hkb⟩:=hk
  by_cases hlt:k<1
  ·obtain rfl:k=0:=by omega
   have e0:=wx (x:=0) (by omega)
   by_cases h4:y.k=4
   ·rw[if_pos h4]
    ((repeat' ((conv=>whnf);first|exact .intro|refine G ?_|intro _|refine C1 n1 ?_|refine C1 n2 ?_|(first|refine ⟨Int.natCast_nonneg _,_,g3,?_⟩)|refine .mk ?_ ?_|refine H ?_|fail));all_goals conv=>whnf)
    all_goals exact LeD.rfl
   ·((repeat' ((conv=>whnf);first|exact .intro|refine G ?_|intro _|refine C1 n1 ?_|refine C1 n2 ?_|(first|refine ⟨Int.natCast_nonneg _,_,g3,?_⟩|refine ⟨⟨rfl,b1,b2⟩,?_⟩)|refine .mk ?_ ?_|refine H ?_|fail));all_goals conv=>whnf)
    all_goals refine ⟨1,⟨⟨Nat.le_refl 1,fun _=>h4⟩,show 1 - 1<1 - 0 by decide⟩,?_⟩
    all_goals ((repeat' first|exact rfl|((conv=>whnf);first|done|exact suL|refine And.intro ?_ ?_|fail));all_goals conv=>whnf)
    all_goals first|exact ceq e0|skip
  ·obtain rfl:k=1:=by omega
   have h4:=hkb (by decide)
   rw[if_neg h4]
   unfold cutV
   rw[if_neg (by decide)]
   have g4:(([iR y.n]:List (List D)).take 1)[(0:Int).toNat]?=some [iD y.n]:=rfl
   by_cases h0:y.n<0
   ·rw[if_pos h0]
    ((repeat' ((conv=>whnf);first|exact .intro|refine G ?_|intro _|(first|refine ⟨⟨by decide,by decide⟩,?_⟩|refine ⟨_,g4,?_⟩)|refine .mk ?_ ?_|refine H ?_|fail));all_goals conv=>whnf)
    all_goals exact LeD.rfl
   rw[if_neg h0]
   have w1:IntKind.i64.wrap ((s.length:Int) - 0)=(s.length:Int):=by rw[Int.sub_zero];exact wrapI (by omega)
   have w2:(if (s.length:Int)<y.n then (s.length:Int) else y.n)=((min y.n.toNat s.length:Nat):Int):=by split <;> omega
   have hmm:min y.n.toNat s.length≤s.length:=Nat.min_le_right _ _
   have hmn:min y.n.toNat s.length=if s.length≤y.n.toNat then s.length else y.n.toNat:=by split <;> omega
   have w3:IntKind.i64.wrap (0+((min y.n.toNat s.length:Nat):Int))=((min y.n.toNat s.length:Nat):Int):=by rw[Int.zero_add];exact wrapI (by omega)
   rw[if_neg (by decide),if_neg (by decide),show s.take y.n.toNat=s.take (min y.n.toNat s.length) by rw[List.take_eq_take_min]]
   generalize min y.n.toNat s.length=m at *
   have hml:(m:Int)≤(s.length:Int):=by omega
   have c2:FnP Tryz.prog (wG gl) 61 [.str ((s.take ((m:Nat):Int).toNat).drop (0:Int).toNat)] (vlD 2 0 (s.take m)):=Of_d _
   ((repeat' ((conv=>whnf);first|exact .intro|refine G ?_|intro _|refine C1 c2 ?_|(first|rw[w1]|rw[w2]|rw[w3]|refine ⟨⟨by decide,by decide⟩,?_⟩|refine ⟨_,g4,?_⟩|refine ⟨⟨Int.le_refl _,Int.natCast_nonneg _,hml⟩,?_⟩)|refine .mk ?_ ?_|refine H ?_|fail));all_goals conv=>whnf)
   all_goals exact LeD.rfl
theorem text_right {v u:Vl} (hv:v.ok) (hu:u.ok):FnP Tryz.prog (wG gl) 118 [.str nRIGHT,.lst 3 [vlR' v,vlR' u]] (textV nRIGHT [v,u]).d:=by
 have e:textV nRIGHT [v,u]=if (numV u).k=4 then numV u else cutV nRIGHT (showV v) (numV u).n (numV wrV).n:=text_cut1 (by simp) v u
 have c1:=shoC te pe hV hv
 have n1:=numC te pe hV hu
 have hsl:=showV_len hv
 have hy:=numV_ok hu
 rw[e]
 generalize numV u=y at *
 generalize showV v=s at *
 have n2:FnP Tryz.prog (wG gl) 107 [y.d] (.b (y.k=4) inferInstance):=bad_d
 have g1:([vlR' v,vlR' u]:List (List D))[(0:Int).toNat]?=some [iD v.k,iD v.n,.str v.s]:=rfl
 have g3:([vlR' u]:List (List D))[((0:Nat):Int).toNat]?=some [iD u.k,iD u.n,.str u.s]:=rfl
 have hyn:=hy.1.2
 have b1:(0+1) * 8≤140737488355328:=by decide
 have b2:0+1≤maxLen:=by unfold maxLen;omega
 refine S0 Tryz.func118 rfl ?_
 ((repeat' ((conv=>whnf);first|exact .intro|refine G ?_|intro _|refine C1 c1 ?_|(first|refine ⟨Int.le_refl _,_,g1,?_⟩|refine ⟨⟨by decide,by decide,by decide⟩,?_⟩)|refine .mk ?_ ?_|refine H ?_|fail));all_goals conv=>whnf)
 refine ⟨{ σ:=Nat,fr:=fun k=>[(57,.c (.d (iD (k:Int)))),(7,.c (.all 1 1))],ks:=[],L:=fun k=>[(1,.rows 1 (([iR y.n]:List (List D)).take k) 3)],ex:=1,I:=fun k=>k≤1∧(0<k→¬ y.k=4),μ:=fun k=>1 - k },⟨0,⟨Nat.zero_le _,fun h=>absurd h (Nat.lt_irrefl 0)⟩,?_⟩,fun (k:Nat) hk=>?_⟩
 ·((repeat' first|exact rfl|((conv=>whnf);first|done|exact suL|refine And.intro ?_ ?_|fail));all_goals conv=>whnf)
  all_goals first|exact .inr (.inr (.inl ⟨rfl,1,1,rfl,by decide⟩))|exact ⟨1,_,rfl,by decide,by decide⟩|skip
 ·obtain ⟨hk,hkb⟩:=hk
  by_cases hlt:k<1
  ·obtain rfl:k=0:=by omega
   have e0:=wx (x:=0) (by omega)
   by_cases h4:y.k=4
   ·rw[if_pos h4]
    ((repeat' ((conv=>whnf);first|exact .intro|refine G ?_|intro _|refine C1 n1 ?_|refine C1 n2 ?_|(first|refine ⟨Int.natCast_nonneg _,_,g3,?_⟩)|refine .mk ?_ ?_|refine H ?_|fail));all_goals conv=>whnf)
    all_goals exact LeD.rfl
   ·((repeat' ((conv=>whnf);first|exact .intro|refine G ?_|intro _|refine C1 n1 ?_|refine C1 n2 ?_|(first|refine ⟨Int.natCast_nonneg _,_,g3,?_⟩|refine ⟨⟨rfl,b1,b2⟩,?_⟩)|refine .mk ?_ ?_|refine H ?_|fail));all_goals conv=>whnf)
    all_goals refine ⟨1,⟨⟨Nat.le_refl 1,fun _=>h4⟩,show 1 - 1<1 - 0 by decide⟩,?_⟩
    all_goals ((repeat' first|exact rfl|((conv=>whnf);first|done|exact suL|refine And.intro ?_ ?_|fail));all_goals conv=>whnf)
    all_goals first|exact ceq e0|skip
  ·obtain rfl:k=1:=by omega
   have h4:=hkb (by decide)
   rw[if_neg h4]
   unfold cutV
   rw[if_neg (by decide)]
   have g4:(([iR y.n]:List (List D)).take 1)[(0:Int).toNat]?=some [iD y.n]:=rfl
   by_cases h0:y.n<0
   ·rw[if_pos h0]
    ((repeat' ((conv=>whnf);first|exact .intro|refine G ?_|intro _|(first|refine ⟨⟨by decide,by decide⟩,?_⟩|refine ⟨_,g4,?_⟩)|refine .mk ?_ ?_|refine H ?_|fail));all_goals conv=>whnf)
    all_goals exact LeD.rfl
   rw[if_neg h0]
   have w1:IntKind.i64.wrap ((s.length:Int) - 0)=(s.length:Int):=by rw[Int.sub_zero];exact wrapI (by omega)
   have w2:(if (s.length:Int)<y.n then (s.length:Int) else y.n)=((min y.n.toNat s.length:Nat):Int):=by split <;> omega
   have hmm:min y.n.toNat s.length≤s.length:=Nat.min_le_right _ _
   have hmn:min y.n.toNat s.length=if s.length≤y.n.toNat then s.length else y.n.toNat:=by split <;> omega
   have w3:IntKind.i64.wrap ((s.length:Int) - ((min y.n.toNat s.length:Nat):Int))=((s.length - min y.n.toNat s.length:Nat):Int):=by rw[wrapI (by omega)];omega
   rw[if_pos rfl,show s.length - y.n.toNat=s.length - min y.n.toNat s.length by omega]
   generalize min y.n.toNat s.length=m at *
   have hdt:(s.take (s.length:Int).toNat).drop ((s.length - m:Nat):Int).toNat=s.drop (s.length - m):=by rw[Int.toNat_natCast,Int.toNat_natCast,List.take_length]
   have c2:FnP Tryz.prog (wG gl) 61 [.str ((s.take (s.length:Int).toNat).drop ((s.length - m:Nat):Int).toNat)] (vlD 2 0 (s.drop (s.length - m))):=by rw[hdt];exact Of_d _
   ((repeat' ((conv=>whnf);first|exact .intro|refine G ?_|intro _|refine C1 c2 ?_|(first|rw[w1]|rw[w2]|rw[w3]|refine ⟨⟨by decide,by decide⟩,?_⟩|refine ⟨_,g4,?_⟩|refine ⟨⟨Int.natCast_nonneg _,by omega,Int.le_refl _⟩,?_⟩)|refine .mk ?_ ?_|refine H ?_|fail));all_goals conv=>whnf)
   all_goals exact LeD.rfl
theorem text_rept {v u:Vl} (hv:v.ok) (hu:u.ok):FnP Tryz.prog (wG gl) 118 [.str nREPT,.lst 3 [vlR' v,vlR' u]] (textV nREPT [v,u]).d:=by
 have e:textV nREPT [v,u]=if (numV u).k=4 then numV u else cutV nREPT (showV v) (numV u).n (numV wrV).n:=text_cut1 (by simp) v u
 have c1:=shoC te pe hV hv
 have n1:=numC te pe hV hu
 have hsl:=showV_len hv
 have hy:=numV_ok hu
 rw[e]
 generalize numV u=y at *
 generalize showV v=s at *
 have n2:FnP Tryz.prog (wG gl) 107 [y.d] (.b (y.k=4) inferInstance):=bad_d
 have g1:([vlR' v,vlR' u]:List (List D))[(0:Int).toNat]?=some [iD v.k,iD v.n,.str v.s]:=rfl
 have g3:([vlR' u]:List (List D))[((0:Nat):Int).toNat]?=some [iD u.k,iD u.n,.str u.s]:=rfl
 have hyn:=hy.1.2
 have b1:(0+1) * 8≤140737488355328:=by decide
 have b2:0+1≤maxLen:=by unfold maxLen;omega
 refine S0 Tryz.func118 rfl ?_
 ((repeat' ((conv=>whnf);first|exact .intro|refine G ?_|intro _|refine C1 c1 ?_|(first|refine ⟨Int.le_refl _,_,g1,?_⟩|refine ⟨⟨by decide,by decide,by decide⟩,?_⟩)|refine .mk ?_ ?_|refine H ?_|fail));all_goals conv=>whnf)
 refine ⟨{ σ:=Nat,fr:=fun k=>[(57,.c (.d (iD (k:Int)))),(7,.c (.all 1 1))],ks:=[],L:=fun k=>[(1,.rows 1 (([iR y.n]:List (List D)).take k) 3)],ex:=1,I:=fun k=>k≤1∧(0<k→¬ y.k=4),μ:=fun k=>1 - k },⟨0,⟨Nat.zero_le _,fun h=>absurd h (Nat.lt_irrefl 0)⟩,?_⟩,fun (k:Nat) hk=>?_⟩
 ·((repeat' first|exact rfl|((conv=>whnf);first|done|exact suL|refine And.intro ?_ ?_|fail));all_goals conv=>whnf)
  all_goals first|exact .inr (.inr (.inl ⟨rfl,1,1,rfl,by decide⟩))|exact ⟨1,_,rfl,by decide,by decide⟩|skip
 ·obtain ⟨hk,hkb⟩:=hk
  by_cases hlt:k<1
  ·obtain rfl:k=0:=by omega
   have e0:=wx (x:=0) (by omega)
   by_cases h4:y.k=4
   ·rw[if_pos h4]
    ((repeat' ((conv=>whnf);first|exact .intro|refine G ?_|intro _|refine C1 n1 ?_|refine C1 n2 ?_|(first|refine ⟨Int.natCast_nonneg _,_,g3,?_⟩)|refine .mk ?_ ?_|refine H ?_|fail));all_goals conv=>whnf)
    all_goals exact LeD.rfl
   ·((repeat' ((conv=>whnf);first|exact .intro|refine G ?_|intro _|refine C1 n1 ?_|refine C1 n2 ?_|(first|refine ⟨Int.natCast_nonneg _,_,g3,?_⟩|refine ⟨⟨rfl,b1,b2⟩,?_⟩)|refine .mk ?_ ?_|refine H ?_|fail));all_goals conv=>whnf)
    all_goals refine ⟨1,⟨⟨Nat.le_refl 1,fun _=>h4⟩,show 1 - 1<1 - 0 by decide⟩,?_⟩
    all_goals ((repeat' first|exact rfl|((conv=>whnf);first|done|exact suL|refine And.intro ?_ ?_|fail));all_goals conv=>whnf)
    all_goals first|exact ceq e0|skip
  ·obtain rfl:k=1:=by omega
   have h4:=hkb (by decide)
   rw[if_neg h4]
   unfold cutV
   rw[if_neg (by decide)]
   have g4:(([iR y.n]:List (List D)).take 1)[(0:Int).toNat]?=some [iD y.n]:=rfl
   by_cases h0:y.n<0
   ·rw[if_pos h0]
    ((repeat' ((conv=>whnf);first|exact .intro|refine G ?_|intro _|(first|refine ⟨⟨by decide,by decide⟩,?_⟩|refine ⟨_,g4,?_⟩)|refine .mk ?_ ?_|refine H ?_|fail));all_goals conv=>whnf)
    all_goals exact LeD.rfl
   rw[if_neg h0]
   have w1:IntKind.i64.wrap ((s.length:Int) - 0)=(s.length:Int):=by rw[Int.sub_zero];exact wrapI (by omega)
   have w2:(if (s.length:Int)<y.n then (s.length:Int) else y.n)=((min y.n.toNat s.length:Nat):Int):=by split <;> omega
   have hmm:min y.n.toNat s.length≤s.length:=Nat.min_le_right _ _
   have hmn:min y.n.toNat s.length=if s.length≤y.n.toNat then s.length else y.n.toNat:=by split <;> omega
   rw[if_neg (by decide),if_pos rfl]
   have c3:=Of_d (gl:=wG gl) []
   by_cases hs0:s=[]
   ·rw[if_pos hs0]
    have q0:¬ (0:Int)<(s.length:Int):=by rw[hs0];decide
    have q1:(s.length:Int)=0:=by rw[hs0];rfl
    ((repeat' ((conv=>whnf);first|exact .intro|refine G ?_|intro _|refine C1 c3 ?_|(first|rw[w1]|rw[w2]|refine ⟨⟨by decide,by decide⟩,?_⟩|refine ⟨_,g4,?_⟩)|refine .mk ?_ ?_|refine H ?_|fail));all_goals conv=>whnf)
    all_goals exact LeD.rfl
   rw[if_neg hs0]
   have hp:0<s.length:=List.length_pos_iff.2 hs0
   have q0:(0:Int)<(s.length:Int):=by omega
   have q1:¬ (s.length:Int)=0:=by omega
   have hq:(200:Int).tdiv (s.length:Int)=200 / (s.length:Int):=Int.tdiv_eq_ediv_of_nonneg (by decide)
   have hqb:0≤200 / (s.length:Int)∧200 / (s.length:Int)≤200:=⟨Int.ediv_nonneg (by decide) (by omega),Int.ediv_le_self _ (by decide)⟩
   have w4:IntKind.i64.wrap ((200:Int).tdiv (s.length:Int))=200 / (s.length:Int):=by rw[hq];exact wrapI (by omega)
   generalize (200:Int) / (s.length:Int)=q at *
   by_cases hb:q<y.n
   ·rw[if_pos hb]
    ((repeat' ((conv=>whnf);first|exact .intro|refine G ?_|intro _|refine C1 c3 ?_|(first|rw[w1]|rw[w2]|rw[w4]|refine ⟨⟨by decide,by decide⟩,?_⟩|refine ⟨_,g4,?_⟩)|refine .mk ?_ ?_|refine H ?_|fail));all_goals conv=>whnf)
    all_goals exact LeD.rfl
   ·rw[if_neg hb]
    have c4:=Repeat_d (gl:=wG gl) s y.n (by omega) (by omega) hsl
    have c5:=Of_d (gl:=wG gl) (List.replicate y.n.toNat s).flatten
    generalize (List.replicate y.n.toNat s).flatten=r at *
    ((repeat' ((conv=>whnf);first|exact .intro|refine G ?_|intro _|refine C1 c4 ?_|refine C1 c5 ?_|(first|rw[w1]|rw[w2]|rw[w4]|refine ⟨⟨by decide,by decide⟩,?_⟩|refine ⟨_,g4,?_⟩)|refine .mk ?_ ?_|refine H ?_|fail));all_goals conv=>whnf)
    all_goals exact LeD.rfl
theorem text_mid {v u x:Vl} (hv:v.ok) (hu:u.ok) (hx:x.ok):FnP Tryz.prog (wG gl) 118 [.str nMID,.lst 3 [vlR' v,vlR' u,vlR' x]] (textV nMID [v,u,x]).d:=by
 have e:=text_cut2 v u x
 have c1:=shoC te pe hV hv
 have n1:=numC te pe hV hu
 have n3:=numC te pe hV hx
 have hsl:=showV_len hv
 have hy:=numV_ok hu
 have hz:=numV_ok hx
 rw[e]
 generalize numV u=y at *
 generalize numV x=z at *
 generalize showV v=s at *
 have n2:FnP Tryz.prog (wG gl) 107 [y.d] (.b (y.k=4) inferInstance):=bad_d
 have n4:FnP Tryz.prog (wG gl) 107 [z.d] (.b (z.k=4) inferInstance):=bad_d
 have g1:([vlR' v,vlR' u,vlR' x]:List (List D))[(0:Int).toNat]?=some [iD v.k,iD v.n,.str v.s]:=rfl
 have g3:([vlR' u,vlR' x]:List (List D))[((0:Nat):Int).toNat]?=some [iD u.k,iD u.n,.str u.s]:=rfl
 have g5:([vlR' u,vlR' x]:List (List D))[((1:Nat):Int).toNat]?=some [iD x.k,iD x.n,.str x.s]:=rfl
 have hyn:=hy.1.2
 have b1:(0+1) * 8≤140737488355328:=by decide
 have b2:0+1≤maxLen:=by unfold maxLen;omega
 have hzn:=hz.1.2
 refine S0 Tryz.func118 rfl ?_
 ((repeat' ((conv=>whnf);first|exact .intro|refine G ?_|intro _|refine C1 c1 ?_|(first|refine ⟨Int.le_refl _,_,g1,?_⟩|refine ⟨⟨by decide,by decide,by decide⟩,?_⟩)|refine .mk ?_ ?_|refine H ?_|fail));all_goals conv=>whnf)
 refine ⟨{ σ:=Nat,fr:=fun k=>[(57,.c (.d (iD (k:Int)))),(7,.c (.all 1 1))],ks:=[],L:=fun k=>[(1,.rows 1 (([iR y.n,iR z.n]:List (List D)).take k) 3)],ex:=1,I:=fun k=>k≤2∧(0<k→¬ y.k=4)∧(1<k→¬ z.k=4),μ:=fun k=>2 - k },⟨0,⟨Nat.zero_le _,fun h=>absurd h (Nat.lt_irrefl 0),fun h=>absurd h (Nat.not_lt_zero 1)⟩,?_⟩,fun (k:Nat) hk=>?_⟩
 ·((repeat' first|exact rfl|((conv=>whnf);first|done|exact suL|refine And.intro ?_ ?_|fail));all_goals conv=>whnf)
  all_goals first|exact .inr (.inr (.inl ⟨rfl,1,1,rfl,by decide⟩))|exact ⟨1,_,rfl,by decide,by decide⟩|skip
 ·obtain ⟨hk,hkb,hkc⟩:=hk
  by_cases hlt:k<1
  ·obtain rfl:k=0:=by omega
   have e0:=wx (x:=0) (by omega)
   by_cases h4:y.k=4
   ·rw[if_pos h4]
    ((repeat' ((conv=>whnf);first|exact .intro|refine G ?_|intro _|refine C1 n1 ?_|refine C1 n2 ?_|(first|refine ⟨Int.natCast_nonneg _,_,g3,?_⟩)|refine .mk ?_ ?_|refine H ?_|fail));all_goals conv=>whnf)
    all_goals exact LeD.rfl
   ·((repeat' ((conv=>whnf);first|exact .intro|refine G ?_|intro _|refine C1 n1 ?_|refine C1 n2 ?_|(first|refine ⟨Int.natCast_nonneg _,_,g3,?_⟩|refine ⟨⟨rfl,b1,b2⟩,?_⟩)|refine .mk ?_ ?_|refine H ?_|fail));all_goals conv=>whnf)
    all_goals refine ⟨1,⟨⟨show 1≤2 by decide,fun _=>h4,fun h=>absurd h (Nat.lt_irrefl 1)⟩,show 2 - 1<2 - 0 by decide⟩,?_⟩
    all_goals ((repeat' first|exact rfl|((conv=>whnf);first|done|exact suL|refine And.intro ?_ ?_|fail));all_goals conv=>whnf)
    all_goals first|exact ceq e0|skip
  by_cases hlt1:k<2
  ·obtain rfl:k=1:=by omega
   have h4:=hkb (by decide)
   rw[if_neg h4]
   have e0:=wx (x:=1) (by omega)
   have b1:(1+1) * 8≤140737488355328:=by decide
   have b2:1+1≤maxLen:=by unfold maxLen;omega
   by_cases h5:z.k=4
   ·rw[if_pos h5]
    ((repeat' ((conv=>whnf);first|exact .intro|refine G ?_|intro _|refine C1 n3 ?_|refine C1 n4 ?_|(first|refine ⟨Int.natCast_nonneg _,_,g5,?_⟩)|refine .mk ?_ ?_|refine H ?_|fail));all_goals conv=>whnf)
    all_goals exact LeD.rfl
   ·((repeat' ((conv=>whnf);first|exact .intro|refine G ?_|intro _|refine C1 n3 ?_|refine C1 n4 ?_|(first|refine ⟨Int.natCast_nonneg _,_,g5,?_⟩|refine ⟨⟨rfl,b1,b2⟩,?_⟩)|refine .mk ?_ ?_|refine H ?_|fail));all_goals conv=>whnf)
    all_goals refine ⟨2,⟨⟨Nat.le_refl 2,fun _=>h4,fun _=>h5⟩,show 2 - 2<2 - 1 by decide⟩,?_⟩
    all_goals ((repeat' first|exact rfl|((conv=>whnf);first|done|exact suL|refine And.intro ?_ ?_|fail));all_goals conv=>whnf)
    all_goals first|exact ceq e0|skip
  ·obtain rfl:k=2:=by omega
   have h4:=hkb (by decide)
   have h5:=hkc (by decide)
   rw[if_neg h4,if_neg h5]
   unfold cutV
   rw[if_pos rfl]
   have g4:(([iR y.n,iR z.n]:List (List D)).take 2)[(0:Int).toNat]?=some [iD y.n]:=rfl
   have g6:(([iR y.n,iR z.n]:List (List D)).take 2)[1+(0:Int).toNat]?=some [iD z.n]:=rfl
   by_cases h0:y.n<1
   ·rw[if_pos h0]
    ((repeat' ((conv=>whnf);first|exact .intro|refine G ?_|intro _|(first|refine ⟨⟨by decide,by decide⟩,?_⟩|refine ⟨_,g4,?_⟩)|refine .mk ?_ ?_|refine H ?_|fail));all_goals conv=>whnf)
    all_goals exact LeD.rfl
   rw[if_neg h0]
   have w0:IntKind.i64.wrap (y.n - 1)=y.n - 1:=wrapI (by unfold okI at hyn;omega)
   have w1:(if (s.length:Int)<y.n - 1 then (s.length:Int) else y.n - 1)=((min (y.n - 1).toNat s.length:Nat):Int):=by split <;> omega
   have hf:min (y.n - 1).toNat s.length≤s.length:=Nat.min_le_right _ _
   by_cases h6:z.n<0
   ·rw[if_pos h6]
    ((repeat' ((conv=>whnf);first|exact .intro|refine G ?_|intro _|(first|rw[w0]|rw[w1]|refine ⟨⟨by decide,by decide⟩,?_⟩|refine ⟨_,g4,?_⟩|refine ⟨_,g6,?_⟩|refine ⟨⟨by decide,by decide,by decide⟩,?_⟩)|refine .mk ?_ ?_|refine H ?_|fail));all_goals conv=>whnf)
    all_goals exact LeD.rfl
   rw[if_neg h6,show (s.drop (y.n - 1).toNat).take z.n.toNat=(s.take (min (y.n - 1).toNat s.length+min z.n.toNat (s.length - min (y.n - 1).toNat s.length))).drop (min (y.n - 1).toNat s.length) by
    by_cases hl:(y.n - 1).toNat≤s.length
    ·rw[Nat.min_eq_left hl,List.drop_take,Nat.add_sub_cancel_left,List.take_eq_take_min,List.length_drop]
    ·rw[Nat.min_eq_right (by omega),List.drop_of_length_le (by omega),List.take_nil,List.drop_of_length_le (by rw[List.length_take];omega)]]
   generalize min (y.n - 1).toNat s.length=f at *
   have w2:IntKind.i64.wrap ((s.length:Int) - (f:Int))=((s.length - f:Nat):Int):=by rw[wrapI (by omega)];omega
   have w3:(if ((s.length - f:Nat):Int)<z.n then ((s.length - f:Nat):Int) else z.n)=((min z.n.toNat (s.length - f):Nat):Int):=by split <;> omega
   have hm2:min z.n.toNat (s.length - f)≤s.length - f:=Nat.min_le_right _ _
   generalize min z.n.toNat (s.length - f)=m at *
   have w4:IntKind.i64.wrap ((f:Int)+(m:Int))=((f+m:Nat):Int):=by rw[wrapI (by omega)];omega
   have hf1:(f:Int)≤((f+m:Nat):Int):=by omega
   have hf2:((f+m:Nat):Int)≤(s.length:Int):=by omega
   have c2:FnP Tryz.prog (wG gl) 61 [.str ((s.take ((f+m:Nat):Int).toNat).drop ((f:Nat):Int).toNat)] (vlD 2 0 ((s.take (f+m)).drop f)):=Of_d _
   ((repeat' ((conv=>whnf);first|exact .intro|refine G ?_|intro _|refine C1 c2 ?_|(first|rw[w0]|rw[w1]|rw[w2]|rw[w3]|rw[w4]|refine ⟨⟨by decide,by decide⟩,?_⟩|refine ⟨_,g4,?_⟩|refine ⟨_,g6,?_⟩|refine ⟨⟨by decide,by decide,by decide⟩,?_⟩|refine ⟨⟨Int.natCast_nonneg _,hf1,hf2⟩,?_⟩)|refine .mk ?_ ?_|refine H ?_|fail));all_goals conv=>whnf)
   all_goals exact LeD.rfl
end
end Go.Proofs.YtfkjhfdpphfjhaaGreatDoor
