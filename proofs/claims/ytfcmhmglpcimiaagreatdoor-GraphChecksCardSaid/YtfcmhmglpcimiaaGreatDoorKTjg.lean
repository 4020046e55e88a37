/- Proved: a part of what the law is proved with (the reckoner, contracts of functions, plain laws). Conditions: as each says. -/
import Derived.Test.YtfcmhmglpcimiaaGreatDoorKTjf
section
namespace Go.Proofs.YtfcmhmglpcimiaaGreatDoor
open Go Go.RowKit Go.EYtfcmhmglpcimiaaGreatDoor
set_option maxRecDepth 100000
set_option maxHeartbeats 400000000
variable {gl:List (Nat×List D)}
abbrev cellsR (l:List Cl):List (List Go.EYtfcmhmglpcimiaaGreatDoor.D):=l.map rowC
abbrev partR (p:List Cl):List Go.EYtfcmhmglpcimiaaGreatDoor.D:=[.lst 2 (cellsR p)]
abbrev frR (f:Cl×Nat):List Go.EYtfcmhmglpcimiaaGreatDoor.D:=[iD f.1.1,iD f.1.2,nD f.2]
structure Nt where
 V:List Cl
 tx:List (List UInt8)
 nK:List Go.EYtfcmhmglpcimiaaGreatDoor.D
 nV:List Go.EYtfcmhmglpcimiaaGreatDoor.D
 oK:List Cl
 on:Cl→List Cl
abbrev Nt.g (t:Nt):Gr:=⟨t.on,fun c=>decide (c ∈ t.V)⟩
abbrev onV (t:Nt):List Go.EYtfcmhmglpcimiaaGreatDoor.D:=t.oK.map fun c=>.lst 2 (cellsR (t.on c))
structure NtOk (t:Nt):Prop where
 nd:t.V.Nodup
 len:t.V.length≤200
 tl:t.tx.length=t.V.length
 on:∀ c,c ∉ t.oK→t.on c=[]
 ol:∀ c,(t.on c).length≤2700
abbrev netB (pc:C):Blk:=.var [.all 2 1,.mref 2,.mref 3,.mref 4,pc,.mref 5] 77
abbrev ntH (t:Nt):List (Nat×Blk):=[(0,netB (.d (.v (.slice none 0 0)))),(1,.rows 2 (cellsR t.V) 39),(2,.mp (ksD t.V) (t.tx.map Go.EYtfcmhmglpcimiaaGreatDoor.D.str)),(3,.mp t.nK t.nV),(4,.mp (ksD t.oK) (onV t)),(5,.mp [] [])]
def ofT (Q:List (List Cl)) (a:Nat):List Go.EYtfcmhmglpcimiaaGreatDoor.D:=(List.range a).flatMap fun i=>(Q.getD i []).map fun _=>nD i
theorem ofT_s {Q:List (List Cl)} {a:Nat} (h:a<Q.length):ofT Q (a+1)=ofT Q a++Q[a].map fun _=>nD a:=by
 unfold ofT
 rw[List.range_succ,List.flatMap_append,List.flatMap_singleton,List.getD_eq_getElem?_getD,List.getElem?_eq_getElem h]
 rfl
abbrev ntH' (t:Nt) (Q:List (List Cl)):List (Nat×Blk):=[(0,netB (.all 1 14)),(1,.rows 2 (cellsR t.V) 39),(2,.mp (ksD t.V) (t.tx.map Go.EYtfcmhmglpcimiaaGreatDoor.D.str)),(3,.mp t.nK t.nV),(4,.mp (ksD t.oK) (onV t)),(5,.mp (ksD Q.flatten) (ofT Q Q.length)),(14,.rows 1 (Q.map partR) 31)]
abbrev tjL (s:TS) (R:List Cl):List (Nat×Blk):=[(0,netB (.all 1 14)),(6,.mp (ksD s.D) (numD s.D)),(7,.mp (ksD s.D) (lowD s.D s.low)),(10,.var [.own 2 13 0 s.S.length] 31),(11,.mp (ksD s.D) (onD s.D s.S)),(13,.rows 2 (cellsR (s.S++R)) 39),(14,.rows 1 (s.P.map partR) 31)]
abbrev tjM (s:TS) (R:List Cl) (T:List (Cl×Nat)):List (Nat×Blk):=[(6,.mp (ksD s.D) (numD s.D)),(7,.mp (ksD s.D) (lowD s.D s.low)),(10,.var [.own 2 13 0 s.S.length] 31),(11,.mp (ksD s.D) (onD s.D s.S)),(13,.rows 2 (cellsR (s.S++R)) 39),(14,.rows 1 (s.P.map partR) 31),(16,.rows 3 ((s.F++T).map frR) 138)]
theorem fr_set (F0:List (Cl×Nat)) (f:Cl) (k:Nat) (T:List (Cl×Nat)):((F0++[(f,k)]++T).map frR).set (0+(((F0.length:Nat):Int)).toNat) [iD f.1,iD f.2,nD (k+1)]=(F0++[(f,k+1)]++T).map frR:=by
 rw[show 0+(((F0.length:Nat):Int)).toNat=F0.length by omega,List.map_append,List.map_append,List.map_append,List.map_append,List.append_assoc,List.append_assoc,List.set_append_right _ _ (by rw[List.length_map];exact Nat.le_refl _),List.length_map,Nat.sub_self]
 rfl
theorem cqN {x y:Int} (h:x=y) {P:Prop}:C.d (iD y)=C.junk∨C.d (iD x)=C.d (iD y)∨P:=.inr (.inl (congrArg (fun z=>C.d (iD z)) h))
theorem wN {i:Nat} (h:i≤1099511627776):IntKind.i64.wrap ((i:Int)+1)=((i+1:Nat):Int):=by rw[wrapI (by omega)];rfl
theorem onD_off {D S0 L:List Cl} (hD:D.Nodup) (hS:(S0++L).Nodup) {j:Nat} (hj:j<L.length) (hc:L[j] ∈ D):(onD D (S0++L.drop j)).set (D.idxOf L[j]) (.v (.bool false))=onD D (S0++L.drop (j+1)):=by
 unfold onD
 rw[map_upd hD hc]
 refine List.map_congr_left fun c _=>?_
 have e:L.drop j=L[j]::L.drop (j+1):=List.drop_eq_getElem_cons hj
 by_cases h:c=L[j]
 ·rw[if_pos h]
  have h1:c ∉ S0++L.drop (j+1):=fun hh=>by
   have h2:(S0++L.drop j).Nodup:=hS.sublist ((List.Sublist.refl _).append (List.drop_sublist _ _))
   rw[e] at h2
   obtain ⟨_,h3,h4⟩:=List.nodup_append.1 h2
   rcases List.mem_append.1 hh with h5|h5
   ·exact h4 c h5 (L[j]'hj) (List.mem_cons.2 (.inl rfl)) h
   ·rw[h] at h5
    exact (List.nodup_cons.1 h3).1 h5
  rw[decide_eq_false h1]
 ·rw[if_neg h,e]
  have h1:c ∈ S0++L[j]::L.drop (j+1)↔c ∈ S0++L.drop (j+1):=by
   rw[List.mem_append,List.mem_append,List.mem_cons]
   exact ⟨fun hh=>hh.elim .inl fun hh=>hh.elim (fun e=>absurd e h) .inr,fun hh=>hh.elim .inl fun hh=>.inr (.inr hh)⟩
  by_cases h2:c ∈ S0++L.drop (j+1)
  ·rw[decide_eq_true h2,decide_eq_true (h1.2 h2)]
  ·rw[decide_eq_false h2,decide_eq_false fun hh=>h2 (h1.1 hh)]
theorem part_h (t:Nt) (ht:NtOk t) (srt:List Cl→List Cl) (hsm:∀ l c,c ∈ srt l↔c ∈ l) (hss:∀ l,l.Nodup→(srt l).Pairwise les) (sr2:List (List Cl)→List (List Cl)) (hs2:∀ P,(sr2 P).Perm P) (hr2:∀ P,(P.Pairwise fun p q=>∀ c ∈ p,c ∉ q)→(∀ p ∈ P,p≠[])→(sr2 P).Pairwise headLes)
 (cI:∀ (l:List Cl) (c:Cl),c ∈ l→l.length≤65536→FnP Tryz.prog gl 65 [.lst 2 (cellsR l),kC c] (nD (l.idxOf c)))
 (cC:∀ (l:List Cl) (a m:Nat),a+m≤l.length→0<m→m≤65536→Go.EYtfcmhmglpcimiaaGreatDoor.Fn Tryz.prog gl 66 [.c (.own 2 0 a m)] [(0,.rows 2 (cellsR l) 39)] 1 (.ret (.c (.all 2 1))) [(0,.rows 2 (cellsR l) 39),(1,.rows 2 (((cellsR l).drop a).take m) 39)] 2 [])
 (cS:∀ m:List Cl,m.length≤65536→Go.EYtfcmhmglpcimiaaGreatDoor.Fn Tryz.prog gl 62 [.c (.all 2 0),.c (.fn 30 [])] [(0,.rows 2 (cellsR m) 39)] 1 (.ret (.tup [])) [(0,.rows 2 (cellsR (srt m)) 39)] 1 [])
 (cP:∀ P:List (List Cl),(∀ p ∈ P,p≠[])→(P.Pairwise fun p q=>∀ c ∈ p,c ∉ q)→P.length≤65536→Go.EYtfcmhmglpcimiaaGreatDoor.Fn Tryz.prog gl 67 [.c (.all 1 0),.c (.fn 68 [])] [(0,.rows 1 (P.map partR) 31)] 1 (.ret (.tup [])) [(0,.rows 1 ((sr2 P).map partR) 31)] 1 []):Go.EYtfcmhmglpcimiaaGreatDoor.Fn Tryz.prog gl 39 [.c (.ptr 0 0)] (ntH t) 6 (.ret (.tup [])) (ntH' t (partsZ t.g t.V)) 15 []:=by
 have hvl:(cellsR t.V).length=t.V.length:=List.length_map _
 have hlen:=ht.len
 refine fn_of_vc (nv:=44) (cu:=[13,20,22,25]) fits mixed Tryz.func39 rfl hoB rfl rfl rfl rfl ?_
 ((repeat' ((conv=>whnf);first|exact .intro|refine .ya ?_|refine .na ?_|refine .ys ?_|refine .ns ?_|refine .neg (fun _=>?_) (fun _=>?_)|refine .mk (fun _=>?_) (fun _=>?_)|refine .mk ?_ ?_|refine AK ?_|refine AT ?_|fail));all_goals conv=>whnf)
 refine ⟨{ σ:=Nat×TS×List Cl,fr:=fun i=>[(33,.c (.d (nD i.1)))],ks:=[0,6,7,10,11],L:=fun i=>tjL i.2.1 i.2.2,ex:=2,I:=fun i=>i.1≤t.V.length∧Inv t.g i.2.1∧i.2.1.F=[]∧∀ j,(h:j<t.V.length)→j<i.1→t.V[j] ∈ i.2.1.D,μ:=fun i=>t.V.length - i.1 },⟨(0,⟨[],[],[],[],fun _=>0⟩,[]),⟨Nat.zero_le _,inv_0 _,rfl,fun j h hj=>nomatch hj⟩,?_⟩,fun (i:Nat×TS×List Cl) hi=>?_⟩
 ·((repeat' first|exact rfl|((conv=>whnf);first|done|exact suL|refine And.intro ?_ ?_|fail));all_goals conv=>whnf)
  all_goals first|exact .inr (.inr (.inr rfl))|exact ⟨2,_,rfl,by decide,by decide⟩|exact ⟨1,_,rfl,by decide,by decide⟩|skip
 obtain ⟨i,s,R⟩:=i
 obtain ⟨hi,hI,hF,hall⟩:=hi
 replace hi:i≤t.V.length:=hi
 replace hI:Inv t.g s:=hI
 obtain ⟨D,S,F,P,low⟩:=s
 obtain rfl:F=[]:=hF
 obtain rfl:S=[]:=hI.none rfl
 by_cases hlt:i<t.V.length
 ·have h3:(i:Int)<(((cellsR t.V).length:Nat):Int):=by omega
  have g1:=get_map (f:=rowC) hlt
  have e0:=wN (i:=i) (by omega)
  have hxV:t.V[i] ∈ t.V:=List.getElem_mem hlt
  generalize hxx:t.V[i]=x at g1 hxV
  by_cases hx:x ∈ D
  ·have hk:=kC_mem.2 hx
   have g2:=ksD_get hx
   have g3:=numD_get hx
   have h5:(0:Int)<((num D x:Nat):Int):=by have:=num_pos.2 hx;omega
   ((repeat' ((conv=>whnf);first|exact .intro|refine .ya ?_|refine .na ?_|refine .ys ?_|refine .ns ?_|refine .neg (fun _=>?_) (fun _=>?_)|refine .mk (fun _=>?_) (fun _=>?_)|(first|refine ⟨_,g1,?_⟩|refine ⟨3,⟨key_cell,rfl,keys_T _⟩,by kernel_rfl,.inl ⟨_,_,⟨g2,g3⟩,?_⟩⟩)|refine .mk ?_ ?_|refine AK ?_|refine AT ?_|fail));all_goals conv=>whnf)
   all_goals refine ⟨(i+1,⟨D,[],[],P,low⟩,R),⟨⟨hlt,hI,rfl,fun j h hj=>(Nat.lt_succ_iff_lt_or_eq.1 hj).elim (hall j h) fun e=>by subst e;rw[hxx];exact hx⟩,by show t.V.length - (i+1)<t.V.length - i;omega⟩,?_⟩
   all_goals ((repeat' first|exact rfl|((conv=>whnf);first|done|exact suL|refine And.intro ?_ ?_|fail));all_goals conv=>whnf)
   all_goals first|exact cqN e0|skip
  ·have hk:kC x ∉ ksD D:=fun h=>hx (kC_mem.1 h)
   have hDl:D.length≤200:=Nat.le_trans (nodup_len hI.dn fun c hc=>by simpa using hI.dh c hc) ht.len
   have c1:=enter_h (gl:=gl) D [] R low x hx (by omega) (Nat.zero_le _)
   ((repeat' ((conv=>whnf);first|exact .intro|refine .ya ?_|refine .na ?_|refine .ys ?_|refine .ns ?_|refine .neg (fun _=>?_) (fun _=>?_)|refine .mk (fun _=>?_) (fun _=>?_)|refine .inr (X5 (c1.r [6,7,8,9,10,11,12,13] _) ?_)|refine .inl (.inr (X5 (c1.r [6,7,8,9,10,11,12,13] _) ?_))|refine .inl (X5 (c1.r [6,7,8,9,10,11,12,13] _) ?_)|(first|refine ⟨_,g1,?_⟩|refine ⟨3,⟨key_cell,rfl,keys_T _⟩,by kernel_rfl,.inr ⟨hk,?_⟩⟩)|refine .mk ?_ ?_|refine AK ?_|refine AT ?_|fail));all_goals conv=>whnf)
   have hI1:=hI.first rfl (x:=x) (by simpa using hxV) hx
   refine ⟨{ σ:=TS×List Cl×List (Cl×Nat),fr:=fun q=>[(9,.c (.own 3 16 0 q.1.F.length))],ks:=[6,7,10,11,13,14,16],L:=fun q=>tjM q.1 q.2.1 q.2.2,ex:=0,I:=fun q=>Inv t.g q.1∧∀ c ∈ D++[x],c ∈ q.1.D,μ:=fun q=>todo t.g t.V q.1 },⟨(⟨D++[x],[x],[(x,0)],P,fun c=>if c=x then D.length+1 else low c⟩,[],[]),⟨hI1,fun c hc=>hc⟩,?_⟩,fun (q:TS×List Cl×List (Cl×Nat)) hq=>?_⟩
   ·((repeat' first|exact rfl|((conv=>whnf);first|done|exact suL|refine And.intro ?_ ?_|fail));all_goals conv=>whnf)
    all_goals first|exact .inr (.inr (.inr rfl))|skip
   clear hI1 hk hDl c1 g1 h3
   obtain ⟨⟨D',S,F,P',low'⟩,R',T⟩:=q
   obtain ⟨hI',hsub⟩:=hq
   replace hI':Inv t.g ⟨D',S,F,P',low'⟩:=hI'
   replace hsub:∀ c ∈ D++[x],c ∈ D':=hsub
   have hDl:D'.length≤200:=Nat.le_trans (nodup_len hI'.dn fun c hc=>by simpa using hI'.dh c hc) ht.len
   have hSl:S.length≤200:=Nat.le_trans hI'.sd.length_le hDl
   have hFl:F.length≤200:=by have:=hI'.fs.length_le;rw[List.length_map] at this;exact Nat.le_trans this hSl
   rcases List.eq_nil_or_concat F with rfl|⟨F0,⟨f,k⟩,rfl⟩
   ·obtain rfl:S=[]:=hI'.none rfl
    ((repeat' ((conv=>whnf);first|exact .intro|refine .ya ?_|refine .na ?_|refine .ys ?_|refine .ns ?_|refine .neg (fun _=>?_) (fun _=>?_)|refine .mk (fun _=>?_) (fun _=>?_)|refine .mk ?_ ?_|refine AK ?_|refine AT ?_|fail));all_goals conv=>whnf)
    all_goals refine ⟨(i+1,⟨D',[],[],P',low'⟩,R'),⟨⟨hlt,hI',rfl,fun j h hj=>hsub _ ((Nat.lt_succ_iff_lt_or_eq.1 hj).elim (fun hj=>List.mem_append_left _ (hall j h hj)) fun e=>by subst e;rw[hxx];simp)⟩,by show t.V.length - (i+1)<t.V.length - i;omega⟩,?_⟩
    all_goals ((repeat' first|exact rfl|((conv=>whnf);first|done|exact suL|refine And.intro ?_ ?_|fail));all_goals conv=>whnf)
    all_goals first|exact cqN e0|skip
   clear hall hxV hxx hx hI e0
   rw[List.concat_eq_append] at *
   have hm:(F0++[(f,k)]).length=F0.length+1:=by simp
   have h6:(0:Int)<(((F0++[(f,k)]).length:Nat):Int):=by omega
   have e1:IntKind.i64.wrap ((((F0++[(f,k)]).length:Nat):Int) - 1)=((F0.length:Nat):Int):=by rw[wrapI (by omega)];omega
   have h7:(0:Int)≤((F0.length:Nat):Int)∧((F0.length:Nat):Int)<(((F0++[(f,k)]).length:Nat):Int):=by omega
   have g2:((F0++[(f,k)]++T).map frR)[0+(((F0.length:Nat):Int)).toNat]?=some (frR (f,k)):=by
    rw[show 0+(((F0.length:Nat):Int)).toNat=F0.length by omega,List.getElem?_map,List.append_assoc,List.getElem?_append_right (Nat.le_refl _),Nat.sub_self]
    rfl
   have hol:=ht.ol f
   have hll:(cellsR (t.on f)).length=(t.on f).length:=List.length_map _
   ((repeat' ((conv=>whnf);first|exact .intro|refine .ya ?_|refine .na ?_|refine .ys ?_|refine .ns ?_|refine .neg (fun _=>?_) (fun _=>?_)|refine .mk (fun _=>?_) (fun _=>?_)|(first|rw[e1]|refine ⟨h7,?_⟩)|refine .mk ?_ ?_|refine AK ?_|refine AT ?_|fail));all_goals conv=>whnf)
   refine ⟨{ σ:=Unit,fr:=fun _=>[(9,.c (.own 3 16 0 (F0++[(f,k)]).length))],ks:=[],L:=fun _=>[],ex:=0,I:=fun _=>(t.on f).length≤k,μ:=fun _=>0 },?_,fun _ hk=>?_⟩
   ·by_cases hk:k<(t.on f).length
    ·have hfo:f ∈ t.oK:=Classical.byContradiction fun h=>by rw[ht.on f h] at hk;cases hk
     have g3:=ksD_get hfo
     have g4:(onV t)[t.oK.idxOf f]?=some (.lst 2 (cellsR (t.on f))):=get_key hfo _
     have h8:((k:Nat):Int)<(((cellsR (t.on f)).length:Nat):Int):=by omega
     have g5:=get_map (f:=rowC) hk
     have hto:=List.getElem?_eq_getElem hk
     generalize (t.on f)[k]=y at g5 hto
     ((repeat' ((conv=>whnf);first|exact .intro|refine .ya ?_|refine .na ?_|refine .ys ?_|refine .ns ?_|refine .neg (fun _=>?_) (fun _=>?_)|refine .mk (fun _=>?_) (fun _=>?_)|(first|rw[e1]|refine ⟨h7,?_⟩|refine ⟨_,g2,?_⟩|refine ⟨3,⟨key_cell,rfl,keys_T _⟩,by kernel_rfl,.inl ⟨_,_,⟨g3,g4⟩,?_⟩⟩|refine ⟨Int.natCast_nonneg _,_,g5,?_⟩)|refine .mk ?_ ?_|refine AK ?_|refine AT ?_|fail));all_goals conv=>whnf)
     refine ⟨{ σ:=Unit,fr:=fun _=>[(11,.c (.ptr 17 0))],ks:=[],L:=fun _=>[(17,.var [.d (iD y.1),.d (iD y.2)] 39)],ex:=1,I:=fun _=>True,μ:=fun _=>0 },?_,fun _ _=>?_⟩
     ·((repeat' ((conv=>whnf);first|exact .intro|refine .ya ?_|refine .na ?_|refine .ys ?_|refine .ns ?_|refine .neg (fun _=>?_) (fun _=>?_)|refine .mk (fun _=>?_) (fun _=>?_)|(first|rw[e1]|refine ⟨h7,?_⟩|refine ⟨_,g2,?_⟩|refine ⟨3,⟨key_cell,rfl,keys_T _⟩,by kernel_rfl,.inl ⟨_,_,⟨g3,g4⟩,?_⟩⟩|refine ⟨Int.natCast_nonneg _,_,g5,?_⟩)|refine .mk ?_ ?_|refine AK ?_|refine AT ?_|fail));all_goals conv=>whnf)
      all_goals refine ⟨(),trivial,?_⟩
      all_goals ((repeat' first|exact rfl|((conv=>whnf);first|done|exact suL|refine And.intro ?_ ?_|fail));all_goals conv=>whnf)
     have e2:=wN (i:=k) (by omega)
     have hst:=fr_set F0 f k T
     have g6:(((F0++[(f,k)]++T).map frR).set (0+(((F0.length:Nat):Int)).toNat) [iD f.1,iD f.2,nD (k+1)])[0+(((F0.length:Nat):Int)).toNat]?=some [iD f.1,iD f.2,nD (k+1)]:=by rw[List.getElem?_set_self];rw[List.length_map];simp
     have hml:(F0++[(f,k+1)]).length=(F0++[(f,k)]).length:=by simp
     by_cases hyV:y ∈ t.V
     ·have gv1:=ksD_get hyV
      obtain ⟨tx,htx⟩:∃ tx,t.tx[t.V.idxOf y]?=some tx:=by
       have h1:=List.idxOf_lt_length_iff.2 hyV
       exact ⟨_,List.getElem?_eq_getElem (by rw[ht.tl];exact h1)⟩
      have gv2:(t.tx.map Go.EYtfcmhmglpcimiaaGreatDoor.D.str)[t.V.idxOf y]?=some (.str tx):=by rw[List.getElem?_map,htx];rfl
      have hyh:t.g.has y=true:=by simpa using hyV
      by_cases hyD:y ∈ D'
      ·have gd1:=ksD_get hyD
       have gd2:=numD_get hyD
       have hnz:¬ ((num D' y:Nat):Int)=0:=by have:=num_pos.2 hyD;omega
       by_cases hyS:y ∈ S
       ·have gd3:(onD D' S)[D'.idxOf y]?=some (.v (.bool true)):=by rw[onD_get hyD,decide_eq_true hyS]
        have hfS:f ∈ S:=hI'.inS (by simp)
        have hfD:f ∈ D':=hI'.inD hfS
        have gf1:=ksD_get hfD
        have gf2:=lowD_get hfD low'
        have hup:(lowD D' low').set (D'.idxOf f) (iD (if ((num D' y:Nat):Int)<((low' f:Nat):Int) then ((num D' y:Nat):Int) else ((low' f:Nat):Int)))=lowD D' fun c=>if c=f then min (low' f) (num D' y) else low' c:=by
         rw[← lowD_upd hI'.dn hfD]
         congr 1
         by_cases hlt2:num D' y<low' f
         ·rw[if_pos (by omega),Nat.min_eq_right (by omega)]
         ·rw[if_neg (by omega),Nat.min_eq_left (by omega)]
        ((repeat' ((conv=>whnf);first|exact .intro|refine .ya ?_|refine .na ?_|refine .ys ?_|refine .ns ?_|refine .neg (fun _=>?_) (fun _=>?_)|refine .mk (fun _=>?_) (fun _=>?_)|(first|rw[e2]|refine ⟨_,g6,?_⟩|refine ⟨_,g2,?_⟩|refine ⟨3,⟨key_cell,rfl,keys_T _⟩,by kernel_rfl,.inl ⟨_,_,⟨gv1,gv2⟩,?_⟩⟩|refine ⟨3,⟨key_cell,rfl,keys_T _⟩,by kernel_rfl,.inl ⟨_,_,⟨gd1,gd2⟩,?_⟩⟩|refine ⟨3,⟨key_cell,rfl,keys_T _⟩,by kernel_rfl,.inl ⟨_,_,⟨gd1,gd3⟩,?_⟩⟩|refine ⟨3,⟨key_cell,rfl,keys_T _⟩,by kernel_rfl,.inl ⟨_,_,⟨gf1,gf2⟩,?_⟩⟩|refine ⟨3,⟨key_cell,rfl,keys_T _⟩,.inr ⟨_,gf1,?_⟩⟩)|refine .mk ?_ ?_|refine AK ?_|refine AT ?_|fail));all_goals conv=>whnf)
        all_goals refine ⟨(⟨D',S,F0++[(f,k+1)],P',fun c=>if c=f then min (low' f) (num D' y) else low' c⟩,R',T),⟨⟨hI'.lower rfl hto hyS,hsub⟩,todo_step t.g t.V ⟨D',S,F0++[(f,k)],P',low'⟩ F0 f k rfl hk _⟩,?_⟩
        all_goals ((repeat' first|exact rfl|((conv=>whnf);first|done|exact suL|refine And.intro ?_ ?_|fail));all_goals conv=>whnf)
        all_goals first|exact .inr (.inl (congrArg (C.own 3 16 0) hml.symm))|exact hst|exact hup|skip
       ·have gd3:(onD D' S)[D'.idxOf y]?=some (.v (.bool false)):=by rw[onD_get hyD,decide_eq_false hyS]
        ((repeat' ((conv=>whnf);first|exact .intro|refine .ya ?_|refine .na ?_|refine .ys ?_|refine .ns ?_|refine .neg (fun _=>?_) (fun _=>?_)|refine .mk (fun _=>?_) (fun _=>?_)|(first|rw[e2]|refine ⟨_,g6,?_⟩|refine ⟨_,g2,?_⟩|refine ⟨3,⟨key_cell,rfl,keys_T _⟩,by kernel_rfl,.inl ⟨_,_,⟨gv1,gv2⟩,?_⟩⟩|refine ⟨3,⟨key_cell,rfl,keys_T _⟩,by kernel_rfl,.inl ⟨_,_,⟨gd1,gd2⟩,?_⟩⟩|refine ⟨3,⟨key_cell,rfl,keys_T _⟩,by kernel_rfl,.inl ⟨_,_,⟨gd1,gd3⟩,?_⟩⟩)|refine .mk ?_ ?_|refine AK ?_|refine AT ?_|fail));all_goals conv=>whnf)
        all_goals refine ⟨(⟨D',S,F0++[(f,k+1)],P',low'⟩,R',T),⟨⟨hI'.skip rfl hto (.inr ⟨hyD,hyS⟩),hsub⟩,todo_step t.g t.V ⟨D',S,F0++[(f,k)],P',low'⟩ F0 f k rfl hk low'⟩,?_⟩
        all_goals ((repeat' first|exact rfl|((conv=>whnf);first|done|exact suL|refine And.intro ?_ ?_|fail));all_goals conv=>whnf)
        all_goals first|exact .inr (.inl (congrArg (C.own 3 16 0) hml.symm))|exact hst|skip
      ·have hky:kC y ∉ ksD D':=fun h=>hyD (kC_mem.1 h)
       have c1:=enter_h (gl:=gl) D' S R' low' y hyD (by omega) (by omega)
       have hml2:(F0++[(f,k)]).length≤(((F0++[(f,k)]++T).map frR).set (0+(((F0.length:Nat):Int)).toNat) [iD f.1,iD f.2,nD (k+1)]).length:=by rw[List.length_set,List.length_map,List.length_append (bs:=T)];exact Nat.le_add_right _ _
       have hst2:((((F0++[(f,k)]++T).map frR).set (0+(((F0.length:Nat):Int)).toNat) [iD f.1,iD f.2,nD (k+1)]).take (F0++[(f,k)]).length)++[[iD y.1,iD y.2,iD 0]]=((F0++[(f,k+1)]++[(y,0)])++[]).map frR:=by
        rw[hst,← hml,List.map_append,List.take_append_of_le_length (by rw[List.length_map];exact Nat.le_refl _),List.take_of_length_le (by rw[List.length_map];exact Nat.le_refl _),List.append_nil,List.map_append (l₂:=[(y,0)])]
        rfl
       have hln:=(congrArg List.length hst2).symm
       rw[List.length_map,List.append_nil] at hln
       have b0:((((F0++[(f,k)]++T).map frR).set (0+(((F0.length:Nat):Int)).toNat) [iD f.1,iD f.2,nD (k+1)]).take (F0++[(f,k)]).length).length≤200:=by rw[List.length_take];omega
       have b1:(((((F0++[(f,k)]++T).map frR).set (0+(((F0.length:Nat):Int)).toNat) [iD f.1,iD f.2,nD (k+1)]).take (F0++[(f,k)]).length).length+1) * 24≤140737488355328:=by omega
       have b2:((((F0++[(f,k)]++T).map frR).set (0+(((F0.length:Nat):Int)).toNat) [iD f.1,iD f.2,nD (k+1)]).take (F0++[(f,k)]).length).length+1≤maxLen:=by unfold maxLen;omega
       ((repeat' ((conv=>whnf);first|exact .intro|refine .ya ?_|refine .na ?_|refine .ys ?_|refine .ns ?_|refine .neg (fun _=>?_) (fun _=>?_)|refine .mk (fun _=>?_) (fun _=>?_)|refine .inr (X5 (c1.r [6,7,8,9,10,11,12,13] _) ?_)|refine .inl (.inr (X5 (c1.r [6,7,8,9,10,11,12,13] _) ?_))|refine .inl (X5 (c1.r [6,7,8,9,10,11,12,13] _) ?_)|(first|rw[e2]|refine ⟨_,g6,?_⟩|refine ⟨_,g2,?_⟩|refine ⟨3,⟨key_cell,rfl,keys_T _⟩,by kernel_rfl,.inl ⟨_,_,⟨gv1,gv2⟩,?_⟩⟩|refine ⟨3,⟨key_cell,rfl,keys_T _⟩,by kernel_rfl,.inr ⟨hky,?_⟩⟩|refine ⟨hml2,?_⟩|refine ⟨⟨rfl,b1,b2⟩,?_⟩)|refine .mk ?_ ?_|refine AK ?_|refine AT ?_|fail));all_goals conv=>whnf)
       all_goals refine ⟨(⟨D'++[y],S++[y],F0++[(f,k+1)]++[(y,0)],P',fun c=>if c=y then D'.length+1 else low' c⟩,[],[]),⟨⟨hI'.enter rfl hto hyh hyD,fun c hc=>List.mem_append_left _ (hsub c hc)⟩,todo_more t.g t.V ⟨D',S,F0++[(f,k)],P',low'⟩ F0 f y k rfl hk hyV hyD _ _⟩,?_⟩
       all_goals ((repeat' first|exact rfl|((conv=>whnf);first|done|exact suL|refine And.intro ?_ ?_|fail));all_goals conv=>whnf)
       all_goals first|exact .inr (.inr (.inr (congrArg (C.own 3 16 0) hln)))|exact .inr (.inr (.inr (congrArg (C.own 2 13 0) (List.length_map rowC).symm)))|exact hst2|exact congrArg cellsR (List.append_nil (S++[y])).symm|skip
     ·have hky:kC y ∉ ksD t.V:=fun h=>hyV (kC_mem.1 h)
      ((repeat' ((conv=>whnf);first|exact .intro|refine .ya ?_|refine .na ?_|refine .ys ?_|refine .ns ?_|refine .neg (fun _=>?_) (fun _=>?_)|refine .mk (fun _=>?_) (fun _=>?_)|(first|rw[e2]|refine ⟨_,g6,?_⟩|refine ⟨_,g2,?_⟩|refine ⟨3,⟨key_cell,rfl,keys_T _⟩,by kernel_rfl,.inr ⟨hky,?_⟩⟩)|refine .mk ?_ ?_|refine AK ?_|refine AT ?_|fail));all_goals conv=>whnf)
      all_goals refine ⟨(⟨D',S,F0++[(f,k+1)],P',low'⟩,R',T),⟨⟨hI'.skip rfl hto (.inl (by simpa using hyV)),hsub⟩,todo_step t.g t.V ⟨D',S,F0++[(f,k)],P',low'⟩ F0 f k rfl hk low'⟩,?_⟩
      all_goals ((repeat' first|exact rfl|((conv=>whnf);first|done|exact suL|refine And.intro ?_ ?_|fail));all_goals conv=>whnf)
      all_goals first|exact .inr (.inl (congrArg (C.own 3 16 0) hml.symm))|exact hst|skip
    ·have hkn:¬ ((k:Nat):Int)<(((cellsR (t.on f)).length:Nat):Int):=by omega
     have hk0:¬ ((k:Nat):Int)<0:=by omega
     by_cases hfo:f ∈ t.oK
     ·have g3:=ksD_get hfo
      have g4:(onV t)[t.oK.idxOf f]?=some (.lst 2 (cellsR (t.on f))):=get_key hfo _
      ((repeat' ((conv=>whnf);first|exact .intro|refine .ya ?_|refine .na ?_|refine .ys ?_|refine .ns ?_|refine .neg (fun _=>?_) (fun _=>?_)|refine .mk (fun _=>?_) (fun _=>?_)|(first|refine ⟨_,g2,?_⟩|refine ⟨3,⟨key_cell,rfl,keys_T _⟩,by kernel_rfl,.inl ⟨_,_,⟨g3,g4⟩,?_⟩⟩)|refine .mk ?_ ?_|refine AK ?_|refine AT ?_|fail));all_goals conv=>whnf)
      all_goals refine ⟨(),Nat.le_of_not_lt hk,?_⟩
      all_goals ((repeat' first|exact rfl|((conv=>whnf);first|done|exact suL|refine And.intro ?_ ?_|fail));all_goals conv=>whnf)
     ·have hko:kC f ∉ ksD t.oK:=fun h=>hfo (kC_mem.1 h)
      ((repeat' ((conv=>whnf);first|exact .intro|refine .ya ?_|refine .na ?_|refine .ys ?_|refine .ns ?_|refine .neg (fun _=>?_) (fun _=>?_)|refine .mk (fun _=>?_) (fun _=>?_)|(first|refine ⟨_,g2,?_⟩|refine ⟨3,⟨key_cell,rfl,keys_T _⟩,by kernel_rfl,.inr ⟨hko,?_⟩⟩)|refine .mk ?_ ?_|refine AK ?_|refine AT ?_|fail));all_goals conv=>whnf)
      all_goals refine ⟨(),Nat.le_of_not_lt hk,?_⟩
      all_goals ((repeat' first|exact rfl|((conv=>whnf);first|done|exact suL|refine And.intro ?_ ?_|fail));all_goals conv=>whnf)
   replace hk:(t.on f).length≤k:=hk
   have hfF:f ∈ (F0++[(f,k)]).map (·.1):=by simp
   have hfS:f ∈ S:=hI'.inS hfF
   have hfD:f ∈ D':=hI'.inD hfS
   have gf1:=ksD_get hfD
   have gf2:=lowD_get hfD low'
   have gf3:=numD_get hfD
   have hb1:(0:Int)≤0∧(0:Int)≤((F0.length:Nat):Int)∧((F0.length:Nat):Int)≤(((F0++[(f,k)]).length:Nat):Int):=by omega
   ((repeat' ((conv=>whnf);first|exact .intro|refine .ya ?_|refine .na ?_|refine .ys ?_|refine .ns ?_|refine .neg (fun _=>?_) (fun _=>?_)|refine .mk (fun _=>?_) (fun _=>?_)|(first|rw[e1]|refine ⟨_,g2,?_⟩|refine ⟨hb1,?_⟩)|refine .mk ?_ ?_|refine AK ?_|refine AT ?_|fail));all_goals conv=>whnf)
   refine ⟨{ σ:=Unit,fr:=fun _=>[(9,.c (.own 3 16 0 F0.length))],ks:=[],L:=fun _=>[],ex:=0,I:=fun _=>True,μ:=fun _=>0 },?_,fun _ _=>?_⟩
   ·((repeat' ((conv=>whnf);first|exact .intro|refine .ya ?_|refine .na ?_|refine .ys ?_|refine .ns ?_|refine .neg (fun _=>?_) (fun _=>?_)|refine .mk (fun _=>?_) (fun _=>?_)|(first|rw[e1]|refine ⟨_,g2,?_⟩|refine ⟨hb1,?_⟩)|refine .mk ?_ ?_|refine AK ?_|refine AT ?_|fail));all_goals conv=>whnf)
    all_goals refine ⟨(),trivial,?_⟩
    all_goals ((repeat' first|exact rfl|((conv=>whnf);first|done|exact suL|refine And.intro ?_ ?_|fail));all_goals conv=>whnf)
   ((repeat' ((conv=>whnf);first|exact .intro|refine .ya ?_|refine .na ?_|refine .ys ?_|refine .ns ?_|refine .neg (fun _=>?_) (fun _=>?_)|refine .mk (fun _=>?_) (fun _=>?_)|refine .mk ?_ ?_|refine AK ?_|refine AT ?_|fail));all_goals conv=>whnf)
   refine ⟨{ σ:=Cl→Nat,fr:=fun _=>[],ks:=[7],L:=fun lw=>[(7,.mp (ksD D') (lowD D' lw))],ex:=0,I:=fun lw=>(F0=[]∧lw=low')∨∃ F1 p j,F0=F1++[(p,j)]∧lw=fun c=>if c=p then min (low' p) (low' f) else low' c,μ:=fun _=>0 },?_,fun (lw:Cl→Nat) hlw=>?_⟩
   ·rcases List.eq_nil_or_concat F0 with rfl|⟨F1,⟨p,j⟩,hF1⟩
    ·((repeat' ((conv=>whnf);first|exact .intro|refine .ya ?_|refine .na ?_|refine .ys ?_|refine .ns ?_|refine .neg (fun _=>?_) (fun _=>?_)|refine .mk (fun _=>?_) (fun _=>?_)|refine .mk ?_ ?_|refine AK ?_|refine AT ?_|fail));all_goals conv=>whnf)
     all_goals refine ⟨low',.inl ⟨rfl,rfl⟩,?_⟩
     all_goals ((repeat' first|exact rfl|((conv=>whnf);first|done|exact suL|refine And.intro ?_ ?_|fail));all_goals conv=>whnf)
    ·rw[List.concat_eq_append] at hF1
     subst hF1
     have hm3:(F1++[(p,j)]).length=F1.length+1:=by simp
     have h9:(0:Int)<(((F1++[(p,j)]).length:Nat):Int):=by omega
     have e3:IntKind.i64.wrap ((((F1++[(p,j)]).length:Nat):Int) - 1)=((F1.length:Nat):Int):=by rw[wrapI (by omega)];omega
     have h10:(0:Int)≤((F1.length:Nat):Int)∧((F1.length:Nat):Int)<(((F1++[(p,j)]).length:Nat):Int):=by omega
     have g7:((F1++[(p,j)]++[(f,k)]++T).map frR)[0+(((F1.length:Nat):Int)).toNat]?=some (frR (p,j)):=by
      rw[show 0+(((F1.length:Nat):Int)).toNat=F1.length by omega,List.getElem?_map,List.append_assoc,List.append_assoc,List.getElem?_append_right (Nat.le_refl _),Nat.sub_self]
      rfl
     have hpD:p ∈ D':=hI'.inD (hI'.inS (by simp))
     have gp1:=ksD_get hpD
     have gp2:=lowD_get hpD low'
     have hup:(lowD D' low').set (D'.idxOf p) (iD (if ((low' f:Nat):Int)<((low' p:Nat):Int) then ((low' f:Nat):Int) else ((low' p:Nat):Int)))=lowD D' fun c=>if c=p then min (low' p) (low' f) else low' c:=by
      rw[← lowD_upd hI'.dn hpD]
      congr 1
      by_cases hlt2:low' f<low' p
      ·rw[if_pos (by omega),Nat.min_eq_right (by omega)]
      ·rw[if_neg (by omega),Nat.min_eq_left (by omega)]
     ((repeat' ((conv=>whnf);first|exact .intro|refine .ya ?_|refine .na ?_|refine .ys ?_|refine .ns ?_|refine .neg (fun _=>?_) (fun _=>?_)|refine .mk (fun _=>?_) (fun _=>?_)|(first|rw[e3]|refine ⟨h10,?_⟩|refine ⟨_,g7,?_⟩|refine ⟨3,⟨key_cell,rfl,keys_T _⟩,by kernel_rfl,.inl ⟨_,_,⟨gp1,gp2⟩,?_⟩⟩|refine ⟨3,⟨key_cell,rfl,keys_T _⟩,by kernel_rfl,.inl ⟨_,_,⟨gf1,gf2⟩,?_⟩⟩|refine ⟨3,⟨key_cell,rfl,keys_T _⟩,.inr ⟨_,gp1,?_⟩⟩)|refine .mk ?_ ?_|refine AK ?_|refine AT ?_|fail));all_goals conv=>whnf)
     all_goals refine ⟨_,.inr ⟨F1,p,j,rfl,rfl⟩,?_⟩
     all_goals ((repeat' first|exact rfl|((conv=>whnf);first|done|exact suL|refine And.intro ?_ ?_|fail));all_goals conv=>whnf)
     all_goals first|exact hup|skip
   have hlf:lw f=low' f:=by
    rcases hlw with ⟨_,rfl⟩|⟨F1,p,j,rfl,rfl⟩
    ·rfl
    ·exact if_neg fun (e:f=p)=>hI'.front rfl (by rw[e];simp)
   have gl2:=lowD_get hfD lw
   rw[hlf] at gl2
   have hap:(F0++[(f,k)]++T).map frR=(F0++((f,k)::T)).map frR:=by rw[List.append_assoc];rfl
   by_cases hr:low' f<num D' f
   ·have hr':((low' f:Nat):Int)<((num D' f:Nat):Int):=by omega
    rcases hlw with ⟨rfl,rfl⟩|⟨F1,p,j,rfl,rfl⟩
    ·exact absurd hr (hI'.alone rfl)
    ·((repeat' ((conv=>whnf);first|exact .intro|refine .ya ?_|refine .na ?_|refine .ys ?_|refine .ns ?_|refine .neg (fun _=>?_) (fun _=>?_)|refine .mk (fun _=>?_) (fun _=>?_)|(first|refine ⟨3,⟨key_cell,rfl,keys_T _⟩,by kernel_rfl,.inl ⟨_,_,⟨gf1,gl2⟩,?_⟩⟩|refine ⟨3,⟨key_cell,rfl,keys_T _⟩,by kernel_rfl,.inl ⟨_,_,⟨gf1,gf3⟩,?_⟩⟩)|refine .mk ?_ ?_|refine AK ?_|refine AT ?_|fail));all_goals conv=>whnf)
     all_goals refine ⟨(⟨D',S,F1++[(p,j)],P',_⟩,R',(f,k)::T),⟨⟨hI'.back rfl hk hr,hsub⟩,todo_back t.g t.V ⟨D',S,F1++[(p,j)]++[(f,k)],P',low'⟩ (F1++[(p,j)]) f k rfl _ _ _⟩,?_⟩
     all_goals ((repeat' first|exact rfl|((conv=>whnf);first|done|exact suL|refine And.intro ?_ ?_|fail));all_goals conv=>whnf)
     all_goals first|exact hap|skip
   obtain ⟨S0,S1,rfl⟩:=List.append_of_mem hfS
   have hSn:(S0++f::S1).Nodup:=hI'.dn.sublist hI'.sd
   have hf0:f ∉ S0:=fun h=>(List.nodup_append.1 hSn).2.2 f h f (by simp) rfl
   have hid:(S0++f::S1).idxOf f=S0.length:=by rw[List.idxOf_append,if_neg hf0];simp
   have hr':¬ ((low' f:Nat):Int)<((num D' f:Nat):Int):=by omega
   have hdt:((cellsR (S0++f::S1++R')).drop 0).take (S0++f::S1).length=cellsR (S0++f::S1):=by
    rw[List.drop_zero]
    show ((S0++f::S1++R').map rowC).take (S0++f::S1).length=_
    rw[List.map_append (l₁:=S0++f::S1),List.take_append_of_le_length (by rw[List.length_map];exact Nat.le_refl _),List.take_of_length_le (by rw[List.length_map];exact Nat.le_refl _)]
   have c2:=cI (S0++f::S1) f (by simp) (by omega)
   rw[hid,← hdt] at c2
   have hb2:(0:Int)≤((S0.length:Nat):Int)∧((S0.length:Nat):Int)≤(((S0++f::S1).length:Nat):Int)∧(((S0++f::S1).length:Nat):Int)≤(((S0++f::S1).length:Nat):Int):=by simp;omega
   have hb3:(0:Int)≤0∧(0:Int)≤((S0.length:Nat):Int)∧((S0.length:Nat):Int)≤(((S0++f::S1).length:Nat):Int):=by simp;omega
   have hls:(S0++f::S1).length=S0.length+(S1.length+1):=by simp
   have hlr:(S0++f::S1++R').length=S0.length+(S1.length+1)+R'.length:=by simp only[List.length_append,List.length_cons]
   have c3:=cC (S0++f::S1++R') (0+(((S0.length:Nat):Int)).toNat) ((((S0++f::S1).length:Nat):Int).toNat - (((S0.length:Nat):Int)).toNat) (by omega) (by omega) (by omega)
   have hq:0+(S0++f::S1).length≤(cellsR (S0++f::S1++R')).length:=by rw[Nat.zero_add,List.length_map,hlr,hls];exact Nat.le_add_right _ _
   have e6:((cellsR (S0++f::S1++R')).drop (0+(((S0.length:Nat):Int)).toNat)).take ((((S0++f::S1).length:Nat):Int).toNat - (((S0.length:Nat):Int)).toNat)=cellsR (f::S1):=by
    rw[show 0+(((S0.length:Nat):Int)).toNat=(S0.map rowC).length by rw[List.length_map];omega,show (((S0++f::S1).length:Nat):Int).toNat - (((S0.length:Nat):Int)).toNat=((f::S1).map rowC).length by rw[List.length_map,List.length_cons];omega]
    show ((((S0++f::S1)++R').map rowC).drop _).take _=_
    rw[List.map_append,List.map_append,List.append_assoc,List.drop_left,List.take_left]
   rw[e6] at c3
   ((repeat' ((conv=>whnf);first|exact .intro|refine .ya ?_|refine .na ?_|refine .ys ?_|refine .ns ?_|refine .neg (fun _=>?_) (fun _=>?_)|refine .mk (fun _=>?_) (fun _=>?_)|refine .inr (X5 (c3.r [13] _) ?_)|refine .inl (.inr (X5 (c3.r [13] _) ?_))|refine .inl (X5 (c3.r [13] _) ?_)|(first|refine Or.inl (Or.inl ⟨hq,_,c2,?_⟩)|refine ⟨3,⟨key_cell,rfl,keys_T _⟩,by kernel_rfl,.inl ⟨_,_,⟨gf1,gl2⟩,?_⟩⟩|refine ⟨3,⟨key_cell,rfl,keys_T _⟩,by kernel_rfl,.inl ⟨_,_,⟨gf1,gf3⟩,?_⟩⟩|refine ⟨hb2,?_⟩|refine ⟨hb3,?_⟩)|refine .mk ?_ ?_|refine AK ?_|refine AT ?_|fail));all_goals conv=>whnf)
   refine ⟨{ σ:=Nat,fr:=fun j=>[(179,.c (.d (nD j))),(178,.c (.d (nD (cellsR (f::S1)).length))),(177,.c (.all 2 18))],ks:=[11],L:=fun j=>[(11,.mp (ksD D') (onD D' (S0++(f::S1).drop j)))],ex:=0,I:=fun j=>j≤(f::S1).length,μ:=fun j=>(f::S1).length - j },⟨0,Nat.zero_le _,?_⟩,fun (j:Nat) hj=>?_⟩
   ·((repeat' first|exact rfl|((conv=>whnf);first|done|exact suL|refine And.intro ?_ ?_|fail));all_goals conv=>whnf)
   replace hj:j≤(f::S1).length:=hj
   have hpl:(cellsR (f::S1)).length=(f::S1).length:=List.length_map _
   have hll2:(f::S1).length=S1.length+1:=rfl
   by_cases hlj:j<(f::S1).length
   ·have hcD:(f::S1)[j] ∈ D':=hI'.inD (List.mem_append_right _ (List.getElem_mem hlj))
    have hoff:=onD_off hI'.dn hSn hlj hcD
    have g8:=get_map (f:=rowC) hlj
    have gk:=ksD_get hcD
    have e4:=wN (i:=j) (by omega)
    have h11:((j:Nat):Int)<(((cellsR (f::S1)).length:Nat):Int):=by omega
    generalize (f::S1)[j]=y at hoff g8 gk
    ((repeat' ((conv=>whnf);first|exact .intro|refine .ya ?_|refine .na ?_|refine .ys ?_|refine .ns ?_|refine .neg (fun _=>?_) (fun _=>?_)|refine .mk (fun _=>?_) (fun _=>?_)|(first|rw[e4]|refine ⟨_,g8,?_⟩|refine ⟨3,⟨key_cell,rfl,keys_T _⟩,.inr ⟨_,gk,?_⟩⟩)|refine .mk ?_ ?_|refine AK ?_|refine AT ?_|fail));all_goals conv=>whnf)
    all_goals refine ⟨j+1,⟨hlj,by show (f::S1).length - (j+1)<(f::S1).length - j;omega⟩,?_⟩
    all_goals ((repeat' first|exact rfl|((conv=>whnf);first|done|exact suL|refine And.intro ?_ ?_|fail));all_goals conv=>whnf)
    all_goals first|exact cqN e4|exact hoff|skip
   obtain rfl:j=(f::S1).length:=by omega
   have h12:¬ (((f::S1).length:Nat):Int)<(((cellsR (f::S1)).length:Nat):Int):=by omega
   have c4:=cS (f::S1) (by omega)
   have hpp:=len_parts hI'
   replace hpp:P'.length≤D'.length:=hpp
   have hpm:(P'.map partR).length=P'.length:=List.length_map _
   have b1:((P'.map partR).length+1) * 24≤140737488355328:=by omega
   have b2:(P'.map partR).length+1≤maxLen:=by unfold maxLen;omega
   have hlow:∀ g ∈ F0.map (·.1),lw g=low' g:=fun g hg=>by
    rcases hlw with ⟨rfl,_⟩|⟨F1,p,j,rfl,rfl⟩
    ·cases hg
    ·by_cases hgp:g=p
     ·subst hgp
      show (if g=g then min (low' g) (low' f) else low' g)=low' g
      rw[if_pos rfl]
      have h1:=(hI'.lo f (by simp)).1
      have h2:=(hI'.lo g (by simp)).1
      have h3:=(hI'.top rfl (f:=g) (by simp)).1
      exact Nat.min_eq_left (by simp only at h1 h2 h3;omega)
     ·exact if_neg hgp
   have hdl:onD D' (S0++(f::S1).drop (f::S1).length)=onD D' S0:=by rw[List.drop_length,List.append_nil]
   have hsr:cellsR (S0++f::S1++R')=cellsR (S0++(f::S1++R')):=by rw[List.append_assoc]
   have hpa:P'.map partR++[[.lst 2 (cellsR (srt (f::S1)))]]=(P'++[srt (f::S1)]).map partR:=by rw[List.map_append];rfl
   have hinv:=hI'.part rfl hk hr rfl (part:=srt (f::S1)) (fun c=>hsm _ c) (hss _ (List.nodup_append.1 hSn).2.1) hlow
   ((repeat' ((conv=>whnf);first|exact .intro|refine .ya ?_|refine .na ?_|refine .ys ?_|refine .ns ?_|refine .neg (fun _=>?_) (fun _=>?_)|refine .mk (fun _=>?_) (fun _=>?_)|refine .inr (X5 (c4.r [18] _) ?_)|refine .inl (.inr (X5 (c4.r [18] _) ?_))|refine .inl (X5 (c4.r [18] _) ?_)|(first|refine ⟨⟨rfl,b1,b2⟩,?_⟩)|refine .mk ?_ ?_|refine AK ?_|refine AT ?_|fail));all_goals conv=>whnf)
   all_goals refine ⟨(⟨D',S0,F0,P'++[srt (f::S1)],lw⟩,f::S1++R',(f,k)::T),⟨⟨hinv,hsub⟩,todo_back t.g t.V ⟨D',S0++f::S1,F0++[(f,k)],P',low'⟩ F0 f k rfl _ _ _⟩,?_⟩
   all_goals ((repeat' first|exact rfl|((conv=>whnf);first|done|exact suL|refine And.intro ?_ ?_|fail));all_goals conv=>whnf)
   all_goals first|exact hap|exact hdl|exact hsr|exact hpa|skip
 have h3:¬ (i:Int)<(((cellsR t.V).length:Nat):Int):=by omega
 have hd:=hI.done rfl fun c hc=>by
  obtain ⟨j,hj,rfl⟩:=List.getElem_of_mem hc
  exact hall j hj (by show j<i;omega)
 have hne:∀ p ∈ P,p≠[]:=fun p hp=>(hd.part p hp).ne
 have hPl:P.length≤200:=by
  have h1:=len_parts hI
  have h2:=nodup_len (p:=t.V) hI.dn fun c hc=>by simpa using hI.dh c hc
  exact Nat.le_trans h1 (Nat.le_trans h2 ht.len)
 have c5:=cP P hne hI.pp (by omega)
 have hrw:Row t.g t.V (sr2 P):=⟨hd.perm (hs2 P),hr2 P hI.pp hne⟩
 have hQl:(sr2 P).length≤200:=by rw[(hs2 P).length_eq];exact hPl
 have hQ:=hrw.eq fun c hc=>by simpa using hc
 rw[← hQ]
 have hup:∀ p ∈ sr2 P,p.Pairwise les:=hrw.ps.up
 have htwo:=hrw.ps.two
 have hpl:∀ p ∈ sr2 P,p.length≤200:=fun p hp=>Nat.le_trans (nodup_len (p:=t.V) ((hup p hp).imp fun {a b} (hab:les a b) (e:a=b)=>les_irr b (by rwa [e] at hab)) fun c hc=>by simpa using hrw.ps.sub p hp c hc) ht.len
 clear hQ hd hall hI hPl hne hrw
 generalize sr2 P=Q at *
 have hQm:(Q.map partR).length=Q.length:=List.length_map _
 ((repeat' ((conv=>whnf);first|exact .intro|refine .ya ?_|refine .na ?_|refine .ys ?_|refine .ns ?_|refine .neg (fun _=>?_) (fun _=>?_)|refine .mk (fun _=>?_) (fun _=>?_)|refine .inr (X5 (c5.r [14] _) ?_)|refine .inl (.inr (X5 (c5.r [14] _) ?_))|refine .inl (X5 (c5.r [14] _) ?_)|refine .mk ?_ ?_|refine AK ?_|refine AT ?_|fail));all_goals conv=>whnf)
 refine ⟨{ σ:=Nat,fr:=fun a=>[(209,.c (.d (nD a))),(208,.c (.d (nD (Q.map partR).length))),(207,.c (.all 1 14))],ks:=[5],L:=fun a=>[(5,.mp (ksD (Q.take a).flatten) (ofT Q a))],ex:=0,I:=fun a=>a≤Q.length,μ:=fun a=>Q.length - a },⟨0,Nat.zero_le _,?_⟩,fun (a:Nat) ha=>?_⟩
 ·((repeat' first|exact rfl|((conv=>whnf);first|done|exact suL|refine And.intro ?_ ?_|fail));all_goals conv=>whnf)
 replace ha:a≤Q.length:=ha
 by_cases hla:a<Q.length
 ·have h13:((a:Nat):Int)<(((Q.map partR).length:Nat):Int):=by omega
  have g10:=get_map (f:=partR) hla
  have e7:=wN (i:=a) (by omega)
  have hts:=ofT_s hla
  have hfl:(Q.take (a+1)).flatten=(Q.take a).flatten++Q[a]:=by rw[List.take_succ_eq_append_getElem hla,List.flatten_append];simp
  have hup1:=hup _ (List.getElem_mem hla)
  have hnew:∀ b,(h:b<Q[a].length)→kC Q[a][b] ∉ ksD ((Q.take a).flatten++Q[a].take b):=fun b hb hh=>by
   rcases List.mem_append.1 (kC_mem.1 hh) with h1|h1
   ·obtain ⟨q,hq,h2⟩:=List.mem_flatten.1 h1
    obtain ⟨c,hc,rfl⟩:=List.getElem_of_mem hq
    rw[List.getElem_take] at h2
    rw[List.length_take] at hc
    exact (List.pairwise_iff_getElem.1 htwo) c a (by omega) hla (by omega) _ h2 (List.getElem_mem hb)
   ·obtain ⟨c,hc,h2⟩:=List.getElem_of_mem h1
    rw[List.getElem_take] at h2
    rw[List.length_take] at hc
    have:=(List.pairwise_iff_getElem.1 hup1) c b (by omega) hb (by omega)
    rw[h2] at this
    exact les_irr _ this
  have hpl1:=hpl _ (List.getElem_mem hla)
  generalize Q[a]=p at g10 hts hfl hnew hpl1
  have hpm:(cellsR p).length=p.length:=List.length_map _
  ((repeat' ((conv=>whnf);first|exact .intro|refine .ya ?_|refine .na ?_|refine .ys ?_|refine .ns ?_|refine .neg (fun _=>?_) (fun _=>?_)|refine .mk (fun _=>?_) (fun _=>?_)|(first|refine ⟨_,g10,?_⟩)|refine .mk ?_ ?_|refine AK ?_|refine AT ?_|fail));all_goals conv=>whnf)
  refine ⟨{ σ:=Nat,fr:=fun b=>[(216,.c (.d (nD b))),(215,.c (.d (nD (cellsR p).length))),(214,.c (.d (.lst 2 (cellsR p)))),(209,.c (.d (nD a))),(208,.c (.d (nD (Q.map partR).length))),(207,.c (.all 1 14))],ks:=[5],L:=fun b=>[(5,.mp (ksD ((Q.take a).flatten++p.take b)) (ofT Q a++(p.take b).map fun _=>nD a))],ex:=0,I:=fun b=>b≤p.length,μ:=fun b=>p.length - b },⟨0,Nat.zero_le _,?_⟩,fun (b:Nat) hb=>?_⟩
  ·((repeat' first|exact rfl|((conv=>whnf);first|done|exact suL|refine And.intro ?_ ?_|fail));all_goals conv=>whnf)
   all_goals first|(rw[List.take_zero,List.append_nil];done)|(rw[List.take_zero,List.map_nil,List.append_nil];done)|skip
  replace hb:b≤p.length:=hb
  by_cases hlb:b<p.length
  ·have h15:((b:Nat):Int)<(((cellsR p).length:Nat):Int):=by omega
   have g11:=get_map (f:=rowC) hlb
   have e8:=wN (i:=b) (by omega)
   have hn:=hnew b hlb
   have htk:p.take (b+1)=p.take b++[p[b]]:=List.take_succ_eq_append_getElem hlb
   generalize p[b]=y at g11 hn htk
   have hks:ksD ((Q.take a).flatten++p.take (b+1))=ksD ((Q.take a).flatten++p.take b)++[kC y]:=by
    rw[htk,← List.append_assoc]
    exact List.map_append
   have hvs:(ofT Q a++(p.take (b+1)).map fun _=>nD a)=(ofT Q a++(p.take b).map fun _=>nD a)++[nD a]:=by
    rw[htk,List.map_append,← List.append_assoc]
    rfl
   ((repeat' ((conv=>whnf);first|exact .intro|refine .ya ?_|refine .na ?_|refine .ys ?_|refine .ns ?_|refine .neg (fun _=>?_) (fun _=>?_)|refine .mk (fun _=>?_) (fun _=>?_)|(first|rw[e8]|refine ⟨Int.natCast_nonneg _,_,g11,?_⟩|refine ⟨3,⟨key_cell,rfl,keys_T _⟩,.inl ⟨hn,?_⟩⟩)|refine .mk ?_ ?_|refine AK ?_|refine AT ?_|fail));all_goals conv=>whnf)
   all_goals refine ⟨b+1,⟨hlb,by show p.length - (b+1)<p.length - b;omega⟩,?_⟩
   all_goals ((repeat' first|exact rfl|((conv=>whnf);first|done|exact suL|refine And.intro ?_ ?_|fail));all_goals conv=>whnf)
   all_goals first|exact cqN e8|exact hks.symm|exact hvs.symm|skip
  ·obtain rfl:b=p.length:=by omega
   have h16:¬ ((p.length:Nat):Int)<(((cellsR p).length:Nat):Int):=by omega
   ((repeat' ((conv=>whnf);first|exact .intro|refine .ya ?_|refine .na ?_|refine .ys ?_|refine .ns ?_|refine .neg (fun _=>?_) (fun _=>?_)|refine .mk (fun _=>?_) (fun _=>?_)|(first|rw[e7])|refine .mk ?_ ?_|refine AK ?_|refine AT ?_|fail));all_goals conv=>whnf)
   all_goals refine ⟨a+1,⟨hla,by show Q.length - (a+1)<Q.length - a;omega⟩,?_⟩
   all_goals ((repeat' first|exact rfl|((conv=>whnf);first|done|exact suL|refine And.intro ?_ ?_|fail));all_goals conv=>whnf)
   all_goals first|exact cqN e7|(rw[hfl,List.take_length];done)|(rw[hts,List.take_length];done)|skip
 ·obtain rfl:a=Q.length:=by omega
  have h14:¬ ((Q.length:Nat):Int)<(((Q.map partR).length:Nat):Int):=by omega
  ((repeat' ((conv=>whnf);first|exact .intro|refine .ya ?_|refine .na ?_|refine .ys ?_|refine .ns ?_|refine .neg (fun _=>?_) (fun _=>?_)|refine .mk (fun _=>?_) (fun _=>?_)|refine .mk ?_ ?_|refine AK ?_|refine AT ?_|fail));all_goals conv=>whnf)
  all_goals ((repeat' first|exact rfl|((conv=>whnf);first|done|exact suL|refine And.intro ?_ ?_|fail));all_goals conv=>whnf)
  all_goals first|(rw[List.take_length];done)|skip
end Go.Proofs.YtfcmhmglpcimiaaGreatDoor
end
