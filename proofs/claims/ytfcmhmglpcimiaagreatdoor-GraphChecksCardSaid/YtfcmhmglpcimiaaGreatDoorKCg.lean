/- Proved: a part of what the law is proved with (the reckoner, contracts of functions, plain laws). Conditions: as each says. -/
import Derived.ChangeKeysEq
import Derived.Test.YtfcmhmglpcimiaaGreatDoorKAv
import Derived.Test.YtfcmhmglpcimiaaGreatDoorKCe
import Derived.Test.YtfcmhmglpcimiaaGreatDoorKErrAs
import Derived.Test.YtfcmhmglpcimiaaGreatDoorKJb
import Derived.Test.YtfcmhmglpcimiaaGreatDoorKOa
import Derived.Test.YtfcmhmglpcimiaaGreatDoorKTja
import Derived.Test.YtfcmhmglpcimiaaGreatDoorKTle
namespace Go.Proofs.YtfcmhmglpcimiaaGreatDoor
set_option maxRecDepth 100000
section
open Go Go.RowKit Go.EYtfcmhmglpcimiaaGreatDoor
set_option maxHeartbeats 40000000
variable {gl:List (Nat×List D)}
def gridC:List Cl:=(List.range 26).flatMap fun i=>(List.range 99).map fun j=>(((i+1:Nat):Int),((j+1:Nat):Int))
theorem gridC_len:gridC.length=2574:=by decide +kernel
theorem gridC_mem {c:Cl} (h:okP c.1 c.2):c ∈ gridC:=by
 obtain ⟨a,b⟩:=c
 unfold okP at h
 simp only at h
 exact List.mem_flatMap.2 ⟨(a - 1).toNat,List.mem_range.2 (by omega),List.mem_map.2 ⟨(b - 1).toNat,List.mem_range.2 (by omega),Prod.ext (by show (((a - 1).toNat+1:Nat):Int)=a;omega) (by show (((b - 1).toNat+1:Nat):Int)=b;omega)⟩⟩
theorem refsZ_in {n:Nd} {box:Prop} (hf:frmN n box):∀ p ∈ refsZ n,okP p.1 p.2:=fun p hp=>(cellsN_few n hf).2 p (sortC_mem.1 (dedC_mem.1 hp))
theorem refsZ_up (n:Nd):(refsZ n).Pairwise lesP:=dedC_rise (sortC_sorted _)
theorem refsZ_few {n:Nd} {box:Prop} (hf:frmN n box):(refsZ n).length≤2574:=by
 rw[← gridC_len]
 refine nodup_len ((refsZ_up n).imp fun {a b} hab e=>?_) fun x hx=>gridC_mem (refsZ_in hf x hx)
 subst e
 unfold lesP at hab
 omega
def rdZ:Rd:=⟨fun t=>decide (t.head?=some 61),fun t=>match parseZ rfZ t with
 | .ok n _=>n
 | .no _ _=>n00,fun t=>match parseZ rfZ t with
 | .ok n _=>refsZ n
 | .no _ _=>[]⟩
abbrev gZ (l:List Fl):Prop:=goodZ rfZ l
theorem gT {l:List Fl} (h:gZ l) {f:Fl} (hf:f ∈ l):f.t≠[]∧textZ rfZ f.t=0∧okP f.c f.r:=by
 obtain ⟨k,hk,rfl⟩:=List.getElem_of_mem hf
 have h1:=h.2 k hk
 rw[stepZ_at hk] at h1
 split at h1
 ·rename_i h0
  split at h1
  ·split at h1
   ·omega
   ·rename_i h2
    exact ⟨h2,h1,h0⟩
  ·omega
 ·omega
theorem gUp {l:List Fl} (h:gZ l):(l.map clF).Pairwise les:=by
 rw[List.pairwise_iff_getElem]
 have key:∀ (j i:Nat) (hi:i<j) (hj:j<l.length),lessF (l[i]'(by omega)) l[j]:=by
  intro j
  induction j with
  | zero=>intro i hi;omega
  | succ j ih =>
   intro i hi hj
   have h1:=h.2 (j+1) hj
   rw[stepZ_at hj] at h1
   have h2:lessF (l[j]'(by omega)) l[j+1]:=by
    split at h1
    ·split at h1
     ·rename_i h3;exact h3 (by omega)
     ·omega
    ·omega
   rcases Nat.lt_succ_iff_lt_or_eq.1 hi with h3|rfl
   ·have h4:=ih i h3 (by omega)
    unfold lessF at *
    omega
   ·exact h2
 intro i j hi hj hij
 rw[List.length_map] at hi hj
 have h1:=key j i hij hj
 rw[List.getElem_map,List.getElem_map]
 unfold lessF at h1
 unfold les
 exact h1
theorem gNd {l:List Fl} (h:gZ l):(l.map clF).Nodup:=(gUp h).imp fun {a b} (hab:les a b) (e:a=b)=>les_irr b (by rwa [e] at hab)
theorem gRead {t:List UInt8} (h:textZ rfZ t=0):t.head?=some 61→∃ n i,parseZ rfZ t=.ok n i∧frmN n False∧cntN n≤200:=fun h61=>by
 unfold textZ at h
 by_cases h200:200<t.length
 ·rw[if_pos h200] at h;omega
 ·simp only[if_neg h200,h61] at h
  cases hp:parseZ rfZ t with
  | no a e=>rw[hp] at h;exact absurd h (by rw[if_pos trivial];show (2:Int)≠0;decide)
  | ok n i =>
   obtain ⟨h1,_,h2,_⟩:=parse_short hp
   exact ⟨n,i,rfl,h1,h2⟩
abbrev ntZ (l:List Fl):Nt:=ntL rdZ l
theorem on_few (l:List Fl) (c:Cl):((ntZ l).on c).length≤2700∧∀ y ∈ (ntZ l).on c,okP y.1 y.2:=by
 show (match (fsL rdZ l).find? fun f=>decide (clF f=c) with
  | some f=>rdZ.on f.t
  | none=>[]).length≤2700∧∀ y ∈ (match (fsL rdZ l).find? fun f=>decide (clF f=c) with
  | some f=>rdZ.on f.t
  | none=>[]),okP y.1 y.2
 cases (fsL rdZ l).find? (fun f=>decide (clF f=c)) with
 | none=>exact ⟨Nat.zero_le _,fun _ h=>nomatch h⟩
 | some f =>
  show (match parseZ rfZ f.t with
   | .ok n _=>refsZ n
   | .no _ _=>[]).length≤2700∧∀ y ∈ (match parseZ rfZ f.t with
   | .ok n _=>refsZ n
   | .no _ _=>[]),okP y.1 y.2
  cases hp:parseZ rfZ f.t with
  | no a e=>exact ⟨Nat.zero_le _,fun _ h=>nomatch h⟩
  | ok n i =>
   obtain ⟨h1,_⟩:=parse_short hp
   exact ⟨Nat.le_trans (refsZ_few h1) (by decide),refsZ_in h1⟩
theorem on_out (l:List Fl) {c:Cl} (hc:c ∉ (ntZ l).oK):(ntZ l).on c=[]:=by
 show (match (fsL rdZ l).find? fun f=>decide (clF f=c) with
  | some f=>rdZ.on f.t
  | none=>[])=[]
 cases hx:(fsL rdZ l).find? (fun g=>decide (clF g=c)) with
 | none=>rfl
 | some g =>
  have h1:=List.find?_some hx
  simp only[decide_eq_true_eq] at h1
  exact absurd (List.mem_map.2 ⟨g,List.mem_of_find?_eq_some hx,h1⟩) hc
theorem ntZ_ok {l:List Fl} (h:gZ l):NtOk (ntZ l):=⟨gNd h,by show (l.map clF).length≤200;rw[List.length_map];exact h.1,by show (l.map (·.t)).length=(l.map clF).length;rw[List.length_map,List.length_map],fun c hc=>on_out l hc,fun c=>(on_few l c).1⟩
theorem New_ok (te:TypeId) (pe:Value) (hV:Has gl (glV te pe)) (hl:Go.EYtfcmhmglpcimiaaGreatDoor.look gl 1=some lvAll) {l:List Fl} (h:gZ l) (c1:FnP Tryz.prog gl 6 [.lst 3 (l.map flD)] (.v .nilIface)):Go.EYtfcmhmglpcimiaaGreatDoor.Fn Tryz.prog gl 26 [.c (.d (.lst 3 (l.map flD)))] [] 0 (.ret (.tup [(false,[.ptr 4 0]),(false,[.d (.v .nilIface)])])) (newR rdZ l (partsZ (ntZ l).g (l.map clF))) 15 []:=by
 refine New_y rdZ l h.1 (gNd h) c1 (fun f hf=>?_) (fun f hf hF=>?_) (fun f hf hF=>?_) ?_
 ·exact Constant_d f.t (b:=!rdZ.isF f.t) rfl
 ·obtain ⟨n,i,hp,_⟩:=gRead (gT h hf).2.1 (of_decide_eq_true hF)
  have c:=Parse_d te pe hV hl rfZ_ok f.t
  have e:rdZ.nd f.t=n:=by show (match parseZ rfZ f.t with|.ok n _=>n|.no _ _=>n00)=n;rw[hp]
  rw[hp] at c
  rw[e]
  exact ⟨0,c⟩
 ·obtain ⟨n,i,hp,hf',hc⟩:=gRead (gT h hf).2.1 (of_decide_eq_true hF)
  have e:rdZ.nd f.t=n:=by show (match parseZ rfZ f.t with|.ok n _=>n|.no _ _=>n00)=n;rw[hp]
  have e2:rdZ.on f.t=refsZ n:=by show (match parseZ rfZ f.t with|.ok n _=>refsZ n|.no _ _=>[])=refsZ n;rw[hp]
  rw[e,e2]
  exact rCells_d n hf' hc
 ·exact part_h (ntZ l) (ntZ_ok h) sortC (fun l c=>sortC_mem) (fun l hn=>sortC_up l hn) sr2 sr2_perm sr2_row Index_d Clone_o (fun m hm=>Sort_x m (by omega)) Sort2_x
theorem New_e (l:List Fl) (e:Int) (c1:FnP Tryz.prog gl 6 [.lst 3 (l.map flD)] (erD e)):Go.EYtfcmhmglpcimiaaGreatDoor.Fn Tryz.prog gl 26 [.c (.d (.lst 3 (l.map flD)))] [] 0 (.ret (.tup [(false,[.d (.v (.pointer none))]),(false,[.d (erD e)])])) [] 0 []:=by
 refine S1 Tryz.func26 rfl ?_
 ((repeat' ((conv=>whnf);first|exact .intro|refine G ?_|intro _|refine C1 c1 ?_|refine .mk ?_ ?_|refine H ?_|fail));all_goals conv=>whnf)
 all_goals ((repeat' first|exact rfl|((conv=>whnf);first|done|exact suL|refine And.intro ?_ ?_|fail));all_goals conv=>whnf)
end
section
open Go Go.RowKit Go.EYtfcmhmglpcimiaaGreatDoor
set_option maxHeartbeats 400000000
variable {gl:List (Nat×List D)}
abbrev NewOk (gl:List (Nat×List D)) (rd:Rd) (l:List Fl):Prop:=Go.EYtfcmhmglpcimiaaGreatDoor.Fn Tryz.prog gl 26 [.c (.d (.lst 3 (l.map flD)))] [] 0 (.ret (.tup [(false,[.ptr 4 0]),(false,[.d (.v .nilIface)])])) (newR rd l (partsZ (ntL rd l).g (l.map clF))) 15 []
section
variable (rd:Rd)
abbrev linkR (p:Cl×Cl):List Go.EYtfcmhmglpcimiaaGreatDoor.D:=[iD p.1.1,iD p.1.2,iD p.2.1,iD p.2.2]
def linksZ (on:Cl→List Cl) (V:List Cl):List (Cl×Cl):=V.flatMap fun c=>(on c).map fun y=>(c,y)
theorem linksZ_s {on:Cl→List Cl} {V:List Cl} {i:Nat} (h:i<V.length):linksZ on (V.take (i+1))=linksZ on (V.take i)++(on V[i]).map fun y=>(V[i],y):=by
 unfold linksZ
 rw[List.take_succ_eq_append_getElem h,List.flatMap_append,List.flatMap_singleton]
theorem linksZ_len {on:Cl→List Cl} (ho:∀ c,(on c).length≤2700):∀ V:List Cl,(linksZ on V).length≤V.length * 2700
 | []=>Nat.zero_le _
 | c::V=>by
  have h1:=linksZ_len ho V
  have h2:=ho c
  unfold linksZ at *
  rw[List.flatMap_cons,List.length_append,List.length_map,List.length_cons]
  omega
theorem Links_d (l:List Fl) (hl:l.length≤200) (hnd:(l.map clF).Nodup) (ho:∀ c,((ntL rd l).on c).length≤2700) (cN:NewOk gl rd l):FnP Tryz.prog gl 9 [.lst 3 (l.map flD)] (.tup [.lst 4 ((linksZ (ntL rd l).on (l.map clF)).map linkR),.v .nilIface]):=by
 have hov:=onV_new rd hnd
 have hvl:(cellsR (l.map clF)).length=(l.map clF).length:=List.length_map _
 have hvm:(l.map clF).length=l.length:=List.length_map _
 have hon:∀ c,c ∉ (fsL rd l).map clF→(ntL rd l).on c=[]:=fun c hc=>by
  show (match (fsL rd l).find? fun g=>decide (clF g=c) with
   | some f=>rd.on f.t
   | none=>[])=[]
  cases hx:(fsL rd l).find? (fun g=>decide (clF g=c)) with
  | none=>rfl
  | some g =>
   have h1:=List.find?_some hx
   simp only[decide_eq_true_eq] at h1
   exact absurd (List.mem_map.2 ⟨g,List.mem_of_find?_eq_some hx,h1⟩) hc
 unfold NewOk newR at cN
 rw[← hov] at cN
 have hget:∀ c,c ∈ (fsL rd l).map clF→(onV (ntL rd l))[((fsL rd l).map clF).idxOf c]?=some (.lst 2 (cellsR ((ntL rd l).on c))):=fun c hc=>get_key hc _
 generalize (ntL rd l).on=on at *
 generalize onV (ntL rd l)=ov at *
 generalize l.map clF=V at *
 generalize (fsL rd l).map clF=oK at *
 refine S0 Tryz.func9 rfl ?_
 ((repeat' ((conv=>whnf);first|exact .intro|refine G ?_|intro _|refine C5 cN [] ?_|refine .mk ?_ ?_|refine H ?_|fail));all_goals conv=>whnf)
 refine ⟨{ σ:=Nat,fr:=fun i=>[(24,.c (.d (nD i))),(6,.c (.all 4 15))],ks:=[],L:=fun i=>[(15,.rows 4 ((linksZ on (V.take i)).map linkR) 42)],ex:=1,I:=fun i=>i≤V.length,μ:=fun i=>V.length - i },⟨0,Nat.zero_le _,?_⟩,fun (i:Nat) hi=>?_⟩
 ·((repeat' first|exact rfl|((conv=>whnf);first|done|exact suL|refine And.intro ?_ ?_|fail));all_goals conv=>whnf)
  all_goals first|exact ⟨4,_,rfl,by decide,by decide⟩|skip
 replace hi:i≤V.length:=hi
 by_cases hlt:i<V.length
 ·have h3:(i:Int)<(((cellsR V).length:Nat):Int):=by omega
  have g1:=get_map (f:=rowC) hlt
  have e0:=wN (i:=i) (by omega)
  have hst:=linksZ_s (on:=on) hlt
  have hll:=linksZ_len ho (V.take i)
  rw[List.length_take] at hll
  generalize V[i]=c at g1 hst
  have hoc:=ho c
  by_cases hc:c ∈ oK
  ·have g3:=ksD_get hc
   have g4:=hget c hc
   have hcm:(cellsR (on c)).length=(on c).length:=List.length_map _
   ((repeat' ((conv=>whnf);first|exact .intro|refine G ?_|intro _|(first|refine ⟨_,g1,?_⟩|refine ⟨3,⟨key_cell,rfl,keys_T _⟩,by kernel_rfl,.inl ⟨_,_,⟨g3,g4⟩,?_⟩⟩)|refine .mk ?_ ?_|refine H ?_|fail));all_goals conv=>whnf)
   refine ⟨{ σ:=Nat,fr:=fun j=>[(35,.c (.d (nD j))),(6,.c (.all 4 15))],ks:=[15],L:=fun j=>[(15,.rows 4 ((linksZ on (V.take i)++((on c).take j).map fun y=>(c,y)).map linkR) 42)],ex:=0,I:=fun j=>j≤(on c).length,μ:=fun j=>(on c).length - j },⟨0,Nat.zero_le _,?_⟩,fun (j:Nat) hj=>?_⟩
   ·((repeat' first|exact rfl|((conv=>whnf);first|done|exact suL|refine And.intro ?_ ?_|fail));all_goals conv=>whnf)
    all_goals first|(rw[List.take_zero,List.map_nil,List.append_nil];done)|skip
   replace hj:j≤(on c).length:=hj
   by_cases hlj:j<(on c).length
   ·have h4:(j:Int)<(((cellsR (on c)).length:Nat):Int):=by omega
    have g5:=get_map (f:=rowC) hlj
    have e1:=wN (i:=j) (by omega)
    have htk:(on c).take (j+1)=(on c).take j++[(on c)[j]]:=List.take_succ_eq_append_getElem hlj
    have hrl:((linksZ on (V.take i)++((on c).take j).map fun y=>(c,y)).map linkR).length=(linksZ on (V.take i)).length+j:=by rw[List.length_map,List.length_append,List.length_map,List.length_take];omega
    have b1:(((linksZ on (V.take i)++((on c).take j).map fun y=>(c,y)).map linkR).length+1) * 32≤140737488355328:=by omega
    have b2:((linksZ on (V.take i)++((on c).take j).map fun y=>(c,y)).map linkR).length+1≤maxLen:=by unfold maxLen;omega
    generalize (on c)[j]=y at g5 htk
    have hsr:(linksZ on (V.take i)++((on c).take (j+1)).map fun y=>(c,y)).map linkR=(linksZ on (V.take i)++((on c).take j).map fun y=>(c,y)).map linkR++[[iD c.1,iD c.2,iD y.1,iD y.2]]:=by
     rw[htk]
     simp only[List.map_append,List.append_assoc]
     rfl
    ((repeat' ((conv=>whnf);first|exact .intro|refine G ?_|intro _|(first|refine ⟨Int.natCast_nonneg _,_,g5,?_⟩|refine ⟨⟨rfl,b1,b2⟩,?_⟩)|refine .mk ?_ ?_|refine H ?_|fail));all_goals conv=>whnf)
    all_goals refine ⟨j+1,⟨hlj,by show (on c).length - (j+1)<(on c).length - j;omega⟩,?_⟩
    all_goals ((repeat' first|exact rfl|((conv=>whnf);first|done|exact suL|refine And.intro ?_ ?_|fail));all_goals conv=>whnf)
    all_goals first|exact cqN e1|exact hsr.symm|skip
   obtain rfl:j=(on c).length:=by omega
   have h4:¬ (((on c).length:Nat):Int)<(((cellsR (on c)).length:Nat):Int):=by omega
   ((repeat' ((conv=>whnf);first|exact .intro|refine G ?_|intro _|refine .mk ?_ ?_|refine H ?_|fail));all_goals conv=>whnf)
   all_goals refine ⟨i+1,⟨hlt,by show V.length - (i+1)<V.length - i;omega⟩,?_⟩
   all_goals ((repeat' first|exact rfl|((conv=>whnf);first|done|exact suL|refine And.intro ?_ ?_|fail));all_goals conv=>whnf)
   all_goals first|exact cqN e0|(rw[hst,List.take_length];done)|skip
  ·have hkc:kC c ∉ ksD oK:=fun h=>hc (kC_mem.1 h)
   have hoe:=hon c hc
   ((repeat' ((conv=>whnf);first|exact .intro|refine G ?_|intro _|(first|refine ⟨_,g1,?_⟩|refine ⟨3,⟨key_cell,rfl,keys_T _⟩,by kernel_rfl,.inr ⟨hkc,?_⟩⟩)|refine .mk ?_ ?_|refine H ?_|fail));all_goals conv=>whnf)
   refine ⟨{ σ:=Nat,fr:=fun j=>[(35,.c (.d (nD j))),(6,.c (.all 4 15))],ks:=[],L:=fun j=>[],ex:=0,I:=fun j=>j=0,μ:=fun j=>0 },⟨0,rfl,?_⟩,fun (j:Nat) hj=>?_⟩
   ·((repeat' first|exact rfl|((conv=>whnf);first|done|exact suL|refine And.intro ?_ ?_|fail));all_goals conv=>whnf)
   obtain rfl:j=0:=hj
   ((repeat' ((conv=>whnf);first|exact .intro|refine G ?_|intro _|refine .mk ?_ ?_|refine H ?_|fail));all_goals conv=>whnf)
   all_goals refine ⟨i+1,⟨hlt,by show V.length - (i+1)<V.length - i;omega⟩,?_⟩
   all_goals ((repeat' first|exact rfl|((conv=>whnf);first|done|exact suL|refine And.intro ?_ ?_|fail));all_goals conv=>whnf)
   all_goals first|exact cqN e0|(rw[hst,hoe,List.map_nil,List.append_nil];done)|skip
 ·have h3:¬ (i:Int)<(((cellsR V).length:Nat):Int):=by omega
  obtain rfl:i=V.length:=by omega
  rw[← List.take_length (l:=V)]
  ((repeat' ((conv=>whnf);first|exact .intro|refine G ?_|intro _|refine .mk ?_ ?_|refine H ?_|fail));all_goals conv=>whnf)
  all_goals first|exact LeD.rfl|(rw[List.take_length];exact LeD.rfl)|skip
end
end
section
open Go Go.RowKit Go.EYtfcmhmglpcimiaaGreatDoor
theorem cell_eq (x y:Int) (w:World):(Op.equalIn 9999 39 (.agg #[.int .i64 x,.int .i64 y]) (.agg #[.int .i64 x,.int .i64 y])).run Tryz.prog w=.ok true w:=by
 obtain ⟨ti,h1,h2,u,v,h3,h4,h5⟩:=eqC_ok (adr:=fun _=>none) (M:=fun _=>False) fits w 8 39 [.d (iD x),.d (iD y)] [.d (iD x),.d (iD y)] [.int .i64 x,.int .i64 y] [.int .i64 x,.int .i64 y] _ rfl 9999 (by omega) ⟨.v _,.v _,trivial⟩ ⟨.v _,.v _,trivial⟩
 cases h1
 simp only[if_true] at h3 h4
 subst h3
 subst h4
 rw[h5]
 simp[andPD]
theorem link_eq (a b c d:Int):EqF Tryz.prog 42 [.d (iD a),.d (iD b),.d (iD c),.d (iD d)] [.d (iD a),.d (iD b),.d (iD c),.d (iD d)] ⟨True,inferInstance⟩:=by
 intro adr M w us vs hu hv
 match us,hu with
 | [u1,u2,u3,u4],⟨h1,h2,h3,h4,_⟩ =>
  obtain rfl:=DenD.v_inv h1
  obtain rfl:=DenD.v_inv h2
  obtain rfl:=DenD.v_inv h3
  obtain rfl:=DenD.v_inv h4
  match vs,hv with
  | [v1,v2,v3,v4],⟨k1,k2,k3,k4,_⟩ =>
   obtain rfl:=DenD.v_inv k1
   obtain rfl:=DenD.v_inv k2
   obtain rfl:=DenD.v_inv k3
   obtain rfl:=DenD.v_inv k4
   refine ⟨by kernel_rfl,?_⟩
   show (Op.equalIn (9999+1) 42 (.agg #[.int .i64 a,.int .i64 b,.int .i64 c,.int .i64 d]) (.agg #[.int .i64 a,.int .i64 b,.int .i64 c,.int .i64 d])).run Tryz.prog w=.ok true w
   have ag:=Tryz.isAgg39
   have sz:=Tryz.sizeOf39
   have p0:∀ w,(part 39 #[.int .i64 a,.int .i64 b,.int .i64 c,.int .i64 d] 0).run Tryz.prog w=.ok (.agg #[.int .i64 a,.int .i64 b]) w:=fun w=>by simp[part,ag,sz]
   have p1:∀ w,(part 39 #[.int .i64 a,.int .i64 b,.int .i64 c,.int .i64 d] 2).run Tryz.prog w=.ok (.agg #[.int .i64 c,.int .i64 d]) w:=fun w=>by simp[part,ag,sz]
   have hs:Tryz.prog.cellsOf 39=2:=by kernel_rfl
   obtain ⟨i,hi⟩:=Go.info_of_underlying (P:=Tryz.prog) Tryz.underlying39
   rw[Go.run_equalIn_array w 9999 _ _ Tryz.underlying42 hi,hs]
   simp[Op.eqItems,List.range_succ,p0,p1,cell_eq]
end
section
open Go Go.EYtfcmhmglpcimiaaGreatDoor
set_option maxHeartbeats 4000000
variable {gl:List (Nat×List D)}
theorem rText_d {rf:List UInt8→Option Rf} (hR:RefsOk rf) (hE:rf []=none) (s:List UInt8):FnP Tryz.prog gl 18 [.str s] (iD (textZ rf s)):=by
 unfold textZ
 by_cases h:200<s.length
 ·rw[if_pos h]
  have h1:((s.length:Nat):Int)>200:=by omega
  refine S0 Tryz.func18 rfl ?_
  ((repeat' ((conv=>whnf);first|exact .intro|refine G ?_|intro _|refine .mk ?_ ?_|refine H ?_|fail));all_goals conv=>whnf)
  all_goals exact LeD.rfl
 ·rw[if_neg h]
  have h1:¬ ((s.length:Nat):Int)>200:=by omega
  cases s with
  | nil =>
   rw[if_neg (by simp)]
   refine S0 Tryz.func18 rfl ?_
   ((repeat' ((conv=>whnf);first|exact .intro|refine G ?_|intro _|refine .mk ?_ ?_|refine H ?_|fail));all_goals conv=>whnf)
   all_goals exact LeD.rfl
  | cons c r =>
   have hn:¬ c::r=(⟨#[]⟩:ByteArray).data.toList:=by simp
   have hl0:(0:Int)<(((c::r).length:Nat):Int):=Int.natCast_pos.2 (Nat.succ_pos _)
   by_cases h61:(c::r).head?=some 61
   ·rw[if_pos h61]
    have hc:c=61:=by simpa using h61
    have h2:((((c::r).getD (0:Int).toNat 0).toNat:Nat):Int)=61:=by subst hc;rfl
    have c1:=rParse_d (gl:=gl) hR hE (c::r)
    cases hp:parseZ rf (c::r) with
    | ok n k =>
     rw[hp] at c1
     unfold rparseD at c1
     obtain ⟨k0,m0,t0,a0,b0,ks0⟩:=n
     refine S0 Tryz.func18 rfl ?_
     ((repeat' ((conv=>whnf);first|exact .intro|refine G ?_|intro _|refine C1 c1 ?_|refine .mk ?_ ?_|refine H ?_|fail));all_goals conv=>whnf)
     all_goals exact LeD.rfl
    | no a e =>
     have he:=parseZ_ne hR hE hp
     rw[hp] at c1
     unfold rparseD at c1
     refine S0 Tryz.func18 rfl ?_
     ((repeat' ((conv=>whnf);first|exact .intro|refine G ?_|intro _|refine C1 c1 ?_|refine .mk ?_ ?_|refine H ?_|fail));all_goals conv=>whnf)
     all_goals exact LeD.rfl
   ·rw[if_neg h61]
    have h2:¬ ((((c::r).getD (0:Int).toNat 0).toNat:Nat):Int)=61:=fun hh=>h61 (by
     have:c=61:=by
      have hh':((c.toNat:Nat):Int)=61:=hh
      apply UInt8.toNat_inj.1
      show c.toNat=61
      omega
     rw[this];rfl)
    refine S0 Tryz.func18 rfl ?_
    ((repeat' ((conv=>whnf);first|exact .intro|refine G ?_|intro _|refine .mk ?_ ?_|refine H ?_|fail));all_goals conv=>whnf)
    all_goals exact LeD.rfl
theorem rCheck_k (l:List Fl) (h:200<l.length):FnP Tryz.prog gl 5 [.lst 3 (l.map flD)] (iD 4):=by
 have h1:(((l.map flD).length:Nat):Int)>200:=by rw[List.length_map];omega
 refine S0 Tryz.func5 rfl ?_
 ((repeat' ((conv=>whnf);first|exact .intro|refine G ?_|intro _|refine .mk ?_ ?_|refine H ?_|fail));all_goals conv=>whnf)
 exact LeD.rfl
theorem rCheck_m {rf:List UInt8→Option Rf} (hR:RefsOk rf) (hE:rf []=none) (l:List Fl) (h:l.length≤200) (m:Nat) (r:Int)
 (hm:m≤l.length) (h0:∀ k,k<m→stepZ rf l k=0) (hr:(m=l.length∧r=0)∨(m<l.length∧r≠0∧stepZ rf l m=r)):FnP Tryz.prog gl 5 [.lst 3 (l.map flD)] (iD r):=by
 have h1:¬ (((l.map flD).length:Nat):Int)>200:=by rw[List.length_map];omega
 refine S0 Tryz.func5 rfl ?_
 ((repeat' ((conv=>whnf);first|exact .intro|refine G ?_|intro _|refine .mk ?_ ?_|refine H ?_|fail));all_goals conv=>whnf)
 refine ⟨{ σ:=Nat,fr:=fun k=>[(3,.c (.d (iD (k:Int))))],ks:=[],L:=fun k=>[],ex:=0,I:=fun k=>k≤m,μ:=fun k=>l.length - k },⟨0,Nat.zero_le _,?_⟩,fun (k:Nat) hk=>?_⟩
 ·((repeat' first|exact rfl|((conv=>whnf);first|done|exact suL|refine And.intro ?_ ?_|fail));all_goals conv=>whnf)
 ·replace hk:k≤m:=hk
  have e0:IntKind.i64.wrap ((k:Int)+1)=((k+1:Nat):Int):=by rw[wrapI (by omega)];rfl
  by_cases hlt:k<l.length
  ·have h2:(k:Int)<((l.map flD).length:Nat):=by rw[List.length_map];omega
   have hs:=stepZ_at (rf:=rf) hlt
   have hk1:k - 1<l.length:=by omega
   have c1:=In_d (gl:=gl) l[k].c l[k].r
   have c3:=Ahead_d (gl:=gl) (l[k - 1]'hk1).c (l[k - 1]'hk1).r l[k].c l[k].r
   have c4:=rText_d (gl:=gl) hR hE l[k].t
   have g1:=get_map (f:=flD) hlt
   have g2:=get_map (f:=flD) (show k - 1<l.length by omega)
   have e1:0<k→IntKind.i64.wrap ((k:Int) - 1)=((k - 1:Nat):Int):=fun _=>by rw[wrapI (by omega)];omega
   have stop:stepZ rf l k≠0→stepZ rf l k=r:=fun hn=>by
    have hkm:k=m:=Classical.byContradiction fun hh=>hn (h0 k (by omega))
    subst hkm
    rcases hr with ⟨hr,_⟩|⟨_,_,hr⟩
    ·omega
    ·exact hr
   have goon:stepZ rf l k=0→k<m:=fun hz=>by
    rcases hr with ⟨hr,_⟩|⟨_,he,hr⟩
    ·omega
    ·refine Nat.lt_of_le_of_ne hk fun hh=>?_
     subst hh
     omega
   by_cases ho:okP l[k].c l[k].r
   ·rw[if_pos ho] at hs
    by_cases hb:0<k→lessF (l[k - 1]'hk1) l[k]
    ·rw[if_pos hb] at hs
     have hcase:((k:Int)>0∧lessF (l[k - 1]'hk1) l[k])∨¬ (k:Int)>0:=by
      by_cases hp:(k:Int)>0
      ·exact .inl ⟨hp,hb (by omega)⟩
      ·exact .inr hp
     by_cases ht:l[k].t=[]
     ·rw[if_pos ht] at hs
      have he:=stop (by omega)
      obtain rfl:r=3:=by omega
      clear hs h0 hr hm stop goon hb
      rcases hcase with ⟨hp,hls⟩|hp
      ·replace e1:=e1 (by omega)
       ((repeat' ((conv=>whnf);first|exact .intro|refine G ?_|intro _|refine C1 c1 ?_|refine C1 c3 ?_|(first|rw[e1]|refine ⟨Int.natCast_nonneg _,_,g1,?_⟩|refine ⟨Int.natCast_nonneg _,_,g2,?_⟩)|refine .mk ?_ ?_|refine H ?_|fail));all_goals conv=>whnf)
       all_goals exact LeD.rfl
      ·clear e1
       ((repeat' ((conv=>whnf);first|exact .intro|refine G ?_|intro _|refine C1 c1 ?_|refine C1 c3 ?_|(first|refine ⟨Int.natCast_nonneg _,_,g1,?_⟩|refine ⟨Int.natCast_nonneg _,_,g2,?_⟩)|refine .mk ?_ ?_|refine H ?_|fail));all_goals conv=>whnf)
       all_goals exact LeD.rfl
     ·rw[if_neg ht] at hs
      by_cases hz:textZ rf l[k].t=0
      ·have hkm:k<m:=goon (by omega)
       rw[hz] at c4
       clear hs h0 hr hm stop goon hb
       rcases hcase with ⟨hp,hls⟩|hp
       ·replace e1:=e1 (by omega)
        ((repeat' ((conv=>whnf);first|exact .intro|refine G ?_|intro _|refine C1 c1 ?_|refine C1 c3 ?_|refine C1 c4 ?_|(first|rw[e1]|refine ⟨Int.natCast_nonneg _,_,g1,?_⟩|refine ⟨Int.natCast_nonneg _,_,g2,?_⟩)|refine .mk ?_ ?_|refine H ?_|fail));all_goals conv=>whnf)
        all_goals refine ⟨k+1,⟨hkm,by show l.length - (k+1)<l.length - k;omega⟩,?_⟩
        all_goals ((repeat' first|exact rfl|((conv=>whnf);first|done|exact suL|refine And.intro ?_ ?_|fail));all_goals conv=>whnf)
        all_goals exact ceq e0
       ·clear e1
        ((repeat' ((conv=>whnf);first|exact .intro|refine G ?_|intro _|refine C1 c1 ?_|refine C1 c3 ?_|refine C1 c4 ?_|(first|refine ⟨Int.natCast_nonneg _,_,g1,?_⟩|refine ⟨Int.natCast_nonneg _,_,g2,?_⟩)|refine .mk ?_ ?_|refine H ?_|fail));all_goals conv=>whnf)
        all_goals refine ⟨k+1,⟨hkm,by show l.length - (k+1)<l.length - k;omega⟩,?_⟩
        all_goals ((repeat' first|exact rfl|((conv=>whnf);first|done|exact suL|refine And.intro ?_ ?_|fail));all_goals conv=>whnf)
        all_goals exact ceq e0
      ·have he:=stop (by omega)
       have hr':textZ rf l[k].t=r:=by omega
       rw[hr'] at c4 hz
       clear hs h0 hr hm stop goon hb
       rcases hcase with ⟨hp,hls⟩|hp
       ·replace e1:=e1 (by omega)
        ((repeat' ((conv=>whnf);first|exact .intro|refine G ?_|intro _|refine C1 c1 ?_|refine C1 c3 ?_|refine C1 c4 ?_|(first|rw[e1]|refine ⟨Int.natCast_nonneg _,_,g1,?_⟩|refine ⟨Int.natCast_nonneg _,_,g2,?_⟩)|refine .mk ?_ ?_|refine H ?_|fail));all_goals conv=>whnf)
        all_goals exact LeD.rfl
       ·clear e1
        ((repeat' ((conv=>whnf);first|exact .intro|refine G ?_|intro _|refine C1 c1 ?_|refine C1 c3 ?_|refine C1 c4 ?_|(first|refine ⟨Int.natCast_nonneg _,_,g1,?_⟩|refine ⟨Int.natCast_nonneg _,_,g2,?_⟩)|refine .mk ?_ ?_|refine H ?_|fail));all_goals conv=>whnf)
        all_goals exact LeD.rfl
    ·rw[if_neg hb] at hs
     have he:=stop (by omega)
     obtain rfl:r=5:=by omega
     have hp:(k:Int)>0:=Classical.byContradiction fun hh=>hb fun h=>by omega
     have hls:¬ lessF (l[k - 1]'hk1) l[k]:=fun hh=>hb fun _=>hh
     replace e1:=e1 (by omega)
     clear hs h0 hr hk hm stop goon hb
     ((repeat' ((conv=>whnf);first|exact .intro|refine G ?_|intro _|refine C1 c1 ?_|refine C1 c3 ?_|(first|rw[e1]|refine ⟨Int.natCast_nonneg _,_,g1,?_⟩|refine ⟨Int.natCast_nonneg _,_,g2,?_⟩)|refine .mk ?_ ?_|refine H ?_|fail));all_goals conv=>whnf)
     all_goals exact LeD.rfl
   ·rw[if_neg ho] at hs
    have he:=stop (by omega)
    obtain rfl:r=1:=by omega
    clear hs h0 hr hm stop goon
    ((repeat' ((conv=>whnf);first|exact .intro|refine G ?_|intro _|refine C1 c1 ?_|(refine ⟨Int.natCast_nonneg _,_,g1,?_⟩)|refine .mk ?_ ?_|refine H ?_|fail));all_goals conv=>whnf)
    all_goals exact LeD.rfl
  ·have h2:¬ (k:Int)<((l.map flD).length:Nat):=by rw[List.length_map];omega
   have hkl:k=l.length:=by omega
   obtain rfl:r=0:=by
    rcases hr with ⟨_,hr⟩|⟨hr,_⟩
    ·exact hr
    ·omega
   ((repeat' ((conv=>whnf);first|exact .intro|refine G ?_|intro _|refine .mk ?_ ?_|refine H ?_|fail));all_goals conv=>whnf)
   all_goals exact LeD.rfl
theorem checks_d (te:TypeId) (pe:Value) (hV:Has gl (glV te pe)) (hl:Go.EYtfcmhmglpcimiaaGreatDoor.look gl 1=some lvAll) {rf:List UInt8→Option Rf} (hR:RefsOk rf) (hE:rf []=none) (l:List Fl) :
 (goodZ rf l∧FnP Tryz.prog gl 6 [.lst 3 (l.map flD)] (.v .nilIface)∧FnP Tryz.prog gl 5 [.lst 3 (l.map flD)] (iD 0))∨∃ e,e≠0∧FnP Tryz.prog gl 6 [.lst 3 (l.map flD)] (erD e)∧FnP Tryz.prog gl 5 [.lst 3 (l.map flD)] (iD e):=by
 by_cases h:l.length≤200
 ·rcases first_of (p:=fun k=>stepZ rf l k=0) l.length with h0|⟨m,h1,h2,h3⟩
  ·exact .inl ⟨⟨h,h0⟩,gCheck_m te pe hV hl hR l h l.length _ (Nat.le_refl _) h0 (.inl ⟨rfl,rfl⟩),rCheck_m hR hE l h l.length _ (Nat.le_refl _) h0 (.inl ⟨rfl,rfl⟩)⟩
  ·exact .inr ⟨_,h3,gCheck_m te pe hV hl hR l h m _ (Nat.le_of_lt h1) h2 (.inr ⟨h1,_,h3,rfl,rfl⟩),rCheck_m hR hE l h m _ (Nat.le_of_lt h1) h2 (.inr ⟨h1,h3,rfl⟩)⟩
 ·exact .inr ⟨4,by decide,gCheck_k l (by omega),rCheck_k l (by omega)⟩
theorem Err_e (e:Int) (h0:e≠0) (h:Go.EYtfcmhmglpcimiaaGreatDoor.look gl 0=some errT):FnP Tryz.prog gl 7 [erD e,iD e] (.v (.bool true)):=by
 have:=Error_d (gl:=gl) e e h
 unfold errD at this
 rw[if_neg h0] at this
 exact FnP.le this (LeD.vt rfl)
theorem Err_0 (h:Go.EYtfcmhmglpcimiaaGreatDoor.look gl 0=some errT):FnP Tryz.prog gl 7 [.v .nilIface,iD 0] (.v (.bool true)):=by
 have:=Error_d (gl:=gl) 0 0 h
 unfold errD at this
 rw[if_pos rfl] at this
 exact FnP.le this (LeD.vt rfl)
end
section
open Go Go.EYtfcmhmglpcimiaaGreatDoor
set_option maxHeartbeats 4000000
variable {gl:List (Nat×List D)}
theorem rOf_d (n:Nd) {box:Prop} (hf:frmN n box) (hc:cntN n≤200):FnP Tryz.prog gl 24 [.agg n.cs] (.lst 2 ((refsZ n).map rowC)):=by
 have c0:=seen_h (gl:=gl) n hf hc (List.replicate 2700 false) List.length_replicate
 have hms:=marks_sorted (cellsN n) (cellsN_few n hf).2
 have hml:=markL_len (cellsN n) (List.replicate 2700 false)
 rw[List.length_replicate] at hml
 unfold refsZ
 rw[← hms]
 clear hms
 generalize markL (cellsN n) (List.replicate 2700 false)=ms at *
 obtain ⟨k,m,t,a,b,ks⟩:=n
 refine S0 Tryz.func24 rfl ?_
 ((repeat' ((conv=>whnf);first|exact .intro|refine G ?_|intro _|refine C5 c0 [1] ?_|refine .mk ?_ ?_|refine H ?_|fail));all_goals conv=>whnf)
 refine ⟨{ σ:=Nat,fr:=fun x=>[(5,.c (.d (iD (x:Int)))),(4,.c (.all 2 2))],ks:=[],L:=fun x=>[(2,.rows 2 ((ofU ms x).map rowC) 39)],ex:=1,I:=fun x=>x≤2700,μ:=fun x=>2700 - x },⟨0,Nat.zero_le _,?_⟩,fun (x:Nat) hx=>?_⟩
 ·((repeat' first|exact rfl|((conv=>whnf);first|done|exact suL|refine And.intro ?_ ?_|fail));all_goals conv=>whnf)
  all_goals first|exact .inr (.inr (.inl ⟨rfl,2,2,rfl,by decide⟩))|exact ⟨2,_,rfl,by decide,by decide⟩|skip
 ·replace hx:x≤2700:=hx
  by_cases hlt:x<2700
  ·have h2:(x:Int)<2700:=by omega
   have g1:=get_map (f:=rowB) (show x<ms.length by omega)
   have hsu:=ofU_succ ms x
   rw[List.getElem?_eq_getElem (by omega),Option.getD_some] at hsu
   have hol:=ofU_len ms x
   have hrl:((ofU ms x).map rowC).length=(ofU ms x).length:=List.length_map _
   have b1:(((ofU ms x).map rowC).length+1) * 16≤140737488355328:=by omega
   have b2:((ofU ms x).map rowC).length+1≤maxLen:=by unfold maxLen;omega
   have e0:IntKind.i64.wrap ((x:Int)+1)=((x+1:Nat):Int):=by rw[wrapI (by omega)];rfl
   have e3:(x:Int).tmod 27=((x % 27:Nat):Int):=(Int.ofNat_tmod x 27).symm
   have e4:IntKind.i64.wrap ((x:Int).tdiv 27)=((x / 27:Nat):Int):=by
    have h:(x:Int).tdiv 27=((x / 27:Nat):Int):=(Int.ofNat_tdiv x 27).symm
    rw[h]
    exact wrapI (by omega)
   generalize ms[x]'(by omega)=b at *
   cases b with
   | true =>
    rw[if_pos rfl] at hsu
    ((repeat' ((conv=>whnf);first|exact .intro|refine G ?_|intro _|(first|refine ⟨⟨Int.natCast_nonneg _,h2⟩,?_⟩|refine ⟨_,g1,?_⟩|refine ⟨⟨rfl,b1,b2⟩,?_⟩)|refine .mk ?_ ?_|refine H ?_|fail));all_goals conv=>whnf)
    all_goals refine ⟨x+1,⟨hlt,by show 2700 - (x+1)<2700 - x;omega⟩,?_⟩
    all_goals ((repeat' first|exact rfl|((conv=>whnf);first|done|exact suL|refine And.intro ?_ ?_|fail));all_goals conv=>whnf)
    all_goals first|exact ceq e0|(rw[hsu,List.map_append,e3,e4];rfl)|skip
   | false =>
    rw[if_neg (by simp)] at hsu
    ((repeat' ((conv=>whnf);first|exact .intro|refine G ?_|intro _|(first|refine ⟨⟨Int.natCast_nonneg _,h2⟩,?_⟩|refine ⟨_,g1,?_⟩)|refine .mk ?_ ?_|refine H ?_|fail));all_goals conv=>whnf)
    all_goals refine ⟨x+1,⟨hlt,by show 2700 - (x+1)<2700 - x;omega⟩,?_⟩
    all_goals ((repeat' first|exact rfl|((conv=>whnf);first|done|exact suL|refine And.intro ?_ ?_|fail));all_goals conv=>whnf)
    all_goals first|exact ceq e0|(rw[hsu];done)|skip
  ·have h2:¬ (x:Int)<2700:=by omega
   obtain rfl:x=2700:=by omega
   ((repeat' ((conv=>whnf);first|exact .intro|refine G ?_|intro _|refine .mk ?_ ?_|refine H ?_|fail));all_goals conv=>whnf)
   all_goals exact LeD.rfl
end
end Go.Proofs.YtfcmhmglpcimiaaGreatDoor
