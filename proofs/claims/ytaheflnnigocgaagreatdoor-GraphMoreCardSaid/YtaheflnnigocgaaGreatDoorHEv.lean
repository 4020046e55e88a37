/- Proved: a part of what the law is proved with (the reckoner, contracts of functions, plain laws). Conditions: as each says. -/
import Derived.Test.YtaheflnnigocgaaGreatDoorHEe
section
namespace Go.EYtaheflnnigocgaaGreatDoor
open Go Go.RowKit
def keyS:Nat→D→Bool
 | 1,.v (.int .i64 _)=>true
 | 2,.str _=>true
 | 3,.agg [.v (.int .i64 _),.v (.int .i64 _)]=>true
 | _,_=>false
theorem keyS_cases {s:Nat} {d:D} (h:keyS s d=true):(s=1∧∃ n,d=.v (.int .i64 n))∨(s=2∧∃ l,d=.str l)∨(s=3∧∃ a b,d=.agg [.v (.int .i64 a),.v (.int .i64 b)]):=by
 unfold keyS at h
 split at h
 ·exact .inl ⟨rfl,_,rfl⟩
 ·exact .inr (.inl ⟨rfl,_,rfl⟩)
 ·exact .inr (.inr ⟨rfl,_,_,rfl⟩)
 ·cases h
theorem keyS_some {s:Nat} {d:D} (h:keyS s d=true):∃ x,keyV d=some x:=by
 rcases keyS_cases h with ⟨_,n,rfl⟩|⟨_,l,rfl⟩|⟨_,a,b,rfl⟩ <;> exact ⟨_,rfl⟩
theorem keyS_inj {s:Nat} {d e:D} (h:keyS s d=true) (h':keyS s e=true) (hh:keyV d=keyV e):d=e:=by
 rcases keyS_cases h with ⟨rfl,n,rfl⟩|⟨rfl,l,rfl⟩|⟨rfl,a,b,rfl⟩ <;> rcases keyS_cases h' with ⟨e1,m,rfl⟩|⟨e1,m,rfl⟩|⟨e1,c,d,rfl⟩ <;> first|cases e1|skip
 ·simp only[keyV,Option.some.injEq,Value.int.injEq] at hh
  rw[hh.2]
 ·simp only[keyV,Option.some.injEq,Value.string.injEq,ByteArray.mk.injEq] at hh
  rw[Array.mk.inj hh]
 ·simp[keyV] at hh
  rw[hh.1,hh.2]
theorem keyV_den {M:Nat→Prop} {w:World} {d:D} {x y:Value} {s:Nat} (h:keyS s d=true) (hk:keyV d=some x) (hd:DenD M w d y):y=x:=by
 rcases keyS_cases h with ⟨_,n,rfl⟩|⟨_,l,rfl⟩|⟨_,a,b,rfl⟩
 ·cases hk;exact DenD.v_inv hd
 ·cases hk;exact DenD.str_inv hd
 ·cases hk
  obtain ⟨xs,rfl,h1⟩:=hd.agg_inv
  match xs,h1 with
  | [u,v],⟨h1,h2,_⟩ =>
   rw[DenD.v_inv h1,DenD.v_inv h2]
structure KeyT (P:Program) (t:TypeId) (s:Nat):Prop where
 check:∀ (w:World) (em:Bool) (d:D) (x:Value),keyS s d=true→keyV d=some x→(Instr.checkKey em 10000 t x).run P w=.ok () w
 find:∀ (w:World) (d:D) (x:Value) (es:List MapEntry),keyS s d=true→keyV d=some x→(∀ e ∈ es,∃ d',keyS s d'=true∧keyV d'=some e.key)→
  ((Instr.findKey t x es).run P w=.ok none w∧∀ e ∈ es,e.key≠x)∨∃ (j:Nat) (e:MapEntry),(Instr.findKey t x es).run P w=.ok (some (j,e.val)) w∧es[j]?=some e∧e.key=x
theorem find_ask {P:Program} {t:TypeId} {s:Nat} (heq:∀ (w:World) (d e:D) (x y:Value),keyS s d=true→keyS s e=true→keyV d=some x→keyV e=some y→∃ b:Bool,(Op.equal t x y).run P w=.ok b w∧(b=true↔y=x)) (w:World) (d:D) (x:Value) (hs:keyS s d=true) (hx:keyV d=some x) :
 ∀ (es:List MapEntry) (i:Nat),(∀ e ∈ es,∃ d',keyS s d'=true∧keyV d'=some e.key)→((Instr.findAsking t x es i).run P w=.ok none w∧∀ e ∈ es,e.key≠x)∨∃ (j:Nat) (e:MapEntry),(Instr.findAsking t x es i).run P w=.ok (some (i+j,e.val)) w∧es[j]?=some e∧e.key=x
 | [],i,_=>.inl ⟨by simp[Instr.findAsking],by simp⟩
 | e::es,i,he=>by
  obtain ⟨d',h1,h2⟩:=he e (by simp)
  obtain ⟨b,hb,hbi⟩:=heq w d d' x e.key hs h1 hx h2
  cases b with
  | true=>exact .inr ⟨0,e,by simp[Instr.findAsking,hb],rfl,hbi.1 rfl⟩
  | false =>
   have hne:e.key≠x:=fun h=>by have:=hbi.2 h;cases this
   rcases find_ask heq w d x hs hx es (i+1) (fun e' h'=>he e' (by simp[h'])) with ⟨g1,g2⟩|⟨j,e',g1,g2,g3⟩
   ·refine .inl ⟨by simp[Instr.findAsking,hb,g1],fun e' h'=>?_⟩
    rcases List.mem_cons.1 h' with rfl|h'
    ·exact hne
    ·exact g2 e' h'
   ·refine .inr ⟨j+1,e',?_,by simpa using g2,g3⟩
    have:i+(j+1)=i+1+j:=by omega
    simp[Instr.findAsking,hb,g1,this]
theorem keyT_of {P:Program} {t:TypeId} {s:Nat} (hchk:∀ (w:World) (em:Bool) (d:D) (x:Value),keyS s d=true→keyV d=some x→(Instr.checkKey em 10000 t x).run P w=.ok () w)
 (heq:∀ (w:World) (d e:D) (x y:Value),keyS s d=true→keyS s e=true→keyV d=some x→keyV e=some y→∃ b:Bool,(Op.equal t x y).run P w=.ok b w∧(b=true↔y=x))
 {k:TypeDesc} (hu:P.underlying t=some k) (hnow:∀ (x:Value) (y:Value),Instr.sameNow k x y=none):KeyT P t s:=by
 refine ⟨hchk,fun w d x es hs hx he=>?_⟩
 have hf:es≠[]→(Instr.findKey t x es).run P w=(Instr.findAsking t x es).run P w:=fun hne=>by
  cases es with
  | nil=>exact absurd rfl hne
  | cons e es=>simp[Instr.findKey,run_underlying hu,Instr.findNow,hnow]
 cases es with
 | nil=>exact .inl ⟨by simp[Instr.findKey,run_underlying hu,Instr.findNow],by simp⟩
 | cons e es =>
  rw[hf (by simp)]
  rcases find_ask heq w d x hs hx (e::es) 0 he with h|⟨j,e',g1,g2,g3⟩
  ·exact .inl h
  ·exact .inr ⟨j,e',by rw[g1,Nat.zero_add],g2,g3⟩
theorem key_stays {P:Program} (w:World) {s:Nat} {d:D} {x:Value} (h:keyS s d=true) (hx:keyV d=some x):(Instr.keyThatStays x x).run P w=.ok x w:=by
 have hb:Instr.sameBits 10000 x x=true:=by
  rcases keyS_cases h with ⟨_,n,rfl⟩|⟨_,l,rfl⟩|⟨_,a,b,rfl⟩
  ·cases hx;simp[Instr.sameBits]
  ·cases hx
   exact (bytes_eq l l).trans (decide_eq_true rfl)
  ·cases hx;simp[Instr.sameBits]
 simp[Instr.keyThatStays,hb]
section
variable {P:Program} {M:Nat→Prop} {w:World} {ks vs:List D} {es:Array MapEntry}
theorem MapOk.keysS (h:MapOk M w ks vs es) {s:Nat} (hs:∀ d ∈ ks,keyS s d=true):∀ e ∈ es.toList,∃ d',keyS s d'=true∧keyV d'=some e.key:=fun e he=>by
 obtain ⟨j,hj,rfl⟩:=List.getElem_of_mem he
 have hj':j<ks.length:=by rw[h.1];simpa using hj
 refine ⟨ks[j],hs _ (List.getElem_mem hj'),h.2.2.2.1 j _ _ (List.getElem?_eq_getElem hj') ?_⟩
 rw[← Array.getElem?_toList,List.getElem?_eq_getElem hj]
theorem MapOk.find (h:MapOk M w ks vs es) {t:TypeId} {s:Nat} (K:KeyT P t s) (hs:∀ d ∈ ks,keyS s d=true) {kd:D} {x:Value} (hk:keyS s kd=true) (hx:keyV kd=some x) (w':World) :
 (kd ∉ ks∧(Instr.findKey t x es.toList).run P w'=.ok none w')∨∃ (j:Nat) (e:MapEntry),ks[j]?=some kd∧es[j]?=some e∧e.key=x∧(Instr.findKey t x es.toList).run P w'=.ok (some (j,e.val)) w':=by
 rcases K.find w' kd x es.toList hk hx (h.keysS hs) with ⟨h1,h2⟩|⟨j,e,h1,h2,h3⟩
 ·refine .inl ⟨fun hm=>?_,h1⟩
  obtain ⟨j,hj,hjk⟩:=List.getElem_of_mem hm
  have hj':j<es.size:=by rw[← h.1];exact hj
  have:=h.2.2.2.1 j kd es[j] (by rw[List.getElem?_eq_getElem hj,hjk]) (Array.getElem?_eq_getElem hj')
  rw[hx] at this
  exact h2 _ (by simp) (Option.some.inj this).symm
 ·rw[Array.getElem?_toList] at h2
  have hj':j<es.size:=(Array.getElem?_eq_some_iff.1 h2).1
  have hj:j<ks.length:=by rw[h.1];exact hj'
  have h4:=h.2.2.2.1 j _ _ (List.getElem?_eq_getElem hj) h2
  have h5:ks[j]=kd:=keyS_inj (hs _ (List.getElem_mem hj)) hk (by rw[h4,hx,h3])
  exact .inr ⟨j,e,by rw[List.getElem?_eq_getElem hj,h5],h2,h3,h1⟩
theorem MapOk.push (h:MapOk M w ks vs es) {kd v:D} {x y:Value} (hn:kd ∉ ks) (hx:keyV kd=some x) (hv:DenD M w v y) (born:Nat):MapOk M w (ks++[kd]) (vs++[v]) (es.push { key:=x,val:=y,born:=born }):=by
 obtain ⟨h1,h2,h3,h4,h5⟩:=h
 have at_:∀ {l:List D} {d0:D} {j:Nat} {d:D} {e:MapEntry},l.length=es.size→(l++[d0])[j]?=some d→(es.push { key:=x,val:=y,born:=born })[j]?=some e→(l[j]?=some d∧es[j]?=some e)∨(d=d0∧e={ key:=x,val:=y,born:=born }):=fun {l d0 j d e} hl hd he=>by
  rw[Array.getElem?_push] at he
  by_cases hj:j=es.size
  ·rw[if_pos hj] at he
   rw[List.getElem?_append_right (by omega)] at hd
   have:j - l.length=0:=by omega
   rw[this] at hd
   simp at hd he
   exact .inr ⟨hd.symm,he.symm⟩
  ·rw[if_neg hj] at he
   have hj2:j<es.size:=(Array.getElem?_eq_some_iff.1 he).1
   rw[List.getElem?_append_left (by omega)] at hd
   exact .inl ⟨hd,he⟩
 refine ⟨by simp[h1],by simp[h2],?_,fun j d e hd he=>?_,fun j d e hd he=>?_⟩
 ·rw[List.nodup_append]
  exact ⟨h3,by simp,fun a ha b hb=>by rw[List.mem_singleton.1 hb];rintro rfl;exact hn ha⟩
 ·rcases at_ h1 hd he with ⟨g1,g2⟩|⟨rfl,rfl⟩
  ·exact h4 j d e g1 g2
  ·exact hx
 ·rcases at_ h2 hd he with ⟨g1,g2⟩|⟨rfl,rfl⟩
  ·exact h5 j d e g1 g2
  ·exact hv
theorem MapOk.put (h:MapOk M w ks vs es) {kd v:D} {x y:Value} {i:Nat} (hi:ks[i]?=some kd) (hx:keyV kd=some x) (hv:DenD M w v y):MapOk M w ks (vs.set i v) (es.modify i fun e=>{ e with key:=x,val:=y }):=by
 obtain ⟨h1,h2,h3,h4,h5⟩:=h
 refine ⟨by simp[h1],by simp[h2],h3,fun j d e hd he=>?_,fun j d e hd he=>?_⟩
 ·rw[Array.getElem?_modify] at he
  by_cases hij:i=j
  ·subst hij
   rw[if_pos rfl] at he
   obtain ⟨e0,_,rfl⟩:=Option.map_eq_some_iff.1 he
   rw[hi] at hd
   cases hd
   exact hx
  ·rw[if_neg hij] at he
   exact h4 j d e hd he
 ·rw[Array.getElem?_modify] at he
  rw[List.getElem?_set] at hd
  by_cases hij:i=j
  ·subst hij
   rw[if_pos rfl] at he hd
   obtain ⟨e0,_,rfl⟩:=Option.map_eq_some_iff.1 he
   split at hd
   ·cases hd;exact hv
   ·cases hd
  ·rw[if_neg hij] at he hd
   exact h5 j d e hd he
end
def mapSet (w:World) (b:Nat) (o:Obj):World:={ w with heap:=w.heap.setIfInBounds b o }
theorem mapSet_at {w:World} {b:Nat} {es:Array MapEntry} {cl:Nat} (h:w.heap[b]?=some (.map es cl)) (o:Obj):(mapSet w b o).heap[b]?=some o:=by
 have hb:b<w.heap.size:=(Array.getElem?_eq_some_iff.1 h).1
 show (w.heap.setIfInBounds b o)[b]?=_
 rw[Array.getElem?_setIfInBounds,if_pos rfl,if_pos hb]
theorem mapSet_evo {w:World} {b:Nat} {es es':Array MapEntry} {cl cl':Nat} (h:w.heap[b]?=some (.map es cl)):Evo (fun x=>x=b) w (mapSet w b (.map es' cl')):=by
 refine ⟨rfl,rfl,rfl,?_,fun x hx hn=>?_,fun x c e f hc=>?_⟩
 ·show w.heap.size≤(w.heap.setIfInBounds b _).size
  rw[Array.size_setIfInBounds]
  exact Nat.le_refl _
 ·show (w.heap.setIfInBounds b _)[x]?=_
  rw[Array.getElem?_setIfInBounds,if_neg (fun e=>hn e.symm)]
 ·refine ⟨c,?_,rfl⟩
  by_cases hxb:x=b
  ·subst hxb
   rw[h] at hc
   cases hc
  ·show (w.heap.setIfInBounds b _)[x]?=_
   rw[Array.getElem?_setIfInBounds,if_neg (fun e=>hxb e.symm)]
   exact hc
section
variable {P:Program} {gl:List (Nat×List D)} {M0 S0:Nat→Prop} {w0:Base} {N:Nat} {adr:Env} {fr:List (Nat×V)} {L:List (Nat×Blk)} {n:Nat} {a:Act} {w:World}
theorem run_mapUpdate {t kt et:TypeId} {s:Nat} (ht:P.underlying t=some (.map kt et)) (K:KeyT P kt s) {M:Nat→Prop} {ks vs:List D} {es:Array MapEntry} {cl b:Nat} (hb:w.heap[b]?=some (.map es cl)) (hm:MapOk M w ks vs es) (hs:∀ d ∈ ks,keyS s d=true) {kd vd:D} {x y:Value} (hk:keyS s kd=true) (hx:keyV kd=some x) (hv:DenD M w vd y) :
 (kd ∉ ks→∃ es' cl',(Instr.mapUpdate t (.map (some b)) x y).run P w=.ok () (mapSet w b (.map es' cl'))∧MapOk M w (ks++[kd]) (vs++[vd]) es')∧
 ∀ i,ks[i]?=some kd→∃ es' cl',(Instr.mapUpdate t (.map (some b)) x y).run P w=.ok () (mapSet w b (.map es' cl'))∧MapOk M w ks (vs.set i vd) es':=by
 refine ⟨fun hn=>?_,fun i hi=>?_⟩
 ·rcases hm.find K hs hk hx w with ⟨_,hf⟩|⟨j,e,hj,_⟩
  ·refine ⟨es.push { key:=x,val:=y,born:=cl },cl+1,?_,hm.push hn hx hv cl⟩
   simp[Instr.mapUpdate,run_underlying ht,MapKept.run_getObj_map hb,K.check w false kd x hk hx,hf,MapKept.run_setObj_map _ hb,Result.andThen,mapSet]
  ·exact absurd (List.mem_of_getElem? hj) hn
 ·rcases hm.find K hs hk hx w with ⟨hn,_⟩|⟨j,e,hj,he,hek,hf⟩
  ·exact absurd (List.mem_of_getElem? hi) hn
  ·have hji:j=i:=(List.getElem?_inj (List.getElem?_eq_some_iff.1 hj).1 hm.2.2.1).1 (hj.trans hi.symm)
   subst hji
   refine ⟨es.modify j fun e=>{ e with key:=x,val:=y },cl,?_,hm.put hi hx hv⟩
   have hst:(Instr.keyThatStays e.key x).run P w=.ok x w:=by rw[hek];exact key_stays w hk hx
   simp[Instr.mapUpdate,run_underlying ht,MapKept.run_getObj_map hb,K.check w false kd x hk hx,hf,he,hst,MapKept.run_setObj_map _ hb,Result.andThen,mapSet]
theorem Ok.setE (h:Ok gl M0 S0 w0 N adr fr L n a w) {k b m:Nat} {B B':Blk} {w':World} (hk:look L k=some B) (ha:adr k=some (some b,m)) (hE:Evo (fun x=>x=b) w w')
 (hB:LocB adr (Mut M0 adr L) w' (some (some b,m)) B'):Ok gl M0 S0 w0 N adr fr (setL L k B') n a w':=by
 have hS:∀ x,x<w.heap.size→x=b→Mut M0 adr L x:=fun x _ e=>e ▸ .inr ⟨k,B,m,hk,ha⟩
 have hM:∀ x,x<w.heap.size→Mut M0 adr (setL L k B') x→Mut M0 adr L x:=fun x _ hx=>mut_setL.1 hx
 refine h.move hE (fun x hx e=>⟨hS x hx e,e ▸ h.new k B b m hk ha⟩) hM (fun t s hl=>⟨hl,fun _ _ _ he=>he⟩) ?_ ?_ (fun k _ hk=>⟨hk,rfl⟩)
 ·refine ⟨fun j C hl=>?_,h.wok.fresh,fun j C hl=>?_,fun j j' B1 B2 b' m1 m2 h1 h2 h3 h4=>?_,fun j C b' m' hl ha'=>?_,fun x hx=>Nat.lt_of_lt_of_le (h.wok.bound x hx) hE.size⟩
  ·rw[look_setL] at hl
   by_cases e:j=k
   ·rw[e];exact h.wok.keys k B hk
   ·rw[if_neg e] at hl;exact h.wok.keys j C hl
  ·rw[look_setL] at hl
   rw[mut_setL_eq]
   by_cases e:j=k
   ·rw[if_pos e,e,hk] at hl
    cases hl
    rw[e,ha];exact hB
   ·rw[if_neg e] at hl
    refine (h.wok.loc j C hl).evo hE hS (fun _ _ h=>h) (fun b' m' he hb'=>?_) (fun _ _ _ _ _ _ _ _ he=>he)
    refine hE.block b' hb' (fun hbb=>?_)
    subst hbb
    exact e (h.wok.inj j k C B b' m' m hl hk he ha)
  ·have:∀ j B,look (setL L k B') j=some B→∃ B,look L j=some B:=fun j B hl=>by
    rw[look_setL] at hl
    split at hl
    ·obtain ⟨B2,hB2,_⟩:=Option.map_eq_some_iff.1 hl;exact ⟨B2,hB2⟩
    ·exact ⟨B,hl⟩
   obtain ⟨C1,g1⟩:=this _ _ h1
   obtain ⟨C2,g2⟩:=this _ _ h2
   exact h.wok.inj j j' C1 C2 b' m1 m2 g1 g2 h3 h4
  ·rw[look_setL] at hl
   split at hl
   ·obtain ⟨B2,hB2,_⟩:=Option.map_eq_some_iff.1 hl;exact h.wok.prot j B2 b' m' hB2 ha'
   ·exact h.wok.prot j C b' m' hl ha'
 ·intro j C b' m' hl ha'
  rw[look_setL] at hl
  split at hl
  ·obtain ⟨B2,hB2,_⟩:=Option.map_eq_some_iff.1 hl;exact h.new j B2 b' m' hB2 ha'
  ·exact h.new j C b' m' hl ha'
theorem Ok.setMap (h:Ok gl M0 S0 w0 N adr fr L n a w) {k b m:Nat} {ks vs ks' vs':List D} {es es':Array MapEntry} {cl cl':Nat} (hk:look L k=some (.mp ks vs)) (ha:adr k=some (some b,m)) (hb:w.heap[b]?=some (.map es cl)) (hm:MapOk (Mut M0 adr L) w ks' vs' es') :
 Ok gl M0 S0 w0 N adr fr (setL L k (.mp ks' vs')) n a (mapSet w b (.map es' cl')) :=
 h.setE hk ha (mapSet_evo hb) ⟨es',cl',mapSet_at hb _,hm.evo (mapSet_evo hb:Evo (fun x=>x=b) w _) (fun _x _ e=>e ▸ .inr ⟨k,_,m,hk,ha⟩) (fun _ _ h=>h)⟩
theorem Ok.pushMap (h:Ok gl M0 S0 w0 N adr fr L n a w):Ok gl M0 S0 w0 N (adrPush adr n (some w.heap.size,0)) fr ((n,.mp [] [])::L) (n+1) a (w.alloc (.map #[] 0)) :=
 h.push ⟨#[],0,by show (w.heap.push _)[w.heap.size]?=_;simp,rfl,rfl,by simp,fun j d e h1=>by simp at h1,fun j d e h1=>by simp at h1⟩
end
end Go.EYtaheflnnigocgaaGreatDoor
end
