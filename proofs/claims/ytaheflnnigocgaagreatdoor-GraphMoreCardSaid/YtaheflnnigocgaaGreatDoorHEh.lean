/- Proved: a part of what the law is proved with (the reckoner, contracts of functions, plain laws). Conditions: as each says. -/
import Derived.Great.BuildSlice
import Derived.Laws.MakeOwn
import Derived.Lib.AppendStr
import Derived.Test.YtaheflnnigocgaaGreatDoorHEg
section
namespace Go.EYtaheflnnigocgaaGreatDoor
open Go Go.RowKit
section
variable {gl:List (Nat×List D)} {M0 S0:Nat→Prop} {w0:Base} {N:Nat} {adr:Env} {fr:List (Nat×V)} {L:List (Nat×Blk)} {n:Nat} {a:Act} {w:World}
theorem Evo.drew (S:Nat→Prop) (w:World):Evo S w w.drew:=⟨rfl,rfl,rfl,Nat.le_refl _,fun _ _ _=>rfl,fun _ cur _ _ h=>⟨cur,h,rfl⟩⟩
theorem WOk.evo {w':World} (h:WOk M0 adr L n w) (hE:Evo (fun _=>False) w w'):WOk M0 adr L n w' :=
 ⟨h.keys,h.fresh,fun k B hl=>(h.loc k B hl).evo hE (fun _ _ h=>h.elim) (fun _ _ h=>h) (fun b _ _ hb=>hE.block b hb (fun h=>h)) (fun _ _ _ _ _ _ _ _ he=>he),h.inj,h.prot,fun b hb=>Nat.lt_of_lt_of_le (h.bound b hb) hE.size⟩
theorem Ok.evo {w':World} (h:Ok gl M0 S0 w0 N adr fr L n a w) (hE:Evo (fun _=>False) w w'):Ok gl M0 S0 w0 N adr fr L n a w' :=
 h.move hE (fun _ _ hs=>hs.elim) (fun _ _ hm=>hm) (fun _ _ hl=>⟨hl,fun _ _ _ he=>he⟩) (h.wok.evo hE) h.new (fun _ _ hk=>⟨hk,rfl⟩)
theorem Ok.drew (h:Ok gl M0 S0 w0 N adr fr L n a w):Ok gl M0 S0 w0 N adr fr L n a w.drew:=h.evo (Evo.drew _ w)
theorem killL_kill (h:WOk M0 adr L n w) (k:Nat):WOk M0 adr (killL k L) n w:=by
 have hm:Mut M0 adr (killL k L)=Mut M0 adr L:=funext fun _=>propext mut_killL
 have lk:∀ j B,look (killL k L) j=some B→∃ B0,look L j=some B0∧B=killB k B0:=fun j B hl=>by
  rw[look_killL] at hl
  obtain ⟨B0,h1,h2⟩:=Option.map_eq_some_iff.1 hl
  exact ⟨B0,h1,h2.symm⟩
 refine ⟨fun j B hl=>?_,h.fresh,fun j B hl=>?_,fun j j' B1 B2 b m m' h1 h2 h3 h4=>?_,fun j B b m hl ha=>?_,h.bound⟩
 ·obtain ⟨B0,h1,_⟩:=lk j B hl;exact h.keys j B0 h1
 ·obtain ⟨B0,h1,rfl⟩:=lk j B hl
  have hlo:=h.loc j B0 h1
  rw[hm]
  cases B0 with
  | rows z l e=>exact hlo
  | mp ks vs=>exact hlo
  | var l t =>
   cases hq:adr j with
   | none=>rw[hq] at hlo;exact hlo.elim
   | some q =>
    obtain ⟨q1,q2⟩:=q
    cases q1 with
    | none=>rw[hq] at hlo;exact hlo.elim
    | some b=>rw[hq] at hlo;obtain ⟨xs,g2,g3⟩:=hlo;exact ⟨xs,g2,killC_den g3⟩
 ·obtain ⟨C1,g1,_⟩:=lk _ _ h1
  obtain ⟨C2,g2,_⟩:=lk _ _ h2
  exact h.inj j j' C1 C2 b m m' g1 g2 h3 h4
 ·obtain ⟨B0,h1,_⟩:=lk j B hl;exact h.prot j B0 b m h1 ha
theorem Ok.kill (h:Ok gl M0 S0 w0 N adr fr L n a w) (k:Nat):Ok gl M0 S0 w0 N adr (killF k fr) (killL k L) n a w:=by
 have hm:Mut M0 adr (killL k L)=Mut M0 adr L:=funext fun _=>propext mut_killL
 have h':=h.fewer (fr':=killF k fr) (fun t s hl=>by rcases look_killF hl with h1|h1;exact .inl h1;exact .inr h1.1)
 refine ⟨h.size,h.defers,by rw[hm];exact h'.fr,killL_kill h.wok k,by rw[hm];exact h.glob,h.base,fun j B b m hl ha=>?_,h.same⟩
 rw[look_killL] at hl
 obtain ⟨B0,h1,_⟩:=Option.map_eq_some_iff.1 hl
 exact h.new j B0 b m h1 ha
theorem setL_same {k:Nat} {B:Blk}:∀ {L:List (Nat×Blk)},look L k=some B→setL L k B=L
 | [],h=>by cases h
 | (j,B')::r,h=>by
  rw[look_cons] at h
  simp only[setL]
  cases hb:Nat.beq j k with
  | true =>
   have e:=Nat.eq_of_beq_eq_true hb
   rw[if_pos e] at h;cases h;rfl
  | false =>
   have e:=Nat.ne_of_beq_eq_false hb
   rw[if_neg e] at h
   simp only[cond_false]
   rw[setL_same h]
end
def onRows (L:List (Nat×Blk)) (z:Nat) (c:C) (K:List (List D)→Prop):Prop :=
 match c with
 | .all z' k=>onB (Nat.beq z' z) (match look L k with
  | some (.rows z'' l _)=>onB (Nat.beq z'' z) (K l)
  | _=>False)
 | .own z' k i q=>onB (Nat.beq z' z) (match look L k with
  | some (.rows z'' l _)=>onB (Nat.beq z'' z) (i+q≤l.length∧K ((l.drop i).take q))
  | _=>False)
 | .d (.lst z' l)=>onB (Nat.beq z' z) (K l)
 | .d (.v (.slice none 0 0))=>K []
 | _=>False
def RowsAt (M:Nat→Prop) (w:World) (z:Nat) (rs:List (List D)) (x:Value):Prop :=
 (∀ r ∈ rs,r.length=z)∧∃ (a:Option Addr) (c:Nat) (xs:List Value),x=.slice a rs.length c∧DenL M w rs.flatten xs∧xs.length=rs.length * z∧(rs=[]∨∃ ad,a=some ad∧∀ (j:Nat) u,xs[j]?=some u→w.cell? (ad.add j)=some u)
theorem get2_flat {z i j:Nat}:∀ {l:List (List D)},(∀ r ∈ l,r.length=z)→j<z→l.flatten[i * z+j]?=get2 l i j
 | [],_,_=>by simp[get2]
 | r::l,h,hj=>by
  have hr:=h r (by simp)
  have hrest:∀ r' ∈ l,r'.length=z:=fun r' hr'=>h r' (by simp[hr'])
  simp only[List.flatten_cons]
  cases i with
  | zero =>
   rw[Nat.zero_mul,Nat.zero_add,List.getElem?_append_left (by omega)]
   simp[get2]
  | succ i =>
   have e:(i+1) * z+j=r.length+(i * z+j):=by rw[hr,Nat.add_mul];omega
   rw[e,List.getElem?_append_right (by omega),show r.length+(i * z+j) - r.length=i * z+j by omega,get2_flat hrest hj]
   simp[get2]
theorem get2_lt {z i j:Nat} {l:List (List D)} {d:D} (h:∀ r ∈ l,r.length=z) (hg:get2 l i j=some d):i<l.length∧j<z:=by
 simp only[get2,Option.bind_eq_some_iff] at hg
 obtain ⟨r,h1,h2⟩:=hg
 have h3:=h r (List.mem_of_getElem? h1)
 exact ⟨(List.getElem?_eq_some_iff.1 h1).1,by rw[← h3];exact (List.getElem?_eq_some_iff.1 h2).1⟩
theorem lst_rows {M:Nat→Prop} {w:World} {z:Nat} {l:List (List D)} {x:Value} (h:DenD M w (.lst z l) x):RowsAt M w z l x:=by
 cases h with
 | lst0 _ a c hc=>exact ⟨by simp,a,c,[],rfl,trivial,by simp,.inl rfl⟩
 | lst _ _ b o c cs hb hM hl hc hz hcell hden =>
  have hfl:=flatten_length hz
  have hzz:∀ j,j<l.length * z→0<z:=fun j hj=>by
   rcases Nat.eq_zero_or_pos z with h0|h0
   ·rw[h0] at hj;simp at hj
   ·exact h0
  refine ⟨hz,_,c,(List.range (l.length * z)).map fun j=>cs (j / z) (j % z),rfl,?_,by simp,.inr ⟨_,rfl,fun j u hj=>?_⟩⟩
  ·refine All2.of_get (by simpa using hfl) fun j d x h1 h2=>?_
   have hjlt:j<l.length * z:=by rw[← hfl];exact (List.getElem?_eq_some_iff.1 h1).1
   rw[List.getElem?_map,List.getElem?_range hjlt] at h2
   simp only[Option.map_some,Option.some.injEq] at h2;subst h2
   have hz0:=hzz j hjlt
   have hm:=Nat.mod_lt j hz0
   have e:j / z * z+j % z=j:=by rw[Nat.mul_comm];exact Nat.div_add_mod j z
   have:=get2_flat (i:=j / z) hz hm
   rw[e,h1] at this
   exact hden _ _ _ this.symm
  ·rw[List.getElem?_map] at hj
   obtain ⟨j',h1,rfl⟩:=Option.map_eq_some_iff.1 hj
   have hjlt:j<l.length * z:=by
    have:=(List.getElem?_eq_some_iff.1 h1).1;simpa using this
   rw[List.getElem?_range hjlt] at h1
   cases h1
   have hz0:=hzz j hjlt
   have hm:=Nat.mod_lt j hz0
   have e:j / z * z+j % z=j:=by rw[Nat.mul_comm];exact Nat.div_add_mod j z
   have h2:=get2_flat (i:=j / z) hz hm
   rw[e] at h2
   obtain ⟨d,hd⟩:∃ d,l.flatten[j]?=some d:=⟨_,List.getElem?_eq_getElem (by rw[hfl];exact hjlt)⟩
   rw[hd] at h2
   have:=hcell _ _ _ h2.symm
   rw[addr_add,show o+j=o+j / z * z+j % z by omega]
   exact this
theorem onRows_ok {L:List (Nat×Blk)} {z:Nat} {c:C} {K:List (List D)→Prop} (h:onRows L z c K):∃ rs,K rs∧∀ (M0:Nat→Prop) (adr:Env) (L':List (Nat×Blk)) (n:Nat) (w:World) (x:Value),(∀ k B,look L k=some B→look L' k=some B)→WOk M0 adr L' n w→DenC adr (Mut M0 adr L') w c x→
 RowsAt (Mut M0 adr L') w z rs x:=by
 unfold onRows at h
 split at h
 ·rename_i z' k
  obtain ⟨hz,h2⟩:=onB_ok h
  have hz:=Nat.eq_of_beq_eq_true hz
  subst hz
  split at h2
  ·rename_i z'' l e hk
   obtain ⟨hz,hK⟩:=onB_ok h2
   have hz:=Nat.eq_of_beq_eq_true hz
   subst hz
   refine ⟨l,hK,fun M0 adr L' n w x hL hw hx=>?_⟩
   have hloc:=hw.loc k _ (hL k _ hk)
   rcases hx with ⟨h5,rfl⟩|⟨b,q,cp,cur,ee,f,h5,h6,h7,h8,h9,rfl⟩
   ·rw[h5] at hloc
    obtain ⟨_,h6,_⟩:=hloc
    subst h6
    exact ⟨by simp,none,0,[],rfl,trivial,by simp,.inl rfl⟩
   ·rw[h5] at hloc
    obtain ⟨g1,g2,g3,cur',cp',g4,g5,g6,g7,g8⟩:=hloc
    subst g2
    rw[h6] at g4;cases g4
    refine ⟨g3,_,cp,_,rfl,g8,?_,.inr ⟨_,rfl,fun j u hj=>?_⟩⟩
    ·have:=All2.length g8;rw[flatten_length g3] at this;omega
    ·rw[List.getElem?_take] at hj
     split at hj
     ·rw[addr_add]
      simp only[World.cell?,h6]
      simpa using hj
     ·cases hj
  ·exact h2.elim
 ·rename_i z' k i q
  obtain ⟨hz,h2⟩:=onB_ok h
  have hz:=Nat.eq_of_beq_eq_true hz
  subst hz
  split at h2
  ·rename_i z'' l e hk
   obtain ⟨hz,hle,hK⟩:=onB_ok h2
   have hz:=Nat.eq_of_beq_eq_true hz
   subst hz
   refine ⟨_,hK,fun M0 adr L' n w x hL hw hx=>?_⟩
   have hloc:=hw.loc k _ (hL k _ hk)
   have hlen:((l.drop i).take q).length=q:=by simp;omega
   rcases hx with ⟨rfl,h1,h2⟩|⟨_,h2,a,cp,hc,rfl⟩|⟨b,m,cp,cur,ee,f,h5,h6,h7,h8,h9,rfl⟩
   ·subst h2
    simp only[List.take_zero]
    exact ⟨by simp,none,0,[],rfl,trivial,by simp,.inl rfl⟩
   ·subst h2
    simp only[List.take_zero]
    exact ⟨by simp,a,cp,[],rfl,trivial,by simp,.inl rfl⟩
   ·rw[h5] at hloc
    obtain ⟨g1,g2,g3,cur',cp',g4,g5,g6,g7,g8⟩:=hloc
    rw[h6] at g4;cases g4
    have hr3:∀ r ∈ l.drop i,r.length=z'':=fun r hr=>g3 r (List.mem_of_mem_drop hr)
    have hfl:((l.drop i).take q).flatten=(l.flatten.drop (i * z'')).take (q * z''):=by
     rw[flatten_take_drop hr3,flatten_drop g3]
    have hx:DenL (Mut M0 adr L') w ((l.drop i).take q).flatten (((cur.toList.take (l.length * z'')).drop (i * z'')).take (q * z'')):=by
     rw[hfl];exact (g8.drop _).take _
    refine ⟨fun r hr=>hr3 r (List.mem_of_mem_take hr),_,_,_,by rw[hlen],hx,?_,.inr ⟨_,rfl,fun j u hj=>?_⟩⟩
    ·have h1:=All2.length hx
     rw[flatten_length (fun r hr=>hr3 r (List.mem_of_mem_take hr))] at h1
     exact h1.symm
    ·rw[List.getElem?_take] at hj
     split at hj
     ·rw[List.getElem?_drop,List.getElem?_take] at hj
      split at hj
      ·rw[addr_add]
       simp only[World.cell?,h6]
       simpa using hj
      ·cases hj
     ·cases hj
  ·exact h2.elim
 ·rename_i z' l
  obtain ⟨hz,h2⟩:=onB_ok h
  have hz:=Nat.eq_of_beq_eq_true hz
  subst hz
  exact ⟨l,h2,fun M0 adr L' n w x hL hw hx=>lst_rows hx⟩
 ·refine ⟨[],h,fun M0 adr L' n w x hL hw hx=>?_⟩
  obtain rfl:=DenD.v_inv hx
  exact ⟨by simp,none,0,[],rfl,trivial,by simp,.inl rfl⟩
 ·exact h.elim
def allOne:List (List D)→Bool
 | []=>true
 | r::l=>match r.all oneD with|true=>allOne l|false=>false
theorem allOne_ok {M:Nat→Prop} {w:World}:∀ {rs:List (List D)} {xs:List Value},allOne rs=true→DenL M w rs.flatten xs→∀ u ∈ xs,u.oneCell'=true:=by
 have key:∀ {l:List D} {xs:List Value},l.all oneD=true→DenL M w l xs→∀ u ∈ xs,u.oneCell'=true:=by
  intro l
  induction l with
  | nil =>
   intro xs _ h u hu
   cases xs with
   | nil=>simp at hu
   | cons _ _=>exact h.elim
  | cons d l ih =>
   intro xs ho h u hu
   cases xs with
   | nil=>exact h.elim
   | cons x xs =>
    simp only[List.all_cons,Bool.and_eq_true] at ho
    rcases List.mem_cons.1 hu with rfl|hu
    ·exact h.1.one ho.1
    ·exact ih ho.2 h.2 u hu
 intro rs xs ho h
 refine key ?_ h
 clear h
 induction rs with
 | nil=>rfl
 | cons r rs ih =>
  simp only[allOne] at ho
  cases hr:r.all oneD with
  | false=>rw[hr] at ho;cases ho
  | true =>
   rw[hr] at ho
   rw[List.flatten_cons,List.all_append,hr,ih ho];rfl
section
variable {P:Program} {gl:List (Nat×List D)} {M0 S0:Nat→Prop} {w0:Base} {N:Nat} {adr:Env} {fr:List (Nat×V)} {L:List (Nat×Blk)} {n:Nat} {a:Act} {w:World}
theorem run_append (w:World) {t ty e:Nat} {te:TI} (ht:P.underlying t=some (.slice e)) (he:FitsOne P e te) (_hz:0<te.size) {v x:Value} {m q:Nat} {xs news:List Value}
 (hv:(v=.slice none 0 0∧m=0∧xs=[])∨∃ g cap cur,v=.slice (some ⟨g,0,none⟩) m cap∧w.heap[g]?=some (Obj.cells cur e (0,0))∧m≤cap∧cap≤maxLen∧cur.size=cap * te.size∧cur.toList.take (m * te.size)=xs)
 (hx:(∃ a c,x=.slice a 0 c∧q=0∧news=[])∨∃ ad c,x=.slice (some ad) q c∧news.length=q * te.size∧∀ (j:Nat) u,news[j]?=some u→w.cell? (ad.add j)=some u)
 (h1:∀ u ∈ news,u.oneCell'=true) (hb:(m+q) * te.bytes≤140737488355328) (hm:m+q≤maxLen) :
 ∃ v' w',(Builtin.append_ #[t,t] ty #[v,x]).run P w=.ok v' w'∧
  ((v=.slice none 0 0∧v'=v∧w'=w∧q=0)∨
   (∃ g cap cur cur',v=.slice (some ⟨g,0,none⟩) m cap∧w.heap[g]?=some (Obj.cells cur e (0,0))∧cap≤maxLen∧cur.size=cap * te.size∧v'=.slice (some ⟨g,0,none⟩) (m+q) cap∧m+q≤cap∧w'=w.setRow g cur'∧cur'.size=cur.size∧cur'.toList.take ((m+q) * te.size)=xs++news)∨
   (∃ cap cur',v'=.slice (some ⟨w.heap.size,0,none⟩) (m+q) cap∧w'=w.drew.alloc (Obj.cells cur' e (0,0))∧m+q≤cap∧cap≤maxLen∧cur'.size=cap * te.size∧cur'.toList.take ((m+q) * te.size)=xs++news)):=by
 obtain ⟨i,z,hi,hsz,hby,hzz,hzc⟩:=he.infoE
 have hzs:z.cells.size=te.size:=by rw[← Array.length_toList,hzc,List.length_map,he.zlen]
 have hsmall:m+q≤9223372036854775807:=by simp only[maxLen] at hm;omega
 have grown:∀ (old:Nat) (ys:List Value),ys.length=m * te.size→news.length=q * te.size→∀ cur',cur'=(ys.toArray++news.toArray++Builtin.zeroCells z.cells (grownCap w (m+q) old e - (m+q)))→
  m+q≤grownCap w (m+q) old e∧grownCap w (m+q) old e≤maxLen∧cur'.size=grownCap w (m+q) old e * te.size∧cur'.toList.take ((m+q) * te.size)=ys++news:=by
  intro old ys hys hn cur' hc
  have hge:=grownCap_ge w (m+q) old e
  refine ⟨hge,grownCap_le_maxLen w (m+q) old e hm,?_,?_⟩
  ·subst hc
   simp only[Array.size_append,List.size_toArray,size_zeroCells,hzs,hys,hn,← Nat.add_mul]
   congr 1
   omega
  ·subst hc
   simp only[Array.toList_append,List.append_assoc]
   rw[← List.append_assoc]
   have:(ys++news).length=(m+q) * te.size:=by rw[List.length_append,hys,hn,Nat.add_mul]
   rw[← this]
   exact List.take_left
 have hsize:i.size=te.size:=hsz
 rcases hx with ⟨ax,cx,rfl,rfl,rfl⟩|⟨ad,cx,rfl,hnl,hcell⟩
 ·rcases hv with ⟨rfl,rfl,rfl⟩|⟨g,cap,cur,rfl,hg,hmc,hcm,hcs,htake⟩
  ·refine ⟨_,_,?_,.inl ⟨rfl,rfl,rfl,rfl⟩⟩
   cases ax <;> simp[Builtin.append_,run_underlying ht,sizeOf,typeInfo,hi,Builtin.lenOf,Builtin.firstCells,loadCells,loadCellsFrom]
  ·refine ⟨_,_,?_,.inr (.inl ⟨g,cap,cur,cur,rfl,hg,hcm,hcs,rfl,hmc,(setRow_self w g cur e (0,0) hg).symm,rfl,by simpa using htake⟩)⟩
   cases ax <;> simp[Builtin.append_,run_underlying ht,sizeOf,typeInfo,hi,Builtin.lenOf,Builtin.firstCells,loadCells,loadCellsFrom,hmc,storeCells]
 ·rcases hv with ⟨rfl,rfl,rfl⟩|⟨g,cap,cur,rfl,hg,hmc,hcm,hcs,htake⟩
  ·by_cases hq:q=0
   ·subst hq
    have hn:news=[]:=List.eq_nil_of_length_eq_zero (by simpa using hnl)
    subst hn
    refine ⟨_,_,?_,.inl ⟨rfl,rfl,rfl,rfl⟩⟩
    simp[Builtin.append_,run_underlying ht,sizeOf,typeInfo,hi,Builtin.lenOf,Builtin.firstCells,loadCells,loadCellsFrom]
   ·have hr:=run_append_nil (P:=P) w t ty e i z ht hi hzz ad q cx news (by rw[hsize];exact hnl) hcell (by omega) (by omega) (by rw[hby];have:=hb;simp only[Nat.zero_add] at this;omega)
    obtain ⟨k1,k2,k3,k4⟩:=grown 0 [] (by simp) hnl _ rfl
    simp only[Nat.zero_add,List.nil_append,Array.empty_append] at k1 k2 k3 k4 ⊢
    exact ⟨_,_,hr,.inr (.inr ⟨_,_,rfl,rfl,k1,k2,k3,k4⟩)⟩
  ·have hxl:xs.length=m * te.size:=by
    rw[← htake]
    have:m * te.size≤cap * te.size:=Nat.mul_le_mul_right _ hmc
    simp;omega
   by_cases hroom:m+q≤cap
   ·have hfit:m * i.size+news.length≤cur.size:=by rw[hsize,hnl,hcs,← Nat.add_mul];exact Nat.mul_le_mul_right _ hroom
    have hr:=run_append_room (P:=P) w t ty e i ht hi g m cap cur hg ad q cx news (by rw[hsize];exact hnl) hcell h1 hroom hfit
    refine ⟨_,_,hr,.inr (.inl ⟨g,cap,cur,_,rfl,hg,hcm,hcs,rfl,hroom,rfl,?_,?_⟩)⟩
    ·simp only[List.size_toArray,List.length_append,List.length_take,List.length_drop,Array.length_toList]
     rw[hsize] at hfit ⊢
     omega
    ·rw[hsize,htake]
     have:(xs++news).length=(m+q) * te.size:=by rw[List.length_append,hxl,hnl,Nat.add_mul]
     rw[← this]
     exact List.take_left
   ·have holds:∀ (j:Nat) u,xs[j]?=some u→w.cell? ((⟨g,0,none⟩:Addr).add j)=some u:=fun j u hu=>by
     rw[← htake,List.getElem?_take] at hu
     split at hu
     ·rw[addr_add]
      simp only[World.cell?,hg]
      simpa using hu
     ·cases hu
    have hr:=run_append_grow (P:=P) w t ty e i z ht hi hzz ⟨g,0,none⟩ m cap xs (by rw[hsize];exact hxl) holds ad q cx news (by rw[hsize];exact hnl) hcell (by omega) (by omega) (growslice_fits (by omega) (by rw[hby];exact hb))
    obtain ⟨k1,k2,k3,k4⟩:=grown cap xs hxl hnl _ rfl
    exact ⟨_,_,hr,.inr (.inr ⟨_,_,rfl,rfl,k1,k2,k3,k4⟩)⟩
theorem run_append_str (w:World) {t u ty e:Nat} {te:TI} (ht:P.underlying t=some (.slice e)) (hu:P.underlying u=some .string) (he:FitsOne P e te) (hz1:te.size=1) {v:Value} {m:Nat} {xs:List Value} (s:List UInt8)
 (hv:(v=.slice none 0 0∧m=0∧xs=[])∨∃ g cap cur,v=.slice (some ⟨g,0,none⟩) m cap∧w.heap[g]?=some (Obj.cells cur e (0,0))∧m≤cap∧cap≤maxLen∧cur.size=cap * te.size∧cur.toList.take (m * te.size)=xs)
 (hb:(m+s.length) * te.bytes≤140737488355328) (hm:m+s.length≤maxLen) :
 ∃ v' w',(Builtin.append_ #[t,u] ty #[v,.string ⟨s.toArray⟩]).run P w=.ok v' w'∧
  ((v=.slice none 0 0∧v'=v∧w'=w∧s.length=0)∨
   (∃ g cap cur cur',v=.slice (some ⟨g,0,none⟩) m cap∧w.heap[g]?=some (Obj.cells cur e (0,0))∧cap≤maxLen∧cur.size=cap * te.size∧v'=.slice (some ⟨g,0,none⟩) (m+s.length) cap∧m+s.length≤cap∧w'=w.setRow g cur'∧cur'.size=cur.size∧cur'.toList.take ((m+s.length) * te.size)=xs++Lib.strCells ⟨s.toArray⟩)∨
   (∃ cap cur',v'=.slice (some ⟨w.heap.size,0,none⟩) (m+s.length) cap∧w'=w.drew.alloc (Obj.cells cur' e (0,0))∧m+s.length≤cap∧cap≤maxLen∧cur'.size=cap * te.size∧cur'.toList.take ((m+s.length) * te.size)=xs++Lib.strCells ⟨s.toArray⟩)):=by
 obtain ⟨i,z,hi,hsz,hby,hzz,hzc⟩:=he.infoE
 have hzs:z.cells.size=te.size:=by rw[← Array.length_toList,hzc,List.length_map,he.zlen]
 have hsl:(⟨s.toArray⟩:ByteArray).size=s.length:=rfl
 have hcl:=Lib.strCells_length ⟨s.toArray⟩
 rw[hsl] at hcl
 have hi1:i.size=1:=hsz.trans hz1
 have hsmall:m+s.length≤9223372036854775807:=by simp only[maxLen] at hm;omega
 have grown:∀ (old:Nat) (ys:List Value),ys.length=m→∀ cur',cur'=(ys.toArray++(Lib.strCells ⟨s.toArray⟩).toArray++Builtin.zeroCells z.cells (grownCap w (m+s.length) old e - (m+s.length)))→
  m+s.length≤grownCap w (m+s.length) old e∧grownCap w (m+s.length) old e≤maxLen∧cur'.size=grownCap w (m+s.length) old e * te.size∧cur'.toList.take ((m+s.length) * te.size)=ys++Lib.strCells ⟨s.toArray⟩:=by
  intro old ys hys cur' hc
  have hge:=grownCap_ge w (m+s.length) old e
  refine ⟨hge,grownCap_le_maxLen w (m+s.length) old e hm,?_,?_⟩
  ·subst hc
   simp only[Array.size_append,List.size_toArray,size_zeroCells,hzs,hys,hcl,hz1]
   omega
  ·subst hc
   simp only[Array.toList_append,List.append_assoc]
   rw[← List.append_assoc,hz1,Nat.mul_one]
   have:(ys++Lib.strCells ⟨s.toArray⟩).length=m+s.length:=by rw[List.length_append,hys,hcl]
   rw[← this]
   exact List.take_left
 rcases hv with ⟨rfl,rfl,rfl⟩|⟨g,cap,cur,rfl,hg,hmc,hcm,hcs,htake⟩
 ·by_cases hq:s.length=0
  ·refine ⟨_,_,?_,.inl ⟨rfl,rfl,rfl,hq⟩⟩
   have hf:=Lib.run_firstCells_string (P:=P) w 1 ⟨s.toArray⟩
   rw[hsl,hq] at hf
   simp[Builtin.append_,run_underlying ht,run_underlying hu,sizeOf,typeInfo,hi,hi1,Builtin.lenOf,hsl,hq,hf]
  ·have hr:=run_append_nil_string (P:=P) w t u ty e i z ht hu hi hzz ⟨s.toArray⟩ (by omega) (by omega) (by rw[hby,hsl];have:=hb;simp only[Nat.zero_add] at this;omega)
   obtain ⟨k1,k2,k3,k4⟩:=grown 0 [] rfl _ rfl
   simp only[Nat.zero_add,List.nil_append,Array.empty_append] at k1 k2 k3 k4 ⊢
   have e1:((⟨s.toArray⟩:ByteArray).data.map fun b=>Value.int .u8 b.toNat)=(Lib.strCells ⟨s.toArray⟩).toArray:=by
    apply Array.ext'
    simp[Lib.strCells]
   rw[e1] at hr
   exact ⟨_,_,hr,.inr (.inr ⟨_,_,rfl,rfl,k1,k2,k3,k4⟩)⟩
 ·have hcs1:cur.size=cap:=by rw[hcs,hz1,Nat.mul_one]
  have htake1:cur.toList.take m=xs:=by rw[hz1,Nat.mul_one] at htake;exact htake
  have hxl:xs.length=m:=by rw[← htake1];simp;omega
  by_cases hroom:m+s.length≤cap
  ·have hr:=Lib.run_append_room_string (P:=P) w t u ty e i ht hu hi hi1 g m cap cur hg ⟨s.toArray⟩ hroom (by rw[hsl];omega)
   refine ⟨_,_,hr,.inr (.inl ⟨g,cap,cur,_,rfl,hg,hcm,hcs,rfl,hroom,rfl,?_,?_⟩)⟩
   ·simp only[List.size_toArray,List.length_append,List.length_take,List.length_drop,Array.length_toList,hcl,hsl]
    omega
   ·rw[htake1,hz1,Nat.mul_one]
    have:(xs++Lib.strCells ⟨s.toArray⟩).length=m+s.length:=by rw[List.length_append,hxl,hcl]
    rw[← this]
    exact List.take_left
  ·have holds:∀ (j:Nat) u,xs[j]?=some u→w.cell? ((⟨g,0,none⟩:Addr).add j)=some u:=fun j u hu=>by
    rw[← htake1,List.getElem?_take] at hu
    split at hu
    ·rw[addr_add]
     simp only[World.cell?,hg]
     simpa using hu
    ·cases hu
   have hr:=Lib.run_append_grow_string (P:=P) w t u ty e i z ht hu hi hzz ⟨g,0,none⟩ m cap xs (by rw[hi1];omega) holds ⟨s.toArray⟩ (by rw[hsl];omega) (by rw[hsl];omega) (growslice_fits (by omega) (by rw[hby];exact hb))
   obtain ⟨k1,k2,k3,k4⟩:=grown cap xs hxl _ rfl
   exact ⟨_,_,hr,.inr (.inr ⟨_,_,rfl,rfl,k1,k2,k3,k4⟩)⟩
end
end Go.EYtaheflnnigocgaaGreatDoor
end
