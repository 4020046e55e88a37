/- Proved: a part of what the law is proved with (the reckoner, contracts of functions, plain laws). Conditions: as each says. -/
import Derived.Great.BuildSlice
import Derived.Laws.MakeOwn
import Derived.Lib.AppendStr
import Derived.Test.YtfcmhmglpcimiaaGreatDoorKEg
namespace Go.EYtfcmhmglpcimiaaGreatDoor
open Go Go.RowKit
section
section
variable {gl:List (Nat×List D)} {M0 S0:Nat→Prop} {w0:Base} {N:Nat} {adr:Env} {fr:List (Nat×V)} {L:List (Nat×Blk)} {n:Nat} {a:Act} {w:World}
theorem Evo.drew (S:Nat→Prop) (w:World):Evo S w w.drew:=⟨rfl,rfl,rfl,Nat.le_refl _,fun _ _ _=>rfl,fun _ cur _ _ h=>⟨cur,h,rfl⟩⟩
theorem WOk.evo {w':World} (h:WOk M0 adr L n w) (hE:Evo (fun _=>False) w w'):WOk M0 adr L n w' :=
 ⟨h.keys,h.fresh,fun k B hl=>(h.loc k B hl).evo hE (fun _ _ h=>h.elim) (fun _ _ h=>h) (fun b _ _ hb=>hE.block b hb (fun h=>h)) (fun _ _ _ _ _ _ _ _ he=>he),h.inj,h.prot,fun b hb=>Nat.lt_of_lt_of_le (h.bound b hb) hE.size⟩
theorem Ok.evo {w':World} (h:Ok gl M0 S0 w0 N adr fr L n a w) (hE:Evo (fun _=>False) w w'):Ok gl M0 S0 w0 N adr fr L n a w' :=
 h.move hE (fun _ _ hs=>hs.elim) (fun _ _ hm=>hm) (fun _ _ hl=>⟨hl,fun _ _ _ he=>he⟩) (h.wok.evo hE) h.new (fun _ _ hk=>⟨hk,rfl⟩)
theorem Ok.drew (h:Ok gl M0 S0 w0 N adr fr L n a w):Ok gl M0 S0 w0 N adr fr L n a w.drew:=h.evo (Evo.drew _ w)
theorem killL_kill (h:WOk M0 adr L n w) (k:Nat):WOk M0 adr (killL k L) n w:=by
 have hm:Mut M0 adr (killL k L)=Mut M0 adr L:=funext fun _=>propext mut_killL
 have lk:∀ j B,look (killL k L) j=some B→∃ B0,look L j=some B0∧B=killB k B0:=fun j B hl=>by
  rw[look_killL] at hl
  obtain ⟨B0,h1,h2⟩:=Option.map_eq_some_iff.1 hl
  exact ⟨B0,h1,h2.symm⟩
 refine ⟨fun j B hl=>?_,h.fresh,fun j B hl=>?_,fun j j' B1 B2 b m m' h1 h2 h3 h4=>?_,fun j B b m hl ha=>?_,h.bound⟩
 ·obtain ⟨B0,h1,_⟩:=lk j B hl;exact h.keys j B0 h1
 ·obtain ⟨B0,h1,rfl⟩:=lk j B hl
  have hlo:=h.loc j B0 h1
  rw[hm]
  cases B0 with
  | rows z l e=>exact hlo
  | mp ks vs=>exact hlo
  | var l t =>
   cases hq:adr j with
   | none=>rw[hq] at hlo;exact hlo.elim
   | some q =>
    obtain ⟨q1,q2⟩:=q
    cases q1 with
    | none=>rw[hq] at hlo;exact hlo.elim
    | some b=>rw[hq] at hlo;obtain ⟨xs,g2,g3⟩:=hlo;exact ⟨xs,g2,killC_den g3⟩
 ·obtain ⟨C1,g1,_⟩:=lk _ _ h1
  obtain ⟨C2,g2,_⟩:=lk _ _ h2
  exact h.inj j j' C1 C2 b m m' g1 g2 h3 h4
 ·obtain ⟨B0,h1,_⟩:=lk j B hl;exact h.prot j B0 b m h1 ha
theorem Ok.kill (h:Ok gl M0 S0 w0 N adr fr L n a w) (k:Nat):Ok gl M0 S0 w0 N adr (killF k fr) (killL k L) n a w:=by
 have hm:Mut M0 adr (killL k L)=Mut M0 adr L:=funext fun _=>propext mut_killL
 have h':=h.fewer (fr':=killF k fr) (fun t s hl=>by rcases look_killF hl with h1|h1;exact .inl h1;exact .inr h1.1)
 refine ⟨h.size,h.defers,by rw[hm];exact h'.fr,killL_kill h.wok k,by rw[hm];exact h.glob,h.base,fun j B b m hl ha=>?_,h.same⟩
 rw[look_killL] at hl
 obtain ⟨B0,h1,_⟩:=Option.map_eq_some_iff.1 hl
 exact h.new j B0 b m h1 ha
theorem setL_same {k:Nat} {B:Blk}:∀ {L:List (Nat×Blk)},look L k=some B→setL L k B=L
 | [],h=>by cases h
 | (j,B')::r,h=>by
  rw[look_cons] at h
  simp only[setL]
  cases hb:Nat.beq j k with
  | true =>
   have e:=Nat.eq_of_beq_eq_true hb
   rw[if_pos e] at h;cases h;rfl
  | false =>
   have e:=Nat.ne_of_beq_eq_false hb
   rw[if_neg e] at h
   simp only[cond_false]
   rw[setL_same h]
end
def onRows (L:List (Nat×Blk)) (z:Nat) (c:C) (K:List (List D)→Prop):Prop :=
 match c with
 | .all z' k=>onB (Nat.beq z' z) (match look L k with
  | some (.rows z'' l _)=>onB (Nat.beq z'' z) (K l)
  | _=>False)
 | .own z' k i q=>onB (Nat.beq z' z) (match look L k with
  | some (.rows z'' l _)=>onB (Nat.beq z'' z) (i+q≤l.length∧K ((l.drop i).take q))
  | _=>False)
 | .d (.lst z' l)=>onB (Nat.beq z' z) (K l)
 | .d (.v (.slice none 0 0))=>K []
 | _=>False
def RowsAt (M:Nat→Prop) (w:World) (z:Nat) (rs:List (List D)) (x:Value):Prop :=
 (∀ r ∈ rs,r.length=z)∧∃ (a:Option Addr) (c:Nat) (xs:List Value),x=.slice a rs.length c∧DenL M w rs.flatten xs∧xs.length=rs.length * z∧(rs=[]∨∃ ad,a=some ad∧∀ (j:Nat) u,xs[j]?=some u→w.cell? (ad.add j)=some u)
theorem get2_flat {z i j:Nat}:∀ {l:List (List D)},(∀ r ∈ l,r.length=z)→j<z→l.flatten[i * z+j]?=get2 l i j
 | [],_,_=>by simp[get2]
 | r::l,h,hj=>by
  have hr:=h r (by simp)
  have hrest:∀ r' ∈ l,r'.length=z:=fun r' hr'=>h r' (by simp[hr'])
  simp only[List.flatten_cons]
  cases i with
  | zero =>
   rw[Nat.zero_mul,Nat.zero_add,List.getElem?_append_left (by omega)]
   simp[get2]
  | succ i =>
   have e:(i+1) * z+j=r.length+(i * z+j):=by rw[hr,Nat.add_mul];omega
   rw[e,List.getElem?_append_right (by omega),show r.length+(i * z+j) - r.length=i * z+j by omega,get2_flat hrest hj]
   simp[get2]
theorem get2_lt {z i j:Nat} {l:List (List D)} {d:D} (h:∀ r ∈ l,r.length=z) (hg:get2 l i j=some d):i<l.length∧j<z:=by
 simp only[get2,Option.bind_eq_some_iff] at hg
 obtain ⟨r,h1,h2⟩:=hg
 have h3:=h r (List.mem_of_getElem? h1)
 exact ⟨(List.getElem?_eq_some_iff.1 h1).1,by rw[← h3];exact (List.getElem?_eq_some_iff.1 h2).1⟩
theorem lst_rows {M:Nat→Prop} {w:World} {z:Nat} {l:List (List D)} {x:Value} (h:DenD M w (.lst z l) x):RowsAt M w z l x:=by
 cases h with
 | lst0 _ a c hc=>exact ⟨by simp,a,c,[],rfl,trivial,by simp,.inl rfl⟩
 | lst _ _ b o c cs hb hM hl hc hz hcell hden =>
  have hfl:=flatten_length hz
  have hzz:∀ j,j<l.length * z→0<z:=fun j hj=>by
   rcases Nat.eq_zero_or_pos z with h0|h0
   ·rw[h0] at hj;simp at hj
   ·exact h0
  refine ⟨hz,_,c,(List.range (l.length * z)).map fun j=>cs (j / z) (j % z),rfl,?_,by simp,.inr ⟨_,rfl,fun j u hj=>?_⟩⟩
  ·refine All2.of_get (by simpa using hfl) fun j d x h1 h2=>?_
   have hjlt:j<l.length * z:=by rw[← hfl];exact (List.getElem?_eq_some_iff.1 h1).1
   rw[List.getElem?_map,List.getElem?_range hjlt] at h2
   simp only[Option.map_some,Option.some.injEq] at h2;subst h2
   have hz0:=hzz j hjlt
   have hm:=Nat.mod_lt j hz0
   have e:j / z * z+j % z=j:=by rw[Nat.mul_comm];exact Nat.div_add_mod j z
   have:=get2_flat (i:=j / z) hz hm
   rw[e,h1] at this
   exact hden _ _ _ this.symm
  ·rw[List.getElem?_map] at hj
   obtain ⟨j',h1,rfl⟩:=Option.map_eq_some_iff.1 hj
   have hjlt:j<l.length * z:=by
    have:=(List.getElem?_eq_some_iff.1 h1).1;simpa using this
   rw[List.getElem?_range hjlt] at h1
   cases h1
   have hz0:=hzz j hjlt
   have hm:=Nat.mod_lt j hz0
   have e:j / z * z+j % z=j:=by rw[Nat.mul_comm];exact Nat.div_add_mod j z
   have h2:=get2_flat (i:=j / z) hz hm
   rw[e] at h2
   obtain ⟨d,hd⟩:∃ d,l.flatten[j]?=some d:=⟨_,List.getElem?_eq_getElem (by rw[hfl];exact hjlt)⟩
   rw[hd] at h2
   have:=hcell _ _ _ h2.symm
   rw[addr_add,show o+j=o+j / z * z+j % z by omega]
   exact this
theorem onRows_ok {L:List (Nat×Blk)} {z:Nat} {c:C} {K:List (List D)→Prop} (h:onRows L z c K):∃ rs,K rs∧∀ (M0:Nat→Prop) (adr:Env) (L':List (Nat×Blk)) (n:Nat) (w:World) (x:Value),(∀ k B,look L k=some B→look L' k=some B)→WOk M0 adr L' n w→DenC adr (Mut M0 adr L') w c x→
 RowsAt (Mut M0 adr L') w z rs x:=by
 unfold onRows at h
 split at h
 ·rename_i z' k
  obtain ⟨hz,h2⟩:=onB_ok h
  have hz:=Nat.eq_of_beq_eq_true hz
  subst hz
  split at h2
  ·rename_i z'' l e hk
   obtain ⟨hz,hK⟩:=onB_ok h2
   have hz:=Nat.eq_of_beq_eq_true hz
   subst hz
   refine ⟨l,hK,fun M0 adr L' n w x hL hw hx=>?_⟩
   have hloc:=hw.loc k _ (hL k _ hk)
   rcases hx with ⟨h5,rfl⟩|⟨b,q,cp,cur,ee,f,h5,h6,h7,h8,h9,rfl⟩
   ·rw[h5] at hloc
    obtain ⟨_,h6,_⟩:=hloc
    subst h6
    exact ⟨by simp,none,0,[],rfl,trivial,by simp,.inl rfl⟩
   ·rw[h5] at hloc
    obtain ⟨g1,g2,g3,cur',cp',g4,g5,g6,g7,g8⟩:=hloc
    subst g2
    rw[h6] at g4;cases g4
    refine ⟨g3,_,cp,_,rfl,g8,?_,.inr ⟨_,rfl,fun j u hj=>?_⟩⟩
    ·have:=All2.length g8;rw[flatten_length g3] at this;omega
    ·rw[List.getElem?_take] at hj
     split at hj
     ·rw[addr_add]
      simp only[World.cell?,h6]
      simpa using hj
     ·cases hj
  ·exact h2.elim
 ·rename_i z' k i q
  obtain ⟨hz,h2⟩:=onB_ok h
  have hz:=Nat.eq_of_beq_eq_true hz
  subst hz
  split at h2
  ·rename_i z'' l e hk
   obtain ⟨hz,hle,hK⟩:=onB_ok h2
   have hz:=Nat.eq_of_beq_eq_true hz
   subst hz
   refine ⟨_,hK,fun M0 adr L' n w x hL hw hx=>?_⟩
   have hloc:=hw.loc k _ (hL k _ hk)
   have hlen:((l.drop i).take q).length=q:=by simp;omega
   rcases hx with ⟨rfl,h1,h2⟩|⟨_,h2,a,cp,hc,rfl⟩|⟨b,m,cp,cur,ee,f,h5,h6,h7,h8,h9,rfl⟩
   ·subst h2
    simp only[List.take_zero]
    exact ⟨by simp,none,0,[],rfl,trivial,by simp,.inl rfl⟩
   ·subst h2
    simp only[List.take_zero]
    exact ⟨by simp,a,cp,[],rfl,trivial,by simp,.inl rfl⟩
   ·rw[h5] at hloc
    obtain ⟨g1,g2,g3,cur',cp',g4,g5,g6,g7,g8⟩:=hloc
    rw[h6] at g4;cases g4
    have hr3:∀ r ∈ l.drop i,r.length=z'':=fun r hr=>g3 r (List.mem_of_mem_drop hr)
    have hfl:((l.drop i).take q).flatten=(l.flatten.drop (i * z'')).take (q * z''):=by
     rw[flatten_take_drop hr3,flatten_drop g3]
    have hx:DenL (Mut M0 adr L') w ((l.drop i).take q).flatten (((cur.toList.take (l.length * z'')).drop (i * z'')).take (q * z'')):=by
     rw[hfl];exact (g8.drop _).take _
    refine ⟨fun r hr=>hr3 r (List.mem_of_mem_take hr),_,_,_,by rw[hlen],hx,?_,.inr ⟨_,rfl,fun j u hj=>?_⟩⟩
    ·have h1:=All2.length hx
     rw[flatten_length (fun r hr=>hr3 r (List.mem_of_mem_take hr))] at h1
     exact h1.symm
    ·rw[List.getElem?_take] at hj
     split at hj
     ·rw[List.getElem?_drop,List.getElem?_take] at hj
      split at hj
      ·rw[addr_add]
       simp only[World.cell?,h6]
       simpa using hj
      ·cases hj
     ·cases hj
  ·exact h2.elim
 ·rename_i z' l
  obtain ⟨hz,h2⟩:=onB_ok h
  have hz:=Nat.eq_of_beq_eq_true hz
  subst hz
  exact ⟨l,h2,fun M0 adr L' n w x hL hw hx=>lst_rows hx⟩
 ·refine ⟨[],h,fun M0 adr L' n w x hL hw hx=>?_⟩
  obtain rfl:=DenD.v_inv hx
  exact ⟨by simp,none,0,[],rfl,trivial,by simp,.inl rfl⟩
 ·exact h.elim
def allOne:List (List D)→Bool
 | []=>true
 | r::l=>match r.all oneD with|true=>allOne l|false=>false
theorem allOne_ok {M:Nat→Prop} {w:World}:∀ {rs:List (List D)} {xs:List Value},allOne rs=true→DenL M w rs.flatten xs→∀ u ∈ xs,u.oneCell'=true:=by
 have key:∀ {l:List D} {xs:List Value},l.all oneD=true→DenL M w l xs→∀ u ∈ xs,u.oneCell'=true:=by
  intro l
  induction l with
  | nil =>
   intro xs _ h u hu
   cases xs with
   | nil=>simp at hu
   | cons _ _=>exact h.elim
  | cons d l ih =>
   intro xs ho h u hu
   cases xs with
   | nil=>exact h.elim
   | cons x xs =>
    simp only[List.all_cons,Bool.and_eq_true] at ho
    rcases List.mem_cons.1 hu with rfl|hu
    ·exact h.1.one ho.1
    ·exact ih ho.2 h.2 u hu
 intro rs xs ho h
 refine key ?_ h
 clear h
 induction rs with
 | nil=>rfl
 | cons r rs ih =>
  simp only[allOne] at ho
  cases hr:r.all oneD with
  | false=>rw[hr] at ho;cases ho
  | true =>
   rw[hr] at ho
   rw[List.flatten_cons,List.all_append,hr,ih ho];rfl
section
variable {P:Program} {gl:List (Nat×List D)} {M0 S0:Nat→Prop} {w0:Base} {N:Nat} {adr:Env} {fr:List (Nat×V)} {L:List (Nat×Blk)} {n:Nat} {a:Act} {w:World}
theorem run_append (w:World) {t ty e:Nat} {te:TI} (ht:P.underlying t=some (.slice e)) (he:FitsOne P e te) (_hz:0<te.size) {v x:Value} {m q:Nat} {xs news:List Value}
 (hv:(v=.slice none 0 0∧m=0∧xs=[])∨∃ g cap cur,v=.slice (some ⟨g,0,none⟩) m cap∧w.heap[g]?=some (Obj.cells cur e (0,0))∧m≤cap∧cap≤maxLen∧cur.size=cap * te.size∧cur.toList.take (m * te.size)=xs)
 (hx:(∃ a c,x=.slice a 0 c∧q=0∧news=[])∨∃ ad c,x=.slice (some ad) q c∧news.length=q * te.size∧∀ (j:Nat) u,news[j]?=some u→w.cell? (ad.add j)=some u)
 (h1:∀ u ∈ news,u.oneCell'=true) (hb:(m+q) * te.bytes≤140737488355328) (hm:m+q≤maxLen) :
 ∃ v' w',(Builtin.append_ #[t,t] ty #[v,x]).run P w=.ok v' w'∧
  ((v=.slice none 0 0∧v'=v∧w'=w∧q=0)∨
   (∃ g cap cur cur',v=.slice (some ⟨g,0,none⟩) m cap∧w.heap[g]?=some (Obj.cells cur e (0,0))∧cap≤maxLen∧cur.size=cap * te.size∧v'=.slice (some ⟨g,0,none⟩) (m+q) cap∧m+q≤cap∧w'=w.setRow g cur'∧cur'.size=cur.size∧cur'.toList.take ((m+q) * te.size)=xs++news)∨
   (∃ cap cur',v'=.slice (some ⟨w.heap.size,0,none⟩) (m+q) cap∧w'=w.drew.alloc (Obj.cells cur' e (0,0))∧m+q≤cap∧cap≤maxLen∧cur'.size=cap * te.size∧cur'.toList.take ((m+q) * te.size)=xs++news)):=by
 obtain ⟨i,z,hi,hsz,hby,hzz,hzc⟩:=he.infoE
 have hzs:z.cells.size=te.size:=by rw[← Array.length_toList,hzc,List.length_map,he.zlen]
 have hsmall:m+q≤9223372036854775807:=by simp only[maxLen] at hm;omega
 have grown:∀ (old:Nat) (ys:List Value),ys.length=m * te.size→news.length=q * te.size→∀ cur',cur'=(ys.toArray++news.toArray++Builtin.zeroCells z.cells (grownCap w (m+q) old e - (m+q)))→
  m+q≤grownCap w (m+q) old e∧grownCap w (m+q) old e≤maxLen∧cur'.size=grownCap w (m+q) old e * te.size∧cur'.toList.take ((m+q) * te.size)=ys++news:=by
  intro old ys hys hn cur' hc
  have hge:=grownCap_ge w (m+q) old e
  refine ⟨hge,grownCap_le_maxLen w (m+q) old e hm,?_,?_⟩
  ·subst hc
   simp only[Array.size_append,List.size_toArray,size_zeroCells,hzs,hys,hn,← Nat.add_mul]
   congr 1
   omega
  ·subst hc
   simp only[Array.toList_append,List.append_assoc]
   rw[← List.append_assoc]
   have:(ys++news).length=(m+q) * te.size:=by rw[List.length_append,hys,hn,Nat.add_mul]
   rw[← this]
   exact List.take_left
 have hsize:i.size=te.size:=hsz
 rcases hx with ⟨ax,cx,rfl,rfl,rfl⟩|⟨ad,cx,rfl,hnl,hcell⟩
 ·rcases hv with ⟨rfl,rfl,rfl⟩|⟨g,cap,cur,rfl,hg,hmc,hcm,hcs,htake⟩
  ·refine ⟨_,_,?_,.inl ⟨rfl,rfl,rfl,rfl⟩⟩
   cases ax <;> simp[Builtin.append_,run_underlying ht,sizeOf,typeInfo,hi,Builtin.lenOf,Builtin.firstCells,loadCells,loadCellsFrom]
  ·refine ⟨_,_,?_,.inr (.inl ⟨g,cap,cur,cur,rfl,hg,hcm,hcs,rfl,hmc,(setRow_self w g cur e (0,0) hg).symm,rfl,by simpa using htake⟩)⟩
   cases ax <;> simp[Builtin.append_,run_underlying ht,sizeOf,typeInfo,hi,Builtin.lenOf,Builtin.firstCells,loadCells,loadCellsFrom,hmc,storeCells]
 ·rcases hv with ⟨rfl,rfl,rfl⟩|⟨g,cap,cur,rfl,hg,hmc,hcm,hcs,htake⟩
  ·by_cases hq:q=0
   ·subst hq
    have hn:news=[]:=List.eq_nil_of_length_eq_zero (by simpa using hnl)
    subst hn
    refine ⟨_,_,?_,.inl ⟨rfl,rfl,rfl,rfl⟩⟩
    simp[Builtin.append_,run_underlying ht,sizeOf,typeInfo,hi,Builtin.lenOf,Builtin.firstCells,loadCells,loadCellsFrom]
   ·have hr:=run_append_nil (P:=P) w t ty e i z ht hi hzz ad q cx news (by rw[hsize];exact hnl) hcell (by omega) (by omega) (by rw[hby];have:=hb;simp only[Nat.zero_add] at this;omega)
    obtain ⟨k1,k2,k3,k4⟩:=grown 0 [] (by simp) hnl _ rfl
    simp only[Nat.zero_add,List.nil_append,Array.empty_append] at k1 k2 k3 k4 ⊢
    exact ⟨_,_,hr,.inr (.inr ⟨_,_,rfl,rfl,k1,k2,k3,k4⟩)⟩
  ·have hxl:xs.length=m * te.size:=by
    rw[← htake]
    have:m * te.size≤cap * te.size:=Nat.mul_le_mul_right _ hmc
    simp;omega
   by_cases hroom:m+q≤cap
   ·have hfit:m * i.size+news.length≤cur.size:=by rw[hsize,hnl,hcs,← Nat.add_mul];exact Nat.mul_le_mul_right _ hroom
    have hr:=run_append_room (P:=P) w t ty e i ht hi g m cap cur hg ad q cx news (by rw[hsize];exact hnl) hcell h1 hroom hfit
    refine ⟨_,_,hr,.inr (.inl ⟨g,cap,cur,_,rfl,hg,hcm,hcs,rfl,hroom,rfl,?_,?_⟩)⟩
    ·simp only[List.size_toArray,List.length_append,List.length_take,List.length_drop,Array.length_toList]
     rw[hsize] at hfit ⊢
     omega
    ·rw[hsize,htake]
     have:(xs++news).length=(m+q) * te.size:=by rw[List.length_append,hxl,hnl,Nat.add_mul]
     rw[← this]
     exact List.take_left
   ·have holds:∀ (j:Nat) u,xs[j]?=some u→w.cell? ((⟨g,0,none⟩:Addr).add j)=some u:=fun j u hu=>by
     rw[← htake,List.getElem?_take] at hu
     split at hu
     ·rw[addr_add]
      simp only[World.cell?,hg]
      simpa using hu
     ·cases hu
    have hr:=run_append_grow (P:=P) w t ty e i z ht hi hzz ⟨g,0,none⟩ m cap xs (by rw[hsize];exact hxl) holds ad q cx news (by rw[hsize];exact hnl) hcell (by omega) (by omega) (growslice_fits (by omega) (by rw[hby];exact hb))
    obtain ⟨k1,k2,k3,k4⟩:=grown cap xs hxl hnl _ rfl
    exact ⟨_,_,hr,.inr (.inr ⟨_,_,rfl,rfl,k1,k2,k3,k4⟩)⟩
theorem run_append_str (w:World) {t u ty e:Nat} {te:TI} (ht:P.underlying t=some (.slice e)) (hu:P.underlying u=some .string) (he:FitsOne P e te) (hz1:te.size=1) {v:Value} {m:Nat} {xs:List Value} (s:List UInt8)
 (hv:(v=.slice none 0 0∧m=0∧xs=[])∨∃ g cap cur,v=.slice (some ⟨g,0,none⟩) m cap∧w.heap[g]?=some (Obj.cells cur e (0,0))∧m≤cap∧cap≤maxLen∧cur.size=cap * te.size∧cur.toList.take (m * te.size)=xs)
 (hb:(m+s.length) * te.bytes≤140737488355328) (hm:m+s.length≤maxLen) :
 ∃ v' w',(Builtin.append_ #[t,u] ty #[v,.string ⟨s.toArray⟩]).run P w=.ok v' w'∧
  ((v=.slice none 0 0∧v'=v∧w'=w∧s.length=0)∨
   (∃ g cap cur cur',v=.slice (some ⟨g,0,none⟩) m cap∧w.heap[g]?=some (Obj.cells cur e (0,0))∧cap≤maxLen∧cur.size=cap * te.size∧v'=.slice (some ⟨g,0,none⟩) (m+s.length) cap∧m+s.length≤cap∧w'=w.setRow g cur'∧cur'.size=cur.size∧cur'.toList.take ((m+s.length) * te.size)=xs++Lib.strCells ⟨s.toArray⟩)∨
   (∃ cap cur',v'=.slice (some ⟨w.heap.size,0,none⟩) (m+s.length) cap∧w'=w.drew.alloc (Obj.cells cur' e (0,0))∧m+s.length≤cap∧cap≤maxLen∧cur'.size=cap * te.size∧cur'.toList.take ((m+s.length) * te.size)=xs++Lib.strCells ⟨s.toArray⟩)):=by
 obtain ⟨i,z,hi,hsz,hby,hzz,hzc⟩:=he.infoE
 have hzs:z.cells.size=te.size:=by rw[← Array.length_toList,hzc,List.length_map,he.zlen]
 have hsl:(⟨s.toArray⟩:ByteArray).size=s.length:=rfl
 have hcl:=Lib.strCells_length ⟨s.toArray⟩
 rw[hsl] at hcl
 have hi1:i.size=1:=hsz.trans hz1
 have hsmall:m+s.length≤9223372036854775807:=by simp only[maxLen] at hm;omega
 have grown:∀ (old:Nat) (ys:List Value),ys.length=m→∀ cur',cur'=(ys.toArray++(Lib.strCells ⟨s.toArray⟩).toArray++Builtin.zeroCells z.cells (grownCap w (m+s.length) old e - (m+s.length)))→
  m+s.length≤grownCap w (m+s.length) old e∧grownCap w (m+s.length) old e≤maxLen∧cur'.size=grownCap w (m+s.length) old e * te.size∧cur'.toList.take ((m+s.length) * te.size)=ys++Lib.strCells ⟨s.toArray⟩:=by
  intro old ys hys cur' hc
  have hge:=grownCap_ge w (m+s.length) old e
  refine ⟨hge,grownCap_le_maxLen w (m+s.length) old e hm,?_,?_⟩
  ·subst hc
   simp only[Array.size_append,List.size_toArray,size_zeroCells,hzs,hys,hcl,hz1]
   omega
  ·subst hc
   simp only[Array.toList_append,List.append_assoc]
   rw[← List.append_assoc,hz1,Nat.mul_one]
   have:(ys++Lib.strCells ⟨s.toArray⟩).length=m+s.length:=by rw[List.length_append,hys,hcl]
   rw[← this]
   exact List.take_left
 rcases hv with ⟨rfl,rfl,rfl⟩|⟨g,cap,cur,rfl,hg,hmc,hcm,hcs,htake⟩
 ·by_cases hq:s.length=0
  ·refine ⟨_,_,?_,.inl ⟨rfl,rfl,rfl,hq⟩⟩
   have hf:=Lib.run_firstCells_string (P:=P) w 1 ⟨s.toArray⟩
   rw[hsl,hq] at hf
   simp[Builtin.append_,run_underlying ht,run_underlying hu,sizeOf,typeInfo,hi,hi1,Builtin.lenOf,hsl,hq,hf]
  ·have hr:=run_append_nil_string (P:=P) w t u ty e i z ht hu hi hzz ⟨s.toArray⟩ (by omega) (by omega) (by rw[hby,hsl];have:=hb;simp only[Nat.zero_add] at this;omega)
   obtain ⟨k1,k2,k3,k4⟩:=grown 0 [] rfl _ rfl
   simp only[Nat.zero_add,List.nil_append,Array.empty_append] at k1 k2 k3 k4 ⊢
   have e1:((⟨s.toArray⟩:ByteArray).data.map fun b=>Value.int .u8 b.toNat)=(Lib.strCells ⟨s.toArray⟩).toArray:=by
    apply Array.ext'
    simp[Lib.strCells]
   rw[e1] at hr
   exact ⟨_,_,hr,.inr (.inr ⟨_,_,rfl,rfl,k1,k2,k3,k4⟩)⟩
 ·have hcs1:cur.size=cap:=by rw[hcs,hz1,Nat.mul_one]
  have htake1:cur.toList.take m=xs:=by rw[hz1,Nat.mul_one] at htake;exact htake
  have hxl:xs.length=m:=by rw[← htake1];simp;omega
  by_cases hroom:m+s.length≤cap
  ·have hr:=Lib.run_append_room_string (P:=P) w t u ty e i ht hu hi hi1 g m cap cur hg ⟨s.toArray⟩ hroom (by rw[hsl];omega)
   refine ⟨_,_,hr,.inr (.inl ⟨g,cap,cur,_,rfl,hg,hcm,hcs,rfl,hroom,rfl,?_,?_⟩)⟩
   ·simp only[List.size_toArray,List.length_append,List.length_take,List.length_drop,Array.length_toList,hcl,hsl]
    omega
   ·rw[htake1,hz1,Nat.mul_one]
    have:(xs++Lib.strCells ⟨s.toArray⟩).length=m+s.length:=by rw[List.length_append,hxl,hcl]
    rw[← this]
    exact List.take_left
  ·have holds:∀ (j:Nat) u,xs[j]?=some u→w.cell? ((⟨g,0,none⟩:Addr).add j)=some u:=fun j u hu=>by
    rw[← htake1,List.getElem?_take] at hu
    split at hu
    ·rw[addr_add]
     simp only[World.cell?,hg]
     simpa using hu
    ·cases hu
   have hr:=Lib.run_append_grow_string (P:=P) w t u ty e i z ht hu hi hzz ⟨g,0,none⟩ m cap xs (by rw[hi1];omega) holds ⟨s.toArray⟩ (by rw[hsl];omega) (by rw[hsl];omega) (growslice_fits (by omega) (by rw[hby];exact hb))
   obtain ⟨k1,k2,k3,k4⟩:=grown cap xs hxl _ rfl
   exact ⟨_,_,hr,.inr (.inr ⟨_,_,rfl,rfl,k1,k2,k3,k4⟩)⟩
end
end
section
section
variable {P:Program} {gl:List (Nat×List D)} {M0 S0:Nat→Prop} {w0:Base} {N:Nat} {adr:Env} {fr:List (Nat×V)} {L:List (Nat×Blk)} {n:Nat} {a:Act} {w:World}
theorem Ok.append0 (h:Ok gl M0 S0 w0 N adr fr L n a w) {t u ty e:Nat} {te:TI} (hz:0<te.size) {k m:Nat} {l rs:List (List D)} {v x:Value} {news:List Value}
 (hk:look L k=some (.rows te.size l e)) (hml:m≤l.length) (hv:(v=.slice none 0 0∧m=0)∨∃ b cap,adr k=some (some b,l.length)∧v=.slice (some ⟨b,0,none⟩) m cap∧m≤cap∧∃ cur f,w.heap[b]?=some (Obj.cells cur e f)∧cur.size=cap * te.size∧cap≤maxLen)
 (hrz:∀ r ∈ rs,r.length=te.size) (hden:DenL (Mut M0 adr L) w rs.flatten news) (hfx:k ∉ w0.fx)
 (run:∀ xs:List Value,((v=.slice none 0 0∧m=0∧xs=[])∨∃ g cap cur,v=.slice (some ⟨g,0,none⟩) m cap∧w.heap[g]?=some (Obj.cells cur e (0,0))∧m≤cap∧cap≤maxLen∧cur.size=cap * te.size∧cur.toList.take (m * te.size)=xs)→
  ∃ v' w',(Builtin.append_ #[t,u] ty #[v,x]).run P w=.ok v' w'∧
  ((v=.slice none 0 0∧v'=v∧w'=w∧rs.length=0)∨
   (∃ g cap cur cur',v=.slice (some ⟨g,0,none⟩) m cap∧w.heap[g]?=some (Obj.cells cur e (0,0))∧cap≤maxLen∧cur.size=cap * te.size∧v'=.slice (some ⟨g,0,none⟩) (m+rs.length) cap∧m+rs.length≤cap∧w'=w.setRow g cur'∧cur'.size=cur.size∧cur'.toList.take ((m+rs.length) * te.size)=xs++news)∨
   (∃ cap cur',v'=.slice (some ⟨w.heap.size,0,none⟩) (m+rs.length) cap∧w'=w.drew.alloc (Obj.cells cur' e (0,0))∧m+rs.length≤cap∧cap≤maxLen∧cur'.size=cap * te.size∧cur'.toList.take ((m+rs.length) * te.size)=xs++news))) :
 ∃ v' w' adr',(Builtin.append_ #[t,u] ty #[v,x]).run P w=.ok v' w'∧Ok gl M0 S0 w0 N adr' (killF k fr) (killL k (setL L k (.rows te.size (l.take m++rs) e))) n a w'∧AllAt adr' w' te.size k v':=by
 have hloc:=h.wok.loc k _ hk
 have hlen:(l.take m++rs).length=m+rs.length:=by simp;omega
 -- what the old rows are
 have old:∃ (ob:Option Nat) (m0:Nat) (xs:List Value),adr k=some (ob,m0)∧DenL (Mut M0 adr L) w (l.take m).flatten xs∧
  ((v=.slice none 0 0∧m=0∧xs=[])∨∃ g cap cur,ob=some g∧v=.slice (some ⟨g,0,none⟩) m cap∧w.heap[g]?=some (Obj.cells cur e (0,0))∧m≤cap∧cap≤maxLen∧cur.size=cap * te.size∧cur.toList.take (m * te.size)=xs)∧(∀ r ∈ l,r.length=te.size):=by
  cases hq:adr k with
  | none=>rw[hq] at hloc;exact hloc.elim
  | some q0 =>
   obtain ⟨ob,m0⟩:=q0
   rw[hq] at hloc
   cases ob with
   | none =>
    obtain ⟨_,h6,_⟩:=hloc
    subst h6
    rcases hv with ⟨rfl,rfl⟩|⟨b,cap,h5,_⟩
    ·exact ⟨none,m0,[],rfl,by simp[DenL,All2],.inl ⟨rfl,rfl,rfl⟩,by simp⟩
    ·rw[hq] at h5;cases h5
   | some b =>
    obtain ⟨g1,g2,g3,cur,cp,g4,g5,g6,g7,g8⟩:=hloc
    rcases hv with ⟨rfl,rfl⟩|⟨b',cap,h5,rfl,hmc,cur',f,h6,h7,h8⟩
    ·exact ⟨some b,m0,[],rfl,by simp[DenL,All2],.inl ⟨rfl,rfl,rfl⟩,g3⟩
    ·rw[hq] at h5;cases h5
     rw[g4] at h6;cases h6
     refine ⟨some b,_,cur.toList.take (m * te.size),rfl,?_,.inr ⟨b,cap,cur,rfl,rfl,g4,hmc,h8,h7,rfl⟩,g3⟩
     rw[flatten_take_drop g3]
     have h1:m * te.size≤l.length * te.size:=Nat.mul_le_mul_right _ hml
     have:=All2.take (m * te.size) g8
     rwa [List.take_take,Nat.min_eq_left h1] at this
 obtain ⟨ob,m0,xs,ha,hxs,hv',hlz⟩:=old
 have hz':∀ r ∈ l.take m++rs,r.length=te.size:=fun r hr=>by
  rcases List.mem_append.1 hr with h1|h1
  ·exact hlz r (List.mem_of_mem_take h1)
  ·exact hrz r h1
 have hvr:(v=.slice none 0 0∧m=0∧xs=[])∨∃ g cap cur,v=.slice (some ⟨g,0,none⟩) m cap∧w.heap[g]?=some (Obj.cells cur e (0,0))∧m≤cap∧cap≤maxLen∧cur.size=cap * te.size∧cur.toList.take (m * te.size)=xs:=by
  rcases hv' with h1|⟨g,cap,cur,_,h1⟩
  ·exact .inl h1
  ·exact .inr ⟨g,cap,cur,h1⟩
 have hself:∀ e',adrSet adr k e' k=some e':=fun e'=>by unfold adrSet;rw[if_pos rfl]
 obtain ⟨v',w',hrun,hcase⟩:=run xs hvr
 rcases hcase with ⟨rfl,rfl,rfl,hq⟩|⟨g,cap,cur,cur',rfl,hg,hcm,hcs,rfl,hle,rfl,hcs',htake⟩|⟨cap,cur',rfl,rfl,hle,hcm,hcs',htake⟩
 ·-- nothing was there, nothing comes
  have hrs:rs=[]:=List.eq_nil_of_length_eq_zero hq
  have hm0:m=0:=by
   rcases hvr with ⟨_,h1,_⟩|⟨g,cap,cur,h1,_⟩
   ·exact h1
   ·cases h1
  subst hrs;subst hm0
  refine ⟨_,_,adrSet adr k (none,0),hrun,?_,.inl ⟨hself _,rfl⟩⟩
  exact h.regrow (ob':=none) (m':=0) hk ha (Evo.refl _ _) (fun b' hb'=>by cases hb') (fun M' _=>⟨hz,by simp,rfl⟩) hfx
 ·-- in place
  have hob:ob=some g:=by
   rcases hv' with ⟨h1,_⟩|⟨g',cap',cur'',h1,h2,_⟩
   ·cases h1
   ·cases h2;exact h1
  have hE:Evo (fun x=>ob=some x) w (w.setRow g cur'):=Evo.setRow hg hcs' hob
  refine ⟨_,_,adrSet adr k (some g,m+rs.length),hrun,h.regrow (ob':=some g) hk ha hE (fun b' hb'=>by cases hb';exact .inl hob) (fun M' hM'=>⟨hz,hlen,hz',cur',cap,setRow_heap w g _ _ _ _ hg,by rw[hcs',hcs],by rw[hlen];exact hle,hcm,?_⟩) hfx,.inr ⟨g,_,cap,cur',e,(0,0),hself _,setRow_heap w g _ _ _ _ hg,by rw[hcs',hcs],hle,hcm,rfl⟩⟩
  rw[List.flatten_append,hlen,htake]
  exact DenL.evo hE (fun b hb hs=>.inr ⟨k,_,m0,hk,by rw[ha,hs]⟩) hM' (hxs.app hden)
 ·-- in a new block
  have hE:Evo (fun x=>ob=some x) w (w.drew.alloc (Obj.cells cur' e (0,0))):=((Evo.drew _ w).trans (Evo.alloc _ _ _))
  have hnew:(w.drew.alloc (Obj.cells cur' e (0,0))).heap[w.heap.size]?=some (Obj.cells cur' e (0,0)):=heap_alloc_new w.drew _
  refine ⟨_,_,adrSet adr k (some w.heap.size,m+rs.length),hrun,h.regrow (ob':=some w.heap.size) hk ha hE (fun b' hb'=>by cases hb';exact .inr (Nat.le_refl _)) (fun M' hM'=>⟨hz,hlen,hz',cur',cap,hnew,hcs',by rw[hlen];exact hle,hcm,?_⟩) hfx,.inr ⟨_,_,cap,cur',e,(0,0),hself _,hnew,hcs',hle,hcm,rfl⟩⟩
  rw[List.flatten_append,hlen,htake]
  exact DenL.evo hE (fun b hb hs=>.inr ⟨k,_,m0,hk,by rw[ha,hs]⟩) hM' (hxs.app hden)
theorem Ok.append (h:Ok gl M0 S0 w0 N adr fr L n a w) {t ty e:Nat} {te:TI} (ht:P.underlying t=some (.slice e)) (he:FitsOne P e te) (hz:0<te.size) {k m:Nat} {l rs:List (List D)} {v x:Value}
 (hk:look L k=some (.rows te.size l e)) (hml:m≤l.length) (hv:(v=.slice none 0 0∧m=0)∨∃ b cap,adr k=some (some b,l.length)∧v=.slice (some ⟨b,0,none⟩) m cap∧m≤cap∧∃ cur f,w.heap[b]?=some (Obj.cells cur e f)∧cur.size=cap * te.size∧cap≤maxLen)
 (hx:RowsAt (Mut M0 adr L) w te.size rs x) (ho:allOne rs=true) (hb:(m+rs.length) * te.bytes≤140737488355328) (hm:m+rs.length≤maxLen) (hfx:k ∉ w0.fx) :
 ∃ v' w' adr',(Builtin.append_ #[t,t] ty #[v,x]).run P w=.ok v' w'∧Ok gl M0 S0 w0 N adr' (killF k fr) (killL k (setL L k (.rows te.size (l.take m++rs) e))) n a w'∧AllAt adr' w' te.size k v':=by
 obtain ⟨hrz,ax,cx,news,rfl,hden,hnl,hcell⟩:=hx
 refine h.append0 hz hk hml hv hrz hden hfx fun xs hvr=>run_append (ty:=ty) w ht he hz hvr ?_ (allOne_ok ho hden) hb hm
 rcases hcell with rfl|⟨ad,rfl,h1⟩
 ·exact .inl ⟨ax,cx,rfl,rfl,List.eq_nil_of_length_eq_zero (by simpa using hnl)⟩
 ·exact .inr ⟨ad,cx,rfl,hnl,h1⟩
theorem strRow (s:List UInt8):(s.map u8D).flatten=s.map fun b=>D.v (.int .u8 (b.toNat:Int)):=by
 induction s with
 | nil=>rfl
 | cons b s ih=>rw[List.map_cons,List.flatten_cons,ih];rfl
theorem strDen {M:Nat→Prop} {w:World} (s:List UInt8):DenL M w (s.map u8D).flatten (Lib.strCells ⟨s.toArray⟩):=by
 rw[strRow]
 show DenL M w _ (s.map fun b=>Value.int .u8 b.toNat)
 induction s with
 | nil=>trivial
 | cons b s ih=>exact ⟨.v _,ih⟩
theorem Ok.appendS (h:Ok gl M0 S0 w0 N adr fr L n a w) {t u ty e:Nat} {te:TI} (ht:P.underlying t=some (.slice e)) (hu:P.underlying u=some .string) (he:FitsOne P e te) (hz:te.size=1) {k m:Nat} {l:List (List D)} {s:List UInt8} {v:Value}
 (hk:look L k=some (.rows te.size l e)) (hml:m≤l.length) (hv:(v=.slice none 0 0∧m=0)∨∃ b cap,adr k=some (some b,l.length)∧v=.slice (some ⟨b,0,none⟩) m cap∧m≤cap∧∃ cur f,w.heap[b]?=some (Obj.cells cur e f)∧cur.size=cap * te.size∧cap≤maxLen)
 (hb:(m+s.length) * te.bytes≤140737488355328) (hm:m+s.length≤maxLen) (hfx:k ∉ w0.fx) :
 ∃ v' w' adr',(Builtin.append_ #[t,u] ty #[v,.string ⟨s.toArray⟩]).run P w=.ok v' w'∧Ok gl M0 S0 w0 N adr' (killF k fr) (killL k (setL L k (.rows te.size (l.take m++s.map u8D) e))) n a w'∧AllAt adr' w' te.size k v':=by
 refine h.append0 (by omega) hk hml hv (fun r hr=>?_) (strDen s) hfx fun xs hvr=>?_
 ·obtain ⟨b,_,rfl⟩:=List.mem_map.1 hr
  exact hz.symm
 ·rw[List.length_map]
  exact run_append_str (ty:=ty) w ht hu he hz s hvr hb hm
theorem all2_cells {M:Nat→Prop}:∀ {rs:List (List D)} {vs:List Value},All2 (fun r v=>DenL M w r v.cells.toList) rs vs→DenL M w rs.flatten (vs.map fun v=>v.cells.toList).flatten
 | [],[],_=>trivial
 | _::_,_::_,h=>All2.app h.1 (all2_cells h.2)
 | [],_::_,h=>h.elim
 | _::_,[],h=>h.elim
theorem flat_get {z:Nat} (hz:0<z):∀ {ls:List (List Value)},(∀ r ∈ ls,r.length=z)→∀ k,ls.flatten[k]?=(ls[k / z]?).bind (·[k % z]?)
 | [],_,k=>by simp
 | r::ls,h,k=>by
  have hr:=h r (by simp)
  have hrest:∀ r' ∈ ls,r'.length=z:=fun r' hr'=>h r' (by simp[hr'])
  simp only[List.flatten_cons]
  rcases Nat.lt_or_ge k z with hk|hk
  ·rw[List.getElem?_append_left (by omega),Nat.div_eq_of_lt hk,Nat.mod_eq_of_lt hk];simp
  ·rw[List.getElem?_append_right (by omega),hr,flat_get hz hrest]
   have e1:k / z=(k - z) / z+1:=by rw[← Nat.add_div_right _ hz,Nat.sub_add_cancel hk]
   have e2:k % z=(k - z) % z:=Nat.mod_eq_sub_mod hk
   rw[e1,e2];simp
theorem run_buildSlice_rows (w:World) {t e:Nat} {te:TI} (ht:P.underlying t=some (.slice e)) (he:FitsOne P e te) (hz:0<te.size) {M:Nat→Prop} {vs:List Value} {rs:List (List D)}
 (hd:All2 (fun r v=>DenL M w r v.cells.toList) rs vs) (hr:∀ r ∈ rs,r.length=te.size) (hs:vs.length * te.size≤16777216) (hp:0<vs.length) :
 ∃ cur:List Value,(Instr.buildSlice t vs.length ((vs.zipIdx 0).map fun x=>(x.2,x.1)).toArray).run P w=.ok (.slice (some ⟨w.heap.size,0,none⟩) vs.length vs.length) (w.alloc (Obj.cells cur.toArray e (0,0)))∧DenL M w rs.flatten cur:=by
 obtain ⟨i,z,hi,hsz,hby,hzz,hzc⟩:=he.infoE
 have hvz:∀ v ∈ vs,v.cells.size=te.size:=by
  intro v hv
  obtain ⟨j,hj⟩:=List.mem_iff_getElem?.1 hv
  have hjl:j<rs.length:=by rw[All2.length hd];exact (List.getElem?_eq_some_iff.1 hj).1
  have h1:=All2.get2 hd j rs[j] v (List.getElem?_eq_getElem hjl) hj
  rw[← Array.length_toList,← All2.length h1]
  exact hr _ (List.getElem_mem hjl)
 have hpos:0<vs.length * te.size:=Nat.mul_pos hp hz
 obtain ⟨r,h1,h2,h3⟩:=Great.fill_dense (s:=te.size) hz vs 0 ((Array.range (vs.length * te.size)).map (z.cells[· % z.cells.size]!)) hvz (by simp)
 have hflat:r.toList=(vs.map fun v=>v.cells.toList).flatten:=by
  apply List.ext_getElem?
  intro k
  rw[flat_get hz (fun r hr=>by obtain ⟨v,hv,rfl⟩:=List.mem_map.1 hr;rw[Array.length_toList];exact hvz v hv)]
  rw[Array.getElem?_toList,h3 k]
  simp only[Nat.zero_mul,Nat.zero_add,Nat.sub_zero,Nat.zero_le,true_and]
  split
  ·rw[List.getElem?_map]
   cases vs[k / te.size]? with
   | none=>rfl
   | some v=>simp
  ·rename_i hk
   have:vs[k / te.size]?=none:=List.getElem?_eq_none (by
    have:vs.length * te.size≤k:=by omega
    exact (Nat.le_div_iff_mul_le hz).2 this)
   rw[List.getElem?_map,this]
   simp only[Option.map_none,Option.bind_none]
   rw[Array.getElem?_eq_none (by simp;omega)]
 refine ⟨r.toList,?_,by rw[hflat];exact all2_cells hd⟩
 have:=run_buildSlice (P:=P) w t e vs.length ((vs.zipIdx 0).map fun x=>(x.2,x.1)).toArray r i z ht hi hzz (by rw[hsz];omega) (by rw[hsz];omega) (by rw[hsz];simpa using h1)
 rw[this]
theorem Ok.allNew (h:Ok gl M0 S0 w0 N adr fr L n a w) {z:Nat} {l:List (List D)} {xs:List Value} {cap:Nat} (e:Nat) (hz:0<z) (hr:∀ r ∈ l,r.length=z) (hm:cap≤maxLen) (hlc:l.length≤cap) (hs:xs.length=cap * z) (hd:DenL (Mut M0 adr L) w l.flatten (xs.take (l.length * z))) :
 Ok gl M0 S0 w0 N (adrPush adr n (some w.heap.size,l.length)) fr ((n,.rows z l e)::L) (n+1) a (w.alloc (Obj.cells xs.toArray e (0,0)))∧
  AllAt (adrPush adr n (some w.heap.size,l.length)) (w.alloc (Obj.cells xs.toArray e (0,0))) z n (.slice (some ⟨w.heap.size,0,none⟩) l.length cap):=by
 have hnew:(w.alloc (Obj.cells xs.toArray e (0,0))).heap[w.heap.size]?=some (Obj.cells xs.toArray e (0,0)):=heap_alloc_new w _
 refine ⟨h.push ⟨hz,rfl,hr,xs.toArray,cap,hnew,by simpa using hs,hlc,hm,?_⟩,.inr ⟨_,_,cap,xs.toArray,e,(0,0),by unfold adrPush;rw[if_pos rfl],hnew,by simpa using hs,hlc,hm,rfl⟩⟩
 exact DenL.evo (Evo.alloc (fun _=>False) w _) (fun _ _ h=>h.elim) (fun b hb hm=>by
  rcases (mut_push h.wok.fresh h.wok.keys).1 hm with h1|h1
  ·exact h1
  ·cases h1;omega) hd
theorem made_take {z:Array Value} {n c:Nat} (hn:n≤c):(madeCells z (c * z.size)).toList.take (n * z.size)=(List.replicate n z.toList).flatten:=by
 rcases Nat.eq_zero_or_pos z.size with h0|h0
 ·have:z.toList=[]:=List.eq_nil_of_length_eq_zero (by simpa using h0)
  rw[this,h0]
  induction n with
  | zero=>simp
  | succ n ih=>simp[List.replicate_succ];
 ·apply List.ext_getElem?
  intro k
  rw[flat_get h0 (fun r hr=>by rw[List.eq_of_mem_replicate hr];simp)]
  have hle:n * z.size≤c * z.size:=Nat.mul_le_mul_right _ hn
  rcases Nat.lt_or_ge k (n * z.size) with hk|hk
  ·rw[List.getElem?_take_of_lt hk]
   have h1:k / z.size<n:=(Nat.div_lt_iff_lt_mul h0).2 hk
   have h2:=Nat.mod_lt k h0
   rw[List.getElem?_replicate_of_lt h1]
   simp only[madeCells,Option.bind_some]
   rw[Array.getElem?_toList,Array.getElem?_map,Array.getElem?_range,if_pos (by omega)]
   simp[h2]
  ·rw[List.getElem?_eq_none (by simp;omega),List.getElem?_eq_none (by simp;exact (Nat.le_div_iff_mul_le h0).2 hk)]
   rfl
theorem run_str_bytes (w:World) {src dst e:Nat} (hs:P.underlying src=some .string) (hd:P.underlying dst=some (.slice e)) (he:P.underlying e=some (.int .u8)) {M:Nat→Prop} (hM:∀ b,M b→b<w.heap.size) (l:List UInt8) (hl:l.length≤maxLen) :
 ∃ x w',(convert src dst (.string ⟨l.toArray⟩)).run P w=.ok x w'∧Evo (fun _=>False) w w'∧DenD M w' (.lst 1 (l.map u8D)) x:=by
 have hsz:(⟨l.toArray⟩:ByteArray).size=l.length:=rfl
 generalize hcap:grownCap w l.length 0 e=cap
 have hge:l.length≤cap:=by rw[← hcap];exact grownCap_ge w _ _ _
 have hcm:cap≤maxLen:=by rw[← hcap];exact grownCap_le_maxLen w _ _ _ hl
 let arr:Array Value:=(l.toArray.map fun b=>Value.int .u8 b.toNat)++Array.replicate (cap - l.length) (.int .u8 0)
 let w1:World:=w.drew.alloc (Obj.cells arr e)
 have hnew:w1.heap[w.heap.size]?=some (Obj.cells arr e):=heap_alloc_new w.drew _
 have hold:∀ b,b<w.heap.size→w1.heap[b]?=w.heap[b]?:=fun b hb=>Below.heap_alloc w.drew _ b hb
 have hwsz:w1.heap.size=w.heap.size+1:=by simp[w1]
 have hfr:∀ b,b≠w.heap.size→(w1.freeze { block:=w.heap.size,off:=arr.size } 1).heap[b]?=w1.heap[b]?:=fun b hb=>by
  unfold World.freeze
  rw[if_neg (by omega)]
  simp[Array.getElem?_modify,Ne.symm hb]
 have hfn:(w1.freeze { block:=w.heap.size,off:=arr.size } 1).heap[w.heap.size]?=some (Obj.cells arr e (arr.size,arr.size+1)):=by
  unfold World.freeze
  rw[if_neg (by omega)]
  have hlt:w.heap.size<w1.heap.size:=by omega
  have hv:w1.heap[w.heap.size]=Obj.cells arr e:=by
   rw[Array.getElem?_eq_getElem hlt] at hnew;exact Option.some.inj hnew
  rw[Array.getElem?_eq_getElem (by simpa using hlt),Array.getElem_modify]
  simp only[if_true,hv]
  rfl
 have hrun:(convert src dst (.string ⟨l.toArray⟩)).run P w=.ok (.slice (some ⟨w.heap.size,0,none⟩) l.length cap) (w1.freeze { block:=w.heap.size,off:=arr.size } 1):=by
  have hsh:w1.shape? w.heap.size=some (e,arr.size):=by simp[World.shape?,hnew]
  have hq:(Question.appendCap l.length 0 e).cut (w.tape w.drawn (.appendCap l.length 0 e))=cap:=hcap
  simp only[convert,Sem.run_bind,run_underlying hs,run_underlying hd,run_underlying he,Result.andThen_ok,Conv.stringToBytes,hsz,choose,Sem.run,Question.forced,Bool.false_eq_true,if_false,newRow,newObj,markStringish,shape,freeze,pure]
  simp only[hq]
  erw [hsh]
  rfl
 refine ⟨_,_,hrun,⟨?_,?_,?_,?_,fun b hb _=>?_,fun b cur e' f' hc=>?_⟩,?_⟩
 ·unfold World.freeze;rw[if_neg (by omega)];rfl
 ·unfold World.freeze;rw[if_neg (by omega)];rfl
 ·unfold World.freeze;rw[if_neg (by omega)];rfl
 ·unfold World.freeze;rw[if_neg (by omega)];simp;omega
 ·rw[hfr b (by omega)];exact hold b hb
 ·have hb:b<w.heap.size:=(Array.getElem?_eq_some_iff.1 hc).1
  exact ⟨cur,by rw[hfr b (by omega),hold b hb];exact hc,rfl⟩
 ·have hcell:∀ (i:Nat) b,l[i]?=some b→(w1.freeze { block:=w.heap.size,off:=arr.size } 1).cell? ⟨w.heap.size,i,none⟩=some (.int .u8 (b.toNat:Int)):=fun i b hi=>by
   simp only[World.cell?,hfn]
   have hil:i<l.length:=(List.getElem?_eq_some_iff.1 hi).1
   simp only[Option.isSome_none,Bool.false_eq_true,if_false,arr]
   rw[Array.getElem?_append_left (by simpa using hil)]
   simp[hi]
  have hlen:(l.map u8D).length=l.length:=by simp
  have hsize:(w1.freeze { block:=w.heap.size,off:=arr.size } 1).heap.size=w.heap.size+1:=by unfold World.freeze;rw[if_neg (by omega)];simpa using hwsz
  rw[← hlen]
  refine DenD.lst 1 _ w.heap.size 0 cap (fun i _=>.int .u8 ((l.getD i 0).toNat:Int)) (by omega) (fun hm=>Nat.lt_irrefl _ (hM _ hm)) (by rw[hlen];exact hge) hcm (fun r hr=>by obtain ⟨b,_,rfl⟩:=List.mem_map.1 hr;rfl) (fun i j d hg=>?_) (fun i j d hg=>?_)
  ·simp only[get2,List.getElem?_map,Option.bind_eq_some_iff,Option.map_eq_some_iff] at hg
   obtain ⟨r,⟨b,hb,rfl⟩,hj⟩:=hg
   have hj0:j=0:=by
    rcases j with _|j
    ·rfl
    ·simp at hj
   subst hj0
   rw[show 0+i * 1+0=i by omega,hcell i b hb]
   simp[hb]
  ·simp only[get2,List.getElem?_map,Option.bind_eq_some_iff,Option.map_eq_some_iff] at hg
   obtain ⟨r,⟨b,hb,rfl⟩,hj⟩:=hg
   have hj0:j=0:=by
    rcases j with _|j
    ·rfl
    ·simp at hj
   subst hj0
   simp only[List.getElem?_cons_zero,Option.some.injEq] at hj
   subst hj
   have:l.getD i 0=b:=by simp[hb]
   rw[this]
   exact .v _
end
end
end Go.EYtfcmhmglpcimiaaGreatDoor
