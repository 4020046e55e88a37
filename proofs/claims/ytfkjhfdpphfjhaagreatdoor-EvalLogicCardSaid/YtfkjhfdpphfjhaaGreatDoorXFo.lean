/- Proved: a part of what the law is proved with (the reckoner, contracts of functions, plain laws). Conditions: as each says. -/
import Derived.Deep.Slices
import Derived.SizedLaws
import Derived.Handed
import Derived.Test.YtfkjhfdpphfjhaaGreatDoorXEq
section
namespace Go.EYtfkjhfdpphfjhaaGreatDoor
open Go Go.ChangeShapes Go.WideShapes
def Sh (P:Program) (B:Nat):Nat→TypeId→List D→Prop
 | 0,_,_=>False
 | n+1,t,ds=>match P.underlying t with
  | some (.int k)=>∃ m,ds=[.v (.int k m)]∧(Lit.int k m).wf=true
  | some .bool=>∃ b,ds=[.v (.bool b)]
  | some .string=>∃ s,ds=[.str s]∧s.length≤B
  | some (.slice e)=>∃ rows,ds=[.lst (P.cellsOf e) rows]∧rows.length≤maxLen∧rows.length * P.bytesOf e≤B∧∀ r ∈ rows,Sh P B n e r
  | some (.struct fs)=>∃ dss:List (List D),ds=dss.flatten∧All2 (fun f d=>Sh P B n (Field.type f) d) fs.toList dss
  | _=>False
def packs (P:Program) (z:Nat):List Field→Nat→Bool
 | [],o=>o==z
 | f::r,o=>f.offset==o && packs P z r (o+P.cellsOf f.type)
def plainTs (P:Program) (ts:List TypeId):Bool:=ts.all fun t=>match P.underlying t with
 | some (.int _)=>true
 | some .bool=>true
 | some .string=>true
 | some (.slice e)=>ts.contains e && decide (0<P.cellsOf e)
 | some (.struct fs)=>packs P (P.cellsOf t) fs.toList 0 && fs.toList.all fun f=>ts.contains f.type
 | _=>false
section
variable {H:Type} {enc:TypeId×Value→H} {P:Program} {w:World} {base:Nat} {sp:Nat→Bool} {hd:Bool}
theorem weightsAll_mem {e:TypeId} {d:DataW H} {m:Nat} (hm:m ∈ d.weights P e):∀ {l:List (DataW H)},d ∈ l→m ∈ DataW.weightsAll P e l
 | x::l,h=>by
  simp only[DataW.weightsAll,List.mem_append]
  rcases List.mem_cons.1 h with rfl|h
  ·exact .inl hm
  ·exact .inr (weightsAll_mem hm h)
theorem sh_fields {B n:Nat} {ts:List TypeId} {cs:List Value} {z:Nat} (hz:cs.length=z)
 (ih:∀ (t:TypeId) (cs:List Value) (x:DataW H×List MemPlace),DataW.trod enc P w base sp hd n t cs=some x→t ∈ ts→(∀ m ∈ x.1.weights P t,m≤B)→∃ ds,DenL (fun _=>False) w ds cs∧Sh P B n t ds) :
 ∀ (l:List Field) (o:Nat) (xs:List (DataW H×List MemPlace)),packs P z l o=true→(∀ f ∈ l,f.type ∈ ts)→xs.length=l.length→
  (∀ (i:Nat) (f:Field),l[i]?=some f→DataW.trod enc P w base sp hd n f.type ((cs.drop f.offset).take (P.cellsOf f.type))=xs[i]?)→
  (∀ (i:Nat) (f:Field) x,l[i]?=some f→xs[i]?=some x→∀ m ∈ x.1.weights P f.type,m≤B)→
  ∃ dss:List (List D),DenL (fun _=>False) w dss.flatten (cs.drop o)∧All2 (fun f d=>Sh P B n (Field.type f) d) l dss
 | [],o,xs,hp,_,_,_,_=>by
  have:o=z:=by simpa[packs] using hp
  exact ⟨[],by rw[List.drop_eq_nil_of_le (by omega)];trivial,trivial⟩
 | f::l,o,x::xs,hp,ht,hl,hf,hw=>by
  simp only[packs,Bool.and_eq_true,beq_iff_eq] at hp
  obtain ⟨ho,hp⟩:=hp
  have h0:=hf 0 f rfl
  rw[List.getElem?_cons_zero,ho] at h0
  obtain ⟨d,h1,h2⟩:=ih _ _ _ h0 (ht f (List.mem_cons_self ..)) (hw 0 f x rfl rfl)
  obtain ⟨dss,h3,h4⟩:=sh_fields hz ih l (o+P.cellsOf f.type) xs hp (fun g hg=>ht g (List.mem_cons_of_mem _ hg)) (by simpa using hl) (fun i g hg=>by simpa using hf (i+1) g (by simpa using hg)) (fun i g y hg hy=>hw (i+1) g y (by simpa using hg) (by simpa using hy))
  refine ⟨d::dss,?_,h2,h4⟩
  rw[List.flatten_cons]
  have:=All2.app h1 h3
  rwa [← List.drop_drop,List.take_append_drop] at this
 | f::l,o,[],_,_,hl,_,_=>by simp at hl
theorem sh_open {B:Nat} {ts:List TypeId} (hts:plainTs P ts=true):∀ (n:Nat) (t:TypeId) (cs:List Value) (x:DataW H×List MemPlace),DataW.trod enc P w base sp hd n t cs=some x→t ∈ ts→(∀ m ∈ x.1.weights P t,m≤B)→
 ∃ ds,DenL (fun _=>False) w ds cs∧Sh P B n t ds:=by
 intro n
 induction n with
 | zero=>intro t cs x h;simp[DataW.trod] at h
 | succ n ih =>
  intro t cs x h ht hw
  have hp:=List.all_eq_true.1 hts t ht
  split at hp
  ·rename_i k hu
   obtain ⟨m,rfl,rfl,hm⟩:=DataW.trod_int hu h
   exact ⟨[.v (.int k m)],⟨.v _,trivial⟩,by unfold Sh;rw[hu];exact ⟨m,rfl,hm⟩⟩
  ·rename_i hu
   obtain ⟨b,rfl,rfl⟩:=DataW.trod_bool hu h
   exact ⟨[.v (.bool b)],⟨.v _,trivial⟩,by unfold Sh;rw[hu];exact ⟨b,rfl⟩⟩
  ·rename_i hu
   obtain ⟨s,rfl,rfl,hs⟩:=DataW.trod_string hu h
   refine ⟨[.str s.data.toList],⟨by have:=DenD.str (M:=fun _=>False) (w:=w) s.data.toList;simpa using this,trivial⟩,by unfold Sh;rw[hu];exact ⟨_,rfl,hw _ (by simp[DataW.weights])⟩⟩
  ·rename_i e hu
   simp only[Bool.and_eq_true,decide_eq_true_eq,List.contains_iff_mem] at hp
   obtain ⟨he,hz⟩:=hp
   rcases DataW.trod_slice hu h with ⟨rfl,rfl⟩|⟨a,len,cap,elems,rest,k,hk,rfl,rfl,hb,hl,hc,hel,hx,_,_⟩
   ·exact ⟨[.lst (P.cellsOf e) []],⟨.lst0 _ _ _ (Nat.zero_le _),trivial⟩,by unfold Sh;rw[hu];exact ⟨[],rfl,Nat.zero_le _,by simp,fun r hr=>by cases hr⟩⟩
   ·obtain rfl:n=k:=by omega
    have hw1:∀ y ∈ elems,∀ j ∈ y.1.weights P e,j≤B:=fun y hy j hj=>hw j (by
     simp only[DataW.weights,hu,List.mem_cons,List.mem_append]
     exact .inr (.inl (weightsAll_mem hj (List.mem_map.2 ⟨y,hy,rfl⟩))))
    have hwB:len * P.bytesOf e≤B:=by
     have:=hw _ (by simp only[DataW.weights,hu];exact List.mem_cons_self ..)
     refine Nat.le_trans (Nat.mul_le_mul_right _ ?_) this
     simp[hel]
    obtain ⟨R,hR⟩:=Deep.choose_lt (α:=List D×List Value) (n:=len) (p:=fun i r=>w.cells? base (a.add (i * P.cellsOf e)) (P.cellsOf e)=some r.2∧DenL (fun _=>False) w r.1 r.2∧Sh P B n e r.1) (fun i hi=>by
     have hi':i<elems.length:=by omega
     have h0:=hx i hi
     rw[List.getElem?_eq_getElem hi'] at h0
     obtain ⟨cs',h1,h2⟩:=Option.bind_eq_some_iff.1 h0
     obtain ⟨ds,h3,h4⟩:=ih e cs' _ h2 he (hw1 _ (List.getElem_mem hi'))
     exact ⟨(ds,cs'),h1,h3,h4⟩)
    refine ⟨[.lst (P.cellsOf e) ((List.range len).map fun i=>(R i).1)],⟨?_,trivial⟩,?_⟩
    ·by_cases h0:len=0
     ·subst h0;exact .lst0 _ _ _ hc
     ·have hc0:=(World.cells?_some (hR 0 (by omega)).1)
      have hlen:∀ i,i<len→(R i).2.length=P.cellsOf e:=fun i hi=>(World.cells?_some (hR i hi).1).2.1
      have hlen':∀ i,i<len→(R i).1.length=P.cellsOf e:=fun i hi=>(All2.length (hR i hi).2.1).trans (hlen i hi)
      have hcell:∀ i,i<len→∀ j,j<P.cellsOf e→w.cell? ((a.add (i * P.cellsOf e)).add j)=(R i).2[j]?:=fun i hi j hj=>(World.cells?_some (hR i hi).1).2.2 j hj
      obtain ⟨b,o,spot⟩:=a
      have h00:=hcell 0 (by omega) 0 hz
      rw[List.getElem?_eq_getElem (by rw[hlen 0 (by omega)];exact hz)] at h00
      have hspot:spot=none:=by simpa[Addr.add] using World.cell?_spot h00
      subst hspot
      have hbl:b<w.heap.size:=by
       have:=World.block_lt_of_cell? w _ h00
       simpa[Addr.add] using this
      have hll:len=((List.range len).map fun i=>(R i).1).length:=by simp
      rw[show (Value.slice (some ⟨b,o,none⟩) len cap)=Value.slice (some ⟨b,o,none⟩) ((List.range len).map fun i=>(R i).1).length cap by rw[← hll]]
      have hget:∀ i j d,get2 ((List.range len).map fun i=>(R i).1) i j=some d→i<len∧(R i).1[j]?=some d:=fun i j d hg=>by
       unfold get2 at hg
       obtain ⟨r,hr,hd⟩:=Option.bind_eq_some_iff.1 hg
       obtain ⟨hi,hr'⟩:=List.getElem?_eq_some_iff.1 hr
       have hi':i<len:=by simpa using hi
       refine ⟨hi',?_⟩
       rw[← hd,← hr']
       simp
      refine .lst _ _ b o cap (fun i j=>(R i).2.getD j default) hbl (fun h=>h) (by simpa using hl) hc (fun r hr=>?_) (fun i j d hg=>?_) (fun i j d hg=>?_)
      ·obtain ⟨i,hi,rfl⟩:=List.mem_map.1 hr
       exact hlen' i (List.mem_range.1 hi)
      ·obtain ⟨hi,hd⟩:=hget i j d hg
       have hj:j<P.cellsOf e:=by rw[← hlen' i hi];exact (List.getElem?_eq_some_iff.1 hd).1
       have:=hcell i hi j hj
       rw[List.getElem?_eq_getElem (by rw[hlen i hi];exact hj)] at this
       rw[show (⟨b,o+i * P.cellsOf e+j,none⟩:Addr)=((⟨b,o,none⟩:Addr).add (i * P.cellsOf e)).add j by rw[addr_add,addr_add],this]
       simp[List.getD,List.getElem?_eq_getElem (show j<(R i).2.length by rw[hlen i hi];exact hj)]
      ·obtain ⟨hi,hd⟩:=hget i j d hg
       have hj:j<(R i).2.length:=by rw[hlen i hi,← hlen' i hi];exact (List.getElem?_eq_some_iff.1 hd).1
       obtain ⟨v,hv,hdv⟩:=All2.get (hR i hi).2.1 hd
       rw[show (R i).2.getD j default=v by simp[List.getD,hv]]
       exact hdv
    ·unfold Sh;rw[hu]
     refine ⟨_,rfl,by simpa using Nat.le_trans hl hc,by simpa using hwB,fun r hr=>?_⟩
     obtain ⟨i,hi,rfl⟩:=List.mem_map.1 hr
     exact (hR i (List.mem_range.1 hi)).2.2
  ·rename_i fs hu
   simp only[Bool.and_eq_true,List.all_eq_true,List.contains_iff_mem] at hp
   obtain ⟨xs,k,hk,rfl,hcl,hxl,hf⟩:=DataW.trod_struct hu h
   obtain rfl:n=k:=by omega
   obtain ⟨dss,h1,h2⟩:=sh_fields (ts:=ts) hcl ih fs.toList 0 xs hp.1 hp.2 (by simpa using hxl) (fun i f hi=>hf i f (by simpa using hi)) (fun i f y hi hy m hm=>hw m (by
    simp only[DataW.weights,hu]
    exact DataW.weights_mem_each (j:=i) (t:=f.type) (by simp[hi]) (by simp[hy]) m hm))
   exact ⟨dss.flatten,by simpa using h1,by unfold Sh;rw[hu];exact ⟨dss,rfl,h2⟩⟩
  ·cases hp
end
end Go.EYtfkjhfdpphfjhaaGreatDoor
namespace Go
theorem wrapYtfkjhfdpphfjhaaGreatDoor {H:Type} {enc:TypeId×Value→H} {a:Assume} {C:Checked} {os:Os} {f:FuncId} {fn:Func} {s:ChangeSpec} {conds:List PathCond} {apart fresh handsOn again:Bool} {X:World→Array Value→Prop}
 (hX:∀ (w w':World) (args:Array Value),w.heap=w'.heap→X w args→X w' args)
 (own:ownKnob C.prog.godebug=none) (started:os.Started) (noInit:C.prog.inits.idxOf? f=none) (hfn:C.prog.funcs[f]?=some fn)
 (witness:∃ (w:World) (tape:Tape) (i:Input),w.os=os∧(w.forCall tape i).Shaped C.prog∧i.vars=[]∧Input.okWide C.prog (w.forCall tape i) .any w.heap.size f i∧
  ((s.pre enc C.prog fn conds apart (w.forCall tape i).memory i.args∧X (w.forCall tape i).memory i.args)∧sizedMet enc C.prog fn (OpenSpec.ofChange s) apart (w.forCall tape i).memory i.args)∧a.holds C.prog (lone (Frame.enter C.prog f i.args .normal) [] (w.forCall tape i)))
 (contract:∀ (W:World) (base:Nat) (args:Array Value) (ds gs:List (DataW H)) (before:List MemPlace),
  (∀ (j:Nat) t v,fn.params[j]?=some t→args[j]?=some v→Value.okWide C.prog W .any base t v)→
  DataW.Whole enc C.prog fn.params.toList s.vars apart W args.toList ds gs before→
  conds.all (PathCond.test C.prog ⟨fn.params.toList,ds,s.plain.varTypes C.prog,gs⟩)=true→
  (DataW.weightsEach C.prog (fn.params.toList++s.plain.varTypes C.prog) (ds++gs)).all (·≤reachBytes)=true→X W args→W.ShapedOpen C.prog→
  Calls C.prog f args W fun e W'=>∃ v,e=.returned v∧s.post enc C.prog fn apart fresh handsOn again W args v W') :
 ReturnsInHanded a C os f .any (fun w args=>(s.pre enc C.prog fn conds apart w args∧X w args)∧sizedMet enc C.prog fn (OpenSpec.ofChange s) apart w args) (s.post enc C.prog fn apart fresh handsOn again):=by
 refine returnsInHanded_of_calls own started noInit witness ?_
 intro w tape i _ hsh _ hok hpre hholds
 obtain ⟨_,_,_,fn',hfn',_,_,_,_,hval⟩:=hok
 have e:fn'=fn:=Option.some.inj (hfn'.symm.trans hfn)
 subst e
 obtain ⟨⟨⟨ds,gs,before,hw,hc⟩,hx⟩,hz⟩:=hpre
 have hw':=DataW.Whole.of_heap (w':=w.forCall tape i) (by rfl) hw
 refine (contract (w.forCall tape i) w.heap.size i.args ds gs before hval hw' hc (hz.weights hw) (hX _ _ _ (by rfl) hx) hsh).mono fun e W' ⟨v,he,hp⟩=>?_
 subst he
 exact ChangeSpec.post_blind hp
end Go
end
