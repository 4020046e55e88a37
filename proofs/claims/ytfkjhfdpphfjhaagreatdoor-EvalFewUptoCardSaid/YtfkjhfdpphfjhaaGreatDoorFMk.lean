/- Proved: a part of what the law is proved with (the reckoner, contracts of functions, plain laws). Conditions: as each says. -/
import Derived.Test.YtfkjhfdpphfjhaaGreatDoorRows
import Derived.Test.YtfkjhfdpphfjhaaGreatDoorProg
import Derived.Laws.StructEq
import Derived.WalkKit
import Derived.Test.YtfkjhfdpphfjhaaGreatDoorFBa
import Derived.Test.YtfkjhfdpphfjhaaGreatDoorFDm
import Derived.Test.YtfkjhfdpphfjhaaGreatDoorFET
import Derived.Test.YtfkjhfdpphfjhaaGreatDoorFEv
import Derived.Test.YtfkjhfdpphfjhaaGreatDoorFFo
import Derived.Test.YtfkjhfdpphfjhaaGreatDoorFFp
import Derived.Test.YtfkjhfdpphfjhaaGreatDoorFGf
import Derived.Test.YtfkjhfdpphfjhaaGreatDoorFOa
namespace Go.Proofs.YtfkjhfdpphfjhaaGreatDoor
open Go Go.ChangeShapes Go.WideShapes Go.ChangeAt Go.RowKit Go.EYtfkjhfdpphfjhaaGreatDoor
set_option linter.unusedVariables false
set_option maxRecDepth 100000
abbrev vlR (v:Vl):List D:=[iD v.k,iD v.n,.str v.s]
abbrev inV (v:Vl):Prop:=okI v.n∧v.s.length≤140737488355328
section
variable {B n:Nat} {ds:List D}
theorem sh_vl (h:Sh Tryz.prog B n 31 ds):∃ v:Vl,ds=vlR v∧okI v.n∧v.s.length≤B:=by
 cases n with
 | zero=>exact h.elim
 | succ n =>
  unfold Sh at h;rw[Tryz.underlying31] at h
  obtain ⟨dss,h1,h2⟩:=h
  match dss,h2 with
  | [x,y,z],h2 =>
   obtain ⟨k,rfl,_⟩:=sh_int h2.1
   obtain ⟨m,rfl,hm⟩:=sh_int h2.2.1
   obtain ⟨s,rfl,hs⟩:=sh_str h2.2.2.1
   exact ⟨⟨k,m,s⟩,by simpa using h1,okI_of_wf hm,hs⟩
theorem sh_shw (h:Sh Tryz.prog B n 40 ds):∃ x:Shw,ds=shwD x∧okI x.v.n∧x.v.s.length≤B:=by
 cases n with
 | zero=>exact h.elim
 | succ n =>
  unfold Sh at h;rw[Tryz.underlying40] at h
  obtain ⟨dss,h1,h2⟩:=h
  match dss,h2 with
  | [x,y,z,u],h2 =>
   obtain ⟨c,r,rfl,_,_⟩:=sh_cell h2.1
   obtain ⟨v,rfl,hv,hs⟩:=sh_vl h2.2.1
   obtain ⟨st,rfl,_⟩:=sh_int h2.2.2.1
   obtain ⟨rd,rfl,_⟩:=sh_int h2.2.2.2.1
   exact ⟨⟨c,r,v,st,rd⟩,by simpa using h1,hv,hs⟩
theorem sh_shws (h:Sh Tryz.prog B n 29 ds):∃ l:List Shw,ds=[.lst 7 (l.map shwD)]∧l.length * 64≤B∧∀ x ∈ l,okI x.v.n∧x.v.s.length≤B:=by
 cases n with
 | zero=>exact h.elim
 | succ n =>
  unfold Sh at h;rw[Tryz.underlying29] at h
  obtain ⟨rows,rfl,h1,h3,h2⟩:=h
  obtain ⟨l,rfl,hl⟩:=map_of (g:=shwD) (p:=fun x=>okI x.v.n∧x.v.s.length≤B) fun r hr=>sh_shw (h2 r hr)
  exact ⟨l,by rw[show Tryz.prog.cellsOf 40=7 by kernel_rfl],by rw[List.length_map,show Tryz.prog.bytesOf 40=64 by kernel_rfl] at h3;exact h3,hl⟩
end
theorem open_shws {H:Type} {enc:TypeId×Value→H} {W:World} {sp:Nat→Bool} {hd:Bool} {v:Value} {d:DataW H} {p:List MemPlace} {b0:Nat} (hv:Value.okWide Tryz.prog W .any b0 29 v) (h:DataW.Trod enc Tryz.prog W 0 sp hd 29 v d p)
 (hw:∀ m ∈ d.weights Tryz.prog 29,m≤reachBytes):∃ l:List Shw,DenD (fun _=>False) W (.lst 7 (l.map shwD)) v∧l.length≤2199023255551∧∀ x ∈ l,inV x.v:=by
 obtain ⟨a,n,c,rfl⟩:=okWide_slice Tryz.underlying29 hv
 obtain ⟨f,hf⟩:=h
 obtain ⟨ds,h1,h2⟩:=sh_open (ts:=[29,40,23,31,3,9]) (by kernel_rfl) f _ _ _ hf (by decide) hw
 obtain ⟨l,rfl,h3,h4⟩:=sh_shws h2
 exact ⟨l,h1.1,by unfold reachBytes at h3;omega,fun x hx=>⟨(h4 x hx).1,Nat.le_trans (h4 x hx).2 (by decide)⟩⟩
end Go.Proofs.YtfkjhfdpphfjhaaGreatDoor
namespace Go.EYtfkjhfdpphfjhaaGreatDoor
open Go Go.ChangeShapes Go.WideShapes
def Sd (P:Program) (B:Nat):Nat→TypeId→List D→Prop
 | 0,_,_=>False
 | n+1,t,ds=>match P.underlying t with
  | some (.int k)=>∃ m,ds=[.v (.int k m)]∧(Lit.int k m).wf=true
  | some .bool=>∃ b:Bool,ds=[.b (b=true) inferInstance]
  | some .string=>∃ s,ds=[.str s]∧s.length≤B
  | some (.slice e)=>∃ rows,ds=[.lst (P.cellsOf e) rows]∧rows.length≤maxLen∧∀ r ∈ rows,Sd P B n e r
  | some (.struct fs)=>∃ dss:List (List D),ds=dss.flatten∧All2 (fun f d=>Sd P B n (Field.type f) d) fs.toList dss
  | _=>False
section
variable {H:Type} {enc:TypeId×Value→H} {P:Program} {w:World} {base:Nat} {sp:Nat→Bool} {hd:Bool}
theorem sd_fields {β:DataW H→Nat} {B n:Nat} {ts:List TypeId} {cs:List Value} {z:Nat} (hz:cs.length=z)
 (ih:∀ (t:TypeId) (cs:List Value) (x:DataW H×List MemPlace),DataW.trod enc P w base sp hd n t cs=some x→t ∈ ts→β x.1≤B→∃ ds,DenL (fun _=>False) w ds cs∧Sd P B n t ds) :
 ∀ (l:List Field) (o:Nat) (xs:List (DataW H×List MemPlace)),packs P z l o=true→(∀ f ∈ l,f.type ∈ ts)→xs.length=l.length→
  (∀ (i:Nat) (f:Field),l[i]?=some f→DataW.trod enc P w base sp hd n f.type ((cs.drop f.offset).take (P.cellsOf f.type))=xs[i]?)→
  (∀ (i:Nat) (f:Field) x,l[i]?=some f→xs[i]?=some x→β x.1≤B)→
  ∃ dss:List (List D),DenL (fun _=>False) w dss.flatten (cs.drop o)∧All2 (fun f d=>Sd P B n (Field.type f) d) l dss
 | [],o,xs,hp,_,_,_,_=>by
  have:o=z:=by simpa[packs] using hp
  exact ⟨[],by rw[List.drop_eq_nil_of_le (by omega)];trivial,trivial⟩
 | f::l,o,x::xs,hp,ht,hl,hf,hw=>by
  simp only[packs,Bool.and_eq_true,beq_iff_eq] at hp
  obtain ⟨ho,hp⟩:=hp
  have h0:=hf 0 f rfl
  rw[List.getElem?_cons_zero,ho] at h0
  obtain ⟨d,h1,h2⟩:=ih _ _ _ h0 (ht f (List.mem_cons_self ..)) (hw 0 f x rfl rfl)
  obtain ⟨dss,h3,h4⟩:=sd_fields hz ih l (o+P.cellsOf f.type) xs hp (fun g hg=>ht g (List.mem_cons_of_mem _ hg)) (by simpa using hl) (fun i g hg=>by simpa using hf (i+1) g (by simpa using hg)) (fun i g y hg hy=>hw (i+1) g y (by simpa using hg) (by simpa using hy))
  refine ⟨d::dss,?_,h2,h4⟩
  rw[List.flatten_cons]
  have:=All2.app h1 h3
  rwa [← List.drop_drop,List.take_append_drop] at this
 | f::l,o,[],_,_,hl,_,_=>by simp at hl
theorem sd_open {β:DataW H→Nat} (hstr:∀ s,s.length≤β (.lit (.string s))) (hsl:∀ es rs d,d ∈ es→β d≤β (.slice es rs)) (hag:∀ ps d,d ∈ ps→β d≤β (.agg ps)) {B:Nat} {ts:List TypeId} (hts:plainTs P ts=true):∀ (n:Nat) (t:TypeId) (cs:List Value) (x:DataW H×List MemPlace),DataW.trod enc P w base sp hd n t cs=some x→t ∈ ts→β x.1≤B→
 ∃ ds,DenL (fun _=>False) w ds cs∧Sd P B n t ds:=by
 intro n
 induction n with
 | zero=>intro t cs x h;simp[DataW.trod] at h
 | succ n ih =>
  intro t cs x h ht hw
  have hp:=List.all_eq_true.1 hts t ht
  split at hp
  ·rename_i k hu
   obtain ⟨m,rfl,rfl,hm⟩:=DataW.trod_int hu h
   exact ⟨[.v (.int k m)],⟨.v _,trivial⟩,by unfold Sd;rw[hu];exact ⟨m,rfl,hm⟩⟩
  ·rename_i hu
   obtain ⟨b,rfl,rfl⟩:=DataW.trod_bool hu h
   exact ⟨[.b (b=true) inferInstance],⟨by have:=DenD.b (M:=fun _=>False) (w:=w) (b=true) inferInstance;simpa using this,trivial⟩,by unfold Sd;rw[hu];exact ⟨b,rfl⟩⟩
  ·rename_i hu
   obtain ⟨s,rfl,rfl,hs⟩:=DataW.trod_string hu h
   refine ⟨[.str s.data.toList],⟨by have:=DenD.str (M:=fun _=>False) (w:=w) s.data.toList;simpa using this,trivial⟩,by unfold Sd;rw[hu];exact ⟨_,rfl,Nat.le_trans (hstr _) hw⟩⟩
  ·rename_i e hu
   simp only[Bool.and_eq_true,decide_eq_true_eq,List.contains_iff_mem] at hp
   obtain ⟨he,hz⟩:=hp
   rcases DataW.trod_slice hu h with ⟨rfl,rfl⟩|⟨a,len,cap,elems,rest,k,hk,rfl,rfl,hb,hl,hc,hel,hx,_,_⟩
   ·exact ⟨[.lst (P.cellsOf e) []],⟨.lst0 _ _ _ (Nat.zero_le _),trivial⟩,by unfold Sd;rw[hu];exact ⟨[],rfl,Nat.zero_le _,fun r hr=>by cases hr⟩⟩
   ·obtain rfl:n=k:=by omega
    have hw1:∀ y ∈ elems,β y.1≤B:=fun y hy=>Nat.le_trans (hsl _ _ _ (List.mem_map.2 ⟨y,hy,rfl⟩)) hw
    obtain ⟨R,hR⟩:=Deep.choose_lt (α:=List D×List Value) (n:=len) (p:=fun i r=>w.cells? base (a.add (i * P.cellsOf e)) (P.cellsOf e)=some r.2∧DenL (fun _=>False) w r.1 r.2∧Sd P B n e r.1) (fun i hi=>by
     have hi':i<elems.length:=by omega
     have h0:=hx i hi
     rw[List.getElem?_eq_getElem hi'] at h0
     obtain ⟨cs',h1,h2⟩:=Option.bind_eq_some_iff.1 h0
     obtain ⟨ds,h3,h4⟩:=ih e cs' _ h2 he (hw1 _ (List.getElem_mem hi'))
     exact ⟨(ds,cs'),h1,h3,h4⟩)
    refine ⟨[.lst (P.cellsOf e) ((List.range len).map fun i=>(R i).1)],⟨?_,trivial⟩,?_⟩
    ·by_cases h0:len=0
     ·subst h0;exact .lst0 _ _ _ hc
     ·have hc0:=(World.cells?_some (hR 0 (by omega)).1)
      have hlen:∀ i,i<len→(R i).2.length=P.cellsOf e:=fun i hi=>(World.cells?_some (hR i hi).1).2.1
      have hlen':∀ i,i<len→(R i).1.length=P.cellsOf e:=fun i hi=>(All2.length (hR i hi).2.1).trans (hlen i hi)
      have hcell:∀ i,i<len→∀ j,j<P.cellsOf e→w.cell? ((a.add (i * P.cellsOf e)).add j)=(R i).2[j]?:=fun i hi j hj=>(World.cells?_some (hR i hi).1).2.2 j hj
      obtain ⟨b,o,spot⟩:=a
      have h00:=hcell 0 (by omega) 0 hz
      rw[List.getElem?_eq_getElem (by rw[hlen 0 (by omega)];exact hz)] at h00
      have hspot:spot=none:=by simpa[Addr.add] using World.cell?_spot h00
      subst hspot
      have hbl:b<w.heap.size:=by
       have:=World.block_lt_of_cell? w _ h00
       simpa[Addr.add] using this
      have hll:len=((List.range len).map fun i=>(R i).1).length:=by simp
      rw[show (Value.slice (some ⟨b,o,none⟩) len cap)=Value.slice (some ⟨b,o,none⟩) ((List.range len).map fun i=>(R i).1).length cap by rw[← hll]]
      have hget:∀ i j d,get2 ((List.range len).map fun i=>(R i).1) i j=some d→i<len∧(R i).1[j]?=some d:=fun i j d hg=>by
       unfold get2 at hg
       obtain ⟨r,hr,hd⟩:=Option.bind_eq_some_iff.1 hg
       obtain ⟨hi,hr'⟩:=List.getElem?_eq_some_iff.1 hr
       have hi':i<len:=by simpa using hi
       refine ⟨hi',?_⟩
       rw[← hd,← hr']
       simp
      refine .lst _ _ b o cap (fun i j=>(R i).2.getD j default) hbl (fun h=>h) (by simpa using hl) hc (fun r hr=>?_) (fun i j d hg=>?_) (fun i j d hg=>?_)
      ·obtain ⟨i,hi,rfl⟩:=List.mem_map.1 hr
       exact hlen' i (List.mem_range.1 hi)
      ·obtain ⟨hi,hd⟩:=hget i j d hg
       have hj:j<P.cellsOf e:=by rw[← hlen' i hi];exact (List.getElem?_eq_some_iff.1 hd).1
       have:=hcell i hi j hj
       rw[List.getElem?_eq_getElem (by rw[hlen i hi];exact hj)] at this
       rw[show (⟨b,o+i * P.cellsOf e+j,none⟩:Addr)=((⟨b,o,none⟩:Addr).add (i * P.cellsOf e)).add j by rw[addr_add,addr_add],this]
       simp[List.getD,List.getElem?_eq_getElem (show j<(R i).2.length by rw[hlen i hi];exact hj)]
      ·obtain ⟨hi,hd⟩:=hget i j d hg
       have hj:j<(R i).2.length:=by rw[hlen i hi,← hlen' i hi];exact (List.getElem?_eq_some_iff.1 hd).1
       obtain ⟨v,hv,hdv⟩:=All2.get (hR i hi).2.1 hd
       rw[show (R i).2.getD j default=v by simp[List.getD,hv]]
       exact hdv
    ·unfold Sd;rw[hu]
     refine ⟨_,rfl,by simpa using Nat.le_trans hl hc ,fun r hr=>?_⟩
     obtain ⟨i,hi,rfl⟩:=List.mem_map.1 hr
     exact (hR i (List.mem_range.1 hi)).2.2
  ·rename_i fs hu
   simp only[Bool.and_eq_true,List.all_eq_true,List.contains_iff_mem] at hp
   obtain ⟨xs,k,hk,rfl,hcl,hxl,hf⟩:=DataW.trod_struct hu h
   obtain rfl:n=k:=by omega
   obtain ⟨dss,h1,h2⟩:=sd_fields (ts:=ts) hcl ih fs.toList 0 xs hp.1 hp.2 (by simpa using hxl) (fun i f hi=>hf i f (by simpa using hi)) (fun i f y hi hy=>Nat.le_trans (hag _ _ (List.mem_map.2 ⟨y,List.mem_of_getElem? hy,rfl⟩)) hw)
   exact ⟨dss.flatten,by simpa using h1,by unfold Sd;rw[hu];exact ⟨dss,rfl,h2⟩⟩
  ·cases hp
end
end Go.EYtfkjhfdpphfjhaaGreatDoor
namespace Go.Proofs.YtfkjhfdpphfjhaaGreatDoor
section
open Go Go.ChangeShapes Go.WideShapes Go.ChangeAt Go.RowKit Go.EYtfkjhfdpphfjhaaGreatDoor
set_option linter.unusedVariables false
set_option maxRecDepth 100000
section
variable {B n:Nat} {ds:List D}
theorem sd_int (h:Sd Tryz.prog B n 3 ds):∃ m,ds=[iD m]∧(Lit.int .i64 m).wf=true:=by
 cases n with
 | zero=>exact h.elim
 | succ n=>unfold Sd at h;rw[Tryz.underlying3] at h;exact h
theorem sd_bool (h:Sd Tryz.prog B n 4 ds):∃ b:Bool,ds=[tD b]:=by
 cases n with
 | zero=>exact h.elim
 | succ n=>unfold Sd at h;rw[Tryz.underlying4] at h;exact h
theorem sd_str (h:Sd Tryz.prog B n 9 ds):∃ s,ds=[.str s]∧s.length≤B:=by
 cases n with
 | zero=>exact h.elim
 | succ n=>unfold Sd at h;rw[Tryz.underlying9] at h;exact h
theorem sd_struct {t:TypeId} {fs:Array Field} (hu:Tryz.prog.underlying t=some (.struct fs)) (h:Sd Tryz.prog B n t ds):∃ m dss,n=m+1∧ds=dss.flatten∧All2 (fun f d=>Sd Tryz.prog B m (Field.type f) d) fs.toList dss:=by
 cases n with
 | zero=>exact h.elim
 | succ n =>
  unfold Sd at h;rw[hu] at h
  obtain ⟨dss,h1,h2⟩:=h
  exact ⟨n,dss,rfl,h1,h2⟩
theorem sd_cell (h:Sd Tryz.prog B n 23 ds):∃ c r,ds=[iD c,iD r]:=by
 obtain ⟨m,dss,rfl,rfl,h2⟩:=sd_struct Tryz.underlying23 h
 match dss,h2 with
 | [x,y],h2 =>
  obtain ⟨c,rfl,_⟩:=sd_int h2.1
  obtain ⟨r,rfl,_⟩:=sd_int h2.2.1
  exact ⟨c,r,rfl⟩
theorem sd_ref (h:Sd Tryz.prog B n 25 ds):∃ a:Rf,ds=[iD a.c,iD a.r,tD a.fc,tD a.fr]:=by
 obtain ⟨m,dss,rfl,rfl,h2⟩:=sd_struct Tryz.underlying25 h
 match dss,h2 with
 | [x,y,z],h2 =>
  obtain ⟨c,r,rfl⟩:=sd_cell h2.1
  obtain ⟨f,rfl⟩:=sd_bool h2.2.1
  obtain ⟨g,rfl⟩:=sd_bool h2.2.2.1
  exact ⟨⟨c,r,f,g⟩,rfl⟩
theorem nods_of:∀ {rows:List (List D)},(∀ r ∈ rows,∃ f:Nd,r=f.cs∧okN f)→∃ l:List Nd,rows=Nd.csL l∧okL l
 | [],_=>⟨[],rfl,trivial⟩
 | r::rows,h=>by
  obtain ⟨f,rfl,hf⟩:=h r (List.mem_cons_self ..)
  obtain ⟨l,rfl,hl⟩:=nods_of fun r hr=>h r (List.mem_cons_of_mem _ hr)
  exact ⟨f::l,rfl,hf,hl⟩
theorem sd_nod:∀ {n:Nat} {ds:List D},Sd Tryz.prog 1048576 n 28 ds→∃ f:Nd,ds=f.cs∧okN f:=by
 intro n
 induction n using Nat.strongRecOn with
 | ind n ih =>
  intro ds h
  obtain ⟨m,dss,rfl,rfl,h2⟩:=sd_struct Tryz.underlying28 h
  match dss,h2 with
  | [x1,x2,x3,x4,x5,x6],h2 =>
   obtain ⟨k,rfl,_⟩:=sd_int h2.1
   obtain ⟨j,rfl,hj⟩:=sd_int h2.2.1
   obtain ⟨t,rfl,ht⟩:=sd_str h2.2.2.1
   obtain ⟨a,rfl⟩:=sd_ref h2.2.2.2.1
   obtain ⟨b,rfl⟩:=sd_ref h2.2.2.2.2.1
   have hk:=h2.2.2.2.2.2.1
   cases m with
   | zero=>exact hk.elim
   | succ m =>
    unfold Sd at hk
    rw[show Tryz.prog.underlying _=some (.slice 28) from Tryz.underlying26] at hk
    obtain ⟨rows,rfl,_,hr⟩:=hk
    obtain ⟨l,rfl,hl⟩:=nods_of fun r h=>ih m (by omega) (hr r h)
    exact ⟨.mk k j t a b l,by rw[show Tryz.prog.cellsOf 28=12 by kernel_rfl];rfl,okI_of_wf hj,ht,hl⟩
end
theorem bulk_mem {H:Type} {d:DataW H}:∀ {l:List (DataW H)},d ∈ l→Rows.uptoBulk d≤Rows.uptoBulkAll l
 | x::r,h=>by
  simp only[Rows.uptoBulkAll]
  rcases List.mem_cons.1 h with rfl|h
  ·omega
  ·have:=bulk_mem h
   omega
theorem open_nod {H:Type} {enc:TypeId×Value→H} {W:World} {sp:Nat→Bool} {hd:Bool} {v:Value} {d:DataW H} {p:List MemPlace} {b0:Nat} (hv:Value.okWide Tryz.prog W .any b0 28 v) (h:DataW.Trod enc Tryz.prog W 0 sp hd 28 v d p)
 (hw:Rows.uptoBulk d≤1048576):∃ n:Nd,DenD (fun _=>False) W (.agg n.cs) v∧okN n:=by
 obtain ⟨cs,rfl,hsz⟩:=okWide_struct Tryz.underlying28 hv
 obtain ⟨f,hf⟩:=h
 obtain ⟨ds,h1,h2⟩:=sd_open (β:=Rows.uptoBulk) (fun s=>by simp[Rows.uptoBulk]) (fun es rs d hd=>by have:=bulk_mem hd;simp only[Rows.uptoBulk];omega) (fun ps d hd=>by have:=bulk_mem hd;simp only[Rows.uptoBulk];omega) (ts:=[28,25,23,3,4,9,26]) (by kernel_rfl) f _ _ _ hf (by decide) hw
 obtain ⟨n,rfl,hn⟩:=sd_nod h2
 refine ⟨n,?_,hn⟩
 have h3:All2 (DenD (fun _=>False) W) n.cs cs.toList:=h1
 exact DenD.agg n.cs cs.toList h3.length fun j d x=>h3.get2 j d x
end
section
open Go Go.ChangeShapes Go.WideShapes Go.ChangeAt Go.RowKit Go.EYtfkjhfdpphfjhaaGreatDoor
set_option linter.unusedVariables false
set_option maxRecDepth 100000
theorem bulk_pos {H:Type} (d:DataW H):1≤Rows.uptoBulk d:=by
 cases d with
 | lit l=>cases l <;> simp[Rows.uptoBulk]
 | _=>simp[Rows.uptoBulk]
theorem bulk_len {H:Type}:∀ l:List (DataW H),l.length≤Rows.uptoBulkAll l
 | []=>Nat.zero_le _
 | d::r=>by
  have h1:=bulk_pos d
  have h2:=bulk_len r
  rw[Rows.uptoBulkAll,List.length_cons]
  omega
theorem den_len {M:Nat→Prop} {W:World} {z:Nat} {rows:List (List D)} {a:Option Addr} {n c:Nat} (h:DenD M W (.lst z rows) (.slice a n c)):rows.length=n:=by
 cases h with
 | lst0=>rfl
 | lst=>rfl
theorem open_shwsU {H:Type} {enc:TypeId×Value→H} {W:World} {sp:Nat→Bool} {hd:Bool} {v:Value} {d:DataW H} {p:List MemPlace} {b0:Nat} (hv:Value.okWide Tryz.prog W .any b0 29 v) (h:DataW.Trod enc Tryz.prog W 0 sp hd 29 v d p)
 (hw:∀ m ∈ d.weights Tryz.prog 29,m≤reachBytes) (hb:Rows.uptoBulk d≤1048576):∃ l:List Shw,DenD (fun _=>False) W (.lst 7 (l.map shwD)) v∧l.length≤1048576∧∀ x ∈ l,inV x.v:=by
 obtain ⟨l,h1,_,h3⟩:=open_shws hv h hw
 refine ⟨l,h1,?_,h3⟩
 obtain ⟨a,n,c,rfl⟩:=okWide_slice Tryz.underlying29 hv
 have hn:=den_len h1
 rw[List.length_map] at hn
 obtain ⟨f,hf⟩:=h
 rcases DataW.trod_slice Tryz.underlying29 hf with ⟨e1,e2⟩|⟨a',len,cap,elems,rest,k,_,e1,e2,_,_,_,hel,_⟩
 ·have e3:Value.slice a n c=.slice none 0 0:=by
   have e9:[Value.slice a n c]=_:=e1
   exact (List.cons.inj e9).1
  cases e3
  omega
 ·have e3:Value.slice a n c=.slice (some a') len cap:=by
   have e9:[Value.slice a n c]=_:=e1
   exact (List.cons.inj e9).1
  cases e3
  have e4:=(Prod.mk.inj e2).1
  subst e4
  have h4:=bulk_len (elems.map (·.1))
  rw[List.length_map] at h4
  rw[Rows.uptoBulk] at hb
  omega
end
section
open Go Go.EYtfkjhfdpphfjhaaGreatDoor
set_option maxRecDepth 100000
set_option maxHeartbeats 4000000
variable {gl:List (Nat×List D)}
abbrev wG (gl:List (Nat×List D)):List (Nat×List D):=(1,[iD 4,iD 2,.str []])::gl
abbrev iR (n:Int):List D:=[iD n]
abbrev vlC (v:Vl):List C:=[.d (iD v.k),.d (iD v.n),.d (.str v.s)]
abbrev vB (v:Vl):Blk:=.var (vlC v) 31
theorem IsTrue_d (k n:Int) (s:List UInt8):FnP Tryz.prog gl 214 [vlD k n s] (.b (k=3∧n=1) inferInstance):=by
 by_cases hk:k=3
 ·refine S0 Tryz.func214 rfl ?_
  ((repeat' ((conv=>whnf);first|exact .intro|refine G ?_|intro _|refine .mk ?_ ?_|refine H ?_|fail));all_goals conv=>whnf)
  all_goals exact LeD.b ⟨fun h=>⟨hk,h⟩,fun h=>h.2⟩
 ·refine S0 Tryz.func214 rfl ?_
  ((repeat' ((conv=>whnf);first|exact .intro|refine G ?_|intro _|refine .mk ?_ ?_|refine H ?_|fail));all_goals conv=>whnf)
  all_goals exact LeD.bf fun h=>hk h.1
theorem many_d (t:List UInt8):FnP Tryz.prog gl 112 [.str t] (.b (isMany t) inferInstance):=by
 refine S0 Tryz.func112 rfl ?_
 ((repeat' ((conv=>whnf);first|exact .intro|refine G ?_|intro _|refine .mk ?_ ?_|refine H ?_|fail));all_goals conv=>whnf)
 all_goals first
  | exact LeD.bf (by simp[isMany, *])
  | (rename_i h;subst h;exact LeD.bt (by decide))
theorem arguments_d (t:List UInt8):FnP Tryz.prog gl 114 [.str t] (.tup [iD (argZ t).1,iD (argZ t).2]):=by
 refine S0 Tryz.func114 rfl ?_
 ((repeat' ((conv=>whnf);first|exact .intro|refine G ?_|intro _|refine .mk ?_ ?_|refine H ?_|fail));all_goals conv=>whnf)
 all_goals first
  | (rename_i h;subst h;exact LeD.rfl)
  | exact LeD.of (by rw[show argZ t=(-1,-1) by simp[argZ,is1,is2,is3, *]];rfl)
theorem box_y {m:Int} {t:List UInt8} {a b:Rf} {ks:List Nd} (ha:okP a.c a.r) (hb:okP b.c b.r):FnP Tryz.prog gl 176 [.agg (Nd.cs (.mk 6 m t a b ks))] (.tup [boxD (min a.c b.c) (min a.r b.r) (max a.c b.c) (max a.r b.r),.lst 2 ((boxC a b).map rowC),.v (.bool true)]):=by
 have c1:FnP Tryz.prog gl 216 [cellD a.c a.r,cellD b.c b.r] (.tup [boxD (min a.c b.c) (min a.r b.r) (max a.c b.c) (max a.r b.r),.v .nilIface]):=Box_s ha hb
 have c2:FnP Tryz.prog gl 217 [boxD (min a.c b.c) (min a.r b.r) (max a.c b.c) (max a.r b.r)] (.tup [.lst 2 ((boxC a b).map rowC),.v .nilIface]):=Cells_s (boxC_box ha hb)
 generalize boxC a b=cs at *
 refine S0 Tryz.func176 rfl ?_
 ((repeat' ((conv=>whnf);first|exact .intro|refine G ?_|intro _|refine C1 c1 ?_|refine C1 c2 ?_|refine .mk ?_ ?_|refine H ?_|fail));all_goals conv=>whnf)
 all_goals exact LeD.rfl
theorem box_n {k m:Int} {t:List UInt8} {a b:Rf} {ks:List Nd} (hk:¬ k=6):FnP Tryz.prog gl 176 [.agg (Nd.cs (.mk k m t a b ks))] (.tup [boxD 0 0 0 0,.v (.slice none 0 0),.v (.bool false)]):=by
 refine S0 Tryz.func176 rfl ?_
 ((repeat' ((conv=>whnf);first|exact .intro|refine G ?_|intro _|refine .mk ?_ ?_|refine H ?_|fail));all_goals conv=>whnf)
 all_goals exact LeD.rfl
theorem sumL_snoc {l:List Int} {k:Nat} (h:k<l.length):sumL (l.take (k+1))=twoV 8 (sumL (l.take k)) ⟨1,l[k],[]⟩:=by
 unfold sumL
 rw[List.take_succ_eq_append_getElem h,List.foldl_append]
 rfl
section
variable (te:TypeId) (pe:Value) (hV:Has gl (glV te pe))
include hV
theorem alike_d {a b:Vl} (ha:a.ok) (hb:b.ok):FnP Tryz.prog gl 178 [a.d,b.d] (.b (alikeP a b) inferInstance):=by
 have c1:=FnP.moreG (Two_v te pe 1 ha hb) hV
 have hi:alikeP a b↔(twoV 1 a b).k=3∧(twoV 1 a b).n=1:=Iff.rfl
 generalize twoV 1 a b=x at c1 hi
 have c2:FnP Tryz.prog gl 214 [x.d] (.b (x.k=3∧x.n=1) inferInstance):=IsTrue_d x.k x.n x.s
 by_cases h:x.k=3∧x.n=1
 ·refine S0 Tryz.func178 rfl ?_
  ((repeat' ((conv=>whnf);first|exact .intro|refine G ?_|intro _|refine C1 c1 ?_|refine C1 c2 ?_|refine .mk ?_ ?_|refine H ?_|fail));all_goals conv=>whnf)
  all_goals exact LeD.b hi.symm
 ·refine S0 Tryz.func178 rfl ?_
  ((repeat' ((conv=>whnf);first|exact .intro|refine G ?_|intro _|refine C1 c1 ?_|refine C1 c2 ?_|refine .mk ?_ ?_|refine H ?_|fail));all_goals conv=>whnf)
  all_goals exact LeD.b hi.symm
theorem Sum_d (l:List Int) (h:∀ n ∈ l,okI n) (hl:l.length≤1048576):FnP Tryz.prog gl 179 [.lst 1 (l.map iR)] (sumL l).d:=by
 have hlen:(l.map iR).length=l.length:=List.length_map _
 have c0:=Num_d (gl:=gl) 0
 refine S0 Tryz.func179 rfl ?_
 ((repeat' ((conv=>whnf);first|exact .intro|refine G ?_|intro _|refine C1 c0 ?_|refine .mk ?_ ?_|refine H ?_|fail));all_goals conv=>whnf)
 refine ⟨{ σ:=Nat,fr:=fun k=>[(9,.c (.d (iD (k:Int))))],ks:=[1],L:=fun k=>[(1,vB (sumL (l.take k)))],ex:=0,I:=fun k=>k≤l.length,μ:=fun k=>l.length - k },⟨0,Nat.zero_le _,?_⟩,fun (k:Nat) hk=>?_⟩
 ·((repeat' first|exact rfl|((conv=>whnf);first|done|exact suL|refine And.intro ?_ ?_|fail));all_goals conv=>whnf)
 ·replace hk:k≤l.length:=hk
  have e0:IntKind.i64.wrap ((k:Int)+1)=((k+1:Nat):Int):=by rw[wrapI (by omega)];rfl
  by_cases hlt:k<l.length
  ·have h2:(k:Int)<(((l.map iR).length:Nat):Int):=by omega
   have g1:=get_map (f:=iR) hlt
   have hsn:=sumL_snoc hlt
   have hok:=sumL_ok (l:=l.take k) fun n hn=>h n (List.mem_of_mem_take hn)
   have hn:=h _ (List.getElem_mem hlt)
   generalize l[k]=m at *
   have c1:=Num_d (gl:=gl) m
   have c2:FnP Tryz.prog gl 65 [iD 8,(sumL (l.take k)).d,vlD 1 m []] (sumL (l.take (k+1))).d:=by rw[hsn];exact FnP.moreG (Two_v te pe 8 hok (ok_num hn)) hV
   generalize hs':sumL (l.take (k+1))=s' at c2
   ((repeat' ((conv=>whnf);first|exact .intro|refine G ?_|intro _|refine C1 c1 ?_|refine C1 c2 ?_|(refine ⟨Int.natCast_nonneg _,_,g1,?_⟩)|refine .mk ?_ ?_|refine H ?_|fail));all_goals conv=>whnf)
   all_goals refine ⟨k+1,⟨hlt,by show l.length - (k+1)<l.length - k;omega⟩,?_⟩
   all_goals ((repeat' first|exact rfl|((conv=>whnf);first|done|exact suL|refine And.intro ?_ ?_|fail));all_goals conv=>whnf)
   all_goals first|exact ceq e0|(rw[hs'];first|done|exact .inr (.inl rfl))|skip
  ·have h2:¬ (k:Int)<(((l.map iR).length:Nat):Int):=by omega
   obtain rfl:k=l.length:=by omega
   ((repeat' ((conv=>whnf);first|exact .intro|refine G ?_|intro _|refine .mk ?_ ?_|refine H ?_|fail));all_goals conv=>whnf)
   all_goals exact LeD.of (by rw[List.take_length];rfl)
end
end
section
open Go Go.EYtfkjhfdpphfjhaaGreatDoor
theorem fitE1:FitsOne Tryz.prog 212 ⟨false,1,8,[.v .nilFunc],[],false,none,none,0,[],false,[]⟩:=⟨by kernel_rfl,rfl,rfl,by kernel_rfl,(fun h=>by cases h),by kernel_rfl⟩
theorem fitsE:Fits Tryz.prog ((212,⟨false,1,8,[.v .nilFunc],[],false,none,none,0,[],false,[]⟩)::tt) :=
 fits_cons fitE1 fits
end
section
open Go Go.RowKit Go.EYtfkjhfdpphfjhaaGreatDoor
set_option maxRecDepth 100000
theorem check_cell (w:World) (em:Bool) (a b:Int):(Instr.checkKey em 10000 23 (.agg #[.int .i64 a,.int .i64 b])).run Tryz.prog w=.ok () w:=by kernel_rfl
theorem eq_cell (w:World) (a b c d:Int):∃ r:Bool,(Op.equal 23 (.agg #[.int .i64 a,.int .i64 b]) (.agg #[.int .i64 c,.int .i64 d])).run Tryz.prog w=.ok r w∧(r=true↔(Value.agg #[.int .i64 c,.int .i64 d])=.agg #[.int .i64 a,.int .i64 b]):=by
 refine ⟨a==c && b==d,?_,?_⟩
 ·have u3:=Tryz.underlying3
  have a3:=Tryz.isAgg3
  have z3:=Tryz.sizeOf3
  have hS:Tryz.prog.underlying 23=some (.struct (Tryz.prog.fieldsOf 23)):=by kernel_rfl
  have hp:Tryz.prog.stoodInHeld 23=false:=by kernel_rfl
  show (Op.equalIn (9999+1) 23 _ _).run Tryz.prog w=_
  rw[run_equalIn_agg w 9999 23 _ _ hS hp]
  simp only[Program.fieldsOf,Tryz.underlying23]
  go_simp
  by_cases h1:a=c <;> by_cases h2:b=d <;> simp[h1,h2]
 ·simp
  constructor
  ·rintro ⟨rfl,rfl⟩;exact ⟨rfl,rfl⟩
  ·rintro ⟨rfl,rfl⟩;exact ⟨rfl,rfl⟩
theorem key_cell:KeyT Tryz.prog 23 3:=by
 refine keyT_of (fun w em d x hs hx=>?_) (fun w d e x y hs he hx hy=>?_) Tryz.underlying23 (fun x y=>?_)
 ·rcases keyS_cases hs with ⟨h,_⟩|⟨h,_⟩|⟨_,a,b,rfl⟩
  ·cases h
  ·cases h
  ·cases hx
   exact check_cell w em a b
 ·rcases keyS_cases hs with ⟨h,_⟩|⟨h,_⟩|⟨_,a,b,rfl⟩
  ·cases h
  ·cases h
  ·rcases keyS_cases he with ⟨h,_⟩|⟨h,_⟩|⟨_,c,d,rfl⟩
   ·cases h
   ·cases h
   ·cases hx
    cases hy
    exact eq_cell w a b c d
 ·cases x <;> cases y <;> rfl
end
end Go.Proofs.YtfkjhfdpphfjhaaGreatDoor
