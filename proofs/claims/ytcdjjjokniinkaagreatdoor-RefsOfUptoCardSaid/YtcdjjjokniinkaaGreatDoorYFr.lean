/- Proved: a part of what the law is proved with (the reckoner, contracts of functions, plain laws). Conditions: as each says. -/
import Derived.Shelf.Vars
import Derived.Test.YtcdjjjokniinkaaGreatDoorRows
import Derived.Test.YtcdjjjokniinkaaGreatDoorProg
import Derived.Test.YtcdjjjokniinkaaGreatDoorYBh
import Derived.Test.YtcdjjjokniinkaaGreatDoorYCc
import Derived.Test.YtcdjjjokniinkaaGreatDoorYCg
import Derived.Test.YtcdjjjokniinkaaGreatDoorYFo
import Derived.Test.YtcdjjjokniinkaaGreatDoorYGd
import Derived.Test.YtcdjjjokniinkaaGreatDoorYLg
import Derived.Test.YtcdjjjokniinkaaGreatDoorYMd
section
namespace Go.Proofs.YtcdjjjokniinkaaGreatDoor
open Go Go.EYtcdjjjokniinkaaGreatDoor
set_option maxRecDepth 100000
set_option maxHeartbeats 4000000
variable {gl:List (Nat×List D)}
theorem sameNil2:FnP Tryz.prog gl 13 [.v (.slice none 0 0),.v (.slice none 0 0)] (.b True inferInstance):=fun w M xs hM hG hd=>by
 match xs,hd with
 | x::xs,⟨hx,hd⟩=>exact sameNil (gl:=gl) w M (x::xs) hM hG ⟨LeD.nil0.1 _ _ _ hx,hd⟩
theorem RefsOf_d (te:TypeId) (pe:Value) (hV:Has gl (glV te pe)) (hl:Go.EYtcdjjjokniinkaaGreatDoor.look gl 1=some lvAll) (he:Go.EYtcdjjjokniinkaaGreatDoor.look gl 0=some errT) {mx:Int} (hm:Go.EYtcdjjjokniinkaaGreatDoor.look gl 3=some [iD mx]) (n:Nd) (ho:okN n):FnP Tryz.prog gl 4 [.agg n.cs] (.v (.bool true)):=by
 obtain ⟨rf,hR,hE⟩:=refs_ok
 have c1:=rPrint_d (gl:=gl) hR hE n ho
 have c2:=fCheck_d te pe hV hl hR hm n ho
 by_cases h0:(prZ rf n).2=0
 ·obtain ⟨hc,hf⟩:=prZ_ok h0
  rw[h0] at c1 c2
  change FnP Tryz.prog gl 27 [_] (.v .nilIface) at c2
  have c3:=rOf_d (gl:=gl) n hf hc
  have c4:=Of_y (gl:=gl) n hf hc c2
  have hlen:(refsZ n).length≤9223372036854775806:=by
   have h1:=(cellsN_few n hf).1
   have h2:=dedC_len (sortC (cellsN n))
   rw[sortC_len] at h2
   unfold refsZ
   omega
  have c5:FnP Tryz.prog gl 13 [.lst 2 ((refsZ n).map rowC),.lst 2 ((refsZ n).map rowC)] (.b (refsZ n=refsZ n) inferInstance):=sameCells_d (refsZ n) (refsZ n) hlen
  have c6:FnP Tryz.prog gl 12 [.v .nilIface,iD 0] (.b ((0:Int)=0) inferInstance):=Error_d (gl:=gl) 0 0 he
  generalize refsZ n=l at *
  generalize (prZ rf n).1=s at *
  obtain ⟨k,m,t,a,b,ks⟩:=n
  refine fnP_of_vc (nv:=9999) (cu:=[]) fits mixed Tryz.func4 rfl hoB rfl ?_
  ((repeat' ((conv=>whnf);first|exact .intro|refine .ya ?_|refine .na ?_|refine .ys ?_|refine .ns ?_|refine .neg (fun _=>?_) (fun _=>?_)|refine .mk (fun _=>?_) (fun _=>?_)|refine .inl (.inl (X1 (by first|exact c1|exact c3|exact c4|exact c5|exact c6) ?_))|refine .inl (X1 (by first|exact c1|exact c3|exact c4|exact c5|exact c6) ?_)|refine X1 (by first|exact c1|exact c3|exact c4|exact c5|exact c6) ?_|refine .mk ?_ ?_|refine AK ?_|refine AT ?_|fail));all_goals conv=>whnf)
  all_goals first|exact LeD.rfl|exact LeD.vt rfl|exact LeD.vt (by simp)
 ·simp only[errD,if_neg h0] at c2
  have c4:=Of_n (gl:=gl) n _ c2
  have c5:=sameNil2 (gl:=gl)
  have c6:FnP Tryz.prog gl 12 [erD (prZ rf n).2,iD (prZ rf n).2] (.b ((prZ rf n).2=(prZ rf n).2) inferInstance):=by
   have:=Error_d (gl:=gl) (prZ rf n).2 (prZ rf n).2 he
   unfold errD at this
   rwa [if_neg h0] at this
  generalize prZ rf n=z at *
  obtain ⟨s,e⟩:=z
  simp only at h0 c1 c2 c4 c6
  obtain ⟨k,m,t,a,b,ks⟩:=n
  refine fnP_of_vc (nv:=9999) (cu:=[]) fits mixed Tryz.func4 rfl hoB rfl ?_
  ((repeat' ((conv=>whnf);first|exact .intro|refine .ya ?_|refine .na ?_|refine .ys ?_|refine .ns ?_|refine .neg (fun _=>?_) (fun _=>?_)|refine .mk (fun _=>?_) (fun _=>?_)|refine .inl (.inl (X1 (by first|exact c1|exact c4|exact c5|exact c6) ?_))|refine .inl (X1 (by first|exact c1|exact c4|exact c5|exact c6) ?_)|refine X1 (by first|exact c1|exact c4|exact c5|exact c6) ?_|refine .mk ?_ ?_|refine AK ?_|refine AT ?_|fail));all_goals conv=>whnf)
  all_goals first|exact LeD.rfl|exact LeD.vt rfl|exact LeD.vt (by simp)
theorem RefsOf_g (te:TypeId) (pe:Value) (mx:Int) (n:Nd) (ho:okN n):FnP Tryz.prog (glU te pe mx) 4 [.agg n.cs] (.v (.bool true)) :=
 RefsOf_d te pe (glU_has te pe mx) rfl rfl rfl n ho
end Go.Proofs.YtcdjjjokniinkaaGreatDoor
end
section
namespace Go.Proofs.YtcdjjjokniinkaaGreatDoor
open Go Go.ChangeShapes Go.WideShapes Go.ChangeAt Go.RowKit Go.EYtcdjjjokniinkaaGreatDoor
set_option linter.unusedVariables false
set_option maxRecDepth 100000
section
variable {B n:Nat} {ds:List D}
end
theorem var_maxLen {w:World} (h:w.ShapedOpen Tryz.prog):∃ m:Int,Holds1 w 3 [iD m]:=by
 have h0:((begin Tryz.prog (fun _ _=>0) default).world.heap[3]?).bind Obj.row?=some (#[.int .i64 0],3):=by kernel_rfl
 obtain ⟨m,hm⟩:=cell_of_shapedOpen_int (P:=Tryz.prog) (g:=3) (t:=3) (zero:=#[.int .i64 0]) h (of_decide_eq_true (by kernel_rfl)) h0 rfl (by kernel_rfl) (by kernel_rfl) Tryz.underlying3
 obtain ⟨⟨l⟩,hh,hs,_⟩:=h.1 3 _ _ (of_decide_eq_true (by kernel_rfl)) h0
 match l,hs with
 | [x],_ =>
  have:x=.int .i64 m:=by simpa[World.cell?,hh] using hm
  subst this
  exact ⟨m,[_],⟨_,_,hh⟩,.v _,trivial⟩
end Go.Proofs.YtcdjjjokniinkaaGreatDoor
end
section
namespace Go.EYtcdjjjokniinkaaGreatDoor
open Go Go.ChangeShapes Go.WideShapes
def Sd (P:Program) (B:Nat):Nat→TypeId→List D→Prop
 | 0,_,_=>False
 | n+1,t,ds=>match P.underlying t with
  | some (.int k)=>∃ m,ds=[.v (.int k m)]∧(Lit.int k m).wf=true
  | some .bool=>∃ b:Bool,ds=[.b (b=true) inferInstance]
  | some .string=>∃ s,ds=[.str s]∧s.length≤B
  | some (.slice e)=>∃ rows,ds=[.lst (P.cellsOf e) rows]∧rows.length≤maxLen∧∀ r ∈ rows,Sd P B n e r
  | some (.struct fs)=>∃ dss:List (List D),ds=dss.flatten∧All2 (fun f d=>Sd P B n (Field.type f) d) fs.toList dss
  | _=>False
section
variable {H:Type} {enc:TypeId×Value→H} {P:Program} {w:World} {base:Nat} {sp:Nat→Bool} {hd:Bool}
theorem sd_fields {β:DataW H→Nat} {B n:Nat} {ts:List TypeId} {cs:List Value} {z:Nat} (hz:cs.length=z)
 (ih:∀ (t:TypeId) (cs:List Value) (x:DataW H×List MemPlace),DataW.trod enc P w base sp hd n t cs=some x→t ∈ ts→β x.1≤B→∃ ds,DenL (fun _=>False) w ds cs∧Sd P B n t ds) :
 ∀ (l:List Field) (o:Nat) (xs:List (DataW H×List MemPlace)),packs P z l o=true→(∀ f ∈ l,f.type ∈ ts)→xs.length=l.length→
  (∀ (i:Nat) (f:Field),l[i]?=some f→DataW.trod enc P w base sp hd n f.type ((cs.drop f.offset).take (P.cellsOf f.type))=xs[i]?)→
  (∀ (i:Nat) (f:Field) x,l[i]?=some f→xs[i]?=some x→β x.1≤B)→
  ∃ dss:List (List D),DenL (fun _=>False) w dss.flatten (cs.drop o)∧All2 (fun f d=>Sd P B n (Field.type f) d) l dss
 | [],o,xs,hp,_,_,_,_=>by
  have:o=z:=by simpa[packs] using hp
  exact ⟨[],by rw[List.drop_eq_nil_of_le (by omega)];trivial,trivial⟩
 | f::l,o,x::xs,hp,ht,hl,hf,hw=>by
  simp only[packs,Bool.and_eq_true,beq_iff_eq] at hp
  obtain ⟨ho,hp⟩:=hp
  have h0:=hf 0 f rfl
  rw[List.getElem?_cons_zero,ho] at h0
  obtain ⟨d,h1,h2⟩:=ih _ _ _ h0 (ht f (List.mem_cons_self ..)) (hw 0 f x rfl rfl)
  obtain ⟨dss,h3,h4⟩:=sd_fields hz ih l (o+P.cellsOf f.type) xs hp (fun g hg=>ht g (List.mem_cons_of_mem _ hg)) (by simpa using hl) (fun i g hg=>by simpa using hf (i+1) g (by simpa using hg)) (fun i g y hg hy=>hw (i+1) g y (by simpa using hg) (by simpa using hy))
  refine ⟨d::dss,?_,h2,h4⟩
  rw[List.flatten_cons]
  have:=All2.app h1 h3
  rwa [← List.drop_drop,List.take_append_drop] at this
 | f::l,o,[],_,_,hl,_,_=>by simp at hl
theorem sd_open {β:DataW H→Nat} (hstr:∀ s,s.length≤β (.lit (.string s))) (hsl:∀ es rs d,d ∈ es→β d≤β (.slice es rs)) (hag:∀ ps d,d ∈ ps→β d≤β (.agg ps)) {B:Nat} {ts:List TypeId} (hts:plainTs P ts=true):∀ (n:Nat) (t:TypeId) (cs:List Value) (x:DataW H×List MemPlace),DataW.trod enc P w base sp hd n t cs=some x→t ∈ ts→β x.1≤B→
 ∃ ds,DenL (fun _=>False) w ds cs∧Sd P B n t ds:=by
 intro n
 induction n with
 | zero=>intro t cs x h;simp[DataW.trod] at h
 | succ n ih =>
  intro t cs x h ht hw
  have hp:=List.all_eq_true.1 hts t ht
  split at hp
  ·rename_i k hu
   obtain ⟨m,rfl,rfl,hm⟩:=DataW.trod_int hu h
   exact ⟨[.v (.int k m)],⟨.v _,trivial⟩,by unfold Sd;rw[hu];exact ⟨m,rfl,hm⟩⟩
  ·rename_i hu
   obtain ⟨b,rfl,rfl⟩:=DataW.trod_bool hu h
   exact ⟨[.b (b=true) inferInstance],⟨by have:=DenD.b (M:=fun _=>False) (w:=w) (b=true) inferInstance;simpa using this,trivial⟩,by unfold Sd;rw[hu];exact ⟨b,rfl⟩⟩
  ·rename_i hu
   obtain ⟨s,rfl,rfl,hs⟩:=DataW.trod_string hu h
   refine ⟨[.str s.data.toList],⟨by have:=DenD.str (M:=fun _=>False) (w:=w) s.data.toList;simpa using this,trivial⟩,by unfold Sd;rw[hu];exact ⟨_,rfl,Nat.le_trans (hstr _) hw⟩⟩
  ·rename_i e hu
   simp only[Bool.and_eq_true,decide_eq_true_eq,List.contains_iff_mem] at hp
   obtain ⟨he,hz⟩:=hp
   rcases DataW.trod_slice hu h with ⟨rfl,rfl⟩|⟨a,len,cap,elems,rest,k,hk,rfl,rfl,hb,hl,hc,hel,hx,_,_⟩
   ·exact ⟨[.lst (P.cellsOf e) []],⟨.lst0 _ _ _ (Nat.zero_le _),trivial⟩,by unfold Sd;rw[hu];exact ⟨[],rfl,Nat.zero_le _,fun r hr=>by cases hr⟩⟩
   ·obtain rfl:n=k:=by omega
    have hw1:∀ y ∈ elems,β y.1≤B:=fun y hy=>Nat.le_trans (hsl _ _ _ (List.mem_map.2 ⟨y,hy,rfl⟩)) hw
    obtain ⟨R,hR⟩:=Deep.choose_lt (α:=List D×List Value) (n:=len) (p:=fun i r=>w.cells? base (a.add (i * P.cellsOf e)) (P.cellsOf e)=some r.2∧DenL (fun _=>False) w r.1 r.2∧Sd P B n e r.1) (fun i hi=>by
     have hi':i<elems.length:=by omega
     have h0:=hx i hi
     rw[List.getElem?_eq_getElem hi'] at h0
     obtain ⟨cs',h1,h2⟩:=Option.bind_eq_some_iff.1 h0
     obtain ⟨ds,h3,h4⟩:=ih e cs' _ h2 he (hw1 _ (List.getElem_mem hi'))
     exact ⟨(ds,cs'),h1,h3,h4⟩)
    refine ⟨[.lst (P.cellsOf e) ((List.range len).map fun i=>(R i).1)],⟨?_,trivial⟩,?_⟩
    ·by_cases h0:len=0
     ·subst h0;exact .lst0 _ _ _ hc
     ·have hc0:=(World.cells?_some (hR 0 (by omega)).1)
      have hlen:∀ i,i<len→(R i).2.length=P.cellsOf e:=fun i hi=>(World.cells?_some (hR i hi).1).2.1
      have hlen':∀ i,i<len→(R i).1.length=P.cellsOf e:=fun i hi=>(All2.length (hR i hi).2.1).trans (hlen i hi)
      have hcell:∀ i,i<len→∀ j,j<P.cellsOf e→w.cell? ((a.add (i * P.cellsOf e)).add j)=(R i).2[j]?:=fun i hi j hj=>(World.cells?_some (hR i hi).1).2.2 j hj
      obtain ⟨b,o,spot⟩:=a
      have h00:=hcell 0 (by omega) 0 hz
      rw[List.getElem?_eq_getElem (by rw[hlen 0 (by omega)];exact hz)] at h00
      have hspot:spot=none:=by simpa[Addr.add] using World.cell?_spot h00
      subst hspot
      have hbl:b<w.heap.size:=by
       have:=World.block_lt_of_cell? w _ h00
       simpa[Addr.add] using this
      have hll:len=((List.range len).map fun i=>(R i).1).length:=by simp
      rw[show (Value.slice (some ⟨b,o,none⟩) len cap)=Value.slice (some ⟨b,o,none⟩) ((List.range len).map fun i=>(R i).1).length cap by rw[← hll]]
      have hget:∀ i j d,get2 ((List.range len).map fun i=>(R i).1) i j=some d→i<len∧(R i).1[j]?=some d:=fun i j d hg=>by
       unfold get2 at hg
       obtain ⟨r,hr,hd⟩:=Option.bind_eq_some_iff.1 hg
       obtain ⟨hi,hr'⟩:=List.getElem?_eq_some_iff.1 hr
       have hi':i<len:=by simpa using hi
       refine ⟨hi',?_⟩
       rw[← hd,← hr']
       simp
      refine .lst _ _ b o cap (fun i j=>(R i).2.getD j default) hbl (fun h=>h) (by simpa using hl) hc (fun r hr=>?_) (fun i j d hg=>?_) (fun i j d hg=>?_)
      ·obtain ⟨i,hi,rfl⟩:=List.mem_map.1 hr
       exact hlen' i (List.mem_range.1 hi)
      ·obtain ⟨hi,hd⟩:=hget i j d hg
       have hj:j<P.cellsOf e:=by rw[← hlen' i hi];exact (List.getElem?_eq_some_iff.1 hd).1
       have:=hcell i hi j hj
       rw[List.getElem?_eq_getElem (by rw[hlen i hi];exact hj)] at this
       rw[show (⟨b,o+i * P.cellsOf e+j,none⟩:Addr)=((⟨b,o,none⟩:Addr).add (i * P.cellsOf e)).add j by rw[addr_add,addr_add],this]
       simp[List.getD,List.getElem?_eq_getElem (show j<(R i).2.length by rw[hlen i hi];exact hj)]
      ·obtain ⟨hi,hd⟩:=hget i j d hg
       have hj:j<(R i).2.length:=by rw[hlen i hi,← hlen' i hi];exact (List.getElem?_eq_some_iff.1 hd).1
       obtain ⟨v,hv,hdv⟩:=All2.get (hR i hi).2.1 hd
       rw[show (R i).2.getD j default=v by simp[List.getD,hv]]
       exact hdv
    ·unfold Sd;rw[hu]
     refine ⟨_,rfl,by simpa using Nat.le_trans hl hc ,fun r hr=>?_⟩
     obtain ⟨i,hi,rfl⟩:=List.mem_map.1 hr
     exact (hR i (List.mem_range.1 hi)).2.2
  ·rename_i fs hu
   simp only[Bool.and_eq_true,List.all_eq_true,List.contains_iff_mem] at hp
   obtain ⟨xs,k,hk,rfl,hcl,hxl,hf⟩:=DataW.trod_struct hu h
   obtain rfl:n=k:=by omega
   obtain ⟨dss,h1,h2⟩:=sd_fields (ts:=ts) hcl ih fs.toList 0 xs hp.1 hp.2 (by simpa using hxl) (fun i f hi=>hf i f (by simpa using hi)) (fun i f y hi hy=>Nat.le_trans (hag _ _ (List.mem_map.2 ⟨y,List.mem_of_getElem? hy,rfl⟩)) hw)
   exact ⟨dss.flatten,by simpa using h1,by unfold Sd;rw[hu];exact ⟨dss,rfl,h2⟩⟩
  ·cases hp
end
end Go.EYtcdjjjokniinkaaGreatDoor
end
section
namespace Go.Proofs.YtcdjjjokniinkaaGreatDoor
open Go Go.ChangeShapes Go.WideShapes Go.ChangeAt Go.RowKit Go.EYtcdjjjokniinkaaGreatDoor
set_option linter.unusedVariables false
set_option maxRecDepth 100000
section
variable {B n:Nat} {ds:List D}
theorem sd_int (h:Sd Tryz.prog B n 3 ds):∃ m,ds=[iD m]∧(Lit.int .i64 m).wf=true:=by
 cases n with
 | zero=>exact h.elim
 | succ n=>unfold Sd at h;rw[Tryz.underlying3] at h;exact h
theorem sd_bool (h:Sd Tryz.prog B n 4 ds):∃ b:Bool,ds=[tD b]:=by
 cases n with
 | zero=>exact h.elim
 | succ n=>unfold Sd at h;rw[Tryz.underlying4] at h;exact h
theorem sd_str (h:Sd Tryz.prog B n 9 ds):∃ s,ds=[.str s]∧s.length≤B:=by
 cases n with
 | zero=>exact h.elim
 | succ n=>unfold Sd at h;rw[Tryz.underlying9] at h;exact h
theorem sd_struct {t:TypeId} {fs:Array Field} (hu:Tryz.prog.underlying t=some (.struct fs)) (h:Sd Tryz.prog B n t ds):∃ m dss,n=m+1∧ds=dss.flatten∧All2 (fun f d=>Sd Tryz.prog B m (Field.type f) d) fs.toList dss:=by
 cases n with
 | zero=>exact h.elim
 | succ n =>
  unfold Sd at h;rw[hu] at h
  obtain ⟨dss,h1,h2⟩:=h
  exact ⟨n,dss,rfl,h1,h2⟩
theorem sd_cell (h:Sd Tryz.prog B n 28 ds):∃ c r,ds=[iD c,iD r]:=by
 obtain ⟨m,dss,rfl,rfl,h2⟩:=sd_struct Tryz.underlying28 h
 match dss,h2 with
 | [x,y],h2 =>
  obtain ⟨c,rfl,_⟩:=sd_int h2.1
  obtain ⟨r,rfl,_⟩:=sd_int h2.2.1
  exact ⟨c,r,rfl⟩
theorem sd_ref (h:Sd Tryz.prog B n 35 ds):∃ a:Rf,ds=[iD a.c,iD a.r,tD a.fc,tD a.fr]:=by
 obtain ⟨m,dss,rfl,rfl,h2⟩:=sd_struct Tryz.underlying35 h
 match dss,h2 with
 | [x,y,z],h2 =>
  obtain ⟨c,r,rfl⟩:=sd_cell h2.1
  obtain ⟨f,rfl⟩:=sd_bool h2.2.1
  obtain ⟨g,rfl⟩:=sd_bool h2.2.2.1
  exact ⟨⟨c,r,f,g⟩,rfl⟩
theorem nods_of:∀ {rows:List (List D)},(∀ r ∈ rows,∃ f:Nd,r=f.cs∧okN f)→∃ l:List Nd,rows=Nd.csL l∧okL l
 | [],_=>⟨[],rfl,trivial⟩
 | r::rows,h=>by
  obtain ⟨f,rfl,hf⟩:=h r (List.mem_cons_self ..)
  obtain ⟨l,rfl,hl⟩:=nods_of fun r hr=>h r (List.mem_cons_of_mem _ hr)
  exact ⟨f::l,rfl,hf,hl⟩
theorem sd_nod:∀ {n:Nat} {ds:List D},Sd Tryz.prog 1048576 n 38 ds→∃ f:Nd,ds=f.cs∧okN f:=by
 intro n
 induction n using Nat.strongRecOn with
 | ind n ih =>
  intro ds h
  obtain ⟨m,dss,rfl,rfl,h2⟩:=sd_struct Tryz.underlying38 h
  match dss,h2 with
  | [x1,x2,x3,x4,x5,x6],h2 =>
   obtain ⟨k,rfl,_⟩:=sd_int h2.1
   obtain ⟨j,rfl,hj⟩:=sd_int h2.2.1
   obtain ⟨t,rfl,ht⟩:=sd_str h2.2.2.1
   obtain ⟨a,rfl⟩:=sd_ref h2.2.2.2.1
   obtain ⟨b,rfl⟩:=sd_ref h2.2.2.2.2.1
   have hk:=h2.2.2.2.2.2.1
   cases m with
   | zero=>exact hk.elim
   | succ m =>
    unfold Sd at hk
    rw[show Tryz.prog.underlying _=some (.slice 38) from Tryz.underlying36] at hk
    obtain ⟨rows,rfl,_,hr⟩:=hk
    obtain ⟨l,rfl,hl⟩:=nods_of fun r h=>ih m (by omega) (hr r h)
    exact ⟨.mk k j t a b l,by rw[show Tryz.prog.cellsOf 38=12 by kernel_rfl];rfl,okI_of_wf hj,ht,hl⟩
end
theorem bulk_mem {H:Type} {d:DataW H}:∀ {l:List (DataW H)},d ∈ l→Rows.uptoBulk d≤Rows.uptoBulkAll l
 | x::r,h=>by
  simp only[Rows.uptoBulkAll]
  rcases List.mem_cons.1 h with rfl|h
  ·omega
  ·have:=bulk_mem h
   omega
theorem open_nod {H:Type} {enc:TypeId×Value→H} {W:World} {sp:Nat→Bool} {hd:Bool} {v:Value} {d:DataW H} {p:List MemPlace} {b0:Nat} (hv:Value.okWide Tryz.prog W .any b0 38 v) (h:DataW.Trod enc Tryz.prog W 0 sp hd 38 v d p)
 (hw:Rows.uptoBulk d≤1048576):∃ n:Nd,DenD (fun _=>False) W (.agg n.cs) v∧okN n:=by
 obtain ⟨cs,rfl,hsz⟩:=okWide_struct Tryz.underlying38 hv
 obtain ⟨f,hf⟩:=h
 obtain ⟨ds,h1,h2⟩:=sd_open (β:=Rows.uptoBulk) (fun s=>by simp[Rows.uptoBulk]) (fun es rs d hd=>by have:=bulk_mem hd;simp only[Rows.uptoBulk];omega) (fun ps d hd=>by have:=bulk_mem hd;simp only[Rows.uptoBulk];omega) (ts:=[38,35,28,3,4,9,36]) (by kernel_rfl) f _ _ _ hf (by decide) hw
 obtain ⟨n,rfl,hn⟩:=sd_nod h2
 refine ⟨n,?_,hn⟩
 have h3:All2 (DenD (fun _=>False) W) n.cs cs.toList:=h1
 exact DenD.agg n.cs cs.toList h3.length fun j d x=>h3.get2 j d x
end Go.Proofs.YtcdjjjokniinkaaGreatDoor
end
