/- Proved: a part of what the law is proved with (the reckoner, contracts of functions, plain laws). Conditions: as each says. -/
import Derived.Test.YtfkjhfdpphfjhaaGreatDoorProg
import Derived.Laws.StructEq
import Derived.WalkKit
import Derived.Test.YtfkjhfdpphfjhaaGreatDoorVDm
import Derived.Test.YtfkjhfdpphfjhaaGreatDoorVET
import Derived.Test.YtfkjhfdpphfjhaaGreatDoorVEv
import Derived.Test.YtfkjhfdpphfjhaaGreatDoorVFp
import Derived.Test.YtfkjhfdpphfjhaaGreatDoorVGe
section
namespace Go.Proofs.YtfkjhfdpphfjhaaGreatDoor
open Go Go.ChangeShapes Go.WideShapes Go.ChangeAt Go.RowKit Go.EYtfkjhfdpphfjhaaGreatDoor
set_option linter.unusedVariables false
set_option maxRecDepth 100000
abbrev vlR (v:Vl):List D:=[iD v.k,iD v.n,.str v.s]
abbrev inV (v:Vl):Prop:=okI v.n∧v.s.length≤140737488355328
section
variable {B n:Nat} {ds:List D}
theorem sh_vl (h:Sh Tryz.prog B n 31 ds):∃ v:Vl,ds=vlR v∧okI v.n∧v.s.length≤B:=by
 cases n with
 | zero=>exact h.elim
 | succ n =>
  unfold Sh at h;rw[Tryz.underlying31] at h
  obtain ⟨dss,h1,h2⟩:=h
  match dss,h2 with
  | [x,y,z],h2 =>
   obtain ⟨k,rfl,_⟩:=sh_int h2.1
   obtain ⟨m,rfl,hm⟩:=sh_int h2.2.1
   obtain ⟨s,rfl,hs⟩:=sh_str h2.2.2.1
   exact ⟨⟨k,m,s⟩,by simpa using h1,okI_of_wf hm,hs⟩
theorem sh_vls (h:Sh Tryz.prog B n 46 ds):∃ l:List Vl,ds=[.lst 3 (l.map vlR)]∧l.length≤maxLen∧∀ v ∈ l,okI v.n∧v.s.length≤B:=by
 cases n with
 | zero=>exact h.elim
 | succ n =>
  unfold Sh at h;rw[Tryz.underlying46] at h
  obtain ⟨rows,rfl,h1,_,h2⟩:=h
  obtain ⟨l,rfl,hl⟩:=map_of (g:=vlR) (p:=fun v=>okI v.n∧v.s.length≤B) fun r hr=>sh_vl (h2 r hr)
  exact ⟨l,by rw[show Tryz.prog.cellsOf 31=3 by kernel_rfl],by simpa using h1,hl⟩
end
theorem open_vls {H:Type} {enc:TypeId×Value→H} {W:World} {sp:Nat→Bool} {hd:Bool} {v:Value} {d:DataW H} {p:List MemPlace} {b0:Nat} (hv:Value.okWide Tryz.prog W .any b0 46 v) (h:DataW.Trod enc Tryz.prog W 0 sp hd 46 v d p)
 (hw:∀ m ∈ d.weights Tryz.prog 46,m≤reachBytes):∃ l:List Vl,DenD (fun _=>False) W (.lst 3 (l.map vlR)) v∧l.length≤maxLen∧∀ v ∈ l,inV v:=by
 obtain ⟨a,n,c,rfl⟩:=okWide_slice Tryz.underlying46 hv
 obtain ⟨f,hf⟩:=h
 obtain ⟨ds,h1,h2⟩:=sh_open (ts:=[46,31,3,9]) (by kernel_rfl) f _ _ _ hf (by decide) hw
 obtain ⟨l,rfl,h3,h4⟩:=sh_vls h2
 exact ⟨l,h1.1,h3,fun v hv=>⟨(h4 v hv).1,Nat.le_trans (h4 v hv).2 (by decide)⟩⟩
end Go.Proofs.YtfkjhfdpphfjhaaGreatDoor
end
section
namespace Go.Proofs.YtfkjhfdpphfjhaaGreatDoor
open Go Go.EYtfkjhfdpphfjhaaGreatDoor
set_option maxRecDepth 100000
set_option maxHeartbeats 4000000
variable {gl:List (Nat×List D)}
abbrev wG (gl:List (Nat×List D)):List (Nat×List D):=(1,[iD 4,iD 2,.str []])::gl
abbrev iR (n:Int):List D:=[iD n]
abbrev vlC (v:Vl):List C:=[.d (iD v.k),.d (iD v.n),.d (.str v.s)]
abbrev vB (v:Vl):Blk:=.var (vlC v) 31
theorem IsTrue_d (k n:Int) (s:List UInt8):FnP Tryz.prog gl 214 [vlD k n s] (.b (k=3∧n=1) inferInstance):=by
 by_cases hk:k=3
 ·refine fnP_of_vc (nv:=9999) (cu:=[]) fits mixed Tryz.func214 rfl hoB rfl ?_
  ((repeat' ((conv=>whnf);first|exact .intro|refine G ?_|intro _|refine .mk ?_ ?_|refine H ?_|fail));all_goals conv=>whnf)
  all_goals exact LeD.b ⟨fun h=>⟨hk,h⟩,fun h=>h.2⟩
 ·refine fnP_of_vc (nv:=9999) (cu:=[]) fits mixed Tryz.func214 rfl hoB rfl ?_
  ((repeat' ((conv=>whnf);first|exact .intro|refine G ?_|intro _|refine .mk ?_ ?_|refine H ?_|fail));all_goals conv=>whnf)
  all_goals exact LeD.bf fun h=>hk h.1
theorem many_d (t:List UInt8):FnP Tryz.prog gl 112 [.str t] (.b (isMany t) inferInstance):=by
 refine fnP_of_vc (nv:=9999) (cu:=[]) fits mixed Tryz.func112 rfl hoB rfl ?_
 ((repeat' ((conv=>whnf);first|exact .intro|refine G ?_|intro _|refine .mk ?_ ?_|refine H ?_|fail));all_goals conv=>whnf)
 all_goals first
  | exact LeD.bf (by simp[isMany, *])
  | (rename_i h;subst h;exact LeD.bt (by decide))
theorem box_y {m:Int} {t:List UInt8} {a b:Rf} {ks:List Nd} (ha:okP a.c a.r) (hb:okP b.c b.r):FnP Tryz.prog gl 176 [.agg (Nd.cs (.mk 6 m t a b ks))] (.tup [boxD (min a.c b.c) (min a.r b.r) (max a.c b.c) (max a.r b.r),.lst 2 ((boxC a b).map rowC),.v (.bool true)]):=by
 have c1:FnP Tryz.prog gl 216 [cellD a.c a.r,cellD b.c b.r] (.tup [boxD (min a.c b.c) (min a.r b.r) (max a.c b.c) (max a.r b.r),.v .nilIface]):=Box_s ha hb
 have c2:FnP Tryz.prog gl 217 [boxD (min a.c b.c) (min a.r b.r) (max a.c b.c) (max a.r b.r)] (.tup [.lst 2 ((boxC a b).map rowC),.v .nilIface]):=Cells_s (boxC_box ha hb)
 generalize boxC a b=cs at *
 refine fnP_of_vc (nv:=9999) (cu:=[]) fits mixed Tryz.func176 rfl hoB rfl ?_
 ((repeat' ((conv=>whnf);first|exact .intro|refine G ?_|intro _|refine C1 c1 ?_|refine C1 c2 ?_|refine .mk ?_ ?_|refine H ?_|fail));all_goals conv=>whnf)
 all_goals exact LeD.rfl
theorem box_n {k m:Int} {t:List UInt8} {a b:Rf} {ks:List Nd} (hk:¬ k=6):FnP Tryz.prog gl 176 [.agg (Nd.cs (.mk k m t a b ks))] (.tup [boxD 0 0 0 0,.v (.slice none 0 0),.v (.bool false)]):=by
 refine fnP_of_vc (nv:=9999) (cu:=[]) fits mixed Tryz.func176 rfl hoB rfl ?_
 ((repeat' ((conv=>whnf);first|exact .intro|refine G ?_|intro _|refine .mk ?_ ?_|refine H ?_|fail));all_goals conv=>whnf)
 all_goals exact LeD.rfl
theorem sumL_snoc {l:List Int} {k:Nat} (h:k<l.length):sumL (l.take (k+1))=twoV 8 (sumL (l.take k)) ⟨1,l[k],[]⟩:=by
 unfold sumL
 rw[List.take_succ_eq_append_getElem h,List.foldl_append]
 rfl
section
variable (te:TypeId) (pe:Value) (hV:Has gl (glV te pe))
include hV
theorem Sum_d (l:List Int) (h:∀ n ∈ l,okI n) (hl:l.length≤1048576):FnP Tryz.prog gl 179 [.lst 1 (l.map iR)] (sumL l).d:=by
 have hlen:(l.map iR).length=l.length:=List.length_map _
 have c0:=Num_d (gl:=gl) 0
 refine fnP_of_vc (nv:=9999) (cu:=[]) fits mixed Tryz.func179 rfl hoB rfl ?_
 ((repeat' ((conv=>whnf);first|exact .intro|refine G ?_|intro _|refine C1 c0 ?_|refine .mk ?_ ?_|refine H ?_|fail));all_goals conv=>whnf)
 refine ⟨{ σ:=Nat,fr:=fun k=>[(9,.c (.d (iD (k:Int))))],ks:=[1],L:=fun k=>[(1,vB (sumL (l.take k)))],ex:=0,I:=fun k=>k≤l.length,μ:=fun k=>l.length - k },⟨0,Nat.zero_le _,?_⟩,fun (k:Nat) hk=>?_⟩
 ·((repeat' first|exact rfl|((conv=>whnf);first|done|exact suL|refine And.intro ?_ ?_|fail));all_goals conv=>whnf)
 ·replace hk:k≤l.length:=hk
  have e0:IntKind.i64.wrap ((k:Int)+1)=((k+1:Nat):Int):=by rw[wrapI (by omega)];rfl
  by_cases hlt:k<l.length
  ·have h2:(k:Int)<(((l.map iR).length:Nat):Int):=by omega
   have g1:=get_map (f:=iR) hlt
   have hsn:=sumL_snoc hlt
   have hok:=sumL_ok (l:=l.take k) fun n hn=>h n (List.mem_of_mem_take hn)
   have hn:=h _ (List.getElem_mem hlt)
   generalize l[k]=m at *
   have c1:=Num_d (gl:=gl) m
   have c2:FnP Tryz.prog gl 65 [iD 8,(sumL (l.take k)).d,vlD 1 m []] (sumL (l.take (k+1))).d:=by rw[hsn];exact FnP.moreG (Two_v te pe 8 hok (ok_num hn)) hV
   generalize hs':sumL (l.take (k+1))=s' at c2
   ((repeat' ((conv=>whnf);first|exact .intro|refine G ?_|intro _|refine C1 c1 ?_|refine C1 c2 ?_|(refine ⟨Int.natCast_nonneg _,_,g1,?_⟩)|refine .mk ?_ ?_|refine H ?_|fail));all_goals conv=>whnf)
   all_goals refine ⟨k+1,⟨hlt,by show l.length - (k+1)<l.length - k;omega⟩,?_⟩
   all_goals ((repeat' first|exact rfl|((conv=>whnf);first|done|exact suL|refine And.intro ?_ ?_|fail));all_goals conv=>whnf)
   all_goals first|exact ceq e0|(rw[hs'];first|done|exact .inr (.inl rfl))|skip
  ·have h2:¬ (k:Int)<(((l.map iR).length:Nat):Int):=by omega
   obtain rfl:k=l.length:=by omega
   ((repeat' ((conv=>whnf);first|exact .intro|refine G ?_|intro _|refine .mk ?_ ?_|refine H ?_|fail));all_goals conv=>whnf)
   all_goals exact LeD.of (by rw[List.take_length];rfl)
end
end Go.Proofs.YtfkjhfdpphfjhaaGreatDoor
end
section
namespace Go.Proofs.YtfkjhfdpphfjhaaGreatDoor
open Go Go.EYtfkjhfdpphfjhaaGreatDoor
theorem fitE1:FitsOne Tryz.prog 212 ⟨false,1,8,[.v .nilFunc],[],false,none,none,0,[],false,[]⟩:=⟨by kernel_rfl,rfl,rfl,by kernel_rfl,(fun h=>by cases h),by kernel_rfl⟩
theorem fitsE:Fits Tryz.prog ((212,⟨false,1,8,[.v .nilFunc],[],false,none,none,0,[],false,[]⟩)::tt) :=
 fits_cons fitE1 fits
end Go.Proofs.YtfkjhfdpphfjhaaGreatDoor
end
section
namespace Go.Proofs.YtfkjhfdpphfjhaaGreatDoor
open Go Go.RowKit Go.EYtfkjhfdpphfjhaaGreatDoor
set_option maxRecDepth 100000
theorem check_cell (w:World) (em:Bool) (a b:Int):(Instr.checkKey em 10000 23 (.agg #[.int .i64 a,.int .i64 b])).run Tryz.prog w=.ok () w:=by kernel_rfl
theorem eq_cell (w:World) (a b c d:Int):∃ r:Bool,(Op.equal 23 (.agg #[.int .i64 a,.int .i64 b]) (.agg #[.int .i64 c,.int .i64 d])).run Tryz.prog w=.ok r w∧(r=true↔(Value.agg #[.int .i64 c,.int .i64 d])=.agg #[.int .i64 a,.int .i64 b]):=by
 refine ⟨a==c && b==d,?_,?_⟩
 ·have u3:=Tryz.underlying3
  have a3:=Tryz.isAgg3
  have z3:=Tryz.sizeOf3
  have hS:Tryz.prog.underlying 23=some (.struct (Tryz.prog.fieldsOf 23)):=by kernel_rfl
  have hp:Tryz.prog.stoodInHeld 23=false:=by kernel_rfl
  show (Op.equalIn (9999+1) 23 _ _).run Tryz.prog w=_
  rw[run_equalIn_agg w 9999 23 _ _ hS hp]
  simp only[Program.fieldsOf,Tryz.underlying23]
  go_simp
  by_cases h1:a=c <;> by_cases h2:b=d <;> simp[h1,h2]
 ·simp
  constructor
  ·rintro ⟨rfl,rfl⟩;exact ⟨rfl,rfl⟩
  ·rintro ⟨rfl,rfl⟩;exact ⟨rfl,rfl⟩
theorem key_cell:KeyT Tryz.prog 23 3:=by
 refine keyT_of (fun w em d x hs hx=>?_) (fun w d e x y hs he hx hy=>?_) Tryz.underlying23 (fun x y=>?_)
 ·rcases keyS_cases hs with ⟨h,_⟩|⟨h,_⟩|⟨_,a,b,rfl⟩
  ·cases h
  ·cases h
  ·cases hx
   exact check_cell w em a b
 ·rcases keyS_cases hs with ⟨h,_⟩|⟨h,_⟩|⟨_,a,b,rfl⟩
  ·cases h
  ·cases h
  ·rcases keyS_cases he with ⟨h,_⟩|⟨h,_⟩|⟨_,c,d,rfl⟩
   ·cases h
   ·cases h
   ·cases hx
    cases hy
    exact eq_cell w a b c d
 ·cases x <;> cases y <;> rfl
end Go.Proofs.YtfkjhfdpphfjhaaGreatDoor
end
