/- Proved: a part of what the law is proved with (the reckoner, contracts of functions, plain laws). Conditions: as each says. -/
import Derived.Test.YtfkjhfdpphfjhaaGreatDoorProg
import Derived.Laws.StructEq
import Derived.WalkKit
import Derived.Test.YtfkjhfdpphfjhaaGreatDoorXET
import Derived.Test.YtfkjhfdpphfjhaaGreatDoorXEv
import Derived.Test.YtfkjhfdpphfjhaaGreatDoorXFs
import Derived.Test.YtfkjhfdpphfjhaaGreatDoorXGf
namespace Go.Proofs.YtfkjhfdpphfjhaaGreatDoor
section
open Go Go.EYtfkjhfdpphfjhaaGreatDoor
set_option maxRecDepth 100000
set_option maxHeartbeats 4000000
variable {gl:List (Nat×List D)}
abbrev wG (gl:List (Nat×List D)):List (Nat×List D):=(1,[iD 4,iD 2,.str []])::gl
abbrev iR (n:Int):List D:=[iD n]
abbrev vlC (v:Vl):List C:=[.d (iD v.k),.d (iD v.n),.d (.str v.s)]
abbrev vB (v:Vl):Blk:=.var (vlC v) 31
theorem IsTrue_d (k n:Int) (s:List UInt8):FnP Tryz.prog gl 214 [vlD k n s] (.b (k=3∧n=1) inferInstance):=by
 by_cases hk:k=3
 ·refine S0 Tryz.func214 rfl ?_
  ((repeat' ((conv=>whnf);first|exact .intro|refine G ?_|intro _|refine .mk ?_ ?_|refine H ?_|fail));all_goals conv=>whnf)
  all_goals exact LeD.b ⟨fun h=>⟨hk,h⟩,fun h=>h.2⟩
 ·refine S0 Tryz.func214 rfl ?_
  ((repeat' ((conv=>whnf);first|exact .intro|refine G ?_|intro _|refine .mk ?_ ?_|refine H ?_|fail));all_goals conv=>whnf)
  all_goals exact LeD.bf fun h=>hk h.1
theorem many_d (t:List UInt8):FnP Tryz.prog gl 112 [.str t] (.b (isMany t) inferInstance):=by
 refine S0 Tryz.func112 rfl ?_
 ((repeat' ((conv=>whnf);first|exact .intro|refine G ?_|intro _|refine .mk ?_ ?_|refine H ?_|fail));all_goals conv=>whnf)
 all_goals first
  | exact LeD.bf (by simp[isMany, *])
  | (rename_i h;subst h;exact LeD.bt (by decide))
theorem arguments_d (t:List UInt8):FnP Tryz.prog gl 114 [.str t] (.tup [iD (argZ t).1,iD (argZ t).2]):=by
 refine S0 Tryz.func114 rfl ?_
 ((repeat' ((conv=>whnf);first|exact .intro|refine G ?_|intro _|refine .mk ?_ ?_|refine H ?_|fail));all_goals conv=>whnf)
 all_goals first
  | (rename_i h;subst h;exact LeD.rfl)
  | exact LeD.of (by rw[show argZ t=(-1,-1) by simp[argZ,is1,is2,is3, *]];rfl)
theorem box_y {m:Int} {t:List UInt8} {a b:Rf} {ks:List Nd} (ha:okP a.c a.r) (hb:okP b.c b.r):FnP Tryz.prog gl 176 [.agg (Nd.cs (.mk 6 m t a b ks))] (.tup [boxD (min a.c b.c) (min a.r b.r) (max a.c b.c) (max a.r b.r),.lst 2 ((boxC a b).map rowC),.v (.bool true)]):=by
 have c1:FnP Tryz.prog gl 216 [cellD a.c a.r,cellD b.c b.r] (.tup [boxD (min a.c b.c) (min a.r b.r) (max a.c b.c) (max a.r b.r),.v .nilIface]):=Box_s ha hb
 have c2:FnP Tryz.prog gl 217 [boxD (min a.c b.c) (min a.r b.r) (max a.c b.c) (max a.r b.r)] (.tup [.lst 2 ((boxC a b).map rowC),.v .nilIface]):=Cells_s (boxC_box ha hb)
 generalize boxC a b=cs at *
 refine S0 Tryz.func176 rfl ?_
 ((repeat' ((conv=>whnf);first|exact .intro|refine G ?_|intro _|refine C1 c1 ?_|refine C1 c2 ?_|refine .mk ?_ ?_|refine H ?_|fail));all_goals conv=>whnf)
 all_goals exact LeD.rfl
theorem box_n {k m:Int} {t:List UInt8} {a b:Rf} {ks:List Nd} (hk:¬ k=6):FnP Tryz.prog gl 176 [.agg (Nd.cs (.mk k m t a b ks))] (.tup [boxD 0 0 0 0,.v (.slice none 0 0),.v (.bool false)]):=by
 refine S0 Tryz.func176 rfl ?_
 ((repeat' ((conv=>whnf);first|exact .intro|refine G ?_|intro _|refine .mk ?_ ?_|refine H ?_|fail));all_goals conv=>whnf)
 all_goals exact LeD.rfl
theorem sumL_snoc {l:List Int} {k:Nat} (h:k<l.length):sumL (l.take (k+1))=twoV 8 (sumL (l.take k)) ⟨1,l[k],[]⟩:=by
 unfold sumL
 rw[List.take_succ_eq_append_getElem h,List.foldl_append]
 rfl
section
variable (te:TypeId) (pe:Value) (hV:Has gl (glV te pe))
include hV
theorem Sum_d (l:List Int) (h:∀ n ∈ l,okI n) (hl:l.length≤1048576):FnP Tryz.prog gl 179 [.lst 1 (l.map iR)] (sumL l).d:=by
 have hlen:(l.map iR).length=l.length:=List.length_map _
 have c0:=Num_d (gl:=gl) 0
 refine S0 Tryz.func179 rfl ?_
 ((repeat' ((conv=>whnf);first|exact .intro|refine G ?_|intro _|refine C1 c0 ?_|refine .mk ?_ ?_|refine H ?_|fail));all_goals conv=>whnf)
 refine ⟨{ σ:=Nat,fr:=fun k=>[(9,.c (.d (iD (k:Int))))],ks:=[1],L:=fun k=>[(1,vB (sumL (l.take k)))],ex:=0,I:=fun k=>k≤l.length,μ:=fun k=>l.length - k },⟨0,Nat.zero_le _,?_⟩,fun (k:Nat) hk=>?_⟩
 ·((repeat' first|exact rfl|((conv=>whnf);first|done|exact suL|refine And.intro ?_ ?_|fail));all_goals conv=>whnf)
 ·replace hk:k≤l.length:=hk
  have e0:IntKind.i64.wrap ((k:Int)+1)=((k+1:Nat):Int):=by rw[wrapI (by omega)];rfl
  by_cases hlt:k<l.length
  ·have h2:(k:Int)<(((l.map iR).length:Nat):Int):=by omega
   have g1:=get_map (f:=iR) hlt
   have hsn:=sumL_snoc hlt
   have hok:=sumL_ok (l:=l.take k) fun n hn=>h n (List.mem_of_mem_take hn)
   have hn:=h _ (List.getElem_mem hlt)
   generalize l[k]=m at *
   have c1:=Num_d (gl:=gl) m
   have c2:FnP Tryz.prog gl 65 [iD 8,(sumL (l.take k)).d,vlD 1 m []] (sumL (l.take (k+1))).d:=by rw[hsn];exact FnP.moreG (Two_v te pe 8 hok (ok_num hn)) hV
   generalize hs':sumL (l.take (k+1))=s' at c2
   ((repeat' ((conv=>whnf);first|exact .intro|refine G ?_|intro _|refine C1 c1 ?_|refine C1 c2 ?_|(refine ⟨Int.natCast_nonneg _,_,g1,?_⟩)|refine .mk ?_ ?_|refine H ?_|fail));all_goals conv=>whnf)
   all_goals refine ⟨k+1,⟨hlt,by show l.length - (k+1)<l.length - k;omega⟩,?_⟩
   all_goals ((repeat' first|exact rfl|((conv=>whnf);first|done|exact suL|refine And.intro ?_ ?_|fail));all_goals conv=>whnf)
   all_goals first|exact ceq e0|(rw[hs'];first|done|exact .inr (.inl rfl))|skip
  ·have h2:¬ (k:Int)<(((l.map iR).length:Nat):Int):=by omega
   obtain rfl:k=l.length:=by omega
   ((repeat' ((conv=>whnf);first|exact .intro|refine G ?_|intro _|refine .mk ?_ ?_|refine H ?_|fail));all_goals conv=>whnf)
   all_goals exact LeD.of (by rw[List.take_length];rfl)
end
end
section
open Go Go.EYtfkjhfdpphfjhaaGreatDoor
theorem fitE1:FitsOne Tryz.prog 212 ⟨false,1,8,[.v .nilFunc],[],false,none,none,0,[],false,[]⟩:=⟨by kernel_rfl,rfl,rfl,by kernel_rfl,(fun h=>by cases h),by kernel_rfl⟩
theorem fitsE:Fits Tryz.prog ((212,⟨false,1,8,[.v .nilFunc],[],false,none,none,0,[],false,[]⟩)::tt) :=
 fits_cons fitE1 fits
end
section
open Go Go.RowKit Go.EYtfkjhfdpphfjhaaGreatDoor
set_option maxRecDepth 100000
theorem check_cell (w:World) (em:Bool) (a b:Int):(Instr.checkKey em 10000 23 (.agg #[.int .i64 a,.int .i64 b])).run Tryz.prog w=.ok () w:=by kernel_rfl
theorem eq_cell (w:World) (a b c d:Int):∃ r:Bool,(Op.equal 23 (.agg #[.int .i64 a,.int .i64 b]) (.agg #[.int .i64 c,.int .i64 d])).run Tryz.prog w=.ok r w∧(r=true↔(Value.agg #[.int .i64 c,.int .i64 d])=.agg #[.int .i64 a,.int .i64 b]):=by
 refine ⟨a==c && b==d,?_,?_⟩
 ·have u3:=Tryz.underlying3
  have a3:=Tryz.isAgg3
  have z3:=Tryz.sizeOf3
  have hS:Tryz.prog.underlying 23=some (.struct (Tryz.prog.fieldsOf 23)):=by kernel_rfl
  have hp:Tryz.prog.stoodInHeld 23=false:=by kernel_rfl
  show (Op.equalIn (9999+1) 23 _ _).run Tryz.prog w=_
  rw[run_equalIn_agg w 9999 23 _ _ hS hp]
  simp only[Program.fieldsOf,Tryz.underlying23]
  go_simp
  by_cases h1:a=c <;> by_cases h2:b=d <;> simp[h1,h2]
 ·simp
  constructor
  ·rintro ⟨rfl,rfl⟩;exact ⟨rfl,rfl⟩
  ·rintro ⟨rfl,rfl⟩;exact ⟨rfl,rfl⟩
theorem key_cell:KeyT Tryz.prog 23 3:=by
 refine keyT_of (fun w em d x hs hx=>?_) (fun w d e x y hs he hx hy=>?_) Tryz.underlying23 (fun x y=>?_)
 ·rcases keyS_cases hs with ⟨h,_⟩|⟨h,_⟩|⟨_,a,b,rfl⟩
  ·cases h
  ·cases h
  ·cases hx
   exact check_cell w em a b
 ·rcases keyS_cases hs with ⟨h,_⟩|⟨h,_⟩|⟨_,a,b,rfl⟩
  ·cases h
  ·cases h
  ·rcases keyS_cases he with ⟨h,_⟩|⟨h,_⟩|⟨_,c,d,rfl⟩
   ·cases h
   ·cases h
   ·cases hx
    cases hy
    exact eq_cell w a b c d
 ·cases x <;> cases y <;> rfl
end
section
open Go Go.RowKit Go.EYtfkjhfdpphfjhaaGreatDoor
set_option maxRecDepth 100000
set_option maxHeartbeats 4000000
variable {gl:List (Nat×List D)}
abbrev ckD (p:Int×Int):D:=cellD p.1 p.2
abbrev mpE (ks:List (Int×Int)) (vs:List Vl):D:=.mp (ks.map ckD) (vs.map Vl.d)
theorem keys_E (ks:List (Int×Int)):∀ d ∈ ks.map ckD,keyS 3 d=true:=fun d hd=>by
 obtain ⟨p,_,rfl⟩:=List.mem_map.1 hd
 rfl
theorem ckD_inj {a b c d:Int} (h:cellD a b=cellD c d):a=c∧b=d:=by
 simp[cellD] at h
 exact h
theorem look_ev {ks:List (Int×Int)} {vs:List Vl} {ev:Int→Int→Vl} (h:MapOk ks vs ev) (c r:Int):(∃ (i:Nat),(ks.map ckD)[i]?=some (cellD c r)∧(vs.map Vl.d)[i]?=some (ev c r).d)∨(cellD c r ∉ ks.map ckD∧ev c r=⟨0,0,[]⟩):=by
 rcases h.at' c r with ⟨i,h1,h2⟩|⟨h1,h2⟩
 ·exact .inl ⟨i,by rw[List.getElem?_map,h1];rfl,by rw[List.getElem?_map,h2];rfl⟩
 ·refine .inr ⟨fun hm=>?_,h2⟩
  obtain ⟨p,hp,he⟩:=List.mem_map.1 hm
  obtain ⟨e1,e2⟩:=ckD_inj he
  exact h1 (by rw[← e1,← e2];exact hp)
theorem v_len {v:Vl} (hv:v.ok):v.s.length≤140737488355328:=by
 rcases hv.1 with h|h|h|h|h
 ·rw[h.2.2];decide
 ·rw[h.2];decide
 ·omega
 ·rw[h.2.2];decide
 ·rw[h.2.2.2];decide
abbrev cnH (t:List UInt8) (k:Nat):List (Nat×Blk):=[(0,.var [.d (.str t)] 9),(1,.var [.d (iD (k:Int))] 3)]
theorem cn_cell {t:List UInt8} (ht:t=nCOUNT∨t=nCOUNTA) (v:Vl) (k:Nat) (hk:k≤1048576):Go.EYtfkjhfdpphfjhaaGreatDoor.Fn Tryz.prog gl 168 [.agg (vlC v),.c (.ptr 0 0),.c (.ptr 1 0)] (cnH t k) 2 (.ret (.tup [])) (cnH t (cntS t k (true,v))) 2 []:=by
 have e0:IntKind.i64.wrap ((k:Int)+1)=((k+1:Nat):Int):=by rw[wrapI (by omega)];rfl
 rcases ht with ht|ht
 ·have hn:¬ t=nCOUNTA:=by rw[ht];decide
  by_cases h1:v.k=1
  ·rw[show cntS t k (true,v)=k+1 by simp[cntS,ht,h1]]
   refine fn_of_vc (nv:=9999) (cu:=[]) fitsE mixed Tryz.func168 rfl hoB rfl rfl rfl rfl ?_
   ((repeat' ((conv=>whnf);first|exact .intro|refine G ?_|intro _|refine .mk ?_ ?_|refine H ?_|fail));all_goals conv=>whnf)
   all_goals ((repeat' first|exact rfl|((conv=>whnf);first|done|exact suL|refine And.intro ?_ ?_|fail));all_goals conv=>whnf)
   all_goals first|exact ceq e0|skip
  ·rw[show cntS t k (true,v)=k by simp[cntS,hn,h1]]
   refine fn_of_vc (nv:=9999) (cu:=[]) fitsE mixed Tryz.func168 rfl hoB rfl rfl rfl rfl ?_
   ((repeat' ((conv=>whnf);first|exact .intro|refine G ?_|intro _|refine .mk ?_ ?_|refine H ?_|fail));all_goals conv=>whnf)
   all_goals ((repeat' first|exact rfl|((conv=>whnf);first|done|exact suL|refine And.intro ?_ ?_|fail));all_goals conv=>whnf)
 ·have hn:¬ t=nCOUNT:=by rw[ht];decide
  by_cases h0:v.k=0
  ·rw[show cntS t k (true,v)=k by simp[cntS,hn,h0]]
   have h1:¬ v.k=1:=by omega
   refine fn_of_vc (nv:=9999) (cu:=[]) fitsE mixed Tryz.func168 rfl hoB rfl rfl rfl rfl ?_
   ((repeat' ((conv=>whnf);first|exact .intro|refine G ?_|intro _|refine .mk ?_ ?_|refine H ?_|fail));all_goals conv=>whnf)
   all_goals ((repeat' first|exact rfl|((conv=>whnf);first|done|exact suL|refine And.intro ?_ ?_|fail));all_goals conv=>whnf)
  ·rw[show cntS t k (true,v)=k+1 by simp[cntS,ht,h0]]
   refine fn_of_vc (nv:=9999) (cu:=[]) fitsE mixed Tryz.func168 rfl hoB rfl rfl rfl rfl ?_
   ((repeat' ((conv=>whnf);first|exact .intro|refine G ?_|intro _|refine .mk ?_ ?_|refine H ?_|fail));all_goals conv=>whnf)
   all_goals ((repeat' first|exact rfl|((conv=>whnf);first|done|exact suL|refine And.intro ?_ ?_|fail));all_goals conv=>whnf)
   all_goals first|exact ceq e0|skip
section
variable (te:TypeId) (pe:Value) (hV:Has gl (glV te pe))
include hV
theorem cn_other {t:List UInt8} (ht:t=nCOUNT∨t=nCOUNTA) {v:Vl} (hv:v.ok) (k:Nat) (hk:k≤1048576):Go.EYtfkjhfdpphfjhaaGreatDoor.Fn Tryz.prog gl 169 [.agg (vlC v),.c (.ptr 0 0),.c (.ptr 1 0)] (cnH t k) 2 (.ret (.tup [])) (cnH t (cntS t k (false,v))) 2 []:=by
 have e0:IntKind.i64.wrap ((k:Int)+1)=((k+1:Nat):Int):=by rw[wrapI (by omega)];rfl
 have c1:=FnP.moreG (Number_d te pe v.k v.n v.s (v_len hv)) hV
 change FnP Tryz.prog gl 106 [vlD v.k v.n v.s] (numV v).d at c1
 rcases ht with ht|ht
 ·have hn:¬ t=nCOUNTA:=by rw[ht];decide
  by_cases h4:(numV v).k=4
  ·rw[show cntS t k (false,v)=k by simp[cntS,hn,h4]]
   generalize numV v=x at *
   have c2:=IsBad_d (gl:=gl) x.k x.n x.s
   refine fn_of_vc (nv:=9999) (cu:=[]) fitsE mixed Tryz.func169 rfl hoB rfl rfl rfl rfl ?_
   ((repeat' ((conv=>whnf);first|exact .intro|refine G ?_|intro _|refine C1 c1 ?_|refine C1 c2 ?_|refine .mk ?_ ?_|refine H ?_|fail));all_goals conv=>whnf)
   all_goals ((repeat' first|exact rfl|((conv=>whnf);first|done|exact suL|refine And.intro ?_ ?_|fail));all_goals conv=>whnf)
  ·rw[show cntS t k (false,v)=k+1 by simp[cntS,ht,h4]]
   generalize numV v=x at *
   have c2:=IsBad_d (gl:=gl) x.k x.n x.s
   refine fn_of_vc (nv:=9999) (cu:=[]) fitsE mixed Tryz.func169 rfl hoB rfl rfl rfl rfl ?_
   ((repeat' ((conv=>whnf);first|exact .intro|refine G ?_|intro _|refine C1 c1 ?_|refine C1 c2 ?_|refine .mk ?_ ?_|refine H ?_|fail));all_goals conv=>whnf)
   all_goals ((repeat' first|exact rfl|((conv=>whnf);first|done|exact suL|refine And.intro ?_ ?_|fail));all_goals conv=>whnf)
   all_goals first|exact ceq e0|skip
 ·have hn:¬ t=nCOUNT:=by rw[ht];decide
  by_cases h0:v.k=0
  ·rw[show cntS t k (false,v)=k by simp[cntS,hn,h0]]
   refine fn_of_vc (nv:=9999) (cu:=[]) fitsE mixed Tryz.func169 rfl hoB rfl rfl rfl rfl ?_
   ((repeat' ((conv=>whnf);first|exact .intro|refine G ?_|intro _|refine .mk ?_ ?_|refine H ?_|fail));all_goals conv=>whnf)
   all_goals ((repeat' first|exact rfl|((conv=>whnf);first|done|exact suL|refine And.intro ?_ ?_|fail));all_goals conv=>whnf)
  ·rw[show cntS t k (false,v)=k+1 by simp[cntS,ht,h0]]
   refine fn_of_vc (nv:=9999) (cu:=[]) fitsE mixed Tryz.func169 rfl hoB rfl rfl rfl rfl ?_
   ((repeat' ((conv=>whnf);first|exact .intro|refine G ?_|intro _|refine .mk ?_ ?_|refine H ?_|fail));all_goals conv=>whnf)
   all_goals ((repeat' first|exact rfl|((conv=>whnf);first|done|exact suL|refine And.intro ?_ ?_|fail));all_goals conv=>whnf)
   all_goals first|exact ceq e0|skip
abbrev ctH (o:Vl):List (Nat×Blk):=[(0,vB o)]
theorem ct_cell (b:Bool) {o v:Vl} (ho:o.ok) (hv:v.ok):Go.EYtfkjhfdpphfjhaaGreatDoor.Fn Tryz.prog gl 170 [.agg (vlC v),.c (.ptr 0 0)] (ctH o) 1 (.ret (.tup [])) (ctH (catS o (b,v))) 1 []:=by
 have c1:=FnP.moreG (Two_v te pe 7 ho hv) hV
 rw[show catS o (b,v)=twoV 7 o v from rfl]
 generalize twoV 7 o v=x at *
 refine fn_of_vc (nv:=9999) (cu:=[]) fitsE mixed Tryz.func170 rfl hoB rfl rfl rfl rfl ?_
 ((repeat' ((conv=>whnf);first|exact .intro|refine G ?_|intro _|refine C1 c1 ?_|refine .mk ?_ ?_|refine H ?_|fail));all_goals conv=>whnf)
 all_goals ((repeat' first|exact rfl|((conv=>whnf);first|done|exact suL|refine And.intro ?_ ?_|fail));all_goals conv=>whnf)
abbrev nuH (s:Ns):List (Nat×Blk):=[(0,vB s.bad),(1,.var [.all 1 2] 175),(2,.rows 1 (s.all.map iR) 3),(3,.var [.fn 172 [(0,0),(1,0)]] 212)]
theorem nu_other {s:Ns} {v:Vl} (hv:v.ok) (hs:s.all.length≤1048576):Go.EYtfkjhfdpphfjhaaGreatDoor.Fn Tryz.prog gl 172 [.agg (vlC v),.c (.ptr 0 0),.c (.ptr 1 0)] (nuH s) 4 (.ret (.tup [])) (nuH (numO s v)) 4 [2]:=by
 have c1:=FnP.moreG (Number_d te pe v.k v.n v.s (v_len hv)) hV
 change FnP Tryz.prog gl 106 [vlD v.k v.n v.s] (numV v).d at c1
 have c3:=IsBad_d (gl:=gl) s.bad.k s.bad.n s.bad.s
 have hrl:(s.all.map iR).length=s.all.length:=List.length_map _
 have b1:((s.all.map iR).length+1) * 8≤140737488355328:=by omega
 have b2:(s.all.map iR).length+1≤maxLen:=by unfold maxLen;omega
 by_cases h4:s.bad.k=4
 ·rw[show numO s v=s by unfold numO;rw[if_pos h4]]
  generalize numV v=x at *
  refine fn_of_vc (nv:=9999) (cu:=[]) fitsE mixed Tryz.func172 rfl hoB rfl rfl rfl rfl ?_
  ((repeat' ((conv=>whnf);first|exact .intro|refine G ?_|intro _|refine C1 c1 ?_|refine C1 c3 ?_|refine .mk ?_ ?_|refine H ?_|fail));all_goals conv=>whnf)
  all_goals ((repeat' first|exact rfl|((conv=>whnf);first|done|exact suL|refine And.intro ?_ ?_|fail));all_goals conv=>whnf)
 ·rw[show numO s v=⟨if (numV v).k=1 then s.all++[(numV v).n] else s.all,numV v⟩ by unfold numO;rw[if_neg h4]]
  generalize numV v=x at *
  by_cases h1:x.k=1
  ·rw[if_pos h1]
   refine fn_of_vc (nv:=9999) (cu:=[]) fitsE mixed Tryz.func172 rfl hoB rfl rfl rfl rfl ?_
   ((repeat' ((conv=>whnf);first|exact .intro|refine G ?_|intro _|refine C1 c1 ?_|refine C1 c3 ?_|(refine ⟨⟨rfl,b1,b2⟩,?_⟩)|refine .mk ?_ ?_|refine H ?_|fail));all_goals conv=>whnf)
   all_goals ((repeat' first|exact rfl|((conv=>whnf);first|done|exact suL|refine And.intro ?_ ?_|fail));all_goals conv=>whnf)
   all_goals first|(rw[List.map_append];rfl)|skip
  ·rw[if_neg h1]
   refine fn_of_vc (nv:=9999) (cu:=[]) fitsE mixed Tryz.func172 rfl hoB rfl rfl rfl rfl ?_
   ((repeat' ((conv=>whnf);first|exact .intro|refine G ?_|intro _|refine C1 c1 ?_|refine C1 c3 ?_|refine .mk ?_ ?_|refine H ?_|fail));all_goals conv=>whnf)
   all_goals ((repeat' first|exact rfl|((conv=>whnf);first|done|exact suL|refine And.intro ?_ ?_|fail));all_goals conv=>whnf)
theorem nu_cell {s:Ns} {v:Vl} (hv:v.ok) (hs:s.all.length≤1048576):Go.EYtfkjhfdpphfjhaaGreatDoor.Fn Tryz.prog gl 173 [.agg (vlC v),.c (.ptr 3 0)] (nuH s) 4 (.ret (.tup [])) (nuH (numS s (true,v))) 4 [2]:=by
 have c1:=nu_other te pe hV (s:=s) hv hs
 have c3:=IsBad_d (gl:=gl) v.k v.n v.s
 by_cases h1:v.k=1
 ·rw[show numS s (true,v)=numO s v by unfold numS;rw[if_neg (by simp[h1])]]
  generalize numO s v=s' at *
  refine fn_of_vc (nv:=9999) (cu:=[]) fitsE mixed Tryz.func173 rfl hoB rfl rfl rfl rfl ?_
  ((repeat' ((conv=>whnf);first|exact .intro|refine G ?_|intro _|refine C5 c1 [0,1,2,3] ?_|refine C1 c3 ?_|refine .mk ?_ ?_|refine H ?_|fail));all_goals conv=>whnf)
  all_goals ((repeat' first|exact rfl|((conv=>whnf);first|done|exact suL|refine And.intro ?_ ?_|fail));all_goals conv=>whnf)
 ·by_cases h4:v.k=4
  ·rw[show numS s (true,v)=numO s v by unfold numS;rw[if_neg (by simp[h4])]]
   generalize numO s v=s' at *
   refine fn_of_vc (nv:=9999) (cu:=[]) fitsE mixed Tryz.func173 rfl hoB rfl rfl rfl rfl ?_
   ((repeat' ((conv=>whnf);first|exact .intro|refine G ?_|intro _|refine C5 c1 [0,1,2,3] ?_|refine C1 c3 ?_|refine .mk ?_ ?_|refine H ?_|fail));all_goals conv=>whnf)
   all_goals ((repeat' first|exact rfl|((conv=>whnf);first|done|exact suL|refine And.intro ?_ ?_|fail));all_goals conv=>whnf)
  ·rw[show numS s (true,v)=s by unfold numS;rw[if_pos (by simp[h1,h4])]]
   refine fn_of_vc (nv:=9999) (cu:=[]) fitsE mixed Tryz.func173 rfl hoB rfl rfl rfl rfl ?_
   ((repeat' ((conv=>whnf);first|exact .intro|refine G ?_|intro _|refine C1 c3 ?_|refine .mk ?_ ?_|refine H ?_|fail));all_goals conv=>whnf)
   all_goals ((repeat' first|exact rfl|((conv=>whnf);first|done|exact suL|refine And.intro ?_ ?_|fail));all_goals conv=>whnf)
abbrev lgH (and:Bool) (s:Lg):List (Nat×Blk):=[(0,vB s.bad),(1,.var [.d (iD (s.k:Int))] 3),(2,.var [.d (.v (.bool and))] 4),(3,.var [.d (.v (.bool s.out))] 4),(4,.var [.fn 213 [(0,0),(1,0),(2,0),(3,0)]] 212)]
theorem lg_other (and:Bool) {s:Lg} {v:Vl} (hv:v.ok) (hs:s.k≤1048576):Go.EYtfkjhfdpphfjhaaGreatDoor.Fn Tryz.prog gl 213 [.agg (vlC v),.c (.ptr 0 0),.c (.ptr 1 0),.c (.ptr 2 0),.c (.ptr 3 0)] (lgH and s) 5 (.ret (.tup [])) (lgH and (logO and s v)) 5 []:=by
 have e0:IntKind.i64.wrap ((s.k:Int)+1)=((s.k+1:Nat):Int):=by rw[wrapI (by omega)];rfl
 have c1:=FnP.moreG (Truth_d te pe hv.1) hV
 change FnP Tryz.prog gl 175 [vlD v.k v.n v.s] (truV v).d at c1
 have c3:=IsBad_d (gl:=gl) s.bad.k s.bad.n s.bad.s
 by_cases h4:s.bad.k=4
 ·rw[show logO and s v=s by unfold logO;rw[if_pos h4]]
  generalize truV v=x at *
  refine fn_of_vc (nv:=9999) (cu:=[]) fitsE mixed Tryz.func213 rfl hoB rfl rfl rfl rfl ?_
  ((repeat' ((conv=>whnf);first|exact .intro|refine G ?_|intro _|refine C1 c1 ?_|refine C1 c3 ?_|refine .mk ?_ ?_|refine H ?_|fail));all_goals conv=>whnf)
  all_goals ((repeat' first|exact rfl|((conv=>whnf);first|done|exact suL|refine And.intro ?_ ?_|fail));all_goals conv=>whnf)
 ·rw[show logO and s v=⟨s.k+1,truV v,if (truV v).k=3∧¬ (decide ((truV v).n=1)=and) then !and else s.out⟩ by unfold logO;rw[if_neg h4]]
  generalize truV v=x at *
  by_cases h3:x.k=3
  ·by_cases hn:x.n=1
   ·have c2:FnP Tryz.prog gl 214 [vlD x.k x.n x.s] (.v (.bool true)):=FnP.le (IsTrue_d x.k x.n x.s) (LeD.vt ⟨h3,hn⟩)
    obtain ⟨sk,sb,so⟩:=s
    cases and
    ·rw[show (if x.k=3∧¬ (decide (x.n=1)=false) then !false else so)=true by simp[h3,hn]]
     refine fn_of_vc (nv:=9999) (cu:=[]) fitsE mixed Tryz.func213 rfl hoB rfl rfl rfl rfl ?_
     ((repeat' ((conv=>whnf);first|exact .intro|refine G ?_|intro _|refine C1 c1 ?_|refine C1 c2 ?_|refine C1 c3 ?_|refine .mk ?_ ?_|refine H ?_|fail));all_goals conv=>whnf)
     all_goals ((repeat' first|exact rfl|((conv=>whnf);first|done|exact suL|refine And.intro ?_ ?_|fail));all_goals conv=>whnf)
     all_goals first|exact ceq e0|skip
    ·rw[show (if x.k=3∧¬ (decide (x.n=1)=true) then !true else so)=so by simp[h3,hn]]
     refine fn_of_vc (nv:=9999) (cu:=[]) fitsE mixed Tryz.func213 rfl hoB rfl rfl rfl rfl ?_
     ((repeat' ((conv=>whnf);first|exact .intro|refine G ?_|intro _|refine C1 c1 ?_|refine C1 c2 ?_|refine C1 c3 ?_|refine .mk ?_ ?_|refine H ?_|fail));all_goals conv=>whnf)
     all_goals ((repeat' first|exact rfl|((conv=>whnf);first|done|exact suL|refine And.intro ?_ ?_|fail));all_goals conv=>whnf)
     all_goals first|exact ceq e0|skip
   ·have c2:FnP Tryz.prog gl 214 [vlD x.k x.n x.s] (.v (.bool false)):=FnP.le (IsTrue_d x.k x.n x.s) (LeD.vf fun h=>hn h.2)
    obtain ⟨sk,sb,so⟩:=s
    cases and
    ·rw[show (if x.k=3∧¬ (decide (x.n=1)=false) then !false else so)=so by simp[h3,hn]]
     refine fn_of_vc (nv:=9999) (cu:=[]) fitsE mixed Tryz.func213 rfl hoB rfl rfl rfl rfl ?_
     ((repeat' ((conv=>whnf);first|exact .intro|refine G ?_|intro _|refine C1 c1 ?_|refine C1 c2 ?_|refine C1 c3 ?_|refine .mk ?_ ?_|refine H ?_|fail));all_goals conv=>whnf)
     all_goals ((repeat' first|exact rfl|((conv=>whnf);first|done|exact suL|refine And.intro ?_ ?_|fail));all_goals conv=>whnf)
     all_goals first|exact ceq e0|skip
    ·rw[show (if x.k=3∧¬ (decide (x.n=1)=true) then !true else so)=false by simp[h3,hn]]
     refine fn_of_vc (nv:=9999) (cu:=[]) fitsE mixed Tryz.func213 rfl hoB rfl rfl rfl rfl ?_
     ((repeat' ((conv=>whnf);first|exact .intro|refine G ?_|intro _|refine C1 c1 ?_|refine C1 c2 ?_|refine C1 c3 ?_|refine .mk ?_ ?_|refine H ?_|fail));all_goals conv=>whnf)
     all_goals ((repeat' first|exact rfl|((conv=>whnf);first|done|exact suL|refine And.intro ?_ ?_|fail));all_goals conv=>whnf)
     all_goals first|exact ceq e0|skip
  ·rw[show (if x.k=3∧¬ (decide (x.n=1)=and) then !and else s.out)=s.out by simp[h3]]
   refine fn_of_vc (nv:=9999) (cu:=[]) fitsE mixed Tryz.func213 rfl hoB rfl rfl rfl rfl ?_
   ((repeat' ((conv=>whnf);first|exact .intro|refine G ?_|intro _|refine C1 c1 ?_|refine C1 c3 ?_|refine .mk ?_ ?_|refine H ?_|fail));all_goals conv=>whnf)
   all_goals ((repeat' first|exact rfl|((conv=>whnf);first|done|exact suL|refine And.intro ?_ ?_|fail));all_goals conv=>whnf)
   all_goals first|exact ceq e0|skip
theorem lg_cell (and:Bool) {s:Lg} {v:Vl} (hv:v.ok) (hs:s.k≤1048576):Go.EYtfkjhfdpphfjhaaGreatDoor.Fn Tryz.prog gl 215 [.agg (vlC v),.c (.ptr 4 0)] (lgH and s) 5 (.ret (.tup [])) (lgH and (logS and s (true,v))) 5 []:=by
 have c1:=lg_other te pe hV and (s:=s) hv hs
 have c3:=IsBad_d (gl:=gl) v.k v.n v.s
 by_cases h:v.k=1∨v.k=3∨v.k=4
 ·rw[show logS and s (true,v)=logO and s v by unfold logS;rw[if_neg (by simp;omega)]]
  generalize logO and s v=s' at *
  rcases h with h|h|h
  ·refine fn_of_vc (nv:=9999) (cu:=[]) fitsE mixed Tryz.func215 rfl hoB rfl rfl rfl rfl ?_
   ((repeat' ((conv=>whnf);first|exact .intro|refine G ?_|intro _|refine C5 c1 [0,1,2,3,4] ?_|refine C1 c3 ?_|refine .mk ?_ ?_|refine H ?_|fail));all_goals conv=>whnf)
   all_goals ((repeat' first|exact rfl|((conv=>whnf);first|done|exact suL|refine And.intro ?_ ?_|fail));all_goals conv=>whnf)
  ·have h1:¬ v.k=1:=by omega
   refine fn_of_vc (nv:=9999) (cu:=[]) fitsE mixed Tryz.func215 rfl hoB rfl rfl rfl rfl ?_
   ((repeat' ((conv=>whnf);first|exact .intro|refine G ?_|intro _|refine C5 c1 [0,1,2,3,4] ?_|refine C1 c3 ?_|refine .mk ?_ ?_|refine H ?_|fail));all_goals conv=>whnf)
   all_goals ((repeat' first|exact rfl|((conv=>whnf);first|done|exact suL|refine And.intro ?_ ?_|fail));all_goals conv=>whnf)
  ·have h1:¬ v.k=1:=by omega
   have h3:¬ v.k=3:=by omega
   refine fn_of_vc (nv:=9999) (cu:=[]) fitsE mixed Tryz.func215 rfl hoB rfl rfl rfl rfl ?_
   ((repeat' ((conv=>whnf);first|exact .intro|refine G ?_|intro _|refine C5 c1 [0,1,2,3,4] ?_|refine C1 c3 ?_|refine .mk ?_ ?_|refine H ?_|fail));all_goals conv=>whnf)
   all_goals ((repeat' first|exact rfl|((conv=>whnf);first|done|exact suL|refine And.intro ?_ ?_|fail));all_goals conv=>whnf)
 ·rw[show logS and s (true,v)=s by unfold logS;rw[if_pos (by simp;omega)]]
  have h1:¬ v.k=1:=by omega
  have h3:¬ v.k=3:=by omega
  have h4:¬ v.k=4:=by omega
  refine fn_of_vc (nv:=9999) (cu:=[]) fitsE mixed Tryz.func215 rfl hoB rfl rfl rfl rfl ?_
  ((repeat' ((conv=>whnf);first|exact .intro|refine G ?_|intro _|refine C1 c3 ?_|refine .mk ?_ ?_|refine H ?_|fail));all_goals conv=>whnf)
  all_goals ((repeat' first|exact rfl|((conv=>whnf);first|done|exact suL|refine And.intro ?_ ?_|fail));all_goals conv=>whnf)
end
end
end Go.Proofs.YtfkjhfdpphfjhaaGreatDoor
