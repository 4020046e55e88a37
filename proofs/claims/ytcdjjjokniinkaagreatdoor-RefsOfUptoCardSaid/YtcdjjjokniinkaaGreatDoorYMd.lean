/- Proved: a part of what the law is proved with (the reckoner, contracts of functions, plain laws). Conditions: as each says. -/
import Derived.Shelf.Strings.BuilderK
import Derived.Deep.WholeRow
import Derived.Test.YtcdjjjokniinkaaGreatDoorYCc
import Derived.Test.YtcdjjjokniinkaaGreatDoorYCg
import Derived.Test.YtcdjjjokniinkaaGreatDoorYET
import Derived.Test.YtcdjjjokniinkaaGreatDoorYEs
import Derived.Test.YtcdjjjokniinkaaGreatDoorYGd
import Derived.Test.YtcdjjjokniinkaaGreatDoorYGm
import Derived.Test.YtcdjjjokniinkaaGreatDoorYIe
import Derived.Test.YtcdjjjokniinkaaGreatDoorYPe
section
namespace Go.Proofs.YtcdjjjokniinkaaGreatDoor
open Go Go.EYtcdjjjokniinkaaGreatDoor
set_option maxRecDepth 100000
set_option maxHeartbeats 2000000
variable {gl:List (Nat×List D)}
abbrev ndB (n:Nd):Blk:=.var (ndC n) 38
abbrev inB (i:Int):Blk:=.var [.d (iD i)] 3
abbrev erB (d:D):Blk:=.var [.d d] 24
abbrev n00:Nd:=.mk 0 0 [] z0 z0 []
theorem parse1_none (n:Nd) (i:Int) (d:D):FnD Tryz.prog gl 65 [.c (.ptr 0 0),.c (.ptr 1 0),.c (.ptr 2 0)] [(0,ndB n),(1,inB i),(2,erB d)] 4 none [(0,ndB n),(1,inB i),(2,erB d)] 4:=by
 obtain ⟨k,m,t,a,b,ks⟩:=n
 refine fnD_of_vc (nv:=9999) (cu:=[]) fits mixed Tryz.func65 rfl rfl rfl rfl rfl rfl rfl rfl rfl rfl rfl rfl rfl ?_
 ((repeat' ((conv=>whnf);first|exact .intro|refine .ya ?_|refine .na ?_|refine .ys ?_|refine .ns ?_|refine .neg (fun _=>?_) (fun _=>?_)|refine .mk (fun _=>?_) (fun _=>?_)|refine .mk ?_ ?_|refine AK ?_|refine AT ?_|fail));all_goals conv=>whnf)
 ((repeat' first|exact rfl|((conv=>whnf);first|done|exact suL|refine And.intro ?_ ?_|fail));all_goals conv=>whnf)
theorem parse1_some (n:Nd) (i:Int) (d:D) (q:Nat) (e:Int):FnD Tryz.prog gl 65 [.c (.ptr 0 0),.c (.ptr 1 0),.c (.ptr 2 0)] [(0,ndB n),(1,inB i),(2,erB d)] 4 (some (.d (fltD q e))) [(0,ndB n00),(1,inB q),(2,erB (erD e))] 4:=by
 obtain ⟨k,m,t,a,b,ks⟩:=n
 refine fnD_of_vc (nv:=9999) (cu:=[]) fits mixed Tryz.func65 rfl rfl rfl rfl rfl rfl rfl rfl rfl rfl rfl rfl rfl ?_
 ((repeat' ((conv=>whnf);first|exact .intro|refine .ya ?_|refine .na ?_|refine .ys ?_|refine .ns ?_|refine .neg (fun _=>?_) (fun _=>?_)|refine .mk (fun _=>?_) (fun _=>?_)|refine .mk ?_ ?_|refine AK ?_|refine AT ?_|fail));all_goals conv=>whnf)
 ((repeat' first|exact rfl|((conv=>whnf);first|done|exact suL|refine And.intro ?_ ?_|fail));all_goals conv=>whnf)
 all_goals first|exact lf0|exact ln0
abbrev zNB:Blk:=.var [.d (iD 0),.d (iD 0),.d (.str []),.d (iD 0),.d (iD 0),.d (.v (.bool false)),.d (.v (.bool false)),.d (iD 0),.d (iD 0),.d (.v (.bool false)),.d (.v (.bool false)),.d (.v (.slice none 0 0))] 38
theorem parse1_zero (i:Int) (d:D) (q:Nat) (e:Int):FnD Tryz.prog gl 65 [.c (.ptr 0 0),.c (.ptr 1 0),.c (.ptr 2 0)] [(0,zNB),(1,inB i),(2,erB d)] 4 (some (.d (fltD q e))) [(0,ndB n00),(1,inB q),(2,erB (erD e))] 4:=by
 refine fnD_of_vc (nv:=9999) (cu:=[]) fits mixed Tryz.func65 rfl rfl rfl rfl rfl rfl rfl rfl rfl rfl rfl rfl rfl ?_
 ((repeat' ((conv=>whnf);first|exact .intro|refine .ya ?_|refine .na ?_|refine .ys ?_|refine .ns ?_|refine .neg (fun _=>?_) (fun _=>?_)|refine .mk (fun _=>?_) (fun _=>?_)|refine .mk ?_ ?_|refine AK ?_|refine AT ?_|fail));all_goals conv=>whnf)
 ((repeat' first|exact rfl|((conv=>whnf);first|done|exact suL|refine And.intro ?_ ?_|fail));all_goals conv=>whnf)
 all_goals first|exact lf0|exact ln0
def partD:Bool×List C→Option D
 | (true,l)=>(dsOf l).map .agg
 | (false,[.d x])=>some x
 | _=>none
def partsD:List (Bool×List C)→Option (List D)
 | []=>some []
 | p::r=>match partD p,partsD r with
  | some d,some l=>some (d::l)
  | _,_=>none
def dOfV:V→Option D
 | .c (.d x)=>some x
 | .agg l=>(dsOf l).map .agg
 | .tup l=>(partsD l).map .tup
 | _=>none
theorem dsOf_den {adr:Env} {M:Nat→Prop} {w:World} {l:List C} {ds:List D} {xs:List Value} (h:dsOf l=some ds) (hd:DenCs adr M w l xs):DenL M w ds xs:=by
 rw[dsOf_ok h] at hd
 exact (All2.map_left (f:=C.d)).1 hd
theorem partD_den {adr:Env} {M:Nat→Prop} {w:World} {p:Bool×List C} {d:D} {x:Value} (h:partD p=some d) (hd:DenT adr M w p x):DenD M w d x:=by
 obtain ⟨b,l⟩:=p
 cases b with
 | true =>
  obtain ⟨ds,h1,rfl⟩:=Option.map_eq_some_iff.1 (show (dsOf l).map .agg=some d from h)
  obtain ⟨xs,rfl,hx⟩:=hd
  exact DenD.agg_mk (dsOf_den h1 hx)
 | false =>
  unfold partD at h
  split at h
  ·rename_i e;cases e
  ·rename_i y e
   cases e
   cases h
   obtain ⟨c,h1,h2⟩:=hd
   cases h1
   exact h2
  ·cases h
theorem partsD_den {adr:Env} {M:Nat→Prop} {w:World}:∀ {l:List (Bool×List C)} {ds:List D} {xs:List Value},partsD l=some ds→All2 (DenT adr M w) l xs→DenL M w ds xs
 | [],ds,[],h,_=>by cases h;trivial
 | p::r,ds,x::xs,h,hd=>by
  unfold partsD at h
  split at h
  ·rename_i d l h1 h2
   cases h
   exact ⟨partD_den h1 hd.1,partsD_den h2 hd.2⟩
  ·cases h
 | [],_,_::_,_,h=>h.elim
 | _::_,_,[],_,h=>h.elim
theorem dOfV_den {adr:Env} {M:Nat→Prop} {w:World} {v:V} {d:D} {x:Value} (h:dOfV v=some d) (hd:DenV adr M w v x):DenD M w d x:=by
 unfold dOfV at h
 split at h
 ·cases h;exact hd
 ·obtain ⟨ds,h1,rfl⟩:=Option.map_eq_some_iff.1 h
  obtain ⟨xs,rfl,hx⟩:=hd
  exact DenD.agg_mk (dsOf_den h1 hx)
 ·obtain ⟨ds,h1,rfl⟩:=Option.map_eq_some_iff.1 h
  obtain ⟨xs,rfl,hx⟩:=hd
  exact DenD.tup_mk (partsD_den h1 hx)
 ·cases h
theorem fnP_of_fn {P:Program} {f:Nat} {ds:List D} {v:V} {r:D} (h:Go.EYtcdjjjokniinkaaGreatDoor.Fn P gl f (ds.map vD) [] 0 (.ret v) [] 0 []) (hv:dOfV v=some r):FnP P gl f ds r:=by
 intro w M xs hM hg hd
 have hW:WOk M (fun _=>none) [] 0 w:=⟨fun k B h=>(by cases h),fun _ _=>rfl,fun k B h=>(by cases h),fun k k' B B' b m m' h=>(by cases h),fun k B b m h=>(by cases h),hM⟩
 have hm:Mut M (fun _=>none) ([]:List (Nat×Blk))=M:=funext fun b=>propext ⟨fun h=>h.elim id fun ⟨k,B,n,h,_⟩=>(by cases h),.inl⟩
 have:=h.2.2.2 w M (fun _=>none) xs hW (by rw[hm];exact hg) (by rw[hm];exact all2_vD hd)
 refine this.mono ?_
 rintro e w' ⟨adr',hE,hW',_,_,x,rfl,hx⟩
 have hm':Mut M adr' ([]:List (Nat×Blk))=M:=funext fun b=>propext ⟨fun h=>h.elim id fun ⟨k,B,n,h,_⟩=>(by cases h),.inl⟩
 rw[hm'] at hx
 exact ⟨hE.mono fun k _ ⟨j,B,m,h,_⟩=>(by cases h),x,rfl,dOfV_den hv hx⟩
where
 all2_vD:∀ {ds:List D} {xs:List Value} {M:Nat→Prop} {w:World} {adr:Env},DenL M w ds xs→All2 (DenV adr M w) (ds.map vD) xs
  | [],[],_,_,_,_=>trivial
  | d::ds,x::xs,_,_,_,h=>⟨vD_den h.1,all2_vD h.2⟩
  | [],_::_,_,_,_,h=>h.elim
  | _::_,[],_,_,_,h=>h.elim
theorem FnP.le {P:Program} {f:Nat} {ds:List D} {r r':D} (h:FnP P gl f ds r) (hr:LeD r r'):FnP P gl f ds r':=fun w M xs hM hg hd=>(h w M xs hM hg hd).mono fun _e _w' ⟨hE,x,he,hx⟩=>⟨hE,x,he,hr.1 _ _ _ hx⟩
theorem Constant_d (s:List UInt8) {b:Bool} (hb:b=!decide (s.head?=some 61)):FnP Tryz.prog gl 33 [.str s] (.v (.bool b)):=by
 have c1:=HasPrefix_d (gl:=gl) s [61] (b:=decide (s.head?=some 61)) (by
  cases s with
  | nil=>rfl
  | cons c r=>by_cases h:c=61 <;> simp[h])
 subst hb
 cases hc:decide (s.head?=some 61) with
 | true =>
  rw[hc] at c1
  refine fnP_of_vc (nv:=9999) (cu:=[]) fits mixed Tryz.func33 rfl hoB rfl ?_
  ((repeat' ((conv=>whnf);first|exact .intro|refine .ya ?_|refine .na ?_|refine .ys ?_|refine .ns ?_|refine .neg (fun _=>?_) (fun _=>?_)|refine .mk (fun _=>?_) (fun _=>?_)|refine .inl (.inl (X1 (c1) ?_))|refine .inl (X1 (c1) ?_)|refine X1 (c1) ?_|refine .mk ?_ ?_|refine AK ?_|refine AT ?_|fail));all_goals conv=>whnf)
  exact LeD.rfl
 | false =>
  rw[hc] at c1
  refine fnP_of_vc (nv:=9999) (cu:=[]) fits mixed Tryz.func33 rfl hoB rfl ?_
  ((repeat' ((conv=>whnf);first|exact .intro|refine .ya ?_|refine .na ?_|refine .ys ?_|refine .ns ?_|refine .neg (fun _=>?_) (fun _=>?_)|refine .mk (fun _=>?_) (fun _=>?_)|refine .inl (.inl (X1 (c1) ?_))|refine .inl (X1 (c1) ?_)|refine X1 (c1) ?_|refine .mk ?_ ?_|refine AK ?_|refine AT ?_|fail));all_goals conv=>whnf)
  exact LeD.rfl
end Go.Proofs.YtcdjjjokniinkaaGreatDoor
end
section
namespace Go.Proofs.YtcdjjjokniinkaaGreatDoor
open Go Go.EYtcdjjjokniinkaaGreatDoor
set_option maxRecDepth 100000
set_option maxHeartbeats 4000000
variable {gl:List (Nat×List D)}
def parseZ (rf:List UInt8→Option Rf) (s:List UInt8):Rs Nd :=
 if 200<s.length then .no 0 4 else if s.head?=some 61 then allF (s:=s) (Tw s (oneA (parZ rf) s 30) 4) else .no 0 2
def parseD:Rs Nd→D
 | .ok n _=>.tup [.agg n.cs,iD 0,.v .nilIface]
 | .no a e=>.tup [.agg n00.cs,iD (a:Int),erD e]
theorem dsOf_map:∀ l:List D,dsOf (l.map C.d)=some l
 | []=>rfl
 | x::l=>by
  simp only[List.map_cons,dsOf,dsOf_map l,dOfC]
theorem parts_cs (n:Nd) (x y:D):dOfV (.tup [(true,ndC n),(false,[.d x]),(false,[.d y])])=some (.tup [.agg n.cs,x,y]):=by
 show (match partD (true,ndC n),(some [x,y]:Option (List D)) with|some d,some l=>some (d::l)|_,_=>none).map D.tup=_
 show (match (dsOf (n.cs.map C.d)).map D.agg,(some [x,y]:Option (List D)) with|some d,some l=>some (d::l)|_,_=>none).map D.tup=_
 rw[dsOf_map]
 rfl
theorem n00_le:LeD (.agg [iD 0,iD 0,.str [],iD 0,iD 0,.v (.bool false),.v (.bool false),iD 0,iD 0,.v (.bool false),.v (.bool false),.v (.slice none 0 0)]) (.agg n00.cs):=by
 refine LeD.agg ?_
 repeat' first|exact LeD.rfl|exact LeD.bf (by simp[z0])|exact LeD.nil0|refine LeD.cons ?_ ?_|exact LeD.nil
theorem Parse_d (te:TypeId) (pe:Value) (hV:Has gl (glV te pe)) (hl:Go.EYtcdjjjokniinkaaGreatDoor.look gl 1=some lvAll) {rf:List UInt8→Option Rf} (hR:RefsOk rf) (s:List UInt8) :
 FnP Tryz.prog gl 34 [.str s] (parseD (parseZ rf s)):=by
 unfold parseZ
 by_cases h200:200<s.length
 ·rw[if_pos h200]
  have h1:((s.length:Nat):Int)>200:=by omega
  refine FnP.le (r:=.tup [.agg [iD 0,iD 0,.str [],iD 0,iD 0,.v (.bool false),.v (.bool false),iD 0,iD 0,.v (.bool false),.v (.bool false),.v (.slice none 0 0)],iD 0,erD 4]) ?_ (LeD.tup (LeD.cons n00_le (LeD.cons LeD.rfl (LeD.cons LeD.rfl LeD.nil))))
  refine fnP_of_fn (v:=.tup [(true,[.d (iD 0),.d (iD 0),.d (.str []),.d (iD 0),.d (iD 0),.d (.v (.bool false)),.d (.v (.bool false)),.d (iD 0),.d (iD 0),.d (.v (.bool false)),.d (.v (.bool false)),.d (.v (.slice none 0 0))]),(false,[.d (iD 0)]),(false,[.d (erD 4)])]) ?_ rfl
  refine fn_of_vcD (nv:=9999) (cu:=[]) (g:=65) (d0:=11) (caps:=[.tmp 2,.tmp 3,.tmp 4]) fits mixed Tryz.func34 rfl rfl rfl rfl rfl rfl rfl rfl rfl rfl hoB hoB rfl rfl rfl rfl ⟨rfl,rfl,rfl⟩ ?_
  ((repeat' ((conv=>whnf);first|exact .intro|refine .ya ?_|refine .na ?_|refine .ys ?_|refine .ns ?_|refine .neg (fun _=>?_) (fun _=>?_)|refine .mk (fun _=>?_) (fun _=>?_)|refine .mk ?_ ?_|refine AK ?_|refine AT ?_|fail));all_goals conv=>whnf)
  ((repeat' first|exact rfl|((conv=>whnf);first|done|exact suL|refine And.intro ?_ ?_|fail));all_goals conv=>whnf)
 ·rw[if_neg h200]
  have h1:¬ ((s.length:Nat):Int)>200:=by omega
  have hs:s.length≤200:=by omega
  by_cases h61:s.head?=some 61
  ·rw[if_pos h61]
   have c0:=Constant_d (gl:=gl) s (b:=false) (by simp[h61])
   have hl1:1≤s.length:=by
    cases s with
    | nil=>cases h61
    | cons c r=>simp
   have hf:=Tw_fwd (oneA_fwd (p:=parZ rf) (s:=s) 30) 4
   have c1:=two_0 te pe hV hl hR hs hl1
   have e1:IntKind.i64.wrap ((0:Int)+1)=((1:Nat):Int):=by rw[wrapI (by omega)];rfl
   unfold allF
   cases hx:Tw s (oneA (parZ rf) s 30) 4 1 with
   | no a e =>
    rw[hx] at c1
    unfold Gives1 at c1
    refine fnP_of_fn (v:=(.tup [(true,ndC n00),(false,[.d (iD (a:Int))]),(false,[.d (erD e)])])) ?_ (parts_cs _ _ _)
    refine fn_of_vcD (nv:=9999) (cu:=[]) (g:=65) (d0:=11) (caps:=[.tmp 2,.tmp 3,.tmp 4]) fits mixed Tryz.func34 rfl rfl rfl rfl rfl rfl rfl rfl rfl rfl hoB hoB rfl rfl rfl rfl ⟨rfl,rfl,rfl⟩ ?_
    ((repeat' ((conv=>whnf);first|exact .intro|refine .ya ?_|refine .na ?_|refine .ys ?_|refine .ns ?_|refine .neg (fun _=>?_) (fun _=>?_)|refine .mk (fun _=>?_) (fun _=>?_)|refine .inr (X5 (c1.r [3] _) ?_)|refine .inl (.inr (X5 (c1.r [3] _) ?_))|refine .inl (X5 (c1.r [3] _) ?_)|refine .inl (.inl (X1 (c0) ?_))|refine .inl (X1 (c0) ?_)|refine X1 (c0) ?_|(first|rw[e1]|refine ⟨_,_,_,parse1_zero 0 (.v .nilIface) _ _,?_,?_⟩)|refine .mk ?_ ?_|refine AK ?_|refine AT ?_|fail));all_goals conv=>whnf)
    ((repeat' first|exact rfl|((conv=>whnf);first|done|exact suL|refine And.intro ?_ ?_|fail));all_goals conv=>whnf)
   | ok n k =>
    rw[hx] at c1
    unfold Gives1 at c1
    obtain ⟨hk1,hk2⟩:=hf _ _ _ hl1 hx
    have b1:=blanks_d (gl:=gl) s k 0 hk2 hs
    have hj:=skp_le hk2
    simp only[Rs.bind_ok]
    obtain ⟨j,hjj⟩:∃ j,skp s k=j:=⟨_,rfl⟩
    rw[hjj] at b1 hj ⊢
    obtain ⟨k0,m0,t0,a0,b0,ks0⟩:=n
    by_cases hjl:j=s.length
    ·rw[if_pos hjl]
     have h2:¬ ((j:Nat):Int)<((s.length:Nat):Int):=by omega
     refine fnP_of_fn (v:=(.tup [(true,ndC (.mk k0 m0 t0 a0 b0 ks0)),(false,[.d (iD 0)]),(false,[.d (.v .nilIface)])])) ?_ (parts_cs _ _ _)
     refine fn_of_vcD (nv:=9999) (cu:=[]) (g:=65) (d0:=11) (caps:=[.tmp 2,.tmp 3,.tmp 4]) fits mixed Tryz.func34 rfl rfl rfl rfl rfl rfl rfl rfl rfl rfl hoB hoB rfl rfl rfl rfl ⟨rfl,rfl,rfl⟩ ?_
     ((repeat' ((conv=>whnf);first|exact .intro|refine .ya ?_|refine .na ?_|refine .ys ?_|refine .ns ?_|refine .neg (fun _=>?_) (fun _=>?_)|refine .mk (fun _=>?_) (fun _=>?_)|refine .inr (X5 (c1.r [3] _) ?_)|refine .inl (.inr (X5 (c1.r [3] _) ?_))|refine .inl (X5 (c1.r [3] _) ?_)|refine .inr (X5 (b1.r [3] _) ?_)|refine .inl (.inr (X5 (b1.r [3] _) ?_))|refine .inl (X5 (b1.r [3] _) ?_)|refine .inl (.inl (X1 (c0) ?_))|refine .inl (X1 (c0) ?_)|refine X1 (c0) ?_|(first|rw[e1]|refine ⟨_,_,_,parse1_none (.mk k0 m0 t0 a0 b0 ks0) 0 (.v .nilIface),?_,?_⟩)|refine .mk ?_ ?_|refine AK ?_|refine AT ?_|fail));all_goals conv=>whnf)
     ((repeat' first|exact rfl|((conv=>whnf);first|done|exact suL|refine And.intro ?_ ?_|fail));all_goals conv=>whnf)
    ·rw[if_neg hjl]
     have h2:((j:Nat):Int)<((s.length:Nat):Int):=by omega
     have c4:=fail_d (gl:=gl) s j 0 j 2
     refine fnP_of_fn (v:=(.tup [(true,ndC n00),(false,[.d (iD (j:Int))]),(false,[.d (erD 2)])])) ?_ (parts_cs _ _ _)
     refine fn_of_vcD (nv:=9999) (cu:=[]) (g:=65) (d0:=11) (caps:=[.tmp 2,.tmp 3,.tmp 4]) fits mixed Tryz.func34 rfl rfl rfl rfl rfl rfl rfl rfl rfl rfl hoB hoB rfl rfl rfl rfl ⟨rfl,rfl,rfl⟩ ?_
     ((repeat' ((conv=>whnf);first|exact .intro|refine .ya ?_|refine .na ?_|refine .ys ?_|refine .ns ?_|refine .neg (fun _=>?_) (fun _=>?_)|refine .mk (fun _=>?_) (fun _=>?_)|refine .inr (X5 (c1.r [3] _) ?_)|refine .inl (.inr (X5 (c1.r [3] _) ?_))|refine .inl (X5 (c1.r [3] _) ?_)|refine .inr (X5 (b1.r [3] _) ?_)|refine .inl (.inr (X5 (b1.r [3] _) ?_))|refine .inl (X5 (b1.r [3] _) ?_)|refine .inr (X5 (c4.r [3] _) ?_)|refine .inl (.inr (X5 (c4.r [3] _) ?_))|refine .inl (X5 (c4.r [3] _) ?_)|refine .inl (.inl (X1 (c0) ?_))|refine .inl (X1 (c0) ?_)|refine X1 (c0) ?_|(first|rw[e1]|refine ⟨_,_,_,parse1_some (.mk k0 m0 t0 a0 b0 ks0) 0 (.v .nilIface) _ _,?_,?_⟩)|refine .mk ?_ ?_|refine AK ?_|refine AT ?_|fail));all_goals conv=>whnf)
     ((repeat' first|exact rfl|((conv=>whnf);first|done|exact suL|refine And.intro ?_ ?_|fail));all_goals conv=>whnf)
  ·rw[if_neg h61]
   have c0:=Constant_d (gl:=gl) s (b:=true) (by simp[h61])
   have c1:=fail_d (gl:=gl) s 0 0 0 2
   refine fnP_of_fn (v:=(.tup [(true,ndC n00),(false,[.d (iD ((0:Nat):Int))]),(false,[.d (erD 2)])])) ?_ (parts_cs _ _ _)
   refine fn_of_vcD (nv:=9999) (cu:=[]) (g:=65) (d0:=11) (caps:=[.tmp 2,.tmp 3,.tmp 4]) fits mixed Tryz.func34 rfl rfl rfl rfl rfl rfl rfl rfl rfl rfl hoB hoB rfl rfl rfl rfl ⟨rfl,rfl,rfl⟩ ?_
   ((repeat' ((conv=>whnf);first|exact .intro|refine .ya ?_|refine .na ?_|refine .ys ?_|refine .ns ?_|refine .neg (fun _=>?_) (fun _=>?_)|refine .mk (fun _=>?_) (fun _=>?_)|refine .inr (X5 (c1.r [3] _) ?_)|refine .inl (.inr (X5 (c1.r [3] _) ?_))|refine .inl (X5 (c1.r [3] _) ?_)|refine .inl (.inl (X1 (c0) ?_))|refine .inl (X1 (c0) ?_)|refine X1 (c0) ?_|(refine ⟨_,_,_,parse1_zero 0 (.v .nilIface) _ _,?_,?_⟩)|refine .mk ?_ ?_|refine AK ?_|refine AT ?_|fail));all_goals conv=>whnf)
   ((repeat' first|exact rfl|((conv=>whnf);first|done|exact suL|refine And.intro ?_ ?_|fail));all_goals conv=>whnf)
end Go.Proofs.YtcdjjjokniinkaaGreatDoor
end
section
namespace Go.Proofs.YtcdjjjokniinkaaGreatDoor
open Go Go.EYtcdjjjokniinkaaGreatDoor
set_option maxRecDepth 100000
set_option maxHeartbeats 4000000
variable {gl:List (Nat×List D)}
theorem Print_k (n:Nd) (h:¬ cntN n≤200):FnP Tryz.prog gl 57 [.agg n.cs] (.tup [.str [],erD 4]):=by
 have c1:=count_d (gl:=gl) n 200 (Nat.le_refl _)
 rw[decide_eq_false h,if_neg h] at c1
 obtain ⟨k,m,t,a,b,ks⟩:=n
 refine fnP_of_vc (nv:=9999) (cu:=[]) fits mixed Tryz.func57 rfl hoB rfl ?_
 ((repeat' ((conv=>whnf);first|exact .intro|refine .ya ?_|refine .na ?_|refine .ys ?_|refine .ns ?_|refine .neg (fun _=>?_) (fun _=>?_)|refine .mk (fun _=>?_) (fun _=>?_)|refine .inr (X5 (c1.r [1] _) ?_)|refine .inl (.inr (X5 (c1.r [1] _) ?_))|refine .inl (X5 (c1.r [1] _) ?_)|refine .mk ?_ ?_|refine AK ?_|refine AT ?_|fail));all_goals conv=>whnf)
 exact LeD.rfl
theorem Print_f (n:Nd) (h:cntN n≤200) (hf:¬ frmN n (false=true)):FnP Tryz.prog gl 57 [.agg n.cs] (.tup [.str [],erD 2]):=by
 have c1:=count_d (gl:=gl) n 200 (Nat.le_refl _)
 rw[decide_eq_true h,if_pos h] at c1
 have c2:=form_d (gl:=gl) n false
 obtain ⟨k,m,t,a,b,ks⟩:=n
 refine fnP_of_vc (nv:=9999) (cu:=[]) fits mixed Tryz.func57 rfl hoB rfl ?_
 ((repeat' ((conv=>whnf);first|exact .intro|refine .ya ?_|refine .na ?_|refine .ys ?_|refine .ns ?_|refine .neg (fun _=>?_) (fun _=>?_)|refine .mk (fun _=>?_) (fun _=>?_)|refine .inr (X5 (c1.r [1] _) ?_)|refine .inl (.inr (X5 (c1.r [1] _) ?_))|refine .inl (X5 (c1.r [1] _) ?_)|refine .inl (.inl (X1 (c2) ?_))|refine .inl (X1 (c2) ?_)|refine X1 (c2) ?_|refine .mk ?_ ?_|refine AK ?_|refine AT ?_|fail));all_goals conv=>whnf)
 exact LeD.rfl
theorem xtra169:Builder.Extra Tryz.prog Tryz.lays169_ren:={ sizeBuilder:=by kernel_rfl,liesBuilder:=by kernel_rfl,t5:=Tryz.underlying5,a5:=Tryz.isAgg5,z5:=Tryz.sizeOf5,v5:=Tryz.zeroValue5,infoByte:=by kernel_rfl,cellsByte:=by kernel_rfl,sizeByte:=by kernel_rfl,neB5:=by decide }
theorem bytes_den {M:Nat→Prop} {w:World}:∀ {l:List UInt8} {xs:List Value},DenL M w (l.map u8D).flatten xs→xs=Lib.byteCells l
 | [],[],_=>rfl
 | [],_::_,h=>h.elim
 | _::_,[],h=>h.elim
 | b::l,x::xs,⟨h1,h2⟩=>by
  rw[h1.v_inv,bytes_den h2]
  rfl
theorem nod12 {M:Nat→Prop} {w:World} {n:Nd} {z:Value} (h:DenD M w (.agg n.cs) z):∃ c:Array Value,z=.agg c∧c.size=12∧c.all (·.oneCell')=true:=by
 obtain ⟨k,m,t,a,b,ks⟩:=n
 obtain ⟨xs,rfl,hx⟩:=h.agg_inv
 match xs,hx with
 | [a0,a1,a2,a3,a4,a5,a6,a7,a8,a9,a10,a11],⟨h0,h1,h2,h3,h4,h5,h6,h7,h8,h9,h10,h11,_⟩ =>
  refine ⟨_,rfl,rfl,?_⟩
  simp only[List.all_toArray,List.all_cons,List.all_nil,h0.one rfl,h1.one rfl,h2.one rfl,h3.one rfl,h4.one rfl,h5.one rfl,h6.one rfl,h7.one rfl,h8.one rfl,h9.one rfl,h10.one rfl,h11.one rfl,Bool.and_self]
theorem den_tup2 {M:Nat→Prop} {w:World} {d1 d2:D} {x1 x2:Value} (h1:DenD M w d1 x1) (h2:DenD M w d2 x2):DenD M w (.tup [d1,d2]) (.tuple #[x1,x2]) :=
 have h:All2 (DenD M w) [d1,d2] [x1,x2]:=⟨h1,h2,trivial⟩
 .tup [d1,d2] [x1,x2] rfl fun j d x=>h.get2 j d x
theorem isB_keep {T e:TypeId} {B b:Nat} {l:List Value} {w w':World} (h:Lib.IsBuilderF T e B b l w) (hk:∀ k,k<w.heap.size→w'.heap[k]?=w.heap[k]?):Lib.IsBuilderF T e B b l w':=by
 have key:∀ {p:Value},Lib.BuilderAtF T e B b p l w→Lib.BuilderAtF T e B b p l w':=by
  rintro p ⟨h1,v,h2,⟨h3,h4⟩,h5⟩
  refine ⟨h1,v,(hk b (Array.getElem?_eq_some_iff.1 h2).1).trans h2,⟨h3,?_⟩,h5⟩
  rcases h4 with h4|⟨g,cap,cur,fz,q1,q2,q3,q4⟩
  ·exact .inl h4
  ·exact .inr ⟨g,cap,cur,fz,q1,q2,(hk g (Array.getElem?_eq_some_iff.1 q3).1).trans q3,q4⟩
 exact h.elim (fun x=>.inl (key x)) fun x=>.inr (key x)
theorem Print_w (te:TypeId) (pe:Value) (hV:Has gl (glV te pe)) (hl:Go.EYtcdjjjokniinkaaGreatDoor.look gl 1=some lvAll) {rf:List UInt8→Option Rf} (hR:RefsOk rf) {mx:Int} (hm:Go.EYtcdjjjokniinkaaGreatDoor.look gl 3=some [iD mx]) (n:Nd) (h:cntN n≤200) (hf:frmN n (false=true)) (ho:okN n) :
 FnP Tryz.prog gl 57 [.agg n.cs] (match parseZ rf (61::wrN n) with|.ok _ _=>.tup [.str (61::wrN n),.v .nilIface]|.no _ _=>.tup [.str [],erD 4]):=by
 have c1:=count_d (gl:=gl) n 200 (Nat.le_refl _)
 rw[decide_eq_true h,if_pos h] at c1
 have c2:=form_d (gl:=gl) n false
 have c3:=WriteByte_d (gl:=gl) (.inl rfl) [] 61 (by decide)
 have c4:=write_d te pe hV hm n hf ho [61] (by simp only[List.length_singleton];omega)
 obtain ⟨k,m,t,a_,b,ks⟩:=n
 obtain ⟨rz,hrz⟩:∃ rz:D,rz=(match parseZ rf (61::wrN (.mk k m t a_ b ks)) with|.ok _ _=>.tup [.str (61::wrN (.mk k m t a_ b ks)),.v .nilIface]|.no _ _=>.tup [.str [],erD 4]):=⟨_,rfl⟩
 rw[← hrz]
 refine fnP_of_pre (nv:=9999) (cu:=[]) (l:=[.code _,.code _,.code _,.code _,.code _,.cut,.code _,.code _]) (T:=fun fr L _=>Go.EYtcdjjjokniinkaaGreatDoor.look fr 5=some (.c (.ptr 2 0))∧Go.EYtcdjjjokniinkaaGreatDoor.look L 2=some (.var [.ptr 2 0,.all 1 3] 139)∧Go.EYtcdjjjokniinkaaGreatDoor.look L 3=some (.rows 1 ((61::wrN (.mk k m t a_ b ks)).map u8D) 5)) fits mixed Tryz.func57 rfl hoB rfl ?_ ?_
 ·intro w M fr L nn adr a w' hM hg0 ⟨h5,hb,hr⟩ hx
  have hnil:a.defers=[]:=hx.defers
  obtain ⟨b0,m0,ha,hv⟩:=hx.fr 5 _ h5
  have hloc2:=hx.wok.loc 2 _ hb
  have hloc3:=hx.wok.loc 3 _ hr
  rw[ha] at hloc2
  obtain ⟨ys,g1,g2⟩:=hloc2
  obtain ⟨y0,y1,rfl,g3,g4⟩:∃ y0 y1,ys=[y0,y1]∧DenC adr (Mut M adr L) w' (.ptr 2 0) y0∧DenC adr (Mut M adr L) w' (.all 1 3) y1:=by
   match ys,g2 with
   | [y0,y1],g2=>exact ⟨y0,y1,rfl,g2.1,g2.2.1⟩
  obtain ⟨b',m',ha',rfl⟩:=g3
  rw[ha] at ha'
  cases ha'
  have hBb:w.heap.size≤b0:=by
   rcases hx.new 2 _ b0 m0 hb ha with h|h
   ·exact h.elim
   ·exact h
  have hB:Lib.IsBuilderF 139 5 w.heap.size b0 (Lib.byteCells (61::wrN (.mk k m t a_ b ks))) w':=by
   rcases g4 with ⟨e1,-⟩|⟨b3,n3,c3_,cur,e3,f3,e1,e2,e4,e5,e6,rfl⟩
   ·rw[e1] at hloc3
    cases hloc3.2.1
   ·rw[e1] at hloc3
    obtain ⟨-,q2,-,cur2,c2_,q4,q5,q6,q7,q8⟩:=hloc3
    have hne:b3≠b0:=by
     rintro rfl
     cases hx.wok.inj 2 3 _ _ _ _ _ hb hr ha e1
    have hBr:w.heap.size≤b3:=by
     rcases hx.new 3 _ b3 n3 hr e1 with h|h
     ·exact h.elim
     ·exact h
    rw[q4] at e2
    cases e2
    have hq:=bytes_den q8
    simp only[List.length_map,Nat.mul_one] at q2 q5 q6 hq
    refine Lib.IsBuilderF.of (.inr ⟨hBb,_,g1,⟨by simp[Lib.byteCells],.inr ⟨b3,_,cur,by rw[← q2];simp[Lib.byteCells],hBr,q4,by simp only[Lib.byteCells,List.length_map];omega,e6,by omega,?_⟩⟩,?_⟩)
    ·simp only[Lib.byteCells,List.length_map,Nat.mul_one]
     exact hq
    ·intro h
     cases h
     exact hne rfl
  have hsz:=hx.base.size
  have hsize:=hx.size
  have hg:=hx.glob
  obtain ⟨⟨tm⟩,df⟩:=a
  simp only at hnil
  subst hnil
  match tm,hsize with
  | [x0,x1,x2,x3,x4,x5,x6,x7,x8,x9,x10,x11,x12,x13,x14,x15,x16,x17,x18,x19,x20,x21,x22,x23,x24,x25,x26,x27,x28,x29],_ =>
   have hv5:x5=.pointer (some ⟨b0,0,none⟩):=hv
   subst hv5
   go_wp2_with (go_at_call 83;refine (Any.Builder_String_any_k Tryz.lays169 xtra169 w.heap.size b0 (61::wrN (.mk k m t a_ b ks)) w' hB hsz).mono ?_;rintro e w1 ⟨rfl,hB1,hb1,ho1⟩)
   have hE1:=hx.base.thenB hb1
   have hM1:∀ b,M b→b<w1.heap.size:=fun b hb=>Nat.lt_of_lt_of_le (hM b hb) hE1.size
   have hg1:Glob gl M w1:=hg0.evo hE1 (fun _ _ h=>h.elim) fun _ _ h=>h
   have hP:=(Parse_d te pe hV hl hR (61::wrN (.mk k m t a_ b ks))).callsE (M:=M) (xs:=[.string ⟨(61::wrN (.mk k m t a_ b ks)).toArray⟩]) hoB hM1 hg1 ⟨.str _,trivial⟩
   refine hP.mono ?_
   rintro e w2 ⟨hE2,x,rfl,hx2⟩
   have hE2':Evo (fun _=>False) w1 w2:=hE2
   cases hp:parseZ rf (61::wrN (.mk k m t a_ b ks)) with
   | no q e =>
    rw[hp] at hx2
    obtain ⟨xs,rfl,hxs⟩:=DenD.tup_inv hx2
    match xs,hxs with
    | [z0,z1,z2],⟨hn,_,hz,_⟩ =>
    cases hz.v_inv
    obtain ⟨c,rfl,hc12,hone⟩:=nod12 hn
    have hst:(storeCells ⟨w2.heap.size,0,none⟩ c.toList 0).run Tryz.prog (w2.alloc (.cells #[.int .i64 0,.int .i64 0,.string ⟨#[]⟩,.int .i64 0,.int .i64 0,.bool false,.bool false,.int .i64 0,.int .i64 0,.bool false,.bool false,.slice none 0 0] 38))=.ok () (w2.alloc (.cells c 38)) :=
     run_storeCells_new w2 38 _ c (by rw[hc12];rfl) (by rw[hc12];rfl) hone
    go_wp2
    rw[hp] at hrz
    subst hrz
    exact ⟨rfl,_,run_results (xs:=[_,_]) rfl,(hE1.trans hE2').trans (Evo.alloc _ _ _),_,rfl,den_tup2 (.str _) (.v _)⟩
   | ok n' q =>
    rw[hp] at hx2
    obtain ⟨xs,rfl,hxs⟩:=DenD.tup_inv hx2
    match xs,hxs with
    | [z0,z1,z2],⟨hn,_,hz,_⟩ =>
    cases hz.v_inv
    obtain ⟨c,rfl,hc12,hone⟩:=nod12 hn
    have hst:(storeCells ⟨w2.heap.size,0,none⟩ c.toList 0).run Tryz.prog (w2.alloc (.cells #[.int .i64 0,.int .i64 0,.string ⟨#[]⟩,.int .i64 0,.int .i64 0,.bool false,.bool false,.int .i64 0,.int .i64 0,.bool false,.bool false,.slice none 0 0] 38))=.ok () (w2.alloc (.cells c 38)) :=
     run_storeCells_new w2 38 _ c (by rw[hc12];rfl) (by rw[hc12];rfl) hone
    have hB2:=isB_keep hB1 (w':=w2.alloc (.cells c 38)) fun k hk=>((Evo.alloc (fun _=>False) w2 (.cells c 38)).block k (Nat.lt_of_lt_of_le hk hE2.size) fun h=>h).trans (hE2.block k hk fun h=>h)
    have hE3:=(hE1.trans hE2').trans (Evo.alloc (fun _=>False) w2 (.cells c 38))
    go_wp2_with (go_at_call 83;refine (Any.Builder_String_any_k Tryz.lays169 xtra169 w.heap.size b0 (61::wrN (.mk k m t a_ b ks)) (w2.alloc (.cells c 38)) hB2 hE3.size).mono ?_;rintro e w4 ⟨rfl,-,hb4,-⟩)
    rw[hp] at hrz
    subst hrz
    exact ⟨rfl,_,run_results (xs:=[_,_]) rfl,hE3.thenB hb4,_,rfl,den_tup2 (.str _) (.v _)⟩
 ·((repeat' ((conv=>whnf);first|exact .intro|refine .ya ?_|refine .na ?_|refine .ys ?_|refine .ns ?_|refine .neg (fun _=>?_) (fun _=>?_)|refine .mk (fun _=>?_) (fun _=>?_)|refine .inr (X5 (c1.r [1] _) ?_)|refine .inl (.inr (X5 (c1.r [1] _) ?_))|refine .inl (X5 (c1.r [1] _) ?_)|refine .inl (.inl (X1 (c2) ?_))|refine .inl (X1 (c2) ?_)|refine X1 (c2) ?_|refine .mk ?_ ?_|refine AK ?_|refine AT ?_|fail));all_goals conv=>whnf)
  refine ⟨[(1,.c (.ptr 0 0)),(5,.c (.ptr 2 0))],[(0,nodB (.mk k m t a_ b ks)),(2,.var [.d (.v (.pointer none)),.all 1 3] 139),(3,bytB [])],4,?_,?_⟩
  ·((repeat' first|exact rfl|((conv=>whnf);first|done|exact suL|refine And.intro ?_ ?_|fail));all_goals conv=>whnf)
   exact ⟨_,_,rfl,by omega,by omega⟩
  ·clear hrz
   ((repeat' ((conv=>whnf);first|exact .intro|refine .ya ?_|refine .na ?_|refine .ys ?_|refine .ns ?_|refine .neg (fun _=>?_) (fun _=>?_)|refine .mk (fun _=>?_) (fun _=>?_)|refine .inr (X5 (c3.r [2,3] _) ?_)|refine .inl (.inr (X5 (c3.r [2,3] _) ?_))|refine .inl (X5 (c3.r [2,3] _) ?_)|refine .inr (X5 (c4.r [2,3] _) ?_)|refine .inl (.inr (X5 (c4.r [2,3] _) ?_))|refine .inl (X5 (c4.r [2,3] _) ?_)|refine .mk ?_ ?_|refine AK ?_|refine AT ?_|fail));all_goals conv=>whnf)
   exact rfl
open Classical in
noncomputable def prZ (rf:List UInt8→Option Rf) (n:Nd):List UInt8×Int :=
 if cntN n≤200 then (if frmN n False then (match parseZ rf (61::wrN n) with|.ok _ _=>(61::wrN n,0)|.no _ _=>([],4)) else ([],2)) else ([],4)
theorem prZ_k {rf:List UInt8→Option Rf} {n:Nd} (h:¬ cntN n≤200):prZ rf n=([],4):=if_neg h
theorem prZ_f {rf:List UInt8→Option Rf} {n:Nd} (h:cntN n≤200) (hf:¬ frmN n False):prZ rf n=([],2):=by
 unfold prZ
 rw[if_pos h,if_neg hf]
theorem prZ_w {rf:List UInt8→Option Rf} {n:Nd} (h:cntN n≤200) (hf:frmN n False):prZ rf n=(match parseZ rf (61::wrN n) with|.ok _ _=>(61::wrN n,0)|.no _ _=>([],4)):=by
 unfold prZ
 rw[if_pos h,if_pos hf]
theorem Print_d (te:TypeId) (pe:Value) (hV:Has gl (glV te pe)) (hl:Go.EYtcdjjjokniinkaaGreatDoor.look gl 1=some lvAll) {rf:List UInt8→Option Rf} (hR:RefsOk rf) {mx:Int} (hm:Go.EYtcdjjjokniinkaaGreatDoor.look gl 3=some [iD mx]) (n:Nd) (ho:okN n) :
 FnP Tryz.prog gl 57 [.agg n.cs] (.tup [.str (prZ rf n).1,errD (prZ rf n).2]):=by
 have e0:(false=true)=False:=by simp
 by_cases h:cntN n≤200
 ·by_cases hf:frmN n False
  ·rw[prZ_w h hf]
   have:=Print_w te pe hV hl hR hm n h (by rw[e0];exact hf) ho
   cases hp:parseZ rf (61::wrN n) with
   | no q e=>rw[hp] at this;exact this
   | ok n' q=>rw[hp] at this;exact this
  ·rw[prZ_f h hf]
   exact Print_f n h (by rw[e0];exact hf)
 ·rw[prZ_k h]
  exact Print_k n h
theorem fCheck_d (te:TypeId) (pe:Value) (hV:Has gl (glV te pe)) (hl:Go.EYtcdjjjokniinkaaGreatDoor.look gl 1=some lvAll) {rf:List UInt8→Option Rf} (hR:RefsOk rf) {mx:Int} (hm:Go.EYtcdjjjokniinkaaGreatDoor.look gl 3=some [iD mx]) (n:Nd) (ho:okN n) :
 FnP Tryz.prog gl 27 [.agg n.cs] (errD (prZ rf n).2):=by
 have c1:=Print_d te pe hV hl hR hm n ho
 generalize prZ rf n=z at c1 ⊢
 obtain ⟨s,e⟩:=z
 obtain ⟨k,m,t,a,b,ks⟩:=n
 by_cases he:e=0
 ·subst he
  change FnP Tryz.prog gl 57 [_] (.tup [.str s,.v .nilIface]) at c1
  refine fnP_of_vc (nv:=9999) (cu:=[]) fits mixed Tryz.func27 rfl hoB rfl ?_
  ((repeat' ((conv=>whnf);first|exact .intro|refine .ya ?_|refine .na ?_|refine .ys ?_|refine .ns ?_|refine .neg (fun _=>?_) (fun _=>?_)|refine .mk (fun _=>?_) (fun _=>?_)|refine .inl (.inl (X1 (c1) ?_))|refine .inl (X1 (c1) ?_)|refine X1 (c1) ?_|refine .mk ?_ ?_|refine AK ?_|refine AT ?_|fail));all_goals conv=>whnf)
  exact LeD.rfl
 ·simp only[errD,if_neg he] at c1 ⊢
  refine fnP_of_vc (nv:=9999) (cu:=[]) fits mixed Tryz.func27 rfl hoB rfl ?_
  ((repeat' ((conv=>whnf);first|exact .intro|refine .ya ?_|refine .na ?_|refine .ys ?_|refine .ns ?_|refine .neg (fun _=>?_) (fun _=>?_)|refine .mk (fun _=>?_) (fun _=>?_)|refine .inl (.inl (X1 (c1) ?_))|refine .inl (X1 (c1) ?_)|refine X1 (c1) ?_|refine .mk ?_ ?_|refine AK ?_|refine AT ?_|fail));all_goals conv=>whnf)
  exact LeD.rfl
end Go.Proofs.YtcdjjjokniinkaaGreatDoor
end
section
namespace Go.Proofs.YtcdjjjokniinkaaGreatDoor
open Go Go.EYtcdjjjokniinkaaGreatDoor
set_option maxRecDepth 100000
set_option maxHeartbeats 4000000
variable {gl:List (Nat×List D)}
theorem prZ_ok {rf:List UInt8→Option Rf} {n:Nd} (h:(prZ rf n).2=0):cntN n≤200∧frmN n False:=by
 by_cases h1:cntN n≤200
 ·by_cases h2:frmN n False
  ·exact ⟨h1,h2⟩
  ·rw[prZ_f h1 h2] at h;cases h
 ·rw[prZ_k h1] at h;cases h
end Go.Proofs.YtcdjjjokniinkaaGreatDoor
end
