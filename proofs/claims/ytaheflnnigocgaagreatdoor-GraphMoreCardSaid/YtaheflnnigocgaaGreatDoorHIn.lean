/- Proved: a part of what the law is proved with (the reckoner, contracts of functions, plain laws). Conditions: as each says. -/
import Derived.Deep.Slices
import Derived.OpenShut
import Derived.Test.YtaheflnnigocgaaGreatDoorHFp
import Derived.Test.YtaheflnnigocgaaGreatDoorHFz
import Derived.Test.YtaheflnnigocgaaGreatDoorHId
section
namespace Go.Proofs.YtaheflnnigocgaaGreatDoor
open Go Go.EYtaheflnnigocgaaGreatDoor
set_option maxRecDepth 100000
variable {gl:List (Nat×List D)}
theorem two_all {s:List UInt8} {d:Nat} {one:Nat→Rs Nd} (hl:Go.EYtaheflnnigocgaaGreatDoor.look gl 0=some lvAll) (hs:s.length≤200) (hf:Fwd s one)
 (hn:∀ i,i≤s.length→Gives1 gl 53 [.c (.ptr 0 0)] s i d (one i)):∀ c,c≤4→∀ i,i≤s.length→Gives1 gl 37 [.c (.ptr 0 0),.c (.d (iD ((4 - c:Nat):Int)))] s i d (Tw s one c i)
 | 0,_,i,hi=>two_4 (hn i hi)
 | c+1,hc,i,hi=>by
  have ih:=two_all hl hs hf hn c (by omega)
  have e:4 - c=(3 - c)+1:=by omega
  have e2:4 - (c+1)=3 - c:=by omega
  rw[e] at ih
  rw[e2]
  refine two_l hl (by omega) hs (Tw_fwd hf c) hi ih ?_
  rw[← e]
  rfl
theorem argsF_skp {p:Par} {s:List UInt8} {tw:Nat→Rs Nd} {f:Nat} {ks:List Nd} {i:Nat} (hf:0<f):argsF p s tw f ks (skp s i)=argsF p s tw f ks i:=by
 obtain ⟨f,rfl⟩:∃ g,f=g+1:=⟨f - 1,by omega⟩
 unfold argsF
 have:argF p s tw (skp s i)=argF p s tw i:=by unfold argF;rw[skp_skp]
 rw[this]
theorem call_d {p:Par} {s w:List UInt8} {k d:Nat} (hk:k<s.length) (hs:s.length≤200) {tw:Nat→Rs Nd} (hf:Fwd s tw)
 (ha:∀ i,i≤s.length→Gives1 gl 117 [.c (.ptr 0 0)] s i d (argF p s tw i)):Gives1 gl 101 [.c (.ptr 0 0),.c (.d (.str w))] s k d (callF p s tw w k):=by
 unfold callF
 by_cases h:s[skp s (k+1)]?=some 41
 ·rw[if_pos h];exact call_none hk hs h
 ·rw[if_neg h]
  exact call_args hk hs h hf ha (argsF_skp (by omega))
theorem neg_all (te:TypeId) (pe:Value) (hV:Has gl (glV te pe)) (hl:Go.EYtaheflnnigocgaaGreatDoor.look gl 0=some lvAll) {rf:List UInt8→Option Rf} (hR:RefsOk rf) {s:List UInt8} (hs:s.length≤200) :
 ∀ (x d:Nat),d+x=30→∀ i,i≤s.length→Gives1 gl 53 [.c (.ptr 0 0)] s i d (oneA (parZ rf) s x i)
 | 0,d,hd,i,hi=>by
  obtain rfl:d=30:=by omega
  exact neg_d te pe hV hR hs (Nat.le_refl _) hi no_fwd (fun h=>absurd h (by omega)) (fun h=>absurd h (by omega)) (fun h=>absurd h (by omega))
 | x+1,d,hd,i,hi=>by
  have ih:=neg_all te pe hV hl hR hs x (d+1) (by omega)
  have h2:=two_all hl hs (oneA_fwd x) ih 4 (Nat.le_refl _)
  have hf:=Tw_fwd (oneA_fwd (p:=parZ rf) (s:=s) x) 4
  have:=neg_d te pe hV hR hs (show d≤30 by omega) hi hf (fun _=>ih) (fun _=>h2) (fun _ w k hk=>call_d hk hs hf fun i hi=>arg_d hR hi hs h2)
  rw[show decide (d=30)=false from decide_eq_false (by omega)] at this
  exact this
theorem two_0 (te:TypeId) (pe:Value) (hV:Has gl (glV te pe)) (hl:Go.EYtaheflnnigocgaaGreatDoor.look gl 0=some lvAll) {rf:List UInt8→Option Rf} (hR:RefsOk rf) {s:List UInt8} (hs:s.length≤200) {i:Nat} (hi:i≤s.length) :
 Gives1 gl 37 [.c (.ptr 0 0),.c (.d (iD 0))] s i 0 (Tw s (oneA (parZ rf) s 30) 4 i) :=
 two_all hl hs (oneA_fwd 30) (neg_all te pe hV hl hR hs 30 0 rfl) 4 (Nat.le_refl _) i hi
end Go.Proofs.YtaheflnnigocgaaGreatDoor
end
section
namespace Go.Proofs.YtaheflnnigocgaaGreatDoor
open Go Go.EYtaheflnnigocgaaGreatDoor
set_option maxRecDepth 100000
set_option maxHeartbeats 2000000
variable {gl:List (Nat×List D)}
abbrev ndB (n:Nd):Blk:=.var (ndC n) 74
abbrev inB (i:Int):Blk:=.var [.d (iD i)] 3
abbrev erB (d:D):Blk:=.var [.d d] 27
abbrev n00:Nd:=.mk 0 0 [] z0 z0 []
theorem parse1_none (n:Nd) (i:Int) (d:D):FnD Tryz.prog gl 35 [.c (.ptr 0 0),.c (.ptr 1 0),.c (.ptr 2 0)] [(0,ndB n),(1,inB i),(2,erB d)] 4 none [(0,ndB n),(1,inB i),(2,erB d)] 4:=by
 obtain ⟨k,m,t,a,b,ks⟩:=n
 refine fnD_of_vc (nv:=9999) (cu:=[]) fits mixed Tryz.func35 rfl rfl rfl rfl rfl rfl rfl rfl rfl rfl rfl rfl rfl ?_
 ((repeat' ((conv=>whnf);first|exact .intro|refine .ya ?_|refine .na ?_|refine .ys ?_|refine .ns ?_|refine .neg (fun _=>?_) (fun _=>?_)|refine .mk (fun _=>?_) (fun _=>?_)|refine .mk ?_ ?_|refine AK ?_|refine AT ?_|fail));all_goals conv=>whnf)
 ((repeat' first|exact rfl|((conv=>whnf);first|done|exact suL|refine And.intro ?_ ?_|fail));all_goals conv=>whnf)
theorem parse1_some (n:Nd) (i:Int) (d:D) (q:Nat) (e:Int):FnD Tryz.prog gl 35 [.c (.ptr 0 0),.c (.ptr 1 0),.c (.ptr 2 0)] [(0,ndB n),(1,inB i),(2,erB d)] 4 (some (.d (fltD q e))) [(0,ndB n00),(1,inB q),(2,erB (erD e))] 4:=by
 obtain ⟨k,m,t,a,b,ks⟩:=n
 refine fnD_of_vc (nv:=9999) (cu:=[]) fits mixed Tryz.func35 rfl rfl rfl rfl rfl rfl rfl rfl rfl rfl rfl rfl rfl ?_
 ((repeat' ((conv=>whnf);first|exact .intro|refine .ya ?_|refine .na ?_|refine .ys ?_|refine .ns ?_|refine .neg (fun _=>?_) (fun _=>?_)|refine .mk (fun _=>?_) (fun _=>?_)|refine .mk ?_ ?_|refine AK ?_|refine AT ?_|fail));all_goals conv=>whnf)
 ((repeat' first|exact rfl|((conv=>whnf);first|done|exact suL|refine And.intro ?_ ?_|fail));all_goals conv=>whnf)
 all_goals first|exact lf0|exact ln0
abbrev zNB:Blk:=.var [.d (iD 0),.d (iD 0),.d (.str []),.d (iD 0),.d (iD 0),.d (.v (.bool false)),.d (.v (.bool false)),.d (iD 0),.d (iD 0),.d (.v (.bool false)),.d (.v (.bool false)),.d (.v (.slice none 0 0))] 74
theorem parse1_zero (i:Int) (d:D) (q:Nat) (e:Int):FnD Tryz.prog gl 35 [.c (.ptr 0 0),.c (.ptr 1 0),.c (.ptr 2 0)] [(0,zNB),(1,inB i),(2,erB d)] 4 (some (.d (fltD q e))) [(0,ndB n00),(1,inB q),(2,erB (erD e))] 4:=by
 refine fnD_of_vc (nv:=9999) (cu:=[]) fits mixed Tryz.func35 rfl rfl rfl rfl rfl rfl rfl rfl rfl rfl rfl rfl rfl ?_
 ((repeat' ((conv=>whnf);first|exact .intro|refine .ya ?_|refine .na ?_|refine .ys ?_|refine .ns ?_|refine .neg (fun _=>?_) (fun _=>?_)|refine .mk (fun _=>?_) (fun _=>?_)|refine .mk ?_ ?_|refine AK ?_|refine AT ?_|fail));all_goals conv=>whnf)
 ((repeat' first|exact rfl|((conv=>whnf);first|done|exact suL|refine And.intro ?_ ?_|fail));all_goals conv=>whnf)
 all_goals first|exact lf0|exact ln0
def partD:Bool×List C→Option D
 | (true,l)=>(dsOf l).map .agg
 | (false,[.d x])=>some x
 | _=>none
def partsD:List (Bool×List C)→Option (List D)
 | []=>some []
 | p::r=>match partD p,partsD r with
  | some d,some l=>some (d::l)
  | _,_=>none
def dOfV:V→Option D
 | .c (.d x)=>some x
 | .agg l=>(dsOf l).map .agg
 | .tup l=>(partsD l).map .tup
 | _=>none
theorem dsOf_den {adr:Env} {M:Nat→Prop} {w:World} {l:List C} {ds:List D} {xs:List Value} (h:dsOf l=some ds) (hd:DenCs adr M w l xs):DenL M w ds xs:=by
 rw[dsOf_ok h] at hd
 exact (All2.map_left (f:=C.d)).1 hd
theorem partD_den {adr:Env} {M:Nat→Prop} {w:World} {p:Bool×List C} {d:D} {x:Value} (h:partD p=some d) (hd:DenT adr M w p x):DenD M w d x:=by
 obtain ⟨b,l⟩:=p
 cases b with
 | true =>
  obtain ⟨ds,h1,rfl⟩:=Option.map_eq_some_iff.1 (show (dsOf l).map .agg=some d from h)
  obtain ⟨xs,rfl,hx⟩:=hd
  exact DenD.agg_mk (dsOf_den h1 hx)
 | false =>
  unfold partD at h
  split at h
  ·rename_i e;cases e
  ·rename_i y e
   cases e
   cases h
   obtain ⟨c,h1,h2⟩:=hd
   cases h1
   exact h2
  ·cases h
theorem partsD_den {adr:Env} {M:Nat→Prop} {w:World}:∀ {l:List (Bool×List C)} {ds:List D} {xs:List Value},partsD l=some ds→All2 (DenT adr M w) l xs→DenL M w ds xs
 | [],ds,[],h,_=>by cases h;trivial
 | p::r,ds,x::xs,h,hd=>by
  unfold partsD at h
  split at h
  ·rename_i d l h1 h2
   cases h
   exact ⟨partD_den h1 hd.1,partsD_den h2 hd.2⟩
  ·cases h
 | [],_,_::_,_,h=>h.elim
 | _::_,_,[],_,h=>h.elim
theorem dOfV_den {adr:Env} {M:Nat→Prop} {w:World} {v:V} {d:D} {x:Value} (h:dOfV v=some d) (hd:DenV adr M w v x):DenD M w d x:=by
 unfold dOfV at h
 split at h
 ·cases h;exact hd
 ·obtain ⟨ds,h1,rfl⟩:=Option.map_eq_some_iff.1 h
  obtain ⟨xs,rfl,hx⟩:=hd
  exact DenD.agg_mk (dsOf_den h1 hx)
 ·obtain ⟨ds,h1,rfl⟩:=Option.map_eq_some_iff.1 h
  obtain ⟨xs,rfl,hx⟩:=hd
  exact DenD.tup_mk (partsD_den h1 hx)
 ·cases h
theorem fnP_of_fn {P:Program} {f:Nat} {ds:List D} {v:V} {r:D} (h:Go.EYtaheflnnigocgaaGreatDoor.Fn P gl f (ds.map vD) [] 0 (.ret v) [] 0 []) (hv:dOfV v=some r):FnP P gl f ds r:=by
 intro w M xs hM hg hd
 have hW:WOk M (fun _=>none) [] 0 w:=⟨fun k B h=>(by cases h),fun _ _=>rfl,fun k B h=>(by cases h),fun k k' B B' b m m' h=>(by cases h),fun k B b m h=>(by cases h),hM⟩
 have hm:Mut M (fun _=>none) ([]:List (Nat×Blk))=M:=funext fun b=>propext ⟨fun h=>h.elim id fun ⟨k,B,n,h,_⟩=>(by cases h),.inl⟩
 have:=h.2.2.2 w M (fun _=>none) xs hW (by rw[hm];exact hg) (by rw[hm];exact all2_vD hd)
 refine this.mono ?_
 rintro e w' ⟨adr',hE,hW',_,_,x,rfl,hx⟩
 have hm':Mut M adr' ([]:List (Nat×Blk))=M:=funext fun b=>propext ⟨fun h=>h.elim id fun ⟨k,B,n,h,_⟩=>(by cases h),.inl⟩
 rw[hm'] at hx
 exact ⟨hE.mono fun k _ ⟨j,B,m,h,_⟩=>(by cases h),x,rfl,dOfV_den hv hx⟩
where
 all2_vD:∀ {ds:List D} {xs:List Value} {M:Nat→Prop} {w:World} {adr:Env},DenL M w ds xs→All2 (DenV adr M w) (ds.map vD) xs
  | [],[],_,_,_,_=>trivial
  | d::ds,x::xs,_,_,_,h=>⟨vD_den h.1,all2_vD h.2⟩
  | [],_::_,_,_,_,h=>h.elim
  | _::_,[],_,_,_,h=>h.elim
theorem FnP.le {P:Program} {f:Nat} {ds:List D} {r r':D} (h:FnP P gl f ds r) (hr:LeD r r'):FnP P gl f ds r':=fun w M xs hM hg hd=>(h w M xs hM hg hd).mono fun _e _w' ⟨hE,x,he,hx⟩=>⟨hE,x,he,hr.1 _ _ _ hx⟩
theorem Constant_d (s:List UInt8) {b:Bool} (hb:b=!decide (s.head?=some 61)):FnP Tryz.prog gl 24 [.str s] (.v (.bool b)):=by
 have c1:=HasPrefix_d (gl:=gl) s [61] (b:=decide (s.head?=some 61)) (by
  cases s with
  | nil=>rfl
  | cons c r=>by_cases h:c=61 <;> simp[h])
 subst hb
 cases hc:decide (s.head?=some 61) with
 | true =>
  rw[hc] at c1
  refine fnP_of_vc (nv:=9999) (cu:=[]) fits mixed Tryz.func24 rfl hoB rfl ?_
  ((repeat' ((conv=>whnf);first|exact .intro|refine .ya ?_|refine .na ?_|refine .ys ?_|refine .ns ?_|refine .neg (fun _=>?_) (fun _=>?_)|refine .mk (fun _=>?_) (fun _=>?_)|refine .inl (.inl (X1 (c1) ?_))|refine .inl (X1 (c1) ?_)|refine X1 (c1) ?_|refine .mk ?_ ?_|refine AK ?_|refine AT ?_|fail));all_goals conv=>whnf)
  exact LeD.rfl
 | false =>
  rw[hc] at c1
  refine fnP_of_vc (nv:=9999) (cu:=[]) fits mixed Tryz.func24 rfl hoB rfl ?_
  ((repeat' ((conv=>whnf);first|exact .intro|refine .ya ?_|refine .na ?_|refine .ys ?_|refine .ns ?_|refine .neg (fun _=>?_) (fun _=>?_)|refine .mk (fun _=>?_) (fun _=>?_)|refine .inl (.inl (X1 (c1) ?_))|refine .inl (X1 (c1) ?_)|refine X1 (c1) ?_|refine .mk ?_ ?_|refine AK ?_|refine AT ?_|fail));all_goals conv=>whnf)
  exact LeD.rfl
end Go.Proofs.YtaheflnnigocgaaGreatDoor
end
section
namespace Go.Proofs.YtaheflnnigocgaaGreatDoor
open Go Go.EYtaheflnnigocgaaGreatDoor
set_option maxRecDepth 100000
set_option maxHeartbeats 4000000
variable {gl:List (Nat×List D)}
def parseZ (rf:List UInt8→Option Rf) (s:List UInt8):Rs Nd :=
 if 200<s.length then .no 0 4 else if s.head?=some 61 then allF (s:=s) (Tw s (oneA (parZ rf) s 30) 4) else .no 0 2
def parseD:Rs Nd→D
 | .ok n _=>.tup [.agg n.cs,iD 0,.v .nilIface]
 | .no a e=>.tup [.agg n00.cs,iD (a:Int),erD e]
theorem dsOf_map:∀ l:List D,dsOf (l.map C.d)=some l
 | []=>rfl
 | x::l=>by
  simp only[List.map_cons,dsOf,dsOf_map l,dOfC]
theorem parts_cs (n:Nd) (x y:D):dOfV (.tup [(true,ndC n),(false,[.d x]),(false,[.d y])])=some (.tup [.agg n.cs,x,y]):=by
 show (match partD (true,ndC n),(some [x,y]:Option (List D)) with|some d,some l=>some (d::l)|_,_=>none).map D.tup=_
 show (match (dsOf (n.cs.map C.d)).map D.agg,(some [x,y]:Option (List D)) with|some d,some l=>some (d::l)|_,_=>none).map D.tup=_
 rw[dsOf_map]
 rfl
theorem n00_le:LeD (.agg [iD 0,iD 0,.str [],iD 0,iD 0,.v (.bool false),.v (.bool false),iD 0,iD 0,.v (.bool false),.v (.bool false),.v (.slice none 0 0)]) (.agg n00.cs):=by
 refine LeD.agg ?_
 repeat' first|exact LeD.rfl|exact LeD.bf (by simp[z0])|exact LeD.nil0|refine LeD.cons ?_ ?_|exact LeD.nil
theorem Parse_d (te:TypeId) (pe:Value) (hV:Has gl (glV te pe)) (hl:Go.EYtaheflnnigocgaaGreatDoor.look gl 0=some lvAll) {rf:List UInt8→Option Rf} (hR:RefsOk rf) (s:List UInt8) :
 FnP Tryz.prog gl 25 [.str s] (parseD (parseZ rf s)):=by
 unfold parseZ
 by_cases h200:200<s.length
 ·rw[if_pos h200]
  have h1:((s.length:Nat):Int)>200:=by omega
  refine FnP.le (r:=.tup [.agg [iD 0,iD 0,.str [],iD 0,iD 0,.v (.bool false),.v (.bool false),iD 0,iD 0,.v (.bool false),.v (.bool false),.v (.slice none 0 0)],iD 0,erD 4]) ?_ (LeD.tup (LeD.cons n00_le (LeD.cons LeD.rfl (LeD.cons LeD.rfl LeD.nil))))
  refine fnP_of_fn (v:=.tup [(true,[.d (iD 0),.d (iD 0),.d (.str []),.d (iD 0),.d (iD 0),.d (.v (.bool false)),.d (.v (.bool false)),.d (iD 0),.d (iD 0),.d (.v (.bool false)),.d (.v (.bool false)),.d (.v (.slice none 0 0))]),(false,[.d (iD 0)]),(false,[.d (erD 4)])]) ?_ rfl
  refine fn_of_vcD (nv:=9999) (cu:=[]) (g:=35) (d0:=11) (caps:=[.tmp 2,.tmp 3,.tmp 4]) fits mixed Tryz.func25 rfl rfl rfl rfl rfl rfl rfl rfl rfl rfl hoB hoB rfl rfl rfl rfl ⟨rfl,rfl,rfl⟩ ?_
  ((repeat' ((conv=>whnf);first|exact .intro|refine .ya ?_|refine .na ?_|refine .ys ?_|refine .ns ?_|refine .neg (fun _=>?_) (fun _=>?_)|refine .mk (fun _=>?_) (fun _=>?_)|refine .mk ?_ ?_|refine AK ?_|refine AT ?_|fail));all_goals conv=>whnf)
  ((repeat' first|exact rfl|((conv=>whnf);first|done|exact suL|refine And.intro ?_ ?_|fail));all_goals conv=>whnf)
 ·rw[if_neg h200]
  have h1:¬ ((s.length:Nat):Int)>200:=by omega
  have hs:s.length≤200:=by omega
  by_cases h61:s.head?=some 61
  ·rw[if_pos h61]
   have c0:=Constant_d (gl:=gl) s (b:=false) (by simp[h61])
   have hl1:1≤s.length:=by
    cases s with
    | nil=>cases h61
    | cons c r=>simp
   have hf:=Tw_fwd (oneA_fwd (p:=parZ rf) (s:=s) 30) 4
   have c1:=two_0 te pe hV hl hR hs hl1
   have e1:IntKind.i64.wrap ((0:Int)+1)=((1:Nat):Int):=by rw[wrapI (by omega)];rfl
   unfold allF
   cases hx:Tw s (oneA (parZ rf) s 30) 4 1 with
   | no a e =>
    rw[hx] at c1
    unfold Gives1 at c1
    refine fnP_of_fn (v:=(.tup [(true,ndC n00),(false,[.d (iD (a:Int))]),(false,[.d (erD e)])])) ?_ (parts_cs _ _ _)
    refine fn_of_vcD (nv:=9999) (cu:=[]) (g:=35) (d0:=11) (caps:=[.tmp 2,.tmp 3,.tmp 4]) fits mixed Tryz.func25 rfl rfl rfl rfl rfl rfl rfl rfl rfl rfl hoB hoB rfl rfl rfl rfl ⟨rfl,rfl,rfl⟩ ?_
    ((repeat' ((conv=>whnf);first|exact .intro|refine .ya ?_|refine .na ?_|refine .ys ?_|refine .ns ?_|refine .neg (fun _=>?_) (fun _=>?_)|refine .mk (fun _=>?_) (fun _=>?_)|refine .inr (X5 (c1.r [3] _) ?_)|refine .inl (.inr (X5 (c1.r [3] _) ?_))|refine .inl (X5 (c1.r [3] _) ?_)|refine .inl (.inl (X1 (c0) ?_))|refine .inl (X1 (c0) ?_)|refine X1 (c0) ?_|(first|rw[e1]|refine ⟨_,_,_,parse1_zero 0 (.v .nilIface) _ _,?_,?_⟩)|refine .mk ?_ ?_|refine AK ?_|refine AT ?_|fail));all_goals conv=>whnf)
    ((repeat' first|exact rfl|((conv=>whnf);first|done|exact suL|refine And.intro ?_ ?_|fail));all_goals conv=>whnf)
   | ok n k =>
    rw[hx] at c1
    unfold Gives1 at c1
    obtain ⟨hk1,hk2⟩:=hf _ _ _ hl1 hx
    have b1:=blanks_d (gl:=gl) s k 0 hk2 hs
    have hj:=skp_le hk2
    simp only[Rs.bind_ok]
    obtain ⟨j,hjj⟩:∃ j,skp s k=j:=⟨_,rfl⟩
    rw[hjj] at b1 hj ⊢
    obtain ⟨k0,m0,t0,a0,b0,ks0⟩:=n
    by_cases hjl:j=s.length
    ·rw[if_pos hjl]
     have h2:¬ ((j:Nat):Int)<((s.length:Nat):Int):=by omega
     refine fnP_of_fn (v:=(.tup [(true,ndC (.mk k0 m0 t0 a0 b0 ks0)),(false,[.d (iD 0)]),(false,[.d (.v .nilIface)])])) ?_ (parts_cs _ _ _)
     refine fn_of_vcD (nv:=9999) (cu:=[]) (g:=35) (d0:=11) (caps:=[.tmp 2,.tmp 3,.tmp 4]) fits mixed Tryz.func25 rfl rfl rfl rfl rfl rfl rfl rfl rfl rfl hoB hoB rfl rfl rfl rfl ⟨rfl,rfl,rfl⟩ ?_
     ((repeat' ((conv=>whnf);first|exact .intro|refine .ya ?_|refine .na ?_|refine .ys ?_|refine .ns ?_|refine .neg (fun _=>?_) (fun _=>?_)|refine .mk (fun _=>?_) (fun _=>?_)|refine .inr (X5 (c1.r [3] _) ?_)|refine .inl (.inr (X5 (c1.r [3] _) ?_))|refine .inl (X5 (c1.r [3] _) ?_)|refine .inr (X5 (b1.r [3] _) ?_)|refine .inl (.inr (X5 (b1.r [3] _) ?_))|refine .inl (X5 (b1.r [3] _) ?_)|refine .inl (.inl (X1 (c0) ?_))|refine .inl (X1 (c0) ?_)|refine X1 (c0) ?_|(first|rw[e1]|refine ⟨_,_,_,parse1_none (.mk k0 m0 t0 a0 b0 ks0) 0 (.v .nilIface),?_,?_⟩)|refine .mk ?_ ?_|refine AK ?_|refine AT ?_|fail));all_goals conv=>whnf)
     ((repeat' first|exact rfl|((conv=>whnf);first|done|exact suL|refine And.intro ?_ ?_|fail));all_goals conv=>whnf)
    ·rw[if_neg hjl]
     have h2:((j:Nat):Int)<((s.length:Nat):Int):=by omega
     have c4:=fail_d (gl:=gl) s j 0 j 2
     refine fnP_of_fn (v:=(.tup [(true,ndC n00),(false,[.d (iD (j:Int))]),(false,[.d (erD 2)])])) ?_ (parts_cs _ _ _)
     refine fn_of_vcD (nv:=9999) (cu:=[]) (g:=35) (d0:=11) (caps:=[.tmp 2,.tmp 3,.tmp 4]) fits mixed Tryz.func25 rfl rfl rfl rfl rfl rfl rfl rfl rfl rfl hoB hoB rfl rfl rfl rfl ⟨rfl,rfl,rfl⟩ ?_
     ((repeat' ((conv=>whnf);first|exact .intro|refine .ya ?_|refine .na ?_|refine .ys ?_|refine .ns ?_|refine .neg (fun _=>?_) (fun _=>?_)|refine .mk (fun _=>?_) (fun _=>?_)|refine .inr (X5 (c1.r [3] _) ?_)|refine .inl (.inr (X5 (c1.r [3] _) ?_))|refine .inl (X5 (c1.r [3] _) ?_)|refine .inr (X5 (b1.r [3] _) ?_)|refine .inl (.inr (X5 (b1.r [3] _) ?_))|refine .inl (X5 (b1.r [3] _) ?_)|refine .inr (X5 (c4.r [3] _) ?_)|refine .inl (.inr (X5 (c4.r [3] _) ?_))|refine .inl (X5 (c4.r [3] _) ?_)|refine .inl (.inl (X1 (c0) ?_))|refine .inl (X1 (c0) ?_)|refine X1 (c0) ?_|(first|rw[e1]|refine ⟨_,_,_,parse1_some (.mk k0 m0 t0 a0 b0 ks0) 0 (.v .nilIface) _ _,?_,?_⟩)|refine .mk ?_ ?_|refine AK ?_|refine AT ?_|fail));all_goals conv=>whnf)
     ((repeat' first|exact rfl|((conv=>whnf);first|done|exact suL|refine And.intro ?_ ?_|fail));all_goals conv=>whnf)
  ·rw[if_neg h61]
   have c0:=Constant_d (gl:=gl) s (b:=true) (by simp[h61])
   have c1:=fail_d (gl:=gl) s 0 0 0 2
   refine fnP_of_fn (v:=(.tup [(true,ndC n00),(false,[.d (iD ((0:Nat):Int))]),(false,[.d (erD 2)])])) ?_ (parts_cs _ _ _)
   refine fn_of_vcD (nv:=9999) (cu:=[]) (g:=35) (d0:=11) (caps:=[.tmp 2,.tmp 3,.tmp 4]) fits mixed Tryz.func25 rfl rfl rfl rfl rfl rfl rfl rfl rfl rfl hoB hoB rfl rfl rfl rfl ⟨rfl,rfl,rfl⟩ ?_
   ((repeat' ((conv=>whnf);first|exact .intro|refine .ya ?_|refine .na ?_|refine .ys ?_|refine .ns ?_|refine .neg (fun _=>?_) (fun _=>?_)|refine .mk (fun _=>?_) (fun _=>?_)|refine .inr (X5 (c1.r [3] _) ?_)|refine .inl (.inr (X5 (c1.r [3] _) ?_))|refine .inl (X5 (c1.r [3] _) ?_)|refine .inl (.inl (X1 (c0) ?_))|refine .inl (X1 (c0) ?_)|refine X1 (c0) ?_|(refine ⟨_,_,_,parse1_zero 0 (.v .nilIface) _ _,?_,?_⟩)|refine .mk ?_ ?_|refine AK ?_|refine AT ?_|fail));all_goals conv=>whnf)
   ((repeat' first|exact rfl|((conv=>whnf);first|done|exact suL|refine And.intro ?_ ?_|fail));all_goals conv=>whnf)
end Go.Proofs.YtaheflnnigocgaaGreatDoor
end
section
namespace Go.Proofs.YtaheflnnigocgaaGreatDoor
open Go.ChangeShapes Go.WideShapes Go.ChangeAt Go.RowKit Go.EYtaheflnnigocgaaGreatDoor
set_option linter.unusedVariables false
set_option maxRecDepth 100000
theorem strs_of_slice {H:Type} {enc:TypeId×Value→H} {P:Program} {w:World} {base:Nat} {sp:Nat→Bool} {held:Bool} {fuel:Nat} {t e:TypeId} {v:Value} {zs:List (List UInt8)} {rest:List (DataW H)} {p:List MemPlace}
 (ht:P.underlying t=some (.slice e)) (he:P.underlying e=some .string) (hc:P.cellsOf e=1) (hz:zs≠[])
 (h:DataW.trod enc P w base sp held fuel t [v]=some (.slice (zs.map fun z=>.lit (.string z)) rest,p)):DenD (fun _=>False) w (.lst 1 (zs.map fun z=>[D.str z])) v:=by
 rcases Go.Deep.open_slice1 ht hc h with ⟨_,h2⟩|⟨a,len,cap,m,n,V,DD,Pl,h1,hb,hl,hm,hmm,hx,hi⟩
 ·cases h2
 ·cases h1
  have hD:(List.range len).map DD=zs.map fun z=>(DataW.lit (.string z):DataW H):=by
   have:=congrArg Prod.fst hx
   simp only[DataW.slice.injEq] at this
   exact this.1.symm
  have hlen:len=zs.length:=by
   have:=congrArg List.length hD
   simpa using this
  have hle:len≤m:=by rw[hmm];split <;> omega
  have hV:∀ i (hi':i<zs.length),w.cell? (a.add i)=some (V i)∧V i=.string ⟨(zs[i]).toArray⟩:=fun i hi'=>by
   obtain ⟨h1,h2⟩:=hi i (by omega)
   obtain ⟨s,h3,h4,_⟩:=DataW.trod_string he h2
   refine ⟨h1,?_⟩
   have h5:V i=.string s:=by simpa using h3
   have h6:DD i=.lit (.string s.data.toList):=(Prod.mk.inj h4).1
   have h7:=congrArg (·[i]?) hD
   simp only[List.getElem?_map,List.getElem?_range (show i<len by omega),Option.map_some,List.getElem?_eq_getElem hi',h6,Option.some.injEq,DataW.lit.injEq,Lit.string.injEq] at h7
   rw[h5,← h7]
  obtain ⟨ab,ao,asp⟩:=a
  have h0:0<zs.length:=List.length_pos_iff.2 hz
  have hsp:asp=none:=by
   have:=(hV 0 h0).1
   unfold World.cell? at this
   cases asp with
   | none=>rfl
   | some q =>
    have e:(⟨ab,ao,some q⟩:Addr).add 0=⟨ab,ao,some q⟩:=by simp[Addr.add]
    rw[e] at this
    revert this
    simp only[]
    split <;> simp
  subst hsp
  have hbl:ab<w.heap.size:=by
   have:=World.block_lt_of_cell? w _ (hV 0 h0).1
   rw[addr_add] at this
   exact this
  have hlm:len=(zs.map fun z=>[D.str z]).length:=by simpa using hlen
  rw[hlm]
  refine DenD.lst 1 _ ab ao cap (fun i _=>V i) hbl (fun h=>h) (by rw[← hlm];exact hl) hm (fun e he=>?_) (fun i j d hg=>?_) (fun i j d hg=>?_)
  ·obtain ⟨z,_,rfl⟩:=List.mem_map.1 he;rfl
  ·unfold get2 at hg
   rw[List.getElem?_map] at hg
   cases hq:zs[i]? with
   | none=>rw[hq] at hg;cases hg
   | some z =>
    have hi':=(List.getElem?_eq_some_iff.1 hq).1
    rw[hq] at hg
    have hj:j=0:=by
     cases j with
     | zero=>rfl
     | succ j=>simp at hg
    subst hj
    have:=(hV i hi').1
    rw[addr_add] at this
    simpa using this
  ·unfold get2 at hg
   rw[List.getElem?_map] at hg
   cases hq:zs[i]? with
   | none=>rw[hq] at hg;cases hg
   | some z =>
    obtain ⟨hi',hz'⟩:=List.getElem?_eq_some_iff.1 hq
    rw[hq] at hg
    have hj:j=0:=by
     cases j with
     | zero=>rfl
     | succ j=>simp at hg
    subst hj
    have hd:d=.str z:=by simpa using hg.symm
    rw[hd,(hV i hi').2,hz']
    exact .str z
theorem var_loose {w:World} (h1:Lib.VarReads Tryz.prog w "sccsettle/formula.loose" Rows.laid_sccsettle_formula_loose):Holds1 w 0 lvAll:=by
 obtain ⟨g,t,cs,fuel,p,hg,ht,hv,hd⟩:=h1
 have e:(some g:Option Nat)=some 0:=hg.symm.trans (show Tryz.prog.globalNamed "sccsettle/formula.loose" = some 0 by kernel_rfl)
 cases e
 have e:(some t:Option Nat)=some 113:=ht.symm.trans (by kernel_rfl)
 cases e
 obtain ⟨xs,m,_,hx,hcl,hxl,hi⟩:=DataW.trod_array (n:=4) (e:=112) Tryz.underlying113 hd
 have hc1:Tryz.prog.cellsOf 112=1:=by kernel_rfl
 rw[show Tryz.prog.cellsOf 113=4 by kernel_rfl] at hcl
 simp only[hc1,Nat.mul_one] at hi
 have b1:=var_cells hg hv
 obtain ⟨csl⟩:=cs
 match csl,hcl with
 | [v0,v1,v2,v3],_ =>
  match xs,hxl with
  | [x0,x1,x2,x3],_ =>
   have hq:[x0.1,x1.1,x2.1,x3.1]=[DataW.slice [.lit (.string [60,62]),.lit (.string [60,61]),.lit (.string [62,61]),.lit (.string [61]),.lit (.string [60]),.lit (.string [62])] [],.slice [.lit (.string [38])] [],.slice [.lit (.string [43]),.lit (.string [45])] [],.slice [.lit (.string [42]),.lit (.string [47])] []]:=by
    have:=(Prod.mk.inj hx).1
    simpa[Rows.laid_sccsettle_formula_loose] using this.symm
   obtain ⟨q0,q0p⟩:=x0
   obtain ⟨q1,q1p⟩:=x1
   obtain ⟨q2,q2p⟩:=x2
   obtain ⟨q3,q3p⟩:=x3
   simp only[List.cons.injEq,and_true] at hq
   obtain ⟨rfl,rfl,rfl,rfl⟩:=hq
   have i0:=hi 0 (by decide)
   have i1:=hi 1 (by decide)
   have i2:=hi 2 (by decide)
   have i3:=hi 3 (by decide)
   have d0:=strs_of_slice (zs:=[[60,62],[60,61],[62,61],[61],[60],[62]]) Tryz.underlying112 Tryz.underlying9 (by kernel_rfl) (by simp) i0
   have d1:=strs_of_slice (zs:=[[38]]) Tryz.underlying112 Tryz.underlying9 (by kernel_rfl) (by simp) i1
   have d2:=strs_of_slice (zs:=[[43],[45]]) Tryz.underlying112 Tryz.underlying9 (by kernel_rfl) (by simp) i2
   have d3:=strs_of_slice (zs:=[[42],[47]]) Tryz.underlying112 Tryz.underlying9 (by kernel_rfl) (by simp) i3
   exact ⟨[v0,v1,v2,v3],b1,d0,d1,d2,d3,trivial⟩
end Go.Proofs.YtaheflnnigocgaaGreatDoor
end
