/- Proved: a part of what the law is proved with (the reckoner, contracts of functions, plain laws). Conditions: as each says. -/
import Derived.Deep.Slices
import Derived.SizedLaws
import Derived.Handed
import Derived.Test.YtfcmhmglpcimiaaGreatDoorKEp
section
namespace Go.EYtfcmhmglpcimiaaGreatDoor
open Go Go.RowKit
theorem renN_inj {ρ:List Nat} {h n:Nat} (hl:ρ.length=h) (hlt:∀ k ∈ ρ,k<n) (hnd:ρ.Nodup):∀ a b,renN ρ h n a=renN ρ h n b→a=b:=by
 have lo:∀ a,a<h→∃ x,ρ[a]?=some x∧renN ρ h n a=x∧x<n:=fun a ha=>by
  have h1:ρ[a]?=some ρ[a]:=List.getElem?_eq_getElem (by omega)
  refine ⟨ρ[a],h1,?_,hlt _ (List.getElem_mem _)⟩
  unfold renN
  rw[show Nat.blt a h=true by simp[Nat.blt,Nat.ble_eq];omega]
  simp only[nth_eq,h1,Option.getD_some]
 have hi:∀ a,h≤a→renN ρ h n a=n+(a - h):=fun a ha=>by
  unfold renN
  rw[show Nat.blt a h=false by
   cases hb:Nat.blt a h with
   | false=>rfl
   | true=>have:=blt_lt hb;omega]
 intro a b hab
 rcases Nat.lt_or_ge a h with ha|ha <;> rcases Nat.lt_or_ge b h with hb|hb
 ·obtain ⟨x,h1,h2,_⟩:=lo a ha
  obtain ⟨y,h3,h4,_⟩:=lo b hb
  rw[h2,h4] at hab
  subst hab
  exact (List.getElem?_inj (by omega) hnd).1 (h1.trans h3.symm)
 ·obtain ⟨x,_,h2,h3⟩:=lo a ha
  rw[h2,hi b hb] at hab;omega
 ·obtain ⟨x,_,h2,h3⟩:=lo b hb
  rw[h2,hi a ha] at hab;omega
 ·rw[hi a ha,hi b hb] at hab;omega
theorem renN_lt {ρ:List Nat} {h n:Nat} (hl:ρ.length=h) (hlt:∀ k ∈ ρ,k<n) (k m:Nat):renN ρ h n k<n+m↔k<h+m:=by
 rcases Nat.lt_or_ge k h with hk|hk
 ·have h1:ρ[k]?=some ρ[k]:=List.getElem?_eq_getElem (by omega)
  have:renN ρ h n k=ρ[k]:=by
   unfold renN
   rw[show Nat.blt k h=true by simp[Nat.blt,Nat.ble_eq];omega]
   simp only[nth_eq,h1,Option.getD_some]
  rw[this]
  have:=hlt ρ[k] (List.getElem_mem _)
  omega
 ·have:renN ρ h n k=n+(k - h):=by
   unfold renN
   rw[show Nat.blt k h=false by
    cases hb:Nat.blt k h with
    | false=>rfl
    | true=>have:=blt_lt hb;omega]
  rw[this];omega
theorem Fn.ren {P:Program} {gl:List (Nat×List D)} {g:Nat} {vs:List V} {H:List (Nat×Blk)} {h:Nat} {r:Ret} {H':List (Nat×Blk)} {n':Nat} {mv:List Nat} (hF:Fn P gl g vs H h r H' n' mv) (ρ:List Nat) (n:Nat)
 (hl:ρ.length=h) (hlt:∀ k ∈ ρ,k<n) (hnd:ρ.Nodup):Fn P gl g (vs.map (renV (renN ρ h n))) (renL (renN ρ h n) H) n (renR (renN ρ h n) r) (renL (renN ρ h n) H') (n+(n' - h)) (mv.map (renN ρ h n)):=by
 have hf:=renN_inj hl hlt hnd
 have hb:∀ k m,renN ρ h n k<n+m↔k<h+m:=renN_lt hl hlt
 have hb0:∀ k,renN ρ h n k<n↔k<h:=fun k=>by have:=hb k 0;simpa using this
 generalize renN ρ h n=f at hf hb hb0
 obtain ⟨hn,hk,hm,hF⟩:=hF
 have hbn:∀ k,f k<n+(n' - h)↔k<n':=fun k=>by rw[hb];omega
 refine ⟨by omega,fun j B hj hjn=>?_,fun j hj=>?_,fun w M0 adr xs hW hG hD=>?_⟩
 ·obtain ⟨k,B0,rfl,h3,_⟩:=look_ren2 hf hj
  rw[look_ren hf,Option.isSome_map]
  exact hk k B0 h3 ((hb0 k).1 hjn)
 ·obtain ⟨k,h1,rfl⟩:=List.mem_map.1 hj
  rw[look_ren hf,Option.isSome_map]
  exact hm k h1
 ·have hW0:WOk M0 (fun k=>adr (f k)) H h w:=(wok_ren hf (fun k _ _=>hb0 k) hW.fresh (fun k hk=>hW.fresh _ (by have:=(hb0 k);omega))).1 hW
  rw[mut_ren hf] at hG hD
  refine (hF w M0 _ xs hW0 hG ((renVs_den vs xs).1 hD)).mono ?_
  rintro e w' ⟨adr0,hE,hW',ha,hnew,hret⟩
  let adr':Env:=fun j=>if hj:∃ k,k<n'∧f k=j then adr0 (Classical.choose hj) else if j<n then adr j else none
  have hcomp:(fun k=>adr' (f k))=adr0:=by
   funext k
   show (if hj:∃ k',k'<n'∧f k'=f k then adr0 (Classical.choose hj) else if f k<n then adr (f k) else none)=adr0 k
   by_cases hk':k<n'
   ·have hex:∃ k',k'<n'∧f k'=f k:=⟨k,hk',rfl⟩
    rw[dif_pos hex]
    have:=hf _ _ (Classical.choose_spec hex).2
    rw[this]
   ·rw[dif_neg (fun ⟨k',h1,h2⟩=>hk' (hf _ _ h2 ▸ h1)),if_neg (by have:=hb0 k;omega)]
    exact (hW'.fresh k (by omega)).symm
  have hold:∀ j,j<n→j ∉ mv.map f→adr' j=adr j:=fun j hj hjm=>by
   show (if hj:∃ k',k'<n'∧f k'=j then adr0 (Classical.choose hj) else if j<n then adr j else none)=adr j
   by_cases hex:∃ k',k'<n'∧f k'=j
   ·rw[dif_pos hex]
    obtain ⟨h1,h2⟩:=Classical.choose_spec hex
    have h3:Classical.choose hex<h:=(hb0 _).1 (by rw[h2];exact hj)
    have h4:Classical.choose hex ∉ mv:=fun hmm=>hjm (List.mem_map.2 ⟨_,hmm,h2⟩)
    have:=ha _ h3 h4
    rw[this,h2]
   ·rw[dif_neg hex,if_pos hj]
  have hfresh:∀ j,n+(n' - h)≤j→adr' j=none:=fun j hj=>by
   show (if hj:∃ k',k'<n'∧f k'=j then adr0 (Classical.choose hj) else if j<n then adr j else none)=none
   rw[dif_neg (fun ⟨k',h1,h2⟩=>by have:=(hbn k').2 h1;omega),if_neg (by omega)]
  refine ⟨adr',by rw[trk_ren hf];exact hE,(wok_ren hf (fun k _ _=>hbn k) hfresh (fun k hk'=>?_)).2 (by rw[hcomp];exact hW'),hold,fun j B b m hj hab=>?_,?_⟩
  ·have:adr' (f k)=adr0 k:=congrFun hcomp k
   rw[this];exact hW'.fresh k hk'
  ·obtain ⟨k,B0,rfl,h3,_⟩:=look_ren2 hf hj
   have:adr' (f k)=adr0 k:=congrFun hcomp k
   rw[this] at hab
   rw[trk_ren hf]
   exact hnew k B0 b m h3 hab
  ·rw[mut_ren hf,hcomp]
   cases r with
   | ret v =>
    obtain ⟨x,h1,h2⟩:=hret
    exact ⟨x,h1,by rw[renV_den,hcomp];exact h2⟩
   | panic c =>
    obtain ⟨x,h1,h2⟩:=hret
    exact ⟨x,h1,by rw[renC_den,hcomp];exact h2⟩
def partV:V→Option (Bool×List C)
 | .agg l=>some (true,l)
 | .c c=>some (false,[c])
 | .tup _=>none
def partsV:List V→Option (List (Bool×List C))
 | []=>some []
 | s::r=>match partV s,partsV r with
  | some p,some l=>some (p::l)
  | _,_=>none
def retV:List V→Option V
 | [s]=>some s
 | l=>(partsV l).map V.tup
def endS (fx:List Nat) (n:Nat) (s:V) (L:List (Nat×Blk)) (n':Nat) (v:V) (H':List (Nat×Blk)):Prop:=match ownsV v with
 | []=>(match ownsV s with
  | []=>sub3 fx n [(0,s)] L n' [(0,v)] H'
  | ks=>frzAll ks [(0,s)] L fun fr' L'=>sub3 fx n fr' L' n' [(0,v)] H')
 | _=>sub3 fx n [(0,s)] L n' [(0,v)] H'
def endR (fx:List Nat) (rs:List ResultVar) (tt:List (Nat×TI)) (r:Ret) (H':List (Nat×Blk)) (n':Nat) (fr:List (Nat×V)) (L:List (Nat×Blk)) (n:Nat):Prop :=
 vcRes tt L fr rs fun l=>match r with
  | .ret v=>onS (retV l) fun s=>endS fx n s L n' v H'
  | .panic _=>False
def endF (fx:List Nat) (rs:List ResultVar) (tt:List (Nat×TI)) (r:Ret) (H':List (Nat×Blk)) (n':Nat):XK:=fun x fr L n=>match x with
 | .normal=>endR fx rs tt r H' n' fr L n
 | .ret=>endR fx rs tt r H' n' fr L n
 | .panic c=>match r with
  | .panic c'=>sub3 fx n [(0,.c c)] L n' [(0,.c c')] H'
  | .ret _=>False
 | _=>False
def keysIn (h:Nat) (H:List (Nat×Blk)):List (Nat×Blk)→Bool
 | []=>true
 | (k,_)::r=>match Nat.blt k h with
  | true=>(match look H k with|some _=>keysIn h H r|none=>false)
  | false=>keysIn h H r
def allIn (H:List (Nat×Blk)):List Nat→Bool
 | []=>true
 | k::r=>match look H k with
  | some _=>allIn H r
  | none=>false
def fxOf (mv:List Nat):Nat→List Nat
 | 0=>[]
 | h+1=>match notIn h mv with
  | true=>h::fxOf mv h
  | false=>fxOf mv h
theorem fxOf_mem {mv:List Nat}:∀ {h k:Nat},k<h→k ∉ mv→k ∈ fxOf mv h
 | h+1,k,hk,hm=>by
  simp only[fxOf]
  by_cases e:k=h
  ·subst e
   split
   ·simp
   ·rename_i hn
    exfalso
    have:∀ {l:List Nat},k ∉ l→notIn k l=true:=fun {l}=>by
     induction l with
     | nil=>intro _;rfl
     | cons j r ih =>
      intro h
      simp only[notIn]
      rw[show Nat.beq j k=false by
       cases hb:Nat.beq j k with
       | false=>rfl
       | true=>exact absurd (by rw[Nat.eq_of_beq_eq_true hb];simp) h]
      exact ih (fun h'=>h (by simp[h']))
    rw[this hm] at hn;cases hn
  ·have:=fxOf_mem (h:=h) (by omega) hm
   split
   ·simp[this]
   ·exact this
theorem fxOf_lt {mv:List Nat}:∀ {h k:Nat},k ∈ fxOf mv h→k<h
 | 0,k,hk=>by simp[fxOf] at hk
 | h+1,k,hk=>by
  simp only[fxOf] at hk
  split at hk
  ·rcases List.mem_cons.1 hk with rfl|h1
   ·omega
   ·have:=fxOf_lt h1;omega
  ·have:=fxOf_lt hk;omega
theorem keysIn_ok {h:Nat} {H:List (Nat×Blk)}:∀ {L:List (Nat×Blk)},keysIn h H L=true→∀ k B,look L k=some B→k<h→(look H k).isSome=true
 | [],_,k,B,hk,_=>by cases hk
 | (j,B')::r,hh,k,B,hk,hlt=>by
  simp only[keysIn] at hh
  rw[look_cons] at hk
  by_cases e:j=k
  ·subst e
   rw[show Nat.blt j h=true by simp[Nat.blt,Nat.ble_eq];omega] at hh
   simp only at hh
   split at hh
   ·rename_i h1;rw[h1];rfl
   ·cases hh
  ·rw[if_neg e] at hk
   split at hh
   ·split at hh
    ·exact keysIn_ok hh k B hk hlt
    ·cases hh
   ·exact keysIn_ok hh k B hk hlt
theorem allIn_ok {H:List (Nat×Blk)}:∀ {ks:List Nat},allIn H ks=true→∀ k ∈ ks,(look H k).isSome=true
 | [],_,k,hk=>by simp at hk
 | j::r,h,k,hk=>by
  simp only[allIn] at h
  split at h
  ·rename_i h1
   rcases List.mem_cons.1 hk with rfl|h2
   ·rw[h1];rfl
   ·exact allIn_ok h k h2
  ·cases h
section
variable {P:Program} {gl:List (Nat×List D)} {tt:List (Nat×TI)} {nv:Nat} {cu:List Nat}
theorem partsV_den {adr:Env} {M:Nat→Prop} {w:World}:∀ {l:List V} {ps:List (Bool×List C)} {xs:List Value},partsV l=some ps→All2 (DenV adr M w) l xs→All2 (DenT adr M w) ps xs
 | [],ps,xs,h,hd=>by
  simp only[partsV,Option.some.injEq] at h;subst h
  cases xs with
  | nil=>trivial
  | cons _ _=>exact hd.elim
 | s::r,ps,xs,h,hd=>by
  cases xs with
  | nil=>exact hd.elim
  | cons x xs =>
   simp only[partsV] at h
   split at h
   ·rename_i p l hp hl
    cases h
    refine ⟨?_,partsV_den hl hd.2⟩
    have h1:=hd.1
    cases s with
    | c c=>simp only[partV,Option.some.injEq] at hp;subst hp;exact ⟨c,rfl,h1⟩
    | agg l=>simp only[partV,Option.some.injEq] at hp;subst hp;exact h1
    | tup l=>cases hp
   ·cases h
theorem retV_den {adr:Env} {M:Nat→Prop} {w:World} {l:List V} {s:V} {xs:List Value} (h:retV l=some s) (hd:All2 (DenV adr M w) l xs):DenV adr M w s (retVal xs):=by
 match l,xs,hd,h with
 | [],[],_,h=>simp only[retV,partsV,Option.map_some,Option.some.injEq] at h;subst h;exact ⟨[],rfl,trivial⟩
 | [s'],[x],hd,h=>simp only[retV,Option.some.injEq] at h;subst h;exact hd.1
 | a::b::r,x::y::xs,hd,h =>
  simp only[retV] at h
  obtain ⟨ps,h1,rfl⟩:=Option.map_eq_some_iff.1 h
  exact ⟨_,rfl,partsV_den h1 hd⟩
 | [],_::_,h,_=>exact h.elim
 | [_],[],h,_=>exact h.elim
 | [_],_::_::_,h,_=>exact h.2.elim
 | _::_::_,[],h,_=>exact h.elim
 | _::_::_,[_],h,_=>exact h.2.elim
theorem fn_of_ok (hT:Fits P tt) (_hm:P.follows .mixedOrders=true) {f:FuncId} {fn:Func} {c:Code} {vs:List V} {H:List (Nat×Blk)} {h:Nat} {r:Ret} {H':List (Nat×Blk)} {n':Nat} {mv:List Nat} (hf:P.funcs[f]?=some fn) (hb:fn.body=some c) (hB:HasBody P f) (hN:Nat.ble vs.length fn.ntmps=true)
 (hh:Nat.ble h n'=true) (hk:keysIn h H H'=true) (hmv:allIn H mv=true) (hv:∀ (M0 S0:Nat→Prop) (w0:Base) (adr:Env) (Q:Exit→Act→World→Prop) (a:Act) (w:World),w0.fx=fxOf mv h→Ok gl M0 S0 w0 fn.ntmps adr (argFr 0 vs) H h a w→QX true gl M0 S0 w0 fn.ntmps (endF (fxOf mv h) fn.results.toList tt r H' n') Q→c.wp P Q a w):Fn P gl f vs H h r H' n' mv:=by
 refine ⟨Nat.le_of_ble_eq_true hh,keysIn_ok hk,allIn_ok hmv,fun w M0 adr xs hW hg hd=>.inl ⟨hB,?_⟩⟩
 have hN':=Nat.le_of_ble_eq_true hN
 have hlen:=All2.length hd
 let w0:Base:=⟨w,adr,fxOf mv h,[]⟩
 have out:∀ {s v:V} {L:List (Nat×Blk)} {n:Nat} {adr1:Env} {fr:List (Nat×V)} {a:Act} {w':World} {x:Value},Ok gl M0 (Trk adr H) w0 fn.ntmps adr1 fr L n a w'→DenV adr1 (Mut M0 adr1 L) w' s x→sub3 (fxOf mv h) n [(0,s)] L n' [(0,v)] H'→
  ∃ adr':Env,Evo (Trk adr H) w w'∧WOk M0 adr' H' n' w'∧(∀ k,k<h→k ∉ mv→adr' k=adr k)∧(∀ k B b m,look H' k=some B→adr' k=some (some b,m)→Trk adr H b∨w.heap.size≤b)∧DenV adr' (Mut M0 adr' H') w' v x:=by
  intro s v L n adr1 fr a w' x hx hs h3
  have hx1:Ok gl M0 (Trk adr H) w0 1 adr1 [(0,s)] L n ⟨#[x],[]⟩ w':=⟨rfl,rfl,(fun t s' hl=>by
   rw[look_cons] at hl
   split at hl
   ·rename_i ht;cases hl;subst ht;exact hs
   ·cases hl),hx.wok,hx.glob,hx.base,hx.new,hx.same⟩
  have hx2:=sub3_ok hx1 h3
  refine ⟨_,hx2.base,hx2.wok,fun k hk1 hk2=>(hx2.same k (fxOf_mem hk1 hk2)).2,hx2.new,?_⟩
  exact hx2.fr 0 v rfl
 have outS:∀ {s v:V} {L:List (Nat×Blk)} {n:Nat} {adr1:Env} {fr:List (Nat×V)} {a:Act} {w':World} {x:Value},Ok gl M0 (Trk adr H) w0 fn.ntmps adr1 fr L n a w'→DenV adr1 (Mut M0 adr1 L) w' s x→endS (fxOf mv h) n s L n' v H'→
  ∃ adr':Env,Evo (Trk adr H) w w'∧WOk M0 adr' H' n' w'∧(∀ k,k<h→k ∉ mv→adr' k=adr k)∧(∀ k B b m,look H' k=some B→adr' k=some (some b,m)→Trk adr H b∨w.heap.size≤b)∧DenV adr' (Mut M0 adr' H') w' v x:=by
  intro s v L n adr1 fr a w' x hx hs h3
  have hx1:Ok gl M0 (Trk adr H) w0 1 adr1 [(0,s)] L n ⟨#[x],[]⟩ w':=⟨rfl,rfl,(fun t s' hl=>by
   rw[look_cons] at hl
   split at hl
   ·rename_i ht;cases hl;subst ht;exact hs
   ·cases hl),hx.wok,hx.glob,hx.base,hx.new,hx.same⟩
  obtain ⟨fr',L',h3,hx1⟩:∃ fr' L',sub3 (fxOf mv h) n fr' L' n' [(0,v)] H'∧Ok gl M0 (Trk adr H) w0 1 adr1 fr' L' n ⟨#[x],[]⟩ w':=by
   unfold endS at h3
   split at h3
   ·split at h3
    ·exact ⟨_,_,h3,hx1⟩
    ·exact frzAll_ok h3 hx1
   ·exact ⟨_,_,h3,hx1⟩
  have hx2:=sub3_ok hx1 h3
  refine ⟨_,hx2.base,hx2.wok,fun k hk1 hk2=>(hx2.same k (fxOf_mem hk1 hk2)).2,hx2.new,?_⟩
  exact hx2.fr 0 v rfl
 have fin:∀ {fr L n adr1 a w'},endR (fxOf mv h) fn.results.toList tt r H' n' fr L n→Ok gl M0 (Trk adr H) w0 fn.ntmps adr1 fr L n a w'→
  a.defers=[]∧∃ v,(results fn a.tmps).run P w'=.ok v w'∧∃ adr':Env,Evo (Trk adr H) w w'∧WOk M0 adr' H' n' w'∧(∀ k,k<h→k ∉ mv→adr' k=adr k)∧(∀ k B b m,look H' k=some B→adr' k=some (some b,m)→Trk adr H b∨w.heap.size≤b)∧RetOk adr' (Mut M0 adr' H') w' r (.returned v):=by
  intro fr L n adr1 a w' hr hx
  obtain ⟨l,ys,hK,h1,h2⟩:=vcRes_ok hT hx hr
  refine ⟨hx.defers,_,run_results h1,?_⟩
  cases r with
  | panic c=>exact hK.elim
  | ret v =>
   obtain ⟨s,hs,h3⟩:=onS_ok hK
   obtain ⟨adr',e1,e2,e3,e4,e5⟩:=outS hx (retV_den hs h2) h3
   exact ⟨adr',e1,e2,e3,e4,_,rfl,e5⟩
 refine calls_of_wp hf hb (hv M0 (Trk adr H) w0 adr _ _ w rfl ⟨?_,rfl,fun t s hl=>?_,hW,hg,Evo.refl _ _,fun k B b m hk ha=>.inl ⟨k,B,m,hk,ha⟩,fun k hk=>⟨fxOf_lt hk,rfl⟩⟩ ⟨?_,?_,?_,?_,?_,?_⟩)
 ·simp;omega
 ·obtain ⟨_,h2⟩:=look_argFr hl
  simp only[Nat.sub_zero] at h2
  obtain ⟨x,hx1,hx2⟩:=All2.get hd h2
  have hlt:t<xs.length:=(List.getElem?_eq_some_iff.1 hx1).1
  rw[Array.getD_eq_getD_getElem?,Array.getElem?_append_left (by simpa using hlt)]
  simp only[List.getElem?_toArray,hx1,Option.getD_some]
  exact hx2
 ·intro fr L n adr1 a w' hk hx;exact fin hk hx
 ·intro id fr L n adr1 a w' hk hx;exact hk.elim
 ·intro id fr L n adr1 a w' hk hx;exact hk.elim
 ·intro fr L n adr1 a w' hk hx;exact fin hk hx
 ·intro c fr L n adr1 x a w' hk hx hd'
  refine ⟨hx.defers,?_⟩
  cases r with
  | ret v=>exact hk.elim
  | panic c' =>
   obtain ⟨adr',e1,e2,e3,e4,e5⟩:=out (s:=.c c) (v:=.c c') hx hd' hk
   exact ⟨adr',e1,e2,e3,e4,x,rfl,e5⟩
 ·intro _ c a d v w h;cases d <;> exact h
theorem fn_of_vc (hT:Fits P tt) (hm:P.follows .mixedOrders=true) {f:FuncId} {fn:Func} {c:Code} {vs:List V} {H:List (Nat×Blk)} {h:Nat} {r:Ret} {H':List (Nat×Blk)} {n':Nat} {mv:List Nat} (hf:P.funcs[f]?=some fn) (hb:fn.body=some c) (hB:HasBody P f) (hN:Nat.ble vs.length fn.ntmps=true)
 (hh:Nat.ble h n'=true) (hk:keysIn h H H'=true) (hmv:allIn H mv=true) (hv:vcCode P gl tt (fxOf mv h) fn.ntmps nv cu c (argFr 0 vs) H h (endF (fxOf mv h) fn.results.toList tt r H' n')):Fn P gl f vs H h r H' n' mv :=
 fn_of_ok hT hm hf hb hB hN hh hk hmv fun M0 S0 w0 adr Q a w hfx hx hQ=>vcCode_ok hT hm c _ _ _ adr _ Q a w (by rw[hfx];exact hv) hx (hQ.sub fun _=>rfl)
end
theorem Fn.r {P:Program} {gl:List (Nat×List D)} {g:Nat} {vs:List V} {H:List (Nat×Blk)} {h:Nat} {r:Ret} {H':List (Nat×Blk)} {n':Nat} {mv:List Nat} (hF:Fn P gl g vs H h r H' n' mv) (ρ:List Nat) (n:Nat)
 (hl:ρ.length=h:=by rfl) (hlt:∀ k ∈ ρ,k<n:=by decide) (hnd:ρ.Nodup:=by decide):Fn P gl g (vs.map (renV (renN ρ h n))) (renL (renN ρ h n) H) n (renR (renN ρ h n) r) (renL (renN ρ h n) H') (n+(n' - h)) (mv.map (renN ρ h n)):=hF.ren ρ n hl hlt hnd
theorem Fork.ya {p A B:Prop} (a:A) (h:p:=by assumption):Fork p A B:=.yes h a
theorem Fork.na {p A B:Prop} (b:B) (h:¬ p:=by first|assumption|exact fun hn=>hn (by assumption)):Fork p A B:=.no h b
theorem Fork.ys {p A B:Prop} (a:A) (h:p:=by first|(simp[andPD];done)|fail):Fork p A B:=.yes h a
theorem Fork.ns {p A B:Prop} (b:B) (h:¬ p:=by first|(simp[andPD];done)|fail):Fork p A B:=.no h b
theorem AK {p q:Prop} (k:q) (h:p:=by first|(kernel_rfl;done)|fail):p∧q:=⟨h,k⟩
theorem AT {p q:Prop} (k:q) (h:p:=by first|assumption|omega|(simp;done)|fail):p∧q:=⟨h,k⟩
theorem X5 {A B C D E:Type} {p q r:A→B→C→D→E→Prop} {a:A} {b:B} {c:C} {d:D} {e:E} (h:p a b c d e) (k:r a b c d e) (s:q a b c d e:=by first|((repeat' first|exact rfl|((conv=>whnf);first|done|exact True.intro|refine And.intro ?_ ?_|fail));done)|fail):∃ a b c d e,p a b c d e∧q a b c d e∧r a b c d e:=⟨a,b,c,d,e,h,s,k⟩
theorem X1 {A:Type} {p q:A→Prop} {a:A} (h:p a) (k:q a):∃ a,p a∧q a:=⟨a,h,k⟩
structure Bi (A B:Prop):Prop where
 a:A
 b:B
structure Red (p q:Prop):Prop where
 f:q→p
theorem Red.a {p A B:Prop} (h:p:=by assumption):Red (Fork p A B) A:=⟨.yes h⟩
theorem Red.b {p A B:Prop} (h:¬ p:=by first|assumption|exact fun hn=>hn (by assumption)):Red (Fork p A B) B:=⟨.no h⟩
theorem Red.c {p A B:Prop} (h:p:=by first|(simp [andPD];done)|fail):Red (Fork p A B) A:=⟨.yes h⟩
theorem Red.d {p A B:Prop} (h:¬ p:=by first|(simp [andPD];done)|fail):Red (Fork p A B) B:=⟨.no h⟩
theorem Red.e {p A B:Prop}:Red (Fork (¬ p) A B) (Bi (¬ p→A) (p→B)):=⟨fun k=>.neg k.a k.b⟩
theorem Red.m {p A B:Prop}:Red (Fork p A B) (Bi (p→A) (¬ p→B)):=⟨fun k=>.mk k.a k.b⟩
theorem Red.k {p q:Prop} (h:p:=by first|(kernel_rfl;done)|fail):Red (p∧q) q:=⟨fun k=>⟨h,k⟩⟩
theorem Red.t {p q:Prop} (h:p:=by first|assumption|omega|(simp;done)|fail):Red (p∧q) q:=⟨fun k=>⟨h,k⟩⟩
theorem G {p q:Prop} (k:q) (h:Red p q:=by first|exact .a|exact .b|exact .c|exact .d|exact .e|exact .m):p:=h.f k
theorem H {p q:Prop} (k:q) (h:Red p q:=by first|exact .k|exact .t):p:=h.f k
theorem AO {p q:Prop} (k:q) (h:p:=by first|omega|(simp;done)|fail):p∧q:=⟨h,k⟩
structure Rd (g F q:Prop):Prop where
 f:F→q→g
theorem Rd.a {A:Type} {p q:A→Prop} {r s:Prop} {a:A}:Rd (((∃ a,p a∧q a)∨r)∨s) (p a) (q a):=⟨fun h k=>.inl (.inl ⟨a,h,k⟩)⟩
theorem Rd.b {A:Type} {p q:A→Prop} {r:Prop} {a:A}:Rd ((∃ a,p a∧q a)∨r) (p a) (q a):=⟨fun h k=>.inl ⟨a,h,k⟩⟩
theorem Rd.c {A:Type} {p q:A→Prop} {a:A}:Rd (∃ a,p a∧q a) (p a) (q a):=⟨fun h k=>⟨a,h,k⟩⟩
theorem Rd.d {A:Type} {p q:A→Prop} {r:Prop} {a:A}:Rd (r∨∃ a,p a∧q a) (p a) (q a):=⟨fun h k=>.inr ⟨a,h,k⟩⟩
theorem C1 {F g q:Prop} (h:F) (k:q) (hh:Rd g F q:=by first|exact .a|exact .b|exact .c):g:=hh.f h k
theorem C2 {F g q:Prop} (h:F) (k:q) (hh:Rd g F q:=by exact .d):g:=hh.f h k
theorem Rd.i {A B C D E:Type} {p q r:A→B→C→D→E→Prop} {a:A} {b:B} {c:C} {d:D} {e:E} {w:Prop} (s:q a b c d e:=by first|((repeat' first|exact rfl|((conv=>whnf);first|done|exact True.intro|refine And.intro ?_ ?_|fail));done)|fail):Rd (w∨∃ a b c d e,p a b c d e∧q a b c d e∧r a b c d e) (p a b c d e) (r a b c d e):=⟨fun h k=>.inr ⟨a,b,c,d,e,h,s,k⟩⟩
theorem Rd.j {A B C D E:Type} {p q r:A→B→C→D→E→Prop} {a:A} {b:B} {c:C} {d:D} {e:E} {w v:Prop} (s:q a b c d e:=by first|((repeat' first|exact rfl|((conv=>whnf);first|done|exact True.intro|refine And.intro ?_ ?_|fail));done)|fail):Rd ((w∨∃ a b c d e,p a b c d e∧q a b c d e∧r a b c d e)∨v) (p a b c d e) (r a b c d e):=⟨fun h k=>.inl (.inr ⟨a,b,c,d,e,h,s,k⟩)⟩
theorem Rd.l {A B C D E:Type} {p q r:A→B→C→D→E→Prop} {a:A} {b:B} {c:C} {d:D} {e:E} {v:Prop} (s:q a b c d e:=by first|((repeat' first|exact rfl|((conv=>whnf);first|done|exact True.intro|refine And.intro ?_ ?_|fail));done)|fail):Rd ((∃ a b c d e,p a b c d e∧q a b c d e∧r a b c d e)∨v) (p a b c d e) (r a b c d e):=⟨fun h k=>.inl ⟨a,b,c,d,e,h,s,k⟩⟩
theorem C5 {P:Program} {gl:List (Nat×List D)} {g:Nat} {vs:List V} {H:List (Nat×Blk)} {h:Nat} {r:Ret} {H':List (Nat×Blk)} {n':Nat} {mv:List Nat} {G q:Prop} {n:Nat} (hF:Fn P gl g vs H h r H' n' mv) (ρ:List Nat) (k:q)
 (hh:Rd G (Fn P gl g (vs.map (renV (renN ρ h n))) (renL (renN ρ h n) H) n (renR (renN ρ h n) r) (renL (renN ρ h n) H') (n + (n' - h)) (mv.map (renN ρ h n))) q:=by first|exact .i|exact .j|exact .l)
 (hl:ρ.length=h:=by rfl) (hlt:∀ k∈ρ,k<n:=by decide) (hnd:ρ.Nodup:=by decide):G:=hh.f (hF.ren ρ n hl hlt hnd) k
theorem suL {p:Prop} (h:p:=by first|exact .intro|exact .inr (.inl rfl)|exact .inl rfl|exact .inr (.inr (.inl ⟨rfl,_,_,rfl,by omega⟩))|fail):p:=h
theorem hoB {P:Program} {g:Nat} (h:HasBody P g:=by unfold HasBody;kernel_rfl):HasBody P g:=h
end Go.EYtfcmhmglpcimiaaGreatDoor
end
section
namespace Go.EYtfcmhmglpcimiaaGreatDoor
open Go Go.ChangeShapes Go.WideShapes
def Sh (P:Program) (B:Nat):Nat→TypeId→List D→Prop
 | 0,_,_=>False
 | n+1,t,ds=>match P.underlying t with
  | some (.int k)=>∃ m,ds=[.v (.int k m)]∧(Lit.int k m).wf=true
  | some .bool=>∃ b,ds=[.v (.bool b)]
  | some .string=>∃ s,ds=[.str s]∧s.length≤B
  | some (.slice e)=>∃ rows,ds=[.lst (P.cellsOf e) rows]∧rows.length≤maxLen∧rows.length * P.bytesOf e≤B∧∀ r ∈ rows,Sh P B n e r
  | some (.struct fs)=>∃ dss:List (List D),ds=dss.flatten∧All2 (fun f d=>Sh P B n (Field.type f) d) fs.toList dss
  | _=>False
def packs (P:Program) (z:Nat):List Field→Nat→Bool
 | [],o=>o==z
 | f::r,o=>f.offset==o && packs P z r (o+P.cellsOf f.type)
def plainTs (P:Program) (ts:List TypeId):Bool:=ts.all fun t=>match P.underlying t with
 | some (.int _)=>true
 | some .bool=>true
 | some .string=>true
 | some (.slice e)=>ts.contains e && decide (0<P.cellsOf e)
 | some (.struct fs)=>packs P (P.cellsOf t) fs.toList 0 && fs.toList.all fun f=>ts.contains f.type
 | _=>false
section
variable {H:Type} {enc:TypeId×Value→H} {P:Program} {w:World} {base:Nat} {sp:Nat→Bool} {hd:Bool}
theorem weightsAll_mem {e:TypeId} {d:DataW H} {m:Nat} (hm:m ∈ d.weights P e):∀ {l:List (DataW H)},d ∈ l→m ∈ DataW.weightsAll P e l
 | x::l,h=>by
  simp only[DataW.weightsAll,List.mem_append]
  rcases List.mem_cons.1 h with rfl|h
  ·exact .inl hm
  ·exact .inr (weightsAll_mem hm h)
theorem sh_fields {B n:Nat} {ts:List TypeId} {cs:List Value} {z:Nat} (hz:cs.length=z)
 (ih:∀ (t:TypeId) (cs:List Value) (x:DataW H×List MemPlace),DataW.trod enc P w base sp hd n t cs=some x→t ∈ ts→(∀ m ∈ x.1.weights P t,m≤B)→∃ ds,DenL (fun _=>False) w ds cs∧Sh P B n t ds) :
 ∀ (l:List Field) (o:Nat) (xs:List (DataW H×List MemPlace)),packs P z l o=true→(∀ f ∈ l,f.type ∈ ts)→xs.length=l.length→
  (∀ (i:Nat) (f:Field),l[i]?=some f→DataW.trod enc P w base sp hd n f.type ((cs.drop f.offset).take (P.cellsOf f.type))=xs[i]?)→
  (∀ (i:Nat) (f:Field) x,l[i]?=some f→xs[i]?=some x→∀ m ∈ x.1.weights P f.type,m≤B)→
  ∃ dss:List (List D),DenL (fun _=>False) w dss.flatten (cs.drop o)∧All2 (fun f d=>Sh P B n (Field.type f) d) l dss
 | [],o,xs,hp,_,_,_,_=>by
  have:o=z:=by simpa[packs] using hp
  exact ⟨[],by rw[List.drop_eq_nil_of_le (by omega)];trivial,trivial⟩
 | f::l,o,x::xs,hp,ht,hl,hf,hw=>by
  simp only[packs,Bool.and_eq_true,beq_iff_eq] at hp
  obtain ⟨ho,hp⟩:=hp
  have h0:=hf 0 f rfl
  rw[List.getElem?_cons_zero,ho] at h0
  obtain ⟨d,h1,h2⟩:=ih _ _ _ h0 (ht f (List.mem_cons_self ..)) (hw 0 f x rfl rfl)
  obtain ⟨dss,h3,h4⟩:=sh_fields hz ih l (o+P.cellsOf f.type) xs hp (fun g hg=>ht g (List.mem_cons_of_mem _ hg)) (by simpa using hl) (fun i g hg=>by simpa using hf (i+1) g (by simpa using hg)) (fun i g y hg hy=>hw (i+1) g y (by simpa using hg) (by simpa using hy))
  refine ⟨d::dss,?_,h2,h4⟩
  rw[List.flatten_cons]
  have:=All2.app h1 h3
  rwa [← List.drop_drop,List.take_append_drop] at this
 | f::l,o,[],_,_,hl,_,_=>by simp at hl
theorem sh_open {B:Nat} {ts:List TypeId} (hts:plainTs P ts=true):∀ (n:Nat) (t:TypeId) (cs:List Value) (x:DataW H×List MemPlace),DataW.trod enc P w base sp hd n t cs=some x→t ∈ ts→(∀ m ∈ x.1.weights P t,m≤B)→
 ∃ ds,DenL (fun _=>False) w ds cs∧Sh P B n t ds:=by
 intro n
 induction n with
 | zero=>intro t cs x h;simp[DataW.trod] at h
 | succ n ih =>
  intro t cs x h ht hw
  have hp:=List.all_eq_true.1 hts t ht
  split at hp
  ·rename_i k hu
   obtain ⟨m,rfl,rfl,hm⟩:=DataW.trod_int hu h
   exact ⟨[.v (.int k m)],⟨.v _,trivial⟩,by unfold Sh;rw[hu];exact ⟨m,rfl,hm⟩⟩
  ·rename_i hu
   obtain ⟨b,rfl,rfl⟩:=DataW.trod_bool hu h
   exact ⟨[.v (.bool b)],⟨.v _,trivial⟩,by unfold Sh;rw[hu];exact ⟨b,rfl⟩⟩
  ·rename_i hu
   obtain ⟨s,rfl,rfl,hs⟩:=DataW.trod_string hu h
   refine ⟨[.str s.data.toList],⟨by have:=DenD.str (M:=fun _=>False) (w:=w) s.data.toList;simpa using this,trivial⟩,by unfold Sh;rw[hu];exact ⟨_,rfl,hw _ (by simp[DataW.weights])⟩⟩
  ·rename_i e hu
   simp only[Bool.and_eq_true,decide_eq_true_eq,List.contains_iff_mem] at hp
   obtain ⟨he,hz⟩:=hp
   rcases DataW.trod_slice hu h with ⟨rfl,rfl⟩|⟨a,len,cap,elems,rest,k,hk,rfl,rfl,hb,hl,hc,hel,hx,_,_⟩
   ·exact ⟨[.lst (P.cellsOf e) []],⟨.lst0 _ _ _ (Nat.zero_le _),trivial⟩,by unfold Sh;rw[hu];exact ⟨[],rfl,Nat.zero_le _,by simp,fun r hr=>by cases hr⟩⟩
   ·obtain rfl:n=k:=by omega
    have hw1:∀ y ∈ elems,∀ j ∈ y.1.weights P e,j≤B:=fun y hy j hj=>hw j (by
     simp only[DataW.weights,hu,List.mem_cons,List.mem_append]
     exact .inr (.inl (weightsAll_mem hj (List.mem_map.2 ⟨y,hy,rfl⟩))))
    have hwB:len * P.bytesOf e≤B:=by
     have:=hw _ (by simp only[DataW.weights,hu];exact List.mem_cons_self ..)
     refine Nat.le_trans (Nat.mul_le_mul_right _ ?_) this
     simp[hel]
    obtain ⟨R,hR⟩:=Deep.choose_lt (α:=List D×List Value) (n:=len) (p:=fun i r=>w.cells? base (a.add (i * P.cellsOf e)) (P.cellsOf e)=some r.2∧DenL (fun _=>False) w r.1 r.2∧Sh P B n e r.1) (fun i hi=>by
     have hi':i<elems.length:=by omega
     have h0:=hx i hi
     rw[List.getElem?_eq_getElem hi'] at h0
     obtain ⟨cs',h1,h2⟩:=Option.bind_eq_some_iff.1 h0
     obtain ⟨ds,h3,h4⟩:=ih e cs' _ h2 he (hw1 _ (List.getElem_mem hi'))
     exact ⟨(ds,cs'),h1,h3,h4⟩)
    refine ⟨[.lst (P.cellsOf e) ((List.range len).map fun i=>(R i).1)],⟨?_,trivial⟩,?_⟩
    ·by_cases h0:len=0
     ·subst h0;exact .lst0 _ _ _ hc
     ·have hc0:=(World.cells?_some (hR 0 (by omega)).1)
      have hlen:∀ i,i<len→(R i).2.length=P.cellsOf e:=fun i hi=>(World.cells?_some (hR i hi).1).2.1
      have hlen':∀ i,i<len→(R i).1.length=P.cellsOf e:=fun i hi=>(All2.length (hR i hi).2.1).trans (hlen i hi)
      have hcell:∀ i,i<len→∀ j,j<P.cellsOf e→w.cell? ((a.add (i * P.cellsOf e)).add j)=(R i).2[j]?:=fun i hi j hj=>(World.cells?_some (hR i hi).1).2.2 j hj
      obtain ⟨b,o,spot⟩:=a
      have h00:=hcell 0 (by omega) 0 hz
      rw[List.getElem?_eq_getElem (by rw[hlen 0 (by omega)];exact hz)] at h00
      have hspot:spot=none:=by simpa[Addr.add] using World.cell?_spot h00
      subst hspot
      have hbl:b<w.heap.size:=by
       have:=World.block_lt_of_cell? w _ h00
       simpa[Addr.add] using this
      have hll:len=((List.range len).map fun i=>(R i).1).length:=by simp
      rw[show (Value.slice (some ⟨b,o,none⟩) len cap)=Value.slice (some ⟨b,o,none⟩) ((List.range len).map fun i=>(R i).1).length cap by rw[← hll]]
      have hget:∀ i j d,get2 ((List.range len).map fun i=>(R i).1) i j=some d→i<len∧(R i).1[j]?=some d:=fun i j d hg=>by
       unfold get2 at hg
       obtain ⟨r,hr,hd⟩:=Option.bind_eq_some_iff.1 hg
       obtain ⟨hi,hr'⟩:=List.getElem?_eq_some_iff.1 hr
       have hi':i<len:=by simpa using hi
       refine ⟨hi',?_⟩
       rw[← hd,← hr']
       simp
      refine .lst _ _ b o cap (fun i j=>(R i).2.getD j default) hbl (fun h=>h) (by simpa using hl) hc (fun r hr=>?_) (fun i j d hg=>?_) (fun i j d hg=>?_)
      ·obtain ⟨i,hi,rfl⟩:=List.mem_map.1 hr
       exact hlen' i (List.mem_range.1 hi)
      ·obtain ⟨hi,hd⟩:=hget i j d hg
       have hj:j<P.cellsOf e:=by rw[← hlen' i hi];exact (List.getElem?_eq_some_iff.1 hd).1
       have:=hcell i hi j hj
       rw[List.getElem?_eq_getElem (by rw[hlen i hi];exact hj)] at this
       rw[show (⟨b,o+i * P.cellsOf e+j,none⟩:Addr)=((⟨b,o,none⟩:Addr).add (i * P.cellsOf e)).add j by rw[addr_add,addr_add],this]
       simp[List.getD,List.getElem?_eq_getElem (show j<(R i).2.length by rw[hlen i hi];exact hj)]
      ·obtain ⟨hi,hd⟩:=hget i j d hg
       have hj:j<(R i).2.length:=by rw[hlen i hi,← hlen' i hi];exact (List.getElem?_eq_some_iff.1 hd).1
       obtain ⟨v,hv,hdv⟩:=All2.get (hR i hi).2.1 hd
       rw[show (R i).2.getD j default=v by simp[List.getD,hv]]
       exact hdv
    ·unfold Sh;rw[hu]
     refine ⟨_,rfl,by simpa using Nat.le_trans hl hc,by simpa using hwB,fun r hr=>?_⟩
     obtain ⟨i,hi,rfl⟩:=List.mem_map.1 hr
     exact (hR i (List.mem_range.1 hi)).2.2
  ·rename_i fs hu
   simp only[Bool.and_eq_true,List.all_eq_true,List.contains_iff_mem] at hp
   obtain ⟨xs,k,hk,rfl,hcl,hxl,hf⟩:=DataW.trod_struct hu h
   obtain rfl:n=k:=by omega
   obtain ⟨dss,h1,h2⟩:=sh_fields (ts:=ts) hcl ih fs.toList 0 xs hp.1 hp.2 (by simpa using hxl) (fun i f hi=>hf i f (by simpa using hi)) (fun i f y hi hy m hm=>hw m (by
    simp only[DataW.weights,hu]
    exact DataW.weights_mem_each (j:=i) (t:=f.type) (by simp[hi]) (by simp[hy]) m hm))
   exact ⟨dss.flatten,by simpa using h1,by unfold Sh;rw[hu];exact ⟨dss,rfl,h2⟩⟩
  ·cases hp
end
end Go.EYtfcmhmglpcimiaaGreatDoor
namespace Go
theorem wrapYtfcmhmglpcimiaaGreatDoor {H:Type} {enc:TypeId×Value→H} {a:Assume} {C:Checked} {os:Os} {f:FuncId} {fn:Func} {s:ChangeSpec} {conds:List PathCond} {apart fresh handsOn again:Bool} {X:World→Array Value→Prop}
 (hX:∀ (w w':World) (args:Array Value),w.heap=w'.heap→X w args→X w' args)
 (own:ownKnob C.prog.godebug=none) (started:os.Started) (noInit:C.prog.inits.idxOf? f=none) (hfn:C.prog.funcs[f]?=some fn)
 (witness:∃ (w:World) (tape:Tape) (i:Input),w.os=os∧(w.forCall tape i).Shaped C.prog∧i.vars=[]∧Input.okWide C.prog (w.forCall tape i) .any w.heap.size f i∧
  ((s.pre enc C.prog fn conds apart (w.forCall tape i).memory i.args∧X (w.forCall tape i).memory i.args)∧sizedMet enc C.prog fn (OpenSpec.ofChange s) apart (w.forCall tape i).memory i.args)∧a.holds C.prog (lone (Frame.enter C.prog f i.args .normal) [] (w.forCall tape i)))
 (contract:∀ (W:World) (base:Nat) (args:Array Value) (ds gs:List (DataW H)) (before:List MemPlace),
  (∀ (j:Nat) t v,fn.params[j]?=some t→args[j]?=some v→Value.okWide C.prog W .any base t v)→
  DataW.Whole enc C.prog fn.params.toList s.vars apart W args.toList ds gs before→
  conds.all (PathCond.test C.prog ⟨fn.params.toList,ds,s.plain.varTypes C.prog,gs⟩)=true→
  (DataW.weightsEach C.prog (fn.params.toList++s.plain.varTypes C.prog) (ds++gs)).all (·≤reachBytes)=true→X W args→W.ShapedOpen C.prog→
  Calls C.prog f args W fun e W'=>∃ v,e=.returned v∧s.post enc C.prog fn apart fresh handsOn again W args v W') :
 ReturnsInHanded a C os f .any (fun w args=>(s.pre enc C.prog fn conds apart w args∧X w args)∧sizedMet enc C.prog fn (OpenSpec.ofChange s) apart w args) (s.post enc C.prog fn apart fresh handsOn again):=by
 refine returnsInHanded_of_calls own started noInit witness ?_
 intro w tape i _ hsh _ hok hpre hholds
 obtain ⟨_,_,_,fn',hfn',_,_,_,_,hval⟩:=hok
 have e:fn'=fn:=Option.some.inj (hfn'.symm.trans hfn)
 subst e
 obtain ⟨⟨⟨ds,gs,before,hw,hc⟩,hx⟩,hz⟩:=hpre
 have hw':=DataW.Whole.of_heap (w':=w.forCall tape i) (by rfl) hw
 refine (contract (w.forCall tape i) w.heap.size i.args ds gs before hval hw' hc (hz.weights hw) (hX _ _ _ (by rfl) hx) hsh).mono fun e W' ⟨v,he,hp⟩=>?_
 subst he
 exact ChangeSpec.post_blind hp
end Go
end
