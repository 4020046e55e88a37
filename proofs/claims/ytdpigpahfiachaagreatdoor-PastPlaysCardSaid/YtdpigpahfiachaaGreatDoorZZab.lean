/- Proved: a part of what the law is proved with (the reckoner, contracts of functions, plain laws). Conditions: as each says. -/
import Derived.Test.YtdpigpahfiachaaGreatDoorZEs
import Derived.Test.YtdpigpahfiachaaGreatDoorZZyv
import Derived.Test.YtdpigpahfiachaaGreatDoorZZyw
section
namespace Go.EYtdpigpahfiachaaGreatDoor
open Go Go.RowKit
section
variable {P:Program} {gl:List (Nat×List D)} {tt:List (Nat×TI)} {M0 S0:Nat→Prop} {w0:Base} {N:Nat} {nv:Nat} {cu:List Nat}
theorem FnP.callsE {g:Nat} {ds:List D} {r:D} {xs:List Value} {w:World} {M:Nat→Prop} (h:FnP P gl g ds r) (hb:HasBody P g) (hM:∀ b,M b→b<w.heap.size) (hg:Glob gl M w) (hd:DenL M w ds xs) :
 Calls P g xs.toArray w fun e w'=>Evo (fun _=>False) w w'∧∃ x,e=.returned x∧DenD M w' r x:=by
 rcases h w M xs hM hg hd with ⟨_,h1⟩|⟨v,w',h1,h2⟩
 ·exact h1
 ·rw[hb.enters] at h1;cases h1
end
end Go.EYtdpigpahfiachaaGreatDoor
end
section
namespace Go.Proofs.YtdpigpahfiachaaGreatDoor
open Go Go.RowKit Go.EYtdpigpahfiachaaGreatDoor
set_option maxRecDepth 100000
set_option maxHeartbeats 4000000
variable {gl:List (Nat×List D)}
theorem shR_flat:∀ ss:List (List Fl),(ss.map shR).flatten=ss.map fun l=>D.lst 3 (l.map flD)
 | []=>rfl
 | l::ss=>congrArg (List.cons (D.lst 3 (l.map flD))) (shR_flat ss)
theorem shR_1 {ss:List (List Fl)}:∀ r ∈ ss.map shR,r.length=1:=fun r hr=>by
 obtain ⟨l,_,rfl⟩:=List.mem_map.1 hr
 rfl
theorem push_end {M0:Nat→Prop} {adr:Env} {w w':World} {b gb G k m:Nat} {ss:List (List Fl)} {l:List Fl} {x:Value} {xs:List Value} {cur2:Array Value} (hk:k<ss.length) (hW:WOk M0 adr (pkB k ss) 2 w) (ha:adr 0=some (some b,m)) (hE0:Evo (fun x=>x=b) w w') (hgb:w.heap.size≤gb)
 (hg:w'.heap[gb]?=some (Obj.cells cur2 38 (0,0))) (hG1:k+2≤G) (hG2:G≤maxLen) (hs:cur2.size=G) (ht:cur2.toList.take (k+2)=xs.take (k+1)++[x])
 (hb:w'.heap[b]?=some (Obj.cells #[.slice (some ⟨gb,0,none⟩) (k+2) G,.int .i64 ((k+1:Nat):Int)] 108 (0,0))) (hd:DenL (Mut M0 adr (pkB k ss)) w (ss.map shR).flatten xs) (hx:DenD (Mut M0 adr (pkB k ss)) w (.lst 3 (l.map flD)) x) :
 ∃ adr':Env,Evo (Trk adr (pkB k ss)) w w'∧WOk M0 adr' (pkB (k+1) (ss.take (k+1)++[l])) 2 w'∧(∀ k,k<2→k ∉ [1]→adr' k=adr k)∧
  (∀ j B b m,Go.EYtdpigpahfiachaaGreatDoor.look (pkB (k+1) (ss.take (k+1)++[l])) j=some B→adr' j=some (some b,m)→Trk adr (pkB k ss) b∨w.heap.size≤b)∧
  RetOk adr' (Mut M0 adr' (pkB (k+1) (ss.take (k+1)++[l]))) w' (.ret (.tup [])) (.returned (.tuple #[])):=by
 have hE:Evo (Trk adr (pkB k ss)) w w':=hE0.mono fun x _ hx=>by subst hx;exact ⟨0,_,m,rfl,ha⟩
 have hbl:b<w.heap.size:=hW.lt (k:=0) rfl ha
 have hM:∀ x,x<w.heap.size→Mut M0 (fun j=>if j=1 then some (some gb,k+2) else adr j) (pkB (k+1) (ss.take (k+1)++[l])) x→Mut M0 adr (pkB k ss) x:=by
  rintro x hx (h|⟨j,B,m',h1,h2⟩)
  ·exact .inl h
  ·match j,h1 with
   | 0,_=>exact .inr ⟨0,_,m',rfl,h2⟩
   | 1,_ =>
    cases h2
    omega
 have hS:∀ x,x<w.heap.size→Trk adr (pkB k ss) x→Mut M0 adr (pkB k ss) x:=fun x _ ⟨k,B,m,h1,h2⟩=>.inr ⟨k,B,m,h1,h2⟩
 have hlen:((ss.take (k+1)++[l]).map shR).length=k+2:=by
  rw[List.length_map,List.length_append,List.length_take]
  simp
  omega
 refine ⟨fun j=>if j=1 then some (some gb,k+2) else adr j,hE,⟨?_,?_,?_,?_,?_,?_⟩,fun j hj hn=>?_,?_,_,rfl,[],rfl,trivial⟩
 ·intro j B h
  match j,h with
  | 0,_=>decide
  | 1,_=>decide
 ·intro j hj
  show (if j=1 then _ else adr j)=none
  rw[if_neg (by omega)]
  exact hW.fresh j hj
 ·intro j B h
  match j,h with
  | 0,h =>
   cases h
   show LocB _ _ _ (adr 0) _
   rw[ha]
   exact ⟨[_,_],hb,.inr ⟨gb,k+2,G,cur2,_,_,rfl,hg,by rw[hs,Nat.mul_one],hG1,hG2,rfl⟩,.v _,trivial⟩
  | 1,h =>
   cases h
   refine ⟨by decide,hlen,shR_1,cur2,G,hg,by rw[hs,Nat.mul_one],by rw[hlen];exact hG1,hG2,?_⟩
   rw[hlen,Nat.mul_one,ht,shR_flat,List.map_append]
   refine DenL.evo hE hS hM (All2.app ?_ ⟨hx,trivial⟩)
   rw[List.map_take,← shR_flat]
   exact All2.take _ hd
 ·intro j j' B B' b' m' m'' h h' h1 h2
  match j,j',h,h' with
  | 0,0,_,_=>rfl
  | 1,1,_,_=>rfl
  | 0,1,_,_ =>
   cases h2
   have:=hW.lt (k:=0) rfl h1
   omega
  | 1,0,_,_ =>
   cases h1
   have:=hW.lt (k:=0) rfl h2
   omega
 ·intro j B b' m' h he hm
  match j,h with
  | 0,_=>exact hW.prot 0 _ b' m' rfl he hm
  | 1,_ =>
   cases he
   have:=hW.bound _ hm
   omega
 ·intro b' hm
  exact Nat.lt_of_lt_of_le (hW.bound b' hm) hE.size
 ·show (if j=1 then _ else adr j)=adr j
  rw[if_neg (fun h=>hn (by simp[h]))]
 ·intro j B b' m' h he
  match j,h with
  | 0,_=>exact .inl ⟨0,_,m',rfl,he⟩
  | 1,_ =>
   cases he
   exact .inr hgb
theorem Push_n (ss:List (List Fl)) (k:Nat) (l:List Fl) (hl:ss.length≤549755813888) (hk:k<ss.length) (h3:l.length≤65536) (he:¬ eqL l ss[k]=true):Go.EYtdpigpahfiachaaGreatDoor.Fn Tryz.prog gl 61 [.c (.ptr 0 0),.c (.d (.lst 3 (l.map flD)))] (pkB k ss) 2 (.ret (.tup [])) (pkB (k+1) (ss.take (k+1)++[l])) 2 [1]:=by
 refine ⟨Nat.le_refl _,fun k B h hk=>?_,fun k hk=>?_,fun w M0 adr xs hW hG hd=>?_⟩
 ·match k,h with
  | 0,_=>rfl
  | 1,_=>rfl
 ·cases List.mem_singleton.1 hk
  rfl
 match xs,hd with
 | [p,x],⟨hp,hx,_⟩ =>
  obtain ⟨b,m,ha,rfl⟩:=hp
  obtain ⟨xa,xn,xc,rfl⟩:∃ xa xn xc,x=.slice xa xn xc:=by
   have hx':DenD (Mut M0 adr (pkB k ss)) w (.lst 3 (l.map flD)) x:=hx
   generalize l.map flD=ls at hx'
   cases hx' <;> exact ⟨_,_,_,rfl⟩
  have hloc:=hW.loc 0 _ rfl
  have hloc1:=hW.loc 1 _ rfl
  rw[ha] at hloc
  obtain ⟨vs,hb,hvs⟩:=hloc
  match vs,hvs with
  | [v0,v1],⟨hv0,hv1,_⟩ =>
   obtain rfl:v1=.int .i64 (k:Int):=DenD.v_inv hv1
   have hlen:(ss.map shR).length=ss.length:=List.length_map _
   rcases hv0 with ⟨h5,rfl⟩|⟨g,n,c,cur,ee,f,h5,h6,h7,h8,h9,rfl⟩
   ·rw[h5] at hloc1
    obtain ⟨_,h6,_⟩:=hloc1
    rw[List.map_eq_nil_iff.1 h6] at hk
    simp at hk
   ·rw[h5] at hloc1
    obtain ⟨g1,g2,g3,cur',c',g4,g5,g6,g7,g8⟩:=hloc1
    rw[h6] at g4
    cases g4
    obtain rfl:n=ss.length:=by omega
    obtain rfl:c=c':=by omega
    rw[hlen,Nat.mul_one] at g8
    have hks:k<cur.size:=by omega
    have hv:cur[k]?=some cur[k]:=Array.getElem?_eq_getElem hks
    have hvd:DenD (Mut M0 adr (pkB k ss)) w (.lst 3 (ss[k].map flD)) cur[k]:=by
     have h10:(ss.map shR).flatten[k]?=some (.lst 3 (ss[k].map flD)):=by
      rw[shR_flat,List.getElem?_map,List.getElem?_eq_getElem hk]
      rfl
     obtain ⟨v,h11,h12⟩:=All2.get g8 h10
     rw[List.getElem?_take,if_pos hk,Array.getElem?_toList,hv] at h11
     cases h11
     exact h12
    have hq:=FnP.callsE (Equal_d (gl:=gl) l ss[k] (by omega)) (w:=w.drew) (M:=Mut M0 adr (pkB k ss)) (xs:=[.slice xa xn xc,cur[k]]) hoB (fun x hx=>hW.mutLt hx) (hG.evo (Evo.drew (fun _=>False) w) (fun _ _ h=>h.elim) (fun _ _ h=>h)) ⟨DenD.evo (d:=.lst 3 (l.map flD)) (Evo.drew (fun _=>False) w) (fun _ _ h=>h.elim) (fun _ _ h=>h) hx,hvd.evo (Evo.drew (fun _=>False) w) (fun _ _ h=>h.elim) (fun _ _ h=>h),trivial⟩
    refine .inl ⟨by unfold HasBody;kernel_rfl,?_⟩
    have hbl:b<w.heap.size:=hW.lt (k:=0) rfl ha
    have hgl:g<w.heap.size:=(Array.getElem?_eq_some_iff.1 h6).1
    refine (push_calls b g ss.length c k cur xa xn xc cur[k] w hb h6 (by omega) hk h8 h9 (by omega) hv (hq.mono ?_)).mono ?_
    ·rintro e w1 ⟨hE,y,rfl,hy⟩
     have:=DenD.b_inv hy
     rw[this,decide_eq_false he]
     exact ⟨rfl,hE.block b hbl (fun h=>h),hE.block g hgl (fun h=>h),hE⟩
    ·rintro e w1 ⟨rfl,gb,G,cur2,k1,k2,k3,k4,k5,k6,k7,k8⟩
     have e1:cur.toList.take (k+1)=(cur.toList.take ss.length).take (k+1):=by rw[List.take_take,Nat.min_eq_left (by omega)]
     rw[e1] at k6
     exact push_end hk hW ha k8 k1 k2 k3 k4 k5 k6 k7 g8 hx
end Go.Proofs.YtdpigpahfiachaaGreatDoor
end
section
namespace Go.Proofs.YtdpigpahfiachaaGreatDoor
open Go Go.RowKit Go.EYtdpigpahfiachaaGreatDoor
set_option maxRecDepth 100000
set_option maxHeartbeats 4000000
variable {gl:List (Nat×List D)}
theorem fn_mvs {P:Program} {g:Nat} {vs:List V} {H:List (Nat×Blk)} {n:Nat} {r:Ret} {H':List (Nat×Blk)} {n':Nat} (h:Go.EYtdpigpahfiachaaGreatDoor.Fn P gl g vs H n r H' n' []) (mv:List Nat) (hm:∀ k ∈ mv,(Go.EYtdpigpahfiachaaGreatDoor.look H k).isSome=true):Go.EYtdpigpahfiachaaGreatDoor.Fn P gl g vs H n r H' n' mv :=
 ⟨h.1,h.2.1,hm,fun w M0 adr xs hW hG hd=>(h.2.2.2 w M0 adr xs hW hG hd).mono fun _ _ ⟨adr',a1,a2,a3,a4,a5⟩=>⟨adr',a1,a2,fun k hk _=>a3 k hk (by simp),a4,a5⟩⟩
theorem Push_x (ss:List (List Fl)) (k:Nat) (l:List Fl) (hl:ss.length≤549755813888) (hk:k<ss.length) (h3:l.length≤65536):Go.EYtdpigpahfiachaaGreatDoor.Fn Tryz.prog gl 61 [.c (.ptr 0 0),.c (.d (.lst 3 (l.map flD)))] (pkB k ss) 2 (.ret (.tup [])) (pkB (nAt k ss[k] l) (nSs k ss ss[k] l)) 2 [1]:=by
 unfold nAt nSs
 by_cases he:eqL l ss[k]=true
 ·rw[if_pos he,if_pos he]
  exact fn_mvs (Push_e ss k l (by omega) hk h3 he) [1] (fun k hk=>by cases List.mem_singleton.1 hk;rfl)
 ·rw[if_neg he,if_neg he]
  exact Push_n ss k l hl hk h3 he
section
variable (te:TypeId) (pe:Value) (hV:Has gl (glV te pe)) (hl:Go.EYtdpigpahfiachaaGreatDoor.look gl 0=some lvAll) {rf:List UInt8→Option Rf} (hR:RefsOk rf)
include hV hl hR
theorem May_x (f:Fl):(mayZ rf f=0∧FnP Tryz.prog gl 59 [cellD f.c f.r,.str f.t] (.v .nilIface))∨(mayZ rf f≠0∧FnP Tryz.prog gl 59 [cellD f.c f.r,.str f.t] (erD (mayZ rf f))):=by
 unfold mayZ
 by_cases h:okP f.c f.r
 ·rw[if_pos h]
  rcases gText_d te pe hV hl hR f.t with ⟨hz,c⟩|⟨e,he,hz,c⟩
  ·exact .inl ⟨hz,May_s f.c f.r f.t h c⟩
  ·rw[hz]
   exact .inr ⟨he,May_t f.c f.r f.t h e he c⟩
 ·rw[if_neg h]
  exact .inr ⟨by decide,May_n f.c f.r f.t h⟩
theorem GroupH_x (ss:List (List Fl)) (a:Nat) (l:List Fl) (hb:l.length≤4611686018427387904) (hs:ss.length≤549755813888) (hk:a<ss.length) (ho:shOk ss[a]) :
 (grpZ rf ss[a] l≠0∧Go.EYtdpigpahfiachaaGreatDoor.Fn Tryz.prog gl 25 [.c (.ptr 0 0),.c (.all 3 2)] (pG a ss l) 3 (.ret (.c (.d (erD (grpZ rf ss[a] l))))) (pG a ss l) 3 [1])∨
 (grpZ rf ss[a] l=0∧Go.EYtdpigpahfiachaaGreatDoor.Fn Tryz.prog gl 25 [.c (.ptr 0 0),.c (.all 3 2)] (pG a ss l) 3 (.ret (.c (.d (.v .nilIface)))) (pG (nAt a ss[a] (wsL ss[a] l l.length)) (nSs a ss ss[a] (wsL ss[a] l l.length)) l) 3 [1]):=by
 have hm1:∀ k ∈ [1],(Go.EYtdpigpahfiachaaGreatDoor.look (pG a ss l) k).isSome=true:=fun k hk=>by cases List.mem_singleton.1 hk;rfl
 have hW:∀ k (h:k<l.length),(∀ j (h:j<l.length),j<k→mayZ rf l[j]=0)→FnP Tryz.prog gl 60 [.lst 3 ((wsL ss[a] l k).map flD),cellD l[k].c l[k].r,.str l[k].t] (.lst 3 ((wsL ss[a] l (k+1)).map flD)):=fun k h hm=>by
  rw[wsL_succ _ h]
  have:=wsL_few ho hm
  exact With_d _ _ _ _ (wsL_ord ho.1 l k) (by omega)
 have hM:∀ k (h:k<l.length),mayZ rf l[k]=0→FnP Tryz.prog gl 59 [cellD l[k].c l[k].r,.str l[k].t] (.v .nilIface):=fun k h h0=>by
  rcases May_x te pe hV hl hR l[k] with ⟨_,c⟩|⟨h1,_⟩
  ·exact c
  ·exact absurd h0 h1
 unfold grpZ
 by_cases h0:maysZ rf l=0
 ·rw[if_pos h0]
  have hM':=maysZ_zero.1 h0
  by_cases h2:200<(wsL ss[a] l l.length).length
  ·rw[if_pos h2]
   exact .inl ⟨by decide,fn_mvs (GroupH_f ss a l (by omega) (by omega) hk (wsL ss[a] l) rfl l.length rfl (fun k h _=>hM k h (hM' k h)) (fun k h hkm=>hW k h fun j hj hjk=>hM' j hj) h2) [1] hm1⟩
  ·rw[if_neg h2]
   exact .inr ⟨rfl,GroupH_p ss a l (by omega) (by omega) hk (wsL ss[a] l) rfl l.length rfl (fun k h _=>hM k h (hM' k h)) (fun k h hkm=>hW k h fun j hj hjk=>hM' j hj) (by omega) _ _ (Push_x ss a _ hs hk (by have:=wsL_few ho (k:=l.length) fun j hj _=>hM' j hj;omega))⟩
 ·rw[if_neg h0]
  obtain ⟨m,hm,h1,h2⟩:=maysZ_first h0
  refine .inl ⟨h0,fn_mvs (GroupH_e ss a l (by omega) (by omega) hk (wsL ss[a] l) rfl m hm (fun k h hkm=>hM k h (h1 k h hkm)) (fun k h hkm=>hW k h fun j hj hjk=>h1 j hj (by omega)) _ h0 ?_) [1] hm1⟩
  rw[← h2]
  rcases May_x te pe hV hl hR l[m] with ⟨h3,_⟩|⟨_,c⟩
  ·omega
  ·exact c
theorem Set_x (ss:List (List Fl)) (a:Nat) (f:Fl) (hs:ss.length≤549755813888) (hk:a<ss.length) (ho:shOk ss[a]) :
 (grpZ rf ss[a] [f]≠0∧Go.EYtdpigpahfiachaaGreatDoor.Fn Tryz.prog gl 26 [.c (.ptr 0 0),vD (cellD f.c f.r),.c (.d (.str f.t))] (pkB a ss) 2 (.ret (.c (.d (erD (grpZ rf ss[a] [f]))))) (pkB a ss) 2 [1])∨
 (grpZ rf ss[a] [f]=0∧Go.EYtdpigpahfiachaaGreatDoor.Fn Tryz.prog gl 26 [.c (.ptr 0 0),vD (cellD f.c f.r),.c (.d (.str f.t))] (pkB a ss) 2 (.ret (.c (.d (.v .nilIface)))) (pkB (nAt a ss[a] (wsL ss[a] [f] 1)) (nSs a ss ss[a] (wsL ss[a] [f] 1))) 2 [1]):=by
 obtain ⟨c,r,t⟩:=f
 rcases GroupH_x te pe hV hl hR ss a [⟨c,r,t⟩] (by simp) hs hk ho with ⟨h,g⟩|⟨h,g⟩
 ·exact .inl ⟨h,Set_p _ _ _ _ _ _ _ _ g⟩
 ·exact .inr ⟨h,Set_p _ _ _ _ _ _ _ _ g⟩
end
end Go.Proofs.YtdpigpahfiachaaGreatDoor
end
