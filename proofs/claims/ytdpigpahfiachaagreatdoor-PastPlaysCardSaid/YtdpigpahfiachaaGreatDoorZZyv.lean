/- Proved: a part of what the law is proved with (the reckoner, contracts of functions, plain laws). Conditions: as each says. -/
import Derived.Test.YtdpigpahfiachaaGreatDoorZJd
import Derived.Test.YtdpigpahfiachaaGreatDoorZZl
import Derived.Test.YtdpigpahfiachaaGreatDoorZZx
section
namespace Go.Proofs.YtdpigpahfiachaaGreatDoor
open Go Go.EYtdpigpahfiachaaGreatDoor
set_option maxRecDepth 100000
def mayZ (rf:List UInt8→Option Rf) (f:Fl):Int:=if okP f.c f.r then textZ rf f.t else 1
def wsL (s l:List Fl) (k:Nat):List Fl:=(l.take k).foldl (fun s f=>withL f.c f.r f.t s) s
theorem wsL_succ (s:List Fl) {l:List Fl} {k:Nat} (h:k<l.length):wsL s l (k+1)=withL l[k].c l[k].r l[k].t (wsL s l k):=by
 unfold wsL
 rw[List.take_succ_eq_append_getElem h,List.foldl_append]
 rfl
theorem wsL_ord {s:List Fl} (h:ordL s) (l:List Fl):∀ k,ordL (wsL s l k)
 | 0=>h
 | k+1=>by
  by_cases hk:k<l.length
  ·rw[wsL_succ s hk]
   exact ordL_with (wsL_ord h l k)
  ·have e:wsL s l (k+1)=wsL s l k:=by
    unfold wsL
    rw[List.take_of_length_le (by omega),List.take_of_length_le (by omega)]
   rw[e]
   exact wsL_ord h l k
def maysZ (rf:List UInt8→Option Rf):List Fl→Int
 | []=>0
 | f::l=>if mayZ rf f=0 then maysZ rf l else mayZ rf f
theorem maysZ_zero {rf:List UInt8→Option Rf}:∀ {l:List Fl},maysZ rf l=0↔∀ k (h:k<l.length),mayZ rf l[k]=0
 | []=>by simp[maysZ]
 | f::l=>by
  unfold maysZ
  constructor
  ·intro h k hk
   split at h
   ·cases k with
    | zero=>assumption
    | succ k=>exact maysZ_zero.1 h k (by simpa using hk)
   ·contradiction
  ·intro h
   have h0:mayZ rf f=0:=h 0 (by simp)
   rw[if_pos h0]
   exact maysZ_zero.2 fun k hk=>h (k+1) (by simpa using hk)
theorem maysZ_first {rf:List UInt8→Option Rf}:∀ {l:List Fl},maysZ rf l≠0→∃ m,∃ h:m<l.length,(∀ k (hk:k<l.length),k<m→mayZ rf l[k]=0)∧mayZ rf l[m]=maysZ rf l
 | [],h=>absurd rfl h
 | f::l,h=>by
  unfold maysZ at h ⊢
  by_cases h0:mayZ rf f=0
  ·rw[if_pos h0] at h ⊢
   obtain ⟨m,hm,h1,h2⟩:=maysZ_first h
   refine ⟨m+1,by simpa using hm,fun k hk hkm=>?_,h2⟩
   cases k with
   | zero=>exact h0
   | succ k=>exact h1 k (by simpa using hk) (by omega)
  ·rw[if_neg h0]
   exact ⟨0,by simp,fun k hk hkm=>absurd hkm (Nat.not_lt_zero _),rfl⟩
def grpZ (rf:List UInt8→Option Rf) (s l:List Fl):Int:=if maysZ rf l=0 then (if 200<(wsL s l l.length).length then 4 else 0) else maysZ rf l
def nAt (a:Nat) (s n:List Fl):Nat:=if eqL n s=true then a else a+1
def nSs (a:Nat) (ss:List (List Fl)) (s n:List Fl):List (List Fl):=if eqL n s=true then ss else ss.take (a+1)++[n]
abbrev shOk (s:List Fl):Prop:=ordL s∧s.length≤200∧∀ f ∈ s,okP f.c f.r
theorem mayZ_ok {rf:List UInt8→Option Rf} {f:Fl} (h:mayZ rf f=0):okP f.c f.r:=Classical.byContradiction fun hn=>by
 unfold mayZ at h
 rw[if_neg hn] at h
 omega
theorem ord_count:∀ {l:List Fl} {n:Int},ordL l→(∀ f ∈ l,okP f.c f.r)→n≤2574→(∀ f ∈ l,n<(f.r - 1) * 26+f.c)→n+(l.length:Int)≤2574
 | [],n,_,_,hn,_=>by simpa using hn
 | f::l,n,ho,hp,hn,hr=>by
  have h1:=hp f (by simp)
  have h2:=hr f (by simp)
  unfold okP at h1
  have h3:=ord_count (l:=l) (n:=(f.r - 1) * 26+f.c) ho.2 (fun g hg=>hp g (by simp[hg])) (by omega) (fun g hg=>by
   have h4:=ho.1 g hg
   have h5:=hp g (by simp[hg])
   unfold lessF at h4
   unfold okP at h5
   omega)
  rw[List.length_cons]
  omega
theorem ord_len {l:List Fl} (ho:ordL l) (hp:∀ f ∈ l,okP f.c f.r):l.length≤2574:=by
 have:=ord_count (n:=0) ho hp (by omega) (fun f hf=>by
  have:=hp f hf
  unfold okP at this
  omega)
 omega
theorem wsL_in {s:List Fl} (hs:∀ f ∈ s,okP f.c f.r) (l:List Fl):∀ k,(∀ j (h:j<l.length),j<k→okP l[j].c l[j].r)→∀ f ∈ wsL s l k,okP f.c f.r
 | 0,_=>hs
 | k+1,h=>by
  have ih:=wsL_in hs l k fun j hj hjk=>h j hj (by omega)
  by_cases hk:k<l.length
  ·rw[wsL_succ s hk]
   intro f hf
   rcases mem_withL hf with hf|rfl
   ·exact ih f hf
   ·exact h k hk (by omega)
  ·have e:wsL s l (k+1)=wsL s l k:=by
    unfold wsL
    rw[List.take_of_length_le (by omega),List.take_of_length_le (by omega)]
   rw[e]
   exact ih
theorem wsL_few {rf:List UInt8→Option Rf} {s:List Fl} (h:shOk s) {l:List Fl} {k:Nat} (hm:∀ j (h:j<l.length),j<k→mayZ rf l[j]=0):(wsL s l k).length≤2574 :=
 ord_len (wsL_ord h.1 l k) (wsL_in h.2.2 l k fun j hj hk=>mayZ_ok (hm j hj hk))
theorem wsL_sh {rf:List UInt8→Option Rf} {s:List Fl} (h:shOk s) {l:List Fl} {k:Nat} (hm:∀ j (h:j<l.length),j<k→mayZ rf l[j]=0) (h2:(wsL s l k).length≤200):shOk (wsL s l k) :=
 ⟨wsL_ord h.1 l k,h2,wsL_in h.2.2 l k fun j hj hk=>mayZ_ok (hm j hj hk)⟩
theorem good_in {rf:List UInt8→Option Rf} {l:List Fl} (h:goodZ rf l):∀ f ∈ l,okP f.c f.r:=by
 intro f hf
 obtain ⟨k,hk,rfl⟩:=List.getElem_of_mem hf
 have h1:=h.2 k hk
 rw[stepZ_at hk] at h1
 refine Classical.byContradiction fun hn=>?_
 rw[if_neg hn] at h1
 omega
theorem good_ord {rf:List UInt8→Option Rf} {l:List Fl} (h:goodZ rf l):ordL l:=ordL_of fun _ _ hi hj=>good_less h hi hj
theorem good_sh {rf:List UInt8→Option Rf} {l:List Fl} (h:goodZ rf l):shOk l:=⟨good_ord h,h.1,good_in h⟩
end Go.Proofs.YtdpigpahfiachaaGreatDoor
end
section
namespace Go.Proofs.YtdpigpahfiachaaGreatDoor
open Go Go.RowKit Go.EYtdpigpahfiachaaGreatDoor
set_option maxRecDepth 100000
set_option maxHeartbeats 4000000
theorem sc_at {w:World} {b o:Nat} {v:Value} {cur:Array Value} {e:TypeId} {f:Nat×Nat} (h:w.heap[b]?=some (Obj.cells cur e f)):(w.setCell ⟨b,o,none⟩ v).heap[b]?=some (Obj.cells (cur.setIfInBounds o v) e f):=by
 unfold World.setCell
 simp[Array.getElem?_modify,h]
theorem sc_off {w:World} {b o x:Nat} {v:Value} (hx:x≠b):(w.setCell ⟨b,o,none⟩ v).heap[x]?=w.heap[x]?:=by
 unfold World.setCell
 simp only[Array.getElem?_modify]
 rw[if_neg (fun h=>hx h.symm)]
theorem sc_evo {w:World} {b o:Nat} {v:Value} {cur:Array Value} {e:TypeId} {f:Nat×Nat} (h:w.heap[b]?=some (Obj.cells cur e f)):Evo (fun x=>x=b) w (w.setCell ⟨b,o,none⟩ v):=by
 refine ⟨rfl,rfl,rfl,?_,fun x hx hn=>sc_off hn,fun x c e' f' hc=>?_⟩
 ·show w.heap.size≤(Array.modify _ _ _).size
  rw[Array.size_modify]
  exact Nat.le_refl _
 ·by_cases hxb:x=b
  ·subst hxb
   rw[h] at hc
   cases hc
   exact ⟨_,sc_at h,Array.size_setIfInBounds⟩
  ·exact ⟨c,by rw[sc_off hxb];exact hc,rfl⟩
def Pushed (b k xn xc:Nat) (xa:Option Addr) (cur:Array Value) (w w':World):Prop:=∃ (gb G:Nat) (cur2:Array Value),w.heap.size≤gb∧w'.heap[gb]?=some (Obj.cells cur2 38 (0,0))∧k+2≤G∧G≤maxLen∧cur2.size=G∧cur2.toList.take (k+2)=cur.toList.take (k+1)++[.slice xa xn xc]∧w'.heap[b]?=some (Obj.cells #[.slice (some ⟨gb,0,none⟩) (k+2) G,.int .i64 ((k+1:Nat):Int)] 108 (0,0))∧Evo (fun x=>x=b) w w'
theorem push_append (b g n c k:Nat) (cur:Array Value) (xa:Option Addr) (xn xc:Nat) (w w1:World) (hp:w.heap[b]?=some (Obj.cells #[.slice (some ⟨g,0,none⟩) n c,.int .i64 k] 108 (0,0))) (hg:w.heap[g]?=some (Obj.cells cur 38 (0,0))) (hs:cur.size=c) (hk:k<n) (hn:n≤c) (hbig:k≤549755813888)
 (hb1:w1.heap[b]?=w.heap[b]?) (hg1:w1.heap[g]?=w.heap[g]?) (hE:Evo (fun _=>False) w.drew w1) :
 ∃ (gb G:Nat) (w2:World),(Builtin.append_ #[62,62] 62 #[.slice (some ⟨g,0,none⟩) (k+1) (k+1),.slice (some ⟨w1.drew.heap.size,0,none⟩) 1 1]).run Tryz.prog (w1.drew.alloc (.cells #[.slice xa xn xc] 38))=.ok (.slice (some ⟨gb,0,none⟩) (k+2) G) w2∧
  w2.cell? ⟨b,0,none⟩=some (.slice (some ⟨g,0,none⟩) n c)∧w2.frozen? ⟨b,0,none⟩=false∧(w2.setCell ⟨b,0,none⟩ (.slice (some ⟨gb,0,none⟩) (k+2) G)).cell? ⟨b,1,none⟩=some (.int .i64 k)∧(w2.setCell ⟨b,0,none⟩ (.slice (some ⟨gb,0,none⟩) (k+2) G)).frozen? ⟨b,1,none⟩=false∧
  Aside (Pushed b k xn xc xa cur w ((w2.setCell ⟨b,0,none⟩ (.slice (some ⟨gb,0,none⟩) (k+2) G)).setCell ⟨b,1,none⟩ (.int .i64 ((k:Int)+1)))):=by
 obtain ⟨i0,hi0,hz0,hz1,hz2⟩:=info_parts (show (Tryz.prog.info? 38).map (fun i=>(i.zero,i.size,i.bytes))=some (some (.slice none 0 0),1,24) by kernel_rfl)
 have hbl:b<w1.heap.size:=(Array.getElem?_eq_some_iff.1 (hb1.trans hp)).1
 have hgl:g<w1.heap.size:=(Array.getElem?_eq_some_iff.1 (hg1.trans hg)).1
 obtain ⟨W,hW⟩:∃ W:World,W=w1.drew.alloc (.cells #[.slice xa xn xc] 38):=⟨_,rfl⟩
 have hWs:W.heap.size=w1.heap.size+1:=by rw[hW];exact Array.size_push _
 have hWo:∀ x,x<w1.heap.size→W.heap[x]?=w1.heap[x]?:=fun x hx=>by
  rw[hW]
  show (w1.heap.push _)[x]?=_
  rw[Array.getElem?_push,if_neg (by omega)]
 have hWn:W.heap[w1.heap.size]?=some (Obj.cells #[.slice xa xn xc] 38 (0,0)):=by
  rw[hW]
  show (w1.heap.push _)[w1.heap.size]?=_
  simp
 have hWg:W.heap[g]?=some (Obj.cells cur 38 (0,0)):=(hWo g hgl).trans (hg1.trans hg)
 have hWb:W.heap[b]?=some (Obj.cells #[.slice (some ⟨g,0,none⟩) n c,.int .i64 k] 108 (0,0)):=(hWo b hbl).trans (hb1.trans hp)
 have hxl:(cur.toList.take (k+1)).length=k+1:=by rw[List.length_take,Array.length_toList];omega
 have hr:=run_append_grow (P:=Tryz.prog) W 62 62 38 i0 _ Tryz.underlying62 hi0 hz0 ⟨g,0,none⟩ (k+1) (k+1) (cur.toList.take (k+1)) (by rw[hz1,hxl,Nat.mul_one]) (fun j u hu=>by
  rw[Addr.add_lit,Nat.zero_add]
  rw[List.getElem?_take] at hu
  split at hu
  ·simp only[World.cell?,hWg]
   simpa using hu
  ·cases hu) ⟨w1.heap.size,0,none⟩ 1 1 [.slice xa xn xc] (by rw[hz1];rfl) (fun j u hu=>by
  rw[Addr.add_lit,Nat.zero_add]
  simp only[World.cell?,hWn]
  cases j with
  | zero=>simpa using hu
  | succ j=>simp at hu) (by omega) (by omega) (growslice_fits (by omega) (by rw[hz2];omega))
 obtain ⟨G,hG⟩:∃ G,G=grownCap W (k+1+1) (k+1) 38:=⟨_,rfl⟩
 have hG1:k+2≤G:=by rw[hG];exact grownCap_ge W _ _ _
 have hG2:G≤maxLen:=by rw[hG];exact grownCap_le_maxLen W _ (k+1) 38 (by unfold maxLen;omega)
 rw[← hG] at hr
 obtain ⟨cur2,hcur⟩:∃ cur2,cur2=(cur.toList.take (k+1)).toArray++([.slice xa xn xc]:List Value).toArray++Builtin.zeroCells (Value.slice none 0 0).cells (G - (k+1+1)):=⟨_,rfl⟩
 rw[← hcur] at hr
 have hzs:(Value.slice none 0 0).cells.size=1:=rfl
 have hcs:cur2.size=G:=by
  rw[hcur]
  simp only[Array.size_append,List.size_toArray,size_zeroCells,hzs,hxl,List.length_cons,List.length_nil]
  omega
 have hct:cur2.toList.take (k+2)=cur.toList.take (k+1)++[.slice xa xn xc]:=by
  rw[hcur]
  simp only[Array.toList_append,List.append_assoc]
  rw[← List.append_assoc]
  exact List.take_left' (by rw[List.length_append,hxl];rfl)
 obtain ⟨w2,hw2⟩:∃ w2:World,w2=W.drew.alloc (.cells cur2 38):=⟨_,rfl⟩
 have h2o:∀ x,x<W.heap.size→w2.heap[x]?=W.heap[x]?:=fun x hx=>by
  rw[hw2]
  show (W.heap.push _)[x]?=_
  rw[Array.getElem?_push,if_neg (by omega)]
 have h2n:w2.heap[W.heap.size]?=some (Obj.cells cur2 38 (0,0)):=by
  rw[hw2]
  show (W.heap.push _)[W.heap.size]?=_
  simp
 have h2b:=(h2o b (by omega)).trans hWb
 have h3b:=sc_at (o:=0) (v:=.slice (some ⟨W.heap.size,0,none⟩) (k+2) G) h2b
 have h4b:=sc_at (o:=1) (v:=.int .i64 ((k:Int)+1)) h3b
 refine ⟨W.heap.size,G,w2,by rw[← hW,hw2];exact hr,by simp[World.cell?,h2b],by simp[World.frozen?,h2b],by simp[World.cell?,h3b],by simp[World.frozen?,h3b],⟨W.heap.size,G,cur2,?_,?_,hG1,hG2,hcs,hct,?_,?_⟩⟩
 ·have:=hE.size
  have:w.heap.size≤w1.heap.size:=this
  omega
 ·rw[sc_off (by omega),sc_off (by omega)]
  exact h2n
 ·rw[h4b]
  rfl
 ·have e1:Evo (fun x=>x=b) w w1:=((Evo.drew _ w).trans hE).mono fun _ _ h=>h.elim
  have e2:Evo (fun x=>x=b) w1 W:=by rw[hW];exact (Evo.drew _ w1).trans (Evo.alloc _ _ _)
  have e3:Evo (fun x=>x=b) W w2:=by rw[hw2];exact (Evo.drew _ W).trans (Evo.alloc _ _ _)
  exact (((e1.trans e2).trans e3).trans (sc_evo h2b)).trans (sc_evo h3b)
end Go.Proofs.YtdpigpahfiachaaGreatDoor
end
