/- Proved: a part of what the law is proved with (the reckoner, contracts of functions, plain laws). Conditions: as each says. -/
import Derived.Test.YtcdjjjokniinkaaGreatDoorXAa
import Derived.Test.YtcdjjjokniinkaaGreatDoorXZk
import Derived.Test.YtcdjjjokniinkaaGreatDoorXZs
section
namespace Go.Proofs.YtcdjjjokniinkaaGreatDoor
open Go Go.EYtcdjjjokniinkaaGreatDoor
set_option maxRecDepth 100000
def txt:List Fl→Int→Int→List UInt8
 | [],_,_=>[]
 | f::l,c,r=>if f.c=c∧f.r=r then f.t else txt l c r
theorem txt_none {c r:Int}:∀ {l:List Fl},(∀ f ∈ l,¬ sameC f c r)→txt l c r=[]
 | [],_=>rfl
 | f::l,h=>by
  unfold txt
  rw[if_neg (h f (by simp))]
  exact txt_none fun g hg=>h g (by simp[hg])
theorem less_not {f g:Fl} (h:lessF f g):¬ sameC g f.c f.r:=by unfold lessF at h;unfold sameC;omega
theorem txt_mem:∀ {l:List Fl},ordL l→∀ {f:Fl},f ∈ l→txt l f.c f.r=f.t
 | [],_,f,hf=>by cases hf
 | g::l,h,f,hf=>by
  unfold txt
  rcases List.mem_cons.1 hf with rfl|hf
  ·rw[if_pos ⟨rfl,rfl⟩]
  ·have:=h.1 f hf
   rw[if_neg (by unfold lessF at this;omega)]
   exact txt_mem h.2 hf
theorem txt_with {c r:Int} {t:List UInt8}:∀ {l:List Fl},ordL l→∀ c' r',txt (withL c r t l) c' r'=if c'=c∧r'=r then t else txt l c' r'
 | [],_,c',r'=>by
  unfold withL isF
  by_cases ht:t=[]
  ·subst ht
   simp[skF,txt]
  ·simp only[skF,List.getElem?_nil,Bool.false_eq_true,if_false,ht,List.insertIdx_zero,txt]
   by_cases h:c'=c∧r'=r
   ·obtain ⟨rfl,rfl⟩:=h
    simp
   ·rw[if_neg (by omega),if_neg h]
 | f::l,ho,c',r'=>by
  by_cases hl:lesC f c r
  ·rw[withL_cons hl]
   show (if f.c=c'∧f.r=r' then f.t else txt (withL c r t l) c' r')=if c'=c∧r'=r then t else if f.c=c'∧f.r=r' then f.t else txt l c' r'
   rw[txt_with ho.2]
   have hn:=les_not hl
   unfold sameC at hn
   by_cases h1:f.c=c'∧f.r=r'
   ·rw[if_pos h1,if_neg (by omega),if_pos h1]
   ·rw[if_neg h1,if_neg h1]
  ·have hlat:=later hl ho.1
   have hz:∀ {x:Int} {y:Int},x=c→y=r→txt l x y=[]:=fun hx hy=>txt_none fun g hg=>by rw[hx,hy];exact (hlat g hg).1
   unfold withL
   rw[isF_zero hl,skF_zero hl]
   by_cases hs:sameC f c r
   ·rw[decide_eq_true hs,if_pos rfl]
    unfold sameC at hs
    by_cases ht:t=[]
    ·rw[if_pos ht]
     simp only[List.eraseIdx_zero,List.tail_cons,txt]
     by_cases h1:c'=c∧r'=r
     ·rw[if_pos h1,ht]
      exact hz h1.1 h1.2
     ·rw[if_neg h1,if_neg (by omega)]
    ·rw[if_neg ht]
     simp only[List.set_cons_zero,txt]
     by_cases h1:c'=c∧r'=r
     ·rw[if_pos (by omega),if_pos h1]
     ·rw[if_neg (by omega),if_neg h1,if_neg (by omega)]
   ·rw[decide_eq_false hs,if_neg (by simp)]
    unfold sameC at hs
    by_cases ht:t=[]
    ·rw[if_pos ht]
     by_cases h1:c'=c∧r'=r
     ·rw[if_pos h1,ht]
      unfold txt
      rw[if_neg (by omega)]
      exact hz h1.1 h1.2
     ·rw[if_neg h1]
    ·rw[if_neg ht]
     simp only[List.insertIdx_zero]
     show (if c=c'∧r=r' then t else txt (f::l) c' r')=_
     by_cases h1:c'=c∧r'=r
     ·rw[if_pos (by omega),if_pos h1]
     ·rw[if_neg (by omega),if_neg h1]
abbrev fullL (l:List Fl):Prop:=∀ f ∈ l,f.t≠[]
theorem mem_with {c r:Int} {t:List UInt8} {l:List Fl} {g:Fl} (h:g ∈ withL c r t l):g ∈ l∨(t≠[]∧g=⟨c,r,t⟩):=by
 by_cases ht:t=[]
 ·left
  unfold withL at h
  split at h
  ·exact List.mem_of_mem_eraseIdx (by simpa[ht] using h)
  ·simpa[ht] using h
 ·rcases mem_withL h with h|h
  ·exact .inl h
  ·exact .inr ⟨ht,h⟩
theorem full_with {c r:Int} {t:List UInt8} {l:List Fl} (h:fullL l):fullL (withL c r t l):=fun g hg=>by
 rcases mem_with hg with hg|⟨ht,rfl⟩
 ·exact h g hg
 ·exact ht
theorem sheet_ext:∀ {l m:List Fl},ordL l→ordL m→fullL l→fullL m→(∀ c r,txt l c r=txt m c r)→l=m
 | [],[],_,_,_,_,_=>rfl
 | f::l,[],ho,_,hf,_,h=>by
  have:=h f.c f.r
  rw[txt_mem ho (by simp:f ∈ f::l)] at this
  exact absurd this (hf f (by simp))
 | [],g::m,_,ho,_,hg,h=>by
  have:=h g.c g.r
  rw[txt_mem ho (by simp:g ∈ g::m)] at this
  exact absurd this.symm (hg g (by simp))
 | f::l,g::m,ho,ho',hf,hg,h=>by
  have key:∀ {a b:Fl} {l m:List Fl},ordL (a::l)→ordL (b::m)→fullL (a::l)→(∀ c r,txt (a::l) c r=txt (b::m) c r)→¬ lessF a b:=fun {a b l m} h1 h2 h3 h4 hlt=>by
   have h5:=h4 a.c a.r
   rw[txt_mem h1 (by simp:a ∈ a::l)] at h5
   have h6:txt (b::m) a.c a.r=[]:=txt_none fun x hx=>by
    rcases List.mem_cons.1 hx with rfl|hx
    ·exact less_not hlt
    ·refine less_not ?_
     have:=h2.1 x hx
     unfold lessF at *
     omega
   rw[h6] at h5
   exact h3 a (by simp) h5
  have n1:=key ho ho' hf h
  have n2:=key ho' ho hg (fun c r=>(h c r).symm)
  have hc:g.c=f.c∧g.r=f.r:=by unfold lessF at n1 n2;omega
  have ht:=h f.c f.r
  unfold txt at ht
  rw[if_pos ⟨rfl,rfl⟩,if_pos hc] at ht
  have e:f=g:=by
   obtain ⟨a,b,t⟩:=f
   obtain ⟨a',b',t'⟩:=g
   obtain ⟨rfl,rfl⟩:=hc
   simp only at ht
   rw[ht]
  subst e
  refine congrArg (List.cons f) (sheet_ext ho.2 ho'.2 (fun x hx=>hf x (by simp[hx])) (fun x hx=>hg x (by simp[hx])) fun c r=>?_)
  have h0:=h c r
  unfold txt at h0
  by_cases hs:f.c=c∧f.r=r
  ·obtain ⟨rfl,rfl⟩:=hs
   rw[txt_none fun x hx=>less_not (ho.1 x hx),txt_none fun x hx=>less_not (ho'.1 x hx)]
  ·rw[if_neg hs,if_neg hs] at h0
   exact h0
theorem txt_fold {b:List Fl} {c r:Int}:∀ {d s:List Fl},ordL s→(∀ f ∈ d,f.t=txt b f.c f.r)→txt (d.foldl (fun s f=>withL f.c f.r f.t s) s) c r=if ∃ f ∈ d,sameC f c r then txt b c r else txt s c r
 | [],s,_,_=>by simp
 | f::d,s,ho,h=>by
  rw[List.foldl_cons,txt_fold (ordL_with ho) (fun g hg=>h g (by simp[hg])),txt_with ho]
  by_cases h1:∃ g ∈ d,sameC g c r
  ·rw[if_pos h1,if_pos ?_]
   obtain ⟨g,hg,hs⟩:=h1
   exact ⟨g,by simp[hg],hs⟩
  ·rw[if_neg h1]
   by_cases h2:c=f.c∧r=f.r
   ·have h3:∃ g ∈ f::d,sameC g c r:=⟨f,by simp,by unfold sameC;omega⟩
    rw[if_pos h2,if_pos h3,h f (by simp),h2.1,h2.2]
   ·have h3:¬ ∃ g ∈ f::d,sameC g c r:=by
     rintro ⟨g,hg,hs⟩
     rcases List.mem_cons.1 hg with rfl|hg
     ·unfold sameC at hs;omega
     ·exact h1 ⟨g,hg,hs⟩
    rw[if_neg h2,if_neg h3]
theorem fold_ord:∀ {d s:List Fl},ordL s→ordL (d.foldl (fun s f=>withL f.c f.r f.t s) s)
 | [],_,h=>h
 | _::d,_,h=>fold_ord (d:=d) (ordL_with h)
theorem fold_full:∀ {d s:List Fl},fullL s→fullL (d.foldl (fun s f=>withL f.c f.r f.t s) s)
 | [],_,h=>h
 | _::d,_,h=>fold_full (d:=d) (full_with h)
def diffL (a b:List Fl) (cs:List (Int×Int)):List Fl:=(cs.filter fun p=>decide (txt a p.1 p.2≠txt b p.1 p.2)).map fun p=>⟨p.1,p.2,txt b p.1 p.2⟩
theorem txt_cell {l:List Fl} {c r:Int} {cs:List (Int×Int)} (h:∀ f ∈ l,(f.c,f.r) ∈ cs) (hn:(c,r) ∉ cs):txt l c r=[]:=txt_none fun f hf hs=>hn (by rw[← hs.1,← hs.2];exact h f hf)
theorem diff_apply {a b s:List Fl} {cs:List (Int×Int)} (hs:ordL s) (hb:ordL b) (fs:fullL s) (fb:fullL b) (ca:∀ f ∈ a,(f.c,f.r) ∈ cs) (cb:∀ f ∈ b,(f.c,f.r) ∈ cs) (hsb:s=a∨s=b):(diffL a b cs).foldl (fun s f=>withL f.c f.r f.t s) s=b:=by
 have hd:∀ f ∈ diffL a b cs,f.t=txt b f.c f.r:=fun f hf=>by
  obtain ⟨p,_,rfl⟩:=List.mem_map.1 hf
  rfl
 refine sheet_ext (fold_ord hs) hb (fold_full fs) fb fun c r=>?_
 rw[txt_fold hs hd]
 by_cases h:∃ f ∈ diffL a b cs,sameC f c r
 ·rw[if_pos h]
 ·rw[if_neg h]
  rcases hsb with rfl|rfl
  ·by_cases hc:(c,r) ∈ cs
   ·refine Classical.byContradiction fun hne=>h ⟨⟨c,r,txt b c r⟩,?_,rfl,rfl⟩
    exact List.mem_map.2 ⟨(c,r),List.mem_filter.2 ⟨hc,by simpa using hne⟩,rfl⟩
   ·rw[txt_cell ca hc,txt_cell cb hc]
  ·rfl
end Go.Proofs.YtcdjjjokniinkaaGreatDoor
end
section
namespace Go.Proofs.YtcdjjjokniinkaaGreatDoor
open Go Go.RowKit Go.EYtcdjjjokniinkaaGreatDoor
set_option maxRecDepth 100000
set_option maxHeartbeats 4000000
variable {gl:List (Nat×List D)}
theorem look_txt {l:List Fl} (ho:ordL l) (c r:Int):(∃ (i:Nat),(l.map cF)[i]?=some (cellD c r)∧(l.map txF)[i]?=some (.str (txt l c r)))∨(cellD c r ∉ l.map cF∧txt l c r=[]):=by
 by_cases h:∃ f ∈ l,sameC f c r
 ·obtain ⟨f,hf,hs⟩:=h
  obtain ⟨i,hi,rfl⟩:=List.getElem_of_mem hf
  refine .inl ⟨i,by rw[List.getElem?_map,List.getElem?_eq_getElem hi,← hs.1,← hs.2];rfl,?_⟩
  rw[List.getElem?_map,List.getElem?_eq_getElem hi,← hs.1,← hs.2,txt_mem ho (List.getElem_mem hi)]
  rfl
 ·refine .inr ⟨fun hm=>?_,txt_none fun f hf hs=>h ⟨f,hf,hs⟩⟩
  obtain ⟨f,hf,he⟩:=List.mem_map.1 hm
  exact h ⟨f,hf,cellD_inj he⟩
theorem diffL_snoc {a b:List Fl} {cs:List (Int×Int)} {k:Nat} (h:k<cs.length):diffL a b (cs.take (k+1))=if txt a cs[k].1 cs[k].2≠txt b cs[k].1 cs[k].2 then diffL a b (cs.take k)++[⟨cs[k].1,cs[k].2,txt b cs[k].1 cs[k].2⟩] else diffL a b (cs.take k):=by
 unfold diffL
 rw[List.take_succ_eq_append_getElem h,List.filter_append,List.map_append]
 by_cases hh:txt a cs[k].1 cs[k].2=txt b cs[k].1 cs[k].2
 ·simp[hh]
 ·simp[hh]
theorem diffL_len (a b:List Fl) (cs:List (Int×Int)):(diffL a b cs).length≤cs.length:=by
 unfold diffL
 rw[List.length_map]
 exact List.length_filter_le _ _
theorem Diff_e (a b:List Fl) (e:Int) (_he:e≠0) (c0:FnP Tryz.prog gl 14 [.lst 1 ([a,b].map shR)] (erD e)):FnP Tryz.prog gl 7 [.lst 3 (a.map flD),.lst 3 (b.map flD)] (.tup [.v (.slice none 0 0),erD e]):=by
 refine fnP_of_vc (nv:=9999) (cu:=[]) fits mixed Tryz.func7 rfl hoB rfl ?_
 ((repeat' ((conv=>whnf);first|exact .intro|refine .ya ?_|refine .na ?_|refine .ys ?_|refine .ns ?_|refine .neg (fun _=>?_) (fun _=>?_)|refine .mk (fun _=>?_) (fun _=>?_)|refine .inl (.inl (X1 (c0) ?_))|refine .inl (X1 (c0) ?_)|refine X1 (c0) ?_|refine .mk ?_ ?_|refine AK ?_|refine AT ?_|fail));all_goals conv=>whnf)
 all_goals exact LeD.rfl
theorem Diff_s (a b:List Fl) (cs:List (Int×Int)) (hcs:cs.length≤65536) (oa:ordL a) (ob:ordL b) (c0:FnP Tryz.prog gl 14 [.lst 1 ([a,b].map shR)] (.v .nilIface)) (cA:FnP Tryz.prog gl 20 [.lst 3 (a.map flD)] (mpD a)) (cB:FnP Tryz.prog gl 20 [.lst 3 (b.map flD)] (mpD b))
 (cC:FnP Tryz.prog gl 21 [.lst 1 ([a,b].map shR)] (.lst 2 (cs.map rowC))):FnP Tryz.prog gl 7 [.lst 3 (a.map flD),.lst 3 (b.map flD)] (.tup [.lst 3 ((diffL a b cs).map flD),.v .nilIface]):=by
 have hlen:(cs.map rowC).length=cs.length:=List.length_map _
 refine fnP_of_vc (nv:=9999) (cu:=[]) fits mixed Tryz.func7 rfl hoB rfl ?_
 ((repeat' ((conv=>whnf);first|exact .intro|refine .ya ?_|refine .na ?_|refine .ys ?_|refine .ns ?_|refine .neg (fun _=>?_) (fun _=>?_)|refine .mk (fun _=>?_) (fun _=>?_)|refine .inl (.inl (X1 (by first|exact c0|exact cA|exact cB) ?_))|refine .inl (X1 (by first|exact c0|exact cA|exact cB) ?_)|refine X1 (by first|exact c0|exact cA|exact cB) ?_|refine .inr (X1 (by first|exact cC) ?_)|refine .mk ?_ ?_|refine AK ?_|refine AT ?_|fail));all_goals conv=>whnf)
 refine ⟨{ σ:=Nat,fr:=fun k=>[(28,.c (.d (iD (k:Int)))),(9,.c (.all 3 2))],ks:=[],L:=fun k=>[(2,.rows 3 ((diffL a b (cs.take k)).map flD) 31)],ex:=1,I:=fun k=>k≤cs.length,μ:=fun k=>cs.length - k },⟨0,Nat.zero_le _,?_⟩,fun (k:Nat) hk=>?_⟩
 ·((repeat' first|exact rfl|((conv=>whnf);first|done|exact suL|refine And.intro ?_ ?_|fail));all_goals conv=>whnf)
  all_goals first|exact .inr (.inr (.inl ⟨rfl,3,2,rfl,by decide⟩))|exact ⟨3,_,rfl,by decide,Nat.le_refl _⟩|skip
 ·replace hk:k≤cs.length:=hk
  have e0:IntKind.i64.wrap ((k:Int)+1)=((k+1:Nat):Int):=by rw[wrapI (by omega)];rfl
  by_cases hlt:k<cs.length
  ·have h2:(k:Int)<(((cs.map rowC).length:Nat):Int):=by omega
   have g1:=get_map (f:=rowC) hlt
   have hsn:=diffL_snoc (a:=a) (b:=b) hlt
   have hdl:((diffL a b (cs.take k)).map flD).length≤65536:=by
    rw[List.length_map]
    refine Nat.le_trans (diffL_len _ _ _) ?_
    rw[List.length_take]
    omega
   have b1:(((diffL a b (cs.take k)).map flD).length+1) * 32≤140737488355328:=by omega
   have b2:((diffL a b (cs.take k)).map flD).length+1≤maxLen:=by unfold maxLen;omega
   generalize cs[k]=p at g1 hsn
   obtain ⟨p1,p2⟩:=p
   have hl:=look_txt oa p1 p2
   have hr:=look_txt ob p1 p2
   simp only at hsn
   generalize txt a p1 p2=ta at hl hsn
   generalize txt b p1 p2=tb at hr hsn
   by_cases hne:ta=tb
   ·rw[if_neg (by simp[hne])] at hsn
    rcases hl with ⟨i,hi⟩|⟨hi,rfl⟩ <;> rcases hr with ⟨j,hj⟩|⟨hj,rfl⟩
    ·((repeat' ((conv=>whnf);first|exact .intro|refine .ya ?_|refine .na ?_|refine .ys ?_|refine .ns ?_|refine .neg (fun _=>?_) (fun _=>?_)|refine .mk (fun _=>?_) (fun _=>?_)|(first|refine ⟨Int.natCast_nonneg _,_,g1,?_⟩|refine ⟨3,⟨key_cell,rfl,keys_S _⟩,by kernel_rfl,.inl ⟨_,_,hi,?_⟩⟩|refine ⟨3,⟨key_cell,rfl,keys_S _⟩,by kernel_rfl,.inl ⟨_,_,hj,?_⟩⟩|refine ⟨3,⟨key_cell,rfl,keys_S _⟩,by kernel_rfl,.inr ⟨hi,?_⟩⟩|refine ⟨3,⟨key_cell,rfl,keys_S _⟩,by kernel_rfl,.inr ⟨hj,?_⟩⟩|refine ⟨⟨rfl,b1,b2⟩,?_⟩)|refine .mk ?_ ?_|refine AK ?_|refine AT ?_|fail));all_goals conv=>whnf)
     all_goals first|exact absurd rfl hne|skip
     all_goals refine ⟨k+1,⟨hlt,by show cs.length - (k+1)<cs.length - k;omega⟩,?_⟩
     all_goals ((repeat' first|exact rfl|((conv=>whnf);first|done|exact suL|refine And.intro ?_ ?_|fail));all_goals conv=>whnf)
     all_goals first|exact ceq e0|(rw[hsn];done)|(rw[hsn,List.map_append];rfl)|skip
    ·((repeat' ((conv=>whnf);first|exact .intro|refine .ya ?_|refine .na ?_|refine .ys ?_|refine .ns ?_|refine .neg (fun _=>?_) (fun _=>?_)|refine .mk (fun _=>?_) (fun _=>?_)|(first|refine ⟨Int.natCast_nonneg _,_,g1,?_⟩|refine ⟨3,⟨key_cell,rfl,keys_S _⟩,by kernel_rfl,.inl ⟨_,_,hi,?_⟩⟩|refine ⟨3,⟨key_cell,rfl,keys_S _⟩,by kernel_rfl,.inl ⟨_,_,hj,?_⟩⟩|refine ⟨3,⟨key_cell,rfl,keys_S _⟩,by kernel_rfl,.inr ⟨hi,?_⟩⟩|refine ⟨3,⟨key_cell,rfl,keys_S _⟩,by kernel_rfl,.inr ⟨hj,?_⟩⟩|refine ⟨⟨rfl,b1,b2⟩,?_⟩)|refine .mk ?_ ?_|refine AK ?_|refine AT ?_|fail));all_goals conv=>whnf)
     all_goals first|exact absurd rfl hne|skip
     all_goals refine ⟨k+1,⟨hlt,by show cs.length - (k+1)<cs.length - k;omega⟩,?_⟩
     all_goals ((repeat' first|exact rfl|((conv=>whnf);first|done|exact suL|refine And.intro ?_ ?_|fail));all_goals conv=>whnf)
     all_goals first|exact ceq e0|(rw[hsn];done)|(rw[hsn,List.map_append];rfl)|skip
    ·((repeat' ((conv=>whnf);first|exact .intro|refine .ya ?_|refine .na ?_|refine .ys ?_|refine .ns ?_|refine .neg (fun _=>?_) (fun _=>?_)|refine .mk (fun _=>?_) (fun _=>?_)|(first|refine ⟨Int.natCast_nonneg _,_,g1,?_⟩|refine ⟨3,⟨key_cell,rfl,keys_S _⟩,by kernel_rfl,.inl ⟨_,_,hi,?_⟩⟩|refine ⟨3,⟨key_cell,rfl,keys_S _⟩,by kernel_rfl,.inl ⟨_,_,hj,?_⟩⟩|refine ⟨3,⟨key_cell,rfl,keys_S _⟩,by kernel_rfl,.inr ⟨hi,?_⟩⟩|refine ⟨3,⟨key_cell,rfl,keys_S _⟩,by kernel_rfl,.inr ⟨hj,?_⟩⟩|refine ⟨⟨rfl,b1,b2⟩,?_⟩)|refine .mk ?_ ?_|refine AK ?_|refine AT ?_|fail));all_goals conv=>whnf)
     all_goals first|exact absurd rfl hne|skip
     all_goals refine ⟨k+1,⟨hlt,by show cs.length - (k+1)<cs.length - k;omega⟩,?_⟩
     all_goals ((repeat' first|exact rfl|((conv=>whnf);first|done|exact suL|refine And.intro ?_ ?_|fail));all_goals conv=>whnf)
     all_goals first|exact ceq e0|(rw[hsn];done)|(rw[hsn,List.map_append];rfl)|skip
    ·((repeat' ((conv=>whnf);first|exact .intro|refine .ya ?_|refine .na ?_|refine .ys ?_|refine .ns ?_|refine .neg (fun _=>?_) (fun _=>?_)|refine .mk (fun _=>?_) (fun _=>?_)|(first|refine ⟨Int.natCast_nonneg _,_,g1,?_⟩|refine ⟨3,⟨key_cell,rfl,keys_S _⟩,by kernel_rfl,.inl ⟨_,_,hi,?_⟩⟩|refine ⟨3,⟨key_cell,rfl,keys_S _⟩,by kernel_rfl,.inl ⟨_,_,hj,?_⟩⟩|refine ⟨3,⟨key_cell,rfl,keys_S _⟩,by kernel_rfl,.inr ⟨hi,?_⟩⟩|refine ⟨3,⟨key_cell,rfl,keys_S _⟩,by kernel_rfl,.inr ⟨hj,?_⟩⟩|refine ⟨⟨rfl,b1,b2⟩,?_⟩)|refine .mk ?_ ?_|refine AK ?_|refine AT ?_|fail));all_goals conv=>whnf)
     all_goals first|exact absurd rfl hne|skip
     all_goals refine ⟨k+1,⟨hlt,by show cs.length - (k+1)<cs.length - k;omega⟩,?_⟩
     all_goals ((repeat' first|exact rfl|((conv=>whnf);first|done|exact suL|refine And.intro ?_ ?_|fail));all_goals conv=>whnf)
     all_goals first|exact ceq e0|(rw[hsn];done)|(rw[hsn,List.map_append];rfl)|skip
   ·rw[if_pos hne] at hsn
    rcases hl with ⟨i,hi⟩|⟨hi,rfl⟩ <;> rcases hr with ⟨j,hj⟩|⟨hj,rfl⟩
    ·((repeat' ((conv=>whnf);first|exact .intro|refine .ya ?_|refine .na ?_|refine .ys ?_|refine .ns ?_|refine .neg (fun _=>?_) (fun _=>?_)|refine .mk (fun _=>?_) (fun _=>?_)|(first|refine ⟨Int.natCast_nonneg _,_,g1,?_⟩|refine ⟨3,⟨key_cell,rfl,keys_S _⟩,by kernel_rfl,.inl ⟨_,_,hi,?_⟩⟩|refine ⟨3,⟨key_cell,rfl,keys_S _⟩,by kernel_rfl,.inl ⟨_,_,hj,?_⟩⟩|refine ⟨3,⟨key_cell,rfl,keys_S _⟩,by kernel_rfl,.inr ⟨hi,?_⟩⟩|refine ⟨3,⟨key_cell,rfl,keys_S _⟩,by kernel_rfl,.inr ⟨hj,?_⟩⟩|refine ⟨⟨rfl,b1,b2⟩,?_⟩)|refine .mk ?_ ?_|refine AK ?_|refine AT ?_|fail));all_goals conv=>whnf)
     all_goals first|exact absurd rfl hne|skip
     all_goals refine ⟨k+1,⟨hlt,by show cs.length - (k+1)<cs.length - k;omega⟩,?_⟩
     all_goals ((repeat' first|exact rfl|((conv=>whnf);first|done|exact suL|refine And.intro ?_ ?_|fail));all_goals conv=>whnf)
     all_goals first|exact ceq e0|(rw[hsn];done)|(rw[hsn,List.map_append];rfl)|skip
    ·((repeat' ((conv=>whnf);first|exact .intro|refine .ya ?_|refine .na ?_|refine .ys ?_|refine .ns ?_|refine .neg (fun _=>?_) (fun _=>?_)|refine .mk (fun _=>?_) (fun _=>?_)|(first|refine ⟨Int.natCast_nonneg _,_,g1,?_⟩|refine ⟨3,⟨key_cell,rfl,keys_S _⟩,by kernel_rfl,.inl ⟨_,_,hi,?_⟩⟩|refine ⟨3,⟨key_cell,rfl,keys_S _⟩,by kernel_rfl,.inl ⟨_,_,hj,?_⟩⟩|refine ⟨3,⟨key_cell,rfl,keys_S _⟩,by kernel_rfl,.inr ⟨hi,?_⟩⟩|refine ⟨3,⟨key_cell,rfl,keys_S _⟩,by kernel_rfl,.inr ⟨hj,?_⟩⟩|refine ⟨⟨rfl,b1,b2⟩,?_⟩)|refine .mk ?_ ?_|refine AK ?_|refine AT ?_|fail));all_goals conv=>whnf)
     all_goals first|exact absurd rfl hne|skip
     all_goals refine ⟨k+1,⟨hlt,by show cs.length - (k+1)<cs.length - k;omega⟩,?_⟩
     all_goals ((repeat' first|exact rfl|((conv=>whnf);first|done|exact suL|refine And.intro ?_ ?_|fail));all_goals conv=>whnf)
     all_goals first|exact ceq e0|(rw[hsn];done)|(rw[hsn,List.map_append];rfl)|skip
    ·((repeat' ((conv=>whnf);first|exact .intro|refine .ya ?_|refine .na ?_|refine .ys ?_|refine .ns ?_|refine .neg (fun _=>?_) (fun _=>?_)|refine .mk (fun _=>?_) (fun _=>?_)|(first|refine ⟨Int.natCast_nonneg _,_,g1,?_⟩|refine ⟨3,⟨key_cell,rfl,keys_S _⟩,by kernel_rfl,.inl ⟨_,_,hi,?_⟩⟩|refine ⟨3,⟨key_cell,rfl,keys_S _⟩,by kernel_rfl,.inl ⟨_,_,hj,?_⟩⟩|refine ⟨3,⟨key_cell,rfl,keys_S _⟩,by kernel_rfl,.inr ⟨hi,?_⟩⟩|refine ⟨3,⟨key_cell,rfl,keys_S _⟩,by kernel_rfl,.inr ⟨hj,?_⟩⟩|refine ⟨⟨rfl,b1,b2⟩,?_⟩)|refine .mk ?_ ?_|refine AK ?_|refine AT ?_|fail));all_goals conv=>whnf)
     all_goals first|exact absurd rfl hne|skip
     all_goals refine ⟨k+1,⟨hlt,by show cs.length - (k+1)<cs.length - k;omega⟩,?_⟩
     all_goals ((repeat' first|exact rfl|((conv=>whnf);first|done|exact suL|refine And.intro ?_ ?_|fail));all_goals conv=>whnf)
     all_goals first|exact ceq e0|(rw[hsn];done)|(rw[hsn,List.map_append];rfl)|skip
    ·((repeat' ((conv=>whnf);first|exact .intro|refine .ya ?_|refine .na ?_|refine .ys ?_|refine .ns ?_|refine .neg (fun _=>?_) (fun _=>?_)|refine .mk (fun _=>?_) (fun _=>?_)|(first|refine ⟨Int.natCast_nonneg _,_,g1,?_⟩|refine ⟨3,⟨key_cell,rfl,keys_S _⟩,by kernel_rfl,.inl ⟨_,_,hi,?_⟩⟩|refine ⟨3,⟨key_cell,rfl,keys_S _⟩,by kernel_rfl,.inl ⟨_,_,hj,?_⟩⟩|refine ⟨3,⟨key_cell,rfl,keys_S _⟩,by kernel_rfl,.inr ⟨hi,?_⟩⟩|refine ⟨3,⟨key_cell,rfl,keys_S _⟩,by kernel_rfl,.inr ⟨hj,?_⟩⟩|refine ⟨⟨rfl,b1,b2⟩,?_⟩)|refine .mk ?_ ?_|refine AK ?_|refine AT ?_|fail));all_goals conv=>whnf)
     all_goals first|exact absurd rfl hne|skip
     all_goals refine ⟨k+1,⟨hlt,by show cs.length - (k+1)<cs.length - k;omega⟩,?_⟩
     all_goals ((repeat' first|exact rfl|((conv=>whnf);first|done|exact suL|refine And.intro ?_ ?_|fail));all_goals conv=>whnf)
     all_goals first|exact ceq e0|(rw[hsn];done)|(rw[hsn,List.map_append];rfl)|skip
  ·have h2:¬ (k:Int)<(((cs.map rowC).length:Nat):Int):=by omega
   obtain rfl:k=cs.length:=by omega
   ((repeat' ((conv=>whnf);first|exact .intro|refine .ya ?_|refine .na ?_|refine .ys ?_|refine .ns ?_|refine .neg (fun _=>?_) (fun _=>?_)|refine .mk (fun _=>?_) (fun _=>?_)|refine .mk ?_ ?_|refine AK ?_|refine AT ?_|fail));all_goals conv=>whnf)
   all_goals exact LeD.of (by rw[List.take_length];rfl)
end Go.Proofs.YtcdjjjokniinkaaGreatDoor
end
section
namespace Go.Proofs.YtcdjjjokniinkaaGreatDoor
open Go Go.RowKit Go.EYtcdjjjokniinkaaGreatDoor
set_option maxRecDepth 100000
set_option maxHeartbeats 4000000
variable {gl:List (Nat×List D)}
theorem Apply_s (s d:List Fl) (hs:ordL s) (hsl:s.length≤200) (c0:FnP Tryz.prog gl 14 [.lst 1 ([s].map shR)] (.v .nilIface)) (hd:d.length≤60000) (hok:∀ f ∈ d,okP f.c f.r) (hord:ordL d) (ct:∀ f ∈ d,FnP Tryz.prog gl 17 [.str f.t] (.v .nilIface))
 (hfin:(wsL s d d.length).length≤200):FnP Tryz.prog gl 5 [.lst 3 (s.map flD),.lst 3 (d.map flD)] (.tup [.lst 3 ((wsL s d d.length).map flD),.v .nilIface]):=by
 have hml:(d.map flD).length=d.length:=List.length_map _
 refine fnP_of_vc (nv:=9999) (cu:=[]) fits mixed Tryz.func5 rfl hoB rfl ?_
 ((repeat' ((conv=>whnf);first|exact .intro|refine .ya ?_|refine .na ?_|refine .ys ?_|refine .ns ?_|refine .neg (fun _=>?_) (fun _=>?_)|refine .mk (fun _=>?_) (fun _=>?_)|refine .inl (.inl (X1 (c0) ?_))|refine .inl (X1 (c0) ?_)|refine X1 (c0) ?_|refine .mk ?_ ?_|refine AK ?_|refine AT ?_|fail));all_goals conv=>whnf)
 refine ⟨{ σ:=Nat,fr:=fun k=>[(20,.c (.d (iD (k:Int))))],ks:=[],L:=fun k=>[],ex:=0,I:=fun k=>k≤d.length,μ:=fun k=>d.length - k },⟨0,Nat.zero_le _,?_⟩,fun (k:Nat) hk=>?_⟩
 ·((repeat' first|exact rfl|((conv=>whnf);first|done|exact suL|refine And.intro ?_ ?_|fail));all_goals conv=>whnf)
 ·replace hk:k≤d.length:=hk
  have e0:IntKind.i64.wrap ((k:Int)+1)=((k+1:Nat):Int):=by rw[wrapI (by omega)];rfl
  by_cases hlt:k<d.length
  ·have h2:(k:Int)<((d.map flD).length:Nat):=by omega
   have c1:=Check_s (gl:=gl) (hok _ (List.getElem_mem hlt))
   have c4:=ct _ (List.getElem_mem hlt)
   have hk1:k - 1<d.length:=by omega
   have c3:=Less_d (gl:=gl) (d[k - 1]'hk1).c (d[k - 1]'hk1).r d[k].c d[k].r
   have g1:=get_map (f:=flD) hlt
   have g2:=get_map (f:=flD) (show k - 1<d.length by omega)
   by_cases hp:(k:Int)>0
   ·have e1:IntKind.i64.wrap ((k:Int) - 1)=((k - 1:Nat):Int):=by rw[wrapI (by omega)];omega
    have hls:lessF (d[k - 1]'hk1) d[k]:=ordL_at hord (by omega) hlt
    ((repeat' ((conv=>whnf);first|exact .intro|refine .ya ?_|refine .na ?_|refine .ys ?_|refine .ns ?_|refine .neg (fun _=>?_) (fun _=>?_)|refine .mk (fun _=>?_) (fun _=>?_)|refine .inl (.inl (X1 (by first|exact c1|exact c3|exact c4) ?_))|refine .inl (X1 (by first|exact c1|exact c3|exact c4) ?_)|refine X1 (by first|exact c1|exact c3|exact c4) ?_|(first|rw[e1]|refine ⟨Int.natCast_nonneg _,_,g1,?_⟩|refine ⟨Int.natCast_nonneg _,_,g2,?_⟩)|refine .mk ?_ ?_|refine AK ?_|refine AT ?_|fail));all_goals conv=>whnf)
    all_goals refine ⟨k+1,⟨hlt,by show d.length - (k+1)<d.length - k;omega⟩,?_⟩
    all_goals ((repeat' first|exact rfl|((conv=>whnf);first|done|exact suL|refine And.intro ?_ ?_|fail));all_goals conv=>whnf)
    all_goals exact ceq e0
   ·((repeat' ((conv=>whnf);first|exact .intro|refine .ya ?_|refine .na ?_|refine .ys ?_|refine .ns ?_|refine .neg (fun _=>?_) (fun _=>?_)|refine .mk (fun _=>?_) (fun _=>?_)|refine .inl (.inl (X1 (by first|exact c1|exact c3|exact c4) ?_))|refine .inl (X1 (by first|exact c1|exact c3|exact c4) ?_)|refine X1 (by first|exact c1|exact c3|exact c4) ?_|(first|refine ⟨Int.natCast_nonneg _,_,g1,?_⟩|refine ⟨Int.natCast_nonneg _,_,g2,?_⟩)|refine .mk ?_ ?_|refine AK ?_|refine AT ?_|fail));all_goals conv=>whnf)
    all_goals refine ⟨k+1,⟨hlt,by show d.length - (k+1)<d.length - k;omega⟩,?_⟩
    all_goals ((repeat' first|exact rfl|((conv=>whnf);first|done|exact suL|refine And.intro ?_ ?_|fail));all_goals conv=>whnf)
    all_goals exact ceq e0
  ·have h2:¬ (k:Int)<((d.map flD).length:Nat):=by omega
   ((repeat' ((conv=>whnf);first|exact .intro|refine .ya ?_|refine .na ?_|refine .ys ?_|refine .ns ?_|refine .neg (fun _=>?_) (fun _=>?_)|refine .mk (fun _=>?_) (fun _=>?_)|refine .mk ?_ ?_|refine AK ?_|refine AT ?_|fail));all_goals conv=>whnf)
   refine ⟨{ σ:=Nat,fr:=fun j=>[(56,.c (.d (iD (j:Int)))),(0,.c (.d (.lst 3 ((wsL s d j).map flD))))],ks:=[],L:=fun j=>[],ex:=0,I:=fun j=>j≤d.length,μ:=fun j=>d.length - j },⟨0,Nat.zero_le _,?_⟩,fun (j:Nat) hj=>?_⟩
   ·((repeat' first|exact rfl|((conv=>whnf);first|done|exact suL|refine And.intro ?_ ?_|fail));all_goals conv=>whnf)
   ·replace hj:j≤d.length:=hj
    have e2:IntKind.i64.wrap ((j:Int)+1)=((j+1:Nat):Int):=by rw[wrapI (by omega)];rfl
    by_cases hjl:j<d.length
    ·have h3:(j:Int)<((d.map flD).length:Nat):=by omega
     have g3:=get_map (f:=flD) hjl
     have hwl:=wsL_len s d j
     have c5:=With_d (gl:=gl) (wsL s d j) d[j].c d[j].r d[j].t (wsL_ord hs d j) (by omega)
     rw[← wsL_succ s hjl] at c5
     ((repeat' ((conv=>whnf);first|exact .intro|refine .ya ?_|refine .na ?_|refine .ys ?_|refine .ns ?_|refine .neg (fun _=>?_) (fun _=>?_)|refine .mk (fun _=>?_) (fun _=>?_)|refine .inl (.inl (X1 (c5) ?_))|refine .inl (X1 (c5) ?_)|refine X1 (c5) ?_|(refine ⟨Int.natCast_nonneg _,_,g3,?_⟩)|refine .mk ?_ ?_|refine AK ?_|refine AT ?_|fail));all_goals conv=>whnf)
     all_goals refine ⟨j+1,⟨hjl,by show d.length - (j+1)<d.length - j;omega⟩,?_⟩
     all_goals ((repeat' first|exact rfl|((conv=>whnf);first|done|exact suL|refine And.intro ?_ ?_|fail));all_goals conv=>whnf)
     all_goals exact ceq e2
    ·have h3:¬ (j:Int)<((d.map flD).length:Nat):=by omega
     obtain rfl:j=d.length:=by omega
     have h4:¬ ((((wsL s d d.length).map flD).length:Nat):Int)>200:=by rw[List.length_map];omega
     have c6:=FClone_d (gl:=gl) (wsL s d d.length) (by omega)
     ((repeat' ((conv=>whnf);first|exact .intro|refine .ya ?_|refine .na ?_|refine .ys ?_|refine .ns ?_|refine .neg (fun _=>?_) (fun _=>?_)|refine .mk (fun _=>?_) (fun _=>?_)|refine .inl (.inl (X1 (c6) ?_))|refine .inl (X1 (c6) ?_)|refine X1 (c6) ?_|refine .mk ?_ ?_|refine AK ?_|refine AT ?_|fail));all_goals conv=>whnf)
     all_goals exact LeD.rfl
end Go.Proofs.YtcdjjjokniinkaaGreatDoor
end
section
namespace Go.Proofs.YtcdjjjokniinkaaGreatDoor
open Go Go.RowKit Go.EYtcdjjjokniinkaaGreatDoor
set_option maxRecDepth 100000
set_option maxHeartbeats 4000000
variable {gl:List (Nat×List D)}
theorem fnP_arg1 {P:Program} {g:Nat} {d d' r:D} {ds:List D} (h:FnP P gl g (d'::ds) r) (hl:LeD d d'):FnP P gl g (d::ds) r:=fun w M xs hM hG hd=>by
 match xs,hd with
 | x::xs,⟨hx,hd⟩=>exact h w M (x::xs) hM hG ⟨hl.1 _ _ _ hx,hd⟩
theorem ordL_pair:∀ {l:List Fl},l.Pairwise lessF→ordL l
 | [],_=>trivial
 | _f::_l,h=>⟨(List.pairwise_cons.1 h).1,ordL_pair (List.pairwise_cons.1 h).2⟩
theorem diffL_ord {a b:List Fl} {cs:List (Int×Int)} (h:cs.Pairwise lesP):ordL (diffL a b cs):=by
 refine ordL_pair ?_
 unfold diffL
 refine List.pairwise_map.2 ((h.filter _).imp fun {p q} hpq=>?_)
 unfold lesP at hpq
 unfold lessF
 simp only
 omega
theorem allC_mem {ls:List (List Fl)} {p:Int×Int}:p ∈ allC ls↔∃ l ∈ ls,∃ f ∈ l,(f.c,f.r)=p:=by
 unfold allC cellsL
 simp only[List.mem_flatMap,List.mem_map]
theorem cellsZ_mem {ls:List (List Fl)} {p:Int×Int}:p ∈ cellsZ ls↔∃ l ∈ ls,∃ f ∈ l,(f.c,f.r)=p:=by
 unfold cellsZ
 rw[dedC_mem,sortC_mem,allC_mem]
theorem cellsZ_len (ls:List (List Fl)):(cellsZ ls).length≤(allC ls).length:=by
 unfold cellsZ
 refine Nat.le_trans (dedC_len _) ?_
 rw[sortC_len]
 exact Nat.le_refl _
theorem cellsZ_rise (ls:List (List Fl)):(cellsZ ls).Pairwise lesP:=dedC_rise (sortC_sorted _)
theorem allC_two (a b:List Fl):(allC [a,b]).length=a.length+b.length:=by
 unfold allC
 rw[List.flatMap_cons,List.flatMap_cons,List.flatMap_nil,List.append_nil,List.length_append,cellsL_len,cellsL_len]
theorem goodT {rf:List UInt8→Option Rf} {l:List Fl} (h:goodZ rf l) {f:Fl} (hf:f ∈ l):f.t≠[]∧textZ rf f.t=0:=by
 obtain ⟨k,hk,rfl⟩:=List.getElem_of_mem hf
 have h1:=h.2 k hk
 rw[stepZ_at hk] at h1
 split at h1
 ·split at h1
  ·split at h1
   ·omega
   ·rename_i h2
    exact ⟨h2,h1⟩
  ·omega
 ·omega
theorem good_full {rf:List UInt8→Option Rf} {l:List Fl} (h:goodZ rf l):fullL l:=fun _f hf=>(goodT h hf).1
theorem wsL_all (s d:List Fl):wsL s d d.length=d.foldl (fun s f=>withL f.c f.r f.t s) s:=by
 unfold wsL
 rw[List.take_length]
section
variable (te:TypeId) (pe:Value) (hV:Has gl (glV te pe)) (hl:Go.EYtcdjjjokniinkaaGreatDoor.look gl 1=some lvAll) {rf:List UInt8→Option Rf} (hR:RefsOk rf)
include hV hl hR
theorem gText_0 {s:List UInt8} (h:textZ rf s=0):FnP Tryz.prog gl 17 [.str s] (.v .nilIface):=by
 rcases gText_d te pe hV hl hR s with ⟨_,c⟩|⟨e,he,hz,_⟩
 ·exact c
 ·omega
theorem check_ok (ls:List (List Fl)) (hn:ls.length≤1000) (h:∀ l ∈ ls,goodZ rf l):FnP Tryz.prog gl 14 [.lst 1 (ls.map shR)] (.v .nilIface):=by
 refine mcheck_m ls hn ls.length _ (Nat.le_refl _) (fun k hk _=>?_) (.inl ⟨rfl,rfl⟩)
 rcases gCheck_d te pe hV hl hR ls[k] with ⟨_,c⟩|⟨hb,_⟩
 ·exact c
 ·exact absurd (h _ (List.getElem_mem hk)) hb
theorem check_no (ls:List (List Fl)) (hn:ls.length≤1000) (h:¬ ∀ l ∈ ls,goodZ rf l):∃ e,e≠0∧FnP Tryz.prog gl 14 [.lst 1 (ls.map shR)] (erD e):=by
 rcases @first_of (fun k=>∀ hk:k<ls.length,goodZ rf ls[k]) (fun _=>Classical.propDecidable _) ls.length with h0|⟨m,hm,h0,hx⟩
 ·refine absurd (fun l hl'=>?_) h
  obtain ⟨k,hk,rfl⟩:=List.getElem_of_mem hl'
  exact h0 k hk hk
 ·have hb:¬ goodZ rf ls[m]:=fun hg=>hx fun _=>hg
  rcases gCheck_d te pe hV hl hR ls[m] with ⟨hg,_⟩|⟨_,e,he,c⟩
  ·exact absurd hg hb
  ·refine ⟨e,he,mcheck_m ls hn m _ (Nat.le_of_lt hm) (fun k hk hkm=>?_) (.inr ⟨hm,e,he,c,rfl⟩)⟩
   rcases gCheck_d te pe hV hl hR ls[k] with ⟨_,c⟩|⟨hb,_⟩
   ·exact c
   ·exact absurd (h0 k hkm hk) hb
variable (cS:∀ m:List (Int×Int),m.length≤65536→Go.EYtcdjjjokniinkaaGreatDoor.Fn Tryz.prog gl 39 [.c (.all 2 0),.c (.fn 32 [])] [(0,.rows 2 (m.map rowC) 28)] 1 (.ret (.tup [])) [(0,.rows 2 ((sortC m).map rowC) 28)] 1 [])
include cS
theorem Diff_x (a b:List Fl):(goodZ rf a∧goodZ rf b∧FnP Tryz.prog gl 7 [.lst 3 (a.map flD),.lst 3 (b.map flD)] (.tup [.lst 3 ((diffL a b (cellsZ [a,b])).map flD),.v .nilIface]))∨
 ∃ e,e≠0∧FnP Tryz.prog gl 7 [.lst 3 (a.map flD),.lst 3 (b.map flD)] (.tup [.v (.slice none 0 0),erD e]):=by
 by_cases h:goodZ rf a∧goodZ rf b
 ·have hla:=h.1.1
  have hlb:=h.2.1
  have hbig:(allC [a,b]).length≤65536:=by rw[allC_two];omega
  have hcs:=Nat.le_trans (cellsZ_len [a,b]) hbig
  have c0:=check_ok te pe hV hl hR [a,b] (by simp) (fun l hl'=>by
   rcases List.mem_cons.1 hl' with rfl|hl'
   ·exact h.1
   ·rw[List.mem_singleton.1 hl'];exact h.2)
  exact .inl ⟨h.1,h.2,Diff_s a b _ hcs (good_ord h.1) (good_ord h.2) c0 (texts_d a (good_ord h.1) (by omega)) (texts_d b (good_ord h.2) (by omega)) (mcells_d [a,b] (by simp) hbig cS)⟩
 ·obtain ⟨e,he,c⟩:=check_no te pe hV hl hR [a,b] (by simp) (fun hh=>h ⟨hh a (by simp),hh b (by simp)⟩)
  exact .inr ⟨e,he,Diff_e a b e he c⟩
omit cS in
theorem Apply_x {a b s:List Fl} (ha:goodZ rf a) (hb:goodZ rf b) (hsb:s=a∨s=b):FnP Tryz.prog gl 5 [.lst 3 (s.map flD),.lst 3 ((diffL a b (cellsZ [a,b])).map flD)] (.tup [.lst 3 (b.map flD),.v .nilIface]):=by
 have hs:goodZ rf s:=by rcases hsb with rfl|rfl <;> assumption
 have hla:=ha.1
 have hlb:=hb.1
 have hcl:(cellsZ [a,b]).length≤400:=Nat.le_trans (cellsZ_len _) (by rw[allC_two];omega)
 have hin:∀ p ∈ cellsZ [a,b],okP p.1 p.2:=fun p hp=>by
  obtain ⟨l,hl',f,hf,rfl⟩:=cellsZ_mem.1 hp
  rcases List.mem_cons.1 hl' with rfl|hl'
  ·exact good_in ha f hf
  ·rw[List.mem_singleton.1 hl'] at hf;exact good_in hb f hf
 have hd:wsL s (diffL a b (cellsZ [a,b])) (diffL a b (cellsZ [a,b])).length=b:=by
  rw[wsL_all]
  exact diff_apply (good_ord hs) (good_ord hb) (good_full hs) (good_full hb) (fun f hf=>cellsZ_mem.2 ⟨a,by simp,f,hf,rfl⟩) (fun f hf=>cellsZ_mem.2 ⟨b,by simp,f,hf,rfl⟩) hsb
 have h:=Apply_s (gl:=gl) s (diffL a b (cellsZ [a,b])) (good_ord hs) hs.1 (check_ok te pe hV hl hR [s] (by simp) (fun l hl'=>by rw[List.mem_singleton.1 hl'];exact hs)) (Nat.le_trans (diffL_len _ _ _) (by omega))
  (fun f hf=>by
   unfold diffL at hf
   obtain ⟨p,hp,rfl⟩:=List.mem_map.1 hf
   exact hin p (List.mem_filter.1 hp).1) (diffL_ord (cellsZ_rise _)) (fun f hf=>by
   unfold diffL at hf
   obtain ⟨p,hp,rfl⟩:=List.mem_map.1 hf
   refine gText_0 te pe hV hl hR ?_
   show textZ rf (txt b p.1 p.2)=0
   by_cases hx:∃ g ∈ b,sameC g p.1 p.2
   ·obtain ⟨g,hg,hs1,hs2⟩:=hx
    rw[← hs1,← hs2,txt_mem (good_ord hb) hg]
    exact (goodT hb hg).2
   ·rw[txt_none fun g hg hs=>hx ⟨g,hg,hs⟩]
    rfl) (by rw[hd];exact hlb)
 rw[hd] at h
 exact h
omit cS in
theorem Apply_f:FnP Tryz.prog gl 5 [.v (.slice none 0 0),.lst 3 ([(⟨1,1,[120]⟩:Fl)].map flD)] (.tup [.lst 3 ([(⟨1,1,[120]⟩:Fl)].map flD),.v .nilIface]):=by
 refine fnP_arg1 (d':=.lst 3 (([]:List Fl).map flD)) ?_ LeD.nil0
 refine Apply_s (gl:=gl) [] [⟨1,1,[120]⟩] trivial (by decide) (check_ok te pe hV hl hR [[]] (by decide) (fun l hl'=>by rw[List.mem_singleton.1 hl'];exact ⟨by decide,fun k hk=>by simp at hk⟩)) (by decide) (fun f hf=>by rw[List.mem_singleton.1 hf];decide) ⟨by simp,trivial⟩
  (fun f hf=>by rw[List.mem_singleton.1 hf];exact gText_0 te pe hV hl hR rfl) (by decide)
theorem MergeChain_d (a b c:List Fl):FnP Tryz.prog gl 3 [.lst 3 (a.map flD),.lst 3 (b.map flD),.lst 3 (c.map flD)] (.v (.bool true)):=by
 have cf:=Apply_f te pe hV hl hR
 have ca:=at_d (gl:=gl) 1 1
 rcases Diff_x te pe hV hl hR cS a b with ⟨ha,hb,c1⟩|⟨e1,he1,c1⟩ <;> rcases Diff_x te pe hV hl hR cS b c with ⟨hb',hc,c2⟩|⟨e2,he2,c2⟩
 ·have p1:=Apply_x te pe hV hl hR ha hb (.inl rfl)
  have p2:=Apply_x te pe hV hl hR hb hc (.inl rfl)
  have p3:=Apply_x te pe hV hl hR hb hc (.inr rfl)
  have hlc:=hc.1
  have s1:=Sheets_d (gl:=gl) c c (by omega)
  have he:eqL c c=true:=eqL_iff.2 rfl
  rw[he] at s1
  refine fnP_of_vc (nv:=9999) (cu:=[]) fits mixed Tryz.func3 rfl hoB rfl ?_
  ((repeat' ((conv=>whnf);first|exact .intro|refine .ya ?_|refine .na ?_|refine .ys ?_|refine .ns ?_|refine .neg (fun _=>?_) (fun _=>?_)|refine .mk (fun _=>?_) (fun _=>?_)|refine .inl (.inl (X1 (by first|exact ca|exact c1|exact c2|exact p1|exact p2|exact p3|exact s1) ?_))|refine .inl (X1 (by first|exact ca|exact c1|exact c2|exact p1|exact p2|exact p3|exact s1) ?_)|refine X1 (by first|exact ca|exact c1|exact c2|exact p1|exact p2|exact p3|exact s1) ?_|refine .inr (X1 (by first|exact cf) ?_)|refine .mk ?_ ?_|refine AK ?_|refine AT ?_|fail));all_goals conv=>whnf)
  all_goals first|exact LeD.vt rfl|exact LeD.rfl
 all_goals
  refine fnP_of_vc (nv:=9999) (cu:=[]) fits mixed Tryz.func3 rfl hoB rfl ?_
  ((repeat' ((conv=>whnf);first|exact .intro|refine .ya ?_|refine .na ?_|refine .ys ?_|refine .ns ?_|refine .neg (fun _=>?_) (fun _=>?_)|refine .mk (fun _=>?_) (fun _=>?_)|refine .inl (.inl (X1 (by first|exact ca|exact c1|exact c2) ?_))|refine .inl (X1 (by first|exact ca|exact c1|exact c2) ?_)|refine X1 (by first|exact ca|exact c1|exact c2) ?_|refine .inr (X1 (by first|exact cf) ?_)|refine .mk ?_ ?_|refine AK ?_|refine AT ?_|fail));all_goals conv=>whnf)
  all_goals first|exact LeD.vt rfl|exact LeD.rfl
end
end Go.Proofs.YtcdjjjokniinkaaGreatDoor
end
