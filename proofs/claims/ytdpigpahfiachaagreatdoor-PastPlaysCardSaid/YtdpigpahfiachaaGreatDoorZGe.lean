/- Proved: a part of what the law is proved with (the reckoner, contracts of functions, plain laws). Conditions: as each says. -/
import Derived.Test.YtdpigpahfiachaaGreatDoorZGc
section
namespace Go.Proofs.YtdpigpahfiachaaGreatDoor
open Go Go.EYtdpigpahfiachaaGreatDoor
set_option maxRecDepth 100000
variable {gl:List (Nat×List D)}
mutual
def Nd.cs:Nd→List D
 | .mk k n s a b ks=>[iD k,iD n,.str s,iD a.c,iD a.r,tD a.fc,tD a.fr,iD b.c,iD b.r,tD b.fc,tD b.fr,.lst 12 (Nd.csL ks)]
def Nd.csL:List Nd→List (List D)
 | []=>[]
 | x::r=>x.cs::Nd.csL r
end
abbrev ndC (n:Nd):List C:=n.cs.map C.d
theorem lf0 {A P:Prop}:A∨C.d (.v (.bool false))=C.d (tD false)∨P∨LeC (C.d (.v (.bool false))) (C.d (tD false)):=.inr (.inr (.inr (LeD.bf (by simp))))
theorem LeD.nil0 {z:Nat}:LeD (.v (.slice none 0 0)) (.lst z []):=⟨fun M w x hx=>by
 rw[DenD.v_inv hx]
 exact .lst0 z none 0 (Nat.zero_le _)⟩
theorem ln0 {z:Nat} {A P:Prop}:A∨C.d (.v (.slice none 0 0))=C.d (.lst z [])∨P∨LeC (C.d (.v (.slice none 0 0))) (C.d (.lst z [])):=.inr (.inr (.inr LeD.nil0))
theorem txtF_c {c:UInt8} (h:c≠34) (t:List UInt8):txtF (c::t)=(txtF t).map fun q=>(c::q.1,q.2+1):=by
 cases t with
 | nil=>simp[txtF,h]
 | cons d r=>rw[txtF];simp[h]
theorem txtF_2 (t:List UInt8):txtF (34::34::t)=(txtF t).map fun q=>(34::q.1,q.2+2):=by
 rw[txtF];simp
theorem txtF_1 {t:List UInt8} (h:t.head?≠some 34):txtF (34::t)=some ([],1):=by
 cases t with
 | nil=>rfl
 | cons d r =>
  have:d≠34:=fun e=>h (by simp[e])
  rw[txtF];simp[this]
theorem text_d (s:List UInt8) (i d:Nat) (hs:s.length≤200) (h:s[i]?=some 34) {b:List UInt8} {l:Nat} (ht:txtF (s.drop (i+1))=some (b,l)) :
 Go.EYtdpigpahfiachaaGreatDoor.Fn Tryz.prog gl 168 [.c (.ptr 0 0)] [(0,rdB s i d)] 1 (.ret (.agg (ndC (.mk 2 0 b z0 z0 [])))) [(0,rdB s (i+1+l) d)] 1 []:=by
 have hl:=lt_of_get h
 refine fn_of_vc (nv:=9999) (cu:=[]) fits mixed Tryz.func168 rfl hoB rfl rfl rfl rfl ?_
 ((repeat' ((conv=>whnf);first|exact .intro|refine .ya ?_|refine .na ?_|refine .ys ?_|refine .ns ?_|refine .neg (fun _=>?_) (fun _=>?_)|refine .mk (fun _=>?_) (fun _=>?_)|refine .mk ?_ ?_|refine AK ?_|refine AT ?_|fail));all_goals conv=>whnf)
 refine ⟨{ σ:=(Nat×List UInt8),fr:=fun q=>[(4,.c (.all 1 2))],ks:=[0],L:=fun q=>[(0,rdB s q.1 d),(2,.rows 1 (bD q.2) 5)],ex:=1,I:=fun q=>i+1≤q.1∧q.1≤s.length∧q.2.length≤q.1∧txtF (s.drop (i+1))=(txtF (s.drop q.1)).map fun r=>(q.2++r.1,q.1 - (i+1)+r.2),μ:=fun q=>s.length - q.1 },⟨(i+1,[]),⟨Nat.le_refl _,hl,Nat.zero_le _,by simp⟩,?_⟩,?_⟩
 ·((repeat' first|exact rfl|((conv=>whnf);first|done|exact suL|refine And.intro ?_ ?_|fail));all_goals conv=>whnf)
  ·exact ceq (by rw[wrapI (by omega)];rfl)
  ·exact ⟨1,_,rfl,by decide,Nat.le_refl _⟩
 ·rintro ⟨k,a⟩ ⟨h1,h2,h3,h4⟩
  simp only at h1 h2 h3 h4
  by_cases hk7:k<s.length
  ·have hk7':(k:Int)<(s.length:Int):=by omega
   by_cases hc:(((s.getD ((k:Nat):Int).toNat 0).toNat:Nat):Int)=34
   ·have hg:=(byt 34 hk7).1 hc
    have e1:IntKind.i64.wrap ((((k,a):Nat×List UInt8).1:Int)+1)=((k+1:Nat):Int):=by rw[wrapI (by show _≤(k:Int)+1∧(k:Int)+1≤_;omega)];rfl
    rw[List.drop_eq_getElem_cons hk7,(List.getElem?_eq_some_iff.1 hg).2] at h4
    by_cases hk9:k+1<s.length
    ·have hk9':¬ ((k+1:Nat):Int)=((s.length:Nat):Int):=by omega
     by_cases hc2:(((s.getD ((k+1:Nat):Int).toNat 0).toNat:Nat):Int)=34
     ·have hg2:=(byt 34 hk9).1 hc2
      have hc3:¬ ¬ (((s.getD ((k+1:Nat):Int).toNat 0).toNat:Nat):Int)=34:=fun hh=>hh hc2
      rw[List.drop_eq_getElem_cons hk9,(List.getElem?_eq_some_iff.1 hg2).2,txtF_2,Option.map_map] at h4
      ((repeat' ((conv=>whnf);first|exact .intro|refine .ya ?_|refine .na ?_|refine .ys ?_|refine .ns ?_|refine .neg (fun _=>?_) (fun _=>?_)|refine .mk (fun _=>?_) (fun _=>?_)|(rw[e1])|refine .mk ?_ ?_|refine AK ?_|refine AT ?_|fail));all_goals conv=>whnf)
      refine ⟨⟨rfl,by show ((bD a).length+1) * 1≤140737488355328;rw[bD_len];omega,by show (bD a).length+1≤maxLen;rw[bD_len];unfold maxLen;omega⟩,?_⟩
      ((repeat' ((conv=>whnf);first|exact .intro|refine .ya ?_|refine .na ?_|refine .ys ?_|refine .ns ?_|refine .neg (fun _=>?_) (fun _=>?_)|refine .mk (fun _=>?_) (fun _=>?_)|(rw[e1])|refine .mk ?_ ?_|refine AK ?_|refine AT ?_|fail));all_goals conv=>whnf)
      refine ⟨(k+2,a++[34]),⟨⟨by show i+1≤k+2;omega,hk9,by show (a++[34]).length≤k+2;simp;omega,?_⟩,by show s.length - (k+2)<s.length - k;omega⟩,?_⟩
      ·rw[h4]
       show _=(txtF (s.drop (k+1+1))).map _
       congr 1
       funext q
       simp;omega
      ·((repeat' first|exact rfl|((conv=>whnf);first|done|exact suL|refine And.intro ?_ ?_|fail));all_goals conv=>whnf)
       ·exact ceq (by rw[wrapI (by omega)];rfl)
       show bD a++[[D.v (.int .u8 (((s.getD ((k+1:Nat):Int).toNat 0).toNat:Nat):Int))]]=bD (a++[34])
       rw[hc2,bD_app]
       rfl
     ·have hn:(s.drop (k+1)).head?≠some 34:=by
       rw[List.head?_drop]
       exact fun e=>hc2 ((byt 34 hk9).2 e)
      rw[txtF_1 hn,ht] at h4
      obtain ⟨rfl,rfl⟩:a=b∧k - (i+1)+1=l:=by simpa[eq_comm] using h4
      ((repeat' ((conv=>whnf);first|exact .intro|refine .ya ?_|refine .na ?_|refine .ys ?_|refine .ns ?_|refine .neg (fun _=>?_) (fun _=>?_)|refine .mk (fun _=>?_) (fun _=>?_)|(rw[e1])|refine .mk ?_ ?_|refine AK ?_|refine AT ?_|fail));all_goals conv=>whnf)
      refine ⟨a,rfl,?_⟩
      ((repeat' ((conv=>whnf);first|exact .intro|refine .ya ?_|refine .na ?_|refine .ys ?_|refine .ns ?_|refine .neg (fun _=>?_) (fun _=>?_)|refine .mk (fun _=>?_) (fun _=>?_)|(rw[e1])|refine .mk ?_ ?_|refine AK ?_|refine AT ?_|fail));all_goals conv=>whnf)
      ((repeat' first|exact rfl|((conv=>whnf);first|done|exact suL|refine And.intro ?_ ?_|fail));all_goals conv=>whnf)
      ·(refine .inr ?_;repeat' first|exact .intro|exact .inr (.inl rfl)|exact lf0|exact ln0|((conv=>whnf);first|exact .intro|exact .inr (.inl rfl)|exact lf0|exact ln0|refine And.intro ?_ ?_|fail))
      ·exact ceq (by omega)
    ·have hk9':((k+1:Nat):Int)=((s.length:Nat):Int):=by omega
     rw[show s.drop (k+1)=[] from List.drop_eq_nil_of_le (by omega),txtF_1 (by simp),ht] at h4
     obtain ⟨rfl,rfl⟩:a=b∧k - (i+1)+1=l:=by simpa[eq_comm] using h4
     ((repeat' ((conv=>whnf);first|exact .intro|refine .ya ?_|refine .na ?_|refine .ys ?_|refine .ns ?_|refine .neg (fun _=>?_) (fun _=>?_)|refine .mk (fun _=>?_) (fun _=>?_)|(rw[e1])|refine .mk ?_ ?_|refine AK ?_|refine AT ?_|fail));all_goals conv=>whnf)
     refine ⟨a,rfl,?_⟩
     ((repeat' ((conv=>whnf);first|exact .intro|refine .ya ?_|refine .na ?_|refine .ys ?_|refine .ns ?_|refine .neg (fun _=>?_) (fun _=>?_)|refine .mk (fun _=>?_) (fun _=>?_)|(rw[e1])|refine .mk ?_ ?_|refine AK ?_|refine AT ?_|fail));all_goals conv=>whnf)
     ((repeat' first|exact rfl|((conv=>whnf);first|done|exact suL|refine And.intro ?_ ?_|fail));all_goals conv=>whnf)
     ·(refine .inr ?_;repeat' first|exact .intro|exact .inr (.inl rfl)|exact lf0|exact ln0|((conv=>whnf);first|exact .intro|exact .inr (.inl rfl)|exact lf0|exact ln0|refine And.intro ?_ ?_|fail))
     ·exact ceq (by omega)
   ·have hg:s[k]?=some (s.getD ((k:Nat):Int).toNat 0):=(byt _ hk7).1 rfl
    have hne:s.getD ((k:Nat):Int).toNat 0≠34:=fun e=>hc (by rw[e];rfl)
    rw[List.drop_eq_getElem_cons hk7,(List.getElem?_eq_some_iff.1 hg).2,txtF_c hne,Option.map_map] at h4
    ((repeat' ((conv=>whnf);first|exact .intro|refine .ya ?_|refine .na ?_|refine .ys ?_|refine .ns ?_|refine .neg (fun _=>?_) (fun _=>?_)|refine .mk (fun _=>?_) (fun _=>?_)|refine .mk ?_ ?_|refine AK ?_|refine AT ?_|fail));all_goals conv=>whnf)
    refine ⟨⟨rfl,by show ((bD a).length+1) * 1≤140737488355328;rw[bD_len];omega,by show (bD a).length+1≤maxLen;rw[bD_len];unfold maxLen;omega⟩,?_⟩
    ((repeat' ((conv=>whnf);first|exact .intro|refine .ya ?_|refine .na ?_|refine .ys ?_|refine .ns ?_|refine .neg (fun _=>?_) (fun _=>?_)|refine .mk (fun _=>?_) (fun _=>?_)|refine .mk ?_ ?_|refine AK ?_|refine AT ?_|fail));all_goals conv=>whnf)
    refine ⟨(k+1,a++[s.getD ((k:Nat):Int).toNat 0]),⟨⟨by show i+1≤k+1;omega,hk7,by show (a++[_]).length≤k+1;simp;omega,?_⟩,by show s.length - (k+1)<s.length - k;omega⟩,?_⟩
    ·rw[h4]
     show _=(txtF (s.drop (k+1))).map _
     congr 1
     funext q
     simp;omega
    ·((repeat' first|exact rfl|((conv=>whnf);first|done|exact suL|refine And.intro ?_ ?_|fail));all_goals conv=>whnf)
     ·exact ceq (by rw[wrapI (by omega)];rfl)
     show bD a++[[D.v (.int .u8 (((s.getD ((k:Nat):Int).toNat 0).toNat:Nat):Int))]]=bD (a++[_])
     rw[bD_app]
  ·rw[show s.drop k=[] from List.drop_eq_nil_of_le (by omega),ht] at h4
   cases h4
theorem text_n (s:List UInt8) (i d:Nat) (hs:s.length≤200) (h:s[i]?=some 34) (ht:txtF (s.drop (i+1))=none) :
 Go.EYtdpigpahfiachaaGreatDoor.Fn Tryz.prog gl 168 [.c (.ptr 0 0)] [(0,rdB s i d)] 1 (.panic (.d (fltD i 2))) [] 1 []:=by
 have hl:=lt_of_get h
 refine fn_of_vc (nv:=9999) (cu:=[]) fits mixed Tryz.func168 rfl hoB rfl rfl rfl rfl ?_
 ((repeat' ((conv=>whnf);first|exact .intro|refine .ya ?_|refine .na ?_|refine .ys ?_|refine .ns ?_|refine .neg (fun _=>?_) (fun _=>?_)|refine .mk (fun _=>?_) (fun _=>?_)|refine .mk ?_ ?_|refine AK ?_|refine AT ?_|fail));all_goals conv=>whnf)
 refine ⟨{ σ:=(Nat×List UInt8),fr:=fun q=>[(4,.c (.all 1 2))],ks:=[0],L:=fun q=>[(0,rdB s q.1 d),(2,.rows 1 (bD q.2) 5)],ex:=1,I:=fun q=>i+1≤q.1∧q.1≤s.length∧q.2.length≤q.1∧txtF (s.drop q.1)=none,μ:=fun q=>s.length - q.1 },⟨(i+1,[]),⟨Nat.le_refl _,hl,Nat.zero_le _,ht⟩,?_⟩,?_⟩
 ·((repeat' first|exact rfl|((conv=>whnf);first|done|exact suL|refine And.intro ?_ ?_|fail));all_goals conv=>whnf)
  ·exact ceq (by rw[wrapI (by omega)];rfl)
  ·exact ⟨1,_,rfl,by decide,Nat.le_refl _⟩
 ·rintro ⟨k,a⟩ ⟨h1,h2,h3,h4⟩
  simp only at h1 h2 h3 h4
  by_cases hk7:k<s.length
  ·have hk7':(k:Int)<(s.length:Int):=by omega
   by_cases hc:(((s.getD ((k:Nat):Int).toNat 0).toNat:Nat):Int)=34
   ·have hg:=(byt 34 hk7).1 hc
    have e1:IntKind.i64.wrap ((((k,a):Nat×List UInt8).1:Int)+1)=((k+1:Nat):Int):=by rw[wrapI (by show _≤(k:Int)+1∧(k:Int)+1≤_;omega)];rfl
    rw[List.drop_eq_getElem_cons hk7,(List.getElem?_eq_some_iff.1 hg).2] at h4
    by_cases hk9:k+1<s.length
    ·have hk9':¬ ((k+1:Nat):Int)=((s.length:Nat):Int):=by omega
     by_cases hc2:(((s.getD ((k+1:Nat):Int).toNat 0).toNat:Nat):Int)=34
     ·have hg2:=(byt 34 hk9).1 hc2
      have hc3:¬ ¬ (((s.getD ((k+1:Nat):Int).toNat 0).toNat:Nat):Int)=34:=fun hh=>hh hc2
      rw[List.drop_eq_getElem_cons hk9,(List.getElem?_eq_some_iff.1 hg2).2,txtF_2,Option.map_eq_none_iff] at h4
      ((repeat' ((conv=>whnf);first|exact .intro|refine .ya ?_|refine .na ?_|refine .ys ?_|refine .ns ?_|refine .neg (fun _=>?_) (fun _=>?_)|refine .mk (fun _=>?_) (fun _=>?_)|(rw[e1])|refine .mk ?_ ?_|refine AK ?_|refine AT ?_|fail));all_goals conv=>whnf)
      refine ⟨⟨rfl,by show ((bD a).length+1) * 1≤140737488355328;rw[bD_len];omega,by show (bD a).length+1≤maxLen;rw[bD_len];unfold maxLen;omega⟩,?_⟩
      ((repeat' ((conv=>whnf);first|exact .intro|refine .ya ?_|refine .na ?_|refine .ys ?_|refine .ns ?_|refine .neg (fun _=>?_) (fun _=>?_)|refine .mk (fun _=>?_) (fun _=>?_)|(rw[e1])|refine .mk ?_ ?_|refine AK ?_|refine AT ?_|fail));all_goals conv=>whnf)
      refine ⟨(k+2,a++[34]),⟨⟨by show i+1≤k+2;omega,hk9,by show (a++[34]).length≤k+2;simp;omega,h4⟩,by show s.length - (k+2)<s.length - k;omega⟩,?_⟩
      ((repeat' first|exact rfl|((conv=>whnf);first|done|exact suL|refine And.intro ?_ ?_|fail));all_goals conv=>whnf)
      ·exact ceq (by rw[wrapI (by omega)];rfl)
      show bD a++[[D.v (.int .u8 (((s.getD ((k+1:Nat):Int).toNat 0).toNat:Nat):Int))]]=bD (a++[34])
      rw[hc2,bD_app]
      rfl
     ·have hn:(s.drop (k+1)).head?≠some 34:=by
       rw[List.head?_drop]
       exact fun e=>hc2 ((byt 34 hk9).2 e)
      rw[txtF_1 hn] at h4
      cases h4
    ·rw[show s.drop (k+1)=[] from List.drop_eq_nil_of_le (by omega),txtF_1 (by simp)] at h4
     cases h4
   ·have hg:s[k]?=some (s.getD ((k:Nat):Int).toNat 0):=(byt _ hk7).1 rfl
    have hne:s.getD ((k:Nat):Int).toNat 0≠34:=fun e=>hc (by rw[e];rfl)
    rw[List.drop_eq_getElem_cons hk7,(List.getElem?_eq_some_iff.1 hg).2,txtF_c hne,Option.map_eq_none_iff] at h4
    ((repeat' ((conv=>whnf);first|exact .intro|refine .ya ?_|refine .na ?_|refine .ys ?_|refine .ns ?_|refine .neg (fun _=>?_) (fun _=>?_)|refine .mk (fun _=>?_) (fun _=>?_)|refine .mk ?_ ?_|refine AK ?_|refine AT ?_|fail));all_goals conv=>whnf)
    refine ⟨⟨rfl,by show ((bD a).length+1) * 1≤140737488355328;rw[bD_len];omega,by show (bD a).length+1≤maxLen;rw[bD_len];unfold maxLen;omega⟩,?_⟩
    ((repeat' ((conv=>whnf);first|exact .intro|refine .ya ?_|refine .na ?_|refine .ys ?_|refine .ns ?_|refine .neg (fun _=>?_) (fun _=>?_)|refine .mk (fun _=>?_) (fun _=>?_)|refine .mk ?_ ?_|refine AK ?_|refine AT ?_|fail));all_goals conv=>whnf)
    refine ⟨(k+1,a++[s.getD ((k:Nat):Int).toNat 0]),⟨⟨by show i+1≤k+1;omega,hk7,by show (a++[_]).length≤k+1;simp;omega,h4⟩,by show s.length - (k+1)<s.length - k;omega⟩,?_⟩
    ((repeat' first|exact rfl|((conv=>whnf);first|done|exact suL|refine And.intro ?_ ?_|fail));all_goals conv=>whnf)
    ·exact ceq (by rw[wrapI (by omega)];rfl)
    show bD a++[[D.v (.int .u8 (((s.getD ((k:Nat):Int).toNat 0).toNat:Nat):Int))]]=bD (a++[_])
    rw[bD_app]
  ·have hk8:¬ (k:Int)<(s.length:Int):=by omega
   have c2:=fail_d (gl:=gl) s k d i 2
   ((repeat' ((conv=>whnf);first|exact .intro|refine .ya ?_|refine .na ?_|refine .ys ?_|refine .ns ?_|refine .neg (fun _=>?_) (fun _=>?_)|refine .mk (fun _=>?_) (fun _=>?_)|refine .inr (X5 (c2.r [0] _) ?_)|refine .inl (.inr (X5 (c2.r [0] _) ?_))|refine .inl (X5 (c2.r [0] _) ?_)|refine .mk ?_ ?_|refine AK ?_|refine AT ?_|fail));all_goals conv=>whnf)
   ((repeat' first|exact rfl|((conv=>whnf);first|done|exact suL|refine And.intro ?_ ?_|fail));all_goals conv=>whnf)
end Go.Proofs.YtdpigpahfiachaaGreatDoor
end
section
namespace Go.Proofs.YtdpigpahfiachaaGreatDoor
open Go Go.EYtdpigpahfiachaaGreatDoor
set_option maxRecDepth 100000
variable {gl:List (Nat×List D)}
def RefsOk (rf:List UInt8→Option Rf):Prop:=∀ (gl:List (Nat×List D)) (s:List UInt8),s.length≤200→
 (∀ a,rf s=some a→FnP Tryz.prog gl 205 [.str s] (.tup [refD a.c a.r a.fc a.fr,errD 0])∧FnP Tryz.prog gl 140 [.str s] (.tup [refD a.c a.r a.fc a.fr,tD true]))∧
 (rf s=none→FnP Tryz.prog gl 205 [.str s] refBad∧FnP Tryz.prog gl 140 [.str s] rrBad)
theorem FnP.ofNil {P:Program} {f:Nat} {ds:List D} {r:D} (h:FnP P [] f ds r):FnP P gl f ds r:=fun w M xs hM _ hd=>h w M xs hM (fun g l hl=>by cases hl) hd
theorem refs_ok:∃ rf,RefsOk rf∧rf []=none:=by
 have key:∀ s:List UInt8,∃ o:Option Rf,s.length≤200→(∀ a,o=some a→FnP Tryz.prog [] 205 [.str s] (.tup [refD a.c a.r a.fc a.fr,errD 0])∧FnP Tryz.prog [] 140 [.str s] (.tup [refD a.c a.r a.fc a.fr,tD true]))∧
  (o=none→FnP Tryz.prog [] 205 [.str s] refBad∧FnP Tryz.prog [] 140 [.str s] rrBad)∧(s=[]→o=none):=fun s=>by
  by_cases h0:s=[]
  ·subst h0
   exact ⟨none,fun _=>⟨fun a ha=>(by cases ha),fun _=>⟨Ref_1 (s:=[]) rfl,rRef_1 (s:=[]) rfl⟩,fun _=>rfl⟩⟩
  by_cases hs:s.length≤200
  ·rcases ref_both (gl:=[]) s (by omega) with ⟨c,r,fc,fr,_,h1,h2⟩|⟨h1,h2⟩
   ·exact ⟨some ⟨c,r,fc,fr⟩,fun _=>⟨fun a ha=>by cases ha;exact ⟨h2,h1⟩,fun h=>(by cases h),fun h=>absurd h h0⟩⟩
   ·exact ⟨none,fun _=>⟨fun a ha=>(by cases ha),fun _=>⟨h2,h1⟩,fun _=>rfl⟩⟩
  ·exact ⟨none,fun h=>absurd h hs⟩
 refine ⟨fun s=>Classical.choose (key s),fun gl s hs=>?_,(Classical.choose_spec (key []) (by decide)).2.2 rfl⟩
 have h:=Classical.choose_spec (key s) hs
 exact ⟨fun a ha=>⟨FnP.ofNil (h.1 a ha).1,FnP.ofNil (h.1 a ha).2⟩,fun hn=>⟨FnP.ofNil (h.2.1 hn).1,FnP.ofNil (h.2.1 hn).2⟩⟩
def plZ (rf:List UInt8→Option Rf) (s:List UInt8):Option Nd:=match wholeZ s with
 | some n=>some (.mk 1 n [] z0 z0 [])
 | none=>match litZ s with
  | some (_,n)=>some (.mk 3 n [] z0 z0 [])
  | none=>(rf s).map fun a=>.mk 5 0 [] a z0 []
theorem plain_s (te:TypeId) (pe:Value) {rf:List UInt8→Option Rf} (hR:RefsOk rf) {s:List UInt8} (hs:s.length≤200) {n:Nd} (h:plZ rf s=some n):FnP Tryz.prog (glV te pe) 174 [.str s] (.tup [.agg n.cs,.v (.bool true)]):=by
 have hs':s.length≤140737488355328:=by omega
 have hr:errR (glV te pe):=⟨te,pe,rfl⟩
 have c2:=Literal_d te pe s
 unfold plZ at h
 cases hw:wholeZ s with
 | some v =>
  rw[hw] at h
  cases h
  have c1:=Whole_some (gl:=glV te pe) hs' hw
  refine fnP_of_vc (nv:=9999) (cu:=[]) fits mixed Tryz.func174 rfl hoB rfl ?_
  ((repeat' ((conv=>whnf);first|exact .intro|refine .ya ?_|refine .na ?_|refine .ys ?_|refine .ns ?_|refine .neg (fun _=>?_) (fun _=>?_)|refine .mk (fun _=>?_) (fun _=>?_)|refine .inl (.inl (X1 (c1) ?_))|refine .inl (X1 (c1) ?_)|refine X1 (c1) ?_|refine .mk ?_ ?_|refine AK ?_|refine AT ?_|fail));all_goals conv=>whnf)
  repeat' first|exact LeD.rfl|exact LeD.bf (by simp[z0])|exact LeD.nil0|refine LeD.tup ?_|refine LeD.agg ?_|refine LeD.cons ?_ ?_|exact LeD.nil
 | none =>
  rw[hw] at h
  obtain ⟨v,c1⟩:=Whole_none (gl:=glV te pe) hs' hr hw
  cases hl:litZ s with
  | some q =>
   obtain ⟨k,m⟩:=q
   rw[hl] at h c2
   cases h
   change FnP Tryz.prog (glV te pe) 169 [.str s] (.tup [vlD k m [],.v (.bool true)]) at c2
   refine fnP_of_vc (nv:=9999) (cu:=[]) fits mixed Tryz.func174 rfl hoB rfl ?_
   ((repeat' ((conv=>whnf);first|exact .intro|refine .ya ?_|refine .na ?_|refine .ys ?_|refine .ns ?_|refine .neg (fun _=>?_) (fun _=>?_)|refine .mk (fun _=>?_) (fun _=>?_)|refine .inl (.inl (X1 (by first|exact c1|exact c2) ?_))|refine .inl (X1 (by first|exact c1|exact c2) ?_)|refine X1 (by first|exact c1|exact c2) ?_|refine .mk ?_ ?_|refine AK ?_|refine AT ?_|fail));all_goals conv=>whnf)
   repeat' first|exact LeD.rfl|exact LeD.bf (by simp[z0])|exact LeD.nil0|refine LeD.tup ?_|refine LeD.agg ?_|refine LeD.cons ?_ ?_|exact LeD.nil
  | none =>
   rw[hl] at h c2
   simp only at h
   obtain ⟨a,ha,h⟩:=Option.map_eq_some_iff.1 h
   cases h
   have c3:=((hR (glV te pe) s hs).1 a ha).1
   change FnP Tryz.prog (glV te pe) 169 [.str s] _ at c2
   refine fnP_of_vc (nv:=9999) (cu:=[]) fits mixed Tryz.func174 rfl hoB rfl ?_
   ((repeat' ((conv=>whnf);first|exact .intro|refine .ya ?_|refine .na ?_|refine .ys ?_|refine .ns ?_|refine .neg (fun _=>?_) (fun _=>?_)|refine .mk (fun _=>?_) (fun _=>?_)|refine .inl (.inl (X1 (by first|exact c1|exact c2|exact c3) ?_))|refine .inl (X1 (by first|exact c1|exact c2|exact c3) ?_)|refine X1 (by first|exact c1|exact c2|exact c3) ?_|refine .mk ?_ ?_|refine AK ?_|refine AT ?_|fail));all_goals conv=>whnf)
   repeat' first|exact LeD.rfl|exact LeD.bf (by simp[z0])|exact LeD.nil0|refine LeD.tup ?_|refine LeD.agg ?_|refine LeD.cons ?_ ?_|exact LeD.nil
theorem plain_n (te:TypeId) (pe:Value) {rf:List UInt8→Option Rf} (hR:RefsOk rf) {s:List UInt8} (hs:s.length≤200) (h:plZ rf s=none):FnP Tryz.prog (glV te pe) 174 [.str s] (.tup [.agg (Nd.mk 0 0 [] z0 z0 []).cs,.v (.bool false)]):=by
 have hs':s.length≤140737488355328:=by omega
 have hr:errR (glV te pe):=⟨te,pe,rfl⟩
 have c2:=Literal_d te pe s
 unfold plZ at h
 cases hw:wholeZ s with
 | some v=>rw[hw] at h;cases h
 | none =>
  rw[hw] at h
  obtain ⟨v,c1⟩:=Whole_none (gl:=glV te pe) hs' hr hw
  cases hl:litZ s with
  | some q=>rw[hl] at h;cases h
  | none =>
   rw[hl] at h c2
   simp only[Option.map_eq_none_iff] at h
   have c3:=((hR (glV te pe) s hs).2 h).1
   refine fnP_of_vc (nv:=9999) (cu:=[]) fits mixed Tryz.func174 rfl hoB rfl ?_
   ((repeat' ((conv=>whnf);first|exact .intro|refine .ya ?_|refine .na ?_|refine .ys ?_|refine .ns ?_|refine .neg (fun _=>?_) (fun _=>?_)|refine .mk (fun _=>?_) (fun _=>?_)|refine .inl (.inl (X1 (by first|exact c1|exact c2|exact c3) ?_))|refine .inl (X1 (by first|exact c1|exact c2|exact c3) ?_)|refine X1 (by first|exact c1|exact c2|exact c3) ?_|refine .mk ?_ ?_|refine AK ?_|refine AT ?_|fail));all_goals conv=>whnf)
   repeat' first|exact LeD.rfl|exact LeD.bf (by simp[z0])|exact LeD.nil0|refine LeD.tup ?_|refine LeD.agg ?_|refine LeD.cons ?_ ?_|exact LeD.nil
end Go.Proofs.YtdpigpahfiachaaGreatDoor
end
