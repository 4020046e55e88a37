/- Proved: a part of what the law is proved with (the reckoner, contracts of functions, plain laws). Conditions: as each says. -/
import Derived.Test.YtdpigpahfiachaaGreatDoorXBe
section
namespace Go.Proofs.YtdpigpahfiachaaGreatDoor
open Go Go.EYtdpigpahfiachaaGreatDoor
set_option maxRecDepth 100000
variable {gl:List (Nat×List D)}
def dl10 (n:Nat):List UInt8:=if _h:n=0 then [] else dig (n % 10)::dl10 (n / 10)
termination_by n
decreasing_by exact Nat.div_lt_self (Nat.pos_of_ne_zero _h) (by decide)
theorem dl10_zero:dl10 0=[]:=by rw[dl10];rfl
theorem dl10_pos {n:Nat} (h:n≠0):dl10 n=dig (n % 10)::dl10 (n / 10):=by rw[dl10];simp[h]
def decB (n:Nat):List UInt8:=if n=0 then [48] else (dl10 n).reverse
theorem decB_digs {n:Nat} (h:n<100):decB n=digs n:=by
 unfold decB digs
 by_cases h0:n=0
 ·subst h0;rfl
 ·rw[if_neg h0,dl10_pos h0]
  by_cases h1:n<10
  ·rw[if_pos h1,Nat.mod_eq_of_lt h1,Nat.div_eq_of_lt h1,dl10_zero];rfl
  ·rw[if_neg h1,dl10_pos (n:=n / 10) (by omega),Nat.mod_eq_of_lt (a:=n / 10) (by omega),show n / 10 / 10=0 by omega,dl10_zero];rfl
theorem dl10_len (n:Nat):n≠0→10 ^ ((dl10 n).length - 1)≤n:=by
 induction n using Nat.strongRecOn with
 | ind n ih =>
  intro h
  rw[dl10_pos h]
  by_cases h1:n / 10=0
  ·rw[h1,dl10_zero];simp;omega
  ·have:=ih _ (Nat.div_lt_self (Nat.pos_of_ne_zero h) (by decide)) h1
   rw[dl10_pos h1] at this ⊢
   simp only[List.length_cons,Nat.add_sub_cancel] at this ⊢
   rw[Nat.pow_succ];omega
theorem dl10_max (n:Nat):(dl10 n).length≤10 * (ws n).length:=by
 by_cases h:n=0
 ·subst h;rw[dl10_zero];exact Nat.zero_le _
 ·have h1:=dl10_len n h
  have h2:=lt_ws_len n
  have h3:B32 ^ (ws n).length≤10 ^ (10 * (ws n).length):=by rw[Nat.pow_mul];exact Nat.pow_le_pow_left (by decide) _
  have h4:10 ^ ((dl10 n).length - 1)<10 ^ (10 * (ws n).length):=by omega
  have:=(Nat.pow_lt_pow_iff_right (by decide:1<10)).1 h4
  omega
def bD (l:List UInt8):List (List D):=l.map u8D
theorem bD_len (l:List UInt8):(bD l).length=l.length:=List.length_map ..
theorem bD_app (l:List UInt8) (x:UInt8):bD (l++[x])=bD l++[u8D x]:=List.map_append ..
theorem bget {l:List UInt8} {k:Nat} (h:k<l.length):(bD l)[((k:Nat):Int).toNat]?=some (u8D l[k]):=by
 rw[Int.toNat_natCast];unfold bD;rw[List.getElem?_map,List.getElem?_eq_getElem h];rfl
theorem bset (l:List UInt8) (i:Nat) (x:UInt8):(bD l).set ((i:Nat):Int).toNat (u8D x)=bD (l.set i x):=by
 rw[Int.toNat_natCast];exact (List.map_set ..).symm
theorem digTab:∀ k:Fin 10,((48:Int)+(k.val:Int))=((dig k.val).toNat:Int):=by decide
theorem dig_nat {k:Nat} (h:k<10):((48:Int)+(k:Int))=((dig k).toNat:Int):=digTab ⟨k,h⟩
def Turned (l p:List UInt8) (k:Nat):Prop:=p.length=l.length∧2 * k≤l.length∧∀ x,x<l.length→p[x]?=if x<k∨l.length≤x+k then l[l.length - 1 - x]? else l[x]?
theorem Turned.zero (l:List UInt8):Turned l l 0:=⟨rfl,Nat.zero_le _,fun x hx=>by rw[if_neg (by omega)]⟩
theorem Turned.step {l p:List UInt8} {k:Nat} (h:Turned l p k) (hk:k<l.length - 1 - k) (h1:k<p.length) (h2:l.length - 1 - k<p.length):Turned l ((p.set k p[l.length - 1 - k]).set (l.length - 1 - k) p[k]) (k+1):=by
 obtain ⟨a,b,c⟩:=h
 refine ⟨by simpa using a,by omega,fun x hx=>?_⟩
 have ck:=c k (by omega)
 have cj:=c (l.length - 1 - k) (by omega)
 rw[if_neg (by omega),List.getElem?_eq_getElem h1] at ck
 rw[if_neg (by omega),List.getElem?_eq_getElem h2] at cj
 rw[List.getElem?_set,List.getElem?_set]
 by_cases e1:l.length - 1 - k=x
 ·rw[if_pos e1,if_pos (by simp;omega),if_pos (by omega),ck,show l.length - 1 - x=k by omega]
 ·rw[if_neg e1]
  by_cases e2:k=x
  ·subst e2
   rw[if_pos rfl,if_pos h1,if_pos (by omega),cj]
  ·rw[if_neg e2,c x hx]
   by_cases e3:x<k∨l.length≤x+k
   ·rw[if_pos e3,if_pos (by omega)]
   ·rw[if_neg e3,if_neg (by omega)]
theorem Turned.done {l p:List UInt8} {k:Nat} (h:Turned l p k) (hk:¬ k<l.length - 1 - k):p=l.reverse:=by
 obtain ⟨a,b,c⟩:=h
 refine List.ext_getElem? fun x=>?_
 rcases Nat.lt_or_ge x l.length with hx|hx
 ·rw[c x hx,List.getElem?_reverse hx]
  split
  ·rfl
  ·rw[show l.length - 1 - x=x by omega]
 ·rw[List.getElem?_eq_none (by omega),List.getElem?_eq_none (by simpa using hx)]
theorem Text_p (n:Nat) (hn:(ws n).length≤8796093022208):FnP Tryz.prog gl 196 [.imm [fD,W n],iD 10] (.str (decB n)):=by
 have wa:=wD_len (ws n)
 have ht:=twin_d (gl:=gl) (ws n) (by omega)
 by_cases h0:n=0
 ·subst h0
  have hl0:(((wD (ws 0)).length:Nat):Int)=0:=by rw[wa,ws_zero];rfl
  refine fnP_of_vc (nv:=9999) (cu:=[]) fits mixed Tryz.func196 rfl hoB rfl ?_
  ((repeat' ((conv=>whnf);first|exact .intro|refine .ya ?_|refine .na ?_|refine .ys ?_|refine .ns ?_|refine .neg (fun _=>?_) (fun _=>?_)|refine .mk (fun _=>?_) (fun _=>?_)|refine .mk ?_ ?_|refine AK ?_|refine AT ?_|fail));all_goals conv=>whnf)
  exact LeD.of rfl
 have hl0:¬ (((wD (ws n)).length:Nat):Int)=0:=by rw[wa];intro h;exact h0 (ws_nil.1 (List.eq_nil_of_length_eq_zero (Int.ofNat.inj h)))
 refine fnP_of_vc (nv:=9999) (cu:=[]) fits mixed Tryz.func196 rfl hoB rfl ?_
 ((repeat' ((conv=>whnf);first|exact .intro|refine .ya ?_|refine .na ?_|refine .ys ?_|refine .ns ?_|refine .neg (fun _=>?_) (fun _=>?_)|refine .mk (fun _=>?_) (fun _=>?_)|refine .inl (.inl (X1 (ht) ?_))|refine .inl (X1 (ht) ?_)|refine X1 (ht) ?_|refine .mk ?_ ?_|refine AK ?_|refine AT ?_|fail));all_goals conv=>whnf)
 refine ⟨{ σ:=(Nat×List UInt8),fr:=fun s=>[(5,.c (.all 1 0)),(6,.c (.d (W s.1)))],ks:=[0],L:=fun s=>[(0,.rows 1 (bD s.2) 5)],ex:=1,I:=fun s=>dl10 n=s.2++dl10 s.1∧s.1≤n,μ:=fun s=>s.1 },⟨(n,[]),⟨rfl,Nat.le_refl _⟩,?_⟩,?_⟩
 ·((repeat' first|exact rfl|((conv=>whnf);first|done|exact suL|refine And.intro ?_ ?_|fail));all_goals conv=>whnf)
  exact ⟨1,5,rfl,by decide,Nat.le_refl _⟩
 ·rintro ⟨m,b⟩ ⟨h1,h2⟩
  simp only at h1 h2
  have hm:(ws m).length≤8796093022208:=Nat.le_trans (ws_len_le (Nat.lt_of_le_of_lt h2 (lt_ws_len n))) hn
  have hs:=bigSmall_d (gl:=gl) m 10 (by decide) (by decide) hm
  have h10:((m % 10:Nat):Int)<10:=by omega
  have hbl:b.length≤87960930222080:=by
   have:=dl10_max n
   rw[h1,List.length_append] at this
   omega
  ((repeat' ((conv=>whnf);first|exact .intro|refine .ya ?_|refine .na ?_|refine .ys ?_|refine .ns ?_|refine .neg (fun _=>?_) (fun _=>?_)|refine .mk (fun _=>?_) (fun _=>?_)|refine .inl (.inl (X1 (hs) ?_))|refine .inl (X1 (hs) ?_)|refine X1 (hs) ?_|refine .mk ?_ ?_|refine AK ?_|refine AT ?_|fail));all_goals conv=>whnf)
  ·rename_i hx
   have hm0:m≠0:=fun e=>by
    have hx':0<(((wD (ws m)).length:Nat):Int):=hx
    rw[e,wD_len,ws_zero] at hx'
    exact absurd hx' (by decide)
   refine ⟨⟨rfl,by show ((bD b).length+1) * 1≤140737488355328;unfold bD;rw[List.length_map];omega,by show (bD b).length+1≤maxLen;unfold bD maxLen;rw[List.length_map];omega⟩,?_⟩
   ((repeat' ((conv=>whnf);first|exact .intro|refine .ya ?_|refine .na ?_|refine .ys ?_|refine .ns ?_|refine .neg (fun _=>?_) (fun _=>?_)|refine .mk (fun _=>?_) (fun _=>?_)|refine .mk ?_ ?_|refine AK ?_|refine AT ?_|fail));all_goals conv=>whnf)
   refine ⟨(m / 10,b++[dig (m % 10)]),⟨⟨?_,Nat.le_trans (Nat.div_le_self _ _) h2⟩,Nat.div_lt_self (Nat.pos_of_ne_zero hm0) (by decide)⟩,?_⟩
   ·rw[h1,dl10_pos hm0,List.append_assoc];rfl
   ·((repeat' first|exact rfl|((conv=>whnf);first|done|exact suL|refine And.intro ?_ ?_|fail));all_goals conv=>whnf)
    show bD b++[[D.v (.int .u8 (IntKind.u8.wrap (IntKind.u32.wrap (48+((m % 10:Nat):Int)))))]]=bD (b++[dig (m % 10)])
    rw[IntWalk.u32_in _ (by omega),IntWalk.u8_in _ (by omega),bD_app,dig_nat (Nat.mod_lt m (by decide))]
  ·rename_i hx
   have hm0:m=0:=Classical.byContradiction fun e=>hx (by
    show 0<(((wD (ws m)).length:Nat):Int)
    rw[wD_len]
    have:(ws m).length≠0:=fun h=>e (ws_nil.1 (List.eq_nil_of_length_eq_zero h))
    omega)
   have hb:b=dl10 n:=by rw[h1,hm0,dl10_zero,List.append_nil]
   subst hm0
   have hb0:b≠[]:=by rw[hb,dl10_pos h0];exact List.cons_ne_nil _ _
   have hbp:0<b.length:=List.length_pos_iff.2 hb0
   refine ⟨{ σ:=(Nat×List UInt8),fr:=fun s=>[(8,.c (.d (iD s.1))),(9,.c (.d (iD ((b.length - 1 - s.1:Nat):Int))))],ks:=[0],L:=fun s=>[(0,.rows 1 (bD s.2) 5)],ex:=0,I:=fun s=>Turned b s.2 s.1,μ:=fun s=>b.length - s.1 },⟨(0,b),Turned.zero b,?_⟩,?_⟩
   ·((repeat' first|exact rfl|((conv=>whnf);first|done|exact suL|refine And.intro ?_ ?_|fail));all_goals conv=>whnf)
    exact ceq (show IntKind.i64.wrap ((((bD b).length:Nat):Int) - 1)=((b.length - 1 - 0:Nat):Int) by rw[bD_len,wrapI (by omega)];omega)
   ·rintro ⟨k,p⟩ ht
    have ht':Turned b p k:=ht
    obtain ⟨t1,t2,_⟩:=id ht'
    have hki:0≤(k:Int)∧(k:Int)<((bD p).length:Nat):=by rw[bD_len];omega
    have hji:0≤((b.length - 1 - k:Nat):Int)∧((b.length - 1 - k:Nat):Int)<((bD p).length:Nat):=by rw[bD_len];omega
    have hk:k<p.length:=by omega
    have hj:b.length - 1 - k<p.length:=by omega
    have hji2:0≤((b.length - 1 - k:Nat):Int)∧((b.length - 1 - k:Nat):Int)<(((bD p).set ((k:Nat):Int).toNat (u8D p[b.length - 1 - k])).length:Nat):=by rw[List.length_set];exact hji
    ((repeat' ((conv=>whnf);first|exact .intro|refine .ya ?_|refine .na ?_|refine .ys ?_|refine .ns ?_|refine .neg (fun _=>?_) (fun _=>?_)|refine .mk (fun _=>?_) (fun _=>?_)|refine .mk ?_ ?_|refine AK ?_|refine And.intro (by first|(first|exact hki|exact hji|exact hji2|assumption|omega|(simp;done);done)|fail) ?_|fail));all_goals conv=>whnf)
    ·rename_i hx
     have hx':k<b.length - 1 - k:=Int.ofNat_lt.1 hx
     have hj2:b.length - 1 - k<(p.set k p[b.length - 1 - k]).length:=by rw[List.length_set];exact hj
     have hg3:((bD p).set ((k:Nat):Int).toNat (u8D p[b.length - 1 - k]))[((b.length - 1 - k:Nat):Int).toNat]?=some (u8D (p.set k p[b.length - 1 - k])[b.length - 1 - k]):=by rw[bset];exact bget hj2
     refine ⟨_,bget hk,?_⟩
     ((repeat' ((conv=>whnf);first|exact .intro|refine .ya ?_|refine .na ?_|refine .ys ?_|refine .ns ?_|refine .neg (fun _=>?_) (fun _=>?_)|refine .mk (fun _=>?_) (fun _=>?_)|refine .mk ?_ ?_|refine AK ?_|refine And.intro (by first|(first|exact hki|exact hji|exact hji2|assumption|omega|(simp;done);done)|fail) ?_|fail));all_goals conv=>whnf)
     refine ⟨_,bget hj,?_⟩
     ((repeat' ((conv=>whnf);first|exact .intro|refine .ya ?_|refine .na ?_|refine .ys ?_|refine .ns ?_|refine .neg (fun _=>?_) (fun _=>?_)|refine .mk (fun _=>?_) (fun _=>?_)|refine .mk ?_ ?_|refine AK ?_|refine And.intro (by first|(first|exact hki|exact hji|exact hji2|assumption|omega|(simp;done);done)|fail) ?_|fail));all_goals conv=>whnf)
     refine ⟨_,bget hk,?_⟩
     ((repeat' ((conv=>whnf);first|exact .intro|refine .ya ?_|refine .na ?_|refine .ys ?_|refine .ns ?_|refine .neg (fun _=>?_) (fun _=>?_)|refine .mk (fun _=>?_) (fun _=>?_)|refine .mk ?_ ?_|refine AK ?_|refine And.intro (by first|(first|exact hki|exact hji|exact hji2|assumption|omega|(simp;done);done)|fail) ?_|fail));all_goals conv=>whnf)
     refine ⟨_,hg3,?_⟩
     ((repeat' ((conv=>whnf);first|exact .intro|refine .ya ?_|refine .na ?_|refine .ys ?_|refine .ns ?_|refine .neg (fun _=>?_) (fun _=>?_)|refine .mk (fun _=>?_) (fun _=>?_)|refine .mk ?_ ?_|refine AK ?_|refine And.intro (by first|(first|exact hki|exact hji|exact hji2|assumption|omega|(simp;done);done)|fail) ?_|fail));all_goals conv=>whnf)
     refine ⟨(k+1,(p.set k p[b.length - 1 - k]).set (b.length - 1 - k) p[k]),⟨ht'.step hx' hk hj,by show b.length - (k+1)<b.length - k;omega⟩,?_⟩
     ((repeat' first|exact rfl|((conv=>whnf);first|done|exact suL|refine And.intro ?_ ?_|fail));all_goals conv=>whnf)
     ·exact ceq (show IntKind.i64.wrap ((k:Int)+1)=((k+1:Nat):Int) by rw[wrapI (by omega)];rfl)
     ·exact ceq (show IntKind.i64.wrap (((b.length - 1 - k:Nat):Int) - 1)=((b.length - 1 - (k+1):Nat):Int) by rw[wrapI (by omega)];omega)
     ·show List.set (List.set (bD p) ((k:Nat):Int).toNat (u8D p[b.length - 1 - k])) ((b.length - 1 - k:Nat):Int).toNat (u8D p[k])=bD ((p.set k p[b.length - 1 - k]).set (b.length - 1 - k) p[k])
      rw[bset,bset]
    ·rename_i hx
     have hx':¬ k<b.length - 1 - k:=fun h=>hx (Int.ofNat_lt.2 h)
     refine ⟨p,rfl,?_⟩
     ((repeat' ((conv=>whnf);first|exact .intro|refine .ya ?_|refine .na ?_|refine .ys ?_|refine .ns ?_|refine .neg (fun _=>?_) (fun _=>?_)|refine .mk (fun _=>?_) (fun _=>?_)|refine .mk ?_ ?_|refine AK ?_|refine AT ?_|fail));all_goals conv=>whnf)
     refine LeD.of (congrArg D.str ?_)
     rw[ht'.done hx',hb,decB,if_neg h0]
theorem String_p (n:Nat) (hn:(ws n).length≤8796093022208):FnP Tryz.prog gl 160 [.imm [fD,W n]] (.str (decB n)):=by
 have h:=Text_p (gl:=gl) n hn
 refine fnP_of_vc (nv:=9999) (cu:=[]) fits mixed Tryz.func160 rfl hoB rfl ?_
 ((repeat' ((conv=>whnf);first|exact .intro|refine .ya ?_|refine .na ?_|refine .ys ?_|refine .ns ?_|refine .neg (fun _=>?_) (fun _=>?_)|refine .mk (fun _=>?_) (fun _=>?_)|refine .inl (.inl (X1 (h) ?_))|refine .inl (X1 (h) ?_)|refine X1 (h) ?_|refine .mk ?_ ?_|refine AK ?_|refine AT ?_|fail));all_goals conv=>whnf)
 exact LeD.rfl
theorem Digits_p (n:Nat) (hn:n<9223372036854775808):FnP Tryz.prog gl 126 [iD n] (.str (decB n)):=by
 have h:=String_p (gl:=gl) n (Nat.le_trans (ws_len_le (k:=2) (Nat.lt_trans hn (by decide))) (by decide))
 have h2:=NewInt_p (gl:=gl) n hn
 refine fnP_of_vc (nv:=9999) (cu:=[]) fits mixed Tryz.func126 rfl hoB rfl ?_
 ((repeat' ((conv=>whnf);first|exact .intro|refine .ya ?_|refine .na ?_|refine .ys ?_|refine .ns ?_|refine .neg (fun _=>?_) (fun _=>?_)|refine .mk (fun _=>?_) (fun _=>?_)|refine .inl (.inl (X1 (by first|exact h|exact h2) ?_))|refine .inl (X1 (by first|exact h|exact h2) ?_)|refine X1 (by first|exact h|exact h2) ?_|refine .mk ?_ ?_|refine AK ?_|refine AT ?_|fail));all_goals conv=>whnf)
 exact LeD.rfl
end Go.Proofs.YtdpigpahfiachaaGreatDoor
end
section
namespace Go.Proofs.YtdpigpahfiachaaGreatDoor
open Go Go.EYtdpigpahfiachaaGreatDoor
set_option maxRecDepth 100000
variable {gl:List (Nat×List D)}
theorem rv_lt {l:List UInt8}:∀ {k:Nat},k≤l.length→(∀ d ∈ l.take k,isDig d)→rv l k<10 ^ k
 | 0,_,_=>by show 0<1;omega
 | k+1,h,hd=>by
  have hk:k<l.length:=h
  have h1:=rv_lt (l:=l) (k:=k) (by omega) fun d hx=>hd d (by rw[List.take_succ_eq_append_getElem hk];exact List.mem_append_left _ hx)
  have h2:isDig l[k]:=hd _ (by rw[List.take_succ_eq_append_getElem hk];exact List.mem_append_right _ (List.mem_singleton_self _))
  rw[rv_succ hk,Nat.pow_succ]
  obtain ⟨h3,h4⟩:=h2
  omega
theorem ws_rv {l:List UInt8} {k:Nat} (hk:k≤l.length) (hd:∀ d ∈ l.take k,isDig d):(ws (rv l k)).length≤(k+7) / 8:=by
 refine ws_len_le (Nat.lt_of_lt_of_le (rv_lt hk hd) ?_)
 have h1:10 ^ k≤16 ^ k:=Nat.pow_le_pow_left (by decide) _
 have h2:16 ^ k≤16 ^ (8 * ((k+7) / 8)):=Nat.pow_le_pow_right (by decide) (by omega)
 rw[Nat.pow_mul] at h2
 exact Nat.le_trans h1 h2
theorem nilW0:LeC (.d (.v (.slice none 0 0))) (.d (W 0)):=by
 show LeD _ _
 rw[W,ws_zero];exact nilW_le 1
theorem ws10 {n k:Nat} (h:n<10 ^ k):(ws n).length≤(k+7) / 8:=by
 refine ws_len_le (Nat.lt_of_lt_of_le h ?_)
 have h1:10 ^ k≤16 ^ k:=Nat.pow_le_pow_left (by decide) _
 have h2:16 ^ k≤16 ^ (8 * ((k+7) / 8)):=Nat.pow_le_pow_right (by decide) (by omega)
 rw[Nat.pow_mul] at h2
 exact Nat.le_trans h1 h2
abbrev wholeC (s:List UInt8):Prop:=(∀ d ∈ s,isDig d)∧rv s s.length<9223372036854775808
theorem Whole_p (s:List UInt8) (h0:s≠[]) (h1:¬ (s.head?=some 48∧s≠[48])) (hs:s.length≤140737488355328):FnP Tryz.prog gl 139 [.str s,fD] (if wholeC s then .tup [iD (rv s s.length),.v (.bool true)] else .tup [iD 0,fD]):=by
 obtain ⟨a,l,rfl⟩:=List.exists_cons_of_ne_nil h0
 have h10:=NewInt_p (gl:=gl) 10 (by decide)
 have hw10:(ws 10).length≤35184372088832:=Nat.le_trans (ws_len_le (k:=1) (by decide)) (by decide)
 have hmax:(a::l).length≤maxLen:=by unfold maxLen;omega
 have key:((((a::l).getD (Int.toNat 0) 0).toNat:Int)=48∧a::l=(⟨#[48]⟩:ByteArray).data.toList)∨¬ (((a::l).getD (Int.toNat 0) 0).toNat:Int)=48:=by
  by_cases ha:a=48
  ·left
   subst ha
   refine ⟨rfl,?_⟩
   by_cases hl:l=[]
   ·rw[hl]
   ·exact absurd ⟨rfl,fun e=>hl (List.cons.inj e).2⟩ h1
  ·right
   intro e
   exact ha (UInt8.toNat_inj.1 (show a.toNat=(48:UInt8).toNat from Int.ofNat.inj e))
 have fin:∀ hA:True,True:=fun _=>trivial
 rcases key with ⟨hA,hB⟩|hA
 all_goals
  refine fnP_of_vc (nv:=9999) (cu:=[]) fits mixed Tryz.func139 rfl hoB rfl ?_
  ((repeat' ((conv=>whnf);first|exact .intro|refine .ya ?_|refine .na ?_|refine .ys ?_|refine .ns ?_|refine .neg (fun _=>?_) (fun _=>?_)|refine .mk (fun _=>?_) (fun _=>?_)|refine .inl (.inl (X1 (h10) ?_))|refine .inl (X1 (h10) ?_)|refine X1 (h10) ?_|refine .mk ?_ ?_|refine AK ?_|refine AT ?_|fail));all_goals conv=>whnf)
  refine ⟨{ σ:=Nat,fr:=fun k=>[(8,.c (.d (iD k)))],ks:=[0],L:=fun k=>[(0,.var [.d fD,.d (W (rv (a::l) k))] 201)],ex:=0,I:=fun k=>k≤(a::l).length∧∀ d ∈ (a::l).take k,isDig d,μ:=fun k=>(a::l).length - k },⟨0,⟨Nat.zero_le _,by simp⟩,?_⟩,fun (k:Nat) hk=>?_⟩
  ·((repeat' first|exact rfl|((conv=>whnf);first|done|exact suL|refine And.intro ?_ ?_|fail));all_goals conv=>whnf)
   exact .inr (.inr (.inr nilW0))
  ·obtain ⟨hk1,hk2⟩:=hk
   have hwk:=ws_rv hk1 hk2
   by_cases hlt:k<(a::l).length
   ·have hkl:(k:Int)<(((a::l).length:Nat):Int):=Int.ofNat_lt.2 hlt
    have eg:(a::l).getD ((k:Int)).toNat 0=(a::l)[k]:=by rw[Int.toNat_natCast,List.getD,List.getElem?_eq_getElem hlt];rfl
    have hmem:=List.getElem_mem hlt
    by_cases hlo:(((a::l).getD ((k:Int)).toNat 0).toNat:Int)<48
    ·((repeat' ((conv=>whnf);first|exact .intro|refine .ya ?_|refine .na ?_|refine .ys ?_|refine .ns ?_|refine .neg (fun _=>?_) (fun _=>?_)|refine .mk (fun _=>?_) (fun _=>?_)|refine .inl (.inl (X1 (h10) ?_))|refine .inl (X1 (h10) ?_)|refine X1 (h10) ?_|refine .mk ?_ ?_|refine AK ?_|refine AT ?_|fail));all_goals conv=>whnf)
     exact LeD.ite_neg (fun hh=>by have:=(hh.1 _ hmem).1;rw[← eg] at this;omega) LeD.rfl
    by_cases hhi:57<(((a::l).getD ((k:Int)).toNat 0).toNat:Int)
    ·((repeat' ((conv=>whnf);first|exact .intro|refine .ya ?_|refine .na ?_|refine .ys ?_|refine .ns ?_|refine .neg (fun _=>?_) (fun _=>?_)|refine .mk (fun _=>?_) (fun _=>?_)|refine .inl (.inl (X1 (h10) ?_))|refine .inl (X1 (h10) ?_)|refine X1 (h10) ?_|refine .mk ?_ ?_|refine AK ?_|refine AT ?_|fail));all_goals conv=>whnf)
     exact LeD.ite_neg (fun hh=>by have:=(hh.1 _ hmem).2;rw[← eg] at this;omega) LeD.rfl
    have hdig:isDig (a::l)[k]:=by rw[← eg];exact ⟨by omega,by omega⟩
    have hd2:∀ d ∈ (a::l).take (k+1),isDig d:=fun d hd=>by
     rw[List.take_succ_eq_append_getElem hlt] at hd
     rcases List.mem_append.1 hd with hd|hd
     ·exact hk2 d hd
     ·rw[List.mem_singleton.1 hd];exact hdig
    have hM:=Mul_p (gl:=gl) (rv (a::l) k) 10 (by omega) hw10
    have hA2:=Add_p (gl:=gl) (rv (a::l) k * 10) ((a::l)[k].toNat - 48) (by
     have h1:=rv_lt hk1 hk2
     have:=ws10 (n:=rv (a::l) k * 10) (k:=k+1) (by rw[Nat.pow_succ];omega)
     omega) (Nat.le_trans (ws_len_le (k:=1) (by have:=hdig.2;simp only[B32];omega)) (by decide))
    have hNI:FnP Tryz.prog gl 159 [.v (.int .i64 (IntKind.i64.wrap (IntKind.i64.wrap (((a::l).getD ((k:Int)).toNat 0).toNat:Int) - 48)))] (.imm [fD,W ((a::l)[k].toNat - 48)]):=by
     rw[wrapI (n:=(((a::l).getD ((k:Int)).toNat 0).toNat:Int)) (by omega),wrapI (by omega),show ((((a::l).getD ((k:Int)).toNat 0).toNat:Int) - 48)=(((a::l)[k].toNat - 48:Nat):Int) by rw[← eg];omega]
     exact NewInt_p _ (by have:=hdig.2;omega)
    ((repeat' ((conv=>whnf);first|exact .intro|refine .ya ?_|refine .na ?_|refine .ys ?_|refine .ns ?_|refine .neg (fun _=>?_) (fun _=>?_)|refine .mk (fun _=>?_) (fun _=>?_)|refine .inr (X5 (hM.r [0] _) ?_)|refine .inl (.inr (X5 (hM.r [0] _) ?_))|refine .inl (X5 (hM.r [0] _) ?_)|refine .inr (X5 (hA2.r [0] _) ?_)|refine .inl (.inr (X5 (hA2.r [0] _) ?_))|refine .inl (X5 (hA2.r [0] _) ?_)|refine .inl (.inl (X1 (by first|exact h10|exact hNI) ?_))|refine .inl (X1 (by first|exact h10|exact hNI) ?_)|refine X1 (by first|exact h10|exact hNI) ?_|refine .mk ?_ ?_|refine AK ?_|refine AT ?_|fail));all_goals conv=>whnf)
    refine ⟨k+1,⟨⟨hlt,hd2⟩,by show (a::l).length - (k+1)<(a::l).length - k;omega⟩,?_⟩
    ((repeat' first|exact rfl|((conv=>whnf);first|done|exact suL|refine And.intro ?_ ?_|fail));all_goals conv=>whnf)
    ·exact ceq (show IntKind.i64.wrap ((k:Int)+1)=((k+1:Nat):Int) by rw[wrapI (by omega)];rfl)
    ·exact .inr (.inl (by rw[rv_succ hlt]))
   ·have hkl:¬ (k:Int)<(((a::l).length:Nat):Int):=fun h=>hlt (Int.ofNat_lt.1 h)
    have hke:k=(a::l).length:=by omega
    rw[hke,List.take_length] at hk2
    have hwk2:(ws (rv (a::l) k)).length≤35184372088832:=by omega
    have hF:=Fits_p (gl:=gl) (rv (a::l) k) hwk2
    by_cases hfit:rv (a::l) k<9223372036854775808
    ·have hI:=Int64_p (gl:=gl) (rv (a::l) k) hfit
     ((repeat' ((conv=>whnf);first|exact .intro|refine .ya ?_|refine .na ?_|refine .ys ?_|refine .ns ?_|refine .neg (fun _=>?_) (fun _=>?_)|refine .mk (fun _=>?_) (fun _=>?_)|refine .inl (.inl (X1 (by first|exact hF|exact hI) ?_))|refine .inl (X1 (by first|exact hF|exact hI) ?_)|refine X1 (by first|exact hF|exact hI) ?_|refine .mk ?_ ?_|refine AK ?_|refine AT ?_|fail));all_goals conv=>whnf)
     rw[hke]
     exact LeD.ite_pos ⟨hk2,hke ▸ hfit⟩ LeD.rfl
    ·((repeat' ((conv=>whnf);first|exact .intro|refine .ya ?_|refine .na ?_|refine .ys ?_|refine .ns ?_|refine .neg (fun _=>?_) (fun _=>?_)|refine .mk (fun _=>?_) (fun _=>?_)|refine .inl (.inl (X1 (hF) ?_))|refine .inl (X1 (hF) ?_)|refine X1 (hF) ?_|refine .mk ?_ ?_|refine AK ?_|refine AT ?_|fail));all_goals conv=>whnf)
     exact LeD.ite_neg (fun hh=>hfit (hke ▸ hh.2)) LeD.rfl
end Go.Proofs.YtdpigpahfiachaaGreatDoor
end
