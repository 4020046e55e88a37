/- Proved: a part of what the law is proved with (the reckoner, contracts of functions, plain laws). Conditions: as each says. -/
import Derived.Test.YtfkjhfdpphfjhaaGreatDoorWBa
import Derived.Test.YtfkjhfdpphfjhaaGreatDoorWBd
section
namespace Go.Proofs.YtfkjhfdpphfjhaaGreatDoor
open Go Go.EYtfkjhfdpphfjhaaGreatDoor
set_option maxRecDepth 100000
variable {gl:List (Nat×List D)}
theorem small_step {a b d r t v q:Nat} (ht:t=r * 4294967296+a) (h:v=q * d+r) (hv:b=a+B32 * v):b=(t / d+B32 * q) * d+t % d:=by
 have h1:=Nat.div_add_mod t d
 have h2:(t / d+B32 * q) * d=d * (t / d)+B32 * (q * d):=by rw[Nat.add_mul,Nat.mul_comm (t / d) d,Nat.mul_assoc]
 rw[h2,hv,h]
 simp only[B32] at *
 rw[Nat.mul_add]
 omega
theorem bigSmall_d (n d:Nat) (hd:0<d) (hd2:d<B32) (hn:(ws n).length≤8796093022208):FnP Tryz.prog gl 223 [W n,.v (.int .u32 d)] (.tup [W (n / d),.v (.int .u32 ((n % d:Nat):Int))]):=by
 have wa:=wD_len (ws n)
 have e1:IntKind.i64.wrap ((((wD (ws n)).length:Nat):Int) - 1)=(((ws n).length:Nat):Int) - 1:=by rw[wa,wrapI (by omega)]
 refine fnP_of_vc (nv:=9999) (cu:=[]) fits mixed Tryz.func223 rfl hoB rfl ?_
 ((repeat' ((conv=>whnf);first|exact .intro|refine G ?_|intro _|refine .mk ?_ ?_|refine AK ?_|refine AO ?_|fail));all_goals conv=>whnf)
 refine ⟨⟨by omega,by omega,by show (4:Int) * _≤_;rw[wa];omega,by rw[wa];omega⟩,?_⟩
 ((repeat' ((conv=>whnf);first|exact .intro|refine G ?_|intro _|refine .mk ?_ ?_|refine AK ?_|refine AO ?_|fail));all_goals conv=>whnf)
 refine ⟨{ σ:=(Nat×List Nat×Nat),fr:=fun s=>[(7,.c (.d (.v (.int .u64 s.2.2)))),(8,.c (.d (iD ((s.1:Int) - 1))))],ks:=[0],L:=fun s=>[(0,.rows 1 (wD (List.replicate s.1 0++s.2.1)) 221)],ex:=0,I:=fun s=>s.1+s.2.1.length=(ws n).length∧(∀ x ∈ s.2.1,x<B32)∧s.2.2<d∧val ((ws n).drop s.1)=val s.2.1 * d+s.2.2,μ:=fun s=>s.1 },⟨((ws n).length,[],0),⟨rfl,by simp,hd,by simp[val]⟩,?_⟩,?_⟩
 ·((repeat' first|exact rfl|((conv=>whnf);first|done|exact suL|refine And.intro ?_ ?_|fail));all_goals conv=>whnf)
  ·exact ceq e1
  ·show List.replicate (((wD (ws n)).length:Nat):Int).toNat _=wD (List.replicate (ws n).length 0++[])
   rw[List.append_nil,wD_rep,Int.toNat_natCast,wa]
   rfl
 ·rintro ⟨k,q,r⟩ ⟨h1,h2,h3,h4⟩
  simp only at h1 h2 h3 h4
  ((repeat' ((conv=>whnf);first|exact .intro|refine G ?_|intro _|refine .mk ?_ ?_|refine AK ?_|refine AO ?_|fail));all_goals conv=>whnf)
  ·rename_i hx
   obtain ⟨k,rfl⟩:∃ j,k=j+1:=⟨k - 1,by have hx':0≤(k:Int) - 1:=hx;omega⟩
   have hk:k<(ws n).length:=by omega
   have ek:((k+1:Nat):Int) - 1=(k:Int):=by omega
   have hget:(wD (ws n))[(((k+1:Nat):Int) - 1).toNat]?=some [u32D (ws n)[k]]:=by rw[ek];exact wget hk
   have ha:=ws_lt n _ (List.getElem_mem hk)
   refine ⟨_,hget,?_⟩
   have hl:(List.replicate (k+1) 0++q).length=(ws n).length:=by simp;omega
   have hil:((k+1:Nat):Int) - 1<((wD (List.replicate (k+1) 0++q)).length:Nat):=by rw[wD_len,hl];omega
   have hget2:(wD (List.replicate (k+1) 0++q))[(((k+1:Nat):Int) - 1).toNat]?=some [u32D (List.replicate (k+1) 0++q)[k]]:=by rw[ek];exact wget (by omega)
   have hnn:0≤((k+1:Nat):Int) - 1:=by omega
   have hd0:¬ IntKind.u64.wrap (d:Int)=0:=by rw[w64 (by simp only[B32] at hd2;omega)];omega
   ((repeat' ((conv=>whnf);first|exact .intro|refine G ?_|intro _|refine .mk ?_ ?_|refine AK ?_|refine And.intro (by first|(first|exact ⟨hnn,hil⟩|assumption|omega|(simp;done);done)|fail) ?_|fail));all_goals conv=>whnf)
   refine ⟨_,hget2,?_⟩
   ((repeat' ((conv=>whnf);first|exact .intro|refine G ?_|intro _|refine .mk ?_ ?_|refine H ?_|fail));all_goals conv=>whnf)
   obtain ⟨t,ht⟩:∃ t,t=r * 4294967296+(ws n)[k]:=⟨_,rfl⟩
   have htl:t<d * 4294967296:=by simp only[B32] at ha;have:=Nat.mul_le_mul_right 4294967296 (show r+1≤d from h3);rw[Nat.add_mul] at this;omega
   have et:IntKind.u64.wrap ((BitVec.ofInt 64 (IntKind.u64.wrap ((r:Int) * 2 ^ min (Int.toNat 32) IntKind.u64.bits)) ||| BitVec.ofInt 64 (IntKind.u64.wrap ((ws n)[k]:Int))).toNat:Int)=(t:Int):=by
    have ha':=ha
    simp only[B32] at ha' hd2
    rw[show (2:Int) ^ min (Int.toNat 32) IntKind.u64.bits=4294967296 from by decide,show (r:Int) * 4294967296=((r * 4294967296:Nat):Int) by omega,w64 (x:=r * 4294967296) (by omega),w64 (x:=(ws n)[k]) (by omega),BitVec.or_comm,or32 ha (show r<B32 by simp only[B32];omega),w64 (by simp only[B32];omega),ht]
    simp only[B32];omega
   have hq:t / d<B32:=Nat.div_lt_of_lt_mul htl
   refine ⟨(k,t / d::q,t % d),⟨⟨by simp;omega,?_,Nat.mod_lt _ hd,?_⟩,by show k<k+1;omega⟩,?_⟩
   ·intro x hx
    rcases List.mem_cons.1 hx with rfl|hx
    ·exact hq
    ·exact h2 x hx
   ·rw[List.drop_eq_getElem_cons hk]
    exact small_step ht h4 rfl
   ·have hdw:IntKind.u64.wrap (d:Int)=(d:Int):=w64 (by simp only[B32] at hd2;omega)
    ((repeat' first|exact rfl|((conv=>whnf);first|done|exact suL|refine And.intro ?_ ?_|fail));all_goals conv=>whnf)
    ·exact ceqK (show Int.tmod (IntKind.u64.wrap ((BitVec.ofInt 64 (IntKind.u64.wrap ((r:Int) * 2 ^ min (Int.toNat 32) IntKind.u64.bits)) ||| BitVec.ofInt 64 (IntKind.u64.wrap ((ws n)[k]:Int))).toNat:Int)) (IntKind.u64.wrap (d:Int))=((t % d:Nat):Int) by rw[et,hdw];rfl)
    ·exact ceq (show IntKind.i64.wrap (((k+1:Nat):Int) - 1 - 1)=(k:Int) - 1 by rw[wrapI (by omega)];omega)
    ·show List.set (wD (List.replicate (k+1) 0++q)) (((k+1:Nat):Int) - 1).toNat [D.v (.int .u32 (IntKind.u32.wrap (IntKind.u64.wrap (Int.tdiv (IntKind.u64.wrap ((BitVec.ofInt 64 (IntKind.u64.wrap ((r:Int) * 2 ^ min (Int.toNat 32) IntKind.u64.bits)) ||| BitVec.ofInt 64 (IntKind.u64.wrap ((ws n)[k]:Int))).toNat:Int)) (IntKind.u64.wrap (d:Int))))))]=wD (List.replicate k 0++(t / d::q))
     rw[et,hdw,ek,show Int.tdiv (t:Int) (d:Int)=((t / d:Nat):Int) from rfl,w64 (by simp only[B32] at hq;omega),lo32,Nat.mod_eq_of_lt hq,wset,List.replicate_succ',List.append_assoc]
     congr 1
     rw[List.set_append_right _ _ (by simp)]
     simp
  ·rename_i hx
   obtain rfl:k=0:=by
    have hx':¬ 0≤(k:Int) - 1:=hx
    omega
   have hv:n=val q * d+r:=by rw[List.drop_zero,val_ws] at h4;exact h4
   have e2:n / d=val q:=by rw[hv,Nat.mul_comm,Nat.mul_add_div hd,Nat.div_eq_of_lt h3,Nat.add_zero]
   have e3:n % d=r:=by rw[hv,Nat.mul_add_mod_self_right,Nat.mod_eq_of_lt h3]
   have ht:=trim_d (gl:=gl) (List.replicate 0 0++q) h2 (by simp at h1 ⊢;unfold maxLen;omega)
   rw[show val (List.replicate 0 0++q)=n / d by rw[e2];rfl] at ht
   ((repeat' ((conv=>whnf);first|exact .intro|refine G ?_|intro _|refine C2 ht ?_|refine .mk ?_ ?_|refine AK ?_|refine AO ?_|fail));all_goals conv=>whnf)
   refine LeD.of ?_
   have hr:r<B32:=by omega
   rw[e3]
   show D.tup [W (n / d),D.v (.int .u32 (IntKind.u32.wrap (r:Int)))]=_
   rw[lo32,Nat.mod_eq_of_lt hr]
end Go.Proofs.YtfkjhfdpphfjhaaGreatDoor
end
section
namespace Go.Proofs.YtfkjhfdpphfjhaaGreatDoor
open Go Go.EYtfkjhfdpphfjhaaGreatDoor
set_option maxRecDepth 100000
variable {gl:List (Nat×List D)}
def dl10 (n:Nat):List UInt8:=if _h:n=0 then [] else dig (n % 10)::dl10 (n / 10)
termination_by n
decreasing_by exact Nat.div_lt_self (Nat.pos_of_ne_zero _h) (by decide)
theorem dl10_zero:dl10 0=[]:=by rw[dl10];rfl
theorem dl10_pos {n:Nat} (h:n≠0):dl10 n=dig (n % 10)::dl10 (n / 10):=by rw[dl10];simp[h]
def decB (n:Nat):List UInt8:=if n=0 then [48] else (dl10 n).reverse
theorem dl10_len (n:Nat):n≠0→10 ^ ((dl10 n).length - 1)≤n:=by
 induction n using Nat.strongRecOn with
 | ind n ih =>
  intro h
  rw[dl10_pos h]
  by_cases h1:n / 10=0
  ·rw[h1,dl10_zero];simp;omega
  ·have:=ih _ (Nat.div_lt_self (Nat.pos_of_ne_zero h) (by decide)) h1
   rw[dl10_pos h1] at this ⊢
   simp only[List.length_cons,Nat.add_sub_cancel] at this ⊢
   rw[Nat.pow_succ];omega
theorem dl10_max (n:Nat):(dl10 n).length≤10 * (ws n).length:=by
 by_cases h:n=0
 ·subst h;rw[dl10_zero];exact Nat.zero_le _
 ·have h1:=dl10_len n h
  have h2:=lt_ws_len n
  have h3:B32 ^ (ws n).length≤10 ^ (10 * (ws n).length):=by rw[Nat.pow_mul];exact Nat.pow_le_pow_left (by decide) _
  have h4:10 ^ ((dl10 n).length - 1)<10 ^ (10 * (ws n).length):=by omega
  have:=(Nat.pow_lt_pow_iff_right (by decide:1<10)).1 h4
  omega
def bD (l:List UInt8):List (List D):=l.map u8D
theorem bD_len (l:List UInt8):(bD l).length=l.length:=List.length_map ..
theorem bD_app (l:List UInt8) (x:UInt8):bD (l++[x])=bD l++[u8D x]:=List.map_append ..
theorem bget {l:List UInt8} {k:Nat} (h:k<l.length):(bD l)[((k:Nat):Int).toNat]?=some (u8D l[k]):=by
 rw[Int.toNat_natCast];unfold bD;rw[List.getElem?_map,List.getElem?_eq_getElem h];rfl
theorem bset (l:List UInt8) (i:Nat) (x:UInt8):(bD l).set ((i:Nat):Int).toNat (u8D x)=bD (l.set i x):=by
 rw[Int.toNat_natCast];exact (List.map_set ..).symm
theorem digTab:∀ k:Fin 10,((48:Int)+(k.val:Int))=((dig k.val).toNat:Int):=by decide
theorem dig_nat {k:Nat} (h:k<10):((48:Int)+(k:Int))=((dig k).toNat:Int):=digTab ⟨k,h⟩
def Turned (l p:List UInt8) (k:Nat):Prop:=p.length=l.length∧2 * k≤l.length∧∀ x,x<l.length→p[x]?=if x<k∨l.length≤x+k then l[l.length - 1 - x]? else l[x]?
theorem Turned.zero (l:List UInt8):Turned l l 0:=⟨rfl,Nat.zero_le _,fun x hx=>by rw[if_neg (by omega)]⟩
theorem Turned.step {l p:List UInt8} {k:Nat} (h:Turned l p k) (hk:k<l.length - 1 - k) (h1:k<p.length) (h2:l.length - 1 - k<p.length):Turned l ((p.set k p[l.length - 1 - k]).set (l.length - 1 - k) p[k]) (k+1):=by
 obtain ⟨a,b,c⟩:=h
 refine ⟨by simpa using a,by omega,fun x hx=>?_⟩
 have ck:=c k (by omega)
 have cj:=c (l.length - 1 - k) (by omega)
 rw[if_neg (by omega),List.getElem?_eq_getElem h1] at ck
 rw[if_neg (by omega),List.getElem?_eq_getElem h2] at cj
 rw[List.getElem?_set,List.getElem?_set]
 by_cases e1:l.length - 1 - k=x
 ·rw[if_pos e1,if_pos (by simp;omega),if_pos (by omega),ck,show l.length - 1 - x=k by omega]
 ·rw[if_neg e1]
  by_cases e2:k=x
  ·subst e2
   rw[if_pos rfl,if_pos h1,if_pos (by omega),cj]
  ·rw[if_neg e2,c x hx]
   by_cases e3:x<k∨l.length≤x+k
   ·rw[if_pos e3,if_pos (by omega)]
   ·rw[if_neg e3,if_neg (by omega)]
theorem Turned.done {l p:List UInt8} {k:Nat} (h:Turned l p k) (hk:¬ k<l.length - 1 - k):p=l.reverse:=by
 obtain ⟨a,b,c⟩:=h
 refine List.ext_getElem? fun x=>?_
 rcases Nat.lt_or_ge x l.length with hx|hx
 ·rw[c x hx,List.getElem?_reverse hx]
  split
  ·rfl
  ·rw[show l.length - 1 - x=x by omega]
 ·rw[List.getElem?_eq_none (by omega),List.getElem?_eq_none (by simpa using hx)]
end Go.Proofs.YtfkjhfdpphfjhaaGreatDoor
end
section
namespace Go.Proofs.YtfkjhfdpphfjhaaGreatDoor
open Go Go.EYtfkjhfdpphfjhaaGreatDoor
set_option maxRecDepth 100000
variable {gl:List (Nat×List D)}
theorem rv_lt {l:List UInt8}:∀ {k:Nat},k≤l.length→(∀ d ∈ l.take k,isDig d)→rv l k<10 ^ k
 | 0,_,_=>by show 0<1;omega
 | k+1,h,hd=>by
  have hk:k<l.length:=h
  have h1:=rv_lt (l:=l) (k:=k) (by omega) fun d hx=>hd d (by rw[List.take_succ_eq_append_getElem hk];exact List.mem_append_left _ hx)
  have h2:isDig l[k]:=hd _ (by rw[List.take_succ_eq_append_getElem hk];exact List.mem_append_right _ (List.mem_singleton_self _))
  rw[rv_succ hk,Nat.pow_succ]
  obtain ⟨h3,h4⟩:=h2
  omega
theorem ws_rv {l:List UInt8} {k:Nat} (hk:k≤l.length) (hd:∀ d ∈ l.take k,isDig d):(ws (rv l k)).length≤(k+7) / 8:=by
 refine ws_len_le (Nat.lt_of_lt_of_le (rv_lt hk hd) ?_)
 have h1:10 ^ k≤16 ^ k:=Nat.pow_le_pow_left (by decide) _
 have h2:16 ^ k≤16 ^ (8 * ((k+7) / 8)):=Nat.pow_le_pow_right (by decide) (by omega)
 rw[Nat.pow_mul] at h2
 exact Nat.le_trans h1 h2
theorem nilW0:LeC (.d (.v (.slice none 0 0))) (.d (W 0)):=by
 show LeD _ _
 rw[W,ws_zero];exact nilW_le 1
theorem ws10 {n k:Nat} (h:n<10 ^ k):(ws n).length≤(k+7) / 8:=by
 refine ws_len_le (Nat.lt_of_lt_of_le h ?_)
 have h1:10 ^ k≤16 ^ k:=Nat.pow_le_pow_left (by decide) _
 have h2:16 ^ k≤16 ^ (8 * ((k+7) / 8)):=Nat.pow_le_pow_right (by decide) (by omega)
 rw[Nat.pow_mul] at h2
 exact Nat.le_trans h1 h2
abbrev wholeC (s:List UInt8):Prop:=(∀ d ∈ s,isDig d)∧rv s s.length<9223372036854775808
theorem Whole_p (s:List UInt8) (h0:s≠[]) (h1:¬ (s.head?=some 48∧s≠[48])) (hs:s.length≤140737488355328):FnP Tryz.prog gl 79 [.str s,fD] (if wholeC s then .tup [iD (rv s s.length),.v (.bool true)] else .tup [iD 0,fD]):=by
 obtain ⟨a,l,rfl⟩:=List.exists_cons_of_ne_nil h0
 have h10:=NewInt_p (gl:=gl) 10 (by decide)
 have hw10:(ws 10).length≤35184372088832:=Nat.le_trans (ws_len_le (k:=1) (by decide)) (by decide)
 have hmax:(a::l).length≤maxLen:=by unfold maxLen;omega
 have key:((((a::l).getD (Int.toNat 0) 0).toNat:Int)=48∧a::l=(⟨#[48]⟩:ByteArray).data.toList)∨¬ (((a::l).getD (Int.toNat 0) 0).toNat:Int)=48:=by
  by_cases ha:a=48
  ·left
   subst ha
   refine ⟨rfl,?_⟩
   by_cases hl:l=[]
   ·rw[hl]
   ·exact absurd ⟨rfl,fun e=>hl (List.cons.inj e).2⟩ h1
  ·right
   intro e
   exact ha (UInt8.toNat_inj.1 (show a.toNat=(48:UInt8).toNat from Int.ofNat.inj e))
 have fin:∀ hA:True,True:=fun _=>trivial
 rcases key with ⟨hA,hB⟩|hA
 all_goals
  refine fnP_of_vc (nv:=9999) (cu:=[]) fits mixed Tryz.func79 rfl hoB rfl ?_
  ((repeat' ((conv=>whnf);first|exact .intro|refine G ?_|intro _|refine C1 h10 ?_|refine .mk ?_ ?_|refine H ?_|fail));all_goals conv=>whnf)
  refine ⟨{ σ:=Nat,fr:=fun k=>[(8,.c (.d (iD k)))],ks:=[0],L:=fun k=>[(0,.var [.d fD,.d (W (rv (a::l) k))] 118)],ex:=0,I:=fun k=>k≤(a::l).length∧∀ d ∈ (a::l).take k,isDig d,μ:=fun k=>(a::l).length - k },⟨0,⟨Nat.zero_le _,by simp⟩,?_⟩,fun (k:Nat) hk=>?_⟩
  ·((repeat' first|exact rfl|((conv=>whnf);first|done|exact suL|refine And.intro ?_ ?_|fail));all_goals conv=>whnf)
   exact .inr (.inr (.inr nilW0))
  ·obtain ⟨hk1,hk2⟩:=hk
   have hwk:=ws_rv hk1 hk2
   by_cases hlt:k<(a::l).length
   ·have hkl:(k:Int)<(((a::l).length:Nat):Int):=Int.ofNat_lt.2 hlt
    have eg:(a::l).getD ((k:Int)).toNat 0=(a::l)[k]:=by rw[Int.toNat_natCast,List.getD,List.getElem?_eq_getElem hlt];rfl
    have hmem:=List.getElem_mem hlt
    by_cases hlo:(((a::l).getD ((k:Int)).toNat 0).toNat:Int)<48
    ·((repeat' ((conv=>whnf);first|exact .intro|refine G ?_|intro _|refine C1 h10 ?_|refine .mk ?_ ?_|refine H ?_|fail));all_goals conv=>whnf)
     exact LeD.ite_neg (fun hh=>by have:=(hh.1 _ hmem).1;rw[← eg] at this;omega) LeD.rfl
    by_cases hhi:57<(((a::l).getD ((k:Int)).toNat 0).toNat:Int)
    ·((repeat' ((conv=>whnf);first|exact .intro|refine G ?_|intro _|refine C1 h10 ?_|refine .mk ?_ ?_|refine H ?_|fail));all_goals conv=>whnf)
     exact LeD.ite_neg (fun hh=>by have:=(hh.1 _ hmem).2;rw[← eg] at this;omega) LeD.rfl
    have hdig:isDig (a::l)[k]:=by rw[← eg];exact ⟨by omega,by omega⟩
    have hd2:∀ d ∈ (a::l).take (k+1),isDig d:=fun d hd=>by
     rw[List.take_succ_eq_append_getElem hlt] at hd
     rcases List.mem_append.1 hd with hd|hd
     ·exact hk2 d hd
     ·rw[List.mem_singleton.1 hd];exact hdig
    have hM:=Mul_p (gl:=gl) (rv (a::l) k) 10 (by omega) hw10
    have hA2:=Add_p (gl:=gl) (rv (a::l) k * 10) ((a::l)[k].toNat - 48) (by
     have h1:=rv_lt hk1 hk2
     have:=ws10 (n:=rv (a::l) k * 10) (k:=k+1) (by rw[Nat.pow_succ];omega)
     omega) (Nat.le_trans (ws_len_le (k:=1) (by have:=hdig.2;simp only[B32];omega)) (by decide))
    have hNI:FnP Tryz.prog gl 69 [.v (.int .i64 (IntKind.i64.wrap (IntKind.i64.wrap (((a::l).getD ((k:Int)).toNat 0).toNat:Int) - 48)))] (.imm [fD,W ((a::l)[k].toNat - 48)]):=by
     rw[wrapI (n:=(((a::l).getD ((k:Int)).toNat 0).toNat:Int)) (by omega),wrapI (by omega),show ((((a::l).getD ((k:Int)).toNat 0).toNat:Int) - 48)=(((a::l)[k].toNat - 48:Nat):Int) by rw[← eg];omega]
     exact NewInt_p _ (by have:=hdig.2;omega)
    ((repeat' ((conv=>whnf);first|exact .intro|refine G ?_|intro _|refine C5 hM [0] ?_|refine C5 hA2 [0] ?_|refine C1 h10 ?_|refine C1 hNI ?_|refine .mk ?_ ?_|refine H ?_|fail));all_goals conv=>whnf)
    refine ⟨k+1,⟨⟨hlt,hd2⟩,by show (a::l).length - (k+1)<(a::l).length - k;omega⟩,?_⟩
    ((repeat' first|exact rfl|((conv=>whnf);first|done|exact suL|refine And.intro ?_ ?_|fail));all_goals conv=>whnf)
    ·exact ceq (show IntKind.i64.wrap ((k:Int)+1)=((k+1:Nat):Int) by rw[wrapI (by omega)];rfl)
    ·exact .inr (.inl (by rw[rv_succ hlt]))
   ·have hkl:¬ (k:Int)<(((a::l).length:Nat):Int):=fun h=>hlt (Int.ofNat_lt.1 h)
    have hke:k=(a::l).length:=by omega
    rw[hke,List.take_length] at hk2
    have hwk2:(ws (rv (a::l) k)).length≤35184372088832:=by omega
    have hF:=Fits_p (gl:=gl) (rv (a::l) k) hwk2
    by_cases hfit:rv (a::l) k<9223372036854775808
    ·have hI:=Int64_p (gl:=gl) (rv (a::l) k) hfit
     ((repeat' ((conv=>whnf);first|exact .intro|refine G ?_|intro _|refine C1 hF ?_|refine C1 hI ?_|refine .mk ?_ ?_|refine H ?_|fail));all_goals conv=>whnf)
     rw[hke]
     exact LeD.ite_pos ⟨hk2,hke ▸ hfit⟩ LeD.rfl
    ·((repeat' ((conv=>whnf);first|exact .intro|refine G ?_|intro _|refine C1 hF ?_|refine .mk ?_ ?_|refine H ?_|fail));all_goals conv=>whnf)
     exact LeD.ite_neg (fun hh=>hfit (hke ▸ hh.2)) LeD.rfl
end Go.Proofs.YtfkjhfdpphfjhaaGreatDoor
end
section
namespace Go.Proofs.YtfkjhfdpphfjhaaGreatDoor
open Go Go.EYtfkjhfdpphfjhaaGreatDoor
set_option maxRecDepth 100000
variable {gl:List (Nat×List D)}
theorem bl_cons (a b:UInt8) (x y:List UInt8):Op.bytesLess (a::x) (b::y)=true↔a.toNat<b.toNat∨(a=b∧Op.bytesLess x y=true):=by
 rw[Op.bytesLess];simp[UInt8.lt_iff_toNat_lt]
theorem bl_nil (x:List UInt8):¬ Op.bytesLess x []=true:=by cases x <;> simp[Op.bytesLess]
theorem bl_nil_cons (b:UInt8) (y:List UInt8):Op.bytesLess [] (b::y)=true:=by simp[Op.bytesLess]
theorem bl_asymm:∀ (x y:List UInt8),Op.bytesLess x y=true→¬ Op.bytesLess y x=true
 | _,[],h=>absurd h (bl_nil _)
 | [],_::_,_=>bl_nil _
 | a::x,b::y,h=>by
  rw[bl_cons] at h ⊢
  rcases h with h|⟨rfl,h⟩
  ·rintro (h'|⟨rfl,_⟩) <;> omega
  ·rintro (h'|⟨_,h'⟩)
   ·omega
   ·exact bl_asymm x y h h'
theorem bl_tri:∀ (x y:List UInt8),¬ Op.bytesLess x y=true→x≠y→Op.bytesLess y x=true
 | [],[],_,h=>absurd rfl h
 | a::x,[],_,_=>bl_nil_cons _ _
 | [],b::y,h,_=>absurd (bl_nil_cons b y) h
 | a::x,b::y,h,hne=>by
  rw[bl_cons] at h ⊢
  rcases Nat.lt_trichotomy a.toNat b.toNat with h1|h1|h1
  ·exact absurd (.inl h1) h
  ·obtain rfl:=UInt8.toNat_inj.1 h1
   exact .inr ⟨rfl,bl_tri x y (fun h2=>h (.inr ⟨rfl,h2⟩)) (fun e=>hne (by rw[e]))⟩
  ·exact .inl h1
theorem cmpS_cases (x y:List UInt8):(cmpS x y=-1∧Op.bytesLess x y=true)∨(cmpS x y=0∧x=y)∨(cmpS x y=1∧Op.bytesLess y x=true):=by
 unfold cmpS
 by_cases h:Op.bytesLess x y=true
 ·rw[if_pos h];exact .inl ⟨rfl,h⟩
 ·rw[if_neg h]
  by_cases e:x=y
  ·rw[if_pos e];exact .inr (.inl ⟨rfl,e⟩)
  ·rw[if_neg e];exact .inr (.inr ⟨rfl,bl_tri x y h e⟩)
theorem cmpS_swap (x y:List UInt8):cmpS y x=- cmpS x y:=by
 rcases cmpS_cases x y with ⟨h1,h2⟩|⟨h1,h2⟩|⟨h1,h2⟩ <;> rcases cmpS_cases y x with ⟨k1,k2⟩|⟨k1,k2⟩|⟨k1,k2⟩
 ·exact absurd k2 (bl_asymm _ _ h2)
 ·subst k2;exact absurd h2 (bl_asymm _ _ h2)
 ·omega
 ·subst h2;exact absurd k2 (bl_asymm _ _ k2)
 ·omega
 ·subst h2;exact absurd k2 (bl_asymm _ _ k2)
 ·omega
 ·subst k2;exact absurd h2 (bl_asymm _ _ h2)
 ·exact absurd k2 (bl_asymm _ _ h2)
theorem cmpZ_swap (x y:Int):cmpZ y x=- cmpZ x y:=by unfold cmpZ;repeat' split <;> omega
theorem cmpZ_zero {x y:Int}:cmpZ x y=0↔x=y:=by unfold cmpZ;repeat' split <;> omega
theorem cv_eq (k n:Int) (s:List UInt8) (k' n':Int) (s':List UInt8):cv k n s k' n' s'=if cmpZ k k'=0 then (if cmpZ n n'=0 then cmpS s s' else cmpZ n n') else cmpZ k k':=by
 unfold cv orL orL orL orL
 by_cases h:cmpZ k k'=0
 ·rw[if_pos h,if_pos h]
  by_cases h2:cmpZ n n'=0
  ·rw[if_pos h2,if_pos h2];split <;> rename_i h3 <;> first|exact h3.symm|rfl
  ·rw[if_neg h2,if_neg h2]
 ·rw[if_neg h,if_neg h]
theorem cv_swap (k n:Int) (s:List UInt8) (k' n':Int) (s':List UInt8):cv k' n' s' k n s=- cv k n s k' n' s':=by
 rw[cv_eq,cv_eq,cmpZ_swap k k',cmpZ_swap n n',cmpS_swap s s']
 repeat' split <;> omega
end Go.Proofs.YtfkjhfdpphfjhaaGreatDoor
end
