/- Proved: a part of what the law is proved with (the reckoner, contracts of functions, plain laws). Conditions: as each says. -/
import Derived.Shelf.Strings.Prefix
import Derived.Shelf.Strings.SlTrimAscii
import Derived.Shelf.Strconv.AtoiAll
import Derived.Shelf.Strconv.Itoa3
import Derived.Shelf.Strings.Search3
import Derived.Shelf.Strings.Repeat
import Derived.Test.YtfkjhfdpphfjhaaGreatDoorProg
import Derived.Test.YtfkjhfdpphfjhaaGreatDoorXBd
import Derived.Test.YtfkjhfdpphfjhaaGreatDoorXBg
import Derived.Test.YtfkjhfdpphfjhaaGreatDoorXRa
namespace Go.Proofs.YtfkjhfdpphfjhaaGreatDoor
open Go Go.EYtfkjhfdpphfjhaaGreatDoor
set_option maxRecDepth 100000
section
variable {gl:List (Nat×List D)}
theorem ws_get {m k:Nat} (h:k<(ws m).length):(ws m)[k]=m / B32 ^ k % B32:=by
 induction k generalizing m with
 | zero =>
  have h0:m≠0:=fun e=>by subst e;rw[ws_zero] at h;cases h
  simp only[ws_pos h0,List.getElem_cons_zero,Nat.pow_zero,Nat.div_one]
 | succ k ih =>
  have h0:m≠0:=fun e=>by subst e;rw[ws_zero] at h;cases h
  have h1:k<(ws (m / B32)).length:=by rw[ws_pos h0] at h;simpa using h
  simp only[ws_pos h0,List.getElem_cons_succ]
  rw[ih h1,Nat.div_div_eq_div_mul,Nat.pow_succ,Nat.mul_comm]
theorem bit_word (m k:Nat):m / B32 ^ (k / 32) % B32 / 2 ^ (k % 32) % 2=m / 2 ^ k % 2:=by
 have e1:B32 ^ (k / 32)=2 ^ (32 * (k / 32)):=by rw[Nat.pow_mul]
 have e2:2 ^ k=2 ^ (32 * (k / 32)) * 2 ^ (k % 32):=by rw[← Nat.pow_add,Nat.div_add_mod]
 rw[e1,e2,← Nat.div_div_eq_div_mul]
 generalize m / 2 ^ (32 * (k / 32))=x
 have h1:=Nat.testBit_mod_two_pow x 32 (k % 32)
 have h2:k % 32<32:=Nat.mod_lt _ (by decide)
 rw[show decide (k % 32<32)=true from decide_eq_true h2,Bool.true_and,Nat.testBit_eq_decide_div_mod_eq,Nat.testBit_eq_decide_div_mod_eq,decide_eq_decide] at h1
 have h3:=Nat.mod_two_eq_zero_or_one (x % B32 / 2 ^ (k % 32))
 have h4:=Nat.mod_two_eq_zero_or_one (x / 2 ^ (k % 32))
 have h1':x % B32 / 2 ^ (k % 32) % 2=1↔x / 2 ^ (k % 32) % 2=1:=h1
 omega
theorem and1 (a:Nat) (ha:a<18446744073709551616):IntKind.u64.wrap ((BitVec.ofInt IntKind.u64.bits (a:Int) &&& BitVec.ofInt IntKind.u64.bits 1).toNat)=((a % 2:Nat):Int):=by
 have e:a &&& 1=a % 2:=Nat.and_one_is_mod a
 have h1:(BitVec.ofInt IntKind.u64.bits (a:Int) &&& BitVec.ofInt IntKind.u64.bits 1).toNat=a % 2:=by
  rw[BitVec.toNat_and,BitVec.toNat_ofInt,BitVec.toNat_ofInt,← e]
  congr 1
  show ((a:Int) % 18446744073709551616).toNat=a
  omega
 rw[h1,u64w];omega
theorem bit_d (m k:Nat) (_hm:(ws m).length≤35184372088832) (hk:k<1000):FnP Tryz.prog gl 226 [W m,iD k] (uD (m / 2 ^ k % 2)):=by
 have wa:=wD_len (ws m)
 have h0:¬ (k:Int)<0:=by omega
 have e1:IntKind.i64.wrap ((k:Int).tdiv 32)=((k / 32:Nat):Int):=by
  rw[Int.tdiv_eq_ediv_of_nonneg (by omega),wrapI (by omega)];omega
 by_cases h:k / 32<(ws m).length
 ·have h1:¬ (((wD (ws m)).length:Nat):Int)≤IntKind.i64.wrap ((k:Int).tdiv 32):=by rw[e1,wa];omega
  refine S0 Tryz.func226 rfl ?_
  ((repeat' ((conv=>whnf);first|exact .intro|refine G ?_|intro _|refine .mk ?_ ?_|refine AK ?_|refine AO ?_|fail));all_goals conv=>whnf)
  refine ⟨[u32D (ws m)[k / 32]],by rw[e1];exact wget h,?_⟩
  have e2:(IntKind.u64.wrap (k:Int)).tmod 32=((k % 32:Nat):Int):=by
   rw[w64 (by omega),Int.tmod_eq_emod_of_nonneg (by omega)];omega
  ((repeat' ((conv=>whnf);first|exact .intro|refine G ?_|intro _|refine .mk ?_ ?_|refine AK ?_|refine And.intro (by first|(first|omega|(simp;done)|(rw[e2];omega);done)|fail) ?_|fail));all_goals conv=>whnf)
  refine LeD.of (congrArg (fun z=>D.v (.int .u64 z)) ?_)
  have hd:=ws_lt m _ (List.getElem_mem h)
  rw[e2,ws_get h]
  rw[ws_get h] at hd
  have hb:=bit_word m k
  generalize m / B32 ^ (k / 32) % B32=d at *
  have e3:(d:Int).fdiv (2 ^ min (Int.toNat ((k % 32:Nat):Int)) IntKind.u32.bits)=((d / 2 ^ (k % 32):Nat):Int):=by
   rw[Int.toNat_natCast,show min (k % 32) IntKind.u32.bits=k % 32 from Nat.min_eq_left (by show k % 32≤32;omega),Int.fdiv_eq_ediv_of_nonneg _ (Int.le_of_lt (Int.pow_pos (by decide)))]
   norm_cast
  have hle:=Nat.div_le_self d (2 ^ (k % 32))
  simp only[B32] at hd
  show IntKind.u64.wrap ((BitVec.ofInt IntKind.u64.bits (IntKind.u64.wrap ((d:Int).fdiv (2 ^ min (Int.toNat ((k % 32:Nat):Int)) IntKind.u32.bits))) &&& BitVec.ofInt IntKind.u64.bits 1).toNat)=_
  rw[e3,w64 (x:=d / 2 ^ (k % 32)) (by omega),and1 _ (by omega),hb]
 ·have h1:(((wD (ws m)).length:Nat):Int)≤IntKind.i64.wrap ((k:Int).tdiv 32):=by rw[e1,wa];omega
  refine S0 Tryz.func226 rfl ?_
  ((repeat' ((conv=>whnf);first|exact .intro|refine G ?_|intro _|refine .mk ?_ ?_|refine AK ?_|refine AO ?_|fail));all_goals conv=>whnf)
  refine LeD.of (congrArg (fun z=>D.v (.int .u64 z)) ?_)
  have h2:=lt_ws_len m
  have h3:=pow_le (show (ws m).length≤k / 32 by omega)
  have h4:m<2 ^ k:=by
   have e:2 ^ k=B32 ^ (k / 32) * 2 ^ (k % 32):=by rw[show B32=2 ^ 32 from rfl,← Nat.pow_mul,← Nat.pow_add,Nat.div_add_mod]
   rw[e]
   have:=Nat.le_mul_of_pos_right (B32 ^ (k / 32)) (Nat.two_pow_pos (k % 32))
   omega
  rw[Nat.div_eq_of_lt h4];rfl
theorem two_part {m:Nat} (h:m≠0):∃ K,m % 2 ^ K=0∧m / 2 ^ K % 2=1:=by
 induction m using Nat.strongRecOn with
 | ind m ih =>
  by_cases h1:m % 2=1
  ·exact ⟨0,by simp[Nat.mod_one],by simpa using h1⟩
  ·obtain ⟨K,h2,h3⟩:=ih (m / 2) (by omega) (by omega)
   refine ⟨K+1,?_,?_⟩
   ·have e:m=2 * (m / 2):=by omega
    rw[e,Nat.pow_succ,Nat.mul_comm _ 2,Nat.mul_mod_mul_left,h2]
   ·rw[Nat.pow_succ,Nat.mul_comm _ 2,← Nat.div_div_eq_div_mul];exact h3
theorem part_zero {m K k:Nat} (h:m % 2 ^ K=0) (hk:k<K):m / 2 ^ k % 2=0:=by
 obtain ⟨q,hq⟩:=Nat.dvd_of_mod_eq_zero h
 have e:2 ^ K=2 ^ k * (2 * 2 ^ (K - k - 1)):=by rw[← Nat.pow_succ',← Nat.pow_add];congr 1;omega
 rw[hq,e,Nat.mul_assoc,Nat.mul_div_cancel_left _ (Nat.two_pow_pos k),Nat.mul_assoc,Nat.mul_mod_right]
theorem TZB_d (x:D) (m:Nat) (h:m≠0) (hm:m<18446744073709551616):∃ K,K<64∧m % 2 ^ K=0∧m / 2 ^ K % 2=1∧FnP Tryz.prog gl 191 [.imm [x,W m]] (uD K):=by
 obtain ⟨K,h1,h2⟩:=two_part h
 have hK:K<64:=by
  rcases Nat.lt_or_ge K 64 with h3|h3
  ·exact h3
  ·have h4:2 ^ 64≤2 ^ K:=Nat.pow_le_pow_right (by decide) h3
   have h5:m / 2 ^ K=0:=Nat.div_eq_of_lt (Nat.lt_of_lt_of_le hm h4)
   rw[h5] at h2;cases h2
 refine ⟨K,hK,h1,h2,?_⟩
 have wa:=wD_len (ws m)
 have hl:(ws m).length≤2:=ws_len_le hm
 have hn:¬ (((wD (ws m)).length:Nat):Int)=0:=by
  rw[wa];intro e
  exact h (ws_nil.1 (List.eq_nil_of_length_eq_zero (by omega)))
 refine S0 Tryz.func191 rfl ?_
 ((repeat' ((conv=>whnf);first|exact .intro|refine G ?_|intro _|refine .mk ?_ ?_|refine AK ?_|refine AO ?_|fail));all_goals conv=>whnf)
 refine ⟨{ σ:=Nat,fr:=fun k=>[(3,.c (.d (uD k)))],ks:=[],L:=fun _=>[],ex:=0,I:=fun k=>k≤K,μ:=fun k=>K - k },⟨0,Nat.zero_le _,?_⟩,fun (k:Nat) (hk:k≤K)=>?_⟩
 ·((repeat' first|exact rfl|((conv=>whnf);first|done|exact suL|refine And.intro ?_ ?_|fail));all_goals conv=>whnf)
 ·have hb:=bit_d (gl:=gl) m k (by omega) (by omega)
  have ek:IntKind.i64.wrap (k:Int)=(k:Int):=wrapI (by omega)
  have hb2:FnP Tryz.prog gl 226 [W m,.v (.int .i64 (IntKind.i64.wrap (k:Int)))] (uD (m / 2 ^ k % 2)):=by rw[ek];exact hb
  rcases Nat.lt_or_ge k K with hlt|hge
  ·have h3:=part_zero h1 hlt
   rw[h3] at hb2
   ((repeat' ((conv=>whnf);first|exact .intro|refine G ?_|intro _|refine C1 hb2 ?_|refine .mk ?_ ?_|refine AK ?_|refine AO ?_|fail));all_goals conv=>whnf)
   refine ⟨k+1,⟨hlt,by show K - (k+1)<K - k;omega⟩,?_⟩
   ((repeat' first|exact rfl|((conv=>whnf);first|done|exact suL|refine And.intro ?_ ?_|fail));all_goals conv=>whnf)
   exact ceqK (by rw[IntWalk.u64_in _ (by omega)];rfl)
  ·have he:k=K:=by omega
   subst he
   rw[h2] at hb2
   ((repeat' ((conv=>whnf);first|exact .intro|refine G ?_|intro _|refine C1 hb2 ?_|refine .mk ?_ ?_|refine AK ?_|refine AO ?_|fail));all_goals conv=>whnf)
   exact LeD.rfl
theorem tz63 {m K:Nat} (h1:9223372036854775808≤m) (h2:m<18446744073709551616) (h3:m % 2 ^ K=0) (h4:m / 2 ^ K % 2=1):K=63↔m=9223372036854775808:=by
 constructor
 ·rintro rfl
  have:(2:Nat) ^ 63=9223372036854775808:=by decide
  rw[this] at h3
  omega
 ·rintro rfl
  rcases Nat.lt_trichotomy K 63 with h|h|h
  ·have:=part_zero (m:=9223372036854775808) (K:=63) (k:=K) (by decide) h
   omega
  ·exact h
  ·have h5:(9223372036854775808:Nat)<2 ^ K:=Nat.lt_of_lt_of_le (show 9223372036854775808<2 ^ 64 by decide) (Nat.pow_le_pow_right (by decide) h)
   rw[Nat.mod_eq_of_lt h5] at h3;cases h3
abbrev nB (m:Nat):D:=.b (m≠0) inferInstance
theorem IsInt64_n (m:Nat) (hm:(ws m).length≤35184372088832):FnP Tryz.prog gl 124 [.imm [nB m,W m]] (.b (m≤9223372036854775808) inferInstance):=by
 have hl:=length_d (gl:=gl) m (by omega)
 have hb:=blen_le (n:=m) (k:=63)
 have hb2:=blen_le (n:=m) (k:=64)
 have e63:(2:Nat) ^ 63=9223372036854775808:=by decide
 have e64:(2:Nat) ^ 64=18446744073709551616:=by decide
 rw[e63] at hb
 rw[e64] at hb2
 by_cases h64:blen m=64
 ·have h0:m≠0:=fun e=>by subst e;simp[blen] at h64
  have h1:9223372036854775808≤m:=by omega
  have h2:m<18446744073709551616:=by omega
  obtain ⟨K,k1,k2,k3,k4⟩:=TZB_d (gl:=gl) (nB m) m h0 h2
  have k5:=tz63 h1 h2 k2 k3
  rw[h64] at hl
  refine S0 Tryz.func124 rfl ?_
  ((repeat' ((conv=>whnf);first|exact .intro|refine G ?_|intro _|refine C1 hl ?_|refine C1 k4 ?_|refine .mk ?_ ?_|refine AK ?_|refine AO ?_|fail));all_goals conv=>whnf)
  all_goals first|exact LeD.bt (by omega)|exact LeD.bf (by omega)|exact LeD.b (by omega)
 ·have h65:¬ (blen m:Int)=64:=by omega
  refine S0 Tryz.func124 rfl ?_
  ((repeat' ((conv=>whnf);first|exact .intro|refine G ?_|intro _|refine C1 hl ?_|refine .mk ?_ ?_|refine AK ?_|refine AO ?_|fail));all_goals conv=>whnf)
  all_goals first|exact LeD.bt (by omega)|exact LeD.bf (by omega)|exact LeD.b (by omega)
theorem Fits_n (m:Nat) (hm:(ws m).length≤35184372088832):FnP Tryz.prog gl 74 [.imm [nB m,W m]] (.b (m≤9223372036854775808) inferInstance):=by
 have hl:=IsInt64_n (gl:=gl) m hm
 refine S0 Tryz.func74 rfl ?_
 ((repeat' ((conv=>whnf);first|exact .intro|refine G ?_|intro _|refine C1 hl ?_|refine .mk ?_ ?_|refine AK ?_|refine AO ?_|fail));all_goals conv=>whnf)
 exact LeD.rfl
theorem Uint64_x (x:D) (n:Nat) (hn:n<18446744073709551616):FnP Tryz.prog gl 125 [.imm [x,W n]] (.v (.int .u64 n)):=by
 by_cases h0:n=0
 ·subst h0
  simp only[W,ws_zero,wD,List.map]
  refine S0 Tryz.func125 rfl ?_
  ((repeat' ((conv=>whnf);first|exact .intro|refine G ?_|intro _|refine .mk ?_ ?_|refine AK ?_|refine AO ?_|fail));all_goals conv=>whnf)
  exact LeD.rfl
 by_cases h1:n<B32
 ·have e:ws n=[n]:=by rw[ws_pos h0,Nat.div_eq_of_lt h1,Nat.mod_eq_of_lt h1,ws_zero]
  simp only[W,e,wD,List.map]
  refine S0 Tryz.func125 rfl ?_
  ((repeat' ((conv=>whnf);first|exact .intro|refine G ?_|intro _|refine .mk ?_ ?_|refine AK ?_|refine AO ?_|fail));all_goals conv=>whnf)
  refine ⟨_,rfl,?_⟩
  ((repeat' ((conv=>whnf);first|exact .intro|refine G ?_|intro _|refine .mk ?_ ?_|refine AK ?_|refine AO ?_|fail));all_goals conv=>whnf)
  exact LeD.of (by rw[w64 hn];rfl)
 have h2:n / B32<B32:=by simp only[B32] at *;omega
 have h3:n % B32<B32:=Nat.mod_lt _ (by decide)
 have e:ws n=[n % B32,n / B32]:=by rw[ws_pos h0,ws_pos (n:=n / B32) (by simp only[B32] at *;omega),Nat.mod_eq_of_lt h2,Nat.div_eq_of_lt h2,ws_zero]
 have ec:n=n % B32+B32 * (n / B32):=(Nat.mod_add_div n B32).symm
 generalize n % B32=a at *
 generalize n / B32=b at *
 simp only[W,e,wD,List.map]
 refine S0 Tryz.func125 rfl ?_
 ((repeat' ((conv=>whnf);first|exact .intro|refine G ?_|intro _|refine .mk ?_ ?_|refine AK ?_|refine AO ?_|fail));all_goals conv=>whnf)
 refine ⟨_,rfl,?_⟩
 ((repeat' ((conv=>whnf);first|exact .intro|refine G ?_|intro _|refine .mk ?_ ?_|refine AK ?_|refine AO ?_|fail));all_goals conv=>whnf)
 refine ⟨_,rfl,?_⟩
 ((repeat' ((conv=>whnf);first|exact .intro|refine G ?_|intro _|refine .mk ?_ ?_|refine AK ?_|refine AO ?_|fail));all_goals conv=>whnf)
 refine LeD.of ?_
 show D.v (.int .u64 (IntKind.u64.wrap ((BitVec.ofInt 64 (IntKind.u64.wrap (a:Int)) ||| BitVec.ofInt 64 (IntKind.u64.wrap (IntKind.u64.wrap (b:Int) * 4294967296))).toNat:Int)))=_
 have h2':=h2
 have h3':=h3
 simp only[B32] at h2' h3'
 rw[w64 (x:=a) (by omega),w64 (x:=b) (by omega),show (b:Int) * 4294967296=((b * 4294967296:Nat):Int) by omega,w64 (x:=b * 4294967296) (by omega),or32 h3 h2,← ec,w64 hn]
theorem Int64_n (m:Nat) (hm:m≤9223372036854775808):FnP Tryz.prog gl 75 [.imm [nB m,W m]] (iD (-(m:Int))):=by
 have hl:=Uint64_x (gl:=gl) (nB m) m (by omega)
 refine S0 Tryz.func75 rfl ?_
 ((repeat' ((conv=>whnf);first|exact .intro|refine G ?_|intro _|refine C1 hl ?_|refine .mk ?_ ?_|refine AK ?_|refine AO ?_|fail));all_goals conv=>whnf)
 all_goals exact LeD.of (congrArg iD (by (try rw[i64w]);(try rw[i64w]);omega))
theorem Neg_p (m:Nat) (hm:(ws m).length≤35184372088832):Go.EYtfkjhfdpphfjhaaGreatDoor.Fn Tryz.prog gl 127 [.c (.ptr 0 0),.c (.ptr 0 0)] [(0,.var [.d fD,.d (W m)] 118)] 1 (.ret (.c (.ptr 0 0))) [(0,.var [.d (nB m),.d (W m)] 118)] 1 []:=by
 have ht:=twin_d (gl:=gl) (ws m) hm
 have wa:=wD_len (ws m)
 have hz:0<(((wD (ws m)).length:Nat):Int)↔m≠0:=by
  have h2:=ws_nil (n:=m)
  rw[wa]
  cases hw:ws m with
  | nil=>rw[hw] at h2;have:=h2.1 rfl;simp[this]
  | cons a l=>rw[hw] at h2;exact ⟨fun _ e=>(by cases h2.2 e),fun _=>(by simp)⟩
 have give:Go.EYtfkjhfdpphfjhaaGreatDoor.Fn Tryz.prog gl 120 [.c (.ptr 0 0),.c (.d (.v (.bool true))),.c (.d (W m))] [(0,.var [.d fD,.d (W m)] 118)] 1 (.ret (.c (.ptr 0 0))) [(0,.var [.d (nB m),.d (W m)] 118)] 1 []:=by
  refine S1 Tryz.func120 rfl ?_
  ((repeat' ((conv=>whnf);first|exact .intro|refine G ?_|intro _|refine .mk ?_ ?_|refine AK ?_|refine AO ?_|fail));all_goals conv=>whnf)
  ((repeat' first|exact rfl|((conv=>whnf);first|done|exact suL|refine And.intro ?_ ?_|fail));all_goals conv=>whnf)
  exact .inr (.inr (.inr (show LeD _ _ from LeD.b hz)))
 refine S1 Tryz.func127 rfl ?_
 ((repeat' ((conv=>whnf);first|exact .intro|refine G ?_|intro _|refine C5 give [0] ?_|refine C1 ht ?_|refine .mk ?_ ?_|refine AK ?_|refine AO ?_|fail));all_goals conv=>whnf)
 ((repeat' first|exact rfl|((conv=>whnf);first|done|exact suL|refine And.intro ?_ ?_|fail));all_goals conv=>whnf)
end
section
variable {gl:List (Nat×List D)}
theorem Whole_t (s:List UInt8) (h45:s.head?≠some 45) (h0:s≠[]) (h1:¬ (s.head?=some 48∧s≠[48])) (hs:s.length≤140737488355328):FnP Tryz.prog gl 79 [.str s,.v (.bool true)] (if wholeC s then .tup [iD (rv s s.length),.v (.bool true)] else .tup [iD 0,fD]):=by
 obtain ⟨a,l,rfl⟩:=List.exists_cons_of_ne_nil h0
 have h10:=NewInt_p (gl:=gl) 10 (by decide)
 have hw10:(ws 10).length≤35184372088832:=Nat.le_trans (ws_len_le (k:=1) (by decide)) (by decide)
 have hmax:(a::l).length≤maxLen:=by unfold maxLen;omega
 have key:((((a::l).getD (Int.toNat 0) 0).toNat:Int)=48∧a::l=(⟨#[48]⟩:ByteArray).data.toList)∨¬ (((a::l).getD (Int.toNat 0) 0).toNat:Int)=48:=by
  by_cases ha:a=48
  ·left
   subst ha
   refine ⟨rfl,?_⟩
   by_cases hl:l=[]
   ·rw[hl]
   ·exact absurd ⟨rfl,fun e=>hl (List.cons.inj e).2⟩ h1
  ·right
   intro e
   exact ha (UInt8.toNat_inj.1 (show a.toNat=(48:UInt8).toNat from Int.ofNat.inj e))
 have h45':¬ (((a::l).getD (Int.toNat 0) 0).toNat:Int)=45:=fun e=>h45 (by show some a=some 45;rw[UInt8.toNat_inj.1 (show a.toNat=(45:UInt8).toNat from Int.ofNat.inj e)])
 rcases key with ⟨hA,hB⟩|hA
 all_goals
  refine S0 Tryz.func79 rfl ?_
  ((repeat' ((conv=>whnf);first|exact .intro|refine G ?_|intro _|refine C1 h10 ?_|refine .mk ?_ ?_|refine H ?_|fail));all_goals conv=>whnf)
  refine ⟨{ σ:=Nat,fr:=fun k=>[(8,.c (.d (iD k)))],ks:=[0],L:=fun k=>[(0,.var [.d fD,.d (W (rv (a::l) k))] 118)],ex:=0,I:=fun k=>k≤(a::l).length∧∀ d ∈ (a::l).take k,isDig d,μ:=fun k=>(a::l).length - k },⟨0,⟨Nat.zero_le _,by simp⟩,?_⟩,fun (k:Nat) hk=>?_⟩
  ·((repeat' first|exact rfl|((conv=>whnf);first|done|exact suL|refine And.intro ?_ ?_|fail));all_goals conv=>whnf)
   exact .inr (.inr (.inr nilW0))
  ·obtain ⟨hk1,hk2⟩:=hk
   have hwk:=ws_rv hk1 hk2
   by_cases hlt:k<(a::l).length
   ·have hkl:(k:Int)<(((a::l).length:Nat):Int):=Int.ofNat_lt.2 hlt
    have eg:(a::l).getD ((k:Int)).toNat 0=(a::l)[k]:=by rw[Int.toNat_natCast,List.getD,List.getElem?_eq_getElem hlt];rfl
    have hmem:=List.getElem_mem hlt
    by_cases hlo:(((a::l).getD ((k:Int)).toNat 0).toNat:Int)<48
    ·((repeat' ((conv=>whnf);first|exact .intro|refine G ?_|intro _|refine C1 h10 ?_|refine .mk ?_ ?_|refine H ?_|fail));all_goals conv=>whnf)
     exact LeD.ite_neg (fun hh=>by have:=(hh.1 _ hmem).1;rw[← eg] at this;omega) LeD.rfl
    by_cases hhi:57<(((a::l).getD ((k:Int)).toNat 0).toNat:Int)
    ·((repeat' ((conv=>whnf);first|exact .intro|refine G ?_|intro _|refine C1 h10 ?_|refine .mk ?_ ?_|refine H ?_|fail));all_goals conv=>whnf)
     exact LeD.ite_neg (fun hh=>by have:=(hh.1 _ hmem).2;rw[← eg] at this;omega) LeD.rfl
    have hdig:isDig (a::l)[k]:=by rw[← eg];exact ⟨by omega,by omega⟩
    have hd2:∀ d ∈ (a::l).take (k+1),isDig d:=fun d hd=>by
     rw[List.take_succ_eq_append_getElem hlt] at hd
     rcases List.mem_append.1 hd with hd|hd
     ·exact hk2 d hd
     ·rw[List.mem_singleton.1 hd];exact hdig
    have hM:=Mul_p (gl:=gl) (rv (a::l) k) 10 (by omega) hw10
    have hA2:=Add_p (gl:=gl) (rv (a::l) k * 10) ((a::l)[k].toNat - 48) (by
     have h1:=rv_lt hk1 hk2
     have:=ws10 (n:=rv (a::l) k * 10) (k:=k+1) (by rw[Nat.pow_succ];omega)
     omega) (Nat.le_trans (ws_len_le (k:=1) (by have:=hdig.2;simp only[B32];omega)) (by decide))
    have hNI:FnP Tryz.prog gl 69 [.v (.int .i64 (IntKind.i64.wrap (IntKind.i64.wrap (((a::l).getD ((k:Int)).toNat 0).toNat:Int) - 48)))] (.imm [fD,W ((a::l)[k].toNat - 48)]):=by
     rw[wrapI (n:=(((a::l).getD ((k:Int)).toNat 0).toNat:Int)) (by omega),wrapI (by omega),show ((((a::l).getD ((k:Int)).toNat 0).toNat:Int) - 48)=(((a::l)[k].toNat - 48:Nat):Int) by rw[← eg];omega]
     exact NewInt_p _ (by have:=hdig.2;omega)
    ((repeat' ((conv=>whnf);first|exact .intro|refine G ?_|intro _|refine C5 hM [0] ?_|refine C5 hA2 [0] ?_|refine C1 h10 ?_|refine C1 hNI ?_|refine .mk ?_ ?_|refine H ?_|fail));all_goals conv=>whnf)
    refine ⟨k+1,⟨⟨hlt,hd2⟩,by show (a::l).length - (k+1)<(a::l).length - k;omega⟩,?_⟩
    ((repeat' first|exact rfl|((conv=>whnf);first|done|exact suL|refine And.intro ?_ ?_|fail));all_goals conv=>whnf)
    ·exact ceq (show IntKind.i64.wrap ((k:Int)+1)=((k+1:Nat):Int) by rw[wrapI (by omega)];rfl)
    ·exact .inr (.inl (by rw[rv_succ hlt]))
   ·have hkl:¬ (k:Int)<(((a::l).length:Nat):Int):=fun h=>hlt (Int.ofNat_lt.1 h)
    have hke:k=(a::l).length:=by omega
    rw[hke,List.take_length] at hk2
    have hwk2:(ws (rv (a::l) k)).length≤35184372088832:=by omega
    have hF:=Fits_p (gl:=gl) (rv (a::l) k) hwk2
    by_cases hfit:rv (a::l) k<9223372036854775808
    ·have hI:=Int64_p (gl:=gl) (rv (a::l) k) hfit
     ((repeat' ((conv=>whnf);first|exact .intro|refine G ?_|intro _|refine C1 hF ?_|refine C1 hI ?_|refine .mk ?_ ?_|refine H ?_|fail));all_goals conv=>whnf)
     rw[hke]
     exact LeD.ite_pos ⟨hk2,hke ▸ hfit⟩ LeD.rfl
    ·((repeat' ((conv=>whnf);first|exact .intro|refine G ?_|intro _|refine C1 hF ?_|refine .mk ?_ ?_|refine H ?_|fail));all_goals conv=>whnf)
     exact LeD.ite_neg (fun hh=>hfit (hke ▸ hh.2)) LeD.rfl
theorem Whole_m (s:List UInt8) (h0:s≠[]) (h1:s.head?≠some 48) (hs:s.length≤140737488355328):FnP Tryz.prog gl 79 [.str (45::s),.v (.bool true)] (if (∀ d ∈ s,isDig d)∧rv s s.length≤9223372036854775808 then .tup [iD (-(rv s s.length:Int)),.v (.bool true)] else .tup [iD 0,fD]):=by
 obtain ⟨a,l,rfl⟩:=List.exists_cons_of_ne_nil h0
 have h10:=NewInt_p (gl:=gl) 10 (by decide)
 have hw10:(ws 10).length≤35184372088832:=Nat.le_trans (ws_len_le (k:=1) (by decide)) (by decide)
 have hmax:(a::l).length≤maxLen:=by unfold maxLen;omega
 have hA:¬ (((a::l).getD (Int.toNat 0) 0).toNat:Int)=48:=fun e=>h1 (by show some a=some 48;rw[UInt8.toNat_inj.1 (show a.toNat=(48:UInt8).toNat from Int.ofNat.inj e)])
 have hlen:¬ (((a::l).length:Nat):Int)=(((45::a::l).length:Nat):Int):=by simp;omega
 have h45:(((45::a::l).getD (Int.toNat 0) 0).toNat:Int)=45:=rfl
 refine S0 Tryz.func79 rfl ?_
 ((repeat' ((conv=>whnf);first|exact .intro|refine G ?_|intro _|refine C1 h10 ?_|(rw[drop1])|refine .mk ?_ ?_|refine AK ?_|refine And.intro (by first|(first|assumption|omega|(simp;done)|(simp;omega);done)|fail) ?_|fail));all_goals conv=>whnf)
 refine ⟨{ σ:=Nat,fr:=fun k=>[(8,.c (.d (iD k)))],ks:=[0],L:=fun k=>[(0,.var [.d fD,.d (W (rv (a::l) k))] 118)],ex:=0,I:=fun k=>k≤(a::l).length∧∀ d ∈ (a::l).take k,isDig d,μ:=fun k=>(a::l).length - k },⟨0,⟨Nat.zero_le _,by simp⟩,?_⟩,fun (k:Nat) hk=>?_⟩
 ·((repeat' first|exact rfl|((conv=>whnf);first|done|exact suL|refine And.intro ?_ ?_|fail));all_goals conv=>whnf)
  exact .inr (.inr (.inr nilW0))
 ·obtain ⟨hk1,hk2⟩:=hk
  have hwk:=ws_rv hk1 hk2
  by_cases hlt:k<(a::l).length
  ·have hkl:(k:Int)<(((a::l).length:Nat):Int):=Int.ofNat_lt.2 hlt
   have eg:(a::l).getD ((k:Int)).toNat 0=(a::l)[k]:=by rw[Int.toNat_natCast,List.getD,List.getElem?_eq_getElem hlt];rfl
   have hmem:=List.getElem_mem hlt
   by_cases hlo:(((a::l).getD ((k:Int)).toNat 0).toNat:Int)<48
   ·((repeat' ((conv=>whnf);first|exact .intro|refine G ?_|intro _|refine C1 h10 ?_|refine .mk ?_ ?_|refine H ?_|fail));all_goals conv=>whnf)
    exact LeD.ite_neg (fun hh=>by have:=(hh.1 _ hmem).1;rw[← eg] at this;omega) LeD.rfl
   by_cases hhi:57<(((a::l).getD ((k:Int)).toNat 0).toNat:Int)
   ·((repeat' ((conv=>whnf);first|exact .intro|refine G ?_|intro _|refine C1 h10 ?_|refine .mk ?_ ?_|refine H ?_|fail));all_goals conv=>whnf)
    exact LeD.ite_neg (fun hh=>by have:=(hh.1 _ hmem).2;rw[← eg] at this;omega) LeD.rfl
   have hdig:isDig (a::l)[k]:=by rw[← eg];exact ⟨by omega,by omega⟩
   have hd2:∀ d ∈ (a::l).take (k+1),isDig d:=fun d hd=>by
    rw[List.take_succ_eq_append_getElem hlt] at hd
    rcases List.mem_append.1 hd with hd|hd
    ·exact hk2 d hd
    ·rw[List.mem_singleton.1 hd];exact hdig
   have hM:=Mul_p (gl:=gl) (rv (a::l) k) 10 (by omega) hw10
   have hA2:=Add_p (gl:=gl) (rv (a::l) k * 10) ((a::l)[k].toNat - 48) (by
    have h1:=rv_lt hk1 hk2
    have:=ws10 (n:=rv (a::l) k * 10) (k:=k+1) (by rw[Nat.pow_succ];omega)
    omega) (Nat.le_trans (ws_len_le (k:=1) (by have:=hdig.2;simp only[B32];omega)) (by decide))
   have hNI:FnP Tryz.prog gl 69 [.v (.int .i64 (IntKind.i64.wrap (IntKind.i64.wrap (((a::l).getD ((k:Int)).toNat 0).toNat:Int) - 48)))] (.imm [fD,W ((a::l)[k].toNat - 48)]):=by
    rw[wrapI (n:=(((a::l).getD ((k:Int)).toNat 0).toNat:Int)) (by omega),wrapI (by omega),show ((((a::l).getD ((k:Int)).toNat 0).toNat:Int) - 48)=(((a::l)[k].toNat - 48:Nat):Int) by rw[← eg];omega]
    exact NewInt_p _ (by have:=hdig.2;omega)
   ((repeat' ((conv=>whnf);first|exact .intro|refine G ?_|intro _|refine C5 hM [0] ?_|refine C5 hA2 [0] ?_|refine C1 h10 ?_|refine C1 hNI ?_|refine .mk ?_ ?_|refine H ?_|fail));all_goals conv=>whnf)
   refine ⟨k+1,⟨⟨hlt,hd2⟩,by show (a::l).length - (k+1)<(a::l).length - k;omega⟩,?_⟩
   ((repeat' first|exact rfl|((conv=>whnf);first|done|exact suL|refine And.intro ?_ ?_|fail));all_goals conv=>whnf)
   ·exact ceq (show IntKind.i64.wrap ((k:Int)+1)=((k+1:Nat):Int) by rw[wrapI (by omega)];rfl)
   ·exact .inr (.inl (by rw[rv_succ hlt]))
  ·have hkl:¬ (k:Int)<(((a::l).length:Nat):Int):=fun h=>hlt (Int.ofNat_lt.1 h)
   have hke:k=(a::l).length:=by omega
   rw[hke,List.take_length] at hk2
   have hwk2:(ws (rv (a::l) k)).length≤35184372088832:=by omega
   have hN:=Neg_p (gl:=gl) (rv (a::l) k) hwk2
   have hF:=Fits_n (gl:=gl) (rv (a::l) k) hwk2
   by_cases hfit:rv (a::l) k≤9223372036854775808
   ·have hI:=Int64_n (gl:=gl) (rv (a::l) k) hfit
    ((repeat' ((conv=>whnf);first|exact .intro|refine G ?_|intro _|refine C5 hN [0] ?_|refine C1 hF ?_|refine C1 hI ?_|refine .mk ?_ ?_|refine H ?_|fail));all_goals conv=>whnf)
    rw[hke]
    exact LeD.ite_pos ⟨hk2,hke ▸ hfit⟩ LeD.rfl
   ·((repeat' ((conv=>whnf);first|exact .intro|refine G ?_|intro _|refine C5 hN [0] ?_|refine C1 hF ?_|refine .mk ?_ ?_|refine H ?_|fail));all_goals conv=>whnf)
    exact LeD.ite_neg (fun hh=>hfit (hke ▸ hh.2)) LeD.rfl
end
end Go.Proofs.YtfkjhfdpphfjhaaGreatDoor
namespace Go.Proofs
open Go.Shelf
def Tryz.lays101_ren:Go.Shelf.Ren:=⟨fun|101=>208|208=>237|206=>97|n=>n,fun|9=>9|4=>4|3=>3|n=>n,fun|n=>n⟩
theorem Tryz.lays101:Go.Proofs.Lays.n101 Tryz.prog Tryz.lays101_ren:={
 mixed:=by kernel_rfl
 f101:=Tryz.func208.trans (congrArg some (by kernel_rfl))
 f206:=Tryz.func97.trans (congrArg some (by kernel_rfl))
 f208:=Tryz.func237.trans (congrArg some (by kernel_rfl))
 t3:=Tryz.underlying3
 a3:=Tryz.isAgg3
 z3:=Tryz.sizeOf3
 v3:=Tryz.zeroValue3
 t4:=Tryz.underlying4
 a4:=Tryz.isAgg4
 z4:=Tryz.sizeOf4
 v4:=Tryz.zeroValue4
 t9:=Tryz.underlying9
 a9:=Tryz.isAgg9
 z9:=Tryz.sizeOf9
 v9:=Tryz.zeroValue9 }
def Tryz.lays160_ren:Go.Shelf.Ren:=⟨fun|160=>203|232=>228|231=>227|227=>229|234=>231|233=>230|236=>233|235=>232|228=>248|271=>250|151=>249|197=>236|120=>267|152=>266|260=>253|137=>276|119=>277|224=>244|225=>243|217=>242|266=>263|n=>n,fun|9=>9|4=>4|3=>3|5=>5|117=>266|116=>265|0=>0|124=>269|21=>21|105=>270|46=>222|119=>293|139=>296|138=>295|n=>n,fun|3=>5|4=>6|n=>n⟩
theorem Tryz.lays160:Go.Proofs.Lays.n160 Tryz.prog Tryz.lays160_ren:={
 mixed:=by kernel_rfl
 f119:=Tryz.func277.trans (congrArg some (by kernel_rfl))
 f120:=Tryz.func267.trans (congrArg some (by kernel_rfl))
 f137:=Tryz.func276.trans (congrArg some (by kernel_rfl))
 f151:=Tryz.func249.trans (congrArg some (by kernel_rfl))
 f152:=Tryz.func266.trans (congrArg some (by kernel_rfl))
 f160:=Tryz.func203.trans (congrArg some (by kernel_rfl))
 f197:=Tryz.func236.trans (congrArg some (by kernel_rfl))
 f217:=Tryz.func242.trans (congrArg some (by kernel_rfl))
 f224:=Tryz.func244.trans (congrArg some (by kernel_rfl))
 f225:=Tryz.func243.trans (congrArg some (by kernel_rfl))
 f227:=Tryz.func229.trans (congrArg some (by kernel_rfl))
 f228:=Tryz.func248.trans (congrArg some (by kernel_rfl))
 f231:=Tryz.func227.trans (congrArg some (by kernel_rfl))
 f232:=Tryz.func228.trans (congrArg some (by kernel_rfl))
 f233:=Tryz.func230.trans (congrArg some (by kernel_rfl))
 f234:=Tryz.func231.trans (congrArg some (by kernel_rfl))
 f235:=Tryz.func232.trans (congrArg some (by kernel_rfl))
 f236:=Tryz.func233.trans (congrArg some (by kernel_rfl))
 f260:=Tryz.func253.trans (congrArg some (by kernel_rfl))
 f266:=Tryz.func263.trans (congrArg some (by kernel_rfl))
 f271:=Tryz.func250.trans (congrArg some (by kernel_rfl))
 t0:=Tryz.underlying0
 a0:=Tryz.isAgg0
 z0:=Tryz.sizeOf0
 v0:=Tryz.zeroValue0
 t3:=Tryz.underlying3
 a3:=Tryz.isAgg3
 z3:=Tryz.sizeOf3
 v3:=Tryz.zeroValue3
 t4:=Tryz.underlying4
 a4:=Tryz.isAgg4
 z4:=Tryz.sizeOf4
 v4:=Tryz.zeroValue4
 t5:=Tryz.underlying5
 a5:=Tryz.isAgg5
 z5:=Tryz.sizeOf5
 v5:=Tryz.zeroValue5
 t9:=Tryz.underlying9
 a9:=Tryz.isAgg9
 z9:=Tryz.sizeOf9
 v9:=Tryz.zeroValue9
 t21:=Tryz.underlying21
 a21:=Tryz.isAgg21
 z21:=Tryz.sizeOf21
 v21:=Tryz.zeroValue21
 t46:=Tryz.underlying222
 a46:=Tryz.isAgg222
 z46:=Tryz.sizeOf222
 v46:=Tryz.zeroValue222
 t105:=Tryz.underlying270
 a105:=Tryz.isAgg270
 z105:=Tryz.sizeOf270
 v105:=Tryz.zeroValue270
 t116:=Tryz.underlying265
 a116:=Tryz.isAgg265
 z116:=Tryz.sizeOf265
 t117:=Tryz.underlying266
 a117:=Tryz.isAgg266
 z117:=Tryz.sizeOf266
 v117:=Tryz.zeroValue266
 t119:=Tryz.underlying293
 a119:=Tryz.isAgg293
 z119:=Tryz.sizeOf293
 t124:=Tryz.underlying269
 a124:=Tryz.isAgg269
 z124:=Tryz.sizeOf269
 v124:=Tryz.zeroValue269
 t138:=Tryz.underlying295
 a138:=Tryz.isAgg295
 z138:=Tryz.sizeOf295
 v138:=Tryz.zeroValue295
 t139:=Tryz.underlying296
 a139:=Tryz.isAgg296
 z139:=Tryz.sizeOf296
 v139:=Tryz.zeroValue296
 g3:=by kernel_rfl
 g4:=by kernel_rfl }
def Tryz.laysC172_ren:Go.Shelf.Ren:=⟨fun|172=>209|244=>238|245=>239|247=>254|279=>255|280=>256|281=>257|282=>258|287=>268|316=>269|171=>163|205=>270|321=>278|322=>279|243=>210|246=>240|283=>259|284=>260|285=>261|286=>262|129=>272|317=>271|318=>273|319=>274|320=>275|337=>280|338=>281|n=>n,fun|9=>9|3=>3|75=>33|76=>197|4=>4|5=>5|167=>279|37=>128|0=>0|85=>280|2=>2|168=>282|53=>169|175=>297|46=>222|210=>301|127=>202|145=>311|143=>309|21=>21|171=>285|173=>288|212=>304|51=>221|20=>20|213=>305|232=>313|233=>314|80=>159|n=>n,fun|15=>7|16=>8|17=>9|18=>10|19=>11|n=>n⟩
theorem Tryz.laysC172:Go.Proofs.LaysC.n172 Tryz.prog Tryz.laysC172_ren:={
 mixed:=by kernel_rfl
 f129:=Tryz.func272.trans (congrArg some (by kernel_rfl))
 f171:=Tryz.func163.trans (congrArg some (by kernel_rfl))
 f172:=Tryz.func209.trans (congrArg some (by kernel_rfl))
 f205:=Tryz.func270.trans (congrArg some (by kernel_rfl))
 f243:=Tryz.func210.trans (congrArg some (by kernel_rfl))
 f244:=Tryz.func238.trans (congrArg some (by kernel_rfl))
 f245:=Tryz.func239.trans (congrArg some (by kernel_rfl))
 f246:=Tryz.func240.trans (congrArg some (by kernel_rfl))
 f247:=Tryz.func254.trans (congrArg some (by kernel_rfl))
 f279:=Tryz.func255.trans (congrArg some (by kernel_rfl))
 f280:=Tryz.func256.trans (congrArg some (by kernel_rfl))
 f281:=Tryz.func257.trans (congrArg some (by kernel_rfl))
 f282:=Tryz.func258.trans (congrArg some (by kernel_rfl))
 f283:=Tryz.func259.trans (congrArg some (by kernel_rfl))
 f284:=Tryz.func260.trans (congrArg some (by kernel_rfl))
 f285:=Tryz.func261.trans (congrArg some (by kernel_rfl))
 f286:=Tryz.func262.trans (congrArg some (by kernel_rfl))
 f287:=Tryz.func268.trans (congrArg some (by kernel_rfl))
 f316:=Tryz.func269.trans (congrArg some (by kernel_rfl))
 f317:=Tryz.func271.trans (congrArg some (by kernel_rfl))
 f318:=Tryz.func273.trans (congrArg some (by kernel_rfl))
 f319:=Tryz.func274.trans (congrArg some (by kernel_rfl))
 f320:=Tryz.func275.trans (congrArg some (by kernel_rfl))
 f321:=Tryz.func278.trans (congrArg some (by kernel_rfl))
 f322:=Tryz.func279.trans (congrArg some (by kernel_rfl))
 f337:=Tryz.func280.trans (congrArg some (by kernel_rfl))
 f338:=Tryz.func281.trans (congrArg some (by kernel_rfl))
 t0:=Tryz.underlying0
 a0:=Tryz.isAgg0
 z0:=Tryz.sizeOf0
 v0:=Tryz.zeroValue0
 t2:=Tryz.underlying2
 a2:=Tryz.isAgg2
 z2:=Tryz.sizeOf2
 v2:=Tryz.zeroValue2
 t3:=Tryz.underlying3
 a3:=Tryz.isAgg3
 z3:=Tryz.sizeOf3
 v3:=Tryz.zeroValue3
 t4:=Tryz.underlying4
 a4:=Tryz.isAgg4
 z4:=Tryz.sizeOf4
 v4:=Tryz.zeroValue4
 t5:=Tryz.underlying5
 a5:=Tryz.isAgg5
 z5:=Tryz.sizeOf5
 v5:=Tryz.zeroValue5
 t9:=Tryz.underlying9
 a9:=Tryz.isAgg9
 z9:=Tryz.sizeOf9
 v9:=Tryz.zeroValue9
 t20:=Tryz.underlying20
 a20:=Tryz.isAgg20
 z20:=Tryz.sizeOf20
 v20:=Tryz.zeroValue20
 t21:=Tryz.underlying21
 a21:=Tryz.isAgg21
 z21:=Tryz.sizeOf21
 v21:=Tryz.zeroValue21
 t37:=Tryz.underlying128
 a37:=Tryz.isAgg128
 z37:=Tryz.sizeOf128
 v37:=Tryz.zeroValue128
 t46:=Tryz.underlying222
 a46:=Tryz.isAgg222
 z46:=Tryz.sizeOf222
 v46:=Tryz.zeroValue222
 t51:=Tryz.underlying221
 a51:=Tryz.isAgg221
 z51:=Tryz.sizeOf221
 v51:=Tryz.zeroValue221
 t53:=Tryz.underlying169
 a53:=Tryz.isAgg169
 z53:=Tryz.sizeOf169
 v53:=Tryz.zeroValue169
 t75:=Tryz.underlying33
 a75:=Tryz.isAgg33
 z75:=Tryz.sizeOf33
 v75:=Tryz.zeroValue33
 t76:=Tryz.underlying197
 a76:=Tryz.isAgg197
 z76:=Tryz.sizeOf197
 v76:=Tryz.zeroValue197
 t85:=Tryz.underlying280
 a85:=Tryz.isAgg280
 z85:=Tryz.sizeOf280
 v85:=Tryz.zeroValue280
 t127:=Tryz.underlying202
 a127:=Tryz.isAgg202
 z127:=Tryz.sizeOf202
 v127:=Tryz.zeroValue202
 t143:=Tryz.underlying309
 a143:=Tryz.isAgg309
 z143:=Tryz.sizeOf309
 v143:=Tryz.zeroValue309
 t145:=Tryz.underlying311
 a145:=Tryz.isAgg311
 z145:=Tryz.sizeOf311
 v145:=Tryz.zeroValue311
 t167:=Tryz.underlying279
 a167:=Tryz.isAgg279
 z167:=Tryz.sizeOf279
 v167:=Tryz.zeroValue279
 t168:=Tryz.underlying282
 a168:=Tryz.isAgg282
 z168:=Tryz.sizeOf282
 v168:=Tryz.zeroValue282
 t171:=Tryz.underlying285
 a171:=Tryz.isAgg285
 z171:=Tryz.sizeOf285
 v171:=Tryz.zeroValue285
 t173:=Tryz.underlying288
 a173:=Tryz.isAgg288
 z173:=Tryz.sizeOf288
 v173:=Tryz.zeroValue288
 t175:=Tryz.underlying297
 a175:=Tryz.isAgg297
 z175:=Tryz.sizeOf297
 v175:=Tryz.zeroValue297
 t210:=Tryz.underlying301
 a210:=Tryz.isAgg301
 z210:=Tryz.sizeOf301
 v210:=Tryz.zeroValue301
 t212:=Tryz.underlying304
 a212:=Tryz.isAgg304
 z212:=Tryz.sizeOf304
 v212:=Tryz.zeroValue304
 t213:=Tryz.underlying305
 a213:=Tryz.isAgg305
 z213:=Tryz.sizeOf305
 t232:=Tryz.underlying313
 a232:=Tryz.isAgg313
 z232:=Tryz.sizeOf313
 v232:=Tryz.zeroValue313
 t233:=Tryz.underlying314
 a233:=Tryz.isAgg314
 z233:=Tryz.sizeOf314
 v233:=Tryz.zeroValue314
 g15:=by kernel_rfl
 g16:=by kernel_rfl
 g17:=by kernel_rfl
 g18:=by kernel_rfl
 g19:=by kernel_rfl
 t80:=Tryz.underlying159
 a80:=Tryz.isAgg159
 z80:=Tryz.sizeOf159
 v80:=Tryz.zeroValue159
 i0:=by kernel_rfl
 i2:=by kernel_rfl
 i3:=by kernel_rfl
 i4:=by kernel_rfl
 i5:=by kernel_rfl
 i9:=by kernel_rfl
 i20:=by kernel_rfl
 i21:=by kernel_rfl
 i37:=by kernel_rfl
 i46:=by kernel_rfl
 i51:=by kernel_rfl
 i53:=by kernel_rfl
 i75:=by kernel_rfl
 i76:=by kernel_rfl
 i80:=by kernel_rfl
 i85:=by kernel_rfl
 i127:=by kernel_rfl
 i143:=by kernel_rfl
 i145:=by kernel_rfl
 i167:=by kernel_rfl
 i168:=by kernel_rfl
 i171:=by kernel_rfl
 i173:=by kernel_rfl
 i175:=by kernel_rfl
 i210:=by kernel_rfl
 i212:=by kernel_rfl
 i232:=by kernel_rfl
 i233:=by kernel_rfl
 m15:=by kernel_rfl
 m16:=by kernel_rfl
 m17:=by kernel_rfl
 m18:=by kernel_rfl
 m19:=by kernel_rfl
 c0:=by kernel_rfl
 c2:=by kernel_rfl
 c3:=by kernel_rfl
 c4:=by kernel_rfl
 c5:=by kernel_rfl
 c9:=by kernel_rfl
 c20:=by kernel_rfl
 c21:=by kernel_rfl
 c37:=by kernel_rfl
 c46:=by kernel_rfl
 c51:=by kernel_rfl
 c53:=by kernel_rfl
 c75:=by kernel_rfl
 c76:=by kernel_rfl
 c80:=by kernel_rfl
 c85:=by kernel_rfl
 c127:=by kernel_rfl
 c143:=by kernel_rfl
 c145:=by kernel_rfl
 c167:=by kernel_rfl
 c168:=by kernel_rfl
 c171:=by kernel_rfl
 c173:=by kernel_rfl
 c175:=by kernel_rfl
 c210:=by kernel_rfl
 c212:=by kernel_rfl
 c213:=by kernel_rfl
 c232:=by kernel_rfl
 c233:=by kernel_rfl }
def Tryz.laysM171_ren:Go.Shelf.Ren:=⟨fun|171=>163|243=>210|246=>240|283=>259|284=>260|285=>261|286=>262|129=>272|317=>271|318=>273|319=>274|320=>275|337=>280|338=>281|n=>n,fun|3=>3|9=>9|2=>2|4=>4|171=>285|0=>0|53=>169|37=>128|5=>5|173=>288|212=>304|51=>221|20=>20|213=>305|46=>222|232=>313|233=>314|n=>n,fun|17=>9|18=>10|19=>11|n=>n⟩
theorem Tryz.laysM171:Go.Proofs.LaysM.n171 Tryz.prog Tryz.laysM171_ren:={
 mixed:=by kernel_rfl
 f129:=Tryz.func272.trans (congrArg some (by kernel_rfl))
 f171:=Tryz.func163.trans (congrArg some (by kernel_rfl))
 f243:=Tryz.func210.trans (congrArg some (by kernel_rfl))
 f246:=Tryz.func240.trans (congrArg some (by kernel_rfl))
 f283:=Tryz.func259.trans (congrArg some (by kernel_rfl))
 f284:=Tryz.func260.trans (congrArg some (by kernel_rfl))
 f285:=Tryz.func261.trans (congrArg some (by kernel_rfl))
 f286:=Tryz.func262.trans (congrArg some (by kernel_rfl))
 f317:=Tryz.func271.trans (congrArg some (by kernel_rfl))
 f318:=Tryz.func273.trans (congrArg some (by kernel_rfl))
 f319:=Tryz.func274.trans (congrArg some (by kernel_rfl))
 f320:=Tryz.func275.trans (congrArg some (by kernel_rfl))
 f337:=Tryz.func280.trans (congrArg some (by kernel_rfl))
 f338:=Tryz.func281.trans (congrArg some (by kernel_rfl))
 t0:=Tryz.underlying0
 a0:=Tryz.isAgg0
 z0:=Tryz.sizeOf0
 v0:=Tryz.zeroValue0
 t2:=Tryz.underlying2
 a2:=Tryz.isAgg2
 z2:=Tryz.sizeOf2
 v2:=Tryz.zeroValue2
 t3:=Tryz.underlying3
 a3:=Tryz.isAgg3
 z3:=Tryz.sizeOf3
 v3:=Tryz.zeroValue3
 t4:=Tryz.underlying4
 a4:=Tryz.isAgg4
 z4:=Tryz.sizeOf4
 v4:=Tryz.zeroValue4
 t5:=Tryz.underlying5
 a5:=Tryz.isAgg5
 z5:=Tryz.sizeOf5
 v5:=Tryz.zeroValue5
 t9:=Tryz.underlying9
 a9:=Tryz.isAgg9
 z9:=Tryz.sizeOf9
 v9:=Tryz.zeroValue9
 t20:=Tryz.underlying20
 a20:=Tryz.isAgg20
 z20:=Tryz.sizeOf20
 v20:=Tryz.zeroValue20
 t37:=Tryz.underlying128
 a37:=Tryz.isAgg128
 z37:=Tryz.sizeOf128
 v37:=Tryz.zeroValue128
 t46:=Tryz.underlying222
 a46:=Tryz.isAgg222
 z46:=Tryz.sizeOf222
 v46:=Tryz.zeroValue222
 t51:=Tryz.underlying221
 a51:=Tryz.isAgg221
 z51:=Tryz.sizeOf221
 v51:=Tryz.zeroValue221
 t53:=Tryz.underlying169
 a53:=Tryz.isAgg169
 z53:=Tryz.sizeOf169
 v53:=Tryz.zeroValue169
 t171:=Tryz.underlying285
 a171:=Tryz.isAgg285
 z171:=Tryz.sizeOf285
 v171:=Tryz.zeroValue285
 t173:=Tryz.underlying288
 a173:=Tryz.isAgg288
 z173:=Tryz.sizeOf288
 v173:=Tryz.zeroValue288
 t212:=Tryz.underlying304
 a212:=Tryz.isAgg304
 z212:=Tryz.sizeOf304
 v212:=Tryz.zeroValue304
 t213:=Tryz.underlying305
 a213:=Tryz.isAgg305
 z213:=Tryz.sizeOf305
 t232:=Tryz.underlying313
 a232:=Tryz.isAgg313
 z232:=Tryz.sizeOf313
 v232:=Tryz.zeroValue313
 t233:=Tryz.underlying314
 a233:=Tryz.isAgg314
 z233:=Tryz.sizeOf314
 v233:=Tryz.zeroValue314
 g17:=by kernel_rfl
 g18:=by kernel_rfl
 g19:=by kernel_rfl
 i0:=by kernel_rfl
 i2:=by kernel_rfl
 i3:=by kernel_rfl
 i4:=by kernel_rfl
 i5:=by kernel_rfl
 i9:=by kernel_rfl
 i20:=by kernel_rfl
 i37:=by kernel_rfl
 i46:=by kernel_rfl
 i51:=by kernel_rfl
 i53:=by kernel_rfl
 i171:=by kernel_rfl
 i173:=by kernel_rfl
 i212:=by kernel_rfl
 i232:=by kernel_rfl
 i233:=by kernel_rfl
 m17:=by kernel_rfl
 m18:=by kernel_rfl
 m19:=by kernel_rfl }
end Go.Proofs
namespace Go.Proofs.YtfkjhfdpphfjhaaGreatDoor
open Go Go.EYtfkjhfdpphfjhaaGreatDoor
set_option maxRecDepth 100000
variable {gl:List (Nat×List D)}
theorem str1 {s:List UInt8} {M:Nat→Prop} {w:World} {ys:List Value} (h:DenL M w [.str s] ys):ys=[.string ⟨s.toArray⟩]:=by
 obtain ⟨y,rfl,h1⟩:=All2.one_iff.1 h
 rw[DenD.str_inv h1]
theorem str2 {s t:List UInt8} {M:Nat→Prop} {w:World} {ys:List Value} (h:DenL M w [.str s,.str t] ys):ys=[.string ⟨s.toArray⟩,.string ⟨t.toArray⟩]:=by
 obtain ⟨y,ys,rfl,h1,h2⟩:=All2.cons_iff.1 h
 obtain ⟨z,rfl,h3⟩:=All2.one_iff.1 h2
 rw[DenD.str_inv h1,DenD.str_inv h3]
def unsg (s:List UInt8):List UInt8:=if s.head?=some 45 then s.tail else s
theorem unsg_eq (s:List UInt8):Lib.trimPrefix s [45]=unsg s:=by
 cases s with
 | nil=>rfl
 | cons a l =>
  by_cases h:a=45
  ·subst h;simp[Lib.trimPrefix,Lib.hasPrefix,unsg]
  ·have h':¬ (45:UInt8)=a:=fun e=>h e.symm
   simp[Lib.trimPrefix,Lib.hasPrefix,unsg,h,h']
theorem TrimPrefix_d (s:List UInt8):FnP Tryz.prog gl 208 [.str s,.str [45]] (.str (unsg s)) :=
 FnP.of_below (xs:=[.string ⟨s.toArray⟩,.string ⟨[45].toArray⟩]) (v:=.string ⟨(unsg s).toArray⟩) hoB (fun M w ys hd=>str2 hd) (fun _ _=>.str _) (fun M w hg=>by
  have h:=Any.strings_TrimPrefix Tryz.lays101 ⟨s.toArray⟩ ⟨[45].toArray⟩ w
  refine h.mono ?_
  rintro e w' ⟨rfl,rfl⟩
  refine ⟨?_,RowKit.Below.refl _ _⟩
  show Ending.returned (Value.string ⟨(Lib.trimPrefix s [45]).toArray⟩)=_
  rw[unsg_eq])
abbrev D10:List UInt8:=[48,49,50,51,52,53,54,55,56,57]
theorem Trim_d (s:List UInt8) (hs:s.length≤9223372036854775807):FnP Tryz.prog gl 203 [.str s,.str D10] (.str (Lib.trimS s D10)) :=
 FnP.of_below (xs:=[.string ⟨s.toArray⟩,.string ⟨D10.toArray⟩]) (v:=.string ⟨(Lib.trimS s D10).toArray⟩) hoB (fun M w ys hd=>str2 hd) (fun _ _=>.str _) (fun M w hg=>by
  have h:=Any.strings_Trim_laid Tryz.lays160 (by kernel_rfl) ⟨s.toArray⟩ ⟨D10.toArray⟩ w (by simpa[ByteArray.size] using hs) (by decide) (ascii_of_all (by decide))
  refine h.mono ?_
  rintro e w' ⟨rfl,hb⟩
  exact ⟨rfl,hb⟩)
theorem Atoi_s (s:List UInt8) (v:Int) (hs:s.length≤140737488355328) (h:Lib.atoiAll s=.ok v):FnP Tryz.prog gl 209 [.str s] (.tup [iD v,.v .nilIface]) :=
 FnP.of_below (xs:=[.string ⟨s.toArray⟩]) (v:=.tuple #[.int .i64 v,.nilIface]) hoB (fun M w ys hd=>str1 hd) (fun _ _=>DenD.tup_mk (xs:=[.int .i64 v,.nilIface]) ⟨.v _,.v _,trivial⟩) (fun M w hg=>by
  have h:=Any.strconv_Atoi_ok Tryz.laysC172 ⟨s.toArray⟩ (by have:(⟨s.toArray⟩:ByteArray).size=s.length:=rfl;omega) v h w
  refine h.mono ?_
  rintro e w' ⟨rfl,hb⟩
  refine ⟨rfl,?_⟩
  rcases hb with rfl|⟨t,rfl⟩
  ·exact RowKit.Below.refl _ _
  ·exact Lib.bytesWorld_below _ _ _)
def errR (gl:List (Nat×List D)):Prop:=∃ t p,Go.EYtfkjhfdpphfjhaaGreatDoor.look gl 8=some [.v (.iface t p)]
theorem Atoi_r (s:List UInt8) (hs:s.length≤140737488355328) (h:Lib.atoiAll s=.range) (hr:errR gl):FnP Tryz.prog gl 209 [.str s] (.tup [iD (Lib.atoiSat s),.ifc 282 false [.imm []]]):=by
 obtain ⟨t,p,hl⟩:=hr
 intro w M xs hM hg hd
 obtain rfl:=str1 hd
 obtain ⟨_,ys,h2,_,h4⟩:=hg _ _ hl
 obtain ⟨y,rfl,h5⟩:=All2.one_iff.1 h4
 obtain rfl:=DenD.v_inv h5
 refine .inl ⟨by unfold HasBody;kernel_rfl,?_⟩
 have h:=Any.strconv_Atoi_range Tryz.laysC172 ⟨s.toArray⟩ (by have:(⟨s.toArray⟩:ByteArray).size=s.length:=rfl;omega) h (.iface t p) w (globCell h2 0 _ rfl) (.inr ⟨_,_,rfl⟩)
 refine h.mono ?_
 rintro e w' ⟨N,rfl,hN,hc,hb⟩
 refine ⟨Evo.of_below hb _,_,rfl,DenD.tup_mk (xs:=[.int .i64 (Lib.atoiSat s),.iface 282 (.pointer (some ⟨N,0,none⟩))]) ⟨.v _,.ifc1 _ _ _ ?_,trivial⟩⟩
 exact DenD.imm [] N 0 (fun _=>undef) (Array.getElem?_eq_some_iff.1 hc).1 (fun hm=>absurd (hM N hm) (by omega)) (fun j d h=>by simp at h) (fun j d h=>by simp at h)
end Go.Proofs.YtfkjhfdpphfjhaaGreatDoor
