/- Proved: a part of what the law is proved with (the reckoner, contracts of functions, plain laws). Conditions: as each says. -/
import Derived.Lib.Mul64
import Derived.Laws.Bits64b
import Derived.Test.YtfkjhfdpphfjhaaGreatDoorXBa
namespace Go.Proofs.YtfkjhfdpphfjhaaGreatDoor
open Go Go.EYtfkjhfdpphfjhaaGreatDoor
set_option maxRecDepth 100000
variable {gl:List (Nat×List D)}
structure Held (p:Prop):Prop where
 h:p
abbrev uD (n:Nat):D:=.v (.int .u64 (n:Int))
abbrev okI (n:Int):Prop:=-9223372036854775808≤n∧n≤9223372036854775807
theorem u64w (n:Int):IntKind.u64.wrap n=n % 18446744073709551616:=IntKind.wrap_u64 n
theorem i64w (n:Int):IntKind.i64.wrap n=(n+9223372036854775808) % 18446744073709551616 - 9223372036854775808:=IntKind.wrap_i64 n
theorem abs_d (n:Int) (h:okI n):FnP Tryz.prog gl 162 [iD n] (uD n.natAbs):=by
 refine S0 Tryz.func162 rfl ?_
 ((repeat' ((conv=>whnf);first|exact .intro|refine G ?_|intro _|refine .mk ?_ ?_|refine AK ?_|refine And.intro (by first|(fail;done)|fail) ?_|fail));all_goals conv=>whnf)
 ·exact LeD.of (congrArg (fun z=>D.v (.int .u64 z)) (by rw[u64w,u64w];omega))
 ·exact LeD.of (congrArg (fun z=>D.v (.int .u64 z)) (by rw[u64w];omega))
namespace M64
theorem maskN (a:Nat) (ha:a<18446744073709551616):IntKind.u64.wrap ((BitVec.ofInt IntKind.u64.bits (a:Int) &&& BitVec.ofInt IntKind.u64.bits 4294967295).toNat)=((a % 4294967296:Nat):Int):=by
 have e:a &&& 4294967295=a % 4294967296:=Nat.and_two_pow_sub_one_eq_mod a 32
 have h1:(BitVec.ofInt IntKind.u64.bits (a:Int) &&& BitVec.ofInt IntKind.u64.bits 4294967295).toNat=a % 4294967296:=by
  rw[BitVec.toNat_and,BitVec.toNat_ofInt,BitVec.toNat_ofInt,← e]
  congr 1
  show ((a:Int) % 18446744073709551616).toNat=a
  omega
 rw[h1,u64w];omega
theorem shr32 (a:Nat):(a:Int).fdiv (2 ^ min (Int.toNat 32) IntKind.u64.bits)=((a / 4294967296:Nat):Int):=by
 rw[show (2:Int) ^ min (Int.toNat 32) IntKind.u64.bits=4294967296 from rfl,Int.fdiv_eq_ediv_of_nonneg _ (by omega)]
 omega
theorem mulN (a b:Nat) (h:a * b<18446744073709551616):IntKind.u64.wrap ((a:Int) * (b:Int))=((a * b:Nat):Int):=by rw[u64w,← Int.natCast_mul];omega
theorem mulM (a b:Nat):IntKind.u64.wrap ((a:Int) * (b:Int))=((a * b % 18446744073709551616:Nat):Int):=by rw[u64w,← Int.natCast_mul];omega
theorem addN (a b:Nat) (h:a+b<18446744073709551616):IntKind.u64.wrap ((a:Int)+(b:Int))=((a+b:Nat):Int):=by rw[u64w];omega
end M64
theorem Mul64_d (x y:Nat) (hx:x<18446744073709551616) (hy:y<18446744073709551616):FnP Tryz.prog gl 161 [uD x,uD y] (.tup [uD (x * y / 18446744073709551616),uD (x * y % 18446744073709551616)]):=by
 obtain ⟨bd,bt,bw,hhi⟩:=Lib.mul64_hi x y hx hy
 have ba:=Lib.half_mul_le (a:=x / 4294967296) (b:=y / 4294967296) (by omega) (by omega)
 have bb:=Lib.half_mul_le (a:=x / 4294967296) (b:=y % 4294967296) (by omega) (by omega)
 have bc:=Lib.half_mul_le (a:=x % 4294967296) (b:=y / 4294967296) (by omega) (by omega)
 have ba':x / 4294967296 * (y / 4294967296)<18446744073709551616:=by omega
 have bb':x / 4294967296 * (y % 4294967296)<18446744073709551616:=by omega
 have bc':x % 4294967296 * (y / 4294967296)<18446744073709551616:=by omega
 have bh1:x / 4294967296 * (y / 4294967296)+(x / 4294967296 * (y % 4294967296)+x % 4294967296 * (y % 4294967296) / 4294967296) / 4294967296<18446744073709551616:=by omega
 have bh:x / 4294967296 * (y / 4294967296)+(x / 4294967296 * (y % 4294967296)+x % 4294967296 * (y % 4294967296) / 4294967296) / 4294967296+((x / 4294967296 * (y % 4294967296)+x % 4294967296 * (y % 4294967296) / 4294967296) % 4294967296+x % 4294967296 * (y / 4294967296)) / 4294967296<18446744073709551616:=by omega
 refine S0 Tryz.func161 rfl ?_
 ((repeat' ((conv=>whnf);first|exact .intro|refine G ?_|intro _|refine .mk ?_ ?_|refine AK ?_|refine AO ?_|fail));all_goals conv=>whnf)
 refine LeD.of ?_
 simp only[retD,uD]
 simp only[M64.maskN x hx,M64.maskN y hy,M64.shr32,M64.mulN _ _ bd,M64.mulN _ _ bb',M64.addN _ _ bt,M64.maskN _ bt,M64.mulN _ _ bc',M64.addN _ _ bw,M64.mulN _ _ ba',M64.addN _ _ bh1,M64.addN _ _ bh,M64.mulM x y]
 rw[hhi]
theorem vl_le {k n k' n':Int} {s:List UInt8} (h1:k=k') (h2:n=n'):LeD (vlD k n s) (vlD k' n' s):=LeD.of (by rw[h1,h2])
theorem rk8_s {a b:Int} (ha:okI a) (hb:okI b) (h:okI (a+b)):FnP Tryz.prog gl 108 [iD 8,iD a,iD b] (vlD 1 (a+b) []):=by
 have e:=i64w (a+b)
 refine S0 Tryz.func108 rfl ?_
 ((repeat' ((conv=>whnf);first|exact .intro|refine G ?_|intro _|refine C1 (Num_d _) ?_|refine C1 (Wrong_d _) ?_|refine .mk ?_ ?_|refine H ?_|fail));all_goals conv=>whnf)
 all_goals first|exact vl_le rfl (by omega)|(exfalso;omega)
theorem rk8_n {a b:Int} (ha:okI a) (hb:okI b) (h:¬ okI (a+b)):FnP Tryz.prog gl 108 [iD 8,iD a,iD b] (vlD 4 5 []):=by
 have e:=i64w (a+b)
 refine S0 Tryz.func108 rfl ?_
 ((repeat' ((conv=>whnf);first|exact .intro|refine G ?_|intro _|refine C1 (Num_d _) ?_|refine C1 (Wrong_d _) ?_|refine .mk ?_ ?_|refine H ?_|fail));all_goals conv=>whnf)
 all_goals first|exact LeD.rfl|(exfalso;omega)
theorem rk9_s {a b:Int} (ha:okI a) (hb:okI b) (h:okI (a - b)):FnP Tryz.prog gl 108 [iD 9,iD a,iD b] (vlD 1 (a - b) []):=by
 have e:=i64w (a - b)
 refine S0 Tryz.func108 rfl ?_
 ((repeat' ((conv=>whnf);first|exact .intro|refine G ?_|intro _|refine C1 (Num_d _) ?_|refine C1 (Wrong_d _) ?_|refine .mk ?_ ?_|refine H ?_|fail));all_goals conv=>whnf)
 all_goals first|exact vl_le rfl (by omega)|(exfalso;omega)
theorem rk9_n {a b:Int} (ha:okI a) (hb:okI b) (h:¬ okI (a - b)):FnP Tryz.prog gl 108 [iD 9,iD a,iD b] (vlD 4 5 []):=by
 have e:=i64w (a - b)
 refine S0 Tryz.func108 rfl ?_
 ((repeat' ((conv=>whnf);first|exact .intro|refine G ?_|intro _|refine C1 (Num_d _) ?_|refine C1 (Wrong_d _) ?_|refine .mk ?_ ?_|refine H ?_|fail));all_goals conv=>whnf)
 all_goals first|exact LeD.rfl|(exfalso;omega)
theorem mul_abs (a b:Int):(a * b).natAbs=a.natAbs * b.natAbs:=Int.natAbs_mul a b
theorem mul_sgn (a b:Int):(a<0→b<0→0≤a * b)∧(a<0→0≤b→a * b≤0)∧(0≤a→b<0→a * b≤0)∧(0≤a→0≤b→0≤a * b) :=
 ⟨fun h k=>Int.mul_nonneg_of_nonpos_of_nonpos (by omega) (by omega),fun h k=>Int.mul_nonpos_of_nonpos_of_nonneg (by omega) k,fun h k=>Int.mul_nonpos_of_nonneg_of_nonpos h (by omega),fun h k=>Int.mul_nonneg h k⟩
theorem rk10_s {a b:Int} (ha:okI a) (hb:okI b) (h:okI (a * b)):FnP Tryz.prog gl 108 [iD 10,iD a,iD b] (vlD 1 (a * b) []):=by
 have e1:=mul_abs a b
 obtain ⟨s1,s2,s3,s4⟩:=mul_sgn a b
 have c1:=abs_d (gl:=gl) a ha
 have c2:=abs_d (gl:=gl) b hb
 have c3:=Mul64_d (gl:=gl) a.natAbs b.natAbs (by omega) (by omega)
 have hP:a.natAbs * b.natAbs<340282366920938463463374607431768211456:=Nat.lt_of_le_of_lt (Nat.mul_le_mul (show a.natAbs≤9223372036854775808 by omega) (show b.natAbs≤9223372036854775808 by omega)) (by decide)
 generalize a.natAbs * b.natAbs=P at *
 obtain ⟨hi,hhi⟩:∃ hi,hi=P / 18446744073709551616:=⟨_,rfl⟩
 obtain ⟨lo,hlo⟩:∃ lo,lo=P % 18446744073709551616:=⟨_,rfl⟩
 rw[← hhi,← hlo] at c3
 have key:Held (P<340282366920938463463374607431768211456∧P=18446744073709551616 * hi+lo∧lo<18446744073709551616∧(a * b).natAbs=P∧(a<0→b<0→0≤a * b)∧(a<0→0≤b→a * b≤0)∧(0≤a→b<0→a * b≤0)∧(0≤a→0≤b→0≤a * b)∧okI a∧okI b∧( okI (a * b))∧(okI (a * b)→IntKind.i64.wrap (a * b)=a * b)) :=
  ⟨by omega,by omega,by omega,e1,s1,s2,s3,s4,ha,hb,h,fun h=>wrapI h⟩
 clear e1 s1 s2 s3 s4 ha hb h hhi hlo hP
 refine S0 Tryz.func108 rfl ?_
 ((repeat' ((conv=>whnf);first|exact .intro|refine G ?_|intro _|refine C1 (Num_d _) ?_|refine C1 (Wrong_d _) ?_|refine C1 c1 ?_|refine C1 c2 ?_|refine C1 c3 ?_|refine .mk ?_ ?_|refine H ?_|fail));all_goals conv=>whnf)
 all_goals (obtain ⟨k1,k2,k3,k4,k5,k6,k7,k8,k9,k10,k11,k12⟩:=key)
 all_goals first|exact vl_le rfl (by omega)|(exfalso;omega)
theorem rk10_n {a b:Int} (ha:okI a) (hb:okI b) (h:¬ okI (a * b)):FnP Tryz.prog gl 108 [iD 10,iD a,iD b] (vlD 4 5 []):=by
 have e1:=mul_abs a b
 obtain ⟨s1,s2,s3,s4⟩:=mul_sgn a b
 have c1:=abs_d (gl:=gl) a ha
 have c2:=abs_d (gl:=gl) b hb
 have c3:=Mul64_d (gl:=gl) a.natAbs b.natAbs (by omega) (by omega)
 have hP:a.natAbs * b.natAbs<340282366920938463463374607431768211456:=Nat.lt_of_le_of_lt (Nat.mul_le_mul (show a.natAbs≤9223372036854775808 by omega) (show b.natAbs≤9223372036854775808 by omega)) (by decide)
 generalize a.natAbs * b.natAbs=P at *
 obtain ⟨hi,hhi⟩:∃ hi,hi=P / 18446744073709551616:=⟨_,rfl⟩
 obtain ⟨lo,hlo⟩:∃ lo,lo=P % 18446744073709551616:=⟨_,rfl⟩
 rw[← hhi,← hlo] at c3
 have key:Held (P<340282366920938463463374607431768211456∧P=18446744073709551616 * hi+lo∧lo<18446744073709551616∧(a * b).natAbs=P∧(a<0→b<0→0≤a * b)∧(a<0→0≤b→a * b≤0)∧(0≤a→b<0→a * b≤0)∧(0≤a→0≤b→0≤a * b)∧okI a∧okI b∧(¬ okI (a * b))∧(okI (a * b)→IntKind.i64.wrap (a * b)=a * b)) :=
  ⟨by omega,by omega,by omega,e1,s1,s2,s3,s4,ha,hb,h,fun h=>wrapI h⟩
 clear e1 s1 s2 s3 s4 ha hb h hhi hlo hP
 refine S0 Tryz.func108 rfl ?_
 ((repeat' ((conv=>whnf);first|exact .intro|refine G ?_|intro _|refine C1 (Num_d _) ?_|refine C1 (Wrong_d _) ?_|refine C1 c1 ?_|refine C1 c2 ?_|refine C1 c3 ?_|refine .mk ?_ ?_|refine H ?_|fail));all_goals conv=>whnf)
 all_goals (obtain ⟨k1,k2,k3,k4,k5,k6,k7,k8,k9,k10,k11,k12⟩:=key)
 all_goals first|exact LeD.rfl|(exfalso;omega)
theorem tdiv_one' (a:Int):a.tdiv (-1)=-a:=by rw[Int.tdiv_neg,Int.tdiv_one]
theorem tdiv_abs_le (a b:Int):(a.tdiv b).natAbs≤a.natAbs:=by rw[Int.natAbs_tdiv];exact Nat.div_le_self _ _
theorem tdiv_ok {a b:Int} (ha:okI a) (h:¬ okI (a.tdiv b)):a=-9223372036854775808∧b=-1:=by
 have h1:=tdiv_abs_le a b
 have h2:a.tdiv b=9223372036854775808:=by omega
 have h3:a=-9223372036854775808∨a=9223372036854775808:=by omega
 have ha':a=-9223372036854775808:=by omega
 subst ha'
 refine ⟨rfl,?_⟩
 have h4:=Int.natAbs_tdiv (-9223372036854775808) b
 rw[h2] at h4
 have h5:b.natAbs=1:=by
  have h6:(9223372036854775808:Nat)=9223372036854775808 / b.natAbs:=h4
  rcases Nat.lt_or_ge 1 b.natAbs with h7|h7
  ·have:=Nat.div_le_div_left (a:=9223372036854775808) (show 2≤b.natAbs from h7) (by omega)
   omega
  ·have h8:b.natAbs≠0:=fun h0=>by rw[h0] at h6;omega
   omega
 have h6:b=1∨b=-1:=by omega
 rcases h6 with rfl|rfl
 ·rw[Int.tdiv_one] at h2;omega
 ·rfl
theorem rk11_0 (a:Int):FnP Tryz.prog gl 108 [iD 11,iD a,iD 0] (vlD 4 1 []):=by
 refine S0 Tryz.func108 rfl ?_
 ((repeat' ((conv=>whnf);first|exact .intro|refine G ?_|intro _|refine C1 (Num_d _) ?_|refine C1 (Wrong_d _) ?_|refine .mk ?_ ?_|refine H ?_|fail));all_goals conv=>whnf)
 exact LeD.rfl
theorem rk11_s {a b:Int} (ha:okI a) (h0:¬ b=0) (h:okI (a.tdiv b)):FnP Tryz.prog gl 108 [iD 11,iD a,iD b] (vlD 1 (a.tdiv b) []):=by
 have e:=wrapI (n:=a.tdiv b) h
 have e1:b=-1→a.tdiv b=-a:=fun hb=>by rw[hb];exact tdiv_one' a
 refine S0 Tryz.func108 rfl ?_
 ((repeat' ((conv=>whnf);first|exact .intro|refine G ?_|intro _|refine C1 (Num_d _) ?_|refine C1 (Wrong_d _) ?_|refine .mk ?_ ?_|refine H ?_|fail));all_goals conv=>whnf)
 all_goals first|exact vl_le rfl (by omega)|(exfalso;omega)
theorem rk11_n {a b:Int} (ha:okI a) (h:¬ okI (a.tdiv b)):FnP Tryz.prog gl 108 [iD 11,iD a,iD b] (vlD 4 5 []):=by
 obtain ⟨rfl,rfl⟩:=tdiv_ok ha h
 have e1:IntKind.i64.wrap ((-9223372036854775808:Int).tdiv (-1))=-9223372036854775808:=by decide
 refine S0 Tryz.func108 rfl ?_
 ((repeat' ((conv=>whnf);first|exact .intro|refine G ?_|intro _|refine C1 (Num_d _) ?_|refine C1 (Wrong_d _) ?_|refine .mk ?_ ?_|refine H ?_|fail));all_goals conv=>whnf)
 all_goals first|exact LeD.rfl|(exfalso;omega)
theorem fmod_facts (a:Int) {b:Int} (_h:¬ b=0):(0<b→0≤a.fmod b∧a.fmod b<b)∧(b<0→b<a.fmod b∧a.fmod b≤0):=by
 refine ⟨fun hb=>⟨Int.fmod_nonneg_of_pos _ hb,Int.fmod_lt_of_pos _ hb⟩,fun hb=>?_⟩
 have h1:=Int.fmod_nonneg_of_pos (-a) (b:=-b) (by omega)
 have h2:=Int.fmod_lt_of_pos (-a) (b:=-b) (by omega)
 rw[Int.neg_fmod_neg] at h1 h2
 omega
end Go.Proofs.YtfkjhfdpphfjhaaGreatDoor
