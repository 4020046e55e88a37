/- Proved: a part of what the law is proved with (the reckoner, contracts of functions, plain laws). Conditions: as each says. -/
import Derived.Lib.Mul64
import Derived.Laws.Bits64b
import Derived.Test.YtfkjhfdpphfjhaaGreatDoorWBd
import Derived.Test.YtfkjhfdpphfjhaaGreatDoorWVb
section
namespace Go.Proofs.YtfkjhfdpphfjhaaGreatDoor
open Go Go.EYtfkjhfdpphfjhaaGreatDoor
set_option maxRecDepth 100000
variable {gl:List (Nat×List D)}
structure Held (p:Prop):Prop where
 h:p
abbrev uD (n:Nat):D:=.v (.int .u64 (n:Int))
abbrev okI (n:Int):Prop:=-9223372036854775808≤n∧n≤9223372036854775807
theorem u64w (n:Int):IntKind.u64.wrap n=n % 18446744073709551616:=IntKind.wrap_u64 n
theorem i64w (n:Int):IntKind.i64.wrap n=(n+9223372036854775808) % 18446744073709551616 - 9223372036854775808:=IntKind.wrap_i64 n
theorem abs_d (n:Int) (h:okI n):FnP Tryz.prog gl 162 [iD n] (uD n.natAbs):=by
 refine fnP_of_vc (nv:=9999) (cu:=[]) fits mixed Tryz.func162 rfl hoB rfl ?_
 ((repeat' ((conv=>whnf);first|exact .intro|refine G ?_|intro _|refine .mk ?_ ?_|refine AK ?_|refine And.intro (by first|(fail;done)|fail) ?_|fail));all_goals conv=>whnf)
 ·exact LeD.of (congrArg (fun z=>D.v (.int .u64 z)) (by rw[u64w,u64w];omega))
 ·exact LeD.of (congrArg (fun z=>D.v (.int .u64 z)) (by rw[u64w];omega))
namespace M64
theorem maskN (a:Nat) (ha:a<18446744073709551616):IntKind.u64.wrap ((BitVec.ofInt IntKind.u64.bits (a:Int) &&& BitVec.ofInt IntKind.u64.bits 4294967295).toNat)=((a % 4294967296:Nat):Int):=by
 have e:a &&& 4294967295=a % 4294967296:=Nat.and_two_pow_sub_one_eq_mod a 32
 have h1:(BitVec.ofInt IntKind.u64.bits (a:Int) &&& BitVec.ofInt IntKind.u64.bits 4294967295).toNat=a % 4294967296:=by
  rw[BitVec.toNat_and,BitVec.toNat_ofInt,BitVec.toNat_ofInt,← e]
  congr 1
  show ((a:Int) % 18446744073709551616).toNat=a
  omega
 rw[h1,u64w];omega
theorem shr32 (a:Nat):(a:Int).fdiv (2 ^ min (Int.toNat 32) IntKind.u64.bits)=((a / 4294967296:Nat):Int):=by
 rw[show (2:Int) ^ min (Int.toNat 32) IntKind.u64.bits=4294967296 from rfl,Int.fdiv_eq_ediv_of_nonneg _ (by omega)]
 omega
theorem mulN (a b:Nat) (h:a * b<18446744073709551616):IntKind.u64.wrap ((a:Int) * (b:Int))=((a * b:Nat):Int):=by rw[u64w,← Int.natCast_mul];omega
theorem mulM (a b:Nat):IntKind.u64.wrap ((a:Int) * (b:Int))=((a * b % 18446744073709551616:Nat):Int):=by rw[u64w,← Int.natCast_mul];omega
theorem addN (a b:Nat) (h:a+b<18446744073709551616):IntKind.u64.wrap ((a:Int)+(b:Int))=((a+b:Nat):Int):=by rw[u64w];omega
end M64
theorem Mul64_d (x y:Nat) (hx:x<18446744073709551616) (hy:y<18446744073709551616):FnP Tryz.prog gl 161 [uD x,uD y] (.tup [uD (x * y / 18446744073709551616),uD (x * y % 18446744073709551616)]):=by
 obtain ⟨bd,bt,bw,hhi⟩:=Lib.mul64_hi x y hx hy
 have ba:=Lib.half_mul_le (a:=x / 4294967296) (b:=y / 4294967296) (by omega) (by omega)
 have bb:=Lib.half_mul_le (a:=x / 4294967296) (b:=y % 4294967296) (by omega) (by omega)
 have bc:=Lib.half_mul_le (a:=x % 4294967296) (b:=y / 4294967296) (by omega) (by omega)
 have ba':x / 4294967296 * (y / 4294967296)<18446744073709551616:=by omega
 have bb':x / 4294967296 * (y % 4294967296)<18446744073709551616:=by omega
 have bc':x % 4294967296 * (y / 4294967296)<18446744073709551616:=by omega
 have bh1:x / 4294967296 * (y / 4294967296)+(x / 4294967296 * (y % 4294967296)+x % 4294967296 * (y % 4294967296) / 4294967296) / 4294967296<18446744073709551616:=by omega
 have bh:x / 4294967296 * (y / 4294967296)+(x / 4294967296 * (y % 4294967296)+x % 4294967296 * (y % 4294967296) / 4294967296) / 4294967296+((x / 4294967296 * (y % 4294967296)+x % 4294967296 * (y % 4294967296) / 4294967296) % 4294967296+x % 4294967296 * (y / 4294967296)) / 4294967296<18446744073709551616:=by omega
 refine fnP_of_vc (nv:=9999) (cu:=[]) fits mixed Tryz.func161 rfl hoB rfl ?_
 ((repeat' ((conv=>whnf);first|exact .intro|refine G ?_|intro _|refine .mk ?_ ?_|refine AK ?_|refine AO ?_|fail));all_goals conv=>whnf)
 refine LeD.of ?_
 simp only[retD,uD]
 simp only[M64.maskN x hx,M64.maskN y hy,M64.shr32,M64.mulN _ _ bd,M64.mulN _ _ bb',M64.addN _ _ bt,M64.maskN _ bt,M64.mulN _ _ bc',M64.addN _ _ bw,M64.mulN _ _ ba',M64.addN _ _ bh1,M64.addN _ _ bh,M64.mulM x y]
 rw[hhi]
theorem vl_le {k n k' n':Int} {s:List UInt8} (h1:k=k') (h2:n=n'):LeD (vlD k n s) (vlD k' n' s):=LeD.of (by rw[h1,h2])
theorem rk8_s {a b:Int} (ha:okI a) (hb:okI b) (h:okI (a+b)):FnP Tryz.prog gl 108 [iD 8,iD a,iD b] (vlD 1 (a+b) []):=by
 have e:=i64w (a+b)
 refine fnP_of_vc (nv:=9999) (cu:=[]) fits mixed Tryz.func108 rfl hoB rfl ?_
 ((repeat' ((conv=>whnf);first|exact .intro|refine G ?_|intro _|refine C1 (Num_d _) ?_|refine C1 (Wrong_d _) ?_|refine .mk ?_ ?_|refine H ?_|fail));all_goals conv=>whnf)
 all_goals first|exact vl_le rfl (by omega)|(exfalso;omega)
theorem rk8_n {a b:Int} (ha:okI a) (hb:okI b) (h:¬ okI (a+b)):FnP Tryz.prog gl 108 [iD 8,iD a,iD b] (vlD 4 5 []):=by
 have e:=i64w (a+b)
 refine fnP_of_vc (nv:=9999) (cu:=[]) fits mixed Tryz.func108 rfl hoB rfl ?_
 ((repeat' ((conv=>whnf);first|exact .intro|refine G ?_|intro _|refine C1 (Num_d _) ?_|refine C1 (Wrong_d _) ?_|refine .mk ?_ ?_|refine H ?_|fail));all_goals conv=>whnf)
 all_goals first|exact LeD.rfl|(exfalso;omega)
theorem rk9_s {a b:Int} (ha:okI a) (hb:okI b) (h:okI (a - b)):FnP Tryz.prog gl 108 [iD 9,iD a,iD b] (vlD 1 (a - b) []):=by
 have e:=i64w (a - b)
 refine fnP_of_vc (nv:=9999) (cu:=[]) fits mixed Tryz.func108 rfl hoB rfl ?_
 ((repeat' ((conv=>whnf);first|exact .intro|refine G ?_|intro _|refine C1 (Num_d _) ?_|refine C1 (Wrong_d _) ?_|refine .mk ?_ ?_|refine H ?_|fail));all_goals conv=>whnf)
 all_goals first|exact vl_le rfl (by omega)|(exfalso;omega)
theorem rk9_n {a b:Int} (ha:okI a) (hb:okI b) (h:¬ okI (a - b)):FnP Tryz.prog gl 108 [iD 9,iD a,iD b] (vlD 4 5 []):=by
 have e:=i64w (a - b)
 refine fnP_of_vc (nv:=9999) (cu:=[]) fits mixed Tryz.func108 rfl hoB rfl ?_
 ((repeat' ((conv=>whnf);first|exact .intro|refine G ?_|intro _|refine C1 (Num_d _) ?_|refine C1 (Wrong_d _) ?_|refine .mk ?_ ?_|refine H ?_|fail));all_goals conv=>whnf)
 all_goals first|exact LeD.rfl|(exfalso;omega)
theorem mul_abs (a b:Int):(a * b).natAbs=a.natAbs * b.natAbs:=Int.natAbs_mul a b
theorem mul_sgn (a b:Int):(a<0→b<0→0≤a * b)∧(a<0→0≤b→a * b≤0)∧(0≤a→b<0→a * b≤0)∧(0≤a→0≤b→0≤a * b) :=
 ⟨fun h k=>Int.mul_nonneg_of_nonpos_of_nonpos (by omega) (by omega),fun h k=>Int.mul_nonpos_of_nonpos_of_nonneg (by omega) k,fun h k=>Int.mul_nonpos_of_nonneg_of_nonpos h (by omega),fun h k=>Int.mul_nonneg h k⟩
theorem rk10_s {a b:Int} (ha:okI a) (hb:okI b) (h:okI (a * b)):FnP Tryz.prog gl 108 [iD 10,iD a,iD b] (vlD 1 (a * b) []):=by
 have e1:=mul_abs a b
 obtain ⟨s1,s2,s3,s4⟩:=mul_sgn a b
 have c1:=abs_d (gl:=gl) a ha
 have c2:=abs_d (gl:=gl) b hb
 have c3:=Mul64_d (gl:=gl) a.natAbs b.natAbs (by omega) (by omega)
 have hP:a.natAbs * b.natAbs<340282366920938463463374607431768211456:=Nat.lt_of_le_of_lt (Nat.mul_le_mul (show a.natAbs≤9223372036854775808 by omega) (show b.natAbs≤9223372036854775808 by omega)) (by decide)
 generalize a.natAbs * b.natAbs=P at *
 obtain ⟨hi,hhi⟩:∃ hi,hi=P / 18446744073709551616:=⟨_,rfl⟩
 obtain ⟨lo,hlo⟩:∃ lo,lo=P % 18446744073709551616:=⟨_,rfl⟩
 rw[← hhi,← hlo] at c3
 have key:Held (P<340282366920938463463374607431768211456∧P=18446744073709551616 * hi+lo∧lo<18446744073709551616∧(a * b).natAbs=P∧(a<0→b<0→0≤a * b)∧(a<0→0≤b→a * b≤0)∧(0≤a→b<0→a * b≤0)∧(0≤a→0≤b→0≤a * b)∧okI a∧okI b∧( okI (a * b))∧(okI (a * b)→IntKind.i64.wrap (a * b)=a * b)) :=
  ⟨by omega,by omega,by omega,e1,s1,s2,s3,s4,ha,hb,h,fun h=>wrapI h⟩
 clear e1 s1 s2 s3 s4 ha hb h hhi hlo hP
 refine fnP_of_vc (nv:=9999) (cu:=[]) fits mixed Tryz.func108 rfl hoB rfl ?_
 ((repeat' ((conv=>whnf);first|exact .intro|refine G ?_|intro _|refine C1 (Num_d _) ?_|refine C1 (Wrong_d _) ?_|refine C1 c1 ?_|refine C1 c2 ?_|refine C1 c3 ?_|refine .mk ?_ ?_|refine H ?_|fail));all_goals conv=>whnf)
 all_goals (obtain ⟨k1,k2,k3,k4,k5,k6,k7,k8,k9,k10,k11,k12⟩:=key)
 all_goals first|exact vl_le rfl (by omega)|(exfalso;omega)
theorem rk10_n {a b:Int} (ha:okI a) (hb:okI b) (h:¬ okI (a * b)):FnP Tryz.prog gl 108 [iD 10,iD a,iD b] (vlD 4 5 []):=by
 have e1:=mul_abs a b
 obtain ⟨s1,s2,s3,s4⟩:=mul_sgn a b
 have c1:=abs_d (gl:=gl) a ha
 have c2:=abs_d (gl:=gl) b hb
 have c3:=Mul64_d (gl:=gl) a.natAbs b.natAbs (by omega) (by omega)
 have hP:a.natAbs * b.natAbs<340282366920938463463374607431768211456:=Nat.lt_of_le_of_lt (Nat.mul_le_mul (show a.natAbs≤9223372036854775808 by omega) (show b.natAbs≤9223372036854775808 by omega)) (by decide)
 generalize a.natAbs * b.natAbs=P at *
 obtain ⟨hi,hhi⟩:∃ hi,hi=P / 18446744073709551616:=⟨_,rfl⟩
 obtain ⟨lo,hlo⟩:∃ lo,lo=P % 18446744073709551616:=⟨_,rfl⟩
 rw[← hhi,← hlo] at c3
 have key:Held (P<340282366920938463463374607431768211456∧P=18446744073709551616 * hi+lo∧lo<18446744073709551616∧(a * b).natAbs=P∧(a<0→b<0→0≤a * b)∧(a<0→0≤b→a * b≤0)∧(0≤a→b<0→a * b≤0)∧(0≤a→0≤b→0≤a * b)∧okI a∧okI b∧(¬ okI (a * b))∧(okI (a * b)→IntKind.i64.wrap (a * b)=a * b)) :=
  ⟨by omega,by omega,by omega,e1,s1,s2,s3,s4,ha,hb,h,fun h=>wrapI h⟩
 clear e1 s1 s2 s3 s4 ha hb h hhi hlo hP
 refine fnP_of_vc (nv:=9999) (cu:=[]) fits mixed Tryz.func108 rfl hoB rfl ?_
 ((repeat' ((conv=>whnf);first|exact .intro|refine G ?_|intro _|refine C1 (Num_d _) ?_|refine C1 (Wrong_d _) ?_|refine C1 c1 ?_|refine C1 c2 ?_|refine C1 c3 ?_|refine .mk ?_ ?_|refine H ?_|fail));all_goals conv=>whnf)
 all_goals (obtain ⟨k1,k2,k3,k4,k5,k6,k7,k8,k9,k10,k11,k12⟩:=key)
 all_goals first|exact LeD.rfl|(exfalso;omega)
theorem tdiv_one' (a:Int):a.tdiv (-1)=-a:=by rw[Int.tdiv_neg,Int.tdiv_one]
theorem tdiv_abs_le (a b:Int):(a.tdiv b).natAbs≤a.natAbs:=by rw[Int.natAbs_tdiv];exact Nat.div_le_self _ _
theorem tdiv_ok {a b:Int} (ha:okI a) (h:¬ okI (a.tdiv b)):a=-9223372036854775808∧b=-1:=by
 have h1:=tdiv_abs_le a b
 have h2:a.tdiv b=9223372036854775808:=by omega
 have h3:a=-9223372036854775808∨a=9223372036854775808:=by omega
 have ha':a=-9223372036854775808:=by omega
 subst ha'
 refine ⟨rfl,?_⟩
 have h4:=Int.natAbs_tdiv (-9223372036854775808) b
 rw[h2] at h4
 have h5:b.natAbs=1:=by
  have h6:(9223372036854775808:Nat)=9223372036854775808 / b.natAbs:=h4
  rcases Nat.lt_or_ge 1 b.natAbs with h7|h7
  ·have:=Nat.div_le_div_left (a:=9223372036854775808) (show 2≤b.natAbs from h7) (by omega)
   omega
  ·have h8:b.natAbs≠0:=fun h0=>by rw[h0] at h6;omega
   omega
 have h6:b=1∨b=-1:=by omega
 rcases h6 with rfl|rfl
 ·rw[Int.tdiv_one] at h2;omega
 ·rfl
theorem rk11_0 (a:Int):FnP Tryz.prog gl 108 [iD 11,iD a,iD 0] (vlD 4 1 []):=by
 refine fnP_of_vc (nv:=9999) (cu:=[]) fits mixed Tryz.func108 rfl hoB rfl ?_
 ((repeat' ((conv=>whnf);first|exact .intro|refine G ?_|intro _|refine C1 (Num_d _) ?_|refine C1 (Wrong_d _) ?_|refine .mk ?_ ?_|refine H ?_|fail));all_goals conv=>whnf)
 exact LeD.rfl
theorem rk11_s {a b:Int} (ha:okI a) (h0:¬ b=0) (h:okI (a.tdiv b)):FnP Tryz.prog gl 108 [iD 11,iD a,iD b] (vlD 1 (a.tdiv b) []):=by
 have e:=wrapI (n:=a.tdiv b) h
 have e1:b=-1→a.tdiv b=-a:=fun hb=>by rw[hb];exact tdiv_one' a
 refine fnP_of_vc (nv:=9999) (cu:=[]) fits mixed Tryz.func108 rfl hoB rfl ?_
 ((repeat' ((conv=>whnf);first|exact .intro|refine G ?_|intro _|refine C1 (Num_d _) ?_|refine C1 (Wrong_d _) ?_|refine .mk ?_ ?_|refine H ?_|fail));all_goals conv=>whnf)
 all_goals first|exact vl_le rfl (by omega)|(exfalso;omega)
theorem rk11_n {a b:Int} (ha:okI a) (h:¬ okI (a.tdiv b)):FnP Tryz.prog gl 108 [iD 11,iD a,iD b] (vlD 4 5 []):=by
 obtain ⟨rfl,rfl⟩:=tdiv_ok ha h
 have e1:IntKind.i64.wrap ((-9223372036854775808:Int).tdiv (-1))=-9223372036854775808:=by decide
 refine fnP_of_vc (nv:=9999) (cu:=[]) fits mixed Tryz.func108 rfl hoB rfl ?_
 ((repeat' ((conv=>whnf);first|exact .intro|refine G ?_|intro _|refine C1 (Num_d _) ?_|refine C1 (Wrong_d _) ?_|refine .mk ?_ ?_|refine H ?_|fail));all_goals conv=>whnf)
 all_goals first|exact LeD.rfl|(exfalso;omega)
theorem fmod_facts (a:Int) {b:Int} (_h:¬ b=0):(0<b→0≤a.fmod b∧a.fmod b<b)∧(b<0→b<a.fmod b∧a.fmod b≤0):=by
 refine ⟨fun hb=>⟨Int.fmod_nonneg_of_pos _ hb,Int.fmod_lt_of_pos _ hb⟩,fun hb=>?_⟩
 have h1:=Int.fmod_nonneg_of_pos (-a) (b:=-b) (by omega)
 have h2:=Int.fmod_lt_of_pos (-a) (b:=-b) (by omega)
 rw[Int.neg_fmod_neg] at h1 h2
 omega
end Go.Proofs.YtfkjhfdpphfjhaaGreatDoor
end
section
namespace Go.Proofs.YtfkjhfdpphfjhaaGreatDoor
open Go Go.EYtfkjhfdpphfjhaaGreatDoor
set_option maxRecDepth 100000
variable {gl:List (Nat×List D)}
theorem val_cmp {a b:List Nat} (hl:a.length=b.length) (ha:∀ d ∈ a,d<B32) {k:Nat} (hk:k<a.length) (hd:a.drop (k+1)=b.drop (k+1)) (h:a[k]<b[k]'(hl ▸ hk)):val a<val b:=by
 have hkb:k<b.length:=hl ▸ hk
 have e1:val a=val (a.take k)+B32 ^ k * (a[k]+B32 * val (a.drop (k+1))):=by
  conv=>lhs;rw[← List.take_append_drop k a,List.drop_eq_getElem_cons hk,val_app,List.length_take,Nat.min_eq_left (by omega)]
  rfl
 have e2:val b=val (b.take k)+B32 ^ k * (b[k]+B32 * val (b.drop (k+1))):=by
  conv=>lhs;rw[← List.take_append_drop k b,List.drop_eq_getElem_cons hkb,val_app,List.length_take,Nat.min_eq_left (by omega)]
  rfl
 have h1:val (a.take k)<B32 ^ k:=by
  have:=val_lt (l:=a.take k) fun d hd=>ha d (List.mem_of_mem_take hd)
  rwa [List.length_take,Nat.min_eq_left (by omega)] at this
 rw[e1,e2,hd]
 have h2:B32 ^ k * (a[k]+B32 * val (b.drop (k+1))+1)≤B32 ^ k * (b[k]+B32 * val (b.drop (k+1))):=Nat.mul_le_mul_left _ (by omega)
 rw[Nat.mul_add,Nat.mul_one] at h2
 omega
theorem cmpZ_lt {m n:Nat} (h:m<n):cmpZ m n=-1:=by unfold cmpZ;rw[if_pos (by omega)]
theorem cmpZ_gt {m n:Nat} (h:n<m):cmpZ m n=1:=by unfold cmpZ;rw[if_neg (by omega),if_pos (by omega)]
theorem cmpZ_eq {m n:Nat} (h:m=n):cmpZ m n=0:=by subst h;unfold cmpZ;simp
theorem len_lt {m n:Nat} (h:(ws m).length<(ws n).length):m<n:=Nat.lt_of_lt_of_le (lt_ws_len m) (ws_len_ge h)
theorem cmp_d (m n:Nat) (_hm:(ws m).length≤35184372088832) (hn:(ws n).length≤35184372088832):FnP Tryz.prog gl 186 [W m,W n] (iD (cmpZ m n)):=by
 have wa:=wD_len (ws m)
 have wb:=wD_len (ws n)
 rcases Nat.lt_trichotomy (ws m).length (ws n).length with h|h|h
 ·have c1:¬ (((wD (ws m)).length:Nat):Int)=(((wD (ws n)).length:Nat):Int):=by rw[wa,wb];omega
  have c2:(((wD (ws m)).length:Nat):Int)<(((wD (ws n)).length:Nat):Int):=by rw[wa,wb];omega
  rw[cmpZ_lt (len_lt h)]
  refine fnP_of_vc (nv:=9999) (cu:=[]) fits mixed Tryz.func186 rfl hoB rfl ?_
  ((repeat' ((conv=>whnf);first|exact .intro|refine G ?_|intro _|refine .mk ?_ ?_|refine AK ?_|refine AO ?_|fail));all_goals conv=>whnf)
  exact LeD.rfl
 ·have c1:(((wD (ws m)).length:Nat):Int)=(((wD (ws n)).length:Nat):Int):=by rw[wa,wb];omega
  refine fnP_of_vc (nv:=9999) (cu:=[]) fits mixed Tryz.func186 rfl hoB rfl ?_
  ((repeat' ((conv=>whnf);first|exact .intro|refine G ?_|intro _|refine .mk ?_ ?_|refine AK ?_|refine AO ?_|fail));all_goals conv=>whnf)
  refine ⟨{ σ:=Nat,fr:=fun k=>[(5,.c (.d (iD ((k:Int) - 1))))],ks:=[],L:=fun _=>[],ex:=0,I:=fun k=>k≤(ws m).length∧(ws m).drop k=(ws n).drop k,μ:=fun k=>k },⟨(ws m).length,⟨Nat.le_refl _,?_⟩,?_⟩,fun (k:Nat) hk=>?_⟩
  ·rw[List.drop_length,h,List.drop_length]
  ·((repeat' first|exact rfl|((conv=>whnf);first|done|exact suL|refine And.intro ?_ ?_|fail));all_goals conv=>whnf)
   exact ceq (by rw[wa,wrapI (by omega)])
  ·obtain ⟨h1,h2⟩:=hk
   ((repeat' ((conv=>whnf);first|exact .intro|refine G ?_|intro _|refine .mk ?_ ?_|refine AK ?_|refine AO ?_|fail));all_goals conv=>whnf)
   ·have hk1:k - 1<(ws m).length:=by omega
    have hk2:k - 1<(ws n).length:=by omega
    have ek:(k:Int) - 1=((k - 1:Nat):Int):=by omega
    have hd:(ws m).drop (k - 1+1)=(ws n).drop (k - 1+1):=by rw[show k - 1+1=k by omega];exact h2
    have l1:=val_cmp h (ws_lt m) hk1 hd
    have l2:=val_cmp h.symm (ws_lt n) hk2 hd.symm
    rw[val_ws,val_ws] at l1 l2
    refine ⟨(ws m)[k - 1]::[] |>.map (fun d=>u32D d),by rw[ek];exact wget hk1,?_⟩
    ((repeat' ((conv=>whnf);first|exact .intro|refine G ?_|intro _|refine .mk ?_ ?_|refine AK ?_|refine AO ?_|fail));all_goals conv=>whnf)
    refine ⟨(ws n)[k - 1]::[] |>.map (fun d=>u32D d),by rw[ek];exact wget hk2,?_⟩
    ((repeat' ((conv=>whnf);first|exact .intro|refine G ?_|intro _|refine .mk ?_ ?_|refine AK ?_|refine AO ?_|fail));all_goals conv=>whnf)
    ·refine ⟨(ws m)[k - 1]::[] |>.map (fun d=>u32D d),by rw[ek];exact wget hk1,?_⟩
     ((repeat' ((conv=>whnf);first|exact .intro|refine G ?_|intro _|refine .mk ?_ ?_|refine AK ?_|refine AO ?_|fail));all_goals conv=>whnf)
     refine ⟨(ws n)[k - 1]::[] |>.map (fun d=>u32D d),by rw[ek];exact wget hk2,?_⟩
     ((repeat' ((conv=>whnf);first|exact .intro|refine G ?_|intro _|refine .mk ?_ ?_|refine AK ?_|refine AO ?_|fail));all_goals conv=>whnf)
     all_goals first
      | exact LeD.of (by rw[cmpZ_lt (l1 (by omega))];rfl)
      | exact LeD.of (by rw[cmpZ_gt (l2 (by omega))];rfl)
    ·refine ⟨k - 1,⟨⟨by omega,?_⟩,by show k - 1<k;omega⟩,?_⟩
     ·rw[List.drop_eq_getElem_cons hk1,List.drop_eq_getElem_cons hk2,hd]
      congr 1;omega
     ·((repeat' first|exact rfl|((conv=>whnf);first|done|exact suL|refine And.intro ?_ ?_|fail));all_goals conv=>whnf)
      exact ceq (by rw[wrapI (by omega)];omega)
   ·have hk0:k=0:=by omega
    subst hk0
    have e:m=n:=by
     have h5:ws m=ws n:=h2
     rw[← val_ws m,h5,val_ws]
    exact LeD.of (by rw[cmpZ_eq e];rfl)
 ·have c1:¬ (((wD (ws m)).length:Nat):Int)=(((wD (ws n)).length:Nat):Int):=by rw[wa,wb];omega
  have c2:¬ (((wD (ws m)).length:Nat):Int)<(((wD (ws n)).length:Nat):Int):=by rw[wa,wb];omega
  rw[cmpZ_gt (len_lt h)]
  refine fnP_of_vc (nv:=9999) (cu:=[]) fits mixed Tryz.func186 rfl hoB rfl ?_
  ((repeat' ((conv=>whnf);first|exact .intro|refine G ?_|intro _|refine .mk ?_ ?_|refine AK ?_|refine AO ?_|fail));all_goals conv=>whnf)
  exact LeD.rfl
theorem sub_step {r:List Nat} {i c a b v w v' w' c' x:Nat} (h1:r.length=i) (h5:val r+w=v+B32 ^ i * c) (hx:x+c+b=a+B32 * c') (hv:v'=v+B32 ^ i * a) (hw:w'=w+B32 ^ i * b):val (r++[x])+w'=v'+B32 ^ (i+1) * c':=by
 have hm:B32 ^ i * (x+c+b)=B32 ^ i * (a+B32 * c'):=by rw[hx]
 rw[Nat.mul_add,Nat.mul_add,Nat.mul_add,← Nat.mul_assoc,← Nat.pow_succ] at hm
 rw[show i.succ=i+1 from rfl] at hm
 rw[val_app,h1,show val [x]=x by show x+B32 * 0=x;omega,hv,hw]
 omega
theorem shr63 (t:Nat):(t:Int).fdiv (2 ^ min (Int.toNat 63) IntKind.u64.bits)=((t / 9223372036854775808:Nat):Int):=by
 rw[show (2:Int) ^ min (Int.toNat 63) IntKind.u64.bits=9223372036854775808 from by decide,Int.fdiv_eq_ediv_of_nonneg _ (by decide)];rfl
theorem sub_word {a b c:Nat} (ha:a<B32) (hb:b<B32) (hc:c≤1):∃ t x c':Nat,IntKind.u64.wrap (IntKind.u64.wrap (IntKind.u64.wrap (a:Int) - (c:Int)) - IntKind.u64.wrap (b:Int))=(t:Int)∧IntKind.u32.wrap (t:Int)=(x:Int)∧t / 9223372036854775808=c'∧x+c+b=a+B32 * c'∧x<B32∧c'≤1:=by
 simp only[B32] at *
 rw[w64 (x:=a) (by omega),w64 (x:=b) (by omega)]
 by_cases h:c+b≤a
 ·refine ⟨a - c - b,a - c - b,0,?_,?_,by omega,by omega,by omega,by omega⟩
  ·rw[u64w,u64w];omega
  ·rw[IntKind.wrap_u32];omega
 ·refine ⟨18446744073709551616+a - c - b,4294967296+a - c - b,1,?_,?_,by omega,by omega,by omega,by omega⟩
  ·rw[u64w,u64w];omega
  ·rw[IntKind.wrap_u32];omega
theorem sub_d (m n:Nat) (hm:(ws m).length≤35184372088832) (hle:n≤m):FnP Tryz.prog gl 187 [W m,W n] (W (m - n)):=by
 have wa:=wD_len (ws m)
 have wb:=wD_len (ws n)
 have hlen:(ws n).length≤(ws m).length:=by
  rcases Nat.lt_or_ge (ws m).length (ws n).length with h|h
  ·have:=len_lt h;omega
  ·exact h
 refine fnP_of_vc (nv:=9999) (cu:=[]) fits mixed Tryz.func187 rfl hoB rfl ?_
 ((repeat' ((conv=>whnf);first|exact .intro|refine G ?_|intro _|refine .mk ?_ ?_|refine AK ?_|refine AO ?_|fail));all_goals conv=>whnf)
 refine ⟨⟨by omega,by omega,by show (4:Int) * _≤_;omega,by omega⟩,?_⟩
 ((repeat' ((conv=>whnf);first|exact .intro|refine G ?_|intro _|refine .mk ?_ ?_|refine AK ?_|refine AO ?_|fail));all_goals conv=>whnf)
 refine ⟨{ σ:=(Nat×List Nat×Nat),fr:=fun s=>[(6,.c (.d (.v (.int .u64 s.2.2)))),(7,.c (.d (iD s.1)))],ks:=[0],L:=fun s=>[(0,.rows 1 (wD (s.2.1++List.replicate ((ws m).length - s.1) 0)) 221)],ex:=0,I:=fun s=>s.2.1.length=s.1∧s.1≤(ws m).length∧(∀ d ∈ s.2.1,d<B32)∧s.2.2≤1∧val s.2.1+val ((ws n).take s.1)=val ((ws m).take s.1)+B32 ^ s.1 * s.2.2,μ:=fun s=>(ws m).length - s.1 },⟨(0,[],0),⟨rfl,Nat.zero_le _,by simp,by simp,rfl⟩,?_⟩,?_⟩
 ·((repeat' first|exact rfl|((conv=>whnf);first|done|exact suL|refine And.intro ?_ ?_|fail));all_goals conv=>whnf)
  show List.replicate (((wD (ws m)).length:Nat):Int).toNat _=wD (List.replicate (ws m).length 0)
  rw[wD_rep,Int.toNat_natCast,wa]
  rfl
 ·rintro ⟨i,r,c⟩ ⟨h1,h2,h3,h4,h5⟩
  simp only at h1 h2 h3 h4 h5
  have h0i:=Int.natCast_nonneg i
  by_cases hia:i<(ws m).length
  ·have hx:(i:Int)<(((wD (ws m)).length:Nat):Int):=by rw[wa];omega
   have hil:i<(r++List.replicate ((ws m).length - i) 0).length:=by simp;omega
   have hil':(((i:Nat):Int))<((wD (r++List.replicate ((ws m).length - i) 0)).length:Nat):=by rw[wD_len];exact Int.ofNat_lt.2 hil
   have ha:=ws_lt m _ (List.getElem_mem hia)
   have ei:IntKind.i64.wrap ((i:Int)+1)=((i+1:Nat):Int):=by rw[wrapI (by omega)];rfl
   have hrow:∀ x:Nat,(wD (r++List.replicate ((ws m).length - i) 0)).set ((i:Nat):Int).toNat [.v (.int .u32 (x:Int))]=wD (r++[x]++List.replicate ((ws m).length - (i+1)) 0):=fun x=>by
    rw[wset,show (ws m).length - i=(ws m).length - (i+1)+1 by omega,← h1,set_rep]
   by_cases hib:i<(ws n).length
   ·have hy:(i:Int)<(((wD (ws n)).length:Nat):Int):=by rw[wb];omega
    have hb:=ws_lt n _ (List.getElem_mem hib)
    obtain ⟨t,x,c',q1,q2,q3,q4,q5,q6⟩:=sub_word ha hb h4
    ((repeat' ((conv=>whnf);first|exact .intro|refine G ?_|intro _|refine .mk ?_ ?_|refine AK ?_|refine AO ?_|fail));all_goals conv=>whnf)
    refine ⟨_,wget hia,?_⟩
    ((repeat' ((conv=>whnf);first|exact .intro|refine G ?_|intro _|refine .mk ?_ ?_|refine AK ?_|refine AO ?_|fail));all_goals conv=>whnf)
    refine ⟨_,wget hib,?_⟩
    ((repeat' ((conv=>whnf);first|exact .intro|refine G ?_|intro _|refine .mk ?_ ?_|refine AK ?_|refine AO ?_|fail));all_goals conv=>whnf)
    refine ⟨⟨h0i,hil'⟩,?_⟩
    ((repeat' ((conv=>whnf);first|exact .intro|refine G ?_|intro _|refine .mk ?_ ?_|refine AK ?_|refine AO ?_|fail));all_goals conv=>whnf)
    refine ⟨_,wget hil,?_⟩
    ((repeat' ((conv=>whnf);first|exact .intro|refine G ?_|intro _|refine .mk ?_ ?_|refine AK ?_|refine AO ?_|fail));all_goals conv=>whnf)
    refine ⟨(i+1,r++[x],c'),⟨⟨by simp[h1],hia,fun d hd=>?_,q6,sub_step h1 h5 q4 (val_take_succ hia) (val_take_succ hib)⟩,by show (ws m).length - (i+1)<(ws m).length - i;omega⟩,?_⟩
    ·rcases List.mem_append.1 hd with hd|hd
     ·exact h3 d hd
     ·rw[List.mem_singleton.1 hd];exact q5
    ((repeat' first|exact rfl|((conv=>whnf);first|done|exact suL|refine And.intro ?_ ?_|fail));all_goals conv=>whnf)
    ·exact ceqK (show (IntKind.u64.wrap (IntKind.u64.wrap (IntKind.u64.wrap ((ws m)[i]:Int) - (c:Int)) - IntKind.u64.wrap ((ws n)[i]:Int))).fdiv (2 ^ min (Int.toNat 63) IntKind.u64.bits)=((c':Nat):Int) by rw[q1,shr63,q3])
    ·exact ceq ei
    ·refine Eq.trans ?_ (hrow x)
     show List.set _ _ [D.v (.int .u32 (IntKind.u32.wrap (IntKind.u64.wrap (IntKind.u64.wrap (IntKind.u64.wrap ((ws m)[i]:Int) - (c:Int)) - IntKind.u64.wrap ((ws n)[i]:Int)))))]=_
     rw[q1,q2]
   ·have hy:¬ (i:Int)<(((wD (ws n)).length:Nat):Int):=by rw[wb];omega
    obtain ⟨t,x,c',q1,q2,q3,q4,q5,q6⟩:=sub_word ha (b:=0) (by decide) h4
    have q1':IntKind.u64.wrap (IntKind.u64.wrap ((ws m)[i]:Int) - (c:Int))=(t:Int):=by
     rw[← q1,show IntKind.u64.wrap ((0:Nat):Int)=0 from rfl,Int.sub_zero,u64w (IntKind.u64.wrap (IntKind.u64.wrap _ - _)),u64w (IntKind.u64.wrap _ - _)]
     omega
    ((repeat' ((conv=>whnf);first|exact .intro|refine G ?_|intro _|refine .mk ?_ ?_|refine AK ?_|refine AO ?_|fail));all_goals conv=>whnf)
    refine ⟨_,wget hia,?_⟩
    ((repeat' ((conv=>whnf);first|exact .intro|refine G ?_|intro _|refine .mk ?_ ?_|refine AK ?_|refine AO ?_|fail));all_goals conv=>whnf)
    refine ⟨⟨h0i,hil'⟩,?_⟩
    ((repeat' ((conv=>whnf);first|exact .intro|refine G ?_|intro _|refine .mk ?_ ?_|refine AK ?_|refine AO ?_|fail));all_goals conv=>whnf)
    refine ⟨_,wget hil,?_⟩
    ((repeat' ((conv=>whnf);first|exact .intro|refine G ?_|intro _|refine .mk ?_ ?_|refine AK ?_|refine AO ?_|fail));all_goals conv=>whnf)
    refine ⟨(i+1,r++[x],c'),⟨⟨by simp[h1],hia,fun d hd=>?_,q6,sub_step h1 h5 q4 (val_take_succ hia) (by rw[val_take_ge (by omega),val_take_ge (by omega)];omega)⟩,by show (ws m).length - (i+1)<(ws m).length - i;omega⟩,?_⟩
    ·rcases List.mem_append.1 hd with hd|hd
     ·exact h3 d hd
     ·rw[List.mem_singleton.1 hd];exact q5
    ((repeat' first|exact rfl|((conv=>whnf);first|done|exact suL|refine And.intro ?_ ?_|fail));all_goals conv=>whnf)
    ·exact ceqK (show (IntKind.u64.wrap (IntKind.u64.wrap ((ws m)[i]:Int) - (c:Int))).fdiv (2 ^ min (Int.toNat 63) IntKind.u64.bits)=((c':Nat):Int) by rw[q1',shr63,q3])
    ·exact ceq ei
    ·refine Eq.trans ?_ (hrow x)
     show List.set _ _ [D.v (.int .u32 (IntKind.u32.wrap (IntKind.u64.wrap (IntKind.u64.wrap ((ws m)[i]:Int) - (c:Int)))))]=_
     rw[q1',q2]
  ·have hx:¬ (i:Int)<(((wD (ws m)).length:Nat):Int):=by rw[wa];omega
   have hi:i=(ws m).length:=by omega
   subst hi
   have hv:val r=m - n:=by
    rw[val_take_ge (Nat.le_refl _),val_take_ge hlen,val_ws,val_ws] at h5
    have h6:=val_lt h3
    rw[h1] at h6
    have h7:=Nat.mul_le_mul_left (B32 ^ (ws m).length) h4
    rcases Nat.le_one_iff_eq_zero_or_eq_one.1 h4 with h8|h8
    ·rw[h8] at h5;omega
    ·rw[h8,Nat.mul_one] at h5;omega
   have ht:=trim_d (gl:=gl) r h3 (by unfold maxLen;omega)
   rw[hv] at ht
   have ht2:FnP Tryz.prog gl 188 [.lst 1 (wD (r++List.replicate ((ws m).length - (ws m).length) 0))] (W (m - n)):=by
    rw[Nat.sub_self];simpa using ht
   ((repeat' ((conv=>whnf);first|exact .intro|refine G ?_|intro _|refine C2 ht2 ?_|refine .mk ?_ ?_|refine AK ?_|refine AO ?_|fail));all_goals conv=>whnf)
   exact LeD.rfl
end Go.Proofs.YtfkjhfdpphfjhaaGreatDoor
end
