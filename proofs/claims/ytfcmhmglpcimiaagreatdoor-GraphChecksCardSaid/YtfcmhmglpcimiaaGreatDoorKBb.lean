/- Proved: a part of what the law is proved with (the reckoner, contracts of functions, plain laws). Conditions: as each says. -/
import Derived.Test.YtfcmhmglpcimiaaGreatDoorKWa
namespace Go.Proofs.YtfcmhmglpcimiaaGreatDoor
open Go Go.EYtfcmhmglpcimiaaGreatDoor
set_option maxRecDepth 100000
section
variable {gl:List (Nat×List D)}
abbrev u32D (d:Nat):D:=.v (.int .u32 d)
def wD (l:List Nat):List (List D):=l.map fun d=>[u32D d]
abbrev W (n:Nat):D:=.lst 1 (wD (ws n))
theorem wD_len (l:List Nat):(wD l).length=l.length:=List.length_map ..
theorem wget {l:List Nat} {k:Nat} (h:k<l.length):(wD l)[((k:Nat):Int).toNat]?=some [u32D l[k]]:=by
 rw[Int.toNat_natCast];unfold wD;rw[List.getElem?_map,List.getElem?_eq_getElem h];rfl
theorem nilW_le (z:Nat):LeD (.v (.slice none 0 0)) (.lst z []):=⟨fun M w x hx=>by rw[DenD.v_inv hx];exact .lst0 z none 0 (Nat.zero_le _)⟩
theorem wD_take (l:List Nat) (n:Nat):(wD l).take n=wD (l.take n):=(List.map_take ..).symm
theorem trim_d (l:List Nat) (hb:∀ d ∈ l,d<B32) (hl:l.length≤maxLen):FnP Tryz.prog gl 147 [.lst 1 (wD l)] (.lst 1 (wD (ws (val l)))):=by
 refine S0 Tryz.func147 rfl ?_
 ((repeat' ((conv=>whnf);first|exact .intro|refine G ?_|intro _|refine .mk ?_ ?_|refine AK ?_|refine AO ?_|fail));all_goals conv=>whnf)
 refine ⟨{ σ:=Nat,fr:=fun n=>[(3,.c (.d (iD n)))],ks:=[],L:=fun _=>[],ex:=0,I:=fun n=>n≤l.length∧l.drop n=List.replicate (l.length - n) 0,μ:=fun n=>n },⟨l.length,⟨Nat.le_refl _,by simp⟩,?_⟩,fun (n:Nat) hn=>?_⟩
 ·((repeat' first|exact rfl|((conv=>whnf);first|done|exact suL|refine And.intro ?_ ?_|fail));all_goals conv=>whnf)
  exact ceq (by rw[wD_len])
 ·obtain ⟨hn1,hn2⟩:=hn
  unfold maxLen at hl
  have fin:(∀ d,(l.take n).getLast?=some d→d≠0)→ws (val l)=l.take n:=ws_trim n hn1 hb hn2
  have hle:0≤(n:Int)∧(n:Int)≤((wD l).length:Nat):=by rw[wD_len];omega
  ((repeat' ((conv=>whnf);first|exact .intro|refine G ?_|intro _|refine .mk ?_ ?_|refine AK ?_|refine AO ?_|fail));all_goals conv=>whnf)
  ·have hlt:n - 1<l.length:=by omega
   rw[show IntKind.i64.wrap ((n:Int) - 1)=((n - 1:Nat):Int) by rw[wrapI (by omega)];omega]
   refine ⟨Int.natCast_nonneg _,_,wget hlt,?_⟩
   ((repeat' ((conv=>whnf);first|exact .intro|refine G ?_|intro _|refine .mk ?_ ?_|refine AK ?_|refine AO ?_|fail));all_goals conv=>whnf)
   ·rename_i h0
    refine ⟨n - 1,⟨⟨by omega,?_⟩,by show n - 1<n;omega⟩,?_⟩
    ·rw[List.drop_eq_getElem_cons hlt,show n - 1+1=n by omega,hn2,show l[n - 1]=0 by omega,← List.replicate_succ,show l.length - n+1=l.length - (n - 1) by omega]
    ·((repeat' first|exact rfl|((conv=>whnf);first|done|exact suL|refine And.intro ?_ ?_|fail));all_goals conv=>whnf)
     exact ceq (by rw[wrapI (by omega)];omega)
   ·rename_i h0
    refine ⟨⟨Int.le_refl _,hle⟩,?_⟩
    ((repeat' ((conv=>whnf);first|exact .intro|refine G ?_|intro _|refine .mk ?_ ?_|refine AK ?_|refine And.intro (by first|(fail;done)|fail) ?_|fail));all_goals conv=>whnf)
    refine LeD.of (congrArg (D.lst 1) ?_)
    rw[fin fun d hd=>?_,← wD_take]
    ·simp
    ·rw[show n=n - 1+1 by omega,List.take_succ_eq_append_getElem hlt,List.getLast?_append] at hd
     have hd':l[n - 1]=d:=Option.some.inj hd
     omega
  ·have hn0:n=0:=by omega
   refine ⟨⟨Int.le_refl _,hle⟩,?_⟩
   ((repeat' ((conv=>whnf);first|exact .intro|refine G ?_|intro _|refine .mk ?_ ?_|refine AK ?_|refine And.intro (by first|(fail;done)|fail) ?_|fail));all_goals conv=>whnf)
   refine LeD.of (congrArg (D.lst 1) ?_)
   rw[fin fun d hd=>?_,← wD_take]
   ·simp
   ·rw[hn0] at hd;cases hd
theorem words_d (x:Nat) (h:x<18446744073709551616):FnP Tryz.prog gl 148 [.v (.int .u64 x)] (W x):=by
 have e1:IntKind.u32.wrap (x:Int)=((x % B32:Nat):Int):=by rw[IntKind.wrap_u32];simp
 have e2:IntKind.u32.wrap ((x:Int).fdiv (2 ^ min (Int.toNat 32) IntKind.u64.bits))=((x / B32:Nat):Int):=by
  rw[show (2:Int) ^ min (Int.toNat 32) IntKind.u64.bits=4294967296 from by decide,Int.fdiv_eq_ediv_of_nonneg _ (by decide),IntKind.wrap_u32]
  simp only[B32];omega
 have ht:=trim_d (gl:=gl) [x % B32,x / B32] (by
  intro d hd
  simp only[List.mem_cons,List.not_mem_nil,or_false] at hd
  rcases hd with rfl|rfl
  ·exact Nat.mod_lt _ (by decide)
  ·simp only[B32];omega) (by unfold maxLen;simp)
 refine S0 Tryz.func148 rfl ?_
 ((repeat' ((conv=>whnf);first|exact .intro|refine G ?_|intro _|refine C2 ht ?_|(rw[e1,e2])|refine .mk ?_ ?_|refine AK ?_|refine AO ?_|fail));all_goals conv=>whnf)
 refine LeD.of ?_
 rw[show val [x % B32,x / B32]=x by show x % B32+B32 * (x / B32+B32 * 0)=x;rw[Nat.mul_zero,Nat.add_zero];exact Nat.mod_add_div x B32]
 rfl
def blen (n:Nat):Nat:=if n=0 then 0 else n.log2+1
theorem blen_of {n k:Nat} (h1:2 ^ k≤n) (h2:n<2 ^ (k+1)):blen n=k+1:=by
 have hn:n≠0:=by have:=Nat.two_pow_pos k;omega
 unfold blen
 rw[if_neg hn]
 have a:=(Nat.log2_lt hn).2 h2
 have b:=(Nat.le_log2 hn).2 h1
 omega
theorem blen_le {n k:Nat}:blen n≤k↔n<2 ^ k:=by
 unfold blen
 split
 ·subst n;simp[Nat.two_pow_pos]
 ·rename_i h;rw[← Nat.log2_lt h];omega
theorem top_le {n k:Nat} (h:(ws n).length=k+1):B32 ^ k * (ws n)[k]≤n∧n<B32 ^ k * ((ws n)[k]+1)∧(ws n)[k]≠0∧(ws n)[k]<B32:=by
 have hk:k<(ws n).length:=by omega
 have e:ws n=(ws n).take k++[(ws n)[k]]:=by
  conv=>lhs;rw[← List.take_length (l:=ws n),h,List.take_succ_eq_append_getElem hk]
 have hv:val ((ws n).take k)+B32 ^ k * (ws n)[k]=n:=by
  have:=val_ws n
  rw[e,val_app,List.length_take,Nat.min_eq_left (by omega)] at this
  simpa[val] using this
 have hlt:val ((ws n).take k)<B32 ^ k:=by
  have:=val_lt (l:=(ws n).take k) fun d hd=>ws_lt n d (List.mem_of_mem_take hd)
  rwa [List.length_take,Nat.min_eq_left (by omega)] at this
 refine ⟨by omega,by rw[Nat.mul_add,Nat.mul_one];omega,?_,ws_lt n _ (List.getElem_mem hk)⟩
 refine ws_last (n:=n) ?_
 rw[List.getLast?_eq_getElem?,show (ws n).length - 1=k by omega]
 exact List.getElem?_eq_getElem hk
theorem shr1 (a:Nat):(a:Int).fdiv (2 ^ min (Int.toNat 1) IntKind.u32.bits)=((a / 2:Nat):Int):=by
 rw[show (2:Int) ^ min (Int.toNat 1) IntKind.u32.bits=2 from by decide,Int.fdiv_eq_ediv_of_nonneg _ (by decide)];rfl
theorem ceqK {k:IntKind} {x y:Int} (h:x=y) {P:Prop}:C.d (.v (.int k y))=C.junk∨C.d (.v (.int k x))=C.d (.v (.int k y))∨P:=.inr (.inl (by rw[h]))
theorem length_d (n:Nat) (hn:(ws n).length≤35184372088832):FnP Tryz.prog gl 152 [W n] (iD (blen n)):=by
 have hwl:=wD_len (ws n)
 rcases hk:(ws n).length with _|k
 ·have h0:(((wD (ws n)).length:Nat):Int)=0:=by rw[hwl,hk];rfl
  have hn0:n=0:=ws_nil.1 (List.eq_nil_of_length_eq_zero hk)
  refine S0 Tryz.func152 rfl ?_
  ((repeat' ((conv=>whnf);first|exact .intro|refine G ?_|intro _|refine .mk ?_ ?_|refine AK ?_|refine AO ?_|fail));all_goals conv=>whnf)
  subst hn0
  exact LeD.of rfl
 ·have h0:¬ (((wD (ws n)).length:Nat):Int)=0:=by rw[hwl,hk];omega
  have e1:IntKind.i64.wrap ((((wD (ws n)).length:Nat):Int) - 1)=(k:Int):=by rw[hwl,hk,wrapI (by omega)];omega
  have hkl:k<(ws n).length:=by omega
  obtain ⟨t1,t2,t3,t4⟩:=top_le hk
  refine S0 Tryz.func152 rfl ?_
  ((repeat' ((conv=>whnf);first|exact .intro|refine G ?_|intro _|(rw[e1])|refine .mk ?_ ?_|refine AK ?_|refine AO ?_|fail));all_goals conv=>whnf)
  refine ⟨_,wget hkl,?_⟩
  generalize (ws n)[k]=t at *
  ((repeat' ((conv=>whnf);first|exact .intro|refine G ?_|intro _|refine .mk ?_ ?_|refine AK ?_|refine AO ?_|fail));all_goals conv=>whnf)
  refine ⟨{ σ:=Nat,fr:=fun j=>[(3,.c (.d (iD j))),(4,.c (.d (u32D (t >>> j))))],ks:=[],L:=fun _=>[],ex:=0,I:=fun j=>j≤32∧(j=0∨t >>> (j - 1)≠0),μ:=fun j=>33 - j },⟨0,⟨Nat.zero_le _,.inl rfl⟩,?_⟩,fun (j:Nat) hj=>?_⟩
  ·((repeat' first|exact rfl|((conv=>whnf);first|done|exact suL|refine And.intro ?_ ?_|fail));all_goals conv=>whnf)
  ·obtain ⟨hj1,hj2⟩:=hj
   ((repeat' ((conv=>whnf);first|exact .intro|refine G ?_|intro _|refine .mk ?_ ?_|refine AK ?_|refine AO ?_|fail));all_goals conv=>whnf)
   ·rename_i hx
    have hj:j<32:=by
     rcases Nat.lt_or_ge j 32 with h|h
     ·exact h
     ·exfalso
      have:t >>> j=0:=by
       rw[Nat.shiftRight_eq_div_pow]
       exact Nat.div_eq_of_lt (Nat.lt_of_lt_of_le t4 (Nat.pow_le_pow_right (n:=2) (by decide) h))
      omega
    refine ⟨j+1,⟨⟨hj,.inr ?_⟩,by show 33 - (j+1)<33 - j;omega⟩,?_⟩
    ·rw[Nat.add_sub_cancel];omega
    ·((repeat' first|exact rfl|((conv=>whnf);first|done|exact suL|refine And.intro ?_ ?_|fail));all_goals conv=>whnf)
     ·exact ceq (by rw[wrapI (by omega)];rfl)
     ·exact ceqK (by rw[shr1,Nat.shiftRight_succ])
   ·rename_i hx
    have hz:t >>> j=0:=by omega
    rcases j with _|i
    ·exact absurd hz t3
    ·have h1:2 ^ i≤t:=by
      rcases hj2 with h|h
      ·omega
      ·rw[Nat.add_sub_cancel,Nat.shiftRight_eq_div_pow] at h
       rcases Nat.lt_or_ge t (2 ^ i) with h'|h'
       ·exact absurd (Nat.div_eq_of_lt h') h
       ·exact h'
     have h2:t<2 ^ (i+1):=by
      rw[Nat.shiftRight_eq_div_pow] at hz
      exact (Nat.div_eq_zero_iff_lt (Nat.two_pow_pos _)).1 hz
     have hB:B32 ^ k=2 ^ (32 * k):=by rw[Nat.pow_mul]
     have hbl:blen n=32 * k+i+1:=by
      refine blen_of ?_ ?_
      ·rw[Nat.pow_add,← hB];exact Nat.le_trans (Nat.mul_le_mul_left _ h1) t1
      ·rw[Nat.add_assoc,Nat.pow_add,← hB];exact Nat.lt_of_lt_of_le t2 (Nat.mul_le_mul_left _ h2)
     refine LeD.of (congrArg iD ?_)
     rw[e1,wrapI (n:=(k:Int) * 32) (by omega),wrapI (by omega),hbl]
     omega
end
section
variable {gl:List (Nat×List D)}
theorem val_take_succ {l:List Nat} {i:Nat} (h:i<l.length):val (l.take (i+1))=val (l.take i)+B32 ^ i * l[i]:=by
 rw[List.take_succ_eq_append_getElem h,val_app,List.length_take,Nat.min_eq_left (by omega)]
 simp[val]
theorem val_take_ge {l:List Nat} {i:Nat} (h:l.length≤i):val (l.take i)=val l:=by rw[List.take_of_length_le h]
theorem wD_rep (k:Nat):wD (List.replicate k 0)=List.replicate k [u32D 0]:=List.map_replicate ..
theorem wset (l:List Nat) (i x:Nat):(wD l).set ((i:Nat):Int).toNat [.v (.int .u32 (x:Int))]=wD (l.set i x):=by
 rw[Int.toNat_natCast];exact (List.map_set ..).symm
theorem set_rep {r:List Nat} {k:Nat} (x:Nat):(r++List.replicate (k+1) 0).set r.length x=(r++[x])++List.replicate k 0:=by
 rw[List.set_append_right _ _ (Nat.le_refl _),Nat.sub_self,List.replicate_succ,List.set_cons_zero,List.append_assoc];rfl
theorem lo32 {x:Nat}:IntKind.u32.wrap (x:Int)=((x % B32:Nat):Int):=by rw[IntKind.wrap_u32];simp
theorem hi32 {x:Nat}:(x:Int).fdiv (2 ^ min (Int.toNat 32) IntKind.u64.bits)=((x / B32:Nat):Int):=by
 rw[show (2:Int) ^ min (Int.toNat 32) IntKind.u64.bits=4294967296 from by decide,Int.fdiv_eq_ediv_of_nonneg _ (by decide)];rfl
theorem w64 {x:Nat} (h:x<18446744073709551616):IntKind.u64.wrap (x:Int)=x:=IntWalk.u64_in _ (by omega)
theorem add_step {r:List Nat} {i c t a b v w v' w':Nat} (h1:r.length=i) (h5:val r+B32 ^ i * c=v+w) (ht:t=c+a+b) (hv:v'=v+B32 ^ i * a) (hw:w'=w+B32 ^ i * b):val (r++[t % B32])+B32 ^ (i+1) * (t / B32)=v'+w':=by
 rw[val_app,h1,show val [t % B32]=t % B32 by show t % B32+B32 * 0=_;omega,Nat.pow_succ,Nat.mul_assoc,Nat.add_assoc,← Nat.mul_add,Nat.mod_add_div,ht,hv,hw,Nat.mul_add,Nat.mul_add]
 omega
theorem dig_app {r:List Nat} {t:Nat} (h:∀ d ∈ r,d<B32):∀ d ∈ r++[t % B32],d<B32:=by
 intro d hd
 rcases List.mem_append.1 hd with hd|hd
 ·exact h d hd
 ·rw[List.mem_singleton.1 hd];exact Nat.mod_lt _ (by decide)
theorem add_ge (m n:Nat) (hm:(ws m).length≤35184372088832) (hle:(ws n).length≤(ws m).length):FnP Tryz.prog gl 149 [W m,W n] (W (m+n)):=by
 have wa:=wD_len (ws m)
 have wb:=wD_len (ws n)
 have e1:IntKind.i64.wrap ((((wD (ws m)).length:Nat):Int)+1)=(((ws m).length+1:Nat):Int):=by rw[wa,wrapI (by omega)];omega
 have hlt:¬ ((((wD (ws m)).length:Nat):Int)<(((wD (ws n)).length:Nat):Int)):=by rw[wa,wb];omega
 refine S0 Tryz.func149 rfl ?_
 ((repeat' ((conv=>whnf);first|exact .intro|refine G ?_|intro _|(rw[e1])|refine .mk ?_ ?_|refine AK ?_|refine AO ?_|fail));all_goals conv=>whnf)
 refine ⟨⟨by omega,by omega,by show (4:Int) * _≤_;omega,by omega⟩,?_⟩
 ((repeat' ((conv=>whnf);first|exact .intro|refine G ?_|intro _|refine .mk ?_ ?_|refine AK ?_|refine AO ?_|fail));all_goals conv=>whnf)
 refine ⟨{ σ:=(Nat×List Nat×Nat),fr:=fun s=>[(6,.c (.d (.v (.int .u64 s.2.2)))),(7,.c (.d (iD s.1)))],ks:=[0],L:=fun s=>[(0,.rows 1 (wD (s.2.1++List.replicate ((ws m).length+1 - s.1) 0)) 194)],ex:=0,I:=fun s=>s.2.1.length=s.1∧s.1≤(ws m).length∧(∀ d ∈ s.2.1,d<B32)∧s.2.2≤1∧val s.2.1+B32 ^ s.1 * s.2.2=val ((ws m).take s.1)+val ((ws n).take s.1),μ:=fun s=>(ws m).length - s.1 },⟨(0,[],0),⟨rfl,Nat.zero_le _,by simp,by simp,rfl⟩,?_⟩,?_⟩
 ·((repeat' first|exact rfl|((conv=>whnf);first|done|exact suL|refine And.intro ?_ ?_|fail));all_goals conv=>whnf)
  show List.replicate (((ws m).length+1:Nat):Int).toNat _=wD (List.replicate ((ws m).length+1) 0)
  rw[wD_rep,Int.toNat_natCast]
  rfl
 ·rintro ⟨i,r,c⟩ ⟨h1,h2,h3,h4,h5⟩
  simp only at h1 h2 h3 h4 h5
  have hil:i<(r++List.replicate ((ws m).length+1 - i) 0).length:=by simp;omega
  have hil':(((i:Nat):Int))<((wD (r++List.replicate ((ws m).length+1 - i) 0)).length:Nat):=by rw[wD_len];exact Int.ofNat_lt.2 hil
  have h0i:=Int.natCast_nonneg i
  ((repeat' ((conv=>whnf);first|exact .intro|refine G ?_|intro _|refine .mk ?_ ?_|refine AK ?_|refine AO ?_|fail));all_goals conv=>whnf)
  ·rename_i hx
   have hia:i<(ws m).length:=by rw[wa] at hx;exact Int.ofNat_lt.1 hx
   have ha:=ws_lt m _ (List.getElem_mem hia)
   refine ⟨_,wget hia,?_⟩
   have ei:IntKind.i64.wrap ((i:Int)+1)=((i+1:Nat):Int):=by rw[wrapI (by omega)];rfl
   have hrow:∀ x:Nat,(wD (r++List.replicate ((ws m).length+1 - i) 0)).set ((i:Nat):Int).toNat [.v (.int .u32 (x:Int))]=wD (r++[x]++List.replicate ((ws m).length+1 - (i+1)) 0):=fun x=>by
    rw[wset,show (ws m).length+1 - i=(ws m).length+1 - (i+1)+1 by omega,← h1,set_rep]
   ((repeat' ((conv=>whnf);first|exact .intro|refine G ?_|intro _|refine .mk ?_ ?_|refine AK ?_|refine AO ?_|fail));all_goals conv=>whnf)
   ·rename_i hy
    have hib:i<(ws n).length:=by rw[wb] at hy;exact Int.ofNat_lt.1 hy
    have hb:=ws_lt n _ (List.getElem_mem hib)
    refine ⟨_,wget hib,?_⟩
    ((repeat' ((conv=>whnf);first|exact .intro|refine G ?_|intro _|refine .mk ?_ ?_|refine AK ?_|refine AO ?_|fail));all_goals conv=>whnf)
    refine ⟨⟨h0i,hil'⟩,?_⟩
    ((repeat' ((conv=>whnf);first|exact .intro|refine G ?_|intro _|refine .mk ?_ ?_|refine AK ?_|refine AO ?_|fail));all_goals conv=>whnf)
    refine ⟨_,wget hil,?_⟩
    ((repeat' ((conv=>whnf);first|exact .intro|refine G ?_|intro _|refine .mk ?_ ?_|refine AK ?_|refine AO ?_|fail));all_goals conv=>whnf)
    obtain ⟨t,ht⟩:∃ t,t=c+(ws m)[i]+(ws n)[i]:=⟨_,rfl⟩
    have et:IntKind.u64.wrap (IntKind.u64.wrap ((c:Int)+IntKind.u64.wrap ((ws m)[i]:Int))+IntKind.u64.wrap ((ws n)[i]:Int))=(t:Int):=by
     simp only[B32] at ha hb
     rw[w64 (x:=(ws m)[i]) (by omega),w64 (x:=(ws n)[i]) (by omega),IntWalk.u64_in ((c:Int)+((ws m)[i]:Nat)) (by omega),IntWalk.u64_in _ (by omega),ht];omega
    refine ⟨(i+1,r++[t % B32],t / B32),⟨⟨by simp[h1],hia,dig_app h3,by simp only[B32] at *;omega,add_step h1 h5 ht (val_take_succ hia) (val_take_succ hib)⟩,by show (ws m).length - (i+1)<(ws m).length - i;omega⟩,?_⟩
    ((repeat' first|exact rfl|((conv=>whnf);first|done|exact suL|refine And.intro ?_ ?_|fail));all_goals conv=>whnf)
    ·exact ceqK (show (IntKind.u64.wrap (IntKind.u64.wrap ((c:Int)+IntKind.u64.wrap ((ws m)[i]:Int))+IntKind.u64.wrap ((ws n)[i]:Int))).fdiv (2 ^ min (Int.toNat 32) IntKind.u64.bits)=((t / B32:Nat):Int) by rw[et,hi32])
    ·exact ceq ei
    ·refine Eq.trans ?_ (hrow (t % B32))
     show List.set _ _ [D.v (.int .u32 (IntKind.u32.wrap (IntKind.u64.wrap (IntKind.u64.wrap ((c:Int)+IntKind.u64.wrap ((ws m)[i]:Int))+IntKind.u64.wrap ((ws n)[i]:Int)))))]=_
     rw[et,lo32]
   ·rename_i hy
    have hib:(ws n).length≤i:=by rw[wb] at hy;exact Nat.le_of_not_lt fun h=>hy (Int.ofNat_lt.2 h)
    refine ⟨⟨h0i,hil'⟩,?_⟩
    ((repeat' ((conv=>whnf);first|exact .intro|refine G ?_|intro _|refine .mk ?_ ?_|refine AK ?_|refine AO ?_|fail));all_goals conv=>whnf)
    refine ⟨_,wget hil,?_⟩
    ((repeat' ((conv=>whnf);first|exact .intro|refine G ?_|intro _|refine .mk ?_ ?_|refine AK ?_|refine AO ?_|fail));all_goals conv=>whnf)
    obtain ⟨t,ht⟩:∃ t,t=c+(ws m)[i]+0:=⟨_,rfl⟩
    have et:IntKind.u64.wrap ((c:Int)+IntKind.u64.wrap ((ws m)[i]:Int))=(t:Int):=by
     simp only[B32] at ha
     rw[w64 (by omega),IntWalk.u64_in (_+_) (by omega),ht];omega
    refine ⟨(i+1,r++[t % B32],t / B32),⟨⟨by simp[h1],hia,dig_app h3,by simp only[B32] at *;omega,add_step h1 h5 ht (val_take_succ hia) (by rw[val_take_ge hib,val_take_ge (by omega)];omega)⟩,by show (ws m).length - (i+1)<(ws m).length - i;omega⟩,?_⟩
    ((repeat' first|exact rfl|((conv=>whnf);first|done|exact suL|refine And.intro ?_ ?_|fail));all_goals conv=>whnf)
    ·exact ceqK (show (IntKind.u64.wrap ((c:Int)+IntKind.u64.wrap ((ws m)[i]:Int))).fdiv (2 ^ min (Int.toNat 32) IntKind.u64.bits)=((t / B32:Nat):Int) by rw[et,hi32])
    ·exact ceq ei
    ·refine Eq.trans ?_ (hrow (t % B32))
     show List.set _ _ [D.v (.int .u32 (IntKind.u32.wrap (IntKind.u64.wrap ((c:Int)+IntKind.u64.wrap ((ws m)[i]:Int)))))]=_
     rw[et,lo32]
  ·rename_i hx
   have hi:i=(ws m).length:=by rw[wa] at hx;exact Nat.le_antisymm h2 (Nat.le_of_not_lt fun h=>hx (Int.ofNat_lt.2 h))
   subst hi
   refine ⟨⟨Int.natCast_nonneg _,by rw[wa];exact hil'⟩,?_⟩
   ((repeat' ((conv=>whnf);first|exact .intro|refine G ?_|intro _|refine .mk ?_ ?_|refine AK ?_|refine AO ?_|fail));all_goals conv=>whnf)
   have hil2:(wD (ws m)).length<(r++List.replicate ((ws m).length+1 - (ws m).length) 0).length:=by rw[wa];exact hil
   refine ⟨_,wget hil2,?_⟩
   have hl:(r++List.replicate ((ws m).length+1 - (ws m).length) 0).set (ws m).length c=r++[c]:=by
    rw[show (ws m).length+1 - (ws m).length=0+1 by omega,← h1,set_rep];simp
   have hlow:IntKind.u32.wrap (c:Int)=(c:Int):=IntWalk.u32_in _ (by omega)
   have ht:=trim_d (gl:=gl) (r++[c]) (fun d hd=>by
    rcases List.mem_append.1 hd with hd|hd
    ·exact h3 d hd
    ·rw[List.mem_singleton.1 hd];simp only[B32];omega) (by simp[h1];unfold maxLen;omega)
   have hv:val (r++[c])=m+n:=by
    rw[val_app,h1,show val [c]=c by show c+B32 * 0=c;omega,h5,val_take_ge (Nat.le_refl _),val_take_ge (by omega),val_ws,val_ws]
   rw[hv,← hl,← wset] at ht
   have ht2:FnP Tryz.prog gl 147 [.lst 1 ((wD (r++List.replicate ((ws m).length+1 - (ws m).length) 0)).set ((((wD (ws m)).length:Nat):Int)).toNat [.v (.int .u32 (IntKind.u32.wrap (c:Int)))])] (W (m+n)):=by
    rw[hlow,wa];exact ht
   ((repeat' ((conv=>whnf);first|exact .intro|refine G ?_|intro _|refine C2 ht2 ?_|refine .mk ?_ ?_|refine AK ?_|refine AO ?_|fail));all_goals conv=>whnf)
   exact LeD.rfl
theorem add_lt (m n:Nat) (hm:(ws m).length≤35184372088832) (hlt':(ws n).length<(ws m).length):FnP Tryz.prog gl 149 [W n,W m] (W (m+n)):=by
 have hle:(ws n).length≤(ws m).length:=by omega
 have wa:=wD_len (ws m)
 have wb:=wD_len (ws n)
 have e1:IntKind.i64.wrap ((((wD (ws m)).length:Nat):Int)+1)=(((ws m).length+1:Nat):Int):=by rw[wa,wrapI (by omega)];omega
 have hlt:(((wD (ws n)).length:Nat):Int)<(((wD (ws m)).length:Nat):Int):=by rw[wa,wb];omega
 refine S0 Tryz.func149 rfl ?_
 ((repeat' ((conv=>whnf);first|exact .intro|refine G ?_|intro _|(rw[e1])|refine .mk ?_ ?_|refine AK ?_|refine AO ?_|fail));all_goals conv=>whnf)
 refine ⟨⟨by omega,by omega,by show (4:Int) * _≤_;omega,by omega⟩,?_⟩
 ((repeat' ((conv=>whnf);first|exact .intro|refine G ?_|intro _|refine .mk ?_ ?_|refine AK ?_|refine AO ?_|fail));all_goals conv=>whnf)
 refine ⟨{ σ:=(Nat×List Nat×Nat),fr:=fun s=>[(6,.c (.d (.v (.int .u64 s.2.2)))),(7,.c (.d (iD s.1)))],ks:=[0],L:=fun s=>[(0,.rows 1 (wD (s.2.1++List.replicate ((ws m).length+1 - s.1) 0)) 194)],ex:=0,I:=fun s=>s.2.1.length=s.1∧s.1≤(ws m).length∧(∀ d ∈ s.2.1,d<B32)∧s.2.2≤1∧val s.2.1+B32 ^ s.1 * s.2.2=val ((ws m).take s.1)+val ((ws n).take s.1),μ:=fun s=>(ws m).length - s.1 },⟨(0,[],0),⟨rfl,Nat.zero_le _,by simp,by simp,rfl⟩,?_⟩,?_⟩
 ·((repeat' first|exact rfl|((conv=>whnf);first|done|exact suL|refine And.intro ?_ ?_|fail));all_goals conv=>whnf)
  show List.replicate (((ws m).length+1:Nat):Int).toNat _=wD (List.replicate ((ws m).length+1) 0)
  rw[wD_rep,Int.toNat_natCast]
  rfl
 ·rintro ⟨i,r,c⟩ ⟨h1,h2,h3,h4,h5⟩
  simp only at h1 h2 h3 h4 h5
  have hil:i<(r++List.replicate ((ws m).length+1 - i) 0).length:=by simp;omega
  have hil':(((i:Nat):Int))<((wD (r++List.replicate ((ws m).length+1 - i) 0)).length:Nat):=by rw[wD_len];exact Int.ofNat_lt.2 hil
  have h0i:=Int.natCast_nonneg i
  ((repeat' ((conv=>whnf);first|exact .intro|refine G ?_|intro _|refine .mk ?_ ?_|refine AK ?_|refine AO ?_|fail));all_goals conv=>whnf)
  ·rename_i hx
   have hia:i<(ws m).length:=by rw[wa] at hx;exact Int.ofNat_lt.1 hx
   have ha:=ws_lt m _ (List.getElem_mem hia)
   refine ⟨_,wget hia,?_⟩
   have ei:IntKind.i64.wrap ((i:Int)+1)=((i+1:Nat):Int):=by rw[wrapI (by omega)];rfl
   have hrow:∀ x:Nat,(wD (r++List.replicate ((ws m).length+1 - i) 0)).set ((i:Nat):Int).toNat [.v (.int .u32 (x:Int))]=wD (r++[x]++List.replicate ((ws m).length+1 - (i+1)) 0):=fun x=>by
    rw[wset,show (ws m).length+1 - i=(ws m).length+1 - (i+1)+1 by omega,← h1,set_rep]
   ((repeat' ((conv=>whnf);first|exact .intro|refine G ?_|intro _|refine .mk ?_ ?_|refine AK ?_|refine AO ?_|fail));all_goals conv=>whnf)
   ·rename_i hy
    have hib:i<(ws n).length:=by rw[wb] at hy;exact Int.ofNat_lt.1 hy
    have hb:=ws_lt n _ (List.getElem_mem hib)
    refine ⟨_,wget hib,?_⟩
    ((repeat' ((conv=>whnf);first|exact .intro|refine G ?_|intro _|refine .mk ?_ ?_|refine AK ?_|refine AO ?_|fail));all_goals conv=>whnf)
    refine ⟨⟨h0i,hil'⟩,?_⟩
    ((repeat' ((conv=>whnf);first|exact .intro|refine G ?_|intro _|refine .mk ?_ ?_|refine AK ?_|refine AO ?_|fail));all_goals conv=>whnf)
    refine ⟨_,wget hil,?_⟩
    ((repeat' ((conv=>whnf);first|exact .intro|refine G ?_|intro _|refine .mk ?_ ?_|refine AK ?_|refine AO ?_|fail));all_goals conv=>whnf)
    obtain ⟨t,ht⟩:∃ t,t=c+(ws m)[i]+(ws n)[i]:=⟨_,rfl⟩
    have et:IntKind.u64.wrap (IntKind.u64.wrap ((c:Int)+IntKind.u64.wrap ((ws m)[i]:Int))+IntKind.u64.wrap ((ws n)[i]:Int))=(t:Int):=by
     simp only[B32] at ha hb
     rw[w64 (x:=(ws m)[i]) (by omega),w64 (x:=(ws n)[i]) (by omega),IntWalk.u64_in ((c:Int)+((ws m)[i]:Nat)) (by omega),IntWalk.u64_in _ (by omega),ht];omega
    refine ⟨(i+1,r++[t % B32],t / B32),⟨⟨by simp[h1],hia,dig_app h3,by simp only[B32] at *;omega,add_step h1 h5 ht (val_take_succ hia) (val_take_succ hib)⟩,by show (ws m).length - (i+1)<(ws m).length - i;omega⟩,?_⟩
    ((repeat' first|exact rfl|((conv=>whnf);first|done|exact suL|refine And.intro ?_ ?_|fail));all_goals conv=>whnf)
    ·exact ceqK (show (IntKind.u64.wrap (IntKind.u64.wrap ((c:Int)+IntKind.u64.wrap ((ws m)[i]:Int))+IntKind.u64.wrap ((ws n)[i]:Int))).fdiv (2 ^ min (Int.toNat 32) IntKind.u64.bits)=((t / B32:Nat):Int) by rw[et,hi32])
    ·exact ceq ei
    ·refine Eq.trans ?_ (hrow (t % B32))
     show List.set _ _ [D.v (.int .u32 (IntKind.u32.wrap (IntKind.u64.wrap (IntKind.u64.wrap ((c:Int)+IntKind.u64.wrap ((ws m)[i]:Int))+IntKind.u64.wrap ((ws n)[i]:Int)))))]=_
     rw[et,lo32]
   ·rename_i hy
    have hib:(ws n).length≤i:=by rw[wb] at hy;exact Nat.le_of_not_lt fun h=>hy (Int.ofNat_lt.2 h)
    refine ⟨⟨h0i,hil'⟩,?_⟩
    ((repeat' ((conv=>whnf);first|exact .intro|refine G ?_|intro _|refine .mk ?_ ?_|refine AK ?_|refine AO ?_|fail));all_goals conv=>whnf)
    refine ⟨_,wget hil,?_⟩
    ((repeat' ((conv=>whnf);first|exact .intro|refine G ?_|intro _|refine .mk ?_ ?_|refine AK ?_|refine AO ?_|fail));all_goals conv=>whnf)
    obtain ⟨t,ht⟩:∃ t,t=c+(ws m)[i]+0:=⟨_,rfl⟩
    have et:IntKind.u64.wrap ((c:Int)+IntKind.u64.wrap ((ws m)[i]:Int))=(t:Int):=by
     simp only[B32] at ha
     rw[w64 (by omega),IntWalk.u64_in (_+_) (by omega),ht];omega
    refine ⟨(i+1,r++[t % B32],t / B32),⟨⟨by simp[h1],hia,dig_app h3,by simp only[B32] at *;omega,add_step h1 h5 ht (val_take_succ hia) (by rw[val_take_ge hib,val_take_ge (by omega)];omega)⟩,by show (ws m).length - (i+1)<(ws m).length - i;omega⟩,?_⟩
    ((repeat' first|exact rfl|((conv=>whnf);first|done|exact suL|refine And.intro ?_ ?_|fail));all_goals conv=>whnf)
    ·exact ceqK (show (IntKind.u64.wrap ((c:Int)+IntKind.u64.wrap ((ws m)[i]:Int))).fdiv (2 ^ min (Int.toNat 32) IntKind.u64.bits)=((t / B32:Nat):Int) by rw[et,hi32])
    ·exact ceq ei
    ·refine Eq.trans ?_ (hrow (t % B32))
     show List.set _ _ [D.v (.int .u32 (IntKind.u32.wrap (IntKind.u64.wrap ((c:Int)+IntKind.u64.wrap ((ws m)[i]:Int)))))]=_
     rw[et,lo32]
  ·rename_i hx
   have hi:i=(ws m).length:=by rw[wa] at hx;exact Nat.le_antisymm h2 (Nat.le_of_not_lt fun h=>hx (Int.ofNat_lt.2 h))
   subst hi
   refine ⟨⟨Int.natCast_nonneg _,by rw[wa];exact hil'⟩,?_⟩
   ((repeat' ((conv=>whnf);first|exact .intro|refine G ?_|intro _|refine .mk ?_ ?_|refine AK ?_|refine AO ?_|fail));all_goals conv=>whnf)
   have hil2:(wD (ws m)).length<(r++List.replicate ((ws m).length+1 - (ws m).length) 0).length:=by rw[wa];exact hil
   refine ⟨_,wget hil2,?_⟩
   have hl:(r++List.replicate ((ws m).length+1 - (ws m).length) 0).set (ws m).length c=r++[c]:=by
    rw[show (ws m).length+1 - (ws m).length=0+1 by omega,← h1,set_rep];simp
   have hlow:IntKind.u32.wrap (c:Int)=(c:Int):=IntWalk.u32_in _ (by omega)
   have ht:=trim_d (gl:=gl) (r++[c]) (fun d hd=>by
    rcases List.mem_append.1 hd with hd|hd
    ·exact h3 d hd
    ·rw[List.mem_singleton.1 hd];simp only[B32];omega) (by simp[h1];unfold maxLen;omega)
   have hv:val (r++[c])=m+n:=by
    rw[val_app,h1,show val [c]=c by show c+B32 * 0=c;omega,h5,val_take_ge (Nat.le_refl _),val_take_ge (by omega),val_ws,val_ws]
   rw[hv,← hl,← wset] at ht
   have ht2:FnP Tryz.prog gl 147 [.lst 1 ((wD (r++List.replicate ((ws m).length+1 - (ws m).length) 0)).set ((((wD (ws m)).length:Nat):Int)).toNat [.v (.int .u32 (IntKind.u32.wrap (c:Int)))])] (W (m+n)):=by
    rw[hlow,wa];exact ht
   ((repeat' ((conv=>whnf);first|exact .intro|refine G ?_|intro _|refine C2 ht2 ?_|refine .mk ?_ ?_|refine AK ?_|refine AO ?_|fail));all_goals conv=>whnf)
   exact LeD.rfl
theorem add_d (m n:Nat) (hm:(ws m).length≤35184372088832) (hn:(ws n).length≤35184372088832):FnP Tryz.prog gl 149 [W m,W n] (W (m+n)):=by
 rcases Nat.lt_or_ge (ws m).length (ws n).length with h|h
 ·rw[Nat.add_comm];exact add_lt n m hn h
 ·exact add_ge m n hm h
end
end Go.Proofs.YtfcmhmglpcimiaaGreatDoor
