/- Proved: a part of what the law is proved with (the reckoner, contracts of functions, plain laws). Conditions: as each says. -/
import Derived.Test.YtfkjhfdpphfjhaaGreatDoorWSg
import Derived.Test.YtfkjhfdpphfjhaaGreatDoorWTa
section
namespace Go.Proofs.YtfkjhfdpphfjhaaGreatDoor
open Go Go.EYtfkjhfdpphfjhaaGreatDoor
set_option maxRecDepth 100000
variable {gl:List (Nat×List D)}
theorem Text_y {p:Prop} (i:Decidable p) (hz:¬ p) (n:Nat) (hn:(ws n).length≤8796093022208):FnP Tryz.prog gl 192 [.imm [.b p i,W n],iD 10] (.str (decB n)):=by
 have wa:=wD_len (ws n)
 have ht:=twin_d (gl:=gl) (ws n) (by omega)
 by_cases h0:n=0
 ·subst h0
  have hl0:(((wD (ws 0)).length:Nat):Int)=0:=by rw[wa,ws_zero];rfl
  refine fnP_of_vc (nv:=9999) (cu:=[]) fits mixed Tryz.func192 rfl hoB rfl ?_
  ((repeat' ((conv=>whnf);first|exact .intro|refine G ?_|intro _|refine .mk ?_ ?_|refine H ?_|fail));all_goals conv=>whnf)
  exact LeD.of rfl
 have hl0:¬ (((wD (ws n)).length:Nat):Int)=0:=by rw[wa];intro h;exact h0 (ws_nil.1 (List.eq_nil_of_length_eq_zero (Int.ofNat.inj h)))
 refine fnP_of_vc (nv:=9999) (cu:=[]) fits mixed Tryz.func192 rfl hoB rfl ?_
 ((repeat' ((conv=>whnf);first|exact .intro|refine G ?_|intro _|refine C1 ht ?_|refine .mk ?_ ?_|refine H ?_|fail));all_goals conv=>whnf)
 refine ⟨{ σ:=(Nat×List UInt8),fr:=fun s=>[(5,.c (.all 1 0)),(6,.c (.d (W s.1)))],ks:=[0],L:=fun s=>[(0,.rows 1 (bD s.2) 5)],ex:=1,I:=fun s=>dl10 n=s.2++dl10 s.1∧s.1≤n,μ:=fun s=>s.1 },⟨(n,[]),⟨rfl,Nat.le_refl _⟩,?_⟩,?_⟩
 ·((repeat' first|exact rfl|((conv=>whnf);first|done|exact suL|refine And.intro ?_ ?_|fail));all_goals conv=>whnf)
  exact ⟨1,5,rfl,by decide,Nat.le_refl _⟩
 ·rintro ⟨m,b⟩ ⟨h1,h2⟩
  simp only at h1 h2
  have hm:(ws m).length≤8796093022208:=Nat.le_trans (ws_len_le (Nat.lt_of_le_of_lt h2 (lt_ws_len n))) hn
  have hs:=bigSmall_d (gl:=gl) m 10 (by decide) (by decide) hm
  have h10:((m % 10:Nat):Int)<10:=by omega
  have hbl:b.length≤87960930222080:=by
   have:=dl10_max n
   rw[h1,List.length_append] at this
   omega
  ((repeat' ((conv=>whnf);first|exact .intro|refine G ?_|intro _|refine C1 hs ?_|refine .mk ?_ ?_|refine H ?_|fail));all_goals conv=>whnf)
  ·rename_i hx
   have hm0:m≠0:=fun e=>by
    have hx':0<(((wD (ws m)).length:Nat):Int):=hx
    rw[e,wD_len,ws_zero] at hx'
    exact absurd hx' (by decide)
   refine ⟨⟨rfl,by show ((bD b).length+1) * 1≤140737488355328;unfold bD;rw[List.length_map];omega,by show (bD b).length+1≤maxLen;unfold bD maxLen;rw[List.length_map];omega⟩,?_⟩
   ((repeat' ((conv=>whnf);first|exact .intro|refine G ?_|intro _|refine .mk ?_ ?_|refine H ?_|fail));all_goals conv=>whnf)
   refine ⟨(m / 10,b++[dig (m % 10)]),⟨⟨?_,Nat.le_trans (Nat.div_le_self _ _) h2⟩,Nat.div_lt_self (Nat.pos_of_ne_zero hm0) (by decide)⟩,?_⟩
   ·rw[h1,dl10_pos hm0,List.append_assoc];rfl
   ·((repeat' first|exact rfl|((conv=>whnf);first|done|exact suL|refine And.intro ?_ ?_|fail));all_goals conv=>whnf)
    show bD b++[[D.v (.int .u8 (IntKind.u8.wrap (IntKind.u32.wrap (48+((m % 10:Nat):Int)))))]]=bD (b++[dig (m % 10)])
    rw[IntWalk.u32_in _ (by omega),IntWalk.u8_in _ (by omega),bD_app,dig_nat (Nat.mod_lt m (by decide))]
  ·rename_i hx
   have hm0:m=0:=Classical.byContradiction fun e=>hx (by
    show 0<(((wD (ws m)).length:Nat):Int)
    rw[wD_len]
    have:(ws m).length≠0:=fun h=>e (ws_nil.1 (List.eq_nil_of_length_eq_zero h))
    omega)
   have hb:b=dl10 n:=by rw[h1,hm0,dl10_zero,List.append_nil]
   subst hm0
   have hb0:b≠[]:=by rw[hb,dl10_pos h0];exact List.cons_ne_nil _ _
   have hbp:0<b.length:=List.length_pos_iff.2 hb0
   refine ⟨{ σ:=(Nat×List UInt8),fr:=fun s=>[(8,.c (.d (iD s.1))),(9,.c (.d (iD ((b.length - 1 - s.1:Nat):Int))))],ks:=[0],L:=fun s=>[(0,.rows 1 (bD s.2) 5)],ex:=0,I:=fun s=>Turned b s.2 s.1,μ:=fun s=>b.length - s.1 },⟨(0,b),Turned.zero b,?_⟩,?_⟩
   ·((repeat' first|exact rfl|((conv=>whnf);first|done|exact suL|refine And.intro ?_ ?_|fail));all_goals conv=>whnf)
    exact ceq (show IntKind.i64.wrap ((((bD b).length:Nat):Int) - 1)=((b.length - 1 - 0:Nat):Int) by rw[bD_len,wrapI (by omega)];omega)
   ·rintro ⟨k,p⟩ ht
    have ht':Turned b p k:=ht
    obtain ⟨t1,t2,_⟩:=id ht'
    have hki:0≤(k:Int)∧(k:Int)<((bD p).length:Nat):=by rw[bD_len];omega
    have hji:0≤((b.length - 1 - k:Nat):Int)∧((b.length - 1 - k:Nat):Int)<((bD p).length:Nat):=by rw[bD_len];omega
    have hk:k<p.length:=by omega
    have hj:b.length - 1 - k<p.length:=by omega
    have hji2:0≤((b.length - 1 - k:Nat):Int)∧((b.length - 1 - k:Nat):Int)<(((bD p).set ((k:Nat):Int).toNat (u8D p[b.length - 1 - k])).length:Nat):=by rw[List.length_set];exact hji
    ((repeat' ((conv=>whnf);first|exact .intro|refine G ?_|intro _|refine .mk ?_ ?_|refine AK ?_|refine And.intro (by first|(first|exact hki|exact hji|exact hji2|assumption|omega|(simp;done);done)|fail) ?_|fail));all_goals conv=>whnf)
    ·rename_i hx
     have hx':k<b.length - 1 - k:=Int.ofNat_lt.1 hx
     have hj2:b.length - 1 - k<(p.set k p[b.length - 1 - k]).length:=by rw[List.length_set];exact hj
     have hg3:((bD p).set ((k:Nat):Int).toNat (u8D p[b.length - 1 - k]))[((b.length - 1 - k:Nat):Int).toNat]?=some (u8D (p.set k p[b.length - 1 - k])[b.length - 1 - k]):=by rw[bset];exact bget hj2
     refine ⟨_,bget hk,?_⟩
     ((repeat' ((conv=>whnf);first|exact .intro|refine G ?_|intro _|refine .mk ?_ ?_|refine AK ?_|refine And.intro (by first|(first|exact hki|exact hji|exact hji2|assumption|omega|(simp;done);done)|fail) ?_|fail));all_goals conv=>whnf)
     refine ⟨_,bget hj,?_⟩
     ((repeat' ((conv=>whnf);first|exact .intro|refine G ?_|intro _|refine .mk ?_ ?_|refine AK ?_|refine And.intro (by first|(first|exact hki|exact hji|exact hji2|assumption|omega|(simp;done);done)|fail) ?_|fail));all_goals conv=>whnf)
     refine ⟨_,bget hk,?_⟩
     ((repeat' ((conv=>whnf);first|exact .intro|refine G ?_|intro _|refine .mk ?_ ?_|refine AK ?_|refine And.intro (by first|(first|exact hki|exact hji|exact hji2|assumption|omega|(simp;done);done)|fail) ?_|fail));all_goals conv=>whnf)
     refine ⟨_,hg3,?_⟩
     ((repeat' ((conv=>whnf);first|exact .intro|refine G ?_|intro _|refine .mk ?_ ?_|refine AK ?_|refine And.intro (by first|(first|exact hki|exact hji|exact hji2|assumption|omega|(simp;done);done)|fail) ?_|fail));all_goals conv=>whnf)
     refine ⟨(k+1,(p.set k p[b.length - 1 - k]).set (b.length - 1 - k) p[k]),⟨ht'.step hx' hk hj,by show b.length - (k+1)<b.length - k;omega⟩,?_⟩
     ((repeat' first|exact rfl|((conv=>whnf);first|done|exact suL|refine And.intro ?_ ?_|fail));all_goals conv=>whnf)
     ·exact ceq (show IntKind.i64.wrap ((k:Int)+1)=((k+1:Nat):Int) by rw[wrapI (by omega)];rfl)
     ·exact ceq (show IntKind.i64.wrap (((b.length - 1 - k:Nat):Int) - 1)=((b.length - 1 - (k+1):Nat):Int) by rw[wrapI (by omega)];omega)
     ·show List.set (List.set (bD p) ((k:Nat):Int).toNat (u8D p[b.length - 1 - k])) ((b.length - 1 - k:Nat):Int).toNat (u8D p[k])=bD ((p.set k p[b.length - 1 - k]).set (b.length - 1 - k) p[k])
      rw[bset,bset]
    ·rename_i hx
     have hx':¬ k<b.length - 1 - k:=fun h=>hx (Int.ofNat_lt.2 h)
     refine ⟨p,rfl,?_⟩
     ((repeat' ((conv=>whnf);first|exact .intro|refine G ?_|intro _|refine .mk ?_ ?_|refine H ?_|fail));all_goals conv=>whnf)
     refine LeD.of (congrArg D.str ?_)
     rw[ht'.done hx',hb,decB,if_neg h0]
theorem Text_m {p:Prop} (i:Decidable p) (hz:p) (n:Nat) (h0:n≠0) (hn:(ws n).length≤8796093022208):FnP Tryz.prog gl 192 [.imm [.b p i,W n],iD 10] (.str (45::decB n)):=by
 have wa:=wD_len (ws n)
 have ht:=twin_d (gl:=gl) (ws n) (by omega)
 have hl0:¬ (((wD (ws n)).length:Nat):Int)=0:=by rw[wa];intro h;exact h0 (ws_nil.1 (List.eq_nil_of_length_eq_zero (Int.ofNat.inj h)))
 refine fnP_of_vc (nv:=9999) (cu:=[]) fits mixed Tryz.func192 rfl hoB rfl ?_
 ((repeat' ((conv=>whnf);first|exact .intro|refine G ?_|intro _|refine C1 ht ?_|refine .mk ?_ ?_|refine H ?_|fail));all_goals conv=>whnf)
 refine ⟨{ σ:=(Nat×List UInt8),fr:=fun s=>[(5,.c (.all 1 0)),(6,.c (.d (W s.1)))],ks:=[0],L:=fun s=>[(0,.rows 1 (bD s.2) 5)],ex:=1,I:=fun s=>dl10 n=s.2++dl10 s.1∧s.1≤n,μ:=fun s=>s.1 },⟨(n,[]),⟨rfl,Nat.le_refl _⟩,?_⟩,?_⟩
 ·((repeat' first|exact rfl|((conv=>whnf);first|done|exact suL|refine And.intro ?_ ?_|fail));all_goals conv=>whnf)
  exact ⟨1,5,rfl,by decide,Nat.le_refl _⟩
 ·rintro ⟨m,b⟩ ⟨h1,h2⟩
  simp only at h1 h2
  have hm:(ws m).length≤8796093022208:=Nat.le_trans (ws_len_le (Nat.lt_of_le_of_lt h2 (lt_ws_len n))) hn
  have hs:=bigSmall_d (gl:=gl) m 10 (by decide) (by decide) hm
  have h10:((m % 10:Nat):Int)<10:=by omega
  have hbl:b.length≤87960930222080:=by
   have:=dl10_max n
   rw[h1,List.length_append] at this
   omega
  ((repeat' ((conv=>whnf);first|exact .intro|refine G ?_|intro _|refine C1 hs ?_|refine .mk ?_ ?_|refine H ?_|fail));all_goals conv=>whnf)
  ·rename_i hx
   have hm0:m≠0:=fun e=>by
    have hx':0<(((wD (ws m)).length:Nat):Int):=hx
    rw[e,wD_len,ws_zero] at hx'
    exact absurd hx' (by decide)
   refine ⟨⟨rfl,by show ((bD b).length+1) * 1≤140737488355328;unfold bD;rw[List.length_map];omega,by show (bD b).length+1≤maxLen;unfold bD maxLen;rw[List.length_map];omega⟩,?_⟩
   ((repeat' ((conv=>whnf);first|exact .intro|refine G ?_|intro _|refine .mk ?_ ?_|refine H ?_|fail));all_goals conv=>whnf)
   refine ⟨(m / 10,b++[dig (m % 10)]),⟨⟨?_,Nat.le_trans (Nat.div_le_self _ _) h2⟩,Nat.div_lt_self (Nat.pos_of_ne_zero hm0) (by decide)⟩,?_⟩
   ·rw[h1,dl10_pos hm0,List.append_assoc];rfl
   ·((repeat' first|exact rfl|((conv=>whnf);first|done|exact suL|refine And.intro ?_ ?_|fail));all_goals conv=>whnf)
    show bD b++[[D.v (.int .u8 (IntKind.u8.wrap (IntKind.u32.wrap (48+((m % 10:Nat):Int)))))]]=bD (b++[dig (m % 10)])
    rw[IntWalk.u32_in _ (by omega),IntWalk.u8_in _ (by omega),bD_app,dig_nat (Nat.mod_lt m (by decide))]
  ·rename_i hx
   have hm0:m=0:=Classical.byContradiction fun e=>hx (by
    show 0<(((wD (ws m)).length:Nat):Int)
    rw[wD_len]
    have:(ws m).length≠0:=fun h=>e (ws_nil.1 (List.eq_nil_of_length_eq_zero h))
    omega)
   have hb:b=dl10 n:=by rw[h1,hm0,dl10_zero,List.append_nil]
   subst hm0
   have hb0:b≠[]:=by rw[hb,dl10_pos h0];exact List.cons_ne_nil _ _
   have hbp:0<b.length:=List.length_pos_iff.2 hb0
   have hbl2:b.length≤87960930222080:=hbl
   obtain ⟨b2,e2⟩:∃ b2,b2=b++[45]:=⟨_,rfl⟩
   have e3:bD b2=bD b++[[D.v (.int .u8 45)]]:=by rw[e2,bD_app];rfl
   have hbl3:b2.length=b.length+1:=by rw[e2,List.length_append];rfl
   refine ⟨⟨rfl,by show ((bD b).length+1) * 1≤140737488355328;unfold bD;rw[List.length_map];omega,by show (bD b).length+1≤maxLen;unfold bD maxLen;rw[List.length_map];omega⟩,?_⟩
   ((repeat' ((conv=>whnf);first|exact .intro|refine G ?_|intro _|refine .mk ?_ ?_|refine H ?_|fail));all_goals conv=>whnf)
   refine ⟨{ σ:=(Nat×List UInt8),fr:=fun s=>[(8,.c (.d (iD s.1))),(9,.c (.d (iD ((b2.length - 1 - s.1:Nat):Int))))],ks:=[0],L:=fun s=>[(0,.rows 1 (bD s.2) 5)],ex:=0,I:=fun s=>Turned b2 s.2 s.1,μ:=fun s=>b2.length - s.1 },⟨(0,b2),Turned.zero b2,?_⟩,?_⟩
   ·((repeat' first|exact rfl|((conv=>whnf);first|done|exact suL|refine And.intro ?_ ?_|fail));all_goals conv=>whnf)
    ·refine ceq ?_
     show IntKind.i64.wrap ((((bD b++[[D.v (.int .u8 45)]]).length:Nat):Int) - 1)=((b2.length - 1 - 0:Nat):Int)
     rw[← e3,bD_len,wrapI (by omega)];omega
    ·exact e3.symm
   ·rintro ⟨k,p⟩ ht
    have ht':Turned b2 p k:=ht
    obtain ⟨t1,t2,_⟩:=id ht'
    have hki:0≤(k:Int)∧(k:Int)<((bD p).length:Nat):=by rw[bD_len];omega
    have hji:0≤((b2.length - 1 - k:Nat):Int)∧((b2.length - 1 - k:Nat):Int)<((bD p).length:Nat):=by rw[bD_len];omega
    have hk:k<p.length:=by omega
    have hj:b2.length - 1 - k<p.length:=by omega
    have hji2:0≤((b2.length - 1 - k:Nat):Int)∧((b2.length - 1 - k:Nat):Int)<(((bD p).set ((k:Nat):Int).toNat (u8D p[b2.length - 1 - k])).length:Nat):=by rw[List.length_set];exact hji
    ((repeat' ((conv=>whnf);first|exact .intro|refine G ?_|intro _|refine .mk ?_ ?_|refine AK ?_|refine And.intro (by first|(first|exact hki|exact hji|exact hji2|assumption|omega|(simp;done);done)|fail) ?_|fail));all_goals conv=>whnf)
    ·rename_i hx
     have hx':k<b2.length - 1 - k:=Int.ofNat_lt.1 hx
     have hj2:b2.length - 1 - k<(p.set k p[b2.length - 1 - k]).length:=by rw[List.length_set];exact hj
     have hg3:((bD p).set ((k:Nat):Int).toNat (u8D p[b2.length - 1 - k]))[((b2.length - 1 - k:Nat):Int).toNat]?=some (u8D (p.set k p[b2.length - 1 - k])[b2.length - 1 - k]):=by rw[bset];exact bget hj2
     refine ⟨_,bget hk,?_⟩
     ((repeat' ((conv=>whnf);first|exact .intro|refine G ?_|intro _|refine .mk ?_ ?_|refine AK ?_|refine And.intro (by first|(first|exact hki|exact hji|exact hji2|assumption|omega|(simp;done);done)|fail) ?_|fail));all_goals conv=>whnf)
     refine ⟨_,bget hj,?_⟩
     ((repeat' ((conv=>whnf);first|exact .intro|refine G ?_|intro _|refine .mk ?_ ?_|refine AK ?_|refine And.intro (by first|(first|exact hki|exact hji|exact hji2|assumption|omega|(simp;done);done)|fail) ?_|fail));all_goals conv=>whnf)
     refine ⟨_,bget hk,?_⟩
     ((repeat' ((conv=>whnf);first|exact .intro|refine G ?_|intro _|refine .mk ?_ ?_|refine AK ?_|refine And.intro (by first|(first|exact hki|exact hji|exact hji2|assumption|omega|(simp;done);done)|fail) ?_|fail));all_goals conv=>whnf)
     refine ⟨_,hg3,?_⟩
     ((repeat' ((conv=>whnf);first|exact .intro|refine G ?_|intro _|refine .mk ?_ ?_|refine AK ?_|refine And.intro (by first|(first|exact hki|exact hji|exact hji2|assumption|omega|(simp;done);done)|fail) ?_|fail));all_goals conv=>whnf)
     refine ⟨(k+1,(p.set k p[b2.length - 1 - k]).set (b2.length - 1 - k) p[k]),⟨ht'.step hx' hk hj,by show b2.length - (k+1)<b2.length - k;omega⟩,?_⟩
     ((repeat' first|exact rfl|((conv=>whnf);first|done|exact suL|refine And.intro ?_ ?_|fail));all_goals conv=>whnf)
     ·exact ceq (show IntKind.i64.wrap ((k:Int)+1)=((k+1:Nat):Int) by rw[wrapI (by omega)];rfl)
     ·exact ceq (show IntKind.i64.wrap (((b2.length - 1 - k:Nat):Int) - 1)=((b2.length - 1 - (k+1):Nat):Int) by rw[wrapI (by omega)];omega)
     ·show List.set (List.set (bD p) ((k:Nat):Int).toNat (u8D p[b2.length - 1 - k])) ((b2.length - 1 - k:Nat):Int).toNat (u8D p[k])=bD ((p.set k p[b2.length - 1 - k]).set (b2.length - 1 - k) p[k])
      rw[bset,bset]
    ·rename_i hx
     have hx':¬ k<b2.length - 1 - k:=fun h=>hx (Int.ofNat_lt.2 h)
     refine ⟨p,rfl,?_⟩
     ((repeat' ((conv=>whnf);first|exact .intro|refine G ?_|intro _|refine .mk ?_ ?_|refine H ?_|fail));all_goals conv=>whnf)
     refine LeD.of (congrArg D.str ?_)
     rw[ht'.done hx',e2,hb,decB,if_neg h0,List.reverse_append];rfl
def decZ (z:Int):List UInt8:=if z<0 then 45::decB z.natAbs else decB z.natAbs
theorem Digits_z {z:Int} (hz:okI z):FnP Tryz.prog gl 76 [iD z] (.str (decZ z)):=by
 have h2:=NewInt_z (gl:=gl) hz
 have h3:=ws2 (n:=z.natAbs) (by omega)
 have h4:FnP Tryz.prog gl 192 [.imm (zD z),iD 10] (.str (decZ z)):=by
  unfold decZ
  by_cases h:z<0
  ·rw[if_pos h];exact Text_m _ h _ (by omega) (by omega)
  ·rw[if_neg h];exact Text_y _ h _ (by omega)
 have h5:FnP Tryz.prog gl 126 [.imm (zD z)] (.str (decZ z)):=by
  refine fnP_of_vc (nv:=9999) (cu:=[]) fits mixed Tryz.func126 rfl hoB rfl ?_
  ((repeat' ((conv=>whnf);first|exact .intro|refine G ?_|intro _|refine C1 h4 ?_|refine .mk ?_ ?_|refine H ?_|fail));all_goals conv=>whnf)
  exact LeD.rfl
 refine fnP_of_vc (nv:=9999) (cu:=[]) fits mixed Tryz.func76 rfl hoB rfl ?_
 ((repeat' ((conv=>whnf);first|exact .intro|refine G ?_|intro _|refine C1 h5 ?_|refine C1 h2 ?_|refine .mk ?_ ?_|refine H ?_|fail));all_goals conv=>whnf)
 exact LeD.rfl
theorem dl10_rev (n:Nat):n≠0→(dl10 n).reverse=Lib.decDigits n:=by
 induction n using Nat.strongRecOn with
 | ind n ih =>
  intro h
  rw[dl10_pos h,List.reverse_cons]
  by_cases h10:n<10
  ·rw[show n / 10=0 by omega,dl10_zero,decDigits_small h10,show n % 10=n by omega];rfl
  ·rw[ih (n / 10) (by omega) (by omega),decDigits_big h10];rfl
theorem decB_eq (n:Nat):decB n=Lib.decDigits n:=by
 unfold decB
 split
 ·subst n;rw[decDigits_small (by omega)];rfl
 ·rename_i h;exact dl10_rev n h
theorem decZ_eq (z:Int):decZ z=Lib.itoa z:=by
 unfold decZ Lib.itoa
 rw[decB_eq]
 split
 ·rfl
 ·rw[show z.natAbs=z.toNat by omega]
end Go.Proofs.YtfkjhfdpphfjhaaGreatDoor
end
section
namespace Go.Proofs.YtfkjhfdpphfjhaaGreatDoor
open Go Go.EYtfkjhfdpphfjhaaGreatDoor
set_option maxRecDepth 100000
variable {gl:List (Nat×List D)}
abbrev Vl.ok (v:Vl):Prop:=isV v.k v.n v.s∧okI v.n
def numV (v:Vl):Vl:=if v.k=1∨v.k=4 then v else if v.k=2 then (match wholeZ v.s with|some n=>⟨1,n,[]⟩|none=>⟨4,2,[]⟩) else ⟨1,v.n,[]⟩
theorem wholeZ_okI {s:List UInt8} {n:Int} (h:wholeZ s=some n):okI n:=by
 unfold wholeZ at h
 split at h
 ·rename_i hh;cases h;exact hh.2
 ·cases h
theorem numV_ok {v:Vl} (h:v.ok):(numV v).ok∧((numV v).k=1∨(numV v).k=4):=by
 obtain ⟨k,n,s⟩:=v
 obtain ⟨h1,h2⟩:=h
 unfold numV
 split
 ·rename_i hk;exact ⟨⟨h1,h2⟩,hk⟩
 ·split
  ·split
   ·rename_i m hm;exact ⟨⟨.inr (.inl ⟨rfl,rfl⟩),wholeZ_okI hm⟩,.inl rfl⟩
   ·exact ⟨⟨.inr (.inr (.inr (.inr ⟨rfl,by decide,by decide,rfl⟩))),by show okI 2;decide⟩,.inr rfl⟩
  ·exact ⟨⟨.inr (.inl ⟨rfl,rfl⟩),h2⟩,.inl rfl⟩
theorem Number_d (te:TypeId) (pe:Value) (k n:Int) (s:List UInt8) (hs:s.length≤140737488355328):FnP Tryz.prog (glV te pe) 106 [vlD k n s] (numV ⟨k,n,s⟩).d:=by
 by_cases h1:k=1
 ·subst h1
  refine fnP_of_vc (nv:=9999) (cu:=[]) fits mixed Tryz.func106 rfl hoB rfl ?_
  ((repeat' ((conv=>whnf);first|exact .intro|refine G ?_|intro _|refine .mk ?_ ?_|refine H ?_|fail));all_goals conv=>whnf)
  exact LeD.rfl
 by_cases h4:k=4
 ·subst h4
  refine fnP_of_vc (nv:=9999) (cu:=[]) fits mixed Tryz.func106 rfl hoB rfl ?_
  ((repeat' ((conv=>whnf);first|exact .intro|refine G ?_|intro _|refine .mk ?_ ?_|refine H ?_|fail));all_goals conv=>whnf)
  exact LeD.rfl
 by_cases h2:k=2
 ·subst h2
  cases hw:wholeZ s with
  | some m =>
   have c:=Whole_some (gl:=glV te pe) hs hw
   refine fnP_of_vc (nv:=9999) (cu:=[]) fits mixed Tryz.func106 rfl hoB rfl ?_
   ((repeat' ((conv=>whnf);first|exact .intro|refine G ?_|intro _|refine C1 c ?_|refine C1 (Num_d _) ?_|refine .mk ?_ ?_|refine H ?_|fail));all_goals conv=>whnf)
   exact LeD.of (by simp only[numV,hw];rfl)
  | none =>
   obtain ⟨m,c⟩:=Whole_none (gl:=glV te pe) hs (errR_V te pe) hw
   refine fnP_of_vc (nv:=9999) (cu:=[]) fits mixed Tryz.func106 rfl hoB rfl ?_
   ((repeat' ((conv=>whnf);first|exact .intro|refine G ?_|intro _|refine C1 c ?_|refine C1 (Wrong_d _) ?_|refine .mk ?_ ?_|refine H ?_|fail));all_goals conv=>whnf)
   exact LeD.of (by simp only[numV,hw];rfl)
 ·refine fnP_of_vc (nv:=9999) (cu:=[]) fits mixed Tryz.func106 rfl hoB rfl ?_
  ((repeat' ((conv=>whnf);first|exact .intro|refine G ?_|intro _|refine C1 (Num_d _) ?_|refine .mk ?_ ?_|refine H ?_|fail));all_goals conv=>whnf)
  all_goals first|(exfalso;omega)|exact LeD.of (by simp only[numV,h1,h2,h4,or_self,if_false];rfl)
theorem readV_1 {s:List UInt8}:(∀ n,wholeZ s=some n→readV s=⟨1,n,[]⟩)∧(wholeZ s=none→(readV s).k≠1):=by
 refine ⟨fun n h=>?_,fun h=>?_⟩
 ·unfold readV
  split
  ·rename_i e;rw[e] at h;revert h;unfold wholeZ;rw[if_neg (fun h=>h.1.1 rfl)];intro h;cases h
  ·rw[h]
 ·unfold readV
  split
  ·intro e;cases e
  ·rw[h]
   simp only
   split
   ·rename_i p hp
    intro e
    have:p.1=1:=e
    unfold litZ at hp
    split at hp
    ·cases hp;cases this
    ·split at hp
     ·cases hp;cases this
     ·obtain ⟨i,_,rfl⟩:=Option.map_eq_some_iff.1 hp;cases this
   ·split
    ·intro e;cases e
    ·intro e;cases e
theorem rNumber_d {k n:Int} {s:List UInt8} (hv:isV k n s):FnP Tryz.prog gl 41 [vlD k n s] (numV ⟨k,n,s⟩).d:=by
 rcases hv with ⟨rfl,rfl,rfl⟩|⟨rfl,rfl⟩|⟨rfl,rfl,hl⟩|⟨rfl,h3,rfl⟩|⟨rfl,h1,h2,rfl⟩
 ·refine fnP_of_vc (nv:=9999) (cu:=[]) fits mixed Tryz.func41 rfl hoB rfl ?_
  ((repeat' ((conv=>whnf);first|exact .intro|refine G ?_|intro _|refine C1 (rNum_d _) ?_|refine .mk ?_ ?_|refine H ?_|fail));all_goals conv=>whnf)
  exact LeD.rfl
 ·refine fnP_of_vc (nv:=9999) (cu:=[]) fits mixed Tryz.func41 rfl hoB rfl ?_
  ((repeat' ((conv=>whnf);first|exact .intro|refine G ?_|intro _|refine C1 (rNum_d _) ?_|refine .mk ?_ ?_|refine H ?_|fail));all_goals conv=>whnf)
  exact LeD.rfl
 ·have c:=rRead_d (gl:=gl) s (by omega)
  obtain ⟨r1,r2⟩:=@readV_1 s
  cases hw:wholeZ s with
  | some m =>
   rw[r1 m hw] at c
   refine fnP_of_vc (nv:=9999) (cu:=[]) fits mixed Tryz.func41 rfl hoB rfl ?_
   ((repeat' ((conv=>whnf);first|exact .intro|refine G ?_|intro _|refine C1 c ?_|refine .mk ?_ ?_|refine H ?_|fail));all_goals conv=>whnf)
   exact LeD.of (by simp only[numV,hw];rfl)
  | none =>
   have h1:=r2 hw
   refine fnP_of_vc (nv:=9999) (cu:=[]) fits mixed Tryz.func41 rfl hoB rfl ?_
   ((repeat' ((conv=>whnf);first|exact .intro|refine G ?_|intro _|refine C1 c ?_|refine C1 (rBad_d _) ?_|refine .mk ?_ ?_|refine H ?_|fail));all_goals conv=>whnf)
   exact LeD.of (by simp only[numV,hw];rfl)
 ·refine fnP_of_vc (nv:=9999) (cu:=[]) fits mixed Tryz.func41 rfl hoB rfl ?_
  ((repeat' ((conv=>whnf);first|exact .intro|refine G ?_|intro _|refine C1 (rNum_d _) ?_|refine .mk ?_ ?_|refine H ?_|fail));all_goals conv=>whnf)
  exact LeD.rfl
 ·refine fnP_of_vc (nv:=9999) (cu:=[]) fits mixed Tryz.func41 rfl hoB rfl ?_
  ((repeat' ((conv=>whnf);first|exact .intro|refine G ?_|intro _|refine C1 (rNum_d _) ?_|refine .mk ?_ ?_|refine H ?_|fail));all_goals conv=>whnf)
  exact LeD.rfl
def rg (z:Int):Vl:=if okI z then ⟨1,z,[]⟩ else ⟨4,5,[]⟩
def rkV (op x y:Int):Vl:=if op=8 then rg (x+y) else if op=9 then rg (x - y) else if op=10 then rg (x * y) else if y=0 then ⟨4,1,[]⟩ else rg (x.tdiv y)
theorem rg_d (z:Int):(if okI z then vlD 1 z [] else vlD 4 5 [])=(rg z).d:=by unfold rg;split <;> rfl
theorem reckon_d {op x y:Int} (h8:8≤op) (h11:op≤11) (hx:okI x) (hy:okI y):FnP Tryz.prog gl 108 [iD op,iD x,iD y] (rkV op x y).d:=by
 have e:op=8∨op=9∨op=10∨op=11:=by omega
 rcases e with rfl|rfl|rfl|rfl
 ·show FnP Tryz.prog gl 108 _ (rg (x+y)).d
  rw[← rg_d];split
  ·exact rk8_s hx hy (by assumption)
  ·exact rk8_n hx hy (by assumption)
 ·show FnP Tryz.prog gl 108 _ (rg (x - y)).d
  rw[← rg_d];split
  ·exact rk9_s hx hy (by assumption)
  ·exact rk9_n hx hy (by assumption)
 ·show FnP Tryz.prog gl 108 _ (rg (x * y)).d
  rw[← rg_d];split
  ·exact rk10_s hx hy (by assumption)
  ·exact rk10_n hx hy (by assumption)
 ·by_cases h0:y=0
  ·subst h0;exact rk11_0 x
  ·have e:rkV 11 x y=rg (x.tdiv y):=by unfold rkV;rw[if_neg (by decide),if_neg (by decide),if_neg (by decide),if_neg h0]
   rw[e,← rg_d];split
   ·exact rk11_s hx h0 (by assumption)
   ·exact rk11_n hx (by assumption)
theorem rReckon_d {op x y:Int} (h8:8≤op) (h11:op≤11) (hx:okI x) (hy:okI y):FnP Tryz.prog gl 42 [iD op,iD x,iD y] (rkV op x y).d:=by
 have e:op=8∨op=9∨op=10∨op=11:=by omega
 rcases e with rfl|rfl|rfl|rfl
 ·show FnP Tryz.prog gl 42 _ (rg (x+y)).d
  rw[← rg_d];exact rr8 hx hy
 ·show FnP Tryz.prog gl 42 _ (rg (x - y)).d
  rw[← rg_d];exact rr9 hx hy
 ·show FnP Tryz.prog gl 42 _ (rg (x * y)).d
  rw[← rg_d];exact rr10 hx hy
 ·by_cases h0:y=0
  ·subst h0;exact rr11_0 x hx
  ·have e:rkV 11 x y=rg (x.tdiv y):=by unfold rkV;rw[if_neg (by decide),if_neg (by decide),if_neg (by decide),if_neg h0]
   rw[e,← rg_d];exact rr11 hx hy h0
theorem rShow_d {k n:Int} {s:List UInt8} (hv:isV k n s) (hn:okI n):FnP Tryz.prog gl 43 [vlD k n s] (.str (showV ⟨k,n,s⟩)):=by
 rcases hv with ⟨rfl,rfl,rfl⟩|⟨rfl,rfl⟩|⟨rfl,rfl,hl⟩|⟨rfl,rfl|rfl,rfl⟩|⟨rfl,h1,h2,rfl⟩
 ·refine fnP_of_vc (nv:=9999) (cu:=[]) fits mixed Tryz.func43 rfl hoB rfl ?_
  ((repeat' ((conv=>whnf);first|exact .intro|refine G ?_|intro _|refine .mk ?_ ?_|refine H ?_|fail));all_goals conv=>whnf)
  exact LeD.rfl
 ·have c:=Digits_z (gl:=gl) hn
  rw[decZ_eq] at c
  refine fnP_of_vc (nv:=9999) (cu:=[]) fits mixed Tryz.func43 rfl hoB rfl ?_
  ((repeat' ((conv=>whnf);first|exact .intro|refine G ?_|intro _|refine C1 c ?_|refine .mk ?_ ?_|refine H ?_|fail));all_goals conv=>whnf)
  exact LeD.rfl
 ·refine fnP_of_vc (nv:=9999) (cu:=[]) fits mixed Tryz.func43 rfl hoB rfl ?_
  ((repeat' ((conv=>whnf);first|exact .intro|refine G ?_|intro _|refine .mk ?_ ?_|refine H ?_|fail));all_goals conv=>whnf)
  exact LeD.rfl
 ·refine fnP_of_vc (nv:=9999) (cu:=[]) fits mixed Tryz.func43 rfl hoB rfl ?_
  ((repeat' ((conv=>whnf);first|exact .intro|refine G ?_|intro _|refine .mk ?_ ?_|refine H ?_|fail));all_goals conv=>whnf)
  exact LeD.rfl
 ·refine fnP_of_vc (nv:=9999) (cu:=[]) fits mixed Tryz.func43 rfl hoB rfl ?_
  ((repeat' ((conv=>whnf);first|exact .intro|refine G ?_|intro _|refine .mk ?_ ?_|refine H ?_|fail));all_goals conv=>whnf)
  exact LeD.rfl
 ·have hN:n.toNat<7:=by omega
  have g:=txr_get hN
  rw[Int.toNat_natCast] at g
  refine fnP_of_vc (nv:=9999) (cu:=[]) fits mixed Tryz.func43 rfl hoB rfl ?_
  ((repeat' ((conv=>whnf);first|exact .intro|refine G ?_|intro _|refine C1 Wrongs_d ?_|refine .mk ?_ ?_|refine H ?_|fail));all_goals conv=>whnf)
  refine ⟨_,g,?_⟩
  ((repeat' ((conv=>whnf);first|exact .intro|refine G ?_|intro _|refine .mk ?_ ?_|refine H ?_|fail));all_goals conv=>whnf)
  refine LeD.of (congrArg D.str ?_)
  show _=(if 0<n∧n<7 then tx.getD n.toNat [] else [])
  rw[if_pos (by omega)]
theorem showV_len {v:Vl} (hv:v.ok):(showV v).length≤200:=by
 obtain ⟨k,n,s⟩:=v
 obtain ⟨hv,hn⟩:=hv
 have htx:∀ m:Nat,(tx.getD m []).length≤7:=fun m=>by
  rcases Nat.lt_or_ge m 7 with h|h
  ·have key:∀ m:Fin 7,(tx.getD m.val []).length≤7:=by decide
   exact key ⟨m,h⟩
  ·have:tx.getD m []=[]:=by rw[List.getD,List.getElem?_eq_none (show tx.length≤m from h)];rfl
   rw[this];decide
 have h1:=itoa_len hn
 have h3:=htx n.toNat
 have h4:tF.length≤200:=by decide
 have h5:tT.length≤200:=by decide
 have h6:([]:List UInt8).length≤200:=by decide
 have h7:k=2→s.length≤200:=fun h=>by rcases hv with hv|hv|hv|hv|hv <;> simp only at hv <;> omega
 show (show3 k n s).length≤_
 simp only at h1 h3
 unfold show3
 repeat' split
 all_goals first|omega|assumption|(exact h7 (by assumption))
end Go.Proofs.YtfkjhfdpphfjhaaGreatDoor
end
