/- Proved: a part of what the law is proved with (the reckoner, contracts of functions, plain laws). Conditions: as each says. -/
import Derived.Test.YtfkjhfdpphfjhaaGreatDoorXBa
namespace Go.Proofs.YtfkjhfdpphfjhaaGreatDoor
open Go Go.EYtfkjhfdpphfjhaaGreatDoor
set_option maxRecDepth 100000
section
variable {gl:List (Nat×List D)}
theorem val_take_succ {l:List Nat} {i:Nat} (h:i<l.length):val (l.take (i+1))=val (l.take i)+B32 ^ i * l[i]:=by
 rw[List.take_succ_eq_append_getElem h,val_app,List.length_take,Nat.min_eq_left (by omega)]
 simp[val]
theorem val_take_ge {l:List Nat} {i:Nat} (h:l.length≤i):val (l.take i)=val l:=by rw[List.take_of_length_le h]
theorem wD_rep (k:Nat):wD (List.replicate k 0)=List.replicate k [u32D 0]:=List.map_replicate ..
theorem wset (l:List Nat) (i x:Nat):(wD l).set ((i:Nat):Int).toNat [.v (.int .u32 (x:Int))]=wD (l.set i x):=by
 rw[Int.toNat_natCast];exact (List.map_set ..).symm
theorem set_rep {r:List Nat} {k:Nat} (x:Nat):(r++List.replicate (k+1) 0).set r.length x=(r++[x])++List.replicate k 0:=by
 rw[List.set_append_right _ _ (Nat.le_refl _),Nat.sub_self,List.replicate_succ,List.set_cons_zero,List.append_assoc];rfl
theorem lo32 {x:Nat}:IntKind.u32.wrap (x:Int)=((x % B32:Nat):Int):=by rw[IntKind.wrap_u32];simp
theorem hi32 {x:Nat}:(x:Int).fdiv (2 ^ min (Int.toNat 32) IntKind.u64.bits)=((x / B32:Nat):Int):=by
 rw[show (2:Int) ^ min (Int.toNat 32) IntKind.u64.bits=4294967296 from by decide,Int.fdiv_eq_ediv_of_nonneg _ (by decide)];rfl
theorem w64 {x:Nat} (h:x<18446744073709551616):IntKind.u64.wrap (x:Int)=x:=IntWalk.u64_in _ (by omega)
theorem add_step {r:List Nat} {i c t a b v w v' w':Nat} (h1:r.length=i) (h5:val r+B32 ^ i * c=v+w) (ht:t=c+a+b) (hv:v'=v+B32 ^ i * a) (hw:w'=w+B32 ^ i * b):val (r++[t % B32])+B32 ^ (i+1) * (t / B32)=v'+w':=by
 rw[val_app,h1,show val [t % B32]=t % B32 by show t % B32+B32 * 0=_;omega,Nat.pow_succ,Nat.mul_assoc,Nat.add_assoc,← Nat.mul_add,Nat.mod_add_div,ht,hv,hw,Nat.mul_add,Nat.mul_add]
 omega
theorem dig_app {r:List Nat} {t:Nat} (h:∀ d ∈ r,d<B32):∀ d ∈ r++[t % B32],d<B32:=by
 intro d hd
 rcases List.mem_append.1 hd with hd|hd
 ·exact h d hd
 ·rw[List.mem_singleton.1 hd];exact Nat.mod_lt _ (by decide)
theorem add_ge (m n:Nat) (hm:(ws m).length≤35184372088832) (hle:(ws n).length≤(ws m).length):FnP Tryz.prog gl 185 [W m,W n] (W (m+n)):=by
 have wa:=wD_len (ws m)
 have wb:=wD_len (ws n)
 have e1:IntKind.i64.wrap ((((wD (ws m)).length:Nat):Int)+1)=(((ws m).length+1:Nat):Int):=by rw[wa,wrapI (by omega)];omega
 have hlt:¬ ((((wD (ws m)).length:Nat):Int)<(((wD (ws n)).length:Nat):Int)):=by rw[wa,wb];omega
 refine S0 Tryz.func185 rfl ?_
 ((repeat' ((conv=>whnf);first|exact .intro|refine G ?_|intro _|(rw[e1])|refine .mk ?_ ?_|refine AK ?_|refine AO ?_|fail));all_goals conv=>whnf)
 refine ⟨⟨by omega,by omega,by show (4:Int) * _≤_;omega,by omega⟩,?_⟩
 ((repeat' ((conv=>whnf);first|exact .intro|refine G ?_|intro _|refine .mk ?_ ?_|refine AK ?_|refine AO ?_|fail));all_goals conv=>whnf)
 refine ⟨{ σ:=(Nat×List Nat×Nat),fr:=fun s=>[(6,.c (.d (.v (.int .u64 s.2.2)))),(7,.c (.d (iD s.1)))],ks:=[0],L:=fun s=>[(0,.rows 1 (wD (s.2.1++List.replicate ((ws m).length+1 - s.1) 0)) 221)],ex:=0,I:=fun s=>s.2.1.length=s.1∧s.1≤(ws m).length∧(∀ d ∈ s.2.1,d<B32)∧s.2.2≤1∧val s.2.1+B32 ^ s.1 * s.2.2=val ((ws m).take s.1)+val ((ws n).take s.1),μ:=fun s=>(ws m).length - s.1 },⟨(0,[],0),⟨rfl,Nat.zero_le _,by simp,by simp,rfl⟩,?_⟩,?_⟩
 ·((repeat' first|exact rfl|((conv=>whnf);first|done|exact suL|refine And.intro ?_ ?_|fail));all_goals conv=>whnf)
  show List.replicate (((ws m).length+1:Nat):Int).toNat _=wD (List.replicate ((ws m).length+1) 0)
  rw[wD_rep,Int.toNat_natCast]
  rfl
 ·rintro ⟨i,r,c⟩ ⟨h1,h2,h3,h4,h5⟩
  simp only at h1 h2 h3 h4 h5
  have hil:i<(r++List.replicate ((ws m).length+1 - i) 0).length:=by simp;omega
  have hil':(((i:Nat):Int))<((wD (r++List.replicate ((ws m).length+1 - i) 0)).length:Nat):=by rw[wD_len];exact Int.ofNat_lt.2 hil
  have h0i:=Int.natCast_nonneg i
  ((repeat' ((conv=>whnf);first|exact .intro|refine G ?_|intro _|refine .mk ?_ ?_|refine AK ?_|refine AO ?_|fail));all_goals conv=>whnf)
  ·rename_i hx
   have hia:i<(ws m).length:=by rw[wa] at hx;exact Int.ofNat_lt.1 hx
   have ha:=ws_lt m _ (List.getElem_mem hia)
   refine ⟨_,wget hia,?_⟩
   have ei:IntKind.i64.wrap ((i:Int)+1)=((i+1:Nat):Int):=by rw[wrapI (by omega)];rfl
   have hrow:∀ x:Nat,(wD (r++List.replicate ((ws m).length+1 - i) 0)).set ((i:Nat):Int).toNat [.v (.int .u32 (x:Int))]=wD (r++[x]++List.replicate ((ws m).length+1 - (i+1)) 0):=fun x=>by
    rw[wset,show (ws m).length+1 - i=(ws m).length+1 - (i+1)+1 by omega,← h1,set_rep]
   ((repeat' ((conv=>whnf);first|exact .intro|refine G ?_|intro _|refine .mk ?_ ?_|refine AK ?_|refine AO ?_|fail));all_goals conv=>whnf)
   ·rename_i hy
    have hib:i<(ws n).length:=by rw[wb] at hy;exact Int.ofNat_lt.1 hy
    have hb:=ws_lt n _ (List.getElem_mem hib)
    refine ⟨_,wget hib,?_⟩
    ((repeat' ((conv=>whnf);first|exact .intro|refine G ?_|intro _|refine .mk ?_ ?_|refine AK ?_|refine AO ?_|fail));all_goals conv=>whnf)
    refine ⟨⟨h0i,hil'⟩,?_⟩
    ((repeat' ((conv=>whnf);first|exact .intro|refine G ?_|intro _|refine .mk ?_ ?_|refine AK ?_|refine AO ?_|fail));all_goals conv=>whnf)
    refine ⟨_,wget hil,?_⟩
    ((repeat' ((conv=>whnf);first|exact .intro|refine G ?_|intro _|refine .mk ?_ ?_|refine AK ?_|refine AO ?_|fail));all_goals conv=>whnf)
    obtain ⟨t,ht⟩:∃ t,t=c+(ws m)[i]+(ws n)[i]:=⟨_,rfl⟩
    have et:IntKind.u64.wrap (IntKind.u64.wrap ((c:Int)+IntKind.u64.wrap ((ws m)[i]:Int))+IntKind.u64.wrap ((ws n)[i]:Int))=(t:Int):=by
     simp only[B32] at ha hb
     rw[w64 (x:=(ws m)[i]) (by omega),w64 (x:=(ws n)[i]) (by omega),IntWalk.u64_in ((c:Int)+((ws m)[i]:Nat)) (by omega),IntWalk.u64_in _ (by omega),ht];omega
    refine ⟨(i+1,r++[t % B32],t / B32),⟨⟨by simp[h1],hia,dig_app h3,by simp only[B32] at *;omega,add_step h1 h5 ht (val_take_succ hia) (val_take_succ hib)⟩,by show (ws m).length - (i+1)<(ws m).length - i;omega⟩,?_⟩
    ((repeat' first|exact rfl|((conv=>whnf);first|done|exact suL|refine And.intro ?_ ?_|fail));all_goals conv=>whnf)
    ·exact ceqK (show (IntKind.u64.wrap (IntKind.u64.wrap ((c:Int)+IntKind.u64.wrap ((ws m)[i]:Int))+IntKind.u64.wrap ((ws n)[i]:Int))).fdiv (2 ^ min (Int.toNat 32) IntKind.u64.bits)=((t / B32:Nat):Int) by rw[et,hi32])
    ·exact ceq ei
    ·refine Eq.trans ?_ (hrow (t % B32))
     show List.set _ _ [D.v (.int .u32 (IntKind.u32.wrap (IntKind.u64.wrap (IntKind.u64.wrap ((c:Int)+IntKind.u64.wrap ((ws m)[i]:Int))+IntKind.u64.wrap ((ws n)[i]:Int)))))]=_
     rw[et,lo32]
   ·rename_i hy
    have hib:(ws n).length≤i:=by rw[wb] at hy;exact Nat.le_of_not_lt fun h=>hy (Int.ofNat_lt.2 h)
    refine ⟨⟨h0i,hil'⟩,?_⟩
    ((repeat' ((conv=>whnf);first|exact .intro|refine G ?_|intro _|refine .mk ?_ ?_|refine AK ?_|refine AO ?_|fail));all_goals conv=>whnf)
    refine ⟨_,wget hil,?_⟩
    ((repeat' ((conv=>whnf);first|exact .intro|refine G ?_|intro _|refine .mk ?_ ?_|refine AK ?_|refine AO ?_|fail));all_goals conv=>whnf)
    obtain ⟨t,ht⟩:∃ t,t=c+(ws m)[i]+0:=⟨_,rfl⟩
    have et:IntKind.u64.wrap ((c:Int)+IntKind.u64.wrap ((ws m)[i]:Int))=(t:Int):=by
     simp only[B32] at ha
     rw[w64 (by omega),IntWalk.u64_in (_+_) (by omega),ht];omega
    refine ⟨(i+1,r++[t % B32],t / B32),⟨⟨by simp[h1],hia,dig_app h3,by simp only[B32] at *;omega,add_step h1 h5 ht (val_take_succ hia) (by rw[val_take_ge hib,val_take_ge (by omega)];omega)⟩,by show (ws m).length - (i+1)<(ws m).length - i;omega⟩,?_⟩
    ((repeat' first|exact rfl|((conv=>whnf);first|done|exact suL|refine And.intro ?_ ?_|fail));all_goals conv=>whnf)
    ·exact ceqK (show (IntKind.u64.wrap ((c:Int)+IntKind.u64.wrap ((ws m)[i]:Int))).fdiv (2 ^ min (Int.toNat 32) IntKind.u64.bits)=((t / B32:Nat):Int) by rw[et,hi32])
    ·exact ceq ei
    ·refine Eq.trans ?_ (hrow (t % B32))
     show List.set _ _ [D.v (.int .u32 (IntKind.u32.wrap (IntKind.u64.wrap ((c:Int)+IntKind.u64.wrap ((ws m)[i]:Int)))))]=_
     rw[et,lo32]
  ·rename_i hx
   have hi:i=(ws m).length:=by rw[wa] at hx;exact Nat.le_antisymm h2 (Nat.le_of_not_lt fun h=>hx (Int.ofNat_lt.2 h))
   subst hi
   refine ⟨⟨Int.natCast_nonneg _,by rw[wa];exact hil'⟩,?_⟩
   ((repeat' ((conv=>whnf);first|exact .intro|refine G ?_|intro _|refine .mk ?_ ?_|refine AK ?_|refine AO ?_|fail));all_goals conv=>whnf)
   have hil2:(wD (ws m)).length<(r++List.replicate ((ws m).length+1 - (ws m).length) 0).length:=by rw[wa];exact hil
   refine ⟨_,wget hil2,?_⟩
   have hl:(r++List.replicate ((ws m).length+1 - (ws m).length) 0).set (ws m).length c=r++[c]:=by
    rw[show (ws m).length+1 - (ws m).length=0+1 by omega,← h1,set_rep];simp
   have hlow:IntKind.u32.wrap (c:Int)=(c:Int):=IntWalk.u32_in _ (by omega)
   have ht:=trim_d (gl:=gl) (r++[c]) (fun d hd=>by
    rcases List.mem_append.1 hd with hd|hd
    ·exact h3 d hd
    ·rw[List.mem_singleton.1 hd];simp only[B32];omega) (by simp[h1];unfold maxLen;omega)
   have hv:val (r++[c])=m+n:=by
    rw[val_app,h1,show val [c]=c by show c+B32 * 0=c;omega,h5,val_take_ge (Nat.le_refl _),val_take_ge (by omega),val_ws,val_ws]
   rw[hv,← hl,← wset] at ht
   have ht2:FnP Tryz.prog gl 188 [.lst 1 ((wD (r++List.replicate ((ws m).length+1 - (ws m).length) 0)).set ((((wD (ws m)).length:Nat):Int)).toNat [.v (.int .u32 (IntKind.u32.wrap (c:Int)))])] (W (m+n)):=by
    rw[hlow,wa];exact ht
   ((repeat' ((conv=>whnf);first|exact .intro|refine G ?_|intro _|refine C2 ht2 ?_|refine .mk ?_ ?_|refine AK ?_|refine AO ?_|fail));all_goals conv=>whnf)
   exact LeD.rfl
theorem add_lt (m n:Nat) (hm:(ws m).length≤35184372088832) (hlt':(ws n).length<(ws m).length):FnP Tryz.prog gl 185 [W n,W m] (W (m+n)):=by
 have hle:(ws n).length≤(ws m).length:=by omega
 have wa:=wD_len (ws m)
 have wb:=wD_len (ws n)
 have e1:IntKind.i64.wrap ((((wD (ws m)).length:Nat):Int)+1)=(((ws m).length+1:Nat):Int):=by rw[wa,wrapI (by omega)];omega
 have hlt:(((wD (ws n)).length:Nat):Int)<(((wD (ws m)).length:Nat):Int):=by rw[wa,wb];omega
 refine S0 Tryz.func185 rfl ?_
 ((repeat' ((conv=>whnf);first|exact .intro|refine G ?_|intro _|(rw[e1])|refine .mk ?_ ?_|refine AK ?_|refine AO ?_|fail));all_goals conv=>whnf)
 refine ⟨⟨by omega,by omega,by show (4:Int) * _≤_;omega,by omega⟩,?_⟩
 ((repeat' ((conv=>whnf);first|exact .intro|refine G ?_|intro _|refine .mk ?_ ?_|refine AK ?_|refine AO ?_|fail));all_goals conv=>whnf)
 refine ⟨{ σ:=(Nat×List Nat×Nat),fr:=fun s=>[(6,.c (.d (.v (.int .u64 s.2.2)))),(7,.c (.d (iD s.1)))],ks:=[0],L:=fun s=>[(0,.rows 1 (wD (s.2.1++List.replicate ((ws m).length+1 - s.1) 0)) 221)],ex:=0,I:=fun s=>s.2.1.length=s.1∧s.1≤(ws m).length∧(∀ d ∈ s.2.1,d<B32)∧s.2.2≤1∧val s.2.1+B32 ^ s.1 * s.2.2=val ((ws m).take s.1)+val ((ws n).take s.1),μ:=fun s=>(ws m).length - s.1 },⟨(0,[],0),⟨rfl,Nat.zero_le _,by simp,by simp,rfl⟩,?_⟩,?_⟩
 ·((repeat' first|exact rfl|((conv=>whnf);first|done|exact suL|refine And.intro ?_ ?_|fail));all_goals conv=>whnf)
  show List.replicate (((ws m).length+1:Nat):Int).toNat _=wD (List.replicate ((ws m).length+1) 0)
  rw[wD_rep,Int.toNat_natCast]
  rfl
 ·rintro ⟨i,r,c⟩ ⟨h1,h2,h3,h4,h5⟩
  simp only at h1 h2 h3 h4 h5
  have hil:i<(r++List.replicate ((ws m).length+1 - i) 0).length:=by simp;omega
  have hil':(((i:Nat):Int))<((wD (r++List.replicate ((ws m).length+1 - i) 0)).length:Nat):=by rw[wD_len];exact Int.ofNat_lt.2 hil
  have h0i:=Int.natCast_nonneg i
  ((repeat' ((conv=>whnf);first|exact .intro|refine G ?_|intro _|refine .mk ?_ ?_|refine AK ?_|refine AO ?_|fail));all_goals conv=>whnf)
  ·rename_i hx
   have hia:i<(ws m).length:=by rw[wa] at hx;exact Int.ofNat_lt.1 hx
   have ha:=ws_lt m _ (List.getElem_mem hia)
   refine ⟨_,wget hia,?_⟩
   have ei:IntKind.i64.wrap ((i:Int)+1)=((i+1:Nat):Int):=by rw[wrapI (by omega)];rfl
   have hrow:∀ x:Nat,(wD (r++List.replicate ((ws m).length+1 - i) 0)).set ((i:Nat):Int).toNat [.v (.int .u32 (x:Int))]=wD (r++[x]++List.replicate ((ws m).length+1 - (i+1)) 0):=fun x=>by
    rw[wset,show (ws m).length+1 - i=(ws m).length+1 - (i+1)+1 by omega,← h1,set_rep]
   ((repeat' ((conv=>whnf);first|exact .intro|refine G ?_|intro _|refine .mk ?_ ?_|refine AK ?_|refine AO ?_|fail));all_goals conv=>whnf)
   ·rename_i hy
    have hib:i<(ws n).length:=by rw[wb] at hy;exact Int.ofNat_lt.1 hy
    have hb:=ws_lt n _ (List.getElem_mem hib)
    refine ⟨_,wget hib,?_⟩
    ((repeat' ((conv=>whnf);first|exact .intro|refine G ?_|intro _|refine .mk ?_ ?_|refine AK ?_|refine AO ?_|fail));all_goals conv=>whnf)
    refine ⟨⟨h0i,hil'⟩,?_⟩
    ((repeat' ((conv=>whnf);first|exact .intro|refine G ?_|intro _|refine .mk ?_ ?_|refine AK ?_|refine AO ?_|fail));all_goals conv=>whnf)
    refine ⟨_,wget hil,?_⟩
    ((repeat' ((conv=>whnf);first|exact .intro|refine G ?_|intro _|refine .mk ?_ ?_|refine AK ?_|refine AO ?_|fail));all_goals conv=>whnf)
    obtain ⟨t,ht⟩:∃ t,t=c+(ws m)[i]+(ws n)[i]:=⟨_,rfl⟩
    have et:IntKind.u64.wrap (IntKind.u64.wrap ((c:Int)+IntKind.u64.wrap ((ws m)[i]:Int))+IntKind.u64.wrap ((ws n)[i]:Int))=(t:Int):=by
     simp only[B32] at ha hb
     rw[w64 (x:=(ws m)[i]) (by omega),w64 (x:=(ws n)[i]) (by omega),IntWalk.u64_in ((c:Int)+((ws m)[i]:Nat)) (by omega),IntWalk.u64_in _ (by omega),ht];omega
    refine ⟨(i+1,r++[t % B32],t / B32),⟨⟨by simp[h1],hia,dig_app h3,by simp only[B32] at *;omega,add_step h1 h5 ht (val_take_succ hia) (val_take_succ hib)⟩,by show (ws m).length - (i+1)<(ws m).length - i;omega⟩,?_⟩
    ((repeat' first|exact rfl|((conv=>whnf);first|done|exact suL|refine And.intro ?_ ?_|fail));all_goals conv=>whnf)
    ·exact ceqK (show (IntKind.u64.wrap (IntKind.u64.wrap ((c:Int)+IntKind.u64.wrap ((ws m)[i]:Int))+IntKind.u64.wrap ((ws n)[i]:Int))).fdiv (2 ^ min (Int.toNat 32) IntKind.u64.bits)=((t / B32:Nat):Int) by rw[et,hi32])
    ·exact ceq ei
    ·refine Eq.trans ?_ (hrow (t % B32))
     show List.set _ _ [D.v (.int .u32 (IntKind.u32.wrap (IntKind.u64.wrap (IntKind.u64.wrap ((c:Int)+IntKind.u64.wrap ((ws m)[i]:Int))+IntKind.u64.wrap ((ws n)[i]:Int)))))]=_
     rw[et,lo32]
   ·rename_i hy
    have hib:(ws n).length≤i:=by rw[wb] at hy;exact Nat.le_of_not_lt fun h=>hy (Int.ofNat_lt.2 h)
    refine ⟨⟨h0i,hil'⟩,?_⟩
    ((repeat' ((conv=>whnf);first|exact .intro|refine G ?_|intro _|refine .mk ?_ ?_|refine AK ?_|refine AO ?_|fail));all_goals conv=>whnf)
    refine ⟨_,wget hil,?_⟩
    ((repeat' ((conv=>whnf);first|exact .intro|refine G ?_|intro _|refine .mk ?_ ?_|refine AK ?_|refine AO ?_|fail));all_goals conv=>whnf)
    obtain ⟨t,ht⟩:∃ t,t=c+(ws m)[i]+0:=⟨_,rfl⟩
    have et:IntKind.u64.wrap ((c:Int)+IntKind.u64.wrap ((ws m)[i]:Int))=(t:Int):=by
     simp only[B32] at ha
     rw[w64 (by omega),IntWalk.u64_in (_+_) (by omega),ht];omega
    refine ⟨(i+1,r++[t % B32],t / B32),⟨⟨by simp[h1],hia,dig_app h3,by simp only[B32] at *;omega,add_step h1 h5 ht (val_take_succ hia) (by rw[val_take_ge hib,val_take_ge (by omega)];omega)⟩,by show (ws m).length - (i+1)<(ws m).length - i;omega⟩,?_⟩
    ((repeat' first|exact rfl|((conv=>whnf);first|done|exact suL|refine And.intro ?_ ?_|fail));all_goals conv=>whnf)
    ·exact ceqK (show (IntKind.u64.wrap ((c:Int)+IntKind.u64.wrap ((ws m)[i]:Int))).fdiv (2 ^ min (Int.toNat 32) IntKind.u64.bits)=((t / B32:Nat):Int) by rw[et,hi32])
    ·exact ceq ei
    ·refine Eq.trans ?_ (hrow (t % B32))
     show List.set _ _ [D.v (.int .u32 (IntKind.u32.wrap (IntKind.u64.wrap ((c:Int)+IntKind.u64.wrap ((ws m)[i]:Int)))))]=_
     rw[et,lo32]
  ·rename_i hx
   have hi:i=(ws m).length:=by rw[wa] at hx;exact Nat.le_antisymm h2 (Nat.le_of_not_lt fun h=>hx (Int.ofNat_lt.2 h))
   subst hi
   refine ⟨⟨Int.natCast_nonneg _,by rw[wa];exact hil'⟩,?_⟩
   ((repeat' ((conv=>whnf);first|exact .intro|refine G ?_|intro _|refine .mk ?_ ?_|refine AK ?_|refine AO ?_|fail));all_goals conv=>whnf)
   have hil2:(wD (ws m)).length<(r++List.replicate ((ws m).length+1 - (ws m).length) 0).length:=by rw[wa];exact hil
   refine ⟨_,wget hil2,?_⟩
   have hl:(r++List.replicate ((ws m).length+1 - (ws m).length) 0).set (ws m).length c=r++[c]:=by
    rw[show (ws m).length+1 - (ws m).length=0+1 by omega,← h1,set_rep];simp
   have hlow:IntKind.u32.wrap (c:Int)=(c:Int):=IntWalk.u32_in _ (by omega)
   have ht:=trim_d (gl:=gl) (r++[c]) (fun d hd=>by
    rcases List.mem_append.1 hd with hd|hd
    ·exact h3 d hd
    ·rw[List.mem_singleton.1 hd];simp only[B32];omega) (by simp[h1];unfold maxLen;omega)
   have hv:val (r++[c])=m+n:=by
    rw[val_app,h1,show val [c]=c by show c+B32 * 0=c;omega,h5,val_take_ge (Nat.le_refl _),val_take_ge (by omega),val_ws,val_ws]
   rw[hv,← hl,← wset] at ht
   have ht2:FnP Tryz.prog gl 188 [.lst 1 ((wD (r++List.replicate ((ws m).length+1 - (ws m).length) 0)).set ((((wD (ws m)).length:Nat):Int)).toNat [.v (.int .u32 (IntKind.u32.wrap (c:Int)))])] (W (m+n)):=by
    rw[hlow,wa];exact ht
   ((repeat' ((conv=>whnf);first|exact .intro|refine G ?_|intro _|refine C2 ht2 ?_|refine .mk ?_ ?_|refine AK ?_|refine AO ?_|fail));all_goals conv=>whnf)
   exact LeD.rfl
theorem add_d (m n:Nat) (hm:(ws m).length≤35184372088832) (hn:(ws n).length≤35184372088832):FnP Tryz.prog gl 185 [W m,W n] (W (m+n)):=by
 rcases Nat.lt_or_ge (ws m).length (ws n).length with h|h
 ·rw[Nat.add_comm];exact add_lt n m hn h
 ·exact add_ge m n hm h
end
section
variable {gl:List (Nat×List D)}
theorem val_set {l:List Nat} {i d:Nat} (h:i<l.length):val (l.set i d)+B32 ^ i * l[i]=val l+B32 ^ i * d:=by
 have e1:val (l.set i d)=val (l.take i)+B32 ^ i * (d+B32 * val (l.drop (i+1))):=by
  rw[List.set_eq_take_append_cons_drop,if_pos h,val_app,List.length_take,Nat.min_eq_left (by omega)];rfl
 have e2:val l=val (l.take i)+B32 ^ i * (l[i]+B32 * val (l.drop (i+1))):=by
  conv=>lhs;rw[← List.take_append_drop i l,val_app,List.length_take,Nat.min_eq_left (by omega),List.drop_eq_getElem_cons h]
  rfl
 rw[e1,e2,Nat.mul_add,Nat.mul_add];omega
theorem set_dig {p:List Nat} {k x:Nat} (h:∀ d ∈ p,d<B32) (hx:x<B32):∀ d ∈ p.set k x,d<B32:=fun d hd=>by
 rcases List.mem_or_eq_of_mem_set hd with h1|h1
 ·exact h d h1
 ·rw[h1];exact hx
theorem set_drop {p q:List Nat} {k x:Nat} (h:p.drop k=q.drop k):(p.set k x).drop (k+1)=q.drop (k+1):=by
 rw[List.drop_set_of_lt (by omega),← List.drop_drop,← List.drop_drop,h]
theorem mul_step {p q:List Nat} {i j a b c t vb:Nat} (hk:i+j<p.length) (ht:t=c+(a * b+p[i+j])) (h:val p+B32 ^ (i+j) * c=val q+B32 ^ i * (a * vb)) :
 val (p.set (i+j) (t % B32))+B32 ^ (i+(j+1)) * (t / B32)=val q+B32 ^ i * (a * (vb+B32 ^ j * b)):=by
 have h1:=val_set (d:=t % B32) hk
 have h2:B32 ^ (i+(j+1)) * (t / B32)=B32 ^ (i+j) * (B32 * (t / B32)):=by rw[← Nat.add_assoc,Nat.pow_succ,Nat.mul_assoc]
 have h3:B32 ^ (i+j) * (t % B32)+B32 ^ (i+j) * (B32 * (t / B32))=B32 ^ (i+j) * c+(B32 ^ (i+j) * (a * b)+B32 ^ (i+j) * p[i+j]):=by
  rw[← Nat.mul_add,Nat.mod_add_div,ht,Nat.mul_add,Nat.mul_add]
 have h4:B32 ^ i * (a * (vb+B32 ^ j * b))=B32 ^ i * (a * vb)+B32 ^ (i+j) * (a * b):=by
  rw[Nat.mul_add,Nat.mul_add,Nat.pow_add,Nat.mul_assoc,Nat.mul_left_comm a]
 rw[h2,h4]
 omega
theorem mul_lt {a b c p:Nat} (ha:a<B32) (hb:b<B32) (hc:c<B32) (hp:p<B32):c+(a * b+p)<18446744073709551616:=by
 simp only[B32] at *
 have:a * b≤4294967295 * 4294967295:=Nat.mul_le_mul (by omega) (by omega)
 omega
theorem mul_d (m n:Nat) (hm:(ws m).length≤35184372088832) (hn:(ws n).length≤35184372088832):FnP Tryz.prog gl 122 [W m,W n] (W (m * n)):=by
 have wa:=wD_len (ws m)
 have wb:=wD_len (ws n)
 by_cases ha0:(ws m).length=0
 ·have h0:(((wD (ws m)).length:Nat):Int)=0:=by rw[wa,ha0];rfl
  have:m=0:=ws_nil.1 (List.eq_nil_of_length_eq_zero ha0)
  refine S0 Tryz.func122 rfl ?_
  ((repeat' ((conv=>whnf);first|exact .intro|refine G ?_|intro _|refine .mk ?_ ?_|refine AK ?_|refine AO ?_|fail));all_goals conv=>whnf)
  simp only[this,Nat.zero_mul,ws_zero,W]
  exact nilW_le 1
 have h0:¬ (((wD (ws m)).length:Nat):Int)=0:=by rw[wa];omega
 by_cases hb0:(ws n).length=0
 ·have h1:(((wD (ws n)).length:Nat):Int)=0:=by rw[wb,hb0];rfl
  have:n=0:=ws_nil.1 (List.eq_nil_of_length_eq_zero hb0)
  refine S0 Tryz.func122 rfl ?_
  ((repeat' ((conv=>whnf);first|exact .intro|refine G ?_|intro _|refine .mk ?_ ?_|refine AK ?_|refine AO ?_|fail));all_goals conv=>whnf)
  simp only[this,Nat.mul_zero,ws_zero,W]
  exact nilW_le 1
 have h1:¬ (((wD (ws n)).length:Nat):Int)=0:=by rw[wb];omega
 have e1:IntKind.i64.wrap ((((wD (ws m)).length:Nat):Int)+(((wD (ws n)).length:Nat):Int))=(((ws m).length+(ws n).length:Nat):Int):=by rw[wa,wb,wrapI (by omega)];omega
 refine S0 Tryz.func122 rfl ?_
 ((repeat' ((conv=>whnf);first|exact .intro|refine G ?_|intro _|(rw[e1])|refine .mk ?_ ?_|refine AK ?_|refine AO ?_|fail));all_goals conv=>whnf)
 refine ⟨⟨by omega,by omega,by show (4:Int) * _≤_;omega,by omega⟩,?_⟩
 ((repeat' ((conv=>whnf);first|exact .intro|refine G ?_|intro _|refine .mk ?_ ?_|refine AK ?_|refine AO ?_|fail));all_goals conv=>whnf)
 refine ⟨{ σ:=(Nat×List Nat),fr:=fun s=>[(6,.c (.d (iD s.1)))],ks:=[0],L:=fun s=>[(0,.rows 1 (wD s.2) 221)],ex:=0,I:=fun s=>s.2.length=(ws m).length+(ws n).length∧s.1≤(ws m).length∧(∀ d ∈ s.2,d<B32)∧val s.2=val ((ws m).take s.1) * n∧s.2.drop (s.1+(ws n).length)=List.replicate ((ws m).length - s.1) 0,μ:=fun s=>(ws m).length - s.1 },⟨(0,List.replicate ((ws m).length+(ws n).length) 0),⟨by simp,Nat.zero_le _,by simp,by rw[val_zeros];show 0=0 * n;omega,by simp⟩,?_⟩,?_⟩
 ·((repeat' first|exact rfl|((conv=>whnf);first|done|exact suL|refine And.intro ?_ ?_|fail));all_goals conv=>whnf)
  show List.replicate (((ws m).length+(ws n).length:Nat):Int).toNat _=wD (List.replicate ((ws m).length+(ws n).length) 0)
  rw[wD_rep,Int.toNat_natCast]
  rfl
 ·rintro ⟨i,q⟩ ⟨q1,q2,q3,q4,q5⟩
  simp only at q1 q2 q3 q4 q5
  ((repeat' ((conv=>whnf);first|exact .intro|refine G ?_|intro _|refine .mk ?_ ?_|refine AK ?_|refine AO ?_|fail));all_goals conv=>whnf)
  ·rename_i hx
   have hia:i<(ws m).length:=by rw[wa] at hx;exact Int.ofNat_lt.1 hx
   have ha:=ws_lt m _ (List.getElem_mem hia)
   refine ⟨{ σ:=(Nat×List Nat×Nat),fr:=fun s=>[(7,.c (.d (.v (.int .u64 s.2.2)))),(8,.c (.d (iD s.1)))],ks:=[0],L:=fun s=>[(0,.rows 1 (wD s.2.1) 221)],ex:=0,I:=fun s=>s.2.1.length=(ws m).length+(ws n).length∧s.1≤(ws n).length∧(∀ d ∈ s.2.1,d<B32)∧s.2.2<B32∧s.2.1.drop (i+s.1)=q.drop (i+s.1)∧val s.2.1+B32 ^ (i+s.1) * s.2.2=val q+B32 ^ i * ((ws m)[i] * val ((ws n).take s.1)),μ:=fun s=>(ws n).length - s.1 },⟨(0,q,0),⟨q1,Nat.zero_le _,q3,Nat.zero_lt_succ _,rfl,by simp[val]⟩,?_⟩,?_⟩
   ·((repeat' first|exact rfl|((conv=>whnf);first|done|exact suL|refine And.intro ?_ ?_|fail));all_goals conv=>whnf)
   ·rintro ⟨j,p,c⟩ ⟨p1,p2,p3,p4,p5,p6⟩
    simp only at p1 p2 p3 p4 p5 p6
    ((repeat' ((conv=>whnf);first|exact .intro|refine G ?_|intro _|refine .mk ?_ ?_|refine AK ?_|refine AO ?_|fail));all_goals conv=>whnf)
    ·rename_i hy
     have hjb:j<(ws n).length:=by rw[wb] at hy;exact Int.ofNat_lt.1 hy
     have hb:=ws_lt n _ (List.getElem_mem hjb)
     have hij:i+j<p.length:=by omega
     have hpd:=p3 _ (List.getElem_mem hij)
     refine ⟨_,wget hia,?_⟩
     ((repeat' ((conv=>whnf);first|exact .intro|refine G ?_|intro _|refine .mk ?_ ?_|refine AK ?_|refine AO ?_|fail));all_goals conv=>whnf)
     refine ⟨_,wget hjb,?_⟩
     ((repeat' ((conv=>whnf);first|exact .intro|refine G ?_|intro _|refine .mk ?_ ?_|refine AK ?_|refine AO ?_|fail));all_goals conv=>whnf)
     have eij:IntKind.i64.wrap ((i:Int)+(j:Int))=((i+j:Nat):Int):=by rw[wrapI (by omega)];omega
     have hidx:0≤IntKind.i64.wrap ((i:Int)+(j:Int))∧IntKind.i64.wrap ((i:Int)+(j:Int))<((wD p).length:Nat):=by rw[eij,wD_len];exact ⟨Int.natCast_nonneg _,Int.ofNat_lt.2 hij⟩
     have hget:(wD p)[(IntKind.i64.wrap ((i:Int)+(j:Int))).toNat]?=some [u32D p[i+j]]:=by rw[eij];exact wget hij
     refine ⟨hidx,?_⟩
     ((repeat' ((conv=>whnf);first|exact .intro|refine G ?_|intro _|refine .mk ?_ ?_|refine AK ?_|refine AO ?_|fail));all_goals conv=>whnf)
     refine ⟨_,hget,?_⟩
     ((repeat' ((conv=>whnf);first|exact .intro|refine G ?_|intro _|refine .mk ?_ ?_|refine AK ?_|refine AO ?_|fail));all_goals conv=>whnf)
     refine ⟨_,hget,?_⟩
     ((repeat' ((conv=>whnf);first|exact .intro|refine G ?_|intro _|refine .mk ?_ ?_|refine AK ?_|refine AO ?_|fail));all_goals conv=>whnf)
     obtain ⟨t,ht⟩:∃ t,t=c+((ws m)[i] * (ws n)[j]+p[i+j]):=⟨_,rfl⟩
     have htl:t<18446744073709551616:=ht ▸ mul_lt ha hb p4 hpd
     have et:IntKind.u64.wrap ((c:Int)+IntKind.u64.wrap (IntKind.u64.wrap (IntKind.u64.wrap ((ws m)[i]:Int) * IntKind.u64.wrap ((ws n)[j]:Int))+IntKind.u64.wrap (p[i+j]:Int)))=(t:Int):=by
      simp only[B32] at ha hb hpd p4
      rw[w64 (x:=(ws m)[i]) (by omega),w64 (x:=(ws n)[j]) (by omega),w64 (x:=p[i+j]) (by omega),← Int.natCast_mul,w64 (x:=(ws m)[i] * (ws n)[j]) (by omega),← Int.natCast_add,w64 (by omega),← Int.natCast_add,← ht,w64 htl]
     refine ⟨(j+1,p.set (i+j) (t % B32),t / B32),⟨⟨by simpa using p1,hjb,set_dig p3 (Nat.mod_lt _ (by decide)),by simp only[B32];omega,set_drop p5,?_⟩,by show (ws n).length - (j+1)<(ws n).length - j;omega⟩,?_⟩
     ·rw[val_take_succ hjb];exact mul_step hij ht p6
     ·((repeat' first|exact rfl|((conv=>whnf);first|done|exact suL|refine And.intro ?_ ?_|fail));all_goals conv=>whnf)
      ·exact ceqK (show (IntKind.u64.wrap ((c:Int)+IntKind.u64.wrap (IntKind.u64.wrap (IntKind.u64.wrap ((ws m)[i]:Int) * IntKind.u64.wrap ((ws n)[j]:Int))+IntKind.u64.wrap (p[i+j]:Int)))).fdiv (2 ^ min (Int.toNat 32) IntKind.u64.bits)=((t / B32:Nat):Int) by rw[et,hi32])
      ·exact ceq (show IntKind.i64.wrap ((j:Int)+1)=((j+1:Nat):Int) by rw[wrapI (by omega)];rfl)
      ·show List.set (wD p) (IntKind.i64.wrap ((i:Int)+(j:Int))).toNat [D.v (.int .u32 (IntKind.u32.wrap (IntKind.u64.wrap ((c:Int)+IntKind.u64.wrap (IntKind.u64.wrap (IntKind.u64.wrap ((ws m)[i]:Int) * IntKind.u64.wrap ((ws n)[j]:Int))+IntKind.u64.wrap (p[i+j]:Int))))))]=wD (p.set (i+j) (t % B32))
       rw[eij,et,lo32,wset]
    ·rename_i hy
     have hj:j=(ws n).length:=by rw[wb] at hy;exact Nat.le_antisymm p2 (Nat.le_of_not_lt fun h=>hy (Int.ofNat_lt.2 h))
     subst hj
     have hk:i+(ws n).length<p.length:=by omega
     have eil:IntKind.i64.wrap ((i:Int)+(((wD (ws n)).length:Nat):Int))=((i+(ws n).length:Nat):Int):=by rw[wb,wrapI (by omega)];omega
     refine ⟨⟨by rw[eil];exact Int.natCast_nonneg _,by rw[eil,wD_len];exact Int.ofNat_lt.2 hk⟩,?_⟩
     ((repeat' ((conv=>whnf);first|exact .intro|refine G ?_|intro _|refine .mk ?_ ?_|refine AK ?_|refine AO ?_|fail));all_goals conv=>whnf)
     refine ⟨_,by rw[eil];exact wget hk,?_⟩
     ((repeat' ((conv=>whnf);first|exact .intro|refine G ?_|intro _|refine .mk ?_ ?_|refine AK ?_|refine AO ?_|fail));all_goals conv=>whnf)
     have hp0:p[i+(ws n).length]=0:=by
      have h2:(p.drop (i+(ws n).length))[0]?=some 0:=by
       rw[p5,q5,List.getElem?_replicate,if_pos (by omega)]
      rw[List.getElem?_drop,Nat.add_zero,List.getElem?_eq_getElem hk] at h2
      exact Option.some.inj h2
     have hv:=val_set (d:=c) hk
     rw[hp0,Nat.mul_zero,Nat.add_zero,p6,val_take_ge (Nat.le_refl _),val_ws] at hv
     refine ⟨(i+1,p.set (i+(ws n).length) c),⟨⟨by simpa using p1,hia,set_dig p3 p4,?_,?_⟩,by show (ws m).length - (i+1)<(ws m).length - i;omega⟩,?_⟩
     ·rw[hv,q4,val_take_succ hia,Nat.add_mul,Nat.mul_assoc]
     ·rw[show i+1+(ws n).length=i+(ws n).length+1 by omega,set_drop p5,← List.drop_drop,q5,List.drop_replicate]
      congr 1
     ·((repeat' first|exact rfl|((conv=>whnf);first|done|exact suL|refine And.intro ?_ ?_|fail));all_goals conv=>whnf)
      ·exact ceq (show IntKind.i64.wrap ((i:Int)+1)=((i+1:Nat):Int) by rw[wrapI (by omega)];rfl)
      ·show List.set (wD p) (IntKind.i64.wrap ((i:Int)+(((wD (ws n)).length:Nat):Int))).toNat [D.v (.int .u32 (IntKind.u32.wrap (c:Int)))]=wD (p.set (i+(ws n).length) c)
       rw[eil,lo32,Nat.mod_eq_of_lt p4,wset]
  ·rename_i hx
   have hi:i=(ws m).length:=by rw[wa] at hx;exact Nat.le_antisymm q2 (Nat.le_of_not_lt fun h=>hx (Int.ofNat_lt.2 h))
   subst hi
   have ht:=trim_d (gl:=gl) q q3 (by unfold maxLen;omega)
   rw[q4,val_take_ge (Nat.le_refl _),val_ws] at ht
   ((repeat' ((conv=>whnf);first|exact .intro|refine G ?_|intro _|refine C2 ht ?_|refine .mk ?_ ?_|refine AK ?_|refine AO ?_|fail));all_goals conv=>whnf)
   exact LeD.rfl
end
section
variable {gl:List (Nat×List D)}
abbrev fD:D:=.v (.bool false)
theorem give_fl (m:Nat) (u:Value) (l:List (List D))  : Go.EYtfkjhfdpphfjhaaGreatDoor.Fn Tryz.prog gl 120 [.c (.ptr 0 0),.c (.d fD),.c (.d (W m))] [(0,.var [.d (.v u),.d (.lst 1 l)] 118)] 1 (.ret (.c (.ptr 0 0))) [(0,.var [.d fD,.d (W m)] 118)] 1 []:=by
 refine S1 Tryz.func120 rfl ?_
 ((repeat' ((conv=>whnf);first|exact .intro|refine G ?_|intro _|refine .mk ?_ ?_|refine AK ?_|refine AO ?_|fail));all_goals conv=>whnf)
 ((repeat' first|exact rfl|((conv=>whnf);first|done|exact suL|refine And.intro ?_ ?_|fail));all_goals conv=>whnf)
theorem give_bv (m:Nat) (u:Value) (v:Value) {p:Prop} (i:Decidable p) (h:¬ p):Go.EYtfkjhfdpphfjhaaGreatDoor.Fn Tryz.prog gl 120 [.c (.ptr 0 0),.c (.d (.b p i)),.c (.d (W m))] [(0,.var [.d (.v u),.d (.v v)] 118)] 1 (.ret (.c (.ptr 0 0))) [(0,.var [.d fD,.d (W m)] 118)] 1 []:=by
 refine S1 Tryz.func120 rfl ?_
 ((repeat' ((conv=>whnf);first|exact .intro|refine G ?_|intro _|refine .mk ?_ ?_|refine AK ?_|refine AO ?_|fail));all_goals conv=>whnf)
 ((repeat' first|exact rfl|((conv=>whnf);first|done|exact suL|refine And.intro ?_ ?_|fail));all_goals conv=>whnf)
theorem give_bl (m:Nat) (u:Value) (l:List (List D)) {p:Prop} (i:Decidable p) (h:¬ p):Go.EYtfkjhfdpphfjhaaGreatDoor.Fn Tryz.prog gl 120 [.c (.ptr 0 0),.c (.d (.b p i)),.c (.d (W m))] [(0,.var [.d (.v u),.d (.lst 1 l)] 118)] 1 (.ret (.c (.ptr 0 0))) [(0,.var [.d fD,.d (W m)] 118)] 1 []:=by
 refine S1 Tryz.func120 rfl ?_
 ((repeat' ((conv=>whnf);first|exact .intro|refine G ?_|intro _|refine .mk ?_ ?_|refine AK ?_|refine AO ?_|fail));all_goals conv=>whnf)
 ((repeat' first|exact rfl|((conv=>whnf);first|done|exact suL|refine And.intro ?_ ?_|fail));all_goals conv=>whnf)
theorem SetInt64_p (n:Nat) (h:n<9223372036854775808) (u v:Value):Go.EYtfkjhfdpphfjhaaGreatDoor.Fn Tryz.prog gl 119 [.c (.ptr 0 0),.c (.d (iD n))] [(0,.var [.d (.v u),.d (.v v)] 118)] 1 (.ret (.c (.ptr 0 0))) [(0,.var [.d fD,.d (W n)] 118)] 1 []:=by
 have h0:¬ (n:Int)<0:=by omega
 have hw:FnP Tryz.prog gl 184 [.v (.int .u64 (IntKind.u64.wrap (n:Int)))] (W n):=by rw[w64 (by omega)];exact words_d n (by omega)
 refine S1 Tryz.func119 rfl ?_
 ((repeat' ((conv=>whnf);first|exact .intro|refine G ?_|intro _|refine C5 (give_bv n u v _ h0) [0] ?_|refine C1 hw ?_|refine .mk ?_ ?_|refine AK ?_|refine AO ?_|fail));all_goals conv=>whnf)
 ((repeat' first|exact rfl|((conv=>whnf);first|done|exact suL|refine And.intro ?_ ?_|fail));all_goals conv=>whnf)
theorem NewInt_p (n:Nat) (h:n<9223372036854775808):FnP Tryz.prog gl 69 [iD n] (.imm [fD,W n]):=by
 refine S0 Tryz.func69 rfl ?_
 ((repeat' ((conv=>whnf);first|exact .intro|refine G ?_|intro _|refine C5 (SetInt64_p n h (.bool false) (.slice none 0 0)) [0] ?_|refine .mk ?_ ?_|refine AK ?_|refine AO ?_|fail));all_goals conv=>whnf)
 exact LeD.rfl
theorem Mul_p (m n:Nat) (hm:(ws m).length≤35184372088832) (hn:(ws n).length≤35184372088832):Go.EYtfkjhfdpphfjhaaGreatDoor.Fn Tryz.prog gl 72 [.c (.ptr 0 0),.c (.ptr 0 0),.c (.d (.imm [fD,W n]))] [(0,.var [.d fD,.d (W m)] 118)] 1 (.ret (.c (.ptr 0 0))) [(0,.var [.d fD,.d (W (m * n))] 118)] 1 []:=by
 have hx:=mul_d (gl:=gl) m n hm hn
 refine S1 Tryz.func72 rfl ?_
 ((repeat' ((conv=>whnf);first|exact .intro|refine G ?_|intro _|refine C5 (give_fl (m * n) (.bool false) (wD (ws m))) [0] ?_|refine .inr (X5 ((give_bl (m * n) (.bool false) (wD (ws m)) _ (by decide)).r [0] _) ?_)|refine .inl (.inr (X5 ((give_bl (m * n) (.bool false) (wD (ws m)) _ (by decide)).r [0] _) ?_))|refine .inl (X5 ((give_bl (m * n) (.bool false) (wD (ws m)) _ (by decide)).r [0] _) ?_)|refine C1 hx ?_|refine .mk ?_ ?_|refine AK ?_|refine AO ?_|fail));all_goals conv=>whnf)
 ((repeat' first|exact rfl|((conv=>whnf);first|done|exact suL|refine And.intro ?_ ?_|fail));all_goals conv=>whnf)
theorem sum_p (m n:Nat) (hm:(ws m).length≤35184372088832) (hn:(ws n).length≤35184372088832):FnP Tryz.prog gl 121 [fD,W m,fD,W n] (.tup [fD,W (m+n)]):=by
 have hx:=add_d (gl:=gl) m n (by omega) (by omega)
 refine S0 Tryz.func121 rfl ?_
 ((repeat' ((conv=>whnf);first|exact .intro|refine G ?_|intro _|refine C1 hx ?_|refine .mk ?_ ?_|refine AK ?_|refine AO ?_|fail));all_goals conv=>whnf)
 exact LeD.rfl
theorem Add_p (m n:Nat) (hm:(ws m).length≤35184372088832) (hn:(ws n).length≤35184372088832):Go.EYtfkjhfdpphfjhaaGreatDoor.Fn Tryz.prog gl 70 [.c (.ptr 0 0),.c (.ptr 0 0),.c (.d (.imm [fD,W n]))] [(0,.var [.d fD,.d (W m)] 118)] 1 (.ret (.c (.ptr 0 0))) [(0,.var [.d fD,.d (W (m+n))] 118)] 1 []:=by
 have hx:=sum_p (gl:=gl) m n hm hn
 refine S1 Tryz.func70 rfl ?_
 ((repeat' ((conv=>whnf);first|exact .intro|refine G ?_|intro _|refine C5 (give_fl (m+n) (.bool false) (wD (ws m))) [0] ?_|refine C1 hx ?_|refine .mk ?_ ?_|refine AK ?_|refine AO ?_|fail));all_goals conv=>whnf)
 ((repeat' first|exact rfl|((conv=>whnf);first|done|exact suL|refine And.intro ?_ ?_|fail));all_goals conv=>whnf)
theorem IsInt64_p (n:Nat) (hn:(ws n).length≤35184372088832):FnP Tryz.prog gl 124 [.imm [fD,W n]] (.b (n<9223372036854775808) inferInstance):=by
 have hl:=length_d (gl:=gl) n (by omega)
 have hb:=blen_le (n:=n) (k:=63)
 refine S0 Tryz.func124 rfl ?_
 ((repeat' ((conv=>whnf);first|exact .intro|refine G ?_|intro _|refine C1 hl ?_|refine .mk ?_ ?_|refine AK ?_|refine AO ?_|fail));all_goals conv=>whnf)
 all_goals first|exact LeD.bt (by omega)|exact LeD.bf (by omega)
theorem Fits_p (n:Nat) (hn:(ws n).length≤35184372088832):FnP Tryz.prog gl 74 [.imm [fD,W n]] (.b (n<9223372036854775808) inferInstance):=by
 have hl:=IsInt64_p (gl:=gl) n (by omega)
 refine S0 Tryz.func74 rfl ?_
 ((repeat' ((conv=>whnf);first|exact .intro|refine G ?_|intro _|refine C1 hl ?_|refine .mk ?_ ?_|refine AK ?_|refine AO ?_|fail));all_goals conv=>whnf)
 exact LeD.rfl
theorem or32 {a h:Nat} (ha:a<B32) (hh:h<B32):((BitVec.ofInt 64 (a:Int) ||| BitVec.ofInt 64 ((h * 4294967296:Nat):Int)).toNat:Int)=((a+B32 * h:Nat):Int):=by
 simp only[B32] at *
 rw[BitVec.ofInt_natCast,BitVec.ofInt_natCast,BitVec.toNat_or,BitVec.toNat_ofNat,BitVec.toNat_ofNat,Nat.mod_eq_of_lt (by omega),Nat.mod_eq_of_lt (by omega),Nat.or_comm]
 have:=Nat.shiftLeft_add_eq_or_of_lt (i:=32) (b:=a) (by omega) h
 rw[Nat.shiftLeft_eq] at this
 rw[← this];omega
theorem Uint64_p (n:Nat) (hn:n<18446744073709551616):FnP Tryz.prog gl 125 [.imm [fD,W n]] (.v (.int .u64 n)):=by
 by_cases h0:n=0
 ·subst h0
  simp only[W,ws_zero,wD,List.map]
  refine S0 Tryz.func125 rfl ?_
  ((repeat' ((conv=>whnf);first|exact .intro|refine G ?_|intro _|refine .mk ?_ ?_|refine AK ?_|refine AO ?_|fail));all_goals conv=>whnf)
  exact LeD.rfl
 by_cases h1:n<B32
 ·have e:ws n=[n]:=by rw[ws_pos h0,Nat.div_eq_of_lt h1,Nat.mod_eq_of_lt h1,ws_zero]
  simp only[W,e,wD,List.map]
  refine S0 Tryz.func125 rfl ?_
  ((repeat' ((conv=>whnf);first|exact .intro|refine G ?_|intro _|refine .mk ?_ ?_|refine AK ?_|refine AO ?_|fail));all_goals conv=>whnf)
  refine ⟨_,rfl,?_⟩
  ((repeat' ((conv=>whnf);first|exact .intro|refine G ?_|intro _|refine .mk ?_ ?_|refine AK ?_|refine AO ?_|fail));all_goals conv=>whnf)
  exact LeD.of (by rw[w64 hn];rfl)
 have h2:n / B32<B32:=by simp only[B32] at *;omega
 have h3:n % B32<B32:=Nat.mod_lt _ (by decide)
 have e:ws n=[n % B32,n / B32]:=by rw[ws_pos h0,ws_pos (n:=n / B32) (by simp only[B32] at *;omega),Nat.mod_eq_of_lt h2,Nat.div_eq_of_lt h2,ws_zero]
 have ec:n=n % B32+B32 * (n / B32):=(Nat.mod_add_div n B32).symm
 generalize n % B32=a at *
 generalize n / B32=b at *
 simp only[W,e,wD,List.map]
 refine S0 Tryz.func125 rfl ?_
 ((repeat' ((conv=>whnf);first|exact .intro|refine G ?_|intro _|refine .mk ?_ ?_|refine AK ?_|refine AO ?_|fail));all_goals conv=>whnf)
 refine ⟨_,rfl,?_⟩
 ((repeat' ((conv=>whnf);first|exact .intro|refine G ?_|intro _|refine .mk ?_ ?_|refine AK ?_|refine AO ?_|fail));all_goals conv=>whnf)
 refine ⟨_,rfl,?_⟩
 ((repeat' ((conv=>whnf);first|exact .intro|refine G ?_|intro _|refine .mk ?_ ?_|refine AK ?_|refine AO ?_|fail));all_goals conv=>whnf)
 refine LeD.of ?_
 show D.v (.int .u64 (IntKind.u64.wrap ((BitVec.ofInt 64 (IntKind.u64.wrap (a:Int)) ||| BitVec.ofInt 64 (IntKind.u64.wrap (IntKind.u64.wrap (b:Int) * 4294967296))).toNat:Int)))=_
 have h2':=h2
 have h3':=h3
 simp only[B32] at h2' h3'
 rw[w64 (x:=a) (by omega),w64 (x:=b) (by omega),show (b:Int) * 4294967296=((b * 4294967296:Nat):Int) by omega,w64 (x:=b * 4294967296) (by omega),or32 h3 h2,← ec,w64 hn]
theorem Int64_p (n:Nat) (hn:n<9223372036854775808):FnP Tryz.prog gl 75 [.imm [fD,W n]] (iD n):=by
 have hl:=Uint64_p (gl:=gl) n (by omega)
 refine S0 Tryz.func75 rfl ?_
 ((repeat' ((conv=>whnf);first|exact .intro|refine G ?_|intro _|refine C1 hl ?_|refine .mk ?_ ?_|refine AK ?_|refine AO ?_|fail));all_goals conv=>whnf)
 exact LeD.of (by rw[wrapI (by omega)];rfl)
end
end Go.Proofs.YtfkjhfdpphfjhaaGreatDoor
