/- Proved: a part of what the law is proved with (the reckoner, contracts of functions, plain laws). Conditions: as each says. -/
import Derived.Test.YtdpigpahfiachaaGreatDoorXBd
section
namespace Go.Proofs.YtdpigpahfiachaaGreatDoor
open Go Go.EYtdpigpahfiachaaGreatDoor
set_option maxRecDepth 100000
variable {gl:List (Nat×List D)}
theorem small_step {a b d r t v q:Nat} (ht:t=r * 4294967296+a) (h:v=q * d+r) (hv:b=a+B32 * v):b=(t / d+B32 * q) * d+t % d:=by
 have h1:=Nat.div_add_mod t d
 have h2:(t / d+B32 * q) * d=d * (t / d)+B32 * (q * d):=by rw[Nat.add_mul,Nat.mul_comm (t / d) d,Nat.mul_assoc]
 rw[h2,hv,h]
 simp only[B32] at *
 rw[Nat.mul_add]
 omega
theorem bigSmall_d (n d:Nat) (hd:0<d) (hd2:d<B32) (hn:(ws n).length≤8796093022208):FnP Tryz.prog gl 218 [W n,.v (.int .u32 d)] (.tup [W (n / d),.v (.int .u32 ((n % d:Nat):Int))]):=by
 have wa:=wD_len (ws n)
 have e1:IntKind.i64.wrap ((((wD (ws n)).length:Nat):Int) - 1)=(((ws n).length:Nat):Int) - 1:=by rw[wa,wrapI (by omega)]
 refine fnP_of_vc (nv:=9999) (cu:=[]) fits mixed Tryz.func218 rfl hoB rfl ?_
 ((repeat' ((conv=>whnf);first|exact .intro|refine .ya ?_|refine .na ?_|refine .ys ?_|refine .ns ?_|refine .neg (fun _=>?_) (fun _=>?_)|refine .mk (fun _=>?_) (fun _=>?_)|refine .mk ?_ ?_|refine AK ?_|refine And.intro (by first|(first|omega|(simp;done);done)|fail) ?_|fail));all_goals conv=>whnf)
 refine ⟨⟨by omega,by omega,by show (4:Int) * _≤_;rw[wa];omega,by rw[wa];omega⟩,?_⟩
 ((repeat' ((conv=>whnf);first|exact .intro|refine .ya ?_|refine .na ?_|refine .ys ?_|refine .ns ?_|refine .neg (fun _=>?_) (fun _=>?_)|refine .mk (fun _=>?_) (fun _=>?_)|refine .mk ?_ ?_|refine AK ?_|refine And.intro (by first|(first|omega|(simp;done);done)|fail) ?_|fail));all_goals conv=>whnf)
 refine ⟨{ σ:=(Nat×List Nat×Nat),fr:=fun s=>[(7,.c (.d (.v (.int .u64 s.2.2)))),(8,.c (.d (iD ((s.1:Int) - 1))))],ks:=[0],L:=fun s=>[(0,.rows 1 (wD (List.replicate s.1 0++s.2.1)) 244)],ex:=0,I:=fun s=>s.1+s.2.1.length=(ws n).length∧(∀ x ∈ s.2.1,x<B32)∧s.2.2<d∧val ((ws n).drop s.1)=val s.2.1 * d+s.2.2,μ:=fun s=>s.1 },⟨((ws n).length,[],0),⟨rfl,by simp,hd,by simp[val]⟩,?_⟩,?_⟩
 ·((repeat' first|exact rfl|((conv=>whnf);first|done|exact suL|refine And.intro ?_ ?_|fail));all_goals conv=>whnf)
  ·exact ceq e1
  ·show List.replicate (((wD (ws n)).length:Nat):Int).toNat _=wD (List.replicate (ws n).length 0++[])
   rw[List.append_nil,wD_rep,Int.toNat_natCast,wa]
   rfl
 ·rintro ⟨k,q,r⟩ ⟨h1,h2,h3,h4⟩
  simp only at h1 h2 h3 h4
  ((repeat' ((conv=>whnf);first|exact .intro|refine .ya ?_|refine .na ?_|refine .ys ?_|refine .ns ?_|refine .neg (fun _=>?_) (fun _=>?_)|refine .mk (fun _=>?_) (fun _=>?_)|refine .mk ?_ ?_|refine AK ?_|refine And.intro (by first|(first|omega|(simp;done);done)|fail) ?_|fail));all_goals conv=>whnf)
  ·rename_i hx
   obtain ⟨k,rfl⟩:∃ j,k=j+1:=⟨k - 1,by have hx':0≤(k:Int) - 1:=hx;omega⟩
   have hk:k<(ws n).length:=by omega
   have ek:((k+1:Nat):Int) - 1=(k:Int):=by omega
   have hget:(wD (ws n))[(((k+1:Nat):Int) - 1).toNat]?=some [u32D (ws n)[k]]:=by rw[ek];exact wget hk
   have ha:=ws_lt n _ (List.getElem_mem hk)
   refine ⟨_,hget,?_⟩
   have hl:(List.replicate (k+1) 0++q).length=(ws n).length:=by simp;omega
   have hil:((k+1:Nat):Int) - 1<((wD (List.replicate (k+1) 0++q)).length:Nat):=by rw[wD_len,hl];omega
   have hget2:(wD (List.replicate (k+1) 0++q))[(((k+1:Nat):Int) - 1).toNat]?=some [u32D (List.replicate (k+1) 0++q)[k]]:=by rw[ek];exact wget (by omega)
   have hnn:0≤((k+1:Nat):Int) - 1:=by omega
   have hd0:¬ IntKind.u64.wrap (d:Int)=0:=by rw[w64 (by simp only[B32] at hd2;omega)];omega
   ((repeat' ((conv=>whnf);first|exact .intro|refine .ya ?_|refine .na ?_|refine .ys ?_|refine .ns ?_|refine .neg (fun _=>?_) (fun _=>?_)|refine .mk (fun _=>?_) (fun _=>?_)|refine .mk ?_ ?_|refine AK ?_|refine And.intro (by first|(first|exact ⟨hnn,hil⟩|assumption|omega|(simp;done);done)|fail) ?_|fail));all_goals conv=>whnf)
   refine ⟨_,hget2,?_⟩
   ((repeat' ((conv=>whnf);first|exact .intro|refine .ya ?_|refine .na ?_|refine .ys ?_|refine .ns ?_|refine .neg (fun _=>?_) (fun _=>?_)|refine .mk (fun _=>?_) (fun _=>?_)|refine .mk ?_ ?_|refine AK ?_|refine AT ?_|fail));all_goals conv=>whnf)
   obtain ⟨t,ht⟩:∃ t,t=r * 4294967296+(ws n)[k]:=⟨_,rfl⟩
   have htl:t<d * 4294967296:=by simp only[B32] at ha;have:=Nat.mul_le_mul_right 4294967296 (show r+1≤d from h3);rw[Nat.add_mul] at this;omega
   have et:IntKind.u64.wrap ((BitVec.ofInt 64 (IntKind.u64.wrap ((r:Int) * 2 ^ min (Int.toNat 32) IntKind.u64.bits)) ||| BitVec.ofInt 64 (IntKind.u64.wrap ((ws n)[k]:Int))).toNat:Int)=(t:Int):=by
    have ha':=ha
    simp only[B32] at ha' hd2
    rw[show (2:Int) ^ min (Int.toNat 32) IntKind.u64.bits=4294967296 from by decide,show (r:Int) * 4294967296=((r * 4294967296:Nat):Int) by omega,w64 (x:=r * 4294967296) (by omega),w64 (x:=(ws n)[k]) (by omega),BitVec.or_comm,or32 ha (show r<B32 by simp only[B32];omega),w64 (by simp only[B32];omega),ht]
    simp only[B32];omega
   have hq:t / d<B32:=Nat.div_lt_of_lt_mul htl
   refine ⟨(k,t / d::q,t % d),⟨⟨by simp;omega,?_,Nat.mod_lt _ hd,?_⟩,by show k<k+1;omega⟩,?_⟩
   ·intro x hx
    rcases List.mem_cons.1 hx with rfl|hx
    ·exact hq
    ·exact h2 x hx
   ·rw[List.drop_eq_getElem_cons hk]
    exact small_step ht h4 rfl
   ·have hdw:IntKind.u64.wrap (d:Int)=(d:Int):=w64 (by simp only[B32] at hd2;omega)
    ((repeat' first|exact rfl|((conv=>whnf);first|done|exact suL|refine And.intro ?_ ?_|fail));all_goals conv=>whnf)
    ·exact ceqK (show Int.tmod (IntKind.u64.wrap ((BitVec.ofInt 64 (IntKind.u64.wrap ((r:Int) * 2 ^ min (Int.toNat 32) IntKind.u64.bits)) ||| BitVec.ofInt 64 (IntKind.u64.wrap ((ws n)[k]:Int))).toNat:Int)) (IntKind.u64.wrap (d:Int))=((t % d:Nat):Int) by rw[et,hdw];rfl)
    ·exact ceq (show IntKind.i64.wrap (((k+1:Nat):Int) - 1 - 1)=(k:Int) - 1 by rw[wrapI (by omega)];omega)
    ·show List.set (wD (List.replicate (k+1) 0++q)) (((k+1:Nat):Int) - 1).toNat [D.v (.int .u32 (IntKind.u32.wrap (IntKind.u64.wrap (Int.tdiv (IntKind.u64.wrap ((BitVec.ofInt 64 (IntKind.u64.wrap ((r:Int) * 2 ^ min (Int.toNat 32) IntKind.u64.bits)) ||| BitVec.ofInt 64 (IntKind.u64.wrap ((ws n)[k]:Int))).toNat:Int)) (IntKind.u64.wrap (d:Int))))))]=wD (List.replicate k 0++(t / d::q))
     rw[et,hdw,ek,show Int.tdiv (t:Int) (d:Int)=((t / d:Nat):Int) from rfl,w64 (by simp only[B32] at hq;omega),lo32,Nat.mod_eq_of_lt hq,wset,List.replicate_succ',List.append_assoc]
     congr 1
     rw[List.set_append_right _ _ (by simp)]
     simp
  ·rename_i hx
   obtain rfl:k=0:=by
    have hx':¬ 0≤(k:Int) - 1:=hx
    omega
   have hv:n=val q * d+r:=by rw[List.drop_zero,val_ws] at h4;exact h4
   have e2:n / d=val q:=by rw[hv,Nat.mul_comm,Nat.mul_add_div hd,Nat.div_eq_of_lt h3,Nat.add_zero]
   have e3:n % d=r:=by rw[hv,Nat.mul_add_mod_self_right,Nat.mod_eq_of_lt h3]
   have ht:=trim_d (gl:=gl) (List.replicate 0 0++q) h2 (by simp at h1 ⊢;unfold maxLen;omega)
   rw[show val (List.replicate 0 0++q)=n / d by rw[e2];rfl] at ht
   ((repeat' ((conv=>whnf);first|exact .intro|refine .ya ?_|refine .na ?_|refine .ys ?_|refine .ns ?_|refine .neg (fun _=>?_) (fun _=>?_)|refine .mk (fun _=>?_) (fun _=>?_)|refine .inr (X1 (by first|exact ht) ?_)|refine .mk ?_ ?_|refine AK ?_|refine And.intro (by first|(first|omega|(simp;done);done)|fail) ?_|fail));all_goals conv=>whnf)
   refine LeD.of ?_
   have hr:r<B32:=by omega
   rw[e3]
   show D.tup [W (n / d),D.v (.int .u32 (IntKind.u32.wrap (r:Int)))]=_
   rw[lo32,Nat.mod_eq_of_lt hr]
end Go.Proofs.YtdpigpahfiachaaGreatDoor
end
