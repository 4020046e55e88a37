/- Proved: a part of what the law is proved with (the reckoner, contracts of functions, plain laws). Conditions: as each says. -/
import Derived.Test.YtcdjjjokniinkaaGreatDoorYCc
import Derived.Test.YtcdjjjokniinkaaGreatDoorYGi
import Derived.Test.YtcdjjjokniinkaaGreatDoorYGm
import Derived.Test.YtcdjjjokniinkaaGreatDoorYLb
import Derived.Test.YtcdjjjokniinkaaGreatDoorYRa
import Derived.Test.YtcdjjjokniinkaaGreatDoorYSg
section
namespace Go.Proofs.YtcdjjjokniinkaaGreatDoor
open Go Go.EYtcdjjjokniinkaaGreatDoor
set_option maxRecDepth 100000
set_option maxHeartbeats 4000000
variable {gl:List (Nat×List D)}
theorem in_d (s:List UInt8) (hs:s.length≤1099511627776) {p:Prop} (i:Decidable p) (q:Prop) [Decidable q] (hq:p↔q):FnP Tryz.prog gl 48 [.str s,.b p i] (.str (brN s q)):=by
 have q1:1+s.length≤9223372036854775807:=by omega
 have q2:([40]++s).length+1≤9223372036854775807:=by rw[List.length_append,List.length_singleton];omega
 unfold brN
 by_cases hp:p
 ·rw[if_pos (hq.1 hp)]
  refine fnP_of_vc (nv:=9999) (cu:=[]) fits mixed Tryz.func48 rfl hoB rfl ?_
  ((repeat' ((conv=>whnf);first|exact .intro|refine .ya ?_|refine .na ?_|refine .ys ?_|refine .ns ?_|refine .neg (fun _=>?_) (fun _=>?_)|refine .mk (fun _=>?_) (fun _=>?_)|(first|refine ⟨q1,?_⟩|refine ⟨q2,?_⟩)|refine .mk ?_ ?_|refine AK ?_|refine AT ?_|fail));all_goals conv=>whnf)
  exact LeD.rfl
 ·rw[if_neg (fun h=>hp (hq.2 h))]
  refine fnP_of_vc (nv:=9999) (cu:=[]) fits mixed Tryz.func48 rfl hoB rfl ?_
  ((repeat' ((conv=>whnf);first|exact .intro|refine .ya ?_|refine .na ?_|refine .ys ?_|refine .ns ?_|refine .neg (fun _=>?_) (fun _=>?_)|refine .mk (fun _=>?_) (fun _=>?_)|refine .mk ?_ ?_|refine AK ?_|refine AT ?_|fail));all_goals conv=>whnf)
  exact LeD.rfl
theorem dl10_rv (n:Nat):n≠0→(dl10 n).reverse=Lib.decDigits n:=by
 induction n using Nat.strongRecOn with
 | ind n ih =>
  intro h
  rw[dl10_pos h,List.reverse_cons]
  by_cases h10:n<10
  ·rw[show n / 10=0 by omega,dl10_zero,decDigits_small h10,show n % 10=n by omega];rfl
  ·rw[ih (n / 10) (by omega) (by omega),decDigits_big h10];rfl
theorem decB_itoa (n:Nat):decB n=Lib.decDigits n:=by
 unfold decB
 split
 ·subst n;rw[decDigits_small (by omega)];rfl
 ·rename_i h;exact dl10_rv n h
theorem tight_r (n:Nd) {box:Prop} (hf:frmN n box):FnP Tryz.prog gl 50 [.agg n.cs] (iD (if tgtN n<5 then tgtN n else 9)):=by
 obtain ⟨k,m,t,a,b,ks⟩:=n
 by_cases h8:k=8
 ·subst h8
  rw[frm_8] at hf
  have c1:=Tight_d (gl:=gl) m.toNat
  rw[show ((m.toNat:Nat):Int)=m by omega] at c1
  rw[show (if tgtN (.mk 8 m t a b ks)<5 then tgtN (.mk 8 m t a b ks) else 9)=(tgt m.toNat:Int) by simp only[tgtN,tgt,if_true];(repeat' split) <;> omega]
  refine fnP_of_vc (nv:=9999) (cu:=[]) fits mixed Tryz.func50 rfl hoB rfl ?_
  ((repeat' ((conv=>whnf);first|exact .intro|refine .ya ?_|refine .na ?_|refine .ys ?_|refine .ns ?_|refine .neg (fun _=>?_) (fun _=>?_)|refine .mk (fun _=>?_) (fun _=>?_)|refine .inl (.inl (X1 (c1) ?_))|refine .inl (X1 (c1) ?_)|refine X1 (c1) ?_|refine .mk ?_ ?_|refine AK ?_|refine AT ?_|fail));all_goals conv=>whnf)
  exact LeD.rfl
 ·rw[show (if tgtN (.mk k m t a b ks)<5 then tgtN (.mk k m t a b ks) else 9)=9 by simp only[tgtN,if_neg h8];rfl]
  refine fnP_of_vc (nv:=9999) (cu:=[]) fits mixed Tryz.func50 rfl hoB rfl ?_
  ((repeat' ((conv=>whnf);first|exact .intro|refine .ya ?_|refine .na ?_|refine .ys ?_|refine .ns ?_|refine .neg (fun _=>?_) (fun _=>?_)|refine .mk (fun _=>?_) (fun _=>?_)|refine .mk ?_ ?_|refine AK ?_|refine AT ?_|fail));all_goals conv=>whnf)
  exact LeD.rfl
theorem SignText_d {m:Int} (h:1≤m∧m≤11):FnP Tryz.prog gl 51 [iD m] (.str (sgnN m)):=by
 have hm:m=1∨m=2∨m=3∨m=4∨m=5∨m=6∨m=7∨m=8∨m=9∨m=10∨m=11:=by omega
 rcases hm with rfl|rfl|rfl|rfl|rfl|rfl|rfl|rfl|rfl|rfl|rfl
 all_goals refine fnP_of_vc (nv:=9999) (cu:=[]) fits mixed Tryz.func51 rfl hoB rfl ?_
 all_goals ((repeat' ((conv=>whnf);first|exact .intro|refine .ya ?_|refine .na ?_|refine .ys ?_|refine .ns ?_|refine .neg (fun _=>?_) (fun _=>?_)|refine .mk (fun _=>?_) (fun _=>?_)|refine .mk ?_ ?_|refine AK ?_|refine AT ?_|fail));all_goals conv=>whnf)
 all_goals refine ⟨_,rfl,?_⟩
 all_goals ((repeat' ((conv=>whnf);first|exact .intro|refine .ya ?_|refine .na ?_|refine .ys ?_|refine .ns ?_|refine .neg (fun _=>?_) (fun _=>?_)|refine .mk (fun _=>?_) (fun _=>?_)|refine .mk ?_ ?_|refine AK ?_|refine AT ?_|fail));all_goals conv=>whnf)
 all_goals exact LeD.rfl
theorem Text_1 (m:Int) (t:List UInt8) (a b:Rf) (ks:List Nd) (h0:0≤m) (hm:okI m):FnP Tryz.prog gl 24 [.agg (Nd.mk 1 m t a b ks).cs] (.str (wrN (.mk 1 m t a b ks))):=by
 have c1:=Digits_p (gl:=gl) m.toNat (by omega)
 rw[show ((m.toNat:Nat):Int)=m by omega,show decB m.toNat=wrN (.mk 1 m t a b ks) by rw[wrN,if_pos rfl,decB_itoa];unfold Lib.itoa;rw[if_neg (by omega)]] at c1
 refine fnP_of_vc (nv:=9999) (cu:=[]) fits mixed Tryz.func24 rfl hoB rfl ?_
 ((repeat' ((conv=>whnf);first|exact .intro|refine .ya ?_|refine .na ?_|refine .ys ?_|refine .ns ?_|refine .neg (fun _=>?_) (fun _=>?_)|refine .mk (fun _=>?_) (fun _=>?_)|refine .inl (.inl (X1 (c1) ?_))|refine .inl (X1 (c1) ?_)|refine X1 (c1) ?_|refine .mk ?_ ?_|refine AK ?_|refine AT ?_|fail));all_goals conv=>whnf)
 exact LeD.rfl
theorem Text_3 (m:Int) (t:List UInt8) (a b:Rf) (ks:List Nd):FnP Tryz.prog gl 24 [.agg (Nd.mk 3 m t a b ks).cs] (.str (wrN (.mk 3 m t a b ks))):=by
 rw[wrN,if_neg (by decide),if_neg (by decide),if_pos rfl]
 by_cases h1:m=1
 ·have c1:=rTru_y (gl:=gl) (inferInstanceAs (Decidable (m=1))) h1
  have c2:FnP Tryz.prog gl 44 [vlD 3 1 []] (.str tT):=by
   refine fnP_of_vc (nv:=9999) (cu:=[]) fits mixed Tryz.func44 rfl hoB rfl ?_
   ((repeat' ((conv=>whnf);first|exact .intro|refine .ya ?_|refine .na ?_|refine .ys ?_|refine .ns ?_|refine .neg (fun _=>?_) (fun _=>?_)|refine .mk (fun _=>?_) (fun _=>?_)|refine .mk ?_ ?_|refine AK ?_|refine AT ?_|fail));all_goals conv=>whnf)
   exact LeD.rfl
  rw[if_pos h1]
  refine fnP_of_vc (nv:=9999) (cu:=[]) fits mixed Tryz.func24 rfl hoB rfl ?_
  ((repeat' ((conv=>whnf);first|exact .intro|refine .ya ?_|refine .na ?_|refine .ys ?_|refine .ns ?_|refine .neg (fun _=>?_) (fun _=>?_)|refine .mk (fun _=>?_) (fun _=>?_)|refine .inl (.inl (X1 (by first|exact c1|exact c2) ?_))|refine .inl (X1 (by first|exact c1|exact c2) ?_)|refine X1 (by first|exact c1|exact c2) ?_|refine .mk ?_ ?_|refine AK ?_|refine AT ?_|fail));all_goals conv=>whnf)
  exact LeD.rfl
 ·have c1:=rTru_n (gl:=gl) (inferInstanceAs (Decidable (m=1))) h1
  have c2:FnP Tryz.prog gl 44 [vlD 3 0 []] (.str tF):=by
   refine fnP_of_vc (nv:=9999) (cu:=[]) fits mixed Tryz.func44 rfl hoB rfl ?_
   ((repeat' ((conv=>whnf);first|exact .intro|refine .ya ?_|refine .na ?_|refine .ys ?_|refine .ns ?_|refine .neg (fun _=>?_) (fun _=>?_)|refine .mk (fun _=>?_) (fun _=>?_)|refine .mk ?_ ?_|refine AK ?_|refine AT ?_|fail));all_goals conv=>whnf)
   exact LeD.rfl
  rw[if_neg h1]
  refine fnP_of_vc (nv:=9999) (cu:=[]) fits mixed Tryz.func24 rfl hoB rfl ?_
  ((repeat' ((conv=>whnf);first|exact .intro|refine .ya ?_|refine .na ?_|refine .ys ?_|refine .ns ?_|refine .neg (fun _=>?_) (fun _=>?_)|refine .mk (fun _=>?_) (fun _=>?_)|refine .inl (.inl (X1 (by first|exact c1|exact c2) ?_))|refine .inl (X1 (by first|exact c1|exact c2) ?_)|refine X1 (by first|exact c1|exact c2) ?_|refine .mk ?_ ?_|refine AK ?_|refine AT ?_|fail));all_goals conv=>whnf)
  exact LeD.rfl
theorem Text_4 (m:Int) (t:List UInt8) (a b:Rf) (ks:List Nd) (hm:1≤m∧m≤6):FnP Tryz.prog gl 24 [.agg (Nd.mk 4 m t a b ks).cs] (.str (wrN (.mk 4 m t a b ks))):=by
 rw[wrN,if_neg (by decide),if_neg (by decide),if_neg (by decide),if_pos rfl]
 have c1:=rBad_d (gl:=gl) m
 have c2:FnP Tryz.prog gl 44 [vlD 4 m []] (.str (tx.getD m.toNat [])):=by
  have hN:m.toNat<7:=by omega
  have g:=txr_get hN
  rw[Int.toNat_natCast] at g
  refine fnP_of_vc (nv:=9999) (cu:=[]) fits mixed Tryz.func44 rfl hoB rfl ?_
  ((repeat' ((conv=>whnf);first|exact .intro|refine .ya ?_|refine .na ?_|refine .ys ?_|refine .ns ?_|refine .neg (fun _=>?_) (fun _=>?_)|refine .mk (fun _=>?_) (fun _=>?_)|refine .inl (.inl (X1 (Wrongs_d) ?_))|refine .inl (X1 (Wrongs_d) ?_)|refine X1 (Wrongs_d) ?_|refine .mk ?_ ?_|refine AK ?_|refine AT ?_|fail));all_goals conv=>whnf)
  refine ⟨_,g,?_⟩
  ((repeat' ((conv=>whnf);first|exact .intro|refine .ya ?_|refine .na ?_|refine .ys ?_|refine .ns ?_|refine .neg (fun _=>?_) (fun _=>?_)|refine .mk (fun _=>?_) (fun _=>?_)|refine .mk ?_ ?_|refine AK ?_|refine AT ?_|fail));all_goals conv=>whnf)
  exact LeD.rfl
 refine fnP_of_vc (nv:=9999) (cu:=[]) fits mixed Tryz.func24 rfl hoB rfl ?_
 ((repeat' ((conv=>whnf);first|exact .intro|refine .ya ?_|refine .na ?_|refine .ys ?_|refine .ns ?_|refine .neg (fun _=>?_) (fun _=>?_)|refine .mk (fun _=>?_) (fun _=>?_)|refine .inl (.inl (X1 (by first|exact c1|exact c2) ?_))|refine .inl (X1 (by first|exact c1|exact c2) ?_)|refine X1 (by first|exact c1|exact c2) ?_|refine .mk ?_ ?_|refine AK ?_|refine AT ?_|fail));all_goals conv=>whnf)
 exact LeD.rfl
theorem Text_5 (m:Int) (t:List UInt8) (a b:Rf) (ks:List Nd) (ha:okP a.c a.r):FnP Tryz.prog gl 24 [.agg (Nd.mk 5 m t a b ks).cs] (.str (wrN (.mk 5 m t a b ks))):=by
 rw[wrN,if_neg (by decide),if_neg (by decide),if_neg (by decide),if_neg (by decide),if_pos rfl]
 have c1:=refRefName_s (gl:=gl) (fc:=a.fc) (fr:=a.fr) ha
 refine fnP_of_vc (nv:=9999) (cu:=[]) fits mixed Tryz.func24 rfl hoB rfl ?_
 ((repeat' ((conv=>whnf);first|exact .intro|refine .ya ?_|refine .na ?_|refine .ys ?_|refine .ns ?_|refine .neg (fun _=>?_) (fun _=>?_)|refine .mk (fun _=>?_) (fun _=>?_)|refine .inl (.inl (X1 (c1) ?_))|refine .inl (X1 (c1) ?_)|refine X1 (c1) ?_|refine .mk ?_ ?_|refine AK ?_|refine AT ?_|fail));all_goals conv=>whnf)
 exact LeD.rfl
theorem Text_6 (m:Int) (t:List UInt8) (a b:Rf) (ks:List Nd) (ha:okP a.c a.r) (hb:okP b.c b.r):FnP Tryz.prog gl 24 [.agg (Nd.mk 6 m t a b ks).cs] (.str (wrN (.mk 6 m t a b ks))):=by
 rw[wrN,if_neg (by decide),if_neg (by decide),if_neg (by decide),if_neg (by decide),if_neg (by decide),if_pos rfl]
 have c1:=refRefName_s (gl:=gl) (fc:=a.fc) (fr:=a.fr) ha
 have c2:=refRefName_s (gl:=gl) (fc:=b.fc) (fr:=b.fr) hb
 change FnP Tryz.prog gl 47 [_] (.str (nmR a)) at c1
 change FnP Tryz.prog gl 47 [_] (.str (nmR b)) at c2
 have l1:=nmR_len a
 have l2:=nmR_len b
 have q1:(nmR a).length+1≤9223372036854775807:=by omega
 have q2:(nmR a++[58]).length+(nmR b).length≤9223372036854775807:=by rw[List.length_append,List.length_singleton];omega
 refine fnP_of_vc (nv:=9999) (cu:=[]) fits mixed Tryz.func24 rfl hoB rfl ?_
 ((repeat' ((conv=>whnf);first|exact .intro|refine .ya ?_|refine .na ?_|refine .ys ?_|refine .ns ?_|refine .neg (fun _=>?_) (fun _=>?_)|refine .mk (fun _=>?_) (fun _=>?_)|refine .inl (.inl (X1 (by first|exact c1|exact c2) ?_))|refine .inl (X1 (by first|exact c1|exact c2) ?_)|refine X1 (by first|exact c1|exact c2) ?_|(first|refine ⟨q1,?_⟩|refine ⟨q2,?_⟩)|refine .mk ?_ ?_|refine AK ?_|refine AT ?_|fail));all_goals conv=>whnf)
 exact LeD.of (congrArg D.str (by simp))
end Go.Proofs.YtcdjjjokniinkaaGreatDoor
end
section
namespace Go.Proofs.YtcdjjjokniinkaaGreatDoor
open Go Go.EYtcdjjjokniinkaaGreatDoor
set_option maxRecDepth 100000
set_option maxHeartbeats 4000000
variable {gl:List (Nat×List D)}
theorem dqN_snoc (l:List UInt8) (c:UInt8):dqN (l++[c])=dqN l++(if c=34 then [34,34] else [c]):=by
 induction l with
 | nil=>simp only[List.nil_append,dqN]
 | cons x r ih =>
  simp only[List.cons_append,dqN,ih]
  split <;> simp
theorem Text_2 (m:Int) (t:List UInt8) (a b:Rf) (ks:List Nd) (ht:t.length≤1048576):FnP Tryz.prog gl 24 [.agg (Nd.mk 2 m t a b ks).cs] (.str (wrN (.mk 2 m t a b ks))):=by
 rw[wrN,if_neg (by decide),if_pos rfl]
 refine fnP_of_vc (nv:=20) (cu:=[]) fits mixed Tryz.func24 rfl hoB rfl ?_
 ((repeat' ((conv=>whnf);first|exact .intro|refine .ya ?_|refine .na ?_|refine .ys ?_|refine .ns ?_|refine .neg (fun _=>?_) (fun _=>?_)|refine .mk (fun _=>?_) (fun _=>?_)|refine .mk ?_ ?_|refine AK ?_|refine AT ?_|fail));all_goals conv=>whnf)
 refine ⟨⟨rfl,by decide,by decide⟩,?_⟩
 ((repeat' ((conv=>whnf);first|exact .intro|refine .ya ?_|refine .na ?_|refine .ys ?_|refine .ns ?_|refine .neg (fun _=>?_) (fun _=>?_)|refine .mk (fun _=>?_) (fun _=>?_)|refine .mk ?_ ?_|refine AK ?_|refine AT ?_|fail));all_goals conv=>whnf)
 refine ⟨{ σ:=Nat,fr:=fun x=>[(4,.c (.d (iD (x:Int)))),(3,.c (.all 1 2))],ks:=[2],L:=fun x=>[(2,.rows 1 (bD (34::dqN (t.take x))) 5)],ex:=0,I:=fun x=>x≤t.length,μ:=fun x=>t.length - x },⟨0,Nat.zero_le _,?_⟩,fun (x:Nat) hx=>?_⟩
 ·((repeat' first|exact rfl|((conv=>whnf);first|done|exact suL|refine And.intro ?_ ?_|fail));all_goals conv=>whnf)
 ·replace hx:x≤t.length:=hx
  have hd:=dqN_len (t.take x)
  rw[List.length_take,Nat.min_eq_left hx] at hd
  have q:∀ l:List UInt8,l.length≤4194304→(bD l).length+1≤140737488355328∧(bD l).length+1≤maxLen:=fun l hl=>by rw[bD_len];unfold maxLen;omega
  have q1:=q (34::dqN (t.take x)) (by rw[List.length_cons];omega)
  have q2:=q (34::(dqN (t.take x)++[34])) (by rw[List.length_cons,List.length_append,List.length_singleton];omega)
  by_cases hlt:x<t.length
  ·have h1:(x:Int)<((t.length:Nat):Int):=by omega
   have hs:=dqN_snoc (t.take x) (t.getD x 0)
   rw[show t.take x++[t.getD x 0]=t.take (x+1) by rw[List.take_succ_eq_append_getElem hlt,List.getD,List.getElem?_eq_getElem hlt];rfl] at hs
   by_cases hc:(((t.getD ((x:Nat):Int).toNat 0).toNat:Nat):Int)=34
   ·rw[if_pos (by have:=(byt 34 hlt).1 hc;rw[List.getD,this];rfl)] at hs
    ((repeat' ((conv=>whnf);first|exact .intro|refine .ya ?_|refine .na ?_|refine .ys ?_|refine .ns ?_|refine .neg (fun _=>?_) (fun _=>?_)|refine .mk (fun _=>?_) (fun _=>?_)|refine .mk ?_ ?_|refine AK ?_|refine AT ?_|fail));all_goals conv=>whnf)
    refine ⟨⟨rfl,by show (_+1) * 1≤_;rw[Nat.mul_one];exact q1.1,q1.2⟩,?_⟩
    ((repeat' ((conv=>whnf);first|exact .intro|refine .ya ?_|refine .na ?_|refine .ys ?_|refine .ns ?_|refine .neg (fun _=>?_) (fun _=>?_)|refine .mk (fun _=>?_) (fun _=>?_)|refine .mk ?_ ?_|refine AK ?_|refine AT ?_|fail));all_goals conv=>whnf)
    refine ⟨⟨rfl,?_,?_⟩,?_⟩
    ·show ((bD (34::dqN (t.take x))++[u8D 34]).length+1) * 1≤_
     rw[← bD_app,Nat.mul_one]
     exact q2.1
    ·show (bD (34::dqN (t.take x))++[u8D 34]).length+1≤_
     rw[← bD_app]
     exact q2.2
    ((repeat' ((conv=>whnf);first|exact .intro|refine .ya ?_|refine .na ?_|refine .ys ?_|refine .ns ?_|refine .neg (fun _=>?_) (fun _=>?_)|refine .mk (fun _=>?_) (fun _=>?_)|refine .mk ?_ ?_|refine AK ?_|refine AT ?_|fail));all_goals conv=>whnf)
    refine ⟨x+1,⟨hlt,by show t.length - (x+1)<t.length - x;omega⟩,?_⟩
    ((repeat' first|exact rfl|((conv=>whnf);first|done|exact suL|refine And.intro ?_ ?_|fail));all_goals conv=>whnf)
    ·exact ceq (by rw[wrapI (by omega)];rfl)
    ·rw[hs]
     rw[Int.toNat_natCast] at *
     first|(rw[hc];simp[bD,u8D])|simp[bD,u8D]
   ·rw[if_neg (by intro e;exact hc (by rw[Int.toNat_natCast,e];rfl))] at hs
    ((repeat' ((conv=>whnf);first|exact .intro|refine .ya ?_|refine .na ?_|refine .ys ?_|refine .ns ?_|refine .neg (fun _=>?_) (fun _=>?_)|refine .mk (fun _=>?_) (fun _=>?_)|refine .mk ?_ ?_|refine AK ?_|refine AT ?_|fail));all_goals conv=>whnf)
    refine ⟨⟨rfl,by show (_+1) * 1≤_;rw[Nat.mul_one];exact q1.1,q1.2⟩,?_⟩
    ((repeat' ((conv=>whnf);first|exact .intro|refine .ya ?_|refine .na ?_|refine .ys ?_|refine .ns ?_|refine .neg (fun _=>?_) (fun _=>?_)|refine .mk (fun _=>?_) (fun _=>?_)|refine .mk ?_ ?_|refine AK ?_|refine AT ?_|fail));all_goals conv=>whnf)
    refine ⟨x+1,⟨hlt,by show t.length - (x+1)<t.length - x;omega⟩,?_⟩
    ((repeat' first|exact rfl|((conv=>whnf);first|done|exact suL|refine And.intro ?_ ?_|fail));all_goals conv=>whnf)
    ·exact ceq (by rw[wrapI (by omega)];rfl)
    ·rw[hs]
     rw[Int.toNat_natCast] at *
     first|(rw[hc];simp[bD,u8D])|simp[bD,u8D]
  ·have h1:¬ (x:Int)<((t.length:Nat):Int):=by omega
   obtain rfl:x=t.length:=by omega
   have q1':=q1
   have hd':=hd
   ((repeat' ((conv=>whnf);first|exact .intro|refine .ya ?_|refine .na ?_|refine .ys ?_|refine .ns ?_|refine .neg (fun _=>?_) (fun _=>?_)|refine .mk (fun _=>?_) (fun _=>?_)|refine .mk ?_ ?_|refine AK ?_|refine AT ?_|fail));all_goals conv=>whnf)
   refine ⟨⟨rfl,by show (_+1) * 1≤_;rw[Nat.mul_one];exact q1'.1,q1'.2⟩,?_⟩
   ((repeat' ((conv=>whnf);first|exact .intro|refine .ya ?_|refine .na ?_|refine .ys ?_|refine .ns ?_|refine .neg (fun _=>?_) (fun _=>?_)|refine .mk (fun _=>?_) (fun _=>?_)|refine .mk ?_ ?_|refine AK ?_|refine AT ?_|fail));all_goals conv=>whnf)
   refine ⟨34::(dqN t++[34]),by rw[List.take_length];simp[bD,u8D],?_⟩
   ((repeat' ((conv=>whnf);first|exact .intro|refine .ya ?_|refine .na ?_|refine .ys ?_|refine .ns ?_|refine .neg (fun _=>?_) (fun _=>?_)|refine .mk (fun _=>?_) (fun _=>?_)|refine .mk ?_ ?_|refine AK ?_|refine AT ?_|fail));all_goals conv=>whnf)
   exact LeD.rfl
end Go.Proofs.YtcdjjjokniinkaaGreatDoor
end
section
namespace Go.Proofs.YtcdjjjokniinkaaGreatDoor
open Go Go.EYtcdjjjokniinkaaGreatDoor
set_option maxRecDepth 100000
set_option maxHeartbeats 4000000
variable {gl:List (Nat×List D)}
theorem wr7_eq (m:Int) (t:List UInt8) (a b:Rf) (x:Nd):wrN (.mk 7 m t a b [x])=45::brN (wrN x) (tgtN x<5):=by
 rw[wrN,if_neg (by decide),if_neg (by decide),if_neg (by decide),if_neg (by decide),if_neg (by decide),if_neg (by decide),if_pos rfl]
 rfl
theorem wr8_eq (m:Int) (t:List UInt8) (a b:Rf) (x y:Nd):wrN (.mk 8 m t a b [x,y])=brN (wrN x) (tgtN x<tgtN (.mk 8 m t a b [x,y]))++(sgnN m++brN (wrN y) (tgtN y≤tgtN (.mk 8 m t a b [x,y]))):=by
 rw[wrN,if_neg (by decide),if_neg (by decide),if_neg (by decide),if_neg (by decide),if_neg (by decide),if_neg (by decide),if_neg (by decide),if_pos rfl]
 rfl
theorem wr9_eq (m:Int) (t:List UInt8) (a b:Rf) (ks:List Nd):wrN (.mk 9 m t a b ks)=t++40::(comN (wrL ks)++[41]):=by
 rw[wrN,if_neg (by decide),if_neg (by decide),if_neg (by decide),if_neg (by decide),if_neg (by decide),if_neg (by decide),if_neg (by decide),if_neg (by decide),if_pos rfl]
theorem tgt_5 {k m:Int} {t:List UInt8} {a b:Rf} {ks:List Nd}:k=8↔tgtN (.mk k m t a b ks)<5:=by
 simp only[tgtN]
 constructor
 ·rintro rfl
  rw[if_pos rfl]
  (repeat' split) <;> omega
 ·intro h
  by_cases h8:k=8
  ·exact h8
  ·rw[if_neg h8] at h
   omega
theorem tgt_r {m:Int} {t:List UInt8} {a b:Rf} {ks:List Nd} (h:1≤m):((tgt m.toNat:Nat):Int)=tgtN (.mk 8 m t a b ks)∧tgtN (.mk 8 m t a b ks)<5:=by
 simp only[tgtN,tgt,if_true]
 (repeat' split) <;> omega
theorem ceqS {x y:List UInt8} (h:x=y) {P:Prop}:C.d (.str y)=C.junk∨C.d (.str x)=C.d (.str y)∨P:=.inr (.inl (congrArg (fun z=>C.d (.str z)) h))
abbrev TxOk (gl:List (Nat×List D)) (n:Nd):Prop:=FnP Tryz.prog gl 24 [.agg n.cs] (.str (wrN n))
theorem Text_7 (m:Int) (t:List UInt8) (a b:Rf) (x:Nd) (hw:TxOk gl x) (hl:(wrN x).length≤549755813888):TxOk gl (.mk 7 m t a b [x]):=by
 unfold TxOk
 rw[wr7_eq]
 obtain ⟨kx,mx,tx,ax,bx,sx⟩:=x
 have g1:(Nd.csL [.mk kx mx tx ax bx sx])[(0:Int).toNat]?=some [iD kx,iD mx,.str tx,iD ax.c,iD ax.r,tD ax.fc,tD ax.fr,iD bx.c,iD bx.r,tD bx.fc,tD bx.fr,.lst 12 (Nd.csL sx)]:=rfl
 have c2:=in_d (gl:=gl) (wrN (.mk kx mx tx ax bx sx)) (by omega) (Int.instDecidableEq kx 8) (tgtN (.mk kx mx tx ax bx sx)<5) tgt_5
 have hb:=brN_len (wrN (.mk kx mx tx ax bx sx)) (tgtN (.mk kx mx tx ax bx sx)<5)
 have q1:1+(brN (wrN (.mk kx mx tx ax bx sx)) (tgtN (.mk kx mx tx ax bx sx)<5)).length≤9223372036854775807:=by omega
 refine fnP_of_vc (nv:=9999) (cu:=[]) fits mixed Tryz.func24 rfl hoB rfl ?_
 ((repeat' ((conv=>whnf);first|exact .intro|refine .ya ?_|refine .na ?_|refine .ys ?_|refine .ns ?_|refine .neg (fun _=>?_) (fun _=>?_)|refine .mk (fun _=>?_) (fun _=>?_)|refine .inl (.inl (X1 (by first|exact hw|exact c2) ?_))|refine .inl (X1 (by first|exact hw|exact c2) ?_)|refine X1 (by first|exact hw|exact c2) ?_|(first|refine ⟨Int.le_refl _,_,g1,?_⟩|refine ⟨q1,?_⟩)|refine .mk ?_ ?_|refine AK ?_|refine AT ?_|fail));all_goals conv=>whnf)
 exact LeD.rfl
theorem Text_8 (m:Int) (t:List UInt8) (a b:Rf) (x y:Nd) {bx by':Prop} (hm:1≤m∧m≤11) (hfx:frmN x bx) (hfy:frmN y by') (hwx:TxOk gl x) (hwy:TxOk gl y) (hlx:(wrN x).length≤549755813888) (hly:(wrN y).length≤549755813888):TxOk gl (.mk 8 m t a b [x,y]):=by
 unfold TxOk
 rw[wr8_eq]
 unfold TxOk at hwx hwy
 have hk:=tgt_r (m:=m) (t:=t) (a:=a) (b:=b) (ks:=[x,y]) hm.1
 have c0:=Tight_d (gl:=gl) m.toNat
 rw[hk.1,show ((m.toNat:Nat):Int)=m by omega] at c0
 have c1:=tight_r (gl:=gl) x hfx
 have c2:=tight_r (gl:=gl) y hfy
 have c5:=SignText_d (gl:=gl) hm
 generalize htg:tgtN (.mk 8 m t a b [x,y])=tg at *
 have e1:(if tgtN x<5 then tgtN x else 9)<tg↔tgtN x<tg:=by split <;> omega
 have e2:(if tgtN y<5 then tgtN y else 9)≤tg↔tgtN y≤tg:=by split <;> omega
 have c3:=in_d (gl:=gl) (wrN x) (by omega) (inferInstanceAs (Decidable ((if tgtN x<5 then tgtN x else 9)<tg))) (tgtN x<tg) e1
 have c4:=in_d (gl:=gl) (wrN y) (by omega) (inferInstanceAs (Decidable ((if tgtN y<5 then tgtN y else 9)≤tg))) (tgtN y≤tg) e2
 have l1:=brN_len (wrN x) (tgtN x<tg)
 have l2:=brN_len (wrN y) (tgtN y≤tg)
 have l3:=sgnN_len hm
 generalize (if tgtN x<5 then tgtN x else 9)=tx' at *
 generalize (if tgtN y<5 then tgtN y else 9)=ty' at *
 generalize hbx:brN (wrN x) (tgtN x<tg)=bxs at *
 generalize hby:brN (wrN y) (tgtN y≤tg)=bys at *
 generalize wrN x=sx' at *
 generalize wrN y=sy' at *
 obtain ⟨kx,mx,tx,ax,bx,sx⟩:=x
 obtain ⟨ky,my,ty,ay,by_,sy⟩:=y
 have g1:(Nd.csL [.mk kx mx tx ax bx sx,.mk ky my ty ay by_ sy])[(0:Int).toNat]?=some [iD kx,iD mx,.str tx,iD ax.c,iD ax.r,tD ax.fc,tD ax.fr,iD bx.c,iD bx.r,tD bx.fc,tD bx.fr,.lst 12 (Nd.csL sx)]:=rfl
 have g2:(Nd.csL [.mk kx mx tx ax bx sx,.mk ky my ty ay by_ sy])[(1:Int).toNat]?=some [iD ky,iD my,.str ty,iD ay.c,iD ay.r,tD ay.fc,tD ay.fr,iD by_.c,iD by_.r,tD by_.fc,tD by_.fr,.lst 12 (Nd.csL sy)]:=rfl
 have q1:bxs.length+(sgnN m).length≤9223372036854775807:=by omega
 have q2:(bxs++sgnN m).length+bys.length≤9223372036854775807:=by rw[List.length_append];omega
 refine fnP_of_vc (nv:=9999) (cu:=[]) fits mixed Tryz.func24 rfl hoB rfl ?_
 ((repeat' ((conv=>whnf);first|exact .intro|refine .ya ?_|refine .na ?_|refine .ys ?_|refine .ns ?_|refine .neg (fun _=>?_) (fun _=>?_)|refine .mk (fun _=>?_) (fun _=>?_)|refine .inl (.inl (X1 (by first|exact hwx|exact hwy|exact c0|exact c1|exact c2|exact c3|exact c4|exact c5) ?_))|refine .inl (X1 (by first|exact hwx|exact hwy|exact c0|exact c1|exact c2|exact c3|exact c4|exact c5) ?_)|refine X1 (by first|exact hwx|exact hwy|exact c0|exact c1|exact c2|exact c3|exact c4|exact c5) ?_|(first|refine ⟨Int.le_refl _,_,g1,?_⟩|refine ⟨by decide,_,g2,?_⟩|refine ⟨q1,?_⟩|refine ⟨q2,?_⟩)|refine .mk ?_ ?_|refine AK ?_|refine AT ?_|fail));all_goals conv=>whnf)
 exact LeD.of (congrArg D.str (List.append_assoc _ _ _))
theorem Text_9 (m:Int) (t:List UInt8) (a b:Rf) (ks:List Nd) (ht:t.length≤1048576) (hc:cntL ks≤200) (hw:∀ x (h:x<ks.length),TxOk gl ks[x]) (hl:∀ x (h:x<ks.length),(wrN ks[x]).length+3≤cntN ks[x] * 2097200):TxOk gl (.mk 9 m t a b ks):=by
 unfold TxOk
 rw[wr9_eq]
 have hlen:=kid_len ks
 have hkc:=len_cnt ks
 have q1:t.length+1≤9223372036854775807:=by omega
 have com:∀ x,(comN (wrL (ks.take x))).length≤cntL (ks.take x) * 2097200:=fun x=>Nat.le_trans (com_len _) (sum_len _ fun y hy=>by
  rw[List.getElem_take]
  exact hl y (by rw[List.length_take] at hy;omega))
 refine fnP_of_vc (nv:=9999) (cu:=[]) fits mixed Tryz.func24 rfl hoB rfl ?_
 ((repeat' ((conv=>whnf);first|exact .intro|refine .ya ?_|refine .na ?_|refine .ys ?_|refine .ns ?_|refine .neg (fun _=>?_) (fun _=>?_)|refine .mk (fun _=>?_) (fun _=>?_)|(refine ⟨q1,?_⟩)|refine .mk ?_ ?_|refine AK ?_|refine AT ?_|fail));all_goals conv=>whnf)
 refine ⟨{ σ:=Nat,fr:=fun x=>[(12,.c (.d (iD (x:Int)))),(11,.c (.d (.str (t++[40]++comN (wrL (ks.take x))))))],ks:=[],L:=fun x=>[],ex:=0,I:=fun x=>x≤ks.length,μ:=fun x=>ks.length - x },⟨0,Nat.zero_le _,?_⟩,fun (x:Nat) hx=>?_⟩
 ·((repeat' first|exact rfl|((conv=>whnf);first|done|exact suL|refine And.intro ?_ ?_|fail));all_goals conv=>whnf)
  exact ceqS (by simp[wrL,comN])
 ·replace hx:x≤ks.length:=hx
  have hcx:=com x
  have hls:(t++[40]++comN (wrL (ks.take x))).length=t.length+1+(comN (wrL (ks.take x))).length:=by rw[List.length_append,List.length_append,List.length_singleton]
  by_cases hlt:x<ks.length
  ·have h2:(x:Int)<((Nd.csL ks).length:Nat):=by omega
   have g1:=kid_get hlt
   have hct:=cntL_take hlt
   have hcl:=cntL_le ks (x+1)
   have hlx:=hl x hlt
   have e0:IntKind.i64.wrap ((x:Int)+1)=((x+1:Nat):Int):=by rw[wrapI (by omega)];rfl
   have hsn:=com_snoc (wrL (ks.take x)) (wrN ks[x])
   rw[← wrL_succ hlt,wrL_len,List.length_take,Nat.min_eq_left hx] at hsn
   have c1:=hw x hlt
   generalize ks[x]=q at *
   obtain ⟨k1,m1,t1,a1,b1,ks1⟩:=q
   change (Nd.csL ks)[((x:Nat):Int).toNat]?=some [iD k1,iD m1,.str t1,iD a1.c,iD a1.r,tD a1.fc,tD a1.fr,iD b1.c,iD b1.r,tD b1.fc,tD b1.fr,.lst 12 (Nd.csL ks1)] at g1
   by_cases h0:x=0
   ·subst h0
    rw[if_pos rfl,List.append_nil] at hsn
    have hp:¬ ((0:Nat):Int)>0:=by decide
    have q2:(t++[40]++comN (wrL (ks.take 0))).length+(wrN (.mk k1 m1 t1 a1 b1 ks1)).length≤9223372036854775807:=by omega
    ((repeat' ((conv=>whnf);first|exact .intro|refine .ya ?_|refine .na ?_|refine .ys ?_|refine .ns ?_|refine .neg (fun _=>?_) (fun _=>?_)|refine .mk (fun _=>?_) (fun _=>?_)|refine .inl (.inl (X1 (c1) ?_))|refine .inl (X1 (c1) ?_)|refine X1 (c1) ?_|(first|refine ⟨Int.natCast_nonneg _,_,g1,?_⟩|refine ⟨q2,?_⟩)|refine .mk ?_ ?_|refine AK ?_|refine AT ?_|fail));all_goals conv=>whnf)
    refine ⟨0+1,⟨hlt,by show ks.length - (0+1)<ks.length - 0;omega⟩,?_⟩
    ((repeat' first|exact rfl|((conv=>whnf);first|done|exact suL|refine And.intro ?_ ?_|fail));all_goals conv=>whnf)
    exact ceqS (by rw[hsn];simp only[List.append_assoc])
   ·rw[if_neg h0] at hsn
    have hp:(x:Int)>0:=by omega
    have q3:(t++[40]++comN (wrL (ks.take x))).length+1≤9223372036854775807:=by omega
    have q2:(t++[40]++comN (wrL (ks.take x))++[44]).length+(wrN (.mk k1 m1 t1 a1 b1 ks1)).length≤9223372036854775807:=by rw[List.length_append,List.length_singleton];omega
    ((repeat' ((conv=>whnf);first|exact .intro|refine .ya ?_|refine .na ?_|refine .ys ?_|refine .ns ?_|refine .neg (fun _=>?_) (fun _=>?_)|refine .mk (fun _=>?_) (fun _=>?_)|refine .inl (.inl (X1 (c1) ?_))|refine .inl (X1 (c1) ?_)|refine X1 (c1) ?_|(first|refine ⟨Int.natCast_nonneg _,_,g1,?_⟩|refine ⟨q2,?_⟩|refine ⟨q3,?_⟩)|refine .mk ?_ ?_|refine AK ?_|refine AT ?_|fail));all_goals conv=>whnf)
    refine ⟨x+1,⟨hlt,by show ks.length - (x+1)<ks.length - x;omega⟩,?_⟩
    ((repeat' first|exact rfl|((conv=>whnf);first|done|exact suL|refine And.intro ?_ ?_|fail));all_goals conv=>whnf)
    all_goals first
     | exact ceq e0
     | exact ceqS (by rw[hsn];simp only[List.append_assoc])
  ·have h2:¬ (x:Int)<((Nd.csL ks).length:Nat):=by omega
   obtain rfl:x=ks.length:=by omega
   have hcl:=cntL_le ks ks.length
   have q3:(t++[40]++comN (wrL (ks.take ks.length))).length+1≤9223372036854775807:=by omega
   ((repeat' ((conv=>whnf);first|exact .intro|refine .ya ?_|refine .na ?_|refine .ys ?_|refine .ns ?_|refine .neg (fun _=>?_) (fun _=>?_)|refine .mk (fun _=>?_) (fun _=>?_)|(refine ⟨q3,?_⟩)|refine .mk ?_ ?_|refine AK ?_|refine AT ?_|fail));all_goals conv=>whnf)
   exact LeD.of (congrArg D.str (by rw[List.take_length];simp))
theorem rText_d (n:Nd):∀ {box:Prop},frmN n box→okN n→cntN n≤200→TxOk gl n:=by
 match n with
 | .mk k m t a b ks =>
  intro box hf ho hc
  have ih:∀ x (h:x<ks.length),∀ {box:Prop},frmN ks[x] box→okN ks[x]→cntN ks[x]≤200→TxOk gl ks[x]:=fun x h=>rText_d ks[x]
  have hcl:cntL ks+1≤200:=hc
  have hcx:∀ x (h:x<ks.length),cntN ks[x]≤199:=fun x h=>by
   have h1:=cntL_take h
   have h2:=cntL_le ks (x+1)
   omega
  have hlx:∀ x (h:x<ks.length),∀ {box:Prop},frmN ks[x] box→(wrN ks[x]).length≤549755813888:=fun x h _ hfx=>by
   have h1:=wr_len _ hfx (okL_get ho.2.2 h)
   have h2:=hcx x h
   omega
  have hk:k=1∨k=2∨k=3∨k=4∨k=5∨k=6∨k=7∨k=8∨k=9:=by
   by_cases hk:k<1∨9<k
   ·exact absurd hf (frm_0 hk)
   ·omega
  rcases hk with rfl|rfl|rfl|rfl|rfl|rfl|rfl|rfl|rfl
  ·rw[frm_1] at hf
   exact Text_1 m t a b ks hf.2.2.2 ho.1
  ·exact Text_2 m t a b ks ho.2.1
  ·exact Text_3 m t a b ks
  ·rw[frm_4] at hf
   exact Text_4 m t a b ks ⟨by omega,by omega⟩
  ·rw[frm_5] at hf
   exact Text_5 m t a b ks hf.2.2.2.2
  ·rw[frm_6] at hf
   exact Text_6 m t a b ks hf.2.2.2.2.1 hf.2.2.2.2.2
  ·rw[frm_7] at hf
   have hq:=hf.2.2.2.2
   obtain ⟨x,rfl⟩:=List.length_eq_one_iff.1 hf.1
   have f:=frmL_iff.1 hq 0 (by simp)
   have:=hcx 0 (by simp)
   exact Text_7 m t a b x (ih 0 (by simp) f (okL_get ho.2.2 (by simp)) (by omega)) (hlx 0 (by simp) f)
  ·rw[frm_8] at hf
   have hq:=hf.2.2.2.2.2
   obtain ⟨x,y,rfl⟩:∃ x y,ks=[x,y]:=by
    match ks,hf.1 with
    | [x,y],_=>exact ⟨x,y,rfl⟩
   have f:=frmL_iff.1 hq 0 (by simp)
   have g:=frmL_iff.1 hq 1 (by simp)
   have h1:=hcx 0 (by simp)
   have h2:=hcx 1 (by simp)
   exact Text_8 m t a b x y ⟨by omega,by omega⟩ f g (ih 0 (by simp) f (okL_get ho.2.2 (by simp)) (by omega)) (ih 1 (by simp) g (okL_get ho.2.2 (by simp)) (by omega)) (hlx 0 (by simp) f) (hlx 1 (by simp) g)
  ·rw[frm_9] at hf
   have f:=frmL_iff.1 hf.2.2.2
   exact Text_9 m t a b ks ho.2.1 (by omega) (fun x h=>ih x h (f x h) (okL_get ho.2.2 h) (by have:=hcx x h;omega)) fun x h=>wr_len _ (f x h) (okL_get ho.2.2 h)
termination_by SizeOf.sizeOf n
decreasing_by
 simp only[Nd.mk.sizeOf_spec]
 have:=List.sizeOf_lt_of_mem (List.getElem_mem h)
 omega
end Go.Proofs.YtcdjjjokniinkaaGreatDoor
end
section
namespace Go.Proofs.YtcdjjjokniinkaaGreatDoor
open Go Go.EYtcdjjjokniinkaaGreatDoor
set_option maxRecDepth 100000
set_option maxHeartbeats 4000000
variable {gl:List (Nat×List D)}
theorem rCount_d (n:Nd):∀ (i:Nat),i≤200→FnP Tryz.prog gl 22 [.agg n.cs,iD i] (iD (min (cntN n) (i+1):Nat)):=by
 match n with
 | .mk k m t a b ks =>
  have ih:∀ x (h:x<ks.length),∀ (i:Nat),i≤200→FnP Tryz.prog gl 22 [.agg (ks[x]).cs,iD i] (iD (min (cntN ks[x]) (i+1):Nat)):=fun x h=>rCount_d ks[x]
  intro i hi
  have hlen:=kid_len ks
  have hpos:=cnt_pos (.mk k m t a b ks)
  by_cases h0:i=0
  ·subst h0
   have h1:((0:Nat):Int)≤0:=by decide
   refine fnP_of_vc (nv:=9999) (cu:=[]) fits mixed Tryz.func22 rfl hoB rfl ?_
   ((repeat' ((conv=>whnf);first|exact .intro|refine .ya ?_|refine .na ?_|refine .ys ?_|refine .ns ?_|refine .neg (fun _=>?_) (fun _=>?_)|refine .mk (fun _=>?_) (fun _=>?_)|refine .mk ?_ ?_|refine AK ?_|refine AT ?_|fail));all_goals conv=>whnf)
   exact LeD.of (congrArg (fun q:Nat=>iD (q:Int)) (by omega:(1:Nat)=_))
  ·have h1:¬ (i:Int)≤0:=by omega
   refine fnP_of_vc (nv:=9999) (cu:=[]) fits mixed Tryz.func22 rfl hoB rfl ?_
   ((repeat' ((conv=>whnf);first|exact .intro|refine .ya ?_|refine .na ?_|refine .ys ?_|refine .ns ?_|refine .neg (fun _=>?_) (fun _=>?_)|refine .mk (fun _=>?_) (fun _=>?_)|refine .mk ?_ ?_|refine AK ?_|refine AT ?_|fail));all_goals conv=>whnf)
   refine ⟨{ σ:=Nat,fr:=fun x=>[(6,.c (.d (iD (x:Int)))),(5,.c (.d (iD (min (1+cntL (ks.take x)) (i+1):Nat))))],ks:=[],L:=fun x=>[],ex:=0,I:=fun x=>x≤ks.length,μ:=fun x=>ks.length - x },⟨0,Nat.zero_le _,?_⟩,fun (x:Nat) hx=>?_⟩
   ·((repeat' first|exact rfl|((conv=>whnf);first|done|exact suL|refine And.intro ?_ ?_|fail));all_goals conv=>whnf)
   ·by_cases hlt:x<ks.length
    ·have h2:(x:Int)<((Nd.csL ks).length:Nat):=by omega
     have g1:=kid_get hlt
     have ht:=cntL_take hlt
     by_cases hc:1+cntL (ks.take x)≤i
     ·have h3:((min (1+cntL (ks.take x)) (i+1):Nat):Int)≤i:=by omega
      have c1:=ih x hlt (i - (1+cntL (ks.take x))) (by omega)
      have hxc:=len_cnt (ks.take x)
      rw[List.length_take,Nat.min_eq_left hx] at hxc
      have e0:IntKind.i64.wrap ((x:Int)+1)=((x+1:Nat):Int):=by rw[wrapI (by omega)];rfl
      have e1:IntKind.i64.wrap ((i:Int) - ((min (1+cntL (ks.take x)) (i+1):Nat):Int))=((i - (1+cntL (ks.take x)):Nat):Int):=by rw[wrapI (by omega)];omega
      have e2:∀ q:Nat,IntKind.i64.wrap (((min (1+cntL (ks.take x)) (i+1):Nat):Int)+((min q ((i - (1+cntL (ks.take x)))+1):Nat):Int))=((min (1+cntL (ks.take x)+q) (i+1):Nat):Int):=fun q=>by rw[wrapI (by omega)];omega
      generalize ks[x]=q at *
      obtain ⟨k1,m1,t1,a1,b1,ks1⟩:=q
      change (Nd.csL ks)[((x:Nat):Int).toNat]?=some [iD k1,iD m1,.str t1,iD a1.c,iD a1.r,tD a1.fc,tD a1.fr,iD b1.c,iD b1.r,tD b1.fc,tD b1.fr,.lst 12 (Nd.csL ks1)] at g1
      ((repeat' ((conv=>whnf);first|exact .intro|refine .ya ?_|refine .na ?_|refine .ys ?_|refine .ns ?_|refine .neg (fun _=>?_) (fun _=>?_)|refine .mk (fun _=>?_) (fun _=>?_)|refine .inl (.inl (X1 (c1) ?_))|refine .inl (X1 (c1) ?_)|refine X1 (c1) ?_|(first|refine ⟨Int.natCast_nonneg _,_,g1,?_⟩|rw[e1])|refine .mk ?_ ?_|refine AK ?_|refine AT ?_|fail));all_goals conv=>whnf)
      refine ⟨x+1,⟨hlt,by show ks.length - (x+1)<ks.length - x;omega⟩,?_⟩
      ((repeat' first|exact rfl|((conv=>whnf);first|done|exact suL|refine And.intro ?_ ?_|fail));all_goals conv=>whnf)
      ·exact ceq e0
      ·exact ceq (by rw[e2,ht,Nat.add_assoc])
     ·have h3:¬ ((min (1+cntL (ks.take x)) (i+1):Nat):Int)≤i:=by omega
      have:=cntL_le ks x
      ((repeat' ((conv=>whnf);first|exact .intro|refine .ya ?_|refine .na ?_|refine .ys ?_|refine .ns ?_|refine .neg (fun _=>?_) (fun _=>?_)|refine .mk (fun _=>?_) (fun _=>?_)|refine .mk ?_ ?_|refine AK ?_|refine AT ?_|fail));all_goals conv=>whnf)
      exact LeD.of (congrArg (fun q:Nat=>iD (q:Int)) (by unfold cntN;omega))
    ·have h2:¬ (x:Int)<((Nd.csL ks).length:Nat):=by omega
     ((repeat' ((conv=>whnf);first|exact .intro|refine .ya ?_|refine .na ?_|refine .ys ?_|refine .ns ?_|refine .neg (fun _=>?_) (fun _=>?_)|refine .mk (fun _=>?_) (fun _=>?_)|refine .mk ?_ ?_|refine AK ?_|refine AT ?_|fail));all_goals conv=>whnf)
     have hxl:x=ks.length:=by omega
     subst hxl
     rw[List.take_length] at *
     exact LeD.of (congrArg (fun q:Nat=>iD (q:Int)) (by unfold cntN;omega))
termination_by SizeOf.sizeOf n
decreasing_by
 simp only[Nd.mk.sizeOf_spec]
 have:=List.sizeOf_lt_of_mem (List.getElem_mem h)
 omega
end Go.Proofs.YtcdjjjokniinkaaGreatDoor
end
