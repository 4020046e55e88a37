/- Proved: a part of what the law is proved with (the reckoner, contracts of functions, plain laws). Conditions: as each says. -/
import Derived.Test.YtdpigpahfiachaaGreatDoorZBi
import Derived.Test.YtdpigpahfiachaaGreatDoorZET
import Derived.Test.YtdpigpahfiachaaGreatDoorZEs
import Derived.Test.YtdpigpahfiachaaGreatDoorZGe
import Derived.Test.YtdpigpahfiachaaGreatDoorZPc
import Derived.Test.YtdpigpahfiachaaGreatDoorZPd
import Derived.Test.YtdpigpahfiachaaGreatDoorZZc
import Derived.Test.YtdpigpahfiachaaGreatDoorZZr
section
namespace Go.Proofs.YtdpigpahfiachaaGreatDoor
open Go Go.EYtdpigpahfiachaaGreatDoor
set_option maxRecDepth 100000
set_option maxHeartbeats 4000000
variable {gl:List (Nat×List D)}
theorem rAhead_d (f:Fl) (c r:Int):FnP Tryz.prog gl 67 [cellD f.c f.r,cellD c r] (.b (lesC f c r) inferInstance):=Ahead_d f.c f.r c r
theorem map_snoc (l:List Fl) (f:Fl):l.map flD++[flD f]=(l++[f]).map flD:=by simp
theorem wS_cons (c r:Int) (t:List UInt8) (put:Bool) (f:Fl) (l:List Fl):wS c r t put (f::l)=(if put=false∧¬ lesC f c r then [⟨c,r,t⟩] else [])++((if sameC f c r then [] else [f])++wS c r t (put || decide (¬ lesC f c r)) l):=rfl
theorem rWith_d (c r:Int) (t:List UInt8) (l:List Fl) (hl:l.length≤65536):FnP Tryz.prog gl 35 [.lst 3 (l.map flD),cellD c r,.str t] (.lst 3 ((wS c r t (decide (t=[])) l).map flD)):=by
 have hlen:(l.map flD).length=l.length:=List.length_map _
 refine fnP_of_vc (nv:=9999) (cu:=[]) fits mixed Tryz.func35 rfl hoB rfl ?_
 ((repeat' ((conv=>whnf);first|exact .intro|refine .ya ?_|refine .na ?_|refine .ys ?_|refine .ns ?_|refine .neg (fun _=>?_) (fun _=>?_)|refine .mk (fun _=>?_) (fun _=>?_)|refine .mk ?_ ?_|refine AK ?_|refine AT ?_|fail));all_goals conv=>whnf)
 refine ⟨{ σ:=Nat×Bool×List Fl,fr:=fun q=>[(9,.c (.d (iD (q.1:Int)))),(8,.c (.d (tD q.2.1))),(7,.c (.all 3 1))],ks:=[],L:=fun q=>[(1,.rows 3 (q.2.2.map flD) 44)],ex:=1,I:=fun q=>q.1≤l.length∧q.2.2.length≤2 * q.1∧wS c r t (decide (t=[])) l=q.2.2++wS c r t q.2.1 (l.drop q.1),μ:=fun q=>l.length - q.1 },⟨(0,decide (t=[]),[]),⟨Nat.zero_le _,Nat.zero_le _,rfl⟩,?_⟩,fun q hq=>?_⟩
 ·((repeat' first|exact rfl|((conv=>whnf);first|done|exact suL|refine And.intro ?_ ?_|fail));all_goals conv=>whnf)
  all_goals first
   | exact .inr (.inr (.inr (LeD.b (by simp))))
   | exact ⟨3,_,rfl,by decide,Nat.le_refl _⟩
 ·obtain ⟨k,p,out⟩:=q
  obtain ⟨h1,h2,h3⟩:=hq
  simp only at h1 h2 h3
  have ho:(out.map flD).length≤131072:=by rw[List.length_map];omega
  by_cases hlt:k<l.length
  ·have h4:(k:Int)<((l.map flD).length:Nat):=by omega
   have e0:IntKind.i64.wrap ((k:Int)+1)=((k+1:Nat):Int):=by rw[wrapI (by omega)];rfl
   have g1:=get_map (f:=flD) hlt
   have c1:=rAhead_d (gl:=gl) l[k] c r
   rw[List.drop_eq_getElem_cons hlt] at h3
   rw[wS_cons] at h3
   generalize l[k]=f at *
   obtain ⟨fc,fr,ft⟩:=f
   by_cases ha:lesC ⟨fc,fr,ft⟩ c r
   ·rw[if_neg (fun hh=>hh.2 ha),if_neg (les_not ha),show decide (¬ lesC ⟨fc,fr,ft⟩ c r)=false from decide_eq_false (fun hh=>hh ha),Bool.or_false] at h3
    have hs:¬ (fc=c∧fr=r):=les_not ha
    cases p
    ·((repeat' ((conv=>whnf);first|exact .intro|refine .ya ?_|refine .na ?_|refine .ys ?_|refine .ns ?_|refine .neg (fun _=>?_) (fun _=>?_)|refine .mk (fun _=>?_) (fun _=>?_)|refine .inl (.inl (X1 (c1) ?_))|refine .inl (X1 (c1) ?_)|refine X1 (c1) ?_|(first|refine ⟨Int.natCast_nonneg _,_,g1,?_⟩|refine ⟨⟨rfl,by show (_+1) * 32≤_;omega,by show _+1≤maxLen;unfold maxLen;omega⟩,?_⟩|refine ⟨⟨rfl,by simp only[List.length_cons,List.length_nil];show (_+1) * 32≤_;omega,by simp only[List.length_cons,List.length_nil];show _+1≤maxLen;unfold maxLen;omega⟩,?_⟩)|refine .mk ?_ ?_|refine AK ?_|refine AT ?_|fail));all_goals conv=>whnf)
     all_goals first
      | (exfalso;rename_i hx;exact hs ⟨hx.1,hx.2.1⟩)
      | (exfalso;rename_i hx;exact hx ⟨hs.1,hs.2,trivial⟩)
      | skip
     all_goals refine ⟨(k+1,false,out++[⟨fc,fr,ft⟩]),⟨⟨hlt,by simp only[List.length_append,List.length_cons,List.length_nil];omega,by rw[h3];simp⟩,by show l.length - (k+1)<l.length - k;omega⟩,?_⟩
     all_goals ((repeat' first|exact rfl|((conv=>whnf);first|done|exact suL|refine And.intro ?_ ?_|fail));all_goals conv=>whnf)
     all_goals first
      | exact ceq e0
      | exact map_snoc _ _
      | exact .inr (.inr (.inr (LeD.bt rfl)))
      | exact (by simp)
    ·((repeat' ((conv=>whnf);first|exact .intro|refine .ya ?_|refine .na ?_|refine .ys ?_|refine .ns ?_|refine .neg (fun _=>?_) (fun _=>?_)|refine .mk (fun _=>?_) (fun _=>?_)|refine .inl (.inl (X1 (c1) ?_))|refine .inl (X1 (c1) ?_)|refine X1 (c1) ?_|(first|refine ⟨Int.natCast_nonneg _,_,g1,?_⟩|refine ⟨⟨rfl,by show (_+1) * 32≤_;omega,by show _+1≤maxLen;unfold maxLen;omega⟩,?_⟩|refine ⟨⟨rfl,by simp only[List.length_cons,List.length_nil];show (_+1) * 32≤_;omega,by simp only[List.length_cons,List.length_nil];show _+1≤maxLen;unfold maxLen;omega⟩,?_⟩)|refine .mk ?_ ?_|refine AK ?_|refine AT ?_|fail));all_goals conv=>whnf)
     all_goals first
      | (exfalso;rename_i hx;exact hs ⟨hx.1,hx.2.1⟩)
      | (exfalso;rename_i hx;exact hx ⟨hs.1,hs.2,trivial⟩)
      | skip
     all_goals refine ⟨(k+1,true,out++[⟨fc,fr,ft⟩]),⟨⟨hlt,by simp only[List.length_append,List.length_cons,List.length_nil];omega,by rw[h3];simp⟩,by show l.length - (k+1)<l.length - k;omega⟩,?_⟩
     all_goals ((repeat' first|exact rfl|((conv=>whnf);first|done|exact suL|refine And.intro ?_ ?_|fail));all_goals conv=>whnf)
     all_goals first
      | exact ceq e0
      | exact map_snoc _ _
      | exact .inr (.inr (.inr (LeD.bt rfl)))
      | exact (by simp)
   ·rw[show decide (¬ lesC ⟨fc,fr,ft⟩ c r)=true from decide_eq_true ha,Bool.or_true] at h3
    by_cases hs:fc=c∧fr=r
    ·rw[if_pos (show sameC ⟨fc,fr,ft⟩ c r from hs)] at h3
     cases p
     ·rw[if_pos ⟨rfl,ha⟩] at h3
      ((repeat' ((conv=>whnf);first|exact .intro|refine .ya ?_|refine .na ?_|refine .ys ?_|refine .ns ?_|refine .neg (fun _=>?_) (fun _=>?_)|refine .mk (fun _=>?_) (fun _=>?_)|refine .inl (.inl (X1 (c1) ?_))|refine .inl (X1 (c1) ?_)|refine X1 (c1) ?_|(first|refine ⟨Int.natCast_nonneg _,_,g1,?_⟩|refine ⟨⟨rfl,by show (_+1) * 32≤_;omega,by show _+1≤maxLen;unfold maxLen;omega⟩,?_⟩|refine ⟨⟨rfl,by simp only[List.length_append,List.length_cons,List.length_nil];show (_+1) * 32≤_;omega,by simp only[List.length_append,List.length_cons,List.length_nil];show _+1≤maxLen;unfold maxLen;omega⟩,?_⟩)|refine .mk ?_ ?_|refine AK ?_|refine AT ?_|fail));all_goals conv=>whnf)
      all_goals first
       | (exfalso;rename_i hx;exact hs ⟨hx.1,hx.2.1⟩)
       | (exfalso;rename_i hx;exact hx ⟨hs.1,hs.2,trivial⟩)
       | skip
      all_goals refine ⟨(k+1,true,out++[⟨c,r,t⟩]),⟨⟨hlt,by simp only[List.length_append,List.length_cons,List.length_nil];omega,by rw[h3];simp⟩,by show l.length - (k+1)<l.length - k;omega⟩,?_⟩
      all_goals ((repeat' first|exact rfl|((conv=>whnf);first|done|exact suL|refine And.intro ?_ ?_|fail));all_goals conv=>whnf)
      all_goals first
       | exact ceq e0
       | exact map_snoc _ _
       | exact .inr (.inr (.inr (LeD.bt rfl)))
       | exact (by simp)
     ·rw[if_neg (by simp)] at h3
      ((repeat' ((conv=>whnf);first|exact .intro|refine .ya ?_|refine .na ?_|refine .ys ?_|refine .ns ?_|refine .neg (fun _=>?_) (fun _=>?_)|refine .mk (fun _=>?_) (fun _=>?_)|refine .inl (.inl (X1 (c1) ?_))|refine .inl (X1 (c1) ?_)|refine X1 (c1) ?_|(first|refine ⟨Int.natCast_nonneg _,_,g1,?_⟩|refine ⟨⟨rfl,by show (_+1) * 32≤_;omega,by show _+1≤maxLen;unfold maxLen;omega⟩,?_⟩|refine ⟨⟨rfl,by simp only[List.length_cons,List.length_nil];show (_+1) * 32≤_;omega,by simp only[List.length_cons,List.length_nil];show _+1≤maxLen;unfold maxLen;omega⟩,?_⟩)|refine .mk ?_ ?_|refine AK ?_|refine AT ?_|fail));all_goals conv=>whnf)
      all_goals first
       | (exfalso;rename_i hx;exact hs ⟨hx.1,hx.2.1⟩)
       | (exfalso;rename_i hx;exact hx ⟨hs.1,hs.2,trivial⟩)
       | skip
      all_goals refine ⟨(k+1,true,out),⟨⟨hlt,by simp only;omega,by rw[h3];simp⟩,by show l.length - (k+1)<l.length - k;omega⟩,?_⟩
      all_goals ((repeat' first|exact rfl|((conv=>whnf);first|done|exact suL|refine And.intro ?_ ?_|fail));all_goals conv=>whnf)
      all_goals first
       | exact ceq e0
       | exact map_snoc _ _
       | exact .inr (.inr (.inr (LeD.bt rfl)))
       | exact (by simp)
    ·rw[if_neg (show ¬ sameC ⟨fc,fr,ft⟩ c r from hs)] at h3
     cases p
     ·rw[if_pos ⟨rfl,ha⟩] at h3
      ((repeat' ((conv=>whnf);first|exact .intro|refine .ya ?_|refine .na ?_|refine .ys ?_|refine .ns ?_|refine .neg (fun _=>?_) (fun _=>?_)|refine .mk (fun _=>?_) (fun _=>?_)|refine .inl (.inl (X1 (c1) ?_))|refine .inl (X1 (c1) ?_)|refine X1 (c1) ?_|(first|refine ⟨Int.natCast_nonneg _,_,g1,?_⟩|refine ⟨⟨rfl,by show (_+1) * 32≤_;omega,by show _+1≤maxLen;unfold maxLen;omega⟩,?_⟩|refine ⟨⟨rfl,by simp only[List.length_append,List.length_cons,List.length_nil];show (_+1) * 32≤_;omega,by simp only[List.length_append,List.length_cons,List.length_nil];show _+1≤maxLen;unfold maxLen;omega⟩,?_⟩)|refine .mk ?_ ?_|refine AK ?_|refine AT ?_|fail));all_goals conv=>whnf)
      all_goals first
       | (exfalso;rename_i hx;exact hs ⟨hx.1,hx.2.1⟩)
       | (exfalso;rename_i hx;exact hx ⟨hs.1,hs.2,trivial⟩)
       | skip
      all_goals refine ⟨(k+1,true,out++[⟨c,r,t⟩]++[⟨fc,fr,ft⟩]),⟨⟨hlt,by simp only[List.length_append,List.length_cons,List.length_nil];omega,by rw[h3];simp⟩,by show l.length - (k+1)<l.length - k;omega⟩,?_⟩
      all_goals ((repeat' first|exact rfl|((conv=>whnf);first|done|exact suL|refine And.intro ?_ ?_|fail));all_goals conv=>whnf)
      all_goals first
       | exact ceq e0
       | exact map_snoc _ _
       | exact .inr (.inr (.inr (LeD.bt rfl)))
       | exact (by simp)
     ·rw[if_neg (by simp)] at h3
      ((repeat' ((conv=>whnf);first|exact .intro|refine .ya ?_|refine .na ?_|refine .ys ?_|refine .ns ?_|refine .neg (fun _=>?_) (fun _=>?_)|refine .mk (fun _=>?_) (fun _=>?_)|refine .inl (.inl (X1 (c1) ?_))|refine .inl (X1 (c1) ?_)|refine X1 (c1) ?_|(first|refine ⟨Int.natCast_nonneg _,_,g1,?_⟩|refine ⟨⟨rfl,by show (_+1) * 32≤_;omega,by show _+1≤maxLen;unfold maxLen;omega⟩,?_⟩|refine ⟨⟨rfl,by simp only[List.length_cons,List.length_nil];show (_+1) * 32≤_;omega,by simp only[List.length_cons,List.length_nil];show _+1≤maxLen;unfold maxLen;omega⟩,?_⟩)|refine .mk ?_ ?_|refine AK ?_|refine AT ?_|fail));all_goals conv=>whnf)
      all_goals first
       | (exfalso;rename_i hx;exact hs ⟨hx.1,hx.2.1⟩)
       | (exfalso;rename_i hx;exact hx ⟨hs.1,hs.2,trivial⟩)
       | skip
      all_goals refine ⟨(k+1,true,out++[⟨fc,fr,ft⟩]),⟨⟨hlt,by simp only[List.length_append,List.length_cons,List.length_nil];omega,by rw[h3];simp⟩,by show l.length - (k+1)<l.length - k;omega⟩,?_⟩
      all_goals ((repeat' first|exact rfl|((conv=>whnf);first|done|exact suL|refine And.intro ?_ ?_|fail));all_goals conv=>whnf)
      all_goals first
       | exact ceq e0
       | exact map_snoc _ _
       | exact .inr (.inr (.inr (LeD.bt rfl)))
       | exact (by simp)
  ·have h4:¬ (k:Int)<((l.map flD).length:Nat):=by omega
   obtain rfl:k=l.length:=by omega
   rw[List.drop_of_length_le (Nat.le_refl _)] at h3
   cases p
   ·((repeat' ((conv=>whnf);first|exact .intro|refine .ya ?_|refine .na ?_|refine .ys ?_|refine .ns ?_|refine .neg (fun _=>?_) (fun _=>?_)|refine .mk (fun _=>?_) (fun _=>?_)|(first|refine ⟨⟨rfl,by show (_+1) * 32≤_;omega,by show _+1≤maxLen;unfold maxLen;omega⟩,?_⟩|refine ⟨⟨rfl,by simp only[List.length_cons,List.length_nil];show (_+1) * 32≤_;omega,by simp only[List.length_cons,List.length_nil];show _+1≤maxLen;unfold maxLen;omega⟩,?_⟩)|refine .mk ?_ ?_|refine AK ?_|refine AT ?_|fail));all_goals conv=>whnf)
    all_goals exact LeD.of (by rw[h3];simp[wS];rfl)
   ·((repeat' ((conv=>whnf);first|exact .intro|refine .ya ?_|refine .na ?_|refine .ys ?_|refine .ns ?_|refine .neg (fun _=>?_) (fun _=>?_)|refine .mk (fun _=>?_) (fun _=>?_)|refine .mk ?_ ?_|refine AK ?_|refine AT ?_|fail));all_goals conv=>whnf)
    all_goals exact LeD.of (by rw[h3];simp[wS];rfl)
end Go.Proofs.YtdpigpahfiachaaGreatDoor
end
