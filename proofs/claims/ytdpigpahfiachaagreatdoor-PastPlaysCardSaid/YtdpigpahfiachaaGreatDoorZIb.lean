/- Proved: a part of what the law is proved with (the reckoner, contracts of functions, plain laws). Conditions: as each says. -/
import Derived.Test.YtdpigpahfiachaaGreatDoorZIa
section
namespace Go.Proofs.YtdpigpahfiachaaGreatDoor
open Go Go.EYtdpigpahfiachaaGreatDoor
set_option maxRecDepth 100000
set_option maxHeartbeats 2000000
variable {gl:List (Nat×List D)}
theorem csL_app:∀ (a b:List Nd),Nd.csL (a++b)=Nd.csL a++Nd.csL b
 | [],b=>rfl
 | x::a,b=>by show x.cs::Nd.csL (a++b)=x.cs::(Nd.csL a++Nd.csL b);rw[csL_app a b]
theorem csL_len:∀ (a:List Nd),(Nd.csL a).length=a.length
 | []=>rfl
 | x::a=>by show (Nd.csL a).length+1=_;rw[csL_len a];rfl
theorem call_none {s w:List UInt8} {k d:Nat} (hk:k<s.length) (hs:s.length≤200) (h:s[skp s (k+1)]?=some 41) :
 Gives1 gl 173 [.c (.ptr 0 0),.c (.d (.str w))] s k d (.ok (.mk 9 0 w z0 z0 []) (skp s (k+1)+1)):=by
 have hl:=lt_of_get h
 have e1:IntKind.i64.wrap (((k:Nat):Int)+1)=((k+1:Nat):Int):=by rw[wrapI (by omega)];rfl
 have c0:=blanks_d (gl:=gl) s (k+1) d hk hs
 have h1:=(byt 41 hl).2 h
 have h2:((skp s (k+1):Nat):Int)<((s.length:Nat):Int):=by omega
 generalize skp s (k+1)=j at *
 unfold Gives1
 refine fn_of_vc (nv:=9999) (cu:=[]) fits mixed Tryz.func173 rfl hoB rfl rfl rfl rfl ?_
 ((repeat' ((conv=>whnf);first|exact .intro|refine .ya ?_|refine .na ?_|refine .ys ?_|refine .ns ?_|refine .neg (fun _=>?_) (fun _=>?_)|refine .mk (fun _=>?_) (fun _=>?_)|refine .inr (X5 (c0.r [0] _) ?_)|refine .inl (.inr (X5 (c0.r [0] _) ?_))|refine .inl (X5 (c0.r [0] _) ?_)|(rw[e1])|refine .mk ?_ ?_|refine AK ?_|refine AT ?_|fail));all_goals conv=>whnf)
 ((repeat' first|exact rfl|((conv=>whnf);first|done|exact suL|refine And.intro ?_ ?_|fail));all_goals conv=>whnf)
 all_goals first
  | exact ceq (by rw[wrapI (by omega)];rfl)
  | (refine .inr ?_;repeat' first|exact .intro|exact .inr (.inl rfl)|exact lf0|exact ln0|((conv=>whnf);first|exact .intro|exact .inr (.inl rfl)|exact lf0|exact ln0|refine And.intro ?_ ?_|fail))
theorem call_args {p:Par} {s w:List UInt8} {k d:Nat} (hk:k<s.length) (hs:s.length≤200) (h:s[skp s (k+1)]?≠some 41) {tw:Nat→Rs Nd} (hf:Fwd s tw)
 (ha:∀ i,i≤s.length→Gives1 gl 203 [.c (.ptr 0 0)] s i d (argF p s tw i)) {r:Rs (List Nd)} (hr:argsF p s tw (s.length+1) [] (skp s (k+1))=r) :
 Gives1 gl 173 [.c (.ptr 0 0),.c (.d (.str w))] s k d (r.bind fun ks j=>.ok (.mk 9 0 w z0 z0 ks) j):=by
 have e1:IntKind.i64.wrap (((k:Nat):Int)+1)=((k+1:Nat):Int):=by rw[wrapI (by omega)];rfl
 have c0:=blanks_d (gl:=gl) s (k+1) d hk hs
 have hj:=skp_le (show k+1≤s.length from hk)
 have h1:¬ ((skp s (k+1):Nat):Int)<((s.length:Nat):Int)∨(((skp s (k+1):Nat):Int)<((s.length:Nat):Int)∧¬ (((s.getD ((skp s (k+1):Nat):Int).toNat 0).toNat:Nat):Int)=41):=by
  rcases Nat.lt_or_ge (skp s (k+1)) s.length with hl|hl
  ·exact .inr ⟨by omega,fun hh=>h ((byt 41 hl).1 hh)⟩
  ·exact .inl (by omega)
 generalize skp s (k+1)=j at *
 cases r with
 | ok ls jj =>
  unfold Gives1
  simp only[Rs.bind_ok]
  rcases h1 with h1|⟨h1,h2⟩
  all_goals
   refine fn_of_vc (nv:=9999) (cu:=[100007]) fits mixed Tryz.func173 rfl hoB rfl rfl rfl rfl ?_
   ((repeat' ((conv=>whnf);first|exact .intro|refine .ya ?_|refine .na ?_|refine .ys ?_|refine .ns ?_|refine .neg (fun _=>?_) (fun _=>?_)|refine .mk (fun _=>?_) (fun _=>?_)|refine .inr (X5 (c0.r [0] _) ?_)|refine .inl (.inr (X5 (c0.r [0] _) ?_))|refine .inl (X5 (c0.r [0] _) ?_)|(rw[e1])|refine .mk ?_ ?_|refine AK ?_|refine AT ?_|fail));all_goals conv=>whnf)
   refine ⟨{ σ:=Nat×List Nd,fr:=fun q=>[],ks:=[0,2],L:=fun q=>[(0,rdB s q.1 d),(2,.var [.d (iD 9),.d (iD 0),.d (.str w),.d (iD 0),.d (iD 0),.d (.v (.bool false)),.d (.v (.bool false)),.d (iD 0),.d (iD 0),.d (.v (.bool false)),.d (.v (.bool false)),.all 12 3] 28),(3,.rows 12 (Nd.csL q.2) 28)],ex:=1,I:=fun q=>q.1≤s.length∧q.2.length≤q.1∧∃ f,s.length - q.1<f∧argsF p s tw f q.2 q.1=.ok ls jj,μ:=fun q=>s.length - q.1 },⟨(j,[]),⟨hj,Nat.zero_le _,s.length+1,by omega,hr⟩,?_⟩,?_⟩
   ·((repeat' first|exact rfl|((conv=>whnf);first|done|exact suL|refine And.intro ?_ ?_|fail));all_goals conv=>whnf)
    all_goals exact ⟨12,_,rfl,by decide,Nat.le_refl _⟩
   ·rintro ⟨m,ks⟩ ⟨hm1,hm2,f,hm3,hm4⟩
    simp only at hm1 hm2 hm3 hm4
    obtain ⟨f,rfl⟩:∃ g,f=g+1:=⟨f - 1,by omega⟩
    unfold argsF at hm4
    have hax:=ha m hm1
    cases hx:argF p s tw m with
    | no q e=>rw[hx] at hm4;cases hm4
    | ok n i =>
     rw[hx] at hm4 hax
     simp only[Rs.bind_ok] at hm4
     obtain ⟨hi1,hi2⟩:=argF_fwd hf hm1 hx
     unfold Gives1 at hax
     have b1:=blanks_d (gl:=gl) s i d hi2 hs
     have hj2:=skp_le hi2
     have hsk:=skp_skp s i
     by_cases hc:s[skp s i]?=some 44
     ·rw[if_pos hc] at hm4
      have hl:=lt_of_get hc
      have g1:=(byt 44 hl).2 hc
      have g2:((skp s i:Nat):Int)<((s.length:Nat):Int):=by omega
      have hge:=le_skp s i
      generalize skp s i=x at *
      obtain ⟨k0,m0,t,a,b,ks0⟩:=n
      ((repeat' ((conv=>whnf);first|exact .intro|refine .ya ?_|refine .na ?_|refine .ys ?_|refine .ns ?_|refine .neg (fun _=>?_) (fun _=>?_)|refine .mk (fun _=>?_) (fun _=>?_)|refine .inr (X5 (hax.r [0] _) ?_)|refine .inl (.inr (X5 (hax.r [0] _) ?_))|refine .inl (X5 (hax.r [0] _) ?_)|refine .inr (X5 (b1.r [0] _) ?_)|refine .inl (.inr (X5 (b1.r [0] _) ?_))|refine .inl (X5 (b1.r [0] _) ?_)|(refine ⟨⟨rfl,by show ((Nd.csL ks).length+1) * 104≤140737488355328;rw[csL_len];omega,by show (Nd.csL ks).length+1≤maxLen;rw[csL_len];unfold maxLen;omega⟩,?_⟩)|refine .mk ?_ ?_|refine AK ?_|refine AT ?_|fail));all_goals conv=>whnf)
      all_goals
       refine ⟨(x+1,ks++[.mk k0 m0 t a b ks0]),⟨⟨hl,by show (ks++[_]).length≤x+1;rw[List.length_append];show ks.length+1≤x+1;omega,f,by show s.length - (x+1)<f;omega,hm4⟩,by show s.length - (x+1)<s.length - m;omega⟩,?_⟩
       ((repeat' first|exact rfl|((conv=>whnf);first|done|exact suL|refine And.intro ?_ ?_|fail));all_goals conv=>whnf)
       all_goals first
        | exact (csL_app ks [.mk k0 m0 t a b ks0]).symm
        | exact ceq (by rw[wrapI (by omega)];rfl)
     ·rw[if_neg hc] at hm4
      have g3:¬ ((skp s i:Nat):Int)<((s.length:Nat):Int)∨(((skp s i:Nat):Int)<((s.length:Nat):Int)∧¬ (((s.getD ((skp s i:Nat):Int).toNat 0).toNat:Nat):Int)=44):=by
       rcases Nat.lt_or_ge (skp s i) s.length with hl|hl
       ·exact .inr ⟨by omega,fun hh=>hc ((byt 44 hl).1 hh)⟩
       ·exact .inl (by omega)
      by_cases h41:s[skp s i]?=some 41
      ·rw[if_pos h41] at hm4
       have b2:=want_y (gl:=gl) (d:=d) hj2 hs (by rw[hsk];exact h41)
       rw[hsk] at b2
       obtain ⟨rfl,rfl⟩:ks++[n]=ls∧skp s i+1=jj:=by simpa using hm4
       generalize skp s i=x at *
       obtain ⟨k0,m0,t,a,b,ks0⟩:=n
       rcases g3 with g3|⟨g3,g4⟩
       all_goals
        ((repeat' ((conv=>whnf);first|exact .intro|refine .ya ?_|refine .na ?_|refine .ys ?_|refine .ns ?_|refine .neg (fun _=>?_) (fun _=>?_)|refine .mk (fun _=>?_) (fun _=>?_)|refine .inr (X5 (hax.r [0] _) ?_)|refine .inl (.inr (X5 (hax.r [0] _) ?_))|refine .inl (X5 (hax.r [0] _) ?_)|refine .inr (X5 (b1.r [0] _) ?_)|refine .inl (.inr (X5 (b1.r [0] _) ?_))|refine .inl (X5 (b1.r [0] _) ?_)|refine .inr (X5 (b2.r [0] _) ?_)|refine .inl (.inr (X5 (b2.r [0] _) ?_))|refine .inl (X5 (b2.r [0] _) ?_)|(refine ⟨⟨rfl,by show ((Nd.csL ks).length+1) * 104≤140737488355328;rw[csL_len];omega,by show (Nd.csL ks).length+1≤maxLen;rw[csL_len];unfold maxLen;omega⟩,?_⟩)|refine .mk ?_ ?_|refine AK ?_|refine AT ?_|fail));all_goals conv=>whnf)
        ((repeat' first|exact rfl|((conv=>whnf);first|done|exact suL|refine And.intro ?_ ?_|fail));all_goals conv=>whnf)
        all_goals (refine .inr ?_;repeat' first|exact .intro|exact .inr (.inl rfl)|exact lf0|exact ln0|((conv=>whnf);first|exact .intro|exact .inr (.inl rfl)|exact lf0|exact ln0|refine And.intro ?_ ?_|fail))
        all_goals exact .inr (.inl (congrArg (fun z=>C.d (.lst 12 z)) (csL_app ks [.mk k0 m0 t a b ks0]).symm))
      ·rw[if_neg h41] at hm4;cases hm4
 | no v e =>
  unfold Gives1
  simp only[Rs.bind_no]
  rcases h1 with h1|⟨h1,h2⟩
  all_goals
   refine fn_of_vc (nv:=9999) (cu:=[100007]) fits mixed Tryz.func173 rfl hoB rfl rfl rfl rfl ?_
   ((repeat' ((conv=>whnf);first|exact .intro|refine .ya ?_|refine .na ?_|refine .ys ?_|refine .ns ?_|refine .neg (fun _=>?_) (fun _=>?_)|refine .mk (fun _=>?_) (fun _=>?_)|refine .inr (X5 (c0.r [0] _) ?_)|refine .inl (.inr (X5 (c0.r [0] _) ?_))|refine .inl (X5 (c0.r [0] _) ?_)|(rw[e1])|refine .mk ?_ ?_|refine AK ?_|refine AT ?_|fail));all_goals conv=>whnf)
   refine ⟨{ σ:=Nat×List Nd,fr:=fun q=>[],ks:=[0,2],L:=fun q=>[(0,rdB s q.1 d),(2,.var [.d (iD 9),.d (iD 0),.d (.str w),.d (iD 0),.d (iD 0),.d (.v (.bool false)),.d (.v (.bool false)),.d (iD 0),.d (iD 0),.d (.v (.bool false)),.d (.v (.bool false)),.all 12 3] 28),(3,.rows 12 (Nd.csL q.2) 28)],ex:=1,I:=fun q=>q.1≤s.length∧q.2.length≤q.1∧∃ f,s.length - q.1<f∧argsF p s tw f q.2 q.1=.no v e,μ:=fun q=>s.length - q.1 },⟨(j,[]),⟨hj,Nat.zero_le _,s.length+1,by omega,hr⟩,?_⟩,?_⟩
   ·((repeat' first|exact rfl|((conv=>whnf);first|done|exact suL|refine And.intro ?_ ?_|fail));all_goals conv=>whnf)
    all_goals exact ⟨12,_,rfl,by decide,Nat.le_refl _⟩
   ·rintro ⟨m,ks⟩ ⟨hm1,hm2,f,hm3,hm4⟩
    simp only at hm1 hm2 hm3 hm4
    obtain ⟨f,rfl⟩:∃ g,f=g+1:=⟨f - 1,by omega⟩
    unfold argsF at hm4
    have hax:=ha m hm1
    cases hx:argF p s tw m with
    | no q0 e0 =>
     rw[hx] at hm4 hax
     cases hm4
     unfold Gives1 at hax
     ((repeat' ((conv=>whnf);first|exact .intro|refine .ya ?_|refine .na ?_|refine .ys ?_|refine .ns ?_|refine .neg (fun _=>?_) (fun _=>?_)|refine .mk (fun _=>?_) (fun _=>?_)|refine .inr (X5 (hax.r [0] _) ?_)|refine .inl (.inr (X5 (hax.r [0] _) ?_))|refine .inl (X5 (hax.r [0] _) ?_)|refine .mk ?_ ?_|refine AK ?_|refine AT ?_|fail));all_goals conv=>whnf)
     ((repeat' first|exact rfl|((conv=>whnf);first|done|exact suL|refine And.intro ?_ ?_|fail));all_goals conv=>whnf)
    | ok n i =>
     rw[hx] at hm4 hax
     simp only[Rs.bind_ok] at hm4
     obtain ⟨hi1,hi2⟩:=argF_fwd hf hm1 hx
     unfold Gives1 at hax
     have b1:=blanks_d (gl:=gl) s i d hi2 hs
     have hj2:=skp_le hi2
     have hsk:=skp_skp s i
     by_cases hc:s[skp s i]?=some 44
     ·rw[if_pos hc] at hm4
      have hl:=lt_of_get hc
      have g1:=(byt 44 hl).2 hc
      have g2:((skp s i:Nat):Int)<((s.length:Nat):Int):=by omega
      have hge:=le_skp s i
      generalize skp s i=x at *
      obtain ⟨k0,m0,t,a,b,ks0⟩:=n
      ((repeat' ((conv=>whnf);first|exact .intro|refine .ya ?_|refine .na ?_|refine .ys ?_|refine .ns ?_|refine .neg (fun _=>?_) (fun _=>?_)|refine .mk (fun _=>?_) (fun _=>?_)|refine .inr (X5 (hax.r [0] _) ?_)|refine .inl (.inr (X5 (hax.r [0] _) ?_))|refine .inl (X5 (hax.r [0] _) ?_)|refine .inr (X5 (b1.r [0] _) ?_)|refine .inl (.inr (X5 (b1.r [0] _) ?_))|refine .inl (X5 (b1.r [0] _) ?_)|(refine ⟨⟨rfl,by show ((Nd.csL ks).length+1) * 104≤140737488355328;rw[csL_len];omega,by show (Nd.csL ks).length+1≤maxLen;rw[csL_len];unfold maxLen;omega⟩,?_⟩)|refine .mk ?_ ?_|refine AK ?_|refine AT ?_|fail));all_goals conv=>whnf)
      all_goals
       refine ⟨(x+1,ks++[.mk k0 m0 t a b ks0]),⟨⟨hl,by show (ks++[_]).length≤x+1;rw[List.length_append];show ks.length+1≤x+1;omega,f,by show s.length - (x+1)<f;omega,hm4⟩,by show s.length - (x+1)<s.length - m;omega⟩,?_⟩
       ((repeat' first|exact rfl|((conv=>whnf);first|done|exact suL|refine And.intro ?_ ?_|fail));all_goals conv=>whnf)
       all_goals first
        | exact (csL_app ks [.mk k0 m0 t a b ks0]).symm
        | exact ceq (by rw[wrapI (by omega)];rfl)
     ·rw[if_neg hc] at hm4
      have g3:¬ ((skp s i:Nat):Int)<((s.length:Nat):Int)∨(((skp s i:Nat):Int)<((s.length:Nat):Int)∧¬ (((s.getD ((skp s i:Nat):Int).toNat 0).toNat:Nat):Int)=44):=by
       rcases Nat.lt_or_ge (skp s i) s.length with hl|hl
       ·exact .inr ⟨by omega,fun hh=>hc ((byt 44 hl).1 hh)⟩
       ·exact .inl (by omega)
      by_cases h41:s[skp s i]?=some 41
      ·rw[if_pos h41] at hm4
       cases hm4
      ·rw[if_neg h41] at hm4
       cases hm4
       have b2:=want_n (gl:=gl) (d:=d) hj2 hs (by rw[hsk];exact h41)
       rw[hsk] at b2
       generalize skp s i=x at *
       obtain ⟨k0,m0,t,a,b,ks0⟩:=n
       rcases g3 with g3|⟨g3,g4⟩
       all_goals
        ((repeat' ((conv=>whnf);first|exact .intro|refine .ya ?_|refine .na ?_|refine .ys ?_|refine .ns ?_|refine .neg (fun _=>?_) (fun _=>?_)|refine .mk (fun _=>?_) (fun _=>?_)|refine .inr (X5 (hax.r [0] _) ?_)|refine .inl (.inr (X5 (hax.r [0] _) ?_))|refine .inl (X5 (hax.r [0] _) ?_)|refine .inr (X5 (b1.r [0] _) ?_)|refine .inl (.inr (X5 (b1.r [0] _) ?_))|refine .inl (X5 (b1.r [0] _) ?_)|refine .inr (X5 (b2.r [0] _) ?_)|refine .inl (.inr (X5 (b2.r [0] _) ?_))|refine .inl (X5 (b2.r [0] _) ?_)|(refine ⟨⟨rfl,by show ((Nd.csL ks).length+1) * 104≤140737488355328;rw[csL_len];omega,by show (Nd.csL ks).length+1≤maxLen;rw[csL_len];unfold maxLen;omega⟩,?_⟩)|refine .mk ?_ ?_|refine AK ?_|refine AT ?_|fail));all_goals conv=>whnf)
        ((repeat' first|exact rfl|((conv=>whnf);first|done|exact suL|refine And.intro ?_ ?_|fail));all_goals conv=>whnf)
end Go.Proofs.YtdpigpahfiachaaGreatDoor
end
