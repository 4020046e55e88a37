/- Proved: a part of what the law is proved with (the reckoner, contracts of functions, plain laws). Conditions: as each says. -/
import Derived.Test.YtfcmhmglpcimiaaGreatDoorKIa
namespace Go.Proofs.YtfcmhmglpcimiaaGreatDoor
open Go Go.EYtfcmhmglpcimiaaGreatDoor
set_option maxRecDepth 100000
section
set_option maxHeartbeats 2000000
variable {gl:List (Nat×List D)}
theorem csL_app:∀ (a b:List Nd),Nd.csL (a++b)=Nd.csL a++Nd.csL b
 | [],b=>rfl
 | x::a,b=>by show x.cs::Nd.csL (a++b)=x.cs::(Nd.csL a++Nd.csL b);rw[csL_app a b]
theorem csL_len:∀ (a:List Nd),(Nd.csL a).length=a.length
 | []=>rfl
 | x::a=>by show (Nd.csL a).length+1=_;rw[csL_len a];rfl
theorem call_none {s w:List UInt8} {k d:Nat} (hk:k<s.length) (hs:s.length≤200) (h:s[skp s (k+1)]?=some 41) :
 Gives1 gl 124 [.c (.ptr 0 0),.c (.d (.str w))] s k d (.ok (.mk 9 0 w z0 z0 []) (skp s (k+1)+1)):=by
 have hl:=lt_of_get h
 have e1:IntKind.i64.wrap (((k:Nat):Int)+1)=((k+1:Nat):Int):=by rw[wrapI (by omega)];rfl
 have c0:=blanks_d (gl:=gl) s (k+1) d hk hs
 have h1:=(byt 41 hl).2 h
 have h2:((skp s (k+1):Nat):Int)<((s.length:Nat):Int):=by omega
 generalize skp s (k+1)=j at *
 unfold Gives1
 refine S1 Tryz.func124 rfl ?_
 ((repeat' ((conv=>whnf);first|exact .intro|refine G ?_|intro _|refine C5 c0 [0] ?_|(rw[e1])|refine .mk ?_ ?_|refine H ?_|fail));all_goals conv=>whnf)
 ((repeat' first|exact rfl|((conv=>whnf);first|done|exact suL|refine And.intro ?_ ?_|fail));all_goals conv=>whnf)
 all_goals first
  | exact ceq (by rw[wrapI (by omega)];rfl)
  | (refine .inr ?_;repeat' first|exact .intro|exact .inr (.inl rfl)|exact lf0|exact ln0|((conv=>whnf);first|exact .intro|exact .inr (.inl rfl)|exact lf0|exact ln0|refine And.intro ?_ ?_|fail))
theorem call_args {p:Par} {s w:List UInt8} {k d:Nat} (hk:k<s.length) (hs:s.length≤200) (h:s[skp s (k+1)]?≠some 41) {tw:Nat→Rs Nd} (hf:Fwd s tw)
 (ha:∀ i,i≤s.length→Gives1 gl 144 [.c (.ptr 0 0)] s i d (argF p s tw i)) {r:Rs (List Nd)} (hr:argsF p s tw (s.length+1) [] (skp s (k+1))=r) :
 Gives1 gl 124 [.c (.ptr 0 0),.c (.d (.str w))] s k d (r.bind fun ks j=>.ok (.mk 9 0 w z0 z0 ks) j):=by
 have e1:IntKind.i64.wrap (((k:Nat):Int)+1)=((k+1:Nat):Int):=by rw[wrapI (by omega)];rfl
 have c0:=blanks_d (gl:=gl) s (k+1) d hk hs
 have hj:=skp_le (show k+1≤s.length from hk)
 have h1:¬ ((skp s (k+1):Nat):Int)<((s.length:Nat):Int)∨(((skp s (k+1):Nat):Int)<((s.length:Nat):Int)∧¬ (((s.getD ((skp s (k+1):Nat):Int).toNat 0).toNat:Nat):Int)=41):=by
  rcases Nat.lt_or_ge (skp s (k+1)) s.length with hl|hl
  ·exact .inr ⟨by omega,fun hh=>h ((byt 41 hl).1 hh)⟩
  ·exact .inl (by omega)
 generalize skp s (k+1)=j at *
 cases r with
 | ok ls jj =>
  unfold Gives1
  simp only[Rs.bind_ok]
  rcases h1 with h1|⟨h1,h2⟩
  all_goals
   refine fn_of_vc (nv:=9999) (cu:=[100007]) fits mixed Tryz.func124 rfl hoB rfl rfl rfl rfl ?_
   ((repeat' ((conv=>whnf);first|exact .intro|refine G ?_|intro _|refine C5 c0 [0] ?_|(rw[e1])|refine .mk ?_ ?_|refine H ?_|fail));all_goals conv=>whnf)
   refine ⟨{ σ:=Nat×List Nd,fr:=fun q=>[],ks:=[0,2],L:=fun q=>[(0,rdB s q.1 d),(2,.var [.d (iD 9),.d (iD 0),.d (.str w),.d (iD 0),.d (iD 0),.d (.v (.bool false)),.d (.v (.bool false)),.d (iD 0),.d (iD 0),.d (.v (.bool false)),.d (.v (.bool false)),.all 12 3] 64),(3,.rows 12 (Nd.csL q.2) 64)],ex:=1,I:=fun q=>q.1≤s.length∧q.2.length≤q.1∧∃ f,s.length - q.1<f∧argsF p s tw f q.2 q.1=.ok ls jj,μ:=fun q=>s.length - q.1 },⟨(j,[]),⟨hj,Nat.zero_le _,s.length+1,by omega,hr⟩,?_⟩,?_⟩
   ·((repeat' first|exact rfl|((conv=>whnf);first|done|exact suL|refine And.intro ?_ ?_|fail));all_goals conv=>whnf)
    all_goals exact ⟨12,_,rfl,by decide,Nat.le_refl _⟩
   ·rintro ⟨m,ks⟩ ⟨hm1,hm2,f,hm3,hm4⟩
    simp only at hm1 hm2 hm3 hm4
    obtain ⟨f,rfl⟩:∃ g,f=g+1:=⟨f - 1,by omega⟩
    unfold argsF at hm4
    have hax:=ha m hm1
    cases hx:argF p s tw m with
    | no q e=>rw[hx] at hm4;cases hm4
    | ok n i =>
     rw[hx] at hm4 hax
     simp only[Rs.bind_ok] at hm4
     obtain ⟨hi1,hi2⟩:=argF_fwd hf hm1 hx
     unfold Gives1 at hax
     have b1:=blanks_d (gl:=gl) s i d hi2 hs
     have hj2:=skp_le hi2
     have hsk:=skp_skp s i
     by_cases hc:s[skp s i]?=some 44
     ·rw[if_pos hc] at hm4
      have hl:=lt_of_get hc
      have g1:=(byt 44 hl).2 hc
      have g2:((skp s i:Nat):Int)<((s.length:Nat):Int):=by omega
      have hge:=le_skp s i
      generalize skp s i=x at *
      obtain ⟨k0,m0,t,a,b,ks0⟩:=n
      ((repeat' ((conv=>whnf);first|exact .intro|refine G ?_|intro _|refine C5 hax [0] ?_|refine C5 b1 [0] ?_|(refine ⟨⟨rfl,by show ((Nd.csL ks).length+1) * 104≤140737488355328;rw[csL_len];omega,by show (Nd.csL ks).length+1≤maxLen;rw[csL_len];unfold maxLen;omega⟩,?_⟩)|refine .mk ?_ ?_|refine H ?_|fail));all_goals conv=>whnf)
      all_goals
       refine ⟨(x+1,ks++[.mk k0 m0 t a b ks0]),⟨⟨hl,by show (ks++[_]).length≤x+1;rw[List.length_append];show ks.length+1≤x+1;omega,f,by show s.length - (x+1)<f;omega,hm4⟩,by show s.length - (x+1)<s.length - m;omega⟩,?_⟩
       ((repeat' first|exact rfl|((conv=>whnf);first|done|exact suL|refine And.intro ?_ ?_|fail));all_goals conv=>whnf)
       all_goals first
        | exact (csL_app ks [.mk k0 m0 t a b ks0]).symm
        | exact ceq (by rw[wrapI (by omega)];rfl)
     ·rw[if_neg hc] at hm4
      have g3:¬ ((skp s i:Nat):Int)<((s.length:Nat):Int)∨(((skp s i:Nat):Int)<((s.length:Nat):Int)∧¬ (((s.getD ((skp s i:Nat):Int).toNat 0).toNat:Nat):Int)=44):=by
       rcases Nat.lt_or_ge (skp s i) s.length with hl|hl
       ·exact .inr ⟨by omega,fun hh=>hc ((byt 44 hl).1 hh)⟩
       ·exact .inl (by omega)
      by_cases h41:s[skp s i]?=some 41
      ·rw[if_pos h41] at hm4
       have b2:=want_y (gl:=gl) (d:=d) hj2 hs (by rw[hsk];exact h41)
       rw[hsk] at b2
       obtain ⟨rfl,rfl⟩:ks++[n]=ls∧skp s i+1=jj:=by simpa using hm4
       generalize skp s i=x at *
       obtain ⟨k0,m0,t,a,b,ks0⟩:=n
       rcases g3 with g3|⟨g3,g4⟩
       all_goals
        ((repeat' ((conv=>whnf);first|exact .intro|refine G ?_|intro _|refine C5 hax [0] ?_|refine C5 b1 [0] ?_|refine C5 b2 [0] ?_|(refine ⟨⟨rfl,by show ((Nd.csL ks).length+1) * 104≤140737488355328;rw[csL_len];omega,by show (Nd.csL ks).length+1≤maxLen;rw[csL_len];unfold maxLen;omega⟩,?_⟩)|refine .mk ?_ ?_|refine H ?_|fail));all_goals conv=>whnf)
        ((repeat' first|exact rfl|((conv=>whnf);first|done|exact suL|refine And.intro ?_ ?_|fail));all_goals conv=>whnf)
        all_goals (refine .inr ?_;repeat' first|exact .intro|exact .inr (.inl rfl)|exact lf0|exact ln0|((conv=>whnf);first|exact .intro|exact .inr (.inl rfl)|exact lf0|exact ln0|refine And.intro ?_ ?_|fail))
        all_goals exact .inr (.inl (congrArg (fun z=>C.d (.lst 12 z)) (csL_app ks [.mk k0 m0 t a b ks0]).symm))
      ·rw[if_neg h41] at hm4;cases hm4
 | no v e =>
  unfold Gives1
  simp only[Rs.bind_no]
  rcases h1 with h1|⟨h1,h2⟩
  all_goals
   refine fn_of_vc (nv:=9999) (cu:=[100007]) fits mixed Tryz.func124 rfl hoB rfl rfl rfl rfl ?_
   ((repeat' ((conv=>whnf);first|exact .intro|refine G ?_|intro _|refine C5 c0 [0] ?_|(rw[e1])|refine .mk ?_ ?_|refine H ?_|fail));all_goals conv=>whnf)
   refine ⟨{ σ:=Nat×List Nd,fr:=fun q=>[],ks:=[0,2],L:=fun q=>[(0,rdB s q.1 d),(2,.var [.d (iD 9),.d (iD 0),.d (.str w),.d (iD 0),.d (iD 0),.d (.v (.bool false)),.d (.v (.bool false)),.d (iD 0),.d (iD 0),.d (.v (.bool false)),.d (.v (.bool false)),.all 12 3] 64),(3,.rows 12 (Nd.csL q.2) 64)],ex:=1,I:=fun q=>q.1≤s.length∧q.2.length≤q.1∧∃ f,s.length - q.1<f∧argsF p s tw f q.2 q.1=.no v e,μ:=fun q=>s.length - q.1 },⟨(j,[]),⟨hj,Nat.zero_le _,s.length+1,by omega,hr⟩,?_⟩,?_⟩
   ·((repeat' first|exact rfl|((conv=>whnf);first|done|exact suL|refine And.intro ?_ ?_|fail));all_goals conv=>whnf)
    all_goals exact ⟨12,_,rfl,by decide,Nat.le_refl _⟩
   ·rintro ⟨m,ks⟩ ⟨hm1,hm2,f,hm3,hm4⟩
    simp only at hm1 hm2 hm3 hm4
    obtain ⟨f,rfl⟩:∃ g,f=g+1:=⟨f - 1,by omega⟩
    unfold argsF at hm4
    have hax:=ha m hm1
    cases hx:argF p s tw m with
    | no q0 e0 =>
     rw[hx] at hm4 hax
     cases hm4
     unfold Gives1 at hax
     ((repeat' ((conv=>whnf);first|exact .intro|refine G ?_|intro _|refine C5 hax [0] ?_|refine .mk ?_ ?_|refine H ?_|fail));all_goals conv=>whnf)
     ((repeat' first|exact rfl|((conv=>whnf);first|done|exact suL|refine And.intro ?_ ?_|fail));all_goals conv=>whnf)
    | ok n i =>
     rw[hx] at hm4 hax
     simp only[Rs.bind_ok] at hm4
     obtain ⟨hi1,hi2⟩:=argF_fwd hf hm1 hx
     unfold Gives1 at hax
     have b1:=blanks_d (gl:=gl) s i d hi2 hs
     have hj2:=skp_le hi2
     have hsk:=skp_skp s i
     by_cases hc:s[skp s i]?=some 44
     ·rw[if_pos hc] at hm4
      have hl:=lt_of_get hc
      have g1:=(byt 44 hl).2 hc
      have g2:((skp s i:Nat):Int)<((s.length:Nat):Int):=by omega
      have hge:=le_skp s i
      generalize skp s i=x at *
      obtain ⟨k0,m0,t,a,b,ks0⟩:=n
      ((repeat' ((conv=>whnf);first|exact .intro|refine G ?_|intro _|refine C5 hax [0] ?_|refine C5 b1 [0] ?_|(refine ⟨⟨rfl,by show ((Nd.csL ks).length+1) * 104≤140737488355328;rw[csL_len];omega,by show (Nd.csL ks).length+1≤maxLen;rw[csL_len];unfold maxLen;omega⟩,?_⟩)|refine .mk ?_ ?_|refine H ?_|fail));all_goals conv=>whnf)
      all_goals
       refine ⟨(x+1,ks++[.mk k0 m0 t a b ks0]),⟨⟨hl,by show (ks++[_]).length≤x+1;rw[List.length_append];show ks.length+1≤x+1;omega,f,by show s.length - (x+1)<f;omega,hm4⟩,by show s.length - (x+1)<s.length - m;omega⟩,?_⟩
       ((repeat' first|exact rfl|((conv=>whnf);first|done|exact suL|refine And.intro ?_ ?_|fail));all_goals conv=>whnf)
       all_goals first
        | exact (csL_app ks [.mk k0 m0 t a b ks0]).symm
        | exact ceq (by rw[wrapI (by omega)];rfl)
     ·rw[if_neg hc] at hm4
      have g3:¬ ((skp s i:Nat):Int)<((s.length:Nat):Int)∨(((skp s i:Nat):Int)<((s.length:Nat):Int)∧¬ (((s.getD ((skp s i:Nat):Int).toNat 0).toNat:Nat):Int)=44):=by
       rcases Nat.lt_or_ge (skp s i) s.length with hl|hl
       ·exact .inr ⟨by omega,fun hh=>hc ((byt 44 hl).1 hh)⟩
       ·exact .inl (by omega)
      by_cases h41:s[skp s i]?=some 41
      ·rw[if_pos h41] at hm4
       cases hm4
      ·rw[if_neg h41] at hm4
       cases hm4
       have b2:=want_n (gl:=gl) (d:=d) hj2 hs (by rw[hsk];exact h41)
       rw[hsk] at b2
       generalize skp s i=x at *
       obtain ⟨k0,m0,t,a,b,ks0⟩:=n
       rcases g3 with g3|⟨g3,g4⟩
       all_goals
        ((repeat' ((conv=>whnf);first|exact .intro|refine G ?_|intro _|refine C5 hax [0] ?_|refine C5 b1 [0] ?_|refine C5 b2 [0] ?_|(refine ⟨⟨rfl,by show ((Nd.csL ks).length+1) * 104≤140737488355328;rw[csL_len];omega,by show (Nd.csL ks).length+1≤maxLen;rw[csL_len];unfold maxLen;omega⟩,?_⟩)|refine .mk ?_ ?_|refine H ?_|fail));all_goals conv=>whnf)
        ((repeat' first|exact rfl|((conv=>whnf);first|done|exact suL|refine And.intro ?_ ?_|fail));all_goals conv=>whnf)
end
section
def lvs:Nat→List (Nat×List UInt8)
 | 0=>[(2,[60,62]),(4,[60,61]),(6,[62,61]),(1,[61]),(3,[60]),(5,[62])]
 | 1=>[(7,[38])]
 | 2=>[(8,[43]),(9,[45])]
 | _=>[(10,[42]),(11,[47])]
def lvR (l:Nat):List (List D):=(lvs l).map fun q=>[.str q.2]
def lvD (l:Nat):D:=.lst 1 (lvR l)
abbrev lvAll:List D:=[lvD 0,lvD 1,lvD 2,lvD 3]
def lvF:List (Nat×List UInt8)→List UInt8→Option (Nat×Nat)
 | [],_=>none
 | q::r,t=>if q.2.length≤t.length∧t.take q.2.length=q.2 then some (q.1,q.2.length) else lvF r t
theorem lvR_len (l:Nat):(lvR l).length=(lvs l).length:=by unfold lvR;rw[List.length_map]
theorem lvs_len (l:Nat):(lvs l).length≤6:=by unfold lvs;split <;> decide
theorem lv_get {l k:Nat} (h:k<(lvs l).length):(lvR l)[((k:Nat):Int).toNat]?=some [.str ((lvs l)[k]).2]:=by
 rw[Int.toNat_natCast,lvR,List.getElem?_map,List.getElem?_eq_getElem h]
 rfl
theorem lv_cut {l:Nat} (h:l≤3):cut lvAll (((l:Nat):Int).toNat * 1) 1=[lvD l]:=by
 match l,h with
 | 0,_=>rfl
 | 1,_=>rfl
 | 2,_=>rfl
 | 3,_=>rfl
theorem lv_mem {l k:Nat} (h:k<(lvs l).length):(lvs l)[k] ∈ [(1,[61]),(2,[60,62]),(3,[60]),(4,[60,61]),(5,[62]),(6,[62,61]),(7,[38]),(8,[43]),(9,[45]),(10,[42]),(11,([47]:List UInt8))]:=by
 have key:∀ q ∈ lvs l,q ∈ [(1,[61]),(2,[60,62]),(3,[60]),(4,[60,61]),(5,[62]),(6,[62,61]),(7,[38]),(8,[43]),(9,[45]),(10,[42]),(11,([47]:List UInt8))]:=by
  unfold lvs
  split <;> (intro q hq;simp only[List.mem_cons,List.not_mem_nil,or_false] at hq;rcases hq with rfl|rfl|rfl|rfl|rfl|rfl) <;> simp
 exact key _ (List.getElem_mem h)
theorem lvF_drop {l k:Nat} (h:k<(lvs l).length) (t:List UInt8):lvF ((lvs l).drop k) t=if ((lvs l)[k]).2.length≤t.length∧t.take ((lvs l)[k]).2.length=((lvs l)[k]).2 then some (((lvs l)[k]).1,((lvs l)[k]).2.length) else lvF ((lvs l).drop (k+1)) t:=by
 rw[List.drop_eq_getElem_cons h,lvF]
theorem opT_not {a:UInt8} {r:List UInt8} (h1:a≠61) (h2:a≠60) (h3:a≠62) (h4:a≠38) (h5:a≠43) (h6:a≠45) (h7:a≠42) (h8:a≠47):opT (a::r)=none:=by
 unfold opT
 split <;> simp_all
theorem lv_spec {l:Nat} (hl:l≤3) (t:List UInt8):lvF (lvs l) t=(opT t).filter fun q=>decide (tgt q.1=l+1):=by
 cases t with
 | nil=>match l,hl with
  | 0,_=>rfl
  | 1,_=>rfl
  | 2,_=>rfl
  | 3,_=>rfl
 | cons a r =>
  by_cases h1:a=61
  ·subst h1
   match l,hl with
   | 0,_=>cases r <;> simp[lvF,lvs,opT,tgt,Option.filter]
   | 1,_=>cases r <;> simp[lvF,lvs,opT,tgt,Option.filter]
   | 2,_=>cases r <;> simp[lvF,lvs,opT,tgt,Option.filter]
   | 3,_=>cases r <;> simp[lvF,lvs,opT,tgt,Option.filter]
  by_cases h4:a=38
  ·subst h4
   match l,hl with
   | 0,_=>cases r <;> simp[lvF,lvs,opT,tgt,Option.filter]
   | 1,_=>cases r <;> simp[lvF,lvs,opT,tgt,Option.filter]
   | 2,_=>cases r <;> simp[lvF,lvs,opT,tgt,Option.filter]
   | 3,_=>cases r <;> simp[lvF,lvs,opT,tgt,Option.filter]
  by_cases h5:a=43
  ·subst h5
   match l,hl with
   | 0,_=>cases r <;> simp[lvF,lvs,opT,tgt,Option.filter]
   | 1,_=>cases r <;> simp[lvF,lvs,opT,tgt,Option.filter]
   | 2,_=>cases r <;> simp[lvF,lvs,opT,tgt,Option.filter]
   | 3,_=>cases r <;> simp[lvF,lvs,opT,tgt,Option.filter]
  by_cases h6:a=45
  ·subst h6
   match l,hl with
   | 0,_=>cases r <;> simp[lvF,lvs,opT,tgt,Option.filter]
   | 1,_=>cases r <;> simp[lvF,lvs,opT,tgt,Option.filter]
   | 2,_=>cases r <;> simp[lvF,lvs,opT,tgt,Option.filter]
   | 3,_=>cases r <;> simp[lvF,lvs,opT,tgt,Option.filter]
  by_cases h7:a=42
  ·subst h7
   match l,hl with
   | 0,_=>cases r <;> simp[lvF,lvs,opT,tgt,Option.filter]
   | 1,_=>cases r <;> simp[lvF,lvs,opT,tgt,Option.filter]
   | 2,_=>cases r <;> simp[lvF,lvs,opT,tgt,Option.filter]
   | 3,_=>cases r <;> simp[lvF,lvs,opT,tgt,Option.filter]
  by_cases h8:a=47
  ·subst h8
   match l,hl with
   | 0,_=>cases r <;> simp[lvF,lvs,opT,tgt,Option.filter]
   | 1,_=>cases r <;> simp[lvF,lvs,opT,tgt,Option.filter]
   | 2,_=>cases r <;> simp[lvF,lvs,opT,tgt,Option.filter]
   | 3,_=>cases r <;> simp[lvF,lvs,opT,tgt,Option.filter]
  by_cases h2:a=60
  ·subst h2
   cases r with
   | nil =>
    match l,hl with
    | 0,_=>rfl
    | 1,_=>rfl
    | 2,_=>rfl
    | 3,_=>rfl
   | cons b r =>
    by_cases e1:b=62
    ·subst e1
     match l,hl with
     | 0,_=>simp[lvF,lvs,opT,tgt,Option.filter]
     | 1,_=>simp[lvF,lvs,opT,tgt,Option.filter]
     | 2,_=>simp[lvF,lvs,opT,tgt,Option.filter]
     | 3,_=>simp[lvF,lvs,opT,tgt,Option.filter]
    by_cases e2:b=61
    ·subst e2
     match l,hl with
     | 0,_=>simp[lvF,lvs,opT,tgt,Option.filter]
     | 1,_=>simp[lvF,lvs,opT,tgt,Option.filter]
     | 2,_=>simp[lvF,lvs,opT,tgt,Option.filter]
     | 3,_=>simp[lvF,lvs,opT,tgt,Option.filter]
    have e:opT (60::b::r)=some (3,1):=by unfold opT;split <;> simp_all
    rw[e]
    match l,hl with
    | 0,_=>simp[lvF,lvs,tgt,Option.filter,e1,e2]
    | 1,_=>simp[lvF,lvs,tgt,Option.filter]
    | 2,_=>simp[lvF,lvs,tgt,Option.filter]
    | 3,_=>simp[lvF,lvs,tgt,Option.filter]
  by_cases h3:a=62
  ·subst h3
   cases r with
   | nil =>
    match l,hl with
    | 0,_=>rfl
    | 1,_=>rfl
    | 2,_=>rfl
    | 3,_=>rfl
   | cons b r =>
    by_cases e2:b=61
    ·subst e2
     match l,hl with
     | 0,_=>simp[lvF,lvs,opT,tgt,Option.filter]
     | 1,_=>simp[lvF,lvs,opT,tgt,Option.filter]
     | 2,_=>simp[lvF,lvs,opT,tgt,Option.filter]
     | 3,_=>simp[lvF,lvs,opT,tgt,Option.filter]
    have e:opT (62::b::r)=some (5,1):=by unfold opT;split <;> simp_all
    rw[e]
    match l,hl with
    | 0,_=>simp[lvF,lvs,tgt,Option.filter,e2]
    | 1,_=>simp[lvF,lvs,tgt,Option.filter]
    | 2,_=>simp[lvF,lvs,tgt,Option.filter]
    | 3,_=>simp[lvF,lvs,tgt,Option.filter]
  rw[opT_not h1 h2 h3 h4 h5 h6 h7 h8]
  match l,hl with
  | 0,_=>simp[lvF,lvs,h1,h2,h3]
  | 1,_=>simp[lvF,lvs,h4]
  | 2,_=>simp[lvF,lvs,h5,h6]
  | 3,_=>simp[lvF,lvs,h7,h8]
end
end Go.Proofs.YtfcmhmglpcimiaaGreatDoor
