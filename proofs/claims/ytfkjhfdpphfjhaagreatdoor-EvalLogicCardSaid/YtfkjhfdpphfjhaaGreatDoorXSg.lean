/- Proved: a part of what the law is proved with (the reckoner, contracts of functions, plain laws). Conditions: as each says. -/
import Derived.Lib.AppendIntMem
import Derived.Test.YtfkjhfdpphfjhaaGreatDoorXSd
namespace Go.Proofs.YtfkjhfdpphfjhaaGreatDoor
open Go Go.EYtfkjhfdpphfjhaaGreatDoor
set_option maxRecDepth 100000
section
variable {gl:List (Nat×List D)}
theorem dig_contains (x:UInt8):D10.contains x=true↔isDig x:=by
 constructor
 ·intro h
  have h':x ∈ D10:=by simpa using h
  simp only[List.mem_cons,List.not_mem_nil,or_false] at h'
  rcases h' with rfl|rfl|rfl|rfl|rfl|rfl|rfl|rfl|rfl|rfl <;> decide
 ·rintro ⟨h1,h2⟩
  have key:∀ n:Fin 256,48≤n.val→n.val≤57→D10.contains (UInt8.ofNat n.val)=true:=by decide +kernel
  have:=key ⟨x.toNat,UInt8.toNat_lt x⟩ h1 h2
  simpa using this
theorem dropWhile_nil {α:Type} {p:α→Bool} {l:List α}:l.dropWhile p=[]↔∀ x ∈ l,p x=true:=by
 induction l with
 | nil=>simp
 | cons a l ih =>
  rw[List.dropWhile_cons]
  by_cases h:p a=true
  ·rw[if_pos h,ih];simp[h]
  ·rw[if_neg h];simp[h]
theorem trimS_nil {l cs:List UInt8}:Lib.trimS l cs=[]↔∀ x ∈ l,cs.contains x=true:=by
 unfold Lib.trimS Lib.trimLeftS Lib.trimRightS
 rw[dropWhile_nil]
 constructor
 ·intro h x hx
  have h2:l.reverse.dropWhile (fun b=>cs.contains b)=[]:=by
   cases hd:l.reverse.dropWhile (fun b=>cs.contains b) with
   | nil=>rfl
   | cons a r =>
    have h3:=List.head?_dropWhile_not (fun b=>cs.contains b) l.reverse
    rw[hd] at h3 h
    have h4:=h a (by simp)
    simp at h3 h4
    exact absurd h4 h3
  rw[dropWhile_nil] at h2
  exact h2 x (by simpa using hx)
 ·intro h x hx
  have:=List.mem_reverse.1 hx
  exact h x (List.mem_reverse.1 ((List.dropWhile_sublist _).mem this))
def rvF (acc:Nat) (l:List UInt8):Nat:=l.foldl (fun n d=>n * 10+(d.toNat - 48)) acc
theorem rvF_ge (l:List UInt8):∀ acc,acc≤rvF acc l:=by
 induction l with
 | nil=>intro acc;exact Nat.le_refl _
 | cons d l ih=>intro acc;exact Nat.le_trans (by omega) (ih (acc * 10+(d.toNat - 48)))
theorem rv_all (l:List UInt8):rv l l.length=rvF 0 l:=by unfold rv rvF;rw[List.take_length]
theorem parse_dig (l:List UInt8):∀ acc,acc<18446744073709551616→(∀ d ∈ l,isDig d)→Lib.parseUint10 acc l=if rvF acc l<18446744073709551616 then .ok (rvF acc l) else .range:=by
 induction l with
 | nil=>intro acc h _;have e:rvF acc []=acc:=rfl;rw[e,if_pos h];rfl
 | cons d l ih =>
  intro acc h hd
  have h1:isDig d:=hd d (by simp)
  have e:rvF acc (d::l)=rvF (acc * 10+(d.toNat - 48)) l:=rfl
  have h2:=rvF_ge l (acc * 10+(d.toNat - 48))
  rw[Lib.parseUint10,if_pos h1,e]
  by_cases h3:1844674407370955162≤acc
  ·rw[if_pos h3,if_neg (by omega)]
  ·rw[if_neg h3]
   by_cases h4:18446744073709551616≤acc * 10+(d.toNat - 48)
   ·rw[if_pos h4,if_neg (by omega)]
   ·rw[if_neg h4]
    exact ih _ (by omega) (fun x hx=>hd x (by simp[hx]))
abbrev wholeOk (s:List UInt8):Prop:=unsg s≠[]∧¬ ((unsg s).head?=some 48∧s≠[48])∧∀ x ∈ unsg s,isDig x
def wholeV (s:List UInt8):Int:=if s.head?=some 45 then -(rv (unsg s) (unsg s).length:Int) else rv (unsg s) (unsg s).length
def wholeZ (s:List UInt8):Option Int:=if wholeOk s∧okI (wholeV s) then some (wholeV s) else none
theorem atoi_whole {s:List UInt8} (h:wholeOk s):Lib.atoiAll s=if okI (wholeV s) then .ok (wholeV s) else .range:=by
 obtain ⟨h1,h2,h3⟩:=h
 have hp:=parse_dig (unsg s) 0 (by omega) h3
 cases s with
 | nil=>exact absurd rfl h1
 | cons c r =>
  unfold wholeV
  rw[rv_all]
  by_cases hc:c=45
  ·subst hc
   have eu:unsg (45::r)=r:=rfl
   rw[eu] at h1 hp ⊢
   simp only[Lib.atoiAll,Lib.parseMag,List.head?_cons,if_true,h1,if_false,hp,show ((45:UInt8).toNat=45) from rfl,or_true]
   generalize rvF 0 r=u
   by_cases hu:u<18446744073709551616
   ·simp only[hu,if_true,not_true_eq_false,false_and,if_false,true_and]
    by_cases hv:9223372036854775808<u
    ·rw[if_pos hv,if_neg (by omega)]
    ·rw[if_neg hv,if_pos (by omega)]
   ·simp only[hu,if_false]
    rw[if_neg (by omega)]
  ·have hc':¬ c.toNat=45:=fun e=>hc (UInt8.toNat_inj.1 e)
   have eu:unsg (c::r)=c::r:=by simp[unsg,hc]
   rw[eu] at h1 h3 hp ⊢
   have h43:¬ c.toNat=43:=fun e=>by have:=(h3 c (by simp)).1;omega
   simp only[Lib.atoiAll,Lib.parseMag,List.head?_cons,Option.some.injEq,hc,if_false,hc',h43,or_self,h1,hp]
   generalize rvF 0 (c::r)=u
   by_cases hu:u<18446744073709551616
   ·simp only[hu,if_true,not_false_eq_true,true_and,false_and,if_false]
    by_cases hv:9223372036854775808≤u
    ·rw[if_pos hv,if_neg (by omega)]
    ·rw[if_neg hv,if_pos (by omega)]
   ·simp only[hu,if_false]
    rw[if_neg (by omega)]
theorem unsg_len (s:List UInt8):(unsg s).length≤s.length:=by unfold unsg;split <;> simp
theorem Whole_e {s:List UInt8} (h:unsg s=[]):FnP Tryz.prog gl 160 [.str s] (.tup [iD 0,fD]):=by
 have hT:=TrimPrefix_d (gl:=gl) s
 rw[h] at hT
 refine S0 Tryz.func160 rfl ?_
 ((repeat' ((conv=>whnf);first|exact .intro|refine G ?_|intro _|refine C1 hT ?_|refine .mk ?_ ?_|refine H ?_|fail));all_goals conv=>whnf)
 all_goals exact LeD.rfl
theorem Whole_0 {s:List UInt8} (h:(unsg s).head?=some 48) (h2:s≠[48]):FnP Tryz.prog gl 160 [.str s] (.tup [iD 0,fD]):=by
 have hT:=TrimPrefix_d (gl:=gl) s
 obtain ⟨l,e⟩:∃ l,unsg s=48::l:=by
  cases hu:unsg s with
  | nil=>rw[hu] at h;cases h
  | cons a l=>rw[hu] at h;cases h;exact ⟨l,rfl⟩
 rw[e] at hT
 have h3:(((48::l).getD (Int.toNat 0) 0).toNat:Int)=48:=rfl
 refine S0 Tryz.func160 rfl ?_
 ((repeat' ((conv=>whnf);first|exact .intro|refine G ?_|intro _|refine C1 hT ?_|refine .mk ?_ ?_|refine AK ?_|refine And.intro (by first|(first|assumption|omega|(simp;done)|(simp;omega);done)|fail) ?_|fail));all_goals conv=>whnf)
 all_goals exact LeD.rfl
theorem Whole_d {s:List UInt8} (hs:s.length≤140737488355328) (h1:unsg s≠[]) (h2:¬ ((unsg s).head?=some 48∧s≠[48])) (h3:¬ ∀ x ∈ unsg s,isDig x):FnP Tryz.prog gl 160 [.str s] (.tup [iD 0,fD]):=by
 have hT:=TrimPrefix_d (gl:=gl) s
 have hl:=unsg_len s
 have hR:=Trim_d (gl:=gl) (unsg s) (by omega)
 have hn:¬ Lib.trimS (unsg s) D10=[]:=fun e=>h3 fun x hx=>(dig_contains x).1 (trimS_nil.1 e x hx)
 generalize Lib.trimS (unsg s) D10=t at hR hn
 obtain ⟨a,l,e⟩:=List.exists_cons_of_ne_nil h1
 rw[e] at hT hR h2
 by_cases ha:a=48
 ·subst ha
  have hz:s=[48]:=Classical.byContradiction fun h=>h2 ⟨rfl,h⟩
  have h4:(((48::l).getD (Int.toNat 0) 0).toNat:Int)=48:=rfl
  refine S0 Tryz.func160 rfl ?_
  ((repeat' ((conv=>whnf);first|exact .intro|refine G ?_|intro _|refine C1 hT ?_|refine C1 hR ?_|refine .mk ?_ ?_|refine AK ?_|refine And.intro (by first|(first|assumption|omega|(simp;done)|(simp;omega);done)|fail) ?_|fail));all_goals conv=>whnf)
  all_goals exact LeD.rfl
 ·have h4:¬ (((a::l).getD (Int.toNat 0) 0).toNat:Int)=48:=fun e=>ha (UInt8.toNat_inj.1 (show a.toNat=(48:UInt8).toNat from Int.ofNat.inj e))
  refine S0 Tryz.func160 rfl ?_
  ((repeat' ((conv=>whnf);first|exact .intro|refine G ?_|intro _|refine C1 hT ?_|refine C1 hR ?_|refine .mk ?_ ?_|refine AK ?_|refine And.intro (by first|(first|assumption|omega|(simp;done)|(simp;omega);done)|fail) ?_|fail));all_goals conv=>whnf)
  all_goals exact LeD.rfl
theorem Whole_a {s:List UInt8} (hs:s.length≤140737488355328) (h:wholeOk s) {v:Int} {d:D} {b:Bool} (hd:(d=.v .nilIface∧b=true)∨(d=.ifc 282 false [.imm []]∧b=false)) (hA:FnP Tryz.prog gl 209 [.str s] (.tup [iD v,d])):FnP Tryz.prog gl 160 [.str s] (.tup [iD v,.v (.bool b)]):=by
 obtain ⟨h1,h2,h3⟩:=h
 have hT:=TrimPrefix_d (gl:=gl) s
 have hl:=unsg_len s
 have hR:=Trim_d (gl:=gl) (unsg s) (by omega)
 have hn:Lib.trimS (unsg s) D10=[]:=trimS_nil.2 fun x hx=>(dig_contains x).2 (h3 x hx)
 rw[hn] at hR
 obtain ⟨a,l,e⟩:=List.exists_cons_of_ne_nil h1
 rw[e] at hT hR h2
 by_cases ha:a=48
 ·subst ha
  have hz:s=[48]:=Classical.byContradiction fun h=>h2 ⟨rfl,h⟩
  have h4:(((48::l).getD (Int.toNat 0) 0).toNat:Int)=48:=rfl
  rcases hd with ⟨rfl,rfl⟩|⟨rfl,rfl⟩
  all_goals
   refine S0 Tryz.func160 rfl ?_
   ((repeat' ((conv=>whnf);first|exact .intro|refine G ?_|intro _|refine C1 hT ?_|refine C1 hR ?_|refine C1 hA ?_|refine .mk ?_ ?_|refine AK ?_|refine And.intro (by first|(first|assumption|omega|(simp;done)|(simp;omega);done)|fail) ?_|fail));all_goals conv=>whnf)
   all_goals first|exact LeD.rfl|exact LeD.tup ⟨LeD.rfl,LeD.vt trivial,trivial⟩|exact LeD.tup ⟨LeD.rfl,LeD.vf (by simp),trivial⟩
 ·have h4:¬ (((a::l).getD (Int.toNat 0) 0).toNat:Int)=48:=fun e=>ha (UInt8.toNat_inj.1 (show a.toNat=(48:UInt8).toNat from Int.ofNat.inj e))
  rcases hd with ⟨rfl,rfl⟩|⟨rfl,rfl⟩
  all_goals
   refine S0 Tryz.func160 rfl ?_
   ((repeat' ((conv=>whnf);first|exact .intro|refine G ?_|intro _|refine C1 hT ?_|refine C1 hR ?_|refine C1 hA ?_|refine .mk ?_ ?_|refine AK ?_|refine And.intro (by first|(first|assumption|omega|(simp;done)|(simp;omega);done)|fail) ?_|fail));all_goals conv=>whnf)
   all_goals first|exact LeD.rfl|exact LeD.tup ⟨LeD.rfl,LeD.vt trivial,trivial⟩|exact LeD.tup ⟨LeD.rfl,LeD.vf (by simp),trivial⟩
theorem Whole_some {s:List UInt8} {v:Int} (hs:s.length≤140737488355328) (h:wholeZ s=some v):FnP Tryz.prog gl 160 [.str s] (.tup [iD v,.v (.bool true)]):=by
 unfold wholeZ at h
 split at h
 ·rename_i hh
  cases h
  have ha:=atoi_whole hh.1
  rw[if_pos hh.2] at ha
  exact Whole_a hs hh.1 (.inl ⟨rfl,rfl⟩) (Atoi_s s _ hs ha)
 ·cases h
theorem Whole_none {s:List UInt8} (hs:s.length≤140737488355328) (hr:errR gl) (h:wholeZ s=none):∃ n,FnP Tryz.prog gl 160 [.str s] (.tup [iD n,.v (.bool false)]):=by
 unfold wholeZ at h
 split at h
 ·cases h
 ·rename_i hh
  by_cases h1:wholeOk s
  ·have ha:=atoi_whole h1
   rw[if_neg (fun h=>hh ⟨h1,h⟩)] at ha
   exact ⟨_,Whole_a hs h1 (.inr ⟨rfl,rfl⟩) (Atoi_r s hs ha hr)⟩
  ·refine ⟨0,?_⟩
   by_cases q1:unsg s=[]
   ·exact Whole_e q1
   ·by_cases q2:(unsg s).head?=some 48∧s≠[48]
    ·exact Whole_0 q2.1 q2.2
    ·exact Whole_d hs q1 q2 fun q3=>h1 ⟨q1,q2,q3⟩
theorem rWhole_e {s:List UInt8} (h:unsg s=[]):FnP Tryz.prog gl 79 [.str s,.v (.bool true)] (.tup [iD 0,fD]):=by
 have e:s=[]∨s=[45]:=by
  cases s with
  | nil=>exact .inl rfl
  | cons a l =>
   by_cases ha:a=45
   ·subst ha;have:l=[]:=h;subst this;exact .inr rfl
   ·simp[unsg,ha] at h
 rcases e with rfl|rfl
 all_goals
  refine S0 Tryz.func79 rfl ?_
  ((repeat' ((conv=>whnf);first|exact .intro|refine G ?_|intro _|refine .mk ?_ ?_|refine AK ?_|refine And.intro (by first|(first|assumption|omega|(simp;done)|(simp;omega);done)|fail) ?_|fail));all_goals conv=>whnf)
  all_goals exact LeD.rfl
theorem rWhole_0 {s:List UInt8} (h:(unsg s).head?=some 48) (h2:s≠[48]):FnP Tryz.prog gl 79 [.str s,.v (.bool true)] (.tup [iD 0,fD]):=by
 cases s with
 | nil=>cases h
 | cons a l =>
  by_cases ha:a=45
  ·subst ha
   have h':l.head?=some 48:=h
   cases l with
   | nil=>cases h'
   | cons b l =>
    cases h'
    have h3:(((48::l).getD (Int.toNat 0) 0).toNat:Int)=48:=rfl
    have h4:(((45::48::l).getD (Int.toNat 0) 0).toNat:Int)=45:=rfl
    refine S0 Tryz.func79 rfl ?_
    ((repeat' ((conv=>whnf);first|exact .intro|refine G ?_|intro _|(rw[drop1])|refine .mk ?_ ?_|refine AK ?_|refine And.intro (by first|(first|assumption|omega|(simp;done)|(simp;omega);done)|fail) ?_|fail));all_goals conv=>whnf)
    all_goals exact LeD.rfl
  ·have e:unsg (a::l)=a::l:=by simp[unsg,ha]
   rw[e] at h
   cases h
   have h3:(((48::l).getD (Int.toNat 0) 0).toNat:Int)=48:=rfl
   have h4:¬ (((48::l).getD (Int.toNat 0) 0).toNat:Int)=45:=by rw[h3];omega
   refine S0 Tryz.func79 rfl ?_
   ((repeat' ((conv=>whnf);first|exact .intro|refine G ?_|intro _|refine .mk ?_ ?_|refine AK ?_|refine And.intro (by first|(first|assumption|omega|(simp;done)|(simp;omega);done)|fail) ?_|fail));all_goals conv=>whnf)
   all_goals exact LeD.rfl
theorem rWhole_ok {s:List UInt8} (hs:s.length≤140737488355328) (h1:unsg s≠[]) (h2:¬ ((unsg s).head?=some 48∧s≠[48])):FnP Tryz.prog gl 79 [.str s,.v (.bool true)] (if (∀ x ∈ unsg s,isDig x)∧okI (wholeV s) then .tup [iD (wholeV s),.v (.bool true)] else .tup [iD 0,fD]):=by
 cases s with
 | nil=>exact absurd rfl h1
 | cons a l =>
  by_cases ha:a=45
  ·subst ha
   have h:=Whole_m (gl:=gl) l h1 (fun e=>h2 ⟨e,by simp⟩) (by simp at hs;omega)
   have ev:wholeV (45::l)=-(rv l l.length:Int):=rfl
   have eu:unsg (45::l)=l:=rfl
   rw[ev,eu]
   refine cast (congrArg _ ?_) h
   by_cases hc:(∀ x ∈ l,isDig x)∧rv l l.length≤9223372036854775808
   ·rw[if_pos hc,if_pos ⟨hc.1,by omega⟩]
   ·rw[if_neg hc,if_neg (fun hh=>hc ⟨hh.1,by omega⟩)]
  ·have eu:unsg (a::l)=a::l:=by simp[unsg,ha]
   rw[eu] at h2
   have h:=Whole_t (gl:=gl) (a::l) (by simp[ha]) (by simp) h2 hs
   have ev:wholeV (a::l)=(rv (a::l) (a::l).length:Int):=by unfold wholeV;rw[eu];simp[ha]
   rw[ev,eu]
   refine cast (congrArg _ ?_) h
   by_cases hc:wholeC (a::l)
   ·rw[if_pos hc,if_pos ⟨hc.1,by omega⟩]
   ·rw[if_neg hc,if_neg (fun hh=>hc ⟨hh.1,by omega⟩)]
theorem rWhole_some {s:List UInt8} {v:Int} (hs:s.length≤140737488355328) (h:wholeZ s=some v):FnP Tryz.prog gl 79 [.str s,.v (.bool true)] (.tup [iD v,.v (.bool true)]):=by
 unfold wholeZ at h
 split at h
 ·rename_i hh
  cases h
  have:=rWhole_ok (gl:=gl) hs hh.1.1 hh.1.2.1
  rwa [if_pos ⟨hh.1.2.2,hh.2⟩] at this
 ·cases h
theorem rWhole_none {s:List UInt8} (hs:s.length≤140737488355328) (h:wholeZ s=none):FnP Tryz.prog gl 79 [.str s,.v (.bool true)] (.tup [iD 0,.v (.bool false)]):=by
 unfold wholeZ at h
 split at h
 ·cases h
 ·rename_i hh
  by_cases q1:unsg s=[]
  ·exact rWhole_e q1
  ·by_cases q2:(unsg s).head?=some 48∧s≠[48]
   ·exact rWhole_0 q2.1 q2.2
   ·have:=rWhole_ok (gl:=gl) hs q1 q2
    rwa [if_neg (fun h=>hh ⟨⟨q1,q2,h.1⟩,h.2⟩)] at this
end
section
variable {gl:List (Nat×List D)}
def tx:List (List UInt8):=[[],[35,68,73,86,33],[35,86,65,76,85,69,33],[35,82,69,70,33],[35,78,65,77,69,33],[35,78,85,77,33],[35,78,79,78,69,33]]
abbrev tT:List UInt8:=[84,82,85,69]
abbrev tF:List UInt8:=[70,65,76,83,69]
abbrev glV (te:TypeId) (pe:Value):List (Nat×List D):=[(3,tx.map D.str),(8,[.v (.iface te pe)]),(9,Lib.pow10Tab.map fun z=>D.v (.int .u64 z))]
theorem errR_V (te:TypeId) (pe:Value):errR (glV te pe):=⟨te,pe,rfl⟩
def txI (s:List UInt8):Nat→Option Nat
 | 0=>none
 | n+1=>if tx.getD (6 - n) []=s then some (6 - n) else txI s n
def litZ (s:List UInt8):Option (Int×Int):=if s=tT then some (3,1) else if s=tF then some (3,0) else (txI s 6).map fun (i:Nat)=>((4:Int),(i:Int))
theorem tx_get {k:Nat} (h:k<7):(tx.map fun t=>C.d (.str t))[((k:Nat):Int).toNat]?=some (.d (.str (tx.getD k []))):=by
 have h':k<tx.length:=h
 rw[Int.toNat_natCast,List.getElem?_map,List.getElem?_eq_getElem h']
 simp[List.getD,List.getElem?_eq_getElem h']
theorem txI_step {s:List UInt8} {k:Nat} (h0:1≤k) (h:k≤6):txI s (7 - k)=if tx.getD k []=s then some k else txI s (7 - (k+1)):=by
 have e:7 - k=(6 - k)+1:=by omega
 have e2:6 - (6 - k)=k:=by omega
 have e3:7 - (k+1)=6 - k:=by omega
 rw[e,e3,txI,e2]
theorem tx_ne {k:Nat} (h0:0<k) (h:k<7):tx.getD k []≠[]:=by
 have key:∀ n:Fin 7,0<n.val→tx.getD n.val []≠[]:=by decide
 exact key ⟨k,h⟩ h0
theorem Is_t:FnP Tryz.prog gl 62 [.v (.bool true)] (vlD 3 1 []):=by
 refine S0 Tryz.func62 rfl ?_
 ((repeat' ((conv=>whnf);first|exact .intro|refine G ?_|intro _|refine .mk ?_ ?_|refine AK ?_|refine And.intro (by first|(fail;done)|fail) ?_|fail));all_goals conv=>whnf)
 exact LeD.rfl
theorem Is_f:FnP Tryz.prog gl 62 [.v (.bool false)] (vlD 3 0 []):=by
 refine S0 Tryz.func62 rfl ?_
 ((repeat' ((conv=>whnf);first|exact .intro|refine G ?_|intro _|refine .mk ?_ ?_|refine AK ?_|refine And.intro (by first|(fail;done)|fail) ?_|fail));all_goals conv=>whnf)
 exact LeD.rfl
def optV:Option (Int×Int)→D
 | some p=>.tup [vlD p.1 p.2 [],.v (.bool true)]
 | none=>.tup [vlD 0 0 [],.v (.bool false)]
theorem Literal_l (te:TypeId) (pe:Value) {s:List UInt8} (hT:¬ s=tT) (hF:¬ s=tF) {hit:Option Nat} (h:txI s 6=hit):FnP Tryz.prog (glV te pe) 145 [.str s] (optV (hit.map fun (i:Nat)=>((4:Int),(i:Int)))):=by
 refine S0 Tryz.func145 rfl ?_
 ((repeat' ((conv=>whnf);first|exact .intro|refine G ?_|intro _|refine .mk ?_ ?_|refine H ?_|fail));all_goals conv=>whnf)
 refine ⟨{ σ:=Nat,fr:=fun k=>[(14,.c (.d (iD k)))],ks:=[],L:=fun _=>[],ex:=0,I:=fun k=>k≤7∧(k=0∨txI s (7 - k)=hit),μ:=fun k=>7 - k },⟨0,⟨Nat.zero_le _,.inl rfl⟩,?_⟩,fun (k:Nat) hk=>?_⟩
 ·((repeat' first|exact rfl|((conv=>whnf);first|done|exact suL|refine And.intro ?_ ?_|fail));all_goals conv=>whnf)
 ·obtain ⟨hk1,hk2⟩:=hk
  by_cases hk7:k<7
  ·have hk7':(k:Int)<7:=by omega
   ((repeat' ((conv=>whnf);first|exact .intro|refine G ?_|intro _|refine .mk ?_ ?_|refine H ?_|fail));all_goals conv=>whnf)
   refine ⟨_,tx_get hk7,?_⟩
   ((repeat' ((conv=>whnf);first|exact .intro|refine G ?_|intro _|refine C1 (Wrong_d _) ?_|refine .mk ?_ ?_|refine H ?_|fail));all_goals conv=>whnf)
   ·rename_i h1 h2
    rcases hk2 with rfl|hk2
    ·exact absurd h1.symm h2
    ·rcases Nat.eq_zero_or_pos k with rfl|h0
     ·exact absurd h1.symm h2
     ·rw[txI_step h0 (by omega),if_pos h1] at hk2
      subst hk2
      exact LeD.rfl
   all_goals
    refine ⟨k+1,⟨⟨hk7,.inr ?_⟩,by show 7 - (k+1)<7 - k;omega⟩,?_⟩
    ·rcases Nat.eq_zero_or_pos k with rfl|h0
     ·exact h
     ·have hk3:=hk2.resolve_left (by omega)
      rw[txI_step h0 (by omega)] at hk3
      have hne:¬ tx.getD k []=s:=by
       first
        | assumption
        | (intro e
           have hs:s=[]:=by assumption
           rw[hs] at e
           exact tx_ne h0 hk7 e)
      rwa [if_neg hne] at hk3
    ·((repeat' first|exact rfl|((conv=>whnf);first|done|exact suL|refine And.intro ?_ ?_|fail));all_goals conv=>whnf)
     exact ceq (by rw[wrapI (by omega)];rfl)
  ·have hk7':¬ (k:Int)<7:=by omega
   have e7:k=7:=by omega
   subst e7
   have hh:txI s 0=hit:=hk2.resolve_left (by omega)
   subst hh
   ((repeat' ((conv=>whnf);first|exact .intro|refine G ?_|intro _|refine .mk ?_ ?_|refine H ?_|fail));all_goals conv=>whnf)
   exact LeD.rfl
theorem Literal_d (te:TypeId) (pe:Value) (s:List UInt8):FnP Tryz.prog (glV te pe) 145 [.str s] (optV (litZ s)):=by
 unfold litZ
 split
 ·rename_i hs
  subst hs
  refine S0 Tryz.func145 rfl ?_
  ((repeat' ((conv=>whnf);first|exact .intro|refine G ?_|intro _|refine C1 Is_t ?_|refine .mk ?_ ?_|refine H ?_|fail));all_goals conv=>whnf)
  all_goals exact LeD.rfl
 ·rename_i hs
  split
  ·rename_i hs2
   subst hs2
   refine S0 Tryz.func145 rfl ?_
   ((repeat' ((conv=>whnf);first|exact .intro|refine G ?_|intro _|refine C1 Is_f ?_|refine .mk ?_ ?_|refine H ?_|fail));all_goals conv=>whnf)
   all_goals exact LeD.rfl
  ·rename_i hs2
   exact Literal_l te pe hs hs2 rfl
theorem Wrongs_d:FnP Tryz.prog gl 77 [] (.lst 1 (tx.map fun t=>[.str t])):=by
 refine S0 Tryz.func77 rfl ?_
 ((repeat' ((conv=>whnf);first|exact .intro|refine G ?_|intro _|refine .mk ?_ ?_|refine AK ?_|refine And.intro (by first|(fail;done)|fail) ?_|fail));all_goals conv=>whnf)
 exact LeD.rfl
theorem txr_get {k:Nat} (h:k<7):(tx.map fun t=>[D.str t])[((k:Nat):Int).toNat]?=some [.str (tx.getD k [])]:=by
 have h':k<tx.length:=h
 rw[Int.toNat_natCast,List.getElem?_map,List.getElem?_eq_getElem h']
 simp[List.getD,List.getElem?_eq_getElem h']
theorem Named_l {s:List UInt8} (hT:¬ s=tT) (hF:¬ s=tF) {hit:Option Nat} (h:txI s 6=hit):FnP Tryz.prog gl 80 [.str s] (optV (hit.map fun (i:Nat)=>((4:Int),(i:Int)))):=by
 refine S0 Tryz.func80 rfl ?_
 ((repeat' ((conv=>whnf);first|exact .intro|refine G ?_|intro _|refine C1 Wrongs_d ?_|refine .mk ?_ ?_|refine H ?_|fail));all_goals conv=>whnf)
 refine ⟨{ σ:=Nat,fr:=fun k=>[(5,.c (.d (iD k)))],ks:=[],L:=fun _=>[],ex:=0,I:=fun k=>1≤k∧k≤7∧txI s (7 - k)=hit,μ:=fun k=>7 - k },⟨1,⟨Nat.le_refl _,by omega,h⟩,?_⟩,fun (k:Nat) hk=>?_⟩
 ·((repeat' first|exact rfl|((conv=>whnf);first|done|exact suL|refine And.intro ?_ ?_|fail));all_goals conv=>whnf)
 ·obtain ⟨h0,hk1,hk2⟩:=hk
  by_cases hk7:k<7
  ·have hk7':(k:Int)<7:=by omega
   rw[txI_step h0 (by omega)] at hk2
   by_cases hm:tx.getD k []=s
   ·rw[if_pos hm] at hk2
    subst hk2
    ((repeat' ((conv=>whnf);first|exact .intro|refine G ?_|intro _|refine .mk ?_ ?_|refine H ?_|fail));all_goals conv=>whnf)
    refine ⟨_,txr_get hk7,?_⟩
    ((repeat' ((conv=>whnf);first|exact .intro|refine G ?_|intro _|refine C1 (rBad_d _) ?_|refine .mk ?_ ?_|refine H ?_|fail));all_goals conv=>whnf)
    exact LeD.rfl
   ·rw[if_neg hm] at hk2
    ((repeat' ((conv=>whnf);first|exact .intro|refine G ?_|intro _|refine .mk ?_ ?_|refine H ?_|fail));all_goals conv=>whnf)
    refine ⟨_,txr_get hk7,?_⟩
    ((repeat' ((conv=>whnf);first|exact .intro|refine G ?_|intro _|refine .mk ?_ ?_|refine H ?_|fail));all_goals conv=>whnf)
    refine ⟨k+1,⟨⟨by omega,hk7,hk2⟩,by show 7 - (k+1)<7 - k;omega⟩,?_⟩
    ((repeat' first|exact rfl|((conv=>whnf);first|done|exact suL|refine And.intro ?_ ?_|fail));all_goals conv=>whnf)
    exact ceq (by rw[wrapI (by omega)];rfl)
  ·have hk7':¬ (k:Int)<7:=by omega
   have e7:k=7:=by omega
   subst e7
   have hh:txI s 0=hit:=hk2
   subst hh
   ((repeat' ((conv=>whnf);first|exact .intro|refine G ?_|intro _|refine .mk ?_ ?_|refine H ?_|fail));all_goals conv=>whnf)
   exact LeD.rfl
theorem Named_d (s:List UInt8):FnP Tryz.prog gl 80 [.str s] (optV (litZ s)):=by
 unfold litZ
 split
 ·rename_i hs
  subst hs
  refine S0 Tryz.func80 rfl ?_
  ((repeat' ((conv=>whnf);first|exact .intro|refine G ?_|intro _|refine C1 (rTru_y _ rfl) ?_|refine .mk ?_ ?_|refine H ?_|fail));all_goals conv=>whnf)
  all_goals exact LeD.rfl
 ·rename_i hs
  split
  ·rename_i hs2
   subst hs2
   refine S0 Tryz.func80 rfl ?_
   ((repeat' ((conv=>whnf);first|exact .intro|refine G ?_|intro _|refine .inl (.inl (X1 (rTru_n _ (by decide)) ?_))|refine .inl (X1 (rTru_n _ (by decide)) ?_)|refine X1 (rTru_n _ (by decide)) ?_|refine .mk ?_ ?_|refine H ?_|fail));all_goals conv=>whnf)
   all_goals exact LeD.rfl
  ·rename_i hs2
   exact Named_l hs hs2 rfl
structure Vl where
 k:Int
 n:Int
 s:List UInt8
def Vl.d (v:Vl):D:=vlD v.k v.n v.s
def readV (s:List UInt8):Vl :=
 if s=[] then ⟨0,0,[]⟩ else match wholeZ s with
  | some v=>⟨1,v,[]⟩
  | none=>match litZ s with
   | some p=>⟨p.1,p.2,[]⟩
   | none=>if 200<s.length then ⟨4,2,[]⟩ else ⟨2,0,s⟩
theorem len_200 {s:List UInt8}:(200:Int)<((s.length:Nat):Int)↔200<s.length:=by omega
theorem rRead_d (s:List UInt8) (hs:s.length≤140737488355328):FnP Tryz.prog gl 46 [.str s] (readV s).d:=by
 unfold readV
 split
 ·rename_i h0
  subst h0
  refine S0 Tryz.func46 rfl ?_
  ((repeat' ((conv=>whnf);first|exact .intro|refine G ?_|intro _|refine .mk ?_ ?_|refine H ?_|fail));all_goals conv=>whnf)
  exact LeD.rfl
 ·rename_i h0
  split
  ·rename_i v hv
   have hw:=rWhole_some (gl:=gl) hs hv
   refine S0 Tryz.func46 rfl ?_
   ((repeat' ((conv=>whnf);first|exact .intro|refine G ?_|intro _|refine C1 hw ?_|refine C1 (rNum_d _) ?_|refine .mk ?_ ?_|refine H ?_|fail));all_goals conv=>whnf)
   exact LeD.rfl
  ·rename_i hv
   have hw:=rWhole_none (gl:=gl) hs hv
   have hl:=Named_d (gl:=gl) s
   split
   ·rename_i p hp
    rw[hp] at hl
    refine S0 Tryz.func46 rfl ?_
    ((repeat' ((conv=>whnf);first|exact .intro|refine G ?_|intro _|refine C1 hw ?_|refine C1 hl ?_|refine .mk ?_ ?_|refine H ?_|fail));all_goals conv=>whnf)
    exact LeD.rfl
   ·rename_i hp
    rw[hp] at hl
    split
    ·rename_i h200
     have h200':=len_200.2 h200
     refine S0 Tryz.func46 rfl ?_
     ((repeat' ((conv=>whnf);first|exact .intro|refine G ?_|intro _|refine C1 hw ?_|refine C1 hl ?_|refine C1 (rBad_d _) ?_|refine .mk ?_ ?_|refine H ?_|fail));all_goals conv=>whnf)
     exact LeD.rfl
    ·rename_i h200
     have h200':=fun h=>h200 (len_200.1 h)
     refine S0 Tryz.func46 rfl ?_
     ((repeat' ((conv=>whnf);first|exact .intro|refine G ?_|intro _|refine C1 hw ?_|refine C1 hl ?_|refine C1 (rTxt_d _) ?_|refine .mk ?_ ?_|refine H ?_|fail));all_goals conv=>whnf)
     exact LeD.rfl
end
section
variable {gl:List (Nat×List D)}
theorem rvF_snoc (l:List UInt8) (c:UInt8) (acc:Nat):rvF acc (l++[c])=rvF acc l * 10+(c.toNat - 48):=by
 unfold rvF;rw[List.foldl_append];rfl
theorem decDigits_small {u:Nat} (h:u<10):Lib.decDigits u=[UInt8.ofNat (48+u)]:=by rw[Lib.decDigits];simp[h]
theorem decDigits_big {u:Nat} (h:¬ u<10):Lib.decDigits u=Lib.decDigits (u / 10)++[UInt8.ofNat (48+u % 10)]:=by rw[Lib.decDigits];simp[h]
theorem ofNat_dig {k:Nat} (h:k<10):(UInt8.ofNat (48+k)).toNat=48+k:=by rw[UInt8.toNat_ofNat'];omega
theorem dec_facts (u:Nat):rvF 0 (Lib.decDigits u)=u∧(∀ d ∈ Lib.decDigits u,isDig d)∧Lib.decDigits u≠[]∧(u≠0→(Lib.decDigits u).head?≠some 48):=by
 induction u using Nat.strongRecOn with
 | ind u ih =>
  by_cases h:u<10
  ·have hd:=ofNat_dig h
   rw[decDigits_small h]
   refine ⟨?_,?_,by simp,fun h0 e=>?_⟩
   ·show 0 * 10+((UInt8.ofNat (48+u)).toNat - 48)=u
    omega
   ·intro d hd'
    rw[List.mem_singleton.1 hd']
    unfold isDig;omega
   ·have e':UInt8.ofNat (48+u)=48:=by simpa using e
    rw[e'] at hd
    have:(48:UInt8).toNat=48:=rfl
    omega
  ·obtain ⟨h1,h2,h3,h4⟩:=ih (u / 10) (by omega)
   have hd:=ofNat_dig (k:=u % 10) (by omega)
   rw[decDigits_big h]
   refine ⟨?_,?_,by simp,fun h0 e=>?_⟩
   ·rw[rvF_snoc,h1];omega
   ·intro d hd'
    rcases List.mem_append.1 hd' with hd'|hd'
    ·exact h2 d hd'
    ·rw[List.mem_singleton.1 hd'];unfold isDig;omega
   ·rw[List.head?_append] at e
    cases hh:(Lib.decDigits (u / 10)).head? with
    | none=>exact h3 (by cases hq:Lib.decDigits (u / 10) with|nil=>rfl|cons a l=>rw[hq] at hh;cases hh)
    | some a=>rw[hh] at e;exact h4 (by omega) (by rw[hh];exact e)
theorem whole_itoa {n:Int} (h:okI n):wholeZ (Lib.itoa n)=some n:=by
 unfold Lib.itoa
 by_cases hn:n<0
 ·rw[if_pos hn]
  obtain ⟨h1,h2,h3,h4⟩:=dec_facts n.natAbs
  have h5:=h4 (by omega)
  generalize Lib.decDigits n.natAbs=d at *
  have eu:unsg (45::d)=d:=rfl
  have hv:wholeV (45::d)=n:=by
   unfold wholeV
   rw[if_pos (show (45::d).head?=some 45 from rfl),eu,rv_all,h1];omega
  unfold wholeZ
  rw[hv,if_pos]
  exact ⟨⟨by rw[eu];exact h3,fun hh=>by rw[eu] at hh;exact h5 hh.1,by rw[eu];exact h2⟩,h⟩
 ·rw[if_neg hn]
  obtain ⟨h1,h2,h3,h4⟩:=dec_facts n.toNat
  have h45:¬ (Lib.decDigits n.toNat).head?=some 45:=by
   intro e
   cases hd:Lib.decDigits n.toNat with
   | nil=>rw[hd] at e;cases e
   | cons a l=>rw[hd] at e h2;cases e;have:=(h2 45 (by simp)).1;simp at this
  have h0:n.toNat=0→Lib.decDigits n.toNat=[48]:=fun e=>by rw[e];rw[decDigits_small (by omega)];rfl
  generalize Lib.decDigits n.toNat=d at *
  have eu:unsg d=d:=by unfold unsg;rw[if_neg h45]
  have hv:wholeV d=n:=by
   unfold wholeV
   rw[if_neg h45,eu,rv_all,h1];omega
  unfold wholeZ
  rw[hv,if_pos]
  refine ⟨⟨by rw[eu];exact h3,fun hh=>?_,by rw[eu];exact h2⟩,h⟩
  rw[eu] at hh
  by_cases hz:n.toNat=0
  ·exact hh.2 (h0 hz)
  ·exact h4 hz hh.1
theorem Itoa_w (te:TypeId) (pe:Value) {n:Int} (h:okI n):FnP Tryz.prog (glV te pe) 163 [iD n] (.str (Lib.itoa n)) :=
 FnP.of_below (xs:=[.int .i64 n]) (v:=.string ⟨(Lib.itoa n).toArray⟩) hoB (fun M w ys hd=>by
  obtain ⟨y,rfl,h1⟩:=All2.one_iff.1 hd
  rw[DenD.v_inv h1]) (fun _ _=>.str _) (fun M w hg=>by
  obtain ⟨_,xs,⟨t,f,hx⟩,_,hd⟩:=hg 9 _ rfl
  have ex:xs=Lib.pow10Tab.map fun z=>Value.int .u64 z:=by
   have key:∀ (l:List Int) (xs:List Value),DenL M w (l.map fun z=>D.v (.int .u64 z)) xs→xs=l.map fun z=>Value.int .u64 z:=by
    intro l
    induction l with
    | nil=>intro xs h;cases xs with|nil=>rfl|cons _ _=>exact h.elim
    | cons a l ih=>intro xs h;cases xs with|nil=>exact h.elim|cons x xs=>rw[DenD.v_inv h.1,ih xs h.2];rfl
   exact key _ _ hd
  have ht:Lib.TabIs Tryz.prog w "internal/strconv.uint64pow10" .u64 Lib.pow10Tab:=by
   have hn:Tryz.prog.globalNamed "internal/strconv.uint64pow10" = some 9:=by kernel_rfl
   show World.var? _ _ _=_
   unfold World.var?
   rw[hn,← ex]
   show (match w.heap[9]? with|some (.cells cs _ _)=>some cs|_=>none)=_
   rw[hx]
  have h:=Any.strconv_Itoa Tryz.laysM171 n h.1 h.2 w ht
  refine h.mono ?_
  rintro e w' ⟨rfl,k,os,rfl⟩
  exact ⟨rfl,Lib.below_grow w.heap.size w (Nat.le_refl _) k os⟩)
def show3 (k n:Int) (s:List UInt8):List UInt8:=if k=1 then Lib.itoa n else if k=2 then s else if k=3 then (if n=1 then tT else tF) else if k=4 then (if 0<n∧n<7 then tx.getD n.toNat [] else []) else []
def showV (v:Vl):List UInt8:=show3 v.k v.n v.s
theorem tx_cut {k:Nat} (h:k<7):cut (tx.map D.str) (k * 1) 1=[.str (tx.getD k [])]:=by
 have h':k<(tx.map D.str).length:=h
 have h2:k<tx.length:=h
 unfold cut
 rw[Nat.mul_one,List.drop_eq_getElem_cons h',List.take_succ_cons,List.take_zero,List.getElem_map]
 simp[List.getD,List.getElem?_eq_getElem h2]
theorem Show_3 (te:TypeId) (pe:Value) (k n:Int) (s:List UInt8) (hn:okI n):FnP Tryz.prog (glV te pe) 109 [vlD k n s] (.str (show3 k n s)):=by
 unfold show3
 by_cases h1:k=1
 ·subst h1
  refine S0 Tryz.func109 rfl ?_
  ((repeat' ((conv=>whnf);first|exact .intro|refine G ?_|intro _|refine C1 (Itoa_w te pe hn) ?_|refine .mk ?_ ?_|refine H ?_|fail));all_goals conv=>whnf)
  exact LeD.rfl
 ·by_cases h2:k=2
  ·subst h2
   refine S0 Tryz.func109 rfl ?_
   ((repeat' ((conv=>whnf);first|exact .intro|refine G ?_|intro _|refine .mk ?_ ?_|refine H ?_|fail));all_goals conv=>whnf)
   exact LeD.rfl
  ·by_cases h3:k=3
   ·subst h3
    by_cases h4:n=1
    ·subst h4
     refine S0 Tryz.func109 rfl ?_
     ((repeat' ((conv=>whnf);first|exact .intro|refine G ?_|intro _|refine .mk ?_ ?_|refine H ?_|fail));all_goals conv=>whnf)
     exact LeD.rfl
    ·refine S0 Tryz.func109 rfl ?_
     ((repeat' ((conv=>whnf);first|exact .intro|refine G ?_|intro _|refine .mk ?_ ?_|refine H ?_|fail));all_goals conv=>whnf)
     simp only[h4,if_false]
     exact LeD.rfl
   ·by_cases h4:k=4
    ·subst h4
     by_cases h5:0<n∧n<7
     ·obtain ⟨h6,h7⟩:=h5
      refine S0 Tryz.func109 rfl ?_
      ((repeat' ((conv=>whnf);first|exact .intro|refine G ?_|intro _|refine .mk ?_ ?_|refine H ?_|fail));all_goals conv=>whnf)
      refine ⟨_,tx_cut (k:=n.toNat) (by omega),?_⟩
      ((repeat' ((conv=>whnf);first|exact .intro|refine G ?_|intro _|refine .mk ?_ ?_|refine H ?_|fail));all_goals conv=>whnf)
      simp only[h6,h7,and_self,if_true]
      exact LeD.rfl
     ·refine S0 Tryz.func109 rfl ?_
      ((repeat' ((conv=>whnf);first|exact .intro|refine G ?_|intro _|refine .mk ?_ ?_|refine H ?_|fail));all_goals conv=>whnf)
      all_goals first
       | (exfalso;omega)
       | (simp only[h5,if_false];exact LeD.rfl)
    ·refine S0 Tryz.func109 rfl ?_
     ((repeat' ((conv=>whnf);first|exact .intro|refine G ?_|intro _|refine .mk ?_ ?_|refine H ?_|fail));all_goals conv=>whnf)
     all_goals first
      | (exfalso;omega)
      | (simp only[h1,h2,h3,h4,if_false];exact LeD.rfl)
theorem Show_d (te:TypeId) (pe:Value) (v:Vl) (hn:okI v.n):FnP Tryz.prog (glV te pe) 109 [v.d] (.str (showV v)):=Show_3 te pe v.k v.n v.s hn
theorem litZ_tx:∀ n:Fin 7,1≤n.val→litZ (tx.getD n.val [])=some (4,(n.val:Int)):=by decide
theorem wholeZ_no {s:List UInt8} (h:∃ a ∈ unsg s,¬ isDig a):wholeZ s=none:=by
 unfold wholeZ
 rw[if_neg]
 rintro ⟨⟨_,_,h3⟩,_⟩
 obtain ⟨a,h1,h2⟩:=h
 exact h2 (h3 a h1)
theorem wholeZ_tx:∀ n:Fin 7,1≤n.val→wholeZ (tx.getD n.val [])=none:=fun n hn=>wholeZ_no (by
 have key:∀ n:Fin 7,1≤n.val→35 ∈ unsg (tx.getD n.val []):=by decide
 exact ⟨35,key n hn,by decide⟩)
theorem tx_nil:∀ n:Fin 7,1≤n.val→tx.getD n.val []≠[]:=by decide
theorem read_show {v:Vl} (hv:isV v.k v.n v.s) (h2:v.k≠2) (hn:okI v.n):readV (showV v)=v:=by
 obtain ⟨k,n,s⟩:=v
 rcases hv with ⟨h1,h3,h4⟩|⟨h1,h3⟩|⟨h1,h3,h4⟩|⟨h1,h3|h3,h4⟩|⟨h1,h3,h4,h5⟩
 ·simp only at h1 h3 h4;subst h1;subst h3;subst h4;rfl
 ·simp only at h1 h3 hn;subst h1;subst h3
  have e:showV ⟨1,n,[]⟩=Lib.itoa n:=rfl
  have hw:=whole_itoa hn
  rw[e]
  unfold readV
  rw[if_neg,hw]
  intro e0;rw[e0] at hw;revert hw;unfold wholeZ;rw[if_neg (fun h=>h.1.1 rfl)];intro h;cases h
 ·exact absurd h1 h2
 ·simp only at h1 h3 h4;subst h1;subst h3;subst h4
  show readV tF=_
  have hw:wholeZ tF=none:=wholeZ_no ⟨70,by decide,by decide⟩
  unfold readV
  rw[if_neg (by decide),hw];rfl
 ·simp only at h1 h3 h4;subst h1;subst h3;subst h4
  show readV tT=_
  have hw:wholeZ tT=none:=wholeZ_no ⟨84,by decide,by decide⟩
  unfold readV
  rw[if_neg (by decide),hw];rfl
 ·simp only at h1 h3 h4 h5;subst h1;subst h5
  have hN:n.toNat<7:=by omega
  have e:showV ⟨4,n,[]⟩=tx.getD n.toNat []:=by
   show (if 0<n∧n<7 then tx.getD n.toNat [] else [])=_
   rw[if_pos (by omega)]
  rw[e]
  have h6:=litZ_tx ⟨n.toNat,hN⟩ (by show 1≤n.toNat;omega)
  have h7:=wholeZ_tx ⟨n.toNat,hN⟩ (by show 1≤n.toNat;omega)
  have h8:=tx_nil ⟨n.toNat,hN⟩ (by show 1≤n.toNat;omega)
  unfold readV
  rw[if_neg h8,h7]
  simp only[h6]
  have:((n.toNat:Nat):Int)=n:=by omega
  rw[this]
theorem dec_len:∀ (k u:Nat),u<10 ^ (k+1)→(Lib.decDigits u).length≤k+1
 | 0,u,h=>by rw[decDigits_small (by simpa using h)];exact Nat.le_refl _
 | k+1,u,h=>by
  by_cases hu:u<10
  ·rw[decDigits_small hu];simp
  ·have:=dec_len k (u / 10) (by rw[Nat.pow_succ] at h;omega)
   rw[decDigits_big hu];simp;omega
theorem itoa_len {n:Int} (h:okI n):(Lib.itoa n).length≤20:=by
 unfold Lib.itoa
 have h1:n.natAbs<10 ^ (18+1):=Nat.lt_of_le_of_lt (show n.natAbs≤9223372036854775808 by omega) (by decide)
 have h2:n.toNat<10 ^ (18+1):=Nat.lt_of_le_of_lt (show n.toNat≤9223372036854775808 by omega) (by decide)
 split
 ·have:=dec_len 18 n.natAbs h1;simp;omega
 ·have:=dec_len 18 n.toNat h2;omega
end
end Go.Proofs.YtfkjhfdpphfjhaaGreatDoor
