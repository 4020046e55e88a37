/- Proved: a part of what the law is proved with (the reckoner, contracts of functions, plain laws). Conditions: as each says. -/
import Derived.ChangeMaps5
import Derived.Handy
import Derived.Test.YtfkjhfdpphfjhaaGreatDoorXEq
import Derived.Test.YtfkjhfdpphfjhaaGreatDoorXPe
namespace Go.Proofs.YtfkjhfdpphfjhaaGreatDoor
section
open Go Go.EYtfkjhfdpphfjhaaGreatDoor
set_option maxRecDepth 100000
variable {gl:List (Nat×List D)}
def dig (n:Nat):UInt8:=UInt8.ofNat (48+n)
def digs (n:Nat):List UInt8:=if n<10 then [dig n] else [dig (n / 10),dig (n % 10)]
theorem tab1:∀ n:Fin 10,List.drop n.val (List.take (n.val+1) [48,49,50,51,52,53,54,55,56,57,97,98,99,100,101,102,103,104,105,106,107,108,109,110,111,112,113,114,115,116,117,118,119,120,121,122])=digs n.val:=by decide
theorem tab2:∀ n:Fin 100,10≤n.val→List.drop (n.val * 2) (List.take (n.val * 2+2) ((List.range 100).flatMap fun k=>[dig (k / 10),dig (k % 10)]))=digs n.val:=by decide +kernel
theorem small_d (n:Nat) (h:n<100):FnP Tryz.prog gl 259 [iD n] (.str (digs n)):=by
 have e:IntKind.i64.wrap ((n:Int)+1)=n+1:=wrapI (by omega)
 have e2:IntKind.i64.wrap ((n:Int) * 2)=n * 2:=wrapI (by omega)
 have e3:IntKind.i64.wrap ((n:Int) * 2+2)=n * 2+2:=wrapI (by omega)
 refine S0 Tryz.func259 rfl ?_
 ((repeat' ((conv=>whnf);(first|refine Fork.yes (by assumption) ?_|refine Fork.no (by assumption) ?_|refine Fork.nono (by assumption) ?_|(refine Fork.yes ?_ ?_;focus (simp[andPD];done))|(refine Fork.no ?_ ?_;focus (simp;done))|refine Fork.neg (fun _=>?_) (fun _=>?_)|refine Fork.mk (fun _=>?_) (fun _=>?_))));(all_goals (conv=>whnf)))
 ·refine ⟨by simp only[Option.getD_some,e];simp;omega,?_⟩
  ((repeat' ((conv=>whnf);(first|refine Fork.yes (by assumption) ?_|refine Fork.no (by assumption) ?_|refine Fork.nono (by assumption) ?_|(refine Fork.yes ?_ ?_;focus (simp[andPD];done))|(refine Fork.no ?_ ?_;focus (simp[andPD];done))|refine Fork.neg (fun _=>?_) (fun _=>?_)|refine Fork.mk (fun _=>?_) (fun _=>?_))));(all_goals (conv=>whnf)))
  refine LeD.of (congrArg D.str ?_)
  rw[show ((some (n:Int)).getD 0).toNat=n from rfl,e,show ((some ((n:Int)+1)).getD _).toNat=n+1 from rfl]
  exact tab1 ⟨n,by omega⟩
 ·refine ⟨by simp only[Option.getD_some,e2,e3];simp;omega,?_⟩
  ((repeat' ((conv=>whnf);(first|refine Fork.yes (by assumption) ?_|refine Fork.no (by assumption) ?_|refine Fork.nono (by assumption) ?_|(refine Fork.yes ?_ ?_;focus (simp[andPD];done))|(refine Fork.no ?_ ?_;focus (simp[andPD];done))|refine Fork.neg (fun _=>?_) (fun _=>?_)|refine Fork.mk (fun _=>?_) (fun _=>?_))));(all_goals (conv=>whnf)))
  refine LeD.of (congrArg D.str ?_)
  rw[e2,e3,show ((some ((n:Int) * 2)).getD 0).toNat=n * 2 from by show ((n:Int) * 2).toNat=_;omega,show ((some ((n:Int) * 2+2)).getD _).toNat=n * 2+2 from by show ((n:Int) * 2+2).toNat=_;omega]
  refine Eq.trans (congrArg (fun l=>List.drop (n * 2) (List.take (n * 2+2) l)) ?_) (tab2 ⟨n,h⟩ (by show 10≤n;omega))
  kernel_rfl
theorem FormatInt_d (n:Nat) (h:n<100):FnP Tryz.prog gl 240 [iD n,iD 10] (.str (digs n)):=by
 have h1:(0:Int)≤n:=by omega
 have h2:(n:Int)<100:=by omega
 refine S0 Tryz.func240 rfl ?_
 ((repeat' ((conv=>whnf);first|(first|refine Fork.yes (by assumption) ?_|refine Fork.no (by assumption) ?_|refine Fork.nono (by assumption) ?_|(refine Fork.yes ?_ ?_;focus (simp;done))|(refine Fork.no ?_ ?_;focus (simp[andPD];done))|refine Fork.neg (fun _=>?_) (fun _=>?_)|refine Fork.mk (fun _=>?_) (fun _=>?_))|refine Or.inl (Or.inl (Exists.intro _ (And.intro (by first|exact small_d n h) ?_)))|refine Exists.intro _ (And.intro (by first|exact small_d n h) ?_)));(all_goals (conv=>whnf)))
 exact LeD.rfl
theorem Itoa1_d (n:Nat) (h:n<100):FnP Tryz.prog gl 210 [iD n] (.str (digs n)):=by
 refine S0 Tryz.func210 rfl ?_
 ((repeat' ((conv=>whnf);first|(first|refine Fork.yes (by assumption) ?_|refine Fork.no (by assumption) ?_|refine Fork.nono (by assumption) ?_|(refine Fork.yes ?_ ?_;focus (simp[andPD];done))|(refine Fork.no ?_ ?_;focus (simp[andPD];done))|refine Fork.neg (fun _=>?_) (fun _=>?_)|refine Fork.mk (fun _=>?_) (fun _=>?_))|refine Or.inl (Or.inl (Exists.intro _ (And.intro (by first|exact FormatInt_d n h) ?_)))|refine Exists.intro _ (And.intro (by first|exact FormatInt_d n h) ?_)));(all_goals (conv=>whnf)))
 exact LeD.rfl
theorem Itoa_d (n:Nat) (h:n<100):FnP Tryz.prog gl 163 [iD n] (.str (digs n)):=by
 refine S0 Tryz.func163 rfl ?_
 ((repeat' ((conv=>whnf);first|(first|refine Fork.yes (by assumption) ?_|refine Fork.no (by assumption) ?_|refine Fork.nono (by assumption) ?_|(refine Fork.yes ?_ ?_;focus (simp[andPD];done))|(refine Fork.no ?_ ?_;focus (simp[andPD];done))|refine Fork.neg (fun _=>?_) (fun _=>?_)|refine Fork.mk (fun _=>?_) (fun _=>?_))|refine Or.inl (Or.inl (Exists.intro _ (And.intro (by first|exact Itoa1_d n h) ?_)))|refine Exists.intro _ (And.intro (by first|exact Itoa1_d n h) ?_)));(all_goals (conv=>whnf)))
 exact LeD.rfl
def nameL (c r:Int) (fc fr:Bool):List UInt8:=(if fc=true then [36] else [])++UInt8.ofNat (64+c.toNat)::((if fr=true then [36] else [])++digs r.toNat)
theorem encTab:∀ n:Fin 27,1≤n.val→(Utf8.encode (n.val+64)).data.toList=[UInt8.ofNat (64+n.val)]:=by decide +kernel
theorem wrap32 {n:Int} (h:-2147483648≤n∧n≤2147483647):IntKind.i32.wrap n=n:=IntWalk.i32_in _ h
theorem encA {c:Int} (h1:1≤c) (h2:c≤26):(Utf8.encode (IntKind.i32.wrap (IntKind.i64.wrap (IntKind.i64.wrap (65+c) - 1)))).data.toList=[UInt8.ofNat (64+c.toNat)]:=by
 rw[wrapI (n:=65+c) (by omega),wrapI (by omega),wrap32 (by omega)]
 have:=encTab ⟨c.toNat,by omega⟩ (by show 1≤c.toNat;omega)
 rw[show ((⟨c.toNat,by omega⟩:Fin 27).val:Int)+64=65+c - 1 by show (c.toNat:Int)+64=_;omega] at this
 exact this
theorem digs_len (n:Nat):(digs n).length≤2:=by unfold digs;split <;> simp
theorem RefName_s {c r:Int} {fc fr:Bool} (h:okP c r):FnP Tryz.prog gl 156 [refD c r fc fr] (.tup [.str (nameL c r fc fr),errD 0]):=by
 obtain ⟨h1,h2,h3,h4⟩:=id h
 have e:=encA h1 h2
 obtain ⟨n,rfl⟩:=Int.eq_ofNat_of_zero_le (show 0≤r by omega)
 have hd:=digs_len n
 refine S0 Tryz.func156 rfl ?_
 ((repeat' ((conv=>whnf);first|(first|refine Fork.yes (by assumption) ?_|refine Fork.no (by assumption) ?_|refine Fork.nono (by assumption) ?_|(refine Fork.yes ?_ ?_;focus (simp[andPD];done))|(refine Fork.no ?_ ?_;focus (simp;done))|refine Fork.neg (fun _=>?_) (fun _=>?_)|refine Fork.mk (fun _=>?_) (fun _=>?_)|(refine And.intro ?_ ?_;focus (simp[e];try omega;done)))|refine Or.inl (Or.inl (Exists.intro _ (And.intro (by first|exact ok_d _ _|exact Itoa_d n (by omega)) ?_)))|refine Exists.intro _ (And.intro (by first|exact ok_d _ _|exact Itoa_d n (by omega)) ?_)));(all_goals (conv=>whnf)))
 all_goals rw[e]
 all_goals exact LeD.of (by simp[nameL, *];try rfl)
theorem drop1 (b:UInt8) (s:List UInt8):List.drop ((some (1:Int)).getD 0).toNat (List.take ((none:Option Int).getD ((b::s).length:Nat)).toNat (b::s))=s:=by
 show List.drop 1 (List.take (((b::s).length:Nat):Int).toNat (b::s))=s
 rw[Int.toNat_natCast,List.take_length];rfl
theorem dollar_y (s:List UInt8):Go.EYtfkjhfdpphfjhaaGreatDoor.Fn Tryz.prog gl 234 [.c (.ptr 0 0)] [(0,.var [.d (.str (36::s))] 9)] 1 (.ret (.c (.d (.v (.bool true))))) [(0,.var [.d (.str s)] 9)] 1 []:=by
 refine S1 Tryz.func234 rfl ?_
 ((repeat' ((conv=>whnf);first|(first|refine Fork.yes (by assumption) ?_|refine Fork.no (by assumption) ?_|refine Fork.nono (by assumption) ?_|(refine Fork.yes ?_ ?_;focus (simp;done))|(refine Fork.no ?_ ?_;focus (simp[andPD];done))|refine Fork.neg (fun _=>?_) (fun _=>?_)|refine Fork.mk (fun _=>?_) (fun _=>?_)|(refine And.intro ?_ ?_;focus (simp;try omega;done)))));(all_goals (conv=>whnf)))
 ((repeat' first|exact rfl|((conv=>whnf);first|done|exact suL|refine And.intro ?_ ?_|fail));all_goals conv=>whnf)
 exact .inr (.inl (congrArg (fun z=>C.d (D.str z)) (drop1 _ _)))
theorem dollar_e:Go.EYtfkjhfdpphfjhaaGreatDoor.Fn Tryz.prog gl 234 [.c (.ptr 0 0)] [(0,.var [.d (.str [])] 9)] 1 (.ret (.c (.d (.v (.bool false))))) [(0,.var [.d (.str [])] 9)] 1 []:=by
 refine S1 Tryz.func234 rfl ?_
 ((repeat' ((conv=>whnf);first|(first|refine Fork.yes (by assumption) ?_|refine Fork.no (by assumption) ?_|refine Fork.nono (by assumption) ?_|(refine Fork.yes ?_ ?_;focus (simp;done))|(refine Fork.no ?_ ?_;focus (simp;done))|refine Fork.neg (fun _=>?_) (fun _=>?_)|refine Fork.mk (fun _=>?_) (fun _=>?_)|(refine And.intro ?_ ?_;focus (simp;try omega;done)))));(all_goals (conv=>whnf)))
 ((repeat' first|exact rfl|((conv=>whnf);first|done|exact suL|refine And.intro ?_ ?_|fail));all_goals conv=>whnf)
theorem dollar_n (b:UInt8) (s:List UInt8) (h:b≠36):Go.EYtfkjhfdpphfjhaaGreatDoor.Fn Tryz.prog gl 234 [.c (.ptr 0 0)] [(0,.var [.d (.str (b::s))] 9)] 1 (.ret (.c (.d (.v (.bool false))))) [(0,.var [.d (.str (b::s))] 9)] 1 []:=by
 have h':¬ (((b::s).getD (Int.toNat 0) 0).toNat:Int)=36:=fun e=>h (UInt8.toNat_inj.1 (by simpa using Int.ofNat.inj e))
 refine S1 Tryz.func234 rfl ?_
 ((repeat' ((conv=>whnf);first|(first|refine Fork.yes (by assumption) ?_|refine Fork.no (by assumption) ?_|refine Fork.nono (by assumption) ?_|(refine Fork.yes ?_ ?_;focus (simp;done))|(refine Fork.no ?_ ?_;focus (simp[andPD];done))|refine Fork.neg (fun _=>?_) (fun _=>?_)|refine Fork.mk (fun _=>?_) (fun _=>?_)|(refine And.intro ?_ ?_;focus (simp;try omega;done)))));(all_goals (conv=>whnf)))
 ((repeat' first|exact rfl|((conv=>whnf);first|done|exact suL|refine And.intro ?_ ?_|fail));all_goals conv=>whnf)
def dl:List UInt8→Bool×List UInt8
 | []=>(false,[])
 | b::s=>if b=36 then (true,s) else (false,b::s)
theorem dollar_d {s t:List UInt8} {b:Bool} (h:dl s=(b,t)):Go.EYtfkjhfdpphfjhaaGreatDoor.Fn Tryz.prog gl 234 [.c (.ptr 0 0)] [(0,.var [.d (.str s)] 9)] 1 (.ret (.c (.d (.v (.bool b))))) [(0,.var [.d (.str t)] 9)] 1 []:=by
 cases s with
 | nil=>cases h;exact dollar_e
 | cons a s =>
  by_cases ha:a=36
  ·subst ha;cases h;exact dollar_y _
  ·simp only[dl,if_neg ha] at h;cases h;exact dollar_n _ _ ha
abbrev refBad:D:=.tup [refD 0 0 false false,errD 2]
theorem refBad_le:LeD (retD [D.agg [iD 0,iD 0,.v (.bool false),.v (.bool false)],.v (.iface 73 (.int .i64 2))]) refBad :=
 LeD.tup ⟨LeD.agg ⟨LeD.rfl,LeD.rfl,tD_le _,tD_le _,trivial⟩,LeD.rfl,trivial⟩
theorem Ref_1 {s:List UInt8} {b:Bool} (h:dl s=(b,[])):FnP Tryz.prog gl 205 [.str s] refBad:=by
 refine S0 Tryz.func205 rfl ?_
 ((repeat' ((conv=>whnf);first|exact .intro|refine G ?_|intro _|refine C5 (dollar_d h) [0] ?_|refine .mk ?_ ?_|refine AK ?_|refine And.intro (by first|(simp;try omega;done)|fail) ?_|fail));all_goals conv=>whnf)
 exact refBad_le
theorem Ref_2 {s t:List UInt8} {b:Bool} {ch:UInt8} (h:dl s=(b,ch::t)) (hc:¬ (65≤ch.toNat∧ch.toNat≤90)):FnP Tryz.prog gl 205 [.str s] refBad:=by
 refine S0 Tryz.func205 rfl ?_
 ((repeat' ((conv=>whnf);first|exact .intro|refine G ?_|intro _|refine C5 (dollar_d h) [0] ?_|refine .mk ?_ ?_|refine AK ?_|refine And.intro (by first|(simp;try omega;done)|fail) ?_|fail));all_goals conv=>whnf)
 all_goals first|exact refBad_le|(exfalso;simp at *;omega)
theorem Ref_3 {s t l:List UInt8} {b b':Bool} {ch:UInt8} (h:dl s=(b,ch::t)) (hc:65≤ch.toNat∧ch.toNat≤90) (h':dl t=(b',l)) (hl:l=[]∨2<l.length∨l.head?=some 48):FnP Tryz.prog gl 205 [.str s] refBad:=by
 have h65:¬ (((ch::t).getD (Int.toNat 0) 0).toNat:Int)<65:=by simp;omega
 have h90:¬ 90<(((ch::t).getD (Int.toNat 0) 0).toNat:Int):=by simp;omega
 rcases l with _|⟨a,l⟩
 ·refine S0 Tryz.func205 rfl ?_
  ((repeat' ((conv=>whnf);first|exact .intro|refine G ?_|intro _|refine C5 (dollar_d h) [0] ?_|refine C5 (dollar_d h') [0] ?_|(rw[drop1])|refine .mk ?_ ?_|refine AK ?_|refine And.intro (by first|(first|omega|(simp;done)|(simp;omega);done)|fail) ?_|fail));all_goals conv=>whnf)
  exact refBad_le
 ·by_cases h2:2<(((a::l).length:Nat):Int)
  ·refine S0 Tryz.func205 rfl ?_
   ((repeat' ((conv=>whnf);first|exact .intro|refine G ?_|intro _|refine C5 (dollar_d h) [0] ?_|refine C5 (dollar_d h') [0] ?_|(rw[drop1])|refine .mk ?_ ?_|refine AK ?_|refine And.intro (by first|(first|omega|(simp;done)|(simp;omega);done)|fail) ?_|fail));all_goals conv=>whnf)
   exact refBad_le
  ·have h3:(((a::l).getD (Int.toNat 0) 0).toNat:Int)=48:=by
    rcases hl with hl|hl|hl
    ·cases hl
    ·omega
    ·cases hl;rfl
   refine S0 Tryz.func205 rfl ?_
   ((repeat' ((conv=>whnf);first|exact .intro|refine G ?_|intro _|refine C5 (dollar_d h) [0] ?_|refine C5 (dollar_d h') [0] ?_|(rw[drop1])|refine .mk ?_ ?_|refine AK ?_|refine And.intro (by first|(first|omega|(simp;done)|(simp;omega);done)|fail) ?_|fail));all_goals conv=>whnf)
   exact refBad_le
def rv (l:List UInt8) (k:Nat):Nat:=(l.take k).foldl (fun n d=>n * 10+(d.toNat - 48)) 0
abbrev isDig (d:UInt8):Prop:=48≤d.toNat∧d.toNat≤57
theorem rv_succ {l:List UInt8} {k:Nat} (h:k<l.length):rv l (k+1)=rv l k * 10+(l[k].toNat - 48):=by
 unfold rv
 rw[List.take_succ_eq_append_getElem h,List.foldl_append];rfl
theorem rv_le {l:List UInt8} {k:Nat} (h:k<l.length) (h2:l.length≤2) (hd:∀ d ∈ l.take k,isDig d):rv l k≤9:=by
 match k,h with
 | 0,_=>exact Nat.zero_le 9
 | 1,h =>
  have h0:0<l.length:=by omega
  have:=hd l[0] (by rw[List.mem_take_iff_getElem];exact ⟨0,by omega,rfl⟩)
  rw[show (1:Nat)=0+1 from rfl,rv_succ h0]
  show 0 * 10+_≤9
  obtain ⟨h1,h2⟩:=this
  omega
 | k+2,h=>omega
theorem Ref_4 {s t l:List UInt8} {b b':Bool} {ch:UInt8} (h:dl s=(b,ch::t)) (hc:65≤ch.toNat∧ch.toNat≤90) (h':dl t=(b',l)) (h0:l≠[]) (h2':l.length≤2) (h3':l.head?≠some 48) :
 FnP Tryz.prog gl 205 [.str s] (if ∀ d ∈ l,isDig d then .tup [refD ((ch.toNat - 64:Nat):Int) ((rv l l.length:Nat):Int) b b',errD 0] else refBad):=by
 have h65:¬ (((ch::t).getD (Int.toNat 0) 0).toNat:Int)<65:=by simp;omega
 have h90:¬ 90<(((ch::t).getD (Int.toNat 0) 0).toNat:Int):=by simp;omega
 obtain ⟨a,l,rfl⟩:=List.exists_cons_of_ne_nil h0
 have h2:¬ 2<(((a::l).length:Nat):Int):=by omega
 have h3:¬ (((a::l).getD (Int.toNat 0) 0).toNat:Int)=48:=fun e=>h3' (by show some a=some 48;rw[UInt8.toNat_inj.1 (show a.toNat=(48:UInt8).toNat from Int.ofNat.inj e)])
 have hm:(a::l).length≤maxLen:=by unfold maxLen;omega
 refine S0 Tryz.func205 rfl ?_
 ((repeat' ((conv=>whnf);first|exact .intro|refine G ?_|intro _|refine C5 (dollar_d h) [0] ?_|refine C5 (dollar_d h') [0] ?_|(rw[drop1])|refine .mk ?_ ?_|refine AK ?_|refine And.intro (by first|(first|omega|(simp;done)|(simp;omega)|exact hm;done)|fail) ?_|fail));all_goals conv=>whnf)
 refine ⟨{ σ:=Nat,fr:=fun k=>[(54,.c (.d (iD k)))],ks:=[1],L:=fun k=>[(1,.var [.d (iD ((ch.toNat - 64:Nat):Int)),.d (iD (rv (a::l) k)),.d (.v (.bool b)),.d (.v (.bool b'))] 25)],ex:=0,I:=fun k=>k≤(a::l).length∧∀ d ∈ (a::l).take k,isDig d,μ:=fun k=>(a::l).length - k },⟨0,⟨Nat.zero_le _,by simp⟩,?_⟩,fun (k:Nat) hk=>?_⟩
 ·((repeat' first|exact rfl|((conv=>whnf);first|done|exact suL|refine And.intro ?_ ?_|fail));all_goals conv=>whnf)
  exact ceq (by
   rw[show ((ch::t).getD (Int.toNat 0) 0)=ch from rfl,IntWalk.u8_in _ (by omega),wrapI (n:=(ch.toNat:Int) - 65) (by omega),wrapI (by omega)]
   omega)
 ·obtain ⟨hk1,hk2⟩:=hk
  ((repeat' ((conv=>whnf);first|exact .intro|refine G ?_|intro _|refine C5 (dollar_d h) [0] ?_|(rw[drop1])|refine .mk ?_ ?_|refine AK ?_|refine And.intro (by first|(first|omega|(simp;done)|(simp;omega)|exact hm;done)|fail) ?_|fail));all_goals conv=>whnf)
  ·have hlt:k<(a::l).length:=by rename_i hx;rw[List.length_map] at hx;omega
   refine ⟨_,get_map hlt,?_⟩
   ((repeat' ((conv=>whnf);first|exact .intro|refine G ?_|intro _|refine C5 (dollar_d h) [0] ?_|(rw[drop1])|refine .mk ?_ ?_|refine AK ?_|refine And.intro (by first|(first|omega|(simp;done)|(simp;omega)|exact hm;done)|fail) ?_|fail));all_goals conv=>whnf)
   ·exact LeD.ite_neg (fun hh=>by have:=hh _ (List.getElem_mem hlt);unfold isDig at this;omega) refBad_le
   ·exact LeD.ite_neg (fun hh=>by have:=hh _ (List.getElem_mem hlt);unfold isDig at this;omega) refBad_le
   ·refine ⟨k+1,⟨⟨hlt,?_⟩,by show (a::l).length - (k+1)<(a::l).length - k;omega⟩,?_⟩
    ·intro d hd
     rw[List.take_succ_eq_append_getElem hlt] at hd
     rcases List.mem_append.1 hd with hd|hd
     ·exact hk2 d hd
     ·rw[List.mem_singleton.1 hd];unfold isDig;omega
    ·((repeat' first|exact rfl|((conv=>whnf);first|done|exact suL|refine And.intro ?_ ?_|fail));all_goals conv=>whnf)
     ·exact ceq (show IntKind.i64.wrap ((k:Int)+1)=((k+1:Nat):Int) by rw[wrapI (by omega)];rfl)
     ·have h9:=rv_le hlt h2' hk2
      have h8:=UInt8.toNat_lt (a::l)[k]
      refine ceq ?_
      rw[rv_succ hlt,IntWalk.u8_in _ (by omega),wrapI (n:=(rv (a::l) k:Int) * 10) (by omega),wrapI (n:=((a::l)[k].toNat:Int) - 48) (by omega),wrapI (by omega)]
      omega
  ·have hkl:k=(a::l).length:=by rename_i hx;rw[List.length_map] at hx;omega
   subst hkl
   rw[List.take_length] at hk2
   exact LeD.ite_pos hk2 (LeD.tup ⟨LeD.agg ⟨LeD.rfl,LeD.rfl,tD_le _,tD_le _,trivial⟩,LeD.rfl,trivial⟩)
end
section
open Go Go.EYtfkjhfdpphfjhaaGreatDoor
set_option maxRecDepth 100000
variable {gl:List (Nat×List D)}
def vlD (k n:Int) (s:List UInt8):D:=.agg [iD k,iD n,.str s]
theorem Num_d (n:Int):FnP Tryz.prog gl 60 [iD n] (vlD 1 n []):=by
 refine S0 Tryz.func60 rfl ?_
 ((repeat' ((conv=>whnf);first|exact .intro|refine G ?_|intro _|refine .mk ?_ ?_|refine AK ?_|refine And.intro (by first|(fail;done)|fail) ?_|fail));all_goals conv=>whnf)
 exact LeD.rfl
theorem Wrong_d (n:Int):FnP Tryz.prog gl 63 [iD n] (vlD 4 n []):=by
 refine S0 Tryz.func63 rfl ?_
 ((repeat' ((conv=>whnf);first|exact .intro|refine G ?_|intro _|refine .mk ?_ ?_|refine AK ?_|refine And.intro (by first|(fail;done)|fail) ?_|fail));all_goals conv=>whnf)
 exact LeD.rfl
theorem Of_d (s:List UInt8):FnP Tryz.prog gl 61 [.str s] (vlD 2 0 s):=by
 refine S0 Tryz.func61 rfl ?_
 ((repeat' ((conv=>whnf);first|exact .intro|refine G ?_|intro _|refine .mk ?_ ?_|refine AK ?_|refine And.intro (by first|(fail;done)|fail) ?_|fail));all_goals conv=>whnf)
 exact LeD.rfl
theorem rNum_d (n:Int):FnP Tryz.prog gl 11 [iD n] (vlD 1 n []):=by
 refine S0 Tryz.func11 rfl ?_
 ((repeat' ((conv=>whnf);first|exact .intro|refine G ?_|intro _|refine .mk ?_ ?_|refine AK ?_|refine And.intro (by first|(fail;done)|fail) ?_|fail));all_goals conv=>whnf)
 exact LeD.rfl
theorem rTxt_d (s:List UInt8):FnP Tryz.prog gl 22 [.str s] (vlD 2 0 s):=by
 refine S0 Tryz.func22 rfl ?_
 ((repeat' ((conv=>whnf);first|exact .intro|refine G ?_|intro _|refine .mk ?_ ?_|refine AK ?_|refine And.intro (by first|(fail;done)|fail) ?_|fail));all_goals conv=>whnf)
 exact LeD.rfl
theorem rBad_d (n:Int):FnP Tryz.prog gl 24 [iD n] (vlD 4 n []):=by
 refine S0 Tryz.func24 rfl ?_
 ((repeat' ((conv=>whnf);first|exact .intro|refine G ?_|intro _|refine .mk ?_ ?_|refine AK ?_|refine And.intro (by first|(fail;done)|fail) ?_|fail));all_goals conv=>whnf)
 exact LeD.rfl
theorem rTru_y {p:Prop} (i:Decidable p) (h:p):FnP Tryz.prog gl 23 [.b p i] (vlD 3 1 []):=by
 refine S0 Tryz.func23 rfl ?_
 ((repeat' ((conv=>whnf);first|exact .intro|refine G ?_|intro _|refine .mk ?_ ?_|refine AK ?_|refine And.intro (by first|(fail;done)|fail) ?_|fail));all_goals conv=>whnf)
 exact LeD.rfl
theorem rTru_n {p:Prop} (i:Decidable p) (h:¬ p):FnP Tryz.prog gl 23 [.b p i] (vlD 3 0 []):=by
 refine S0 Tryz.func23 rfl ?_
 ((repeat' ((conv=>whnf);first|exact .intro|refine G ?_|intro _|refine .mk ?_ ?_|refine AK ?_|refine And.intro (by first|(fail;done)|fail) ?_|fail));all_goals conv=>whnf)
 exact LeD.rfl
theorem Is_y {p:Prop} (i:Decidable p) (h:p):FnP Tryz.prog gl 62 [.b p i] (vlD 3 1 []):=by
 refine S0 Tryz.func62 rfl ?_
 ((repeat' ((conv=>whnf);first|exact .intro|refine G ?_|intro _|refine .mk ?_ ?_|refine AK ?_|refine And.intro (by first|(fail;done)|fail) ?_|fail));all_goals conv=>whnf)
 exact LeD.rfl
theorem Is_n {p:Prop} (i:Decidable p) (h:¬ p):FnP Tryz.prog gl 62 [.b p i] (vlD 3 0 []):=by
 refine S0 Tryz.func62 rfl ?_
 ((repeat' ((conv=>whnf);first|exact .intro|refine G ?_|intro _|refine .mk ?_ ?_|refine AK ?_|refine And.intro (by first|(fail;done)|fail) ?_|fail));all_goals conv=>whnf)
 exact LeD.rfl
theorem IsBad_d (k n:Int) (s:List UInt8):FnP Tryz.prog gl 107 [vlD k n s] (.b (k=4) inferInstance):=by
 refine S0 Tryz.func107 rfl ?_
 ((repeat' ((conv=>whnf);first|exact .intro|refine G ?_|intro _|refine .mk ?_ ?_|refine AK ?_|refine And.intro (by first|(fail;done)|fail) ?_|fail));all_goals conv=>whnf)
 exact LeD.rfl
abbrev isV (k n:Int) (s:List UInt8):Prop:=(k=0∧n=0∧s=[])∨(k=1∧s=[])∨(k=2∧n=0∧s.length≤200)∨(k=3∧(n=0∨n=1)∧s=[])∨(k=4∧1≤n∧n≤6∧s=[])
theorem isNaNs_d (a:List UInt8):FnP Tryz.prog gl 212 [.str a] (.v (.bool false)):=by
 refine S0 Tryz.func212 rfl ?_
 ((repeat' ((conv=>whnf);first|exact .intro|refine G ?_|intro _|refine .mk ?_ ?_|refine AK ?_|refine And.intro (by first|(fail;done)|fail) ?_|fail));all_goals conv=>whnf)
 exact LeD.vf (by simp)
def cmpS (a b:List UInt8):Int:=if Op.bytesLess a b=true then -1 else if a=b then 0 else 1
theorem cmpStr_d (a b:List UInt8):FnP Tryz.prog gl 166 [.str a,.str b] (iD (cmpS a b)):=by
 refine S0 Tryz.func166 rfl ?_
 ((repeat' ((conv=>whnf);first|exact .intro|refine G ?_|intro _|refine C1 (isNaNs_d _) ?_|refine .mk ?_ ?_|refine AK ?_|refine And.intro (by first|(fail;done)|fail) ?_|fail));all_goals conv=>whnf)
 ·rename_i h1
  exact LeD.of (congrArg iD (by unfold cmpS;rw[if_pos h1]))
 ·rename_i h1 h2
  exact LeD.of (congrArg iD (by unfold cmpS;rw[if_neg h1,if_neg fun e=>h2 (.inr e)]))
 ·rename_i h1 h2
  exact LeD.of (congrArg iD (by unfold cmpS;rw[if_neg h1,if_pos (h2.resolve_left h1)]))
def cv (k n:Int) (s:List UInt8) (k' n':Int) (s':List UInt8):Int:=orL [cmpZ k k',cmpZ n n',cmpS s s']
theorem vCompare_d (k n:Int) (s:List UInt8) (k' n':Int) (s':List UInt8):FnP Tryz.prog gl 110 [vlD k n s,vlD k' n' s'] (iD (cv k n s k' n' s')):=by
 refine S0 Tryz.func110 rfl ?_
 ((repeat' ((conv=>whnf);first|exact .intro|refine G ?_|intro _|refine C1 (cmpInt_d _ _) ?_|refine C1 (cmpStr_d _ _) ?_|refine .inl (.inl (X1 (Or_d [_,_,_] (by simp)) ?_))|refine .inl (X1 (Or_d [_,_,_] (by simp)) ?_)|refine X1 (Or_d [_,_,_] (by simp)) ?_|refine .mk ?_ ?_|refine AK ?_|refine And.intro (by first|(fail;done)|fail) ?_|fail));all_goals conv=>whnf)
 all_goals exact LeD.rfl
theorem vCheck_s {k n:Int} {s:List UInt8} (h:isV k n s):FnP Tryz.prog gl 38 [vlD k n s] (errD 0):=by
 have key:s.length≤200→((s.length:Nat):Int)≤200:=fun h=>by omega
 rcases h with ⟨rfl,rfl,rfl⟩|⟨rfl,rfl⟩|⟨rfl,rfl,hl⟩|⟨rfl,rfl|rfl,rfl⟩|⟨rfl,h1,h2,rfl⟩
 all_goals try have hl':=key hl
 all_goals
  refine S0 Tryz.func38 rfl ?_
  ((repeat' ((conv=>whnf);first|exact .intro|refine G ?_|intro _|refine .mk ?_ ?_|refine AK ?_|refine And.intro (by first|(fail;done)|fail) ?_|fail));all_goals conv=>whnf)
  exact LeD.rfl
theorem vCheck_n {k n:Int} {s:List UInt8} (h:¬ isV k n s):FnP Tryz.prog gl 38 [vlD k n s] (errD 1):=by
 refine S0 Tryz.func38 rfl ?_
 ((repeat' ((conv=>whnf);first|exact .intro|refine G ?_|intro _|refine .mk ?_ ?_|refine AK ?_|refine And.intro (by first|(fail;done)|fail) ?_|fail));all_goals conv=>whnf)
 all_goals first|exact LeD.rfl|(exfalso;apply h;unfold isV;simp_all;done)|(exfalso;apply h;unfold isV;simp_all;omega)
end
section
open Go Go.ChangeShapes Go.WideShapes Go.ChangeAt Go.RowKit Go.EYtfkjhfdpphfjhaaGreatDoor
set_option linter.unusedVariables false
set_option maxRecDepth 100000
theorem glob_none {M:Nat→Prop} {w:World}:Glob [] M w:=fun g l hl=>by cases hl
theorem okI_of_wf {n:Int} (h:(Lit.int .i64 n).wf=true):-9223372036854775808≤n∧n≤9223372036854775807:=by
 simp[Lit.wf,IntKind.min,IntKind.max,IntKind.signed,IntKind.bits] at h
 omega
theorem cellsOf9:Tryz.prog.cellsOf 9=1:=by kernel_rfl
theorem cellsOf58:Tryz.prog.cellsOf 31=3:=by kernel_rfl
theorem openValue {H:Type} {enc:TypeId×Value→H} {W:World} {base b0:Nat} {sp:Nat→Bool} {hd:Bool} {v:Value} {d:DataW H} {p:List MemPlace} (hv:Value.okWide Tryz.prog W .any b0 31 v) (h:DataW.Trod enc Tryz.prog W base sp hd 31 v d p) :
 ∃ (k n:Int) (s:List UInt8),(-9223372036854775808≤n∧n≤9223372036854775807)∧v=.agg #[.int .i64 k,.int .i64 n,.string ⟨s.toArray⟩]∧d=.agg [.lit (.int .i64 k),.lit (.int .i64 n),.lit (.string s)]:=by
 obtain ⟨cs,rfl,hsz⟩:=okWide_struct Tryz.underlying31 hv
 obtain ⟨l⟩:=cs
 match l,hsz.trans cellsOf58 with
 | [a,b,c],_ =>
  obtain ⟨f,hf⟩:=h
  obtain ⟨xs,n,_,hd',_,hlen,hg⟩:=DataW.trod_struct Tryz.underlying31 hf
  match xs,hlen with
  | [y0,y1,y2],_ =>
   have h0:=hg 0 _ rfl
   have h1:=hg 1 _ rfl
   have h2:=hg 2 _ rfl
   have h0:DataW.trod enc Tryz.prog W base sp hd n 3 [a]=some y0:=by have h:=h0;change DataW.trod enc Tryz.prog W base sp hd n 3 (List.take (Tryz.prog.cellsOf 3) [a,b,c])=some y0 at h;rw[cellsOf3] at h;exact h
   have h1:DataW.trod enc Tryz.prog W base sp hd n 3 [b]=some y1:=by have h:=h1;change DataW.trod enc Tryz.prog W base sp hd n 3 (List.take (Tryz.prog.cellsOf 3) [b,c])=some y1 at h;rw[cellsOf3] at h;exact h
   have h2:DataW.trod enc Tryz.prog W base sp hd n 9 [c]=some y2:=by have h:=h2;change DataW.trod enc Tryz.prog W base sp hd n 9 (List.take (Tryz.prog.cellsOf 9) [c])=some y2 at h;rw[cellsOf9] at h;exact h
   obtain ⟨k,e0,x0,_⟩:=DataW.trod_int Tryz.underlying3 h0
   obtain ⟨m,e1,x1,hm⟩:=DataW.trod_int Tryz.underlying3 h1
   obtain ⟨s,e2,x2,_⟩:=DataW.trod_string Tryz.underlying9 h2
   cases e0;cases e1;cases e2
   subst x0 x1 x2
   refine ⟨k,m,s.data.toList,okI_of_wf hm,rfl,?_⟩
   exact congrArg Prod.fst hd'
theorem sized_value {H:Type} {ts:List TypeId} {ds:List (DataW H)} {j:Nat} {a b:DataW H} {s:List UInt8} (h:(DataW.weightsEach Tryz.prog ts ds).all (·≤reachBytes)=true) (ht:ts[j]?=some 31) (hd:ds[j]?=some (.agg [a,b,.lit (.string s)])):s.length≤reachBytes:=by
 have:=List.all_eq_true.1 h s.length (DataW.weights_mem_each ht hd _ (by
  simp only[DataW.weights,Tryz.underlying31]
  simp[DataW.weightsEach,DataW.weights]))
 simpa using this
theorem den_vl (M:Nat→Prop) (w:World) (k n:Int) (s:List UInt8):DenD M w (vlD k n s) (.agg #[.int .i64 k,.int .i64 n,.string ⟨s.toArray⟩]) :=
 DenD.agg_mk (xs:=[.int .i64 k,.int .i64 n,.string ⟨s.toArray⟩]) ⟨den_i _ _ _,den_i _ _ _,.str _,trivial⟩
end
section
abbrev B32:Nat:=4294967296
def val:List Nat→Nat
 | []=>0
 | d::r=>d+B32 * val r
def ws (n:Nat):List Nat:=if _h:n=0 then [] else n % B32::ws (n / B32)
termination_by n
decreasing_by exact Nat.div_lt_self (Nat.pos_of_ne_zero _h) (by decide)
theorem ws_zero:ws 0=[]:=by rw[ws];rfl
theorem ws_pos {n:Nat} (h:n≠0):ws n=n % B32::ws (n / B32):=by rw[ws];simp[h]
theorem val_ws (n:Nat):val (ws n)=n:=by
 induction n using Nat.strongRecOn with
 | ind n ih =>
  by_cases h:n=0
  ·subst h;rw[ws_zero];rfl
  ·rw[ws_pos h]
   show n % B32+B32 * val (ws (n / B32))=n
   rw[ih _ (Nat.div_lt_self (Nat.pos_of_ne_zero h) (by decide))]
   exact Nat.mod_add_div n B32
theorem ws_lt (n:Nat):∀ d ∈ ws n,d<B32:=by
 induction n using Nat.strongRecOn with
 | ind n ih =>
  by_cases h:n=0
  ·subst h;rw[ws_zero];simp
  ·rw[ws_pos h]
   intro d hd
   rcases List.mem_cons.1 hd with rfl|hd
   ·exact Nat.mod_lt _ (by decide)
   ·exact ih _ (Nat.div_lt_self (Nat.pos_of_ne_zero h) (by decide)) d hd
theorem ws_nil {n:Nat}:ws n=[]↔n=0:=by
 constructor
 ·intro h
  rw[← val_ws n,h];rfl
 ·rintro rfl;exact ws_zero
theorem ws_cons {d:Nat} {r:List Nat} (hd:d<B32):ws (val (d::r))=if val (d::r)=0 then [] else d::ws (val r):=by
 have e:val (d::r)=d+B32 * val r:=rfl
 by_cases h:val (d::r)=0
 ·rw[h,ws_zero,if_pos rfl]
 ·rw[ws_pos h,if_neg h,e,Nat.add_mul_mod_self_left,Nat.mod_eq_of_lt hd,Nat.add_mul_div_left _ _ (by decide),Nat.div_eq_of_lt hd,Nat.zero_add]
theorem val_app (l m:List Nat):val (l++m)=val l+B32 ^ l.length * val m:=by
 induction l with
 | nil=>simp[val]
 | cons d r ih =>
  show d+B32 * val (r++m)=d+B32 * val r+B32 ^ (r.length+1) * val m
  rw[ih,Nat.pow_succ,Nat.mul_add,Nat.mul_comm (B32 ^ r.length) B32,Nat.mul_assoc,Nat.add_assoc]
theorem val_lt {l:List Nat} (h:∀ d ∈ l,d<B32):val l<B32 ^ l.length:=by
 induction l with
 | nil=>simp[val]
 | cons d r ih =>
  have h1:=ih fun x hx=>h x (List.mem_cons_of_mem _ hx)
  have h2:=h d (List.mem_cons_self ..)
  show d+B32 * val r<B32 ^ (r.length+1)
  rw[Nat.pow_succ,Nat.mul_comm _ B32]
  have h3:B32 * (val r+1)≤B32 * B32 ^ r.length:=Nat.mul_le_mul_left _ h1
  rw[Nat.mul_add,Nat.mul_one] at h3
  exact Nat.lt_of_lt_of_le (by omega) h3
theorem val_zeros (k:Nat):val (List.replicate k 0)=0:=by
 induction k with
 | zero=>rfl
 | succ k ih=>rw[List.replicate_succ];show 0+B32 * val _=0;rw[ih,Nat.mul_zero]
theorem ws_val {l:List Nat} (h:∀ d ∈ l,d<B32) (hl:∀ d,l.getLast?=some d→d≠0):ws (val l)=l:=by
 induction l with
 | nil=>exact ws_zero
 | cons d r ih =>
  have hr:ws (val r)=r:=ih (fun x hx=>h x (List.mem_cons_of_mem _ hx)) (fun x hx=>hl x (by
   cases r with
   | nil=>cases hx
   | cons a b=>rw[List.getLast?_cons_cons];exact hx))
  rw[ws_cons (h d (List.mem_cons_self ..)),hr]
  rw[if_neg]
  intro h0
  have h0':d+B32 * val r=0:=h0
  have hr0:val r=0:=by
   rcases Nat.eq_zero_or_pos (val r) with e|e
   ·exact e
   ·exact absurd h0' (by have:=Nat.mul_pos (show 0<B32 by decide) e;omega)
  rw[hr0,ws_zero] at hr
  subst hr
  exact hl d rfl (by omega)
theorem ws_trim {l:List Nat} (k:Nat) (_hk:k≤l.length) (h:∀ d ∈ l,d<B32) (h0:l.drop k=List.replicate (l.length - k) 0) (hl:∀ d,(l.take k).getLast?=some d→d≠0):ws (val l)=l.take k:=by
 have e:val l=val (l.take k):=by
  conv=>lhs;rw[← List.take_append_drop k l]
  rw[val_app,h0,val_zeros,Nat.mul_zero,Nat.add_zero]
 rw[e]
 exact ws_val (fun d hd=>h d (List.mem_of_mem_take hd)) hl
theorem pow_le {k n:Nat} (h:k≤n):B32 ^ k≤B32 ^ n:=Nat.pow_le_pow_right (by decide) h
theorem ws_last {n d:Nat} (h:(ws n).getLast?=some d):d≠0:=by
 induction n using Nat.strongRecOn with
 | ind n ih =>
  by_cases h0:n=0
  ·subst h0;rw[ws_zero] at h;cases h
  ·rw[ws_pos h0] at h
   by_cases h1:n / B32=0
   ·rw[h1,ws_zero] at h
    cases h
    have:n<B32:=by
     rcases Nat.lt_or_ge n B32 with e|e
     ·exact e
     ·exact absurd h1 (Nat.ne_of_gt (Nat.div_pos e (by decide)))
    rwa [Nat.mod_eq_of_lt this]
   ·have h2:ws (n / B32)≠[]:=fun e=>h1 (ws_nil.1 e)
    obtain ⟨a,b,e⟩:=List.exists_cons_of_ne_nil h2
    rw[e,List.getLast?_cons_cons,← e] at h
    exact ih _ (Nat.div_lt_self (Nat.pos_of_ne_zero h0) (by decide)) h
theorem ws_len_le {n k:Nat} (h:n<B32 ^ k):(ws n).length≤k:=by
 induction k generalizing n with
 | zero =>
  have:n=0:=by simpa using h
  subst this;rw[ws_zero];exact Nat.le_refl 0
 | succ k ih =>
  by_cases h0:n=0
  ·subst h0;rw[ws_zero];exact Nat.zero_le _
  ·rw[ws_pos h0]
   have:n / B32<B32 ^ k:=Nat.div_lt_of_lt_mul (by rwa [Nat.mul_comm,← Nat.pow_succ])
   simpa using ih this
theorem lt_ws_len (n:Nat):n<B32 ^ (ws n).length:=by
 have:=val_lt (ws_lt n)
 rwa [val_ws] at this
end
section
open Go Go.EYtfkjhfdpphfjhaaGreatDoor
set_option maxRecDepth 100000
variable {gl:List (Nat×List D)}
abbrev u32D (d:Nat):D:=.v (.int .u32 d)
def wD (l:List Nat):List (List D):=l.map fun d=>[u32D d]
abbrev W (n:Nat):D:=.lst 1 (wD (ws n))
theorem wD_len (l:List Nat):(wD l).length=l.length:=List.length_map ..
theorem wget {l:List Nat} {k:Nat} (h:k<l.length):(wD l)[((k:Nat):Int).toNat]?=some [u32D l[k]]:=by
 rw[Int.toNat_natCast];unfold wD;rw[List.getElem?_map,List.getElem?_eq_getElem h];rfl
theorem nilW_le (z:Nat):LeD (.v (.slice none 0 0)) (.lst z []):=⟨fun M w x hx=>by rw[DenD.v_inv hx];exact .lst0 z none 0 (Nat.zero_le _)⟩
theorem wD_take (l:List Nat) (n:Nat):(wD l).take n=wD (l.take n):=(List.map_take ..).symm
theorem trim_d (l:List Nat) (hb:∀ d ∈ l,d<B32) (hl:l.length≤maxLen):FnP Tryz.prog gl 188 [.lst 1 (wD l)] (.lst 1 (wD (ws (val l)))):=by
 refine S0 Tryz.func188 rfl ?_
 ((repeat' ((conv=>whnf);first|exact .intro|refine G ?_|intro _|refine .mk ?_ ?_|refine AK ?_|refine AO ?_|fail));all_goals conv=>whnf)
 refine ⟨{ σ:=Nat,fr:=fun n=>[(3,.c (.d (iD n)))],ks:=[],L:=fun _=>[],ex:=0,I:=fun n=>n≤l.length∧l.drop n=List.replicate (l.length - n) 0,μ:=fun n=>n },⟨l.length,⟨Nat.le_refl _,by simp⟩,?_⟩,fun (n:Nat) hn=>?_⟩
 ·((repeat' first|exact rfl|((conv=>whnf);first|done|exact suL|refine And.intro ?_ ?_|fail));all_goals conv=>whnf)
  exact ceq (by rw[wD_len])
 ·obtain ⟨hn1,hn2⟩:=hn
  unfold maxLen at hl
  have fin:(∀ d,(l.take n).getLast?=some d→d≠0)→ws (val l)=l.take n:=ws_trim n hn1 hb hn2
  have hle:0≤(n:Int)∧(n:Int)≤((wD l).length:Nat):=by rw[wD_len];omega
  ((repeat' ((conv=>whnf);first|exact .intro|refine G ?_|intro _|refine .mk ?_ ?_|refine AK ?_|refine AO ?_|fail));all_goals conv=>whnf)
  ·have hlt:n - 1<l.length:=by omega
   rw[show IntKind.i64.wrap ((n:Int) - 1)=((n - 1:Nat):Int) by rw[wrapI (by omega)];omega]
   refine ⟨Int.natCast_nonneg _,_,wget hlt,?_⟩
   ((repeat' ((conv=>whnf);first|exact .intro|refine G ?_|intro _|refine .mk ?_ ?_|refine AK ?_|refine AO ?_|fail));all_goals conv=>whnf)
   ·rename_i h0
    refine ⟨n - 1,⟨⟨by omega,?_⟩,by show n - 1<n;omega⟩,?_⟩
    ·rw[List.drop_eq_getElem_cons hlt,show n - 1+1=n by omega,hn2,show l[n - 1]=0 by omega,← List.replicate_succ,show l.length - n+1=l.length - (n - 1) by omega]
    ·((repeat' first|exact rfl|((conv=>whnf);first|done|exact suL|refine And.intro ?_ ?_|fail));all_goals conv=>whnf)
     exact ceq (by rw[wrapI (by omega)];omega)
   ·rename_i h0
    refine ⟨⟨Int.le_refl _,hle⟩,?_⟩
    ((repeat' ((conv=>whnf);first|exact .intro|refine G ?_|intro _|refine .mk ?_ ?_|refine AK ?_|refine And.intro (by first|(fail;done)|fail) ?_|fail));all_goals conv=>whnf)
    refine LeD.of (congrArg (D.lst 1) ?_)
    rw[fin fun d hd=>?_,← wD_take]
    ·simp
    ·rw[show n=n - 1+1 by omega,List.take_succ_eq_append_getElem hlt,List.getLast?_append] at hd
     have hd':l[n - 1]=d:=Option.some.inj hd
     omega
  ·have hn0:n=0:=by omega
   refine ⟨⟨Int.le_refl _,hle⟩,?_⟩
   ((repeat' ((conv=>whnf);first|exact .intro|refine G ?_|intro _|refine .mk ?_ ?_|refine AK ?_|refine And.intro (by first|(fail;done)|fail) ?_|fail));all_goals conv=>whnf)
   refine LeD.of (congrArg (D.lst 1) ?_)
   rw[fin fun d hd=>?_,← wD_take]
   ·simp
   ·rw[hn0] at hd;cases hd
theorem words_d (x:Nat) (h:x<18446744073709551616):FnP Tryz.prog gl 184 [.v (.int .u64 x)] (W x):=by
 have e1:IntKind.u32.wrap (x:Int)=((x % B32:Nat):Int):=by rw[IntKind.wrap_u32];simp
 have e2:IntKind.u32.wrap ((x:Int).fdiv (2 ^ min (Int.toNat 32) IntKind.u64.bits))=((x / B32:Nat):Int):=by
  rw[show (2:Int) ^ min (Int.toNat 32) IntKind.u64.bits=4294967296 from by decide,Int.fdiv_eq_ediv_of_nonneg _ (by decide),IntKind.wrap_u32]
  simp only[B32];omega
 have ht:=trim_d (gl:=gl) [x % B32,x / B32] (by
  intro d hd
  simp only[List.mem_cons,List.not_mem_nil,or_false] at hd
  rcases hd with rfl|rfl
  ·exact Nat.mod_lt _ (by decide)
  ·simp only[B32];omega) (by unfold maxLen;simp)
 refine S0 Tryz.func184 rfl ?_
 ((repeat' ((conv=>whnf);first|exact .intro|refine G ?_|intro _|refine C2 ht ?_|(rw[e1,e2])|refine .mk ?_ ?_|refine AK ?_|refine AO ?_|fail));all_goals conv=>whnf)
 refine LeD.of ?_
 rw[show val [x % B32,x / B32]=x by show x % B32+B32 * (x / B32+B32 * 0)=x;rw[Nat.mul_zero,Nat.add_zero];exact Nat.mod_add_div x B32]
 rfl
theorem allOne_wD (l:List Nat):allOne (wD l)=true:=by
 induction l with
 | nil=>rfl
 | cons d l ih=>exact ih
theorem twin_d (l:List Nat) (hl:l.length≤35184372088832):FnP Tryz.prog gl 193 [.lst 1 (wD l)] (.lst 1 (wD l)):=by
 refine S0 Tryz.func193 rfl ?_
 ((repeat' ((conv=>whnf);first|exact .intro|refine G ?_|intro _|refine .mk ?_ ?_|refine AK ?_|refine And.intro (by first|(exact ⟨allOne_wD l,by show (0+(wD l).length) * 4≤_;rw[wD_len];omega,by show 0+(wD l).length≤_;rw[wD_len];unfold maxLen;omega⟩;done)|fail) ?_|fail));all_goals conv=>whnf)
 exact LeD.rfl
def blen (n:Nat):Nat:=if n=0 then 0 else n.log2+1
theorem blen_of {n k:Nat} (h1:2 ^ k≤n) (h2:n<2 ^ (k+1)):blen n=k+1:=by
 have hn:n≠0:=by have:=Nat.two_pow_pos k;omega
 unfold blen
 rw[if_neg hn]
 have a:=(Nat.log2_lt hn).2 h2
 have b:=(Nat.le_log2 hn).2 h1
 omega
theorem blen_le {n k:Nat}:blen n≤k↔n<2 ^ k:=by
 unfold blen
 split
 ·subst n;simp[Nat.two_pow_pos]
 ·rename_i h;rw[← Nat.log2_lt h];omega
theorem top_le {n k:Nat} (h:(ws n).length=k+1):B32 ^ k * (ws n)[k]≤n∧n<B32 ^ k * ((ws n)[k]+1)∧(ws n)[k]≠0∧(ws n)[k]<B32:=by
 have hk:k<(ws n).length:=by omega
 have e:ws n=(ws n).take k++[(ws n)[k]]:=by
  conv=>lhs;rw[← List.take_length (l:=ws n),h,List.take_succ_eq_append_getElem hk]
 have hv:val ((ws n).take k)+B32 ^ k * (ws n)[k]=n:=by
  have:=val_ws n
  rw[e,val_app,List.length_take,Nat.min_eq_left (by omega)] at this
  simpa[val] using this
 have hlt:val ((ws n).take k)<B32 ^ k:=by
  have:=val_lt (l:=(ws n).take k) fun d hd=>ws_lt n d (List.mem_of_mem_take hd)
  rwa [List.length_take,Nat.min_eq_left (by omega)] at this
 refine ⟨by omega,by rw[Nat.mul_add,Nat.mul_one];omega,?_,ws_lt n _ (List.getElem_mem hk)⟩
 refine ws_last (n:=n) ?_
 rw[List.getLast?_eq_getElem?,show (ws n).length - 1=k by omega]
 exact List.getElem?_eq_getElem hk
theorem shr1 (a:Nat):(a:Int).fdiv (2 ^ min (Int.toNat 1) IntKind.u32.bits)=((a / 2:Nat):Int):=by
 rw[show (2:Int) ^ min (Int.toNat 1) IntKind.u32.bits=2 from by decide,Int.fdiv_eq_ediv_of_nonneg _ (by decide)];rfl
theorem ceqK {k:IntKind} {x y:Int} (h:x=y) {P:Prop}:C.d (.v (.int k y))=C.junk∨C.d (.v (.int k x))=C.d (.v (.int k y))∨P:=.inr (.inl (by rw[h]))
theorem length_d (n:Nat) (hn:(ws n).length≤35184372088832):FnP Tryz.prog gl 190 [W n] (iD (blen n)):=by
 have hwl:=wD_len (ws n)
 rcases hk:(ws n).length with _|k
 ·have h0:(((wD (ws n)).length:Nat):Int)=0:=by rw[hwl,hk];rfl
  have hn0:n=0:=ws_nil.1 (List.eq_nil_of_length_eq_zero hk)
  refine S0 Tryz.func190 rfl ?_
  ((repeat' ((conv=>whnf);first|exact .intro|refine G ?_|intro _|refine .mk ?_ ?_|refine AK ?_|refine AO ?_|fail));all_goals conv=>whnf)
  subst hn0
  exact LeD.of rfl
 ·have h0:¬ (((wD (ws n)).length:Nat):Int)=0:=by rw[hwl,hk];omega
  have e1:IntKind.i64.wrap ((((wD (ws n)).length:Nat):Int) - 1)=(k:Int):=by rw[hwl,hk,wrapI (by omega)];omega
  have hkl:k<(ws n).length:=by omega
  obtain ⟨t1,t2,t3,t4⟩:=top_le hk
  refine S0 Tryz.func190 rfl ?_
  ((repeat' ((conv=>whnf);first|exact .intro|refine G ?_|intro _|(rw[e1])|refine .mk ?_ ?_|refine AK ?_|refine AO ?_|fail));all_goals conv=>whnf)
  refine ⟨_,wget hkl,?_⟩
  generalize (ws n)[k]=t at *
  ((repeat' ((conv=>whnf);first|exact .intro|refine G ?_|intro _|refine .mk ?_ ?_|refine AK ?_|refine AO ?_|fail));all_goals conv=>whnf)
  refine ⟨{ σ:=Nat,fr:=fun j=>[(3,.c (.d (iD j))),(4,.c (.d (u32D (t >>> j))))],ks:=[],L:=fun _=>[],ex:=0,I:=fun j=>j≤32∧(j=0∨t >>> (j - 1)≠0),μ:=fun j=>33 - j },⟨0,⟨Nat.zero_le _,.inl rfl⟩,?_⟩,fun (j:Nat) hj=>?_⟩
  ·((repeat' first|exact rfl|((conv=>whnf);first|done|exact suL|refine And.intro ?_ ?_|fail));all_goals conv=>whnf)
  ·obtain ⟨hj1,hj2⟩:=hj
   ((repeat' ((conv=>whnf);first|exact .intro|refine G ?_|intro _|refine .mk ?_ ?_|refine AK ?_|refine AO ?_|fail));all_goals conv=>whnf)
   ·rename_i hx
    have hj:j<32:=by
     rcases Nat.lt_or_ge j 32 with h|h
     ·exact h
     ·exfalso
      have:t >>> j=0:=by
       rw[Nat.shiftRight_eq_div_pow]
       exact Nat.div_eq_of_lt (Nat.lt_of_lt_of_le t4 (Nat.pow_le_pow_right (n:=2) (by decide) h))
      omega
    refine ⟨j+1,⟨⟨hj,.inr ?_⟩,by show 33 - (j+1)<33 - j;omega⟩,?_⟩
    ·rw[Nat.add_sub_cancel];omega
    ·((repeat' first|exact rfl|((conv=>whnf);first|done|exact suL|refine And.intro ?_ ?_|fail));all_goals conv=>whnf)
     ·exact ceq (by rw[wrapI (by omega)];rfl)
     ·exact ceqK (by rw[shr1,Nat.shiftRight_succ])
   ·rename_i hx
    have hz:t >>> j=0:=by omega
    rcases j with _|i
    ·exact absurd hz t3
    ·have h1:2 ^ i≤t:=by
      rcases hj2 with h|h
      ·omega
      ·rw[Nat.add_sub_cancel,Nat.shiftRight_eq_div_pow] at h
       rcases Nat.lt_or_ge t (2 ^ i) with h'|h'
       ·exact absurd (Nat.div_eq_of_lt h') h
       ·exact h'
     have h2:t<2 ^ (i+1):=by
      rw[Nat.shiftRight_eq_div_pow] at hz
      exact (Nat.div_eq_zero_iff_lt (Nat.two_pow_pos _)).1 hz
     have hB:B32 ^ k=2 ^ (32 * k):=by rw[Nat.pow_mul]
     have hbl:blen n=32 * k+i+1:=by
      refine blen_of ?_ ?_
      ·rw[Nat.pow_add,← hB];exact Nat.le_trans (Nat.mul_le_mul_left _ h1) t1
      ·rw[Nat.add_assoc,Nat.pow_add,← hB];exact Nat.lt_of_lt_of_le t2 (Nat.mul_le_mul_left _ h2)
     refine LeD.of (congrArg iD ?_)
     rw[e1,wrapI (n:=(k:Int) * 32) (by omega),wrapI (by omega),hbl]
     omega
end
end Go.Proofs.YtfkjhfdpphfjhaaGreatDoor
