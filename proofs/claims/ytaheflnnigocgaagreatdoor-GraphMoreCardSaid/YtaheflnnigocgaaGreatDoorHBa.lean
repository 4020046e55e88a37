/- Proved: a part of what the law is proved with (the reckoner, contracts of functions, plain laws). Conditions: as each says. -/
import Derived.ChangeMaps5
import Derived.Handy
import Derived.Test.YtaheflnnigocgaaGreatDoorHFo
import Derived.Test.YtaheflnnigocgaaGreatDoorHPe
section
namespace Go.Proofs.YtaheflnnigocgaaGreatDoor
open Go Go.EYtaheflnnigocgaaGreatDoor
set_option maxRecDepth 100000
variable {gl:List (Nat×List D)}
def dig (n:Nat):UInt8:=UInt8.ofNat (48+n)
def digs (n:Nat):List UInt8:=if n<10 then [dig n] else [dig (n / 10),dig (n % 10)]
def nameL (c r:Int) (fc fr:Bool):List UInt8:=(if fc=true then [36] else [])++UInt8.ofNat (64+c.toNat)::((if fr=true then [36] else [])++digs r.toNat)
theorem digs_len (n:Nat):(digs n).length≤2:=by unfold digs;split <;> simp
theorem drop1 (b:UInt8) (s:List UInt8):List.drop ((some (1:Int)).getD 0).toNat (List.take ((none:Option Int).getD ((b::s).length:Nat)).toNat (b::s))=s:=by
 show List.drop 1 (List.take (((b::s).length:Nat):Int).toNat (b::s))=s
 rw[Int.toNat_natCast,List.take_length];rfl
theorem dollar_y (s:List UInt8):Go.EYtaheflnnigocgaaGreatDoor.Fn Tryz.prog gl 132 [.c (.ptr 0 0)] [(0,.var [.d (.str (36::s))] 9)] 1 (.ret (.c (.d (.v (.bool true))))) [(0,.var [.d (.str s)] 9)] 1 []:=by
 refine fn_of_vc (nv:=9999) (cu:=[]) fits mixed Tryz.func132 rfl hoB rfl rfl rfl rfl ?_
 ((repeat' ((conv=>whnf);first|(first|refine Fork.yes (by assumption) ?_|refine Fork.no (by assumption) ?_|refine Fork.nono (by assumption) ?_|(refine Fork.yes ?_ ?_;focus (simp;done))|(refine Fork.no ?_ ?_;focus (simp[andPD];done))|refine Fork.neg (fun _=>?_) (fun _=>?_)|refine Fork.mk (fun _=>?_) (fun _=>?_)|(refine And.intro ?_ ?_;focus (simp;try omega;done)))));(all_goals (conv=>whnf)))
 ((repeat' first|exact rfl|((conv=>whnf);first|done|exact suL|refine And.intro ?_ ?_|fail));all_goals conv=>whnf)
 all_goals exact .inr (.inl (congrArg (fun z=>C.d (D.str z)) (drop1 _ _)))
theorem dollar_e:Go.EYtaheflnnigocgaaGreatDoor.Fn Tryz.prog gl 132 [.c (.ptr 0 0)] [(0,.var [.d (.str [])] 9)] 1 (.ret (.c (.d (.v (.bool false))))) [(0,.var [.d (.str [])] 9)] 1 []:=by
 refine fn_of_vc (nv:=9999) (cu:=[]) fits mixed Tryz.func132 rfl hoB rfl rfl rfl rfl ?_
 ((repeat' ((conv=>whnf);first|(first|refine Fork.yes (by assumption) ?_|refine Fork.no (by assumption) ?_|refine Fork.nono (by assumption) ?_|(refine Fork.yes ?_ ?_;focus (simp;done))|(refine Fork.no ?_ ?_;focus (simp;done))|refine Fork.neg (fun _=>?_) (fun _=>?_)|refine Fork.mk (fun _=>?_) (fun _=>?_)|(refine And.intro ?_ ?_;focus (simp;try omega;done)))));(all_goals (conv=>whnf)))
 ((repeat' first|exact rfl|((conv=>whnf);first|done|exact suL|refine And.intro ?_ ?_|fail));all_goals conv=>whnf)
theorem dollar_n (b:UInt8) (s:List UInt8) (h:b≠36):Go.EYtaheflnnigocgaaGreatDoor.Fn Tryz.prog gl 132 [.c (.ptr 0 0)] [(0,.var [.d (.str (b::s))] 9)] 1 (.ret (.c (.d (.v (.bool false))))) [(0,.var [.d (.str (b::s))] 9)] 1 []:=by
 have h':¬ (((b::s).getD (Int.toNat 0) 0).toNat:Int)=36:=fun e=>h (UInt8.toNat_inj.1 (by simpa using Int.ofNat.inj e))
 refine fn_of_vc (nv:=9999) (cu:=[]) fits mixed Tryz.func132 rfl hoB rfl rfl rfl rfl ?_
 ((repeat' ((conv=>whnf);first|(first|refine Fork.yes (by assumption) ?_|refine Fork.no (by assumption) ?_|refine Fork.nono (by assumption) ?_|(refine Fork.yes ?_ ?_;focus (simp;done))|(refine Fork.no ?_ ?_;focus (simp[andPD];done))|refine Fork.neg (fun _=>?_) (fun _=>?_)|refine Fork.mk (fun _=>?_) (fun _=>?_)|(refine And.intro ?_ ?_;focus (simp;try omega;done)))));(all_goals (conv=>whnf)))
 ((repeat' first|exact rfl|((conv=>whnf);first|done|exact suL|refine And.intro ?_ ?_|fail));all_goals conv=>whnf)
def dl:List UInt8→Bool×List UInt8
 | []=>(false,[])
 | b::s=>if b=36 then (true,s) else (false,b::s)
theorem dollar_d {s t:List UInt8} {b:Bool} (h:dl s=(b,t)):Go.EYtaheflnnigocgaaGreatDoor.Fn Tryz.prog gl 132 [.c (.ptr 0 0)] [(0,.var [.d (.str s)] 9)] 1 (.ret (.c (.d (.v (.bool b))))) [(0,.var [.d (.str t)] 9)] 1 []:=by
 cases s with
 | nil=>cases h;exact dollar_e
 | cons a s =>
  by_cases ha:a=36
  ·subst ha;cases h;exact dollar_y _
  ·simp only[dl,if_neg ha] at h;cases h;exact dollar_n _ _ ha
abbrev refBad:D:=.tup [refD 0 0 false false,errD 2]
theorem refBad_le:LeD (retD [D.agg [iD 0,iD 0,.v (.bool false),.v (.bool false)],.v (.iface 63 (.int .i64 2))]) refBad :=
 LeD.tup ⟨LeD.agg ⟨LeD.rfl,LeD.rfl,tD_le _,tD_le _,trivial⟩,LeD.rfl,trivial⟩
theorem Ref_1 {s:List UInt8} {b:Bool} (h:dl s=(b,[])):FnP Tryz.prog gl 119 [.str s] refBad:=by
 refine fnP_of_vc (nv:=9999) (cu:=[]) fits mixed Tryz.func119 rfl hoB rfl ?_
 ((repeat' ((conv=>whnf);first|exact .intro|refine .ya ?_|refine .na ?_|refine .ys ?_|refine .ns ?_|refine .neg (fun _=>?_) (fun _=>?_)|refine .mk (fun _=>?_) (fun _=>?_)|refine .inr (X5 ((dollar_d h).r [0] _) ?_)|refine .inl (.inr (X5 ((dollar_d h).r [0] _) ?_))|refine .inl (X5 ((dollar_d h).r [0] _) ?_)|refine .mk ?_ ?_|refine AK ?_|refine And.intro (by first|(simp;try omega;done)|fail) ?_|fail));all_goals conv=>whnf)
 exact refBad_le
theorem Ref_2 {s t:List UInt8} {b:Bool} {ch:UInt8} (h:dl s=(b,ch::t)) (hc:¬ (65≤ch.toNat∧ch.toNat≤90)):FnP Tryz.prog gl 119 [.str s] refBad:=by
 refine fnP_of_vc (nv:=9999) (cu:=[]) fits mixed Tryz.func119 rfl hoB rfl ?_
 ((repeat' ((conv=>whnf);first|exact .intro|refine .ya ?_|refine .na ?_|refine .ys ?_|refine .ns ?_|refine .neg (fun _=>?_) (fun _=>?_)|refine .mk (fun _=>?_) (fun _=>?_)|refine .inr (X5 ((dollar_d h).r [0] _) ?_)|refine .inl (.inr (X5 ((dollar_d h).r [0] _) ?_))|refine .inl (X5 ((dollar_d h).r [0] _) ?_)|refine .mk ?_ ?_|refine AK ?_|refine And.intro (by first|(simp;try omega;done)|fail) ?_|fail));all_goals conv=>whnf)
 all_goals first|exact refBad_le|(exfalso;simp at *;omega)
theorem Ref_3 {s t l:List UInt8} {b b':Bool} {ch:UInt8} (h:dl s=(b,ch::t)) (hc:65≤ch.toNat∧ch.toNat≤90) (h':dl t=(b',l)) (hl:l=[]∨2<l.length∨l.head?=some 48):FnP Tryz.prog gl 119 [.str s] refBad:=by
 have h65:¬ (((ch::t).getD (Int.toNat 0) 0).toNat:Int)<65:=by simp;omega
 have h90:¬ 90<(((ch::t).getD (Int.toNat 0) 0).toNat:Int):=by simp;omega
 rcases l with _|⟨a,l⟩
 ·refine fnP_of_vc (nv:=9999) (cu:=[]) fits mixed Tryz.func119 rfl hoB rfl ?_
  ((repeat' ((conv=>whnf);first|exact .intro|refine .ya ?_|refine .na ?_|refine .ys ?_|refine .ns ?_|refine .neg (fun _=>?_) (fun _=>?_)|refine .mk (fun _=>?_) (fun _=>?_)|refine .inr (X5 ((dollar_d h).r [0] _) ?_)|refine .inl (.inr (X5 ((dollar_d h).r [0] _) ?_))|refine .inl (X5 ((dollar_d h).r [0] _) ?_)|refine .inr (X5 ((dollar_d h').r [0] _) ?_)|refine .inl (.inr (X5 ((dollar_d h').r [0] _) ?_))|refine .inl (X5 ((dollar_d h').r [0] _) ?_)|(rw[drop1])|refine .mk ?_ ?_|refine AK ?_|refine And.intro (by first|(first|omega|(simp;done)|(simp;omega);done)|fail) ?_|fail));all_goals conv=>whnf)
  exact refBad_le
 ·by_cases h2:2<(((a::l).length:Nat):Int)
  ·refine fnP_of_vc (nv:=9999) (cu:=[]) fits mixed Tryz.func119 rfl hoB rfl ?_
   ((repeat' ((conv=>whnf);first|exact .intro|refine .ya ?_|refine .na ?_|refine .ys ?_|refine .ns ?_|refine .neg (fun _=>?_) (fun _=>?_)|refine .mk (fun _=>?_) (fun _=>?_)|refine .inr (X5 ((dollar_d h).r [0] _) ?_)|refine .inl (.inr (X5 ((dollar_d h).r [0] _) ?_))|refine .inl (X5 ((dollar_d h).r [0] _) ?_)|refine .inr (X5 ((dollar_d h').r [0] _) ?_)|refine .inl (.inr (X5 ((dollar_d h').r [0] _) ?_))|refine .inl (X5 ((dollar_d h').r [0] _) ?_)|(rw[drop1])|refine .mk ?_ ?_|refine AK ?_|refine And.intro (by first|(first|omega|(simp;done)|(simp;omega);done)|fail) ?_|fail));all_goals conv=>whnf)
   exact refBad_le
  ·have h3:(((a::l).getD (Int.toNat 0) 0).toNat:Int)=48:=by
    rcases hl with hl|hl|hl
    ·cases hl
    ·omega
    ·cases hl;rfl
   refine fnP_of_vc (nv:=9999) (cu:=[]) fits mixed Tryz.func119 rfl hoB rfl ?_
   ((repeat' ((conv=>whnf);first|exact .intro|refine .ya ?_|refine .na ?_|refine .ys ?_|refine .ns ?_|refine .neg (fun _=>?_) (fun _=>?_)|refine .mk (fun _=>?_) (fun _=>?_)|refine .inr (X5 ((dollar_d h).r [0] _) ?_)|refine .inl (.inr (X5 ((dollar_d h).r [0] _) ?_))|refine .inl (X5 ((dollar_d h).r [0] _) ?_)|refine .inr (X5 ((dollar_d h').r [0] _) ?_)|refine .inl (.inr (X5 ((dollar_d h').r [0] _) ?_))|refine .inl (X5 ((dollar_d h').r [0] _) ?_)|(rw[drop1])|refine .mk ?_ ?_|refine AK ?_|refine And.intro (by first|(first|omega|(simp;done)|(simp;omega);done)|fail) ?_|fail));all_goals conv=>whnf)
   exact refBad_le
def rv (l:List UInt8) (k:Nat):Nat:=(l.take k).foldl (fun n d=>n * 10+(d.toNat - 48)) 0
abbrev isDig (d:UInt8):Prop:=48≤d.toNat∧d.toNat≤57
theorem rv_succ {l:List UInt8} {k:Nat} (h:k<l.length):rv l (k+1)=rv l k * 10+(l[k].toNat - 48):=by
 unfold rv
 rw[List.take_succ_eq_append_getElem h,List.foldl_append];rfl
theorem rv_le {l:List UInt8} {k:Nat} (h:k<l.length) (h2:l.length≤2) (hd:∀ d ∈ l.take k,isDig d):rv l k≤9:=by
 match k,h with
 | 0,_=>exact Nat.zero_le 9
 | 1,h =>
  have h0:0<l.length:=by omega
  have:=hd l[0] (by rw[List.mem_take_iff_getElem];exact ⟨0,by omega,rfl⟩)
  rw[show (1:Nat)=0+1 from rfl,rv_succ h0]
  show 0 * 10+_≤9
  obtain ⟨h1,h2⟩:=this
  omega
 | k+2,h=>omega
theorem Ref_4 {s t l:List UInt8} {b b':Bool} {ch:UInt8} (h:dl s=(b,ch::t)) (hc:65≤ch.toNat∧ch.toNat≤90) (h':dl t=(b',l)) (h0:l≠[]) (h2':l.length≤2) (h3':l.head?≠some 48) :
 FnP Tryz.prog gl 119 [.str s] (if ∀ d ∈ l,isDig d then .tup [refD ((ch.toNat - 64:Nat):Int) ((rv l l.length:Nat):Int) b b',errD 0] else refBad):=by
 have h65:¬ (((ch::t).getD (Int.toNat 0) 0).toNat:Int)<65:=by simp;omega
 have h90:¬ 90<(((ch::t).getD (Int.toNat 0) 0).toNat:Int):=by simp;omega
 obtain ⟨a,l,rfl⟩:=List.exists_cons_of_ne_nil h0
 have h2:¬ 2<(((a::l).length:Nat):Int):=by omega
 have h3:¬ (((a::l).getD (Int.toNat 0) 0).toNat:Int)=48:=fun e=>h3' (by show some a=some 48;rw[UInt8.toNat_inj.1 (show a.toNat=(48:UInt8).toNat from Int.ofNat.inj e)])
 have hm:(a::l).length≤maxLen:=by unfold maxLen;omega
 refine fnP_of_vc (nv:=9999) (cu:=[]) fits mixed Tryz.func119 rfl hoB rfl ?_
 ((repeat' ((conv=>whnf);first|exact .intro|refine .ya ?_|refine .na ?_|refine .ys ?_|refine .ns ?_|refine .neg (fun _=>?_) (fun _=>?_)|refine .mk (fun _=>?_) (fun _=>?_)|refine .inr (X5 ((dollar_d h).r [0] _) ?_)|refine .inl (.inr (X5 ((dollar_d h).r [0] _) ?_))|refine .inl (X5 ((dollar_d h).r [0] _) ?_)|refine .inr (X5 ((dollar_d h').r [0] _) ?_)|refine .inl (.inr (X5 ((dollar_d h').r [0] _) ?_))|refine .inl (X5 ((dollar_d h').r [0] _) ?_)|(rw[drop1])|refine .mk ?_ ?_|refine AK ?_|refine And.intro (by first|(first|omega|(simp;done)|(simp;omega)|exact hm;done)|fail) ?_|fail));all_goals conv=>whnf)
 refine ⟨{ σ:=Nat,fr:=fun k=>[(54,.c (.d (iD k)))],ks:=[1],L:=fun k=>[(1,.var [.d (iD ((ch.toNat - 64:Nat):Int)),.d (iD (rv (a::l) k)),.d (.v (.bool b)),.d (.v (.bool b'))] 71)],ex:=0,I:=fun k=>k≤(a::l).length∧∀ d ∈ (a::l).take k,isDig d,μ:=fun k=>(a::l).length - k },⟨0,⟨Nat.zero_le _,by simp⟩,?_⟩,fun (k:Nat) hk=>?_⟩
 ·((repeat' first|exact rfl|((conv=>whnf);first|done|exact suL|refine And.intro ?_ ?_|fail));all_goals conv=>whnf)
  exact ceq (by
   rw[show ((ch::t).getD (Int.toNat 0) 0)=ch from rfl,IntWalk.u8_in _ (by omega),wrapI (n:=(ch.toNat:Int) - 65) (by omega),wrapI (by omega)]
   omega)
 ·obtain ⟨hk1,hk2⟩:=hk
  ((repeat' ((conv=>whnf);first|exact .intro|refine .ya ?_|refine .na ?_|refine .ys ?_|refine .ns ?_|refine .neg (fun _=>?_) (fun _=>?_)|refine .mk (fun _=>?_) (fun _=>?_)|refine .inr (X5 ((dollar_d h).r [0] _) ?_)|refine .inl (.inr (X5 ((dollar_d h).r [0] _) ?_))|refine .inl (X5 ((dollar_d h).r [0] _) ?_)|(rw[drop1])|refine .mk ?_ ?_|refine AK ?_|refine And.intro (by first|(first|omega|(simp;done)|(simp;omega)|exact hm;done)|fail) ?_|fail));all_goals conv=>whnf)
  ·have hlt:k<(a::l).length:=by rename_i hx;rw[List.length_map] at hx;omega
   refine ⟨_,get_map hlt,?_⟩
   ((repeat' ((conv=>whnf);first|exact .intro|refine .ya ?_|refine .na ?_|refine .ys ?_|refine .ns ?_|refine .neg (fun _=>?_) (fun _=>?_)|refine .mk (fun _=>?_) (fun _=>?_)|refine .inr (X5 ((dollar_d h).r [0] _) ?_)|refine .inl (.inr (X5 ((dollar_d h).r [0] _) ?_))|refine .inl (X5 ((dollar_d h).r [0] _) ?_)|(rw[drop1])|refine .mk ?_ ?_|refine AK ?_|refine And.intro (by first|(first|omega|(simp;done)|(simp;omega)|exact hm;done)|fail) ?_|fail));all_goals conv=>whnf)
   ·exact LeD.ite_neg (fun hh=>by have:=hh _ (List.getElem_mem hlt);unfold isDig at this;omega) refBad_le
   ·exact LeD.ite_neg (fun hh=>by have:=hh _ (List.getElem_mem hlt);unfold isDig at this;omega) refBad_le
   ·refine ⟨k+1,⟨⟨hlt,?_⟩,by show (a::l).length - (k+1)<(a::l).length - k;omega⟩,?_⟩
    ·intro d hd
     rw[List.take_succ_eq_append_getElem hlt] at hd
     rcases List.mem_append.1 hd with hd|hd
     ·exact hk2 d hd
     ·rw[List.mem_singleton.1 hd];unfold isDig;omega
    ·((repeat' first|exact rfl|((conv=>whnf);first|done|exact suL|refine And.intro ?_ ?_|fail));all_goals conv=>whnf)
     ·exact ceq (show IntKind.i64.wrap ((k:Int)+1)=((k+1:Nat):Int) by rw[wrapI (by omega)];rfl)
     ·have h9:=rv_le hlt h2' hk2
      have h8:=UInt8.toNat_lt (a::l)[k]
      refine ceq ?_
      rw[rv_succ hlt,IntWalk.u8_in _ (by omega),wrapI (n:=(rv (a::l) k:Int) * 10) (by omega),wrapI (n:=((a::l)[k].toNat:Int) - 48) (by omega),wrapI (by omega)]
      omega
  ·have hkl:k=(a::l).length:=by rename_i hx;rw[List.length_map] at hx;omega
   subst hkl
   rw[List.take_length] at hk2
   exact LeD.ite_pos hk2 (LeD.tup ⟨LeD.agg ⟨LeD.rfl,LeD.rfl,tD_le _,tD_le _,trivial⟩,LeD.rfl,trivial⟩)
end Go.Proofs.YtaheflnnigocgaaGreatDoor
end
section
namespace Go.Proofs.YtaheflnnigocgaaGreatDoor
open Go Go.EYtaheflnnigocgaaGreatDoor
set_option maxRecDepth 100000
variable {gl:List (Nat×List D)}
def vlD (k n:Int) (s:List UInt8):D:=.agg [iD k,iD n,.str s]
theorem Wrong_d (n:Int):FnP Tryz.prog gl 115 [iD n] (vlD 4 n []):=by
 refine fnP_of_vc (nv:=9999) (cu:=[]) fits mixed Tryz.func115 rfl hoB rfl ?_
 ((repeat' ((conv=>whnf);first|exact .intro|refine .ya ?_|refine .na ?_|refine .ys ?_|refine .ns ?_|refine .neg (fun _=>?_) (fun _=>?_)|refine .mk (fun _=>?_) (fun _=>?_)|refine .mk ?_ ?_|refine AK ?_|refine And.intro (by first|(fail;done)|fail) ?_|fail));all_goals conv=>whnf)
 exact LeD.rfl
end Go.Proofs.YtaheflnnigocgaaGreatDoor
end
section
namespace Go.Proofs.YtaheflnnigocgaaGreatDoor
open Go Go.ChangeShapes Go.WideShapes Go.ChangeAt Go.RowKit Go.EYtaheflnnigocgaaGreatDoor
set_option linter.unusedVariables false
set_option maxRecDepth 100000
theorem glob_none {M:Nat→Prop} {w:World}:Glob [] M w:=fun g l hl=>by cases hl
end Go.Proofs.YtaheflnnigocgaaGreatDoor
end
section
namespace Go.Proofs.YtaheflnnigocgaaGreatDoor
abbrev B32:Nat:=4294967296
def val:List Nat→Nat
 | []=>0
 | d::r=>d+B32 * val r
def ws (n:Nat):List Nat:=if _h:n=0 then [] else n % B32::ws (n / B32)
termination_by n
decreasing_by exact Nat.div_lt_self (Nat.pos_of_ne_zero _h) (by decide)
end Go.Proofs.YtaheflnnigocgaaGreatDoor
end
section
namespace Go.Proofs.YtaheflnnigocgaaGreatDoor
open Go Go.EYtaheflnnigocgaaGreatDoor
set_option maxRecDepth 100000
variable {gl:List (Nat×List D)}
abbrev u32D (d:Nat):D:=.v (.int .u32 d)
def wD (l:List Nat):List (List D):=l.map fun d=>[u32D d]
abbrev W (n:Nat):D:=.lst 1 (wD (ws n))
end Go.Proofs.YtaheflnnigocgaaGreatDoor
end
