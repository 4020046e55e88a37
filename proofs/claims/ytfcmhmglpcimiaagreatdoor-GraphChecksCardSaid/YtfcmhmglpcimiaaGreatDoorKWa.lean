/- Proved: a part of what the law is proved with (the reckoner, contracts of functions, plain laws). Conditions: as each says. -/
import Derived.ChangeMaps5
import Derived.Handy
import Derived.Test.YtfcmhmglpcimiaaGreatDoorKErrAs
import Derived.Test.YtfcmhmglpcimiaaGreatDoorKFo
namespace Go.Proofs.YtfcmhmglpcimiaaGreatDoor
section
open Go Go.EYtfcmhmglpcimiaaGreatDoor Go.RowKit
set_option maxRecDepth 100000
variable {gl:List (Nat×List D)}
def rowD (p:Int×Int):List D:=[iD p.1,iD p.2]
theorem FnP.of_below {P:Program} {g:Nat} {ds:List D} {xs:List Value} {r:D} {v:Value} (hB:HasBody P g) (hx:∀ M w ys,DenL M w ds ys→ys=xs) (hv:∀ M w,DenD M w r v)
 (h:∀ M w,Glob gl M w→Calls P g xs.toArray w fun e w'=>e=.returned v∧Below w.heap.size w w'):FnP P gl g ds r:=fun w M ys _ hg hd=>by
 obtain rfl:=hx M w ys hd
 exact .inl ⟨hB,(h M w hg).mono fun e w' ⟨h1,h2⟩=>⟨Evo.of_below h2 _,v,h1,hv _ _⟩⟩
abbrev errT:List D:=[.v (.iface 148 (.agg #[.pointer (some ⟨11,25,none⟩)]))]
theorem errT_of {M:Nat→Prop} {w:World} (hg:Glob gl M w) (h:Go.EYtfcmhmglpcimiaaGreatDoor.look gl 0=some errT):ErrT w:=by
 obtain ⟨_,xs,h2,_,h4⟩:=hg _ _ h
 obtain ⟨x,rfl,h5⟩:=All2.one_iff.1 h4
 obtain rfl:=DenD.v_inv h5
 exact globCell h2 0 _ rfl
theorem Told_nil:FnP Tryz.prog gl 22 [.v .nilIface] (iD 0) :=
 FnP.of_below (xs:=[.nilIface]) (v:=.int .i64 0) hoB (fun M w ys hd=>by
  obtain ⟨y,rfl,h1⟩:=All2.one_iff.1 hd
  rw[DenD.v_inv h1]) (fun _ _=>.v _) (fun M w hg=>told_nil w)
theorem Told_err (n:Int) (h:Go.EYtfcmhmglpcimiaaGreatDoor.look gl 0=some errT):FnP Tryz.prog gl 22 [.v (.iface 57 (.int .i64 n))] (iD n) :=
 FnP.of_below (xs:=[.iface 57 (.int .i64 n)]) (v:=.int .i64 n) hoB (fun M w ys hd=>by
  obtain ⟨y,rfl,h1⟩:=All2.one_iff.1 hd
  rw[DenD.v_inv h1]) (fun _ _=>.v _) (fun M w hg=>told_err n w (errT_of hg h))
theorem errD_cases {P:D→Prop} (n:Int) (h0:n=0→P (.v .nilIface)) (h1:n≠0→P (.v (.iface 57 (.int .i64 n)))):P (errD n):=by
 unfold errD
 split
 ·exact h0 ‹_›
 ·exact h1 ‹_›
theorem Error_d (n k:Int) (h:Go.EYtfcmhmglpcimiaaGreatDoor.look gl 0=some errT):FnP Tryz.prog gl 7 [errD n,iD k] (.b (n=k) inferInstance):=by
 refine errD_cases (P:=fun d=>FnP Tryz.prog gl 7 [d,iD k] (.b (n=k) inferInstance)) n (fun h0=>?_) (fun h0=>?_)
 ·subst h0
  refine S0 Tryz.func7 rfl ?_
  ((repeat' ((conv=>whnf);first|(first|refine Fork.yes (by assumption) ?_|refine Fork.no (by assumption) ?_|refine Fork.nono (by assumption) ?_|(refine Fork.yes ?_ ?_;focus (simp[andPD];done))|(refine Fork.no ?_ ?_;focus (simp[andPD];done))|refine Fork.neg (fun _=>?_) (fun _=>?_)|refine Fork.mk (fun _=>?_) (fun _=>?_))|refine Or.inl (Or.inl (Exists.intro _ (And.intro (by first|exact Told_nil) ?_)))|refine Exists.intro _ (And.intro (by first|exact Told_nil) ?_)));(all_goals (conv=>whnf)))
  exact LeD.b (by omega)
 ·refine S0 Tryz.func7 rfl ?_
  ((repeat' ((conv=>whnf);first|(first|refine Fork.yes (by assumption) ?_|refine Fork.no (by assumption) ?_|refine Fork.nono (by assumption) ?_|(refine Fork.yes ?_ ?_;focus (simp[andPD];done))|(refine Fork.no ?_ ?_;focus (simp[andPD];done))|refine Fork.neg (fun _=>?_) (fun _=>?_)|refine Fork.mk (fun _=>?_) (fun _=>?_))|refine Or.inl (Or.inl (Exists.intro _ (And.intro (by first|exact Told_err n h) ?_)))|refine Exists.intro _ (And.intro (by first|exact Told_err n h) ?_)));(all_goals (conv=>whnf)))
  exact LeD.b (by omega)
end
section
open Go Go.EYtfcmhmglpcimiaaGreatDoor Go.RowKit
set_option maxRecDepth 100000
variable {gl:List (Nat×List D)}
def pairsL (c0 r0:Int) (n k:Nat):List (Int×Int):=(List.range k).flatMap fun (i:Nat)=>(List.range n).map fun (j:Nat)=>(c0+j,r0+i)
theorem rowsL_pairs (c0 r0:Int) (n k:Nat):rowsL c0 r0 n k=(pairsL c0 r0 n k).map rowD:=by
 unfold rowsL pairsL partL
 rw[List.map_flatMap]
 simp[rowD,cellRow,Function.comp_def]
theorem pairsL_len (c0 r0:Int) (n k:Nat):(pairsL c0 r0 n k).length=k * n:=by
 have:=rowsL_len c0 r0 n k
 rwa [rowsL_pairs,List.length_map] at this
theorem Box_s {c r c' r':Int} (h:okP c r) (h':okP c' r'):FnP Tryz.prog gl 60 [cellD c r,cellD c' r'] (.tup [boxD (min c c') (min r r') (max c c') (max r r'),errD 0]):=by
 have:=Box_d (gl:=gl) c r c' r';unfold boxR at this;rwa [if_pos ⟨h,h'⟩] at this
theorem Cells_s {a b c d:Int} (h:boxP a b c d):FnP Tryz.prog gl 61 [boxD a b c d] (.tup [.lst 2 ((pairsL a b (c - a+1).toNat (d - b+1).toNat).map rowD),errD 0]):=by
 have:=Cells_d (gl:=gl) a b c d;rw[if_pos h] at this;unfold cellsD at this;rwa [rowsL_pairs] at this
theorem refCells_s {a b c d:Int} (h:boxP a b c d):FnP Tryz.prog gl 57 [boxD a b c d] (.lst 2 ((pairsL a b (c - a+1).toNat (d - b+1).toNat).map rowD)):=by
 have:=refCells_d (gl:=gl) a b c d h;unfold cellsD at this;rwa [rowsL_pairs] at this
end
section
open Go Go.EYtfcmhmglpcimiaaGreatDoor
set_option maxRecDepth 100000
variable {gl:List (Nat×List D)}
def dig (n:Nat):UInt8:=UInt8.ofNat (48+n)
def digs (n:Nat):List UInt8:=if n<10 then [dig n] else [dig (n / 10),dig (n % 10)]
def nameL (c r:Int) (fc fr:Bool):List UInt8:=(if fc=true then [36] else [])++UInt8.ofNat (64+c.toNat)::((if fr=true then [36] else [])++digs r.toNat)
theorem digs_len (n:Nat):(digs n).length≤2:=by unfold digs;split <;> simp
theorem drop1 (b:UInt8) (s:List UInt8):List.drop ((some (1:Int)).getD 0).toNat (List.take ((none:Option Int).getD ((b::s).length:Nat)).toNat (b::s))=s:=by
 show List.drop 1 (List.take (((b::s).length:Nat):Int).toNat (b::s))=s
 rw[Int.toNat_natCast,List.take_length];rfl
theorem dollar_y (s:List UInt8):Go.EYtfcmhmglpcimiaaGreatDoor.Fn Tryz.prog gl 165 [.c (.ptr 0 0)] [(0,.var [.d (.str (36::s))] 9)] 1 (.ret (.c (.d (.v (.bool true))))) [(0,.var [.d (.str s)] 9)] 1 []:=by
 refine S1 Tryz.func165 rfl ?_
 ((repeat' ((conv=>whnf);first|(first|refine Fork.yes (by assumption) ?_|refine Fork.no (by assumption) ?_|refine Fork.nono (by assumption) ?_|(refine Fork.yes ?_ ?_;focus (simp;done))|(refine Fork.no ?_ ?_;focus (simp[andPD];done))|refine Fork.neg (fun _=>?_) (fun _=>?_)|refine Fork.mk (fun _=>?_) (fun _=>?_)|(refine And.intro ?_ ?_;focus (simp;try omega;done)))));(all_goals (conv=>whnf)))
 ((repeat' first|exact rfl|((conv=>whnf);first|done|exact suL|refine And.intro ?_ ?_|fail));all_goals conv=>whnf)
 all_goals exact .inr (.inl (congrArg (fun z=>C.d (D.str z)) (drop1 _ _)))
theorem dollar_e:Go.EYtfcmhmglpcimiaaGreatDoor.Fn Tryz.prog gl 165 [.c (.ptr 0 0)] [(0,.var [.d (.str [])] 9)] 1 (.ret (.c (.d (.v (.bool false))))) [(0,.var [.d (.str [])] 9)] 1 []:=by
 refine S1 Tryz.func165 rfl ?_
 ((repeat' ((conv=>whnf);first|(first|refine Fork.yes (by assumption) ?_|refine Fork.no (by assumption) ?_|refine Fork.nono (by assumption) ?_|(refine Fork.yes ?_ ?_;focus (simp;done))|(refine Fork.no ?_ ?_;focus (simp;done))|refine Fork.neg (fun _=>?_) (fun _=>?_)|refine Fork.mk (fun _=>?_) (fun _=>?_)|(refine And.intro ?_ ?_;focus (simp;try omega;done)))));(all_goals (conv=>whnf)))
 ((repeat' first|exact rfl|((conv=>whnf);first|done|exact suL|refine And.intro ?_ ?_|fail));all_goals conv=>whnf)
theorem dollar_n (b:UInt8) (s:List UInt8) (h:b≠36):Go.EYtfcmhmglpcimiaaGreatDoor.Fn Tryz.prog gl 165 [.c (.ptr 0 0)] [(0,.var [.d (.str (b::s))] 9)] 1 (.ret (.c (.d (.v (.bool false))))) [(0,.var [.d (.str (b::s))] 9)] 1 []:=by
 have h':¬ (((b::s).getD (Int.toNat 0) 0).toNat:Int)=36:=fun e=>h (UInt8.toNat_inj.1 (by simpa using Int.ofNat.inj e))
 refine S1 Tryz.func165 rfl ?_
 ((repeat' ((conv=>whnf);first|(first|refine Fork.yes (by assumption) ?_|refine Fork.no (by assumption) ?_|refine Fork.nono (by assumption) ?_|(refine Fork.yes ?_ ?_;focus (simp;done))|(refine Fork.no ?_ ?_;focus (simp[andPD];done))|refine Fork.neg (fun _=>?_) (fun _=>?_)|refine Fork.mk (fun _=>?_) (fun _=>?_)|(refine And.intro ?_ ?_;focus (simp;try omega;done)))));(all_goals (conv=>whnf)))
 ((repeat' first|exact rfl|((conv=>whnf);first|done|exact suL|refine And.intro ?_ ?_|fail));all_goals conv=>whnf)
def dl:List UInt8→Bool×List UInt8
 | []=>(false,[])
 | b::s=>if b=36 then (true,s) else (false,b::s)
theorem dollar_d {s t:List UInt8} {b:Bool} (h:dl s=(b,t)):Go.EYtfcmhmglpcimiaaGreatDoor.Fn Tryz.prog gl 165 [.c (.ptr 0 0)] [(0,.var [.d (.str s)] 9)] 1 (.ret (.c (.d (.v (.bool b))))) [(0,.var [.d (.str t)] 9)] 1 []:=by
 cases s with
 | nil=>cases h;exact dollar_e
 | cons a s =>
  by_cases ha:a=36
  ·subst ha;cases h;exact dollar_y _
  ·simp only[dl,if_neg ha] at h;cases h;exact dollar_n _ _ ha
abbrev refBad:D:=.tup [refD 0 0 false false,errD 2]
theorem refBad_le:LeD (retD [D.agg [iD 0,iD 0,.v (.bool false),.v (.bool false)],.v (.iface 57 (.int .i64 2))]) refBad :=
 LeD.tup ⟨LeD.agg ⟨LeD.rfl,LeD.rfl,tD_le _,tD_le _,trivial⟩,LeD.rfl,trivial⟩
theorem Ref_1 {s:List UInt8} {b:Bool} (h:dl s=(b,[])):FnP Tryz.prog gl 146 [.str s] refBad:=by
 refine S0 Tryz.func146 rfl ?_
 ((repeat' ((conv=>whnf);first|exact .intro|refine G ?_|intro _|refine C5 (dollar_d h) [0] ?_|refine .mk ?_ ?_|refine AK ?_|refine And.intro (by first|(simp;try omega;done)|fail) ?_|fail));all_goals conv=>whnf)
 exact refBad_le
theorem Ref_2 {s t:List UInt8} {b:Bool} {ch:UInt8} (h:dl s=(b,ch::t)) (hc:¬ (65≤ch.toNat∧ch.toNat≤90)):FnP Tryz.prog gl 146 [.str s] refBad:=by
 refine S0 Tryz.func146 rfl ?_
 ((repeat' ((conv=>whnf);first|exact .intro|refine G ?_|intro _|refine C5 (dollar_d h) [0] ?_|refine .mk ?_ ?_|refine AK ?_|refine And.intro (by first|(simp;try omega;done)|fail) ?_|fail));all_goals conv=>whnf)
 all_goals first|exact refBad_le|(exfalso;simp at *;omega)
theorem Ref_3 {s t l:List UInt8} {b b':Bool} {ch:UInt8} (h:dl s=(b,ch::t)) (hc:65≤ch.toNat∧ch.toNat≤90) (h':dl t=(b',l)) (hl:l=[]∨2<l.length∨l.head?=some 48):FnP Tryz.prog gl 146 [.str s] refBad:=by
 have h65:¬ (((ch::t).getD (Int.toNat 0) 0).toNat:Int)<65:=by simp;omega
 have h90:¬ 90<(((ch::t).getD (Int.toNat 0) 0).toNat:Int):=by simp;omega
 rcases l with _|⟨a,l⟩
 ·refine S0 Tryz.func146 rfl ?_
  ((repeat' ((conv=>whnf);first|exact .intro|refine G ?_|intro _|refine C5 (dollar_d h) [0] ?_|refine C5 (dollar_d h') [0] ?_|(rw[drop1])|refine .mk ?_ ?_|refine AK ?_|refine And.intro (by first|(first|omega|(simp;done)|(simp;omega);done)|fail) ?_|fail));all_goals conv=>whnf)
  exact refBad_le
 ·by_cases h2:2<(((a::l).length:Nat):Int)
  ·refine S0 Tryz.func146 rfl ?_
   ((repeat' ((conv=>whnf);first|exact .intro|refine G ?_|intro _|refine C5 (dollar_d h) [0] ?_|refine C5 (dollar_d h') [0] ?_|(rw[drop1])|refine .mk ?_ ?_|refine AK ?_|refine And.intro (by first|(first|omega|(simp;done)|(simp;omega);done)|fail) ?_|fail));all_goals conv=>whnf)
   exact refBad_le
  ·have h3:(((a::l).getD (Int.toNat 0) 0).toNat:Int)=48:=by
    rcases hl with hl|hl|hl
    ·cases hl
    ·omega
    ·cases hl;rfl
   refine S0 Tryz.func146 rfl ?_
   ((repeat' ((conv=>whnf);first|exact .intro|refine G ?_|intro _|refine C5 (dollar_d h) [0] ?_|refine C5 (dollar_d h') [0] ?_|(rw[drop1])|refine .mk ?_ ?_|refine AK ?_|refine And.intro (by first|(first|omega|(simp;done)|(simp;omega);done)|fail) ?_|fail));all_goals conv=>whnf)
   exact refBad_le
def rv (l:List UInt8) (k:Nat):Nat:=(l.take k).foldl (fun n d=>n * 10+(d.toNat - 48)) 0
abbrev isDig (d:UInt8):Prop:=48≤d.toNat∧d.toNat≤57
theorem rv_succ {l:List UInt8} {k:Nat} (h:k<l.length):rv l (k+1)=rv l k * 10+(l[k].toNat - 48):=by
 unfold rv
 rw[List.take_succ_eq_append_getElem h,List.foldl_append];rfl
theorem rv_le {l:List UInt8} {k:Nat} (h:k<l.length) (h2:l.length≤2) (hd:∀ d ∈ l.take k,isDig d):rv l k≤9:=by
 match k,h with
 | 0,_=>exact Nat.zero_le 9
 | 1,h =>
  have h0:0<l.length:=by omega
  have:=hd l[0] (by rw[List.mem_take_iff_getElem];exact ⟨0,by omega,rfl⟩)
  rw[show (1:Nat)=0+1 from rfl,rv_succ h0]
  show 0 * 10+_≤9
  obtain ⟨h1,h2⟩:=this
  omega
 | k+2,h=>omega
theorem Ref_4 {s t l:List UInt8} {b b':Bool} {ch:UInt8} (h:dl s=(b,ch::t)) (hc:65≤ch.toNat∧ch.toNat≤90) (h':dl t=(b',l)) (h0:l≠[]) (h2':l.length≤2) (h3':l.head?≠some 48) :
 FnP Tryz.prog gl 146 [.str s] (if ∀ d ∈ l,isDig d then .tup [refD ((ch.toNat - 64:Nat):Int) ((rv l l.length:Nat):Int) b b',errD 0] else refBad):=by
 have h65:¬ (((ch::t).getD (Int.toNat 0) 0).toNat:Int)<65:=by simp;omega
 have h90:¬ 90<(((ch::t).getD (Int.toNat 0) 0).toNat:Int):=by simp;omega
 obtain ⟨a,l,rfl⟩:=List.exists_cons_of_ne_nil h0
 have h2:¬ 2<(((a::l).length:Nat):Int):=by omega
 have h3:¬ (((a::l).getD (Int.toNat 0) 0).toNat:Int)=48:=fun e=>h3' (by show some a=some 48;rw[UInt8.toNat_inj.1 (show a.toNat=(48:UInt8).toNat from Int.ofNat.inj e)])
 have hm:(a::l).length≤maxLen:=by unfold maxLen;omega
 refine S0 Tryz.func146 rfl ?_
 ((repeat' ((conv=>whnf);first|exact .intro|refine G ?_|intro _|refine C5 (dollar_d h) [0] ?_|refine C5 (dollar_d h') [0] ?_|(rw[drop1])|refine .mk ?_ ?_|refine AK ?_|refine And.intro (by first|(first|omega|(simp;done)|(simp;omega)|exact hm;done)|fail) ?_|fail));all_goals conv=>whnf)
 refine ⟨{ σ:=Nat,fr:=fun k=>[(54,.c (.d (iD k)))],ks:=[1],L:=fun k=>[(1,.var [.d (iD ((ch.toNat - 64:Nat):Int)),.d (iD (rv (a::l) k)),.d (.v (.bool b)),.d (.v (.bool b'))] 62)],ex:=0,I:=fun k=>k≤(a::l).length∧∀ d ∈ (a::l).take k,isDig d,μ:=fun k=>(a::l).length - k },⟨0,⟨Nat.zero_le _,by simp⟩,?_⟩,fun (k:Nat) hk=>?_⟩
 ·((repeat' first|exact rfl|((conv=>whnf);first|done|exact suL|refine And.intro ?_ ?_|fail));all_goals conv=>whnf)
  exact ceq (by
   rw[show ((ch::t).getD (Int.toNat 0) 0)=ch from rfl,IntWalk.u8_in _ (by omega),wrapI (n:=(ch.toNat:Int) - 65) (by omega),wrapI (by omega)]
   omega)
 ·obtain ⟨hk1,hk2⟩:=hk
  ((repeat' ((conv=>whnf);first|exact .intro|refine G ?_|intro _|refine C5 (dollar_d h) [0] ?_|(rw[drop1])|refine .mk ?_ ?_|refine AK ?_|refine And.intro (by first|(first|omega|(simp;done)|(simp;omega)|exact hm;done)|fail) ?_|fail));all_goals conv=>whnf)
  ·have hlt:k<(a::l).length:=by rename_i hx;rw[List.length_map] at hx;omega
   refine ⟨_,get_map hlt,?_⟩
   ((repeat' ((conv=>whnf);first|exact .intro|refine G ?_|intro _|refine C5 (dollar_d h) [0] ?_|(rw[drop1])|refine .mk ?_ ?_|refine AK ?_|refine And.intro (by first|(first|omega|(simp;done)|(simp;omega)|exact hm;done)|fail) ?_|fail));all_goals conv=>whnf)
   ·exact LeD.ite_neg (fun hh=>by have:=hh _ (List.getElem_mem hlt);unfold isDig at this;omega) refBad_le
   ·exact LeD.ite_neg (fun hh=>by have:=hh _ (List.getElem_mem hlt);unfold isDig at this;omega) refBad_le
   ·refine ⟨k+1,⟨⟨hlt,?_⟩,by show (a::l).length - (k+1)<(a::l).length - k;omega⟩,?_⟩
    ·intro d hd
     rw[List.take_succ_eq_append_getElem hlt] at hd
     rcases List.mem_append.1 hd with hd|hd
     ·exact hk2 d hd
     ·rw[List.mem_singleton.1 hd];unfold isDig;omega
    ·((repeat' first|exact rfl|((conv=>whnf);first|done|exact suL|refine And.intro ?_ ?_|fail));all_goals conv=>whnf)
     ·exact ceq (show IntKind.i64.wrap ((k:Int)+1)=((k+1:Nat):Int) by rw[wrapI (by omega)];rfl)
     ·have h9:=rv_le hlt h2' hk2
      have h8:=UInt8.toNat_lt (a::l)[k]
      refine ceq ?_
      rw[rv_succ hlt,IntWalk.u8_in _ (by omega),wrapI (n:=(rv (a::l) k:Int) * 10) (by omega),wrapI (n:=((a::l)[k].toNat:Int) - 48) (by omega),wrapI (by omega)]
      omega
  ·have hkl:k=(a::l).length:=by rename_i hx;rw[List.length_map] at hx;omega
   subst hkl
   rw[List.take_length] at hk2
   exact LeD.ite_pos hk2 (LeD.tup ⟨LeD.agg ⟨LeD.rfl,LeD.rfl,tD_le _,tD_le _,trivial⟩,LeD.rfl,trivial⟩)
end
section
open Go Go.EYtfcmhmglpcimiaaGreatDoor
set_option maxRecDepth 100000
variable {gl:List (Nat×List D)}
def vlD (k n:Int) (s:List UInt8):D:=.agg [iD k,iD n,.str s]
theorem Wrong_d (n:Int):FnP Tryz.prog gl 142 [iD n] (vlD 4 n []):=by
 refine S0 Tryz.func142 rfl ?_
 ((repeat' ((conv=>whnf);first|exact .intro|refine G ?_|intro _|refine .mk ?_ ?_|refine AK ?_|refine And.intro (by first|(fail;done)|fail) ?_|fail));all_goals conv=>whnf)
 exact LeD.rfl
theorem rBad_d (n:Int):FnP Tryz.prog gl 97 [iD n] (vlD 4 n []):=by
 refine S0 Tryz.func97 rfl ?_
 ((repeat' ((conv=>whnf);first|exact .intro|refine G ?_|intro _|refine .mk ?_ ?_|refine AK ?_|refine And.intro (by first|(fail;done)|fail) ?_|fail));all_goals conv=>whnf)
 exact LeD.rfl
theorem rTru_y {p:Prop} (i:Decidable p) (h:p):FnP Tryz.prog gl 96 [.b p i] (vlD 3 1 []):=by
 refine S0 Tryz.func96 rfl ?_
 ((repeat' ((conv=>whnf);first|exact .intro|refine G ?_|intro _|refine .mk ?_ ?_|refine AK ?_|refine And.intro (by first|(fail;done)|fail) ?_|fail));all_goals conv=>whnf)
 exact LeD.rfl
theorem rTru_n {p:Prop} (i:Decidable p) (h:¬ p):FnP Tryz.prog gl 96 [.b p i] (vlD 3 0 []):=by
 refine S0 Tryz.func96 rfl ?_
 ((repeat' ((conv=>whnf);first|exact .intro|refine G ?_|intro _|refine .mk ?_ ?_|refine AK ?_|refine And.intro (by first|(fail;done)|fail) ?_|fail));all_goals conv=>whnf)
 exact LeD.rfl
end
section
open Go Go.ChangeShapes Go.WideShapes Go.ChangeAt Go.RowKit Go.EYtfcmhmglpcimiaaGreatDoor
set_option linter.unusedVariables false
set_option maxRecDepth 100000
theorem glob_none {M:Nat→Prop} {w:World}:Glob [] M w:=fun g l hl=>by cases hl
end
section
abbrev B32:Nat:=4294967296
def val:List Nat→Nat
 | []=>0
 | d::r=>d+B32 * val r
def ws (n:Nat):List Nat:=if _h:n=0 then [] else n % B32::ws (n / B32)
termination_by n
decreasing_by exact Nat.div_lt_self (Nat.pos_of_ne_zero _h) (by decide)
theorem ws_zero:ws 0=[]:=by rw[ws];rfl
theorem ws_pos {n:Nat} (h:n≠0):ws n=n % B32::ws (n / B32):=by rw[ws];simp[h]
theorem val_ws (n:Nat):val (ws n)=n:=by
 induction n using Nat.strongRecOn with
 | ind n ih =>
  by_cases h:n=0
  ·subst h;rw[ws_zero];rfl
  ·rw[ws_pos h]
   show n % B32+B32 * val (ws (n / B32))=n
   rw[ih _ (Nat.div_lt_self (Nat.pos_of_ne_zero h) (by decide))]
   exact Nat.mod_add_div n B32
theorem ws_lt (n:Nat):∀ d ∈ ws n,d<B32:=by
 induction n using Nat.strongRecOn with
 | ind n ih =>
  by_cases h:n=0
  ·subst h;rw[ws_zero];simp
  ·rw[ws_pos h]
   intro d hd
   rcases List.mem_cons.1 hd with rfl|hd
   ·exact Nat.mod_lt _ (by decide)
   ·exact ih _ (Nat.div_lt_self (Nat.pos_of_ne_zero h) (by decide)) d hd
theorem ws_nil {n:Nat}:ws n=[]↔n=0:=by
 constructor
 ·intro h
  rw[← val_ws n,h];rfl
 ·rintro rfl;exact ws_zero
theorem ws_cons {d:Nat} {r:List Nat} (hd:d<B32):ws (val (d::r))=if val (d::r)=0 then [] else d::ws (val r):=by
 have e:val (d::r)=d+B32 * val r:=rfl
 by_cases h:val (d::r)=0
 ·rw[h,ws_zero,if_pos rfl]
 ·rw[ws_pos h,if_neg h,e,Nat.add_mul_mod_self_left,Nat.mod_eq_of_lt hd,Nat.add_mul_div_left _ _ (by decide),Nat.div_eq_of_lt hd,Nat.zero_add]
theorem val_app (l m:List Nat):val (l++m)=val l+B32 ^ l.length * val m:=by
 induction l with
 | nil=>simp[val]
 | cons d r ih =>
  show d+B32 * val (r++m)=d+B32 * val r+B32 ^ (r.length+1) * val m
  rw[ih,Nat.pow_succ,Nat.mul_add,Nat.mul_comm (B32 ^ r.length) B32,Nat.mul_assoc,Nat.add_assoc]
theorem val_lt {l:List Nat} (h:∀ d ∈ l,d<B32):val l<B32 ^ l.length:=by
 induction l with
 | nil=>simp[val]
 | cons d r ih =>
  have h1:=ih fun x hx=>h x (List.mem_cons_of_mem _ hx)
  have h2:=h d (List.mem_cons_self ..)
  show d+B32 * val r<B32 ^ (r.length+1)
  rw[Nat.pow_succ,Nat.mul_comm _ B32]
  have h3:B32 * (val r+1)≤B32 * B32 ^ r.length:=Nat.mul_le_mul_left _ h1
  rw[Nat.mul_add,Nat.mul_one] at h3
  exact Nat.lt_of_lt_of_le (by omega) h3
theorem val_zeros (k:Nat):val (List.replicate k 0)=0:=by
 induction k with
 | zero=>rfl
 | succ k ih=>rw[List.replicate_succ];show 0+B32 * val _=0;rw[ih,Nat.mul_zero]
theorem ws_val {l:List Nat} (h:∀ d ∈ l,d<B32) (hl:∀ d,l.getLast?=some d→d≠0):ws (val l)=l:=by
 induction l with
 | nil=>exact ws_zero
 | cons d r ih =>
  have hr:ws (val r)=r:=ih (fun x hx=>h x (List.mem_cons_of_mem _ hx)) (fun x hx=>hl x (by
   cases r with
   | nil=>cases hx
   | cons a b=>rw[List.getLast?_cons_cons];exact hx))
  rw[ws_cons (h d (List.mem_cons_self ..)),hr]
  rw[if_neg]
  intro h0
  have h0':d+B32 * val r=0:=h0
  have hr0:val r=0:=by
   rcases Nat.eq_zero_or_pos (val r) with e|e
   ·exact e
   ·exact absurd h0' (by have:=Nat.mul_pos (show 0<B32 by decide) e;omega)
  rw[hr0,ws_zero] at hr
  subst hr
  exact hl d rfl (by omega)
theorem ws_trim {l:List Nat} (k:Nat) (_hk:k≤l.length) (h:∀ d ∈ l,d<B32) (h0:l.drop k=List.replicate (l.length - k) 0) (hl:∀ d,(l.take k).getLast?=some d→d≠0):ws (val l)=l.take k:=by
 have e:val l=val (l.take k):=by
  conv=>lhs;rw[← List.take_append_drop k l]
  rw[val_app,h0,val_zeros,Nat.mul_zero,Nat.add_zero]
 rw[e]
 exact ws_val (fun d hd=>h d (List.mem_of_mem_take hd)) hl
theorem ws_last {n d:Nat} (h:(ws n).getLast?=some d):d≠0:=by
 induction n using Nat.strongRecOn with
 | ind n ih =>
  by_cases h0:n=0
  ·subst h0;rw[ws_zero] at h;cases h
  ·rw[ws_pos h0] at h
   by_cases h1:n / B32=0
   ·rw[h1,ws_zero] at h
    cases h
    have:n<B32:=by
     rcases Nat.lt_or_ge n B32 with e|e
     ·exact e
     ·exact absurd h1 (Nat.ne_of_gt (Nat.div_pos e (by decide)))
    rwa [Nat.mod_eq_of_lt this]
   ·have h2:ws (n / B32)≠[]:=fun e=>h1 (ws_nil.1 e)
    obtain ⟨a,b,e⟩:=List.exists_cons_of_ne_nil h2
    rw[e,List.getLast?_cons_cons,← e] at h
    exact ih _ (Nat.div_lt_self (Nat.pos_of_ne_zero h0) (by decide)) h
theorem ws_len_le {n k:Nat} (h:n<B32 ^ k):(ws n).length≤k:=by
 induction k generalizing n with
 | zero =>
  have:n=0:=by simpa using h
  subst this;rw[ws_zero];exact Nat.le_refl 0
 | succ k ih =>
  by_cases h0:n=0
  ·subst h0;rw[ws_zero];exact Nat.zero_le _
  ·rw[ws_pos h0]
   have:n / B32<B32 ^ k:=Nat.div_lt_of_lt_mul (by rwa [Nat.mul_comm,← Nat.pow_succ])
   simpa using ih this
end
end Go.Proofs.YtfcmhmglpcimiaaGreatDoor
