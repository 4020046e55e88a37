/- Proved: a part of what the law is proved with (the reckoner, contracts of functions, plain laws). Conditions: as each says. -/
import Derived.IntWalk
import Derived.Test.YtfcmhmglpcimiaaGreatDoorRows
import Derived.Test.YtfcmhmglpcimiaaGreatDoorTie
import Derived.Test.YtfcmhmglpcimiaaGreatDoorCards
import Derived.ProofKit
import Derived.LaidLaws
import Derived.LaidHandle
import Derived.Lib.SmallJoins
import Derived.Deep.Fields
import Derived.Carry
import Derived.Lay
import Derived.Test.YtfcmhmglpcimiaaGreatDoorProg
import Derived.WalkKit
import Derived.Handy
import Derived.Outline
import Derived.Lib.Hide
import Derived.Deep.QuietTactic
import Derived.BigQuiet
import Derived.Deep.RegionHeld3
import Derived.Deep.AppendLies
import Derived.Deep.Onto
import Derived.LaidEql
import Derived.Stop.Asserts
import Derived.RowKitTokens
import Derived.Test.YtfcmhmglpcimiaaGreatDoorKET
import Derived.Test.YtfcmhmglpcimiaaGreatDoorKFo
namespace Go.Proofs.YtfcmhmglpcimiaaGreatDoor
section
open Go Go.EYtfcmhmglpcimiaaGreatDoor
set_option maxRecDepth 100000
variable {gl:List (Nat×List D)}
abbrev iD (n:Int):D:=.v (.int .i64 n)
abbrev tD (b:Bool):D:=.b (b=true) inferInstance
def cellD (c r:Int):D:=.agg [iD c,iD r]
def refD (c r:Int) (fc fr:Bool):D:=.agg [iD c,iD r,tD fc,tD fr]
def boxD (a b c d:Int):D:=.agg [iD a,iD b,iD c,iD d]
def errD (n:Int):D:=if n=0 then .v .nilIface else .v (.iface 57 (.int .i64 n))
abbrev okP (c r:Int):Prop:=1≤c∧c≤26∧1≤r∧r≤99
abbrev farP (n:Int):Prop:=1000<n∨n < -1000
theorem ok_d (c r:Int):FnP Tryz.prog gl 29 [cellD c r] (.b (okP c r) inferInstance):=by
 refine S0 Tryz.func29 rfl ?_
 ((repeat' ((conv=>whnf);(first|refine Fork.yes (by assumption) ?_|refine Fork.no (by assumption) ?_|refine Fork.nono (by assumption) ?_|(refine Fork.yes ?_ ?_;focus (simp[andPD];done))|(refine Fork.no ?_ ?_;focus (simp;done))|refine Fork.neg (fun _=>?_) (fun _=>?_)|refine Fork.mk (fun _=>?_) (fun _=>?_))));(all_goals (conv=>whnf)))
 all_goals first|exact LeD.bt (by omega)|exact LeD.bf (by omega)|exact LeD.b (by omega)
theorem In_d (c r:Int):FnP Tryz.prog gl 10 [cellD c r] (.b (okP c r) inferInstance):=by
 refine S0 Tryz.func10 rfl ?_
 ((repeat' ((conv=>whnf);(first|refine Fork.yes (by assumption) ?_|refine Fork.no (by assumption) ?_|refine Fork.nono (by assumption) ?_|(refine Fork.yes ?_ ?_;focus (simp[andPD];done))|(refine Fork.no ?_ ?_;focus (simp;done))|refine Fork.neg (fun _=>?_) (fun _=>?_)|refine Fork.mk (fun _=>?_) (fun _=>?_))));(all_goals (conv=>whnf)))
 all_goals first|exact LeD.bt (by omega)|exact LeD.bf (by omega)|exact LeD.b (by omega)
abbrev boxP (a b c d:Int):Prop:=okP a b∧okP c d∧a≤c∧b≤d
theorem Boxed_d (a b c d:Int):FnP Tryz.prog gl 83 [boxD a b c d] (.b (boxP a b c d) inferInstance):=by
 refine S0 Tryz.func83 rfl ?_
 ((repeat' ((conv=>whnf);first|(first|refine Fork.yes (by assumption) ?_|refine Fork.no (by assumption) ?_|refine Fork.nono (by assumption) ?_|(refine Fork.yes ?_ ?_;focus (simp[andPD];done))|(refine Fork.no ?_ ?_;focus (simp;done))|refine Fork.neg (fun _=>?_) (fun _=>?_)|refine Fork.mk (fun _=>?_) (fun _=>?_))|refine Or.inl (Or.inl (Exists.intro _ (And.intro (by first|exact ok_d _ _) ?_)))|refine Exists.intro _ (And.intro (by first|exact ok_d _ _) ?_)));(all_goals (conv=>whnf)))
 all_goals first|exact LeD.bt (by omega)|exact LeD.bf (by omega)|exact LeD.b (by omega)
theorem isNaN_d (a:Int):FnP Tryz.prog gl 69 [iD a] (.v (.bool false)):=by
 refine S0 Tryz.func69 rfl ?_
 ((repeat' ((conv=>whnf);(first|refine Fork.yes (by assumption) ?_|refine Fork.no (by assumption) ?_|refine Fork.nono (by assumption) ?_|(refine Fork.yes ?_ ?_;focus (simp[andPD];done))|(refine Fork.no ?_ ?_;focus (simp[andPD];done))|refine Fork.neg (fun _=>?_) (fun _=>?_)|refine Fork.mk (fun _=>?_) (fun _=>?_))));(all_goals (conv=>whnf)))
 exact ⟨fun M w x hx=>by rw[DenD.b_inv hx,decide_eq_false (by simp)];exact .v _⟩
def cmpZ (a b:Int):Int:=if a<b then -1 else if b<a then 1 else 0
theorem cmpInt_d (a b:Int):FnP Tryz.prog gl 42 [iD a,iD b] (iD (cmpZ a b)):=by
 refine S0 Tryz.func42 rfl ?_
 ((repeat' ((conv=>whnf);first|(first|refine Fork.yes (by assumption) ?_|refine Fork.no (by assumption) ?_|refine Fork.nono (by assumption) ?_|(refine Fork.yes ?_ ?_;focus (simp[andPD];done))|(refine Fork.no ?_ ?_;focus (simp;done))|refine Fork.neg (fun _=>?_) (fun _=>?_)|refine Fork.mk (fun _=>?_) (fun _=>?_))|refine Or.inl (Or.inl (Exists.intro _ (And.intro (by first|exact isNaN_d _) ?_)))|refine Exists.intro _ (And.intro (by first|exact isNaN_d _) ?_)));(all_goals (conv=>whnf)))
 all_goals (refine LeD.of (congrArg iD ?_);unfold cmpZ;split <;> (try split) <;> omega)
theorem Ahead_d (c r c' r':Int):FnP Tryz.prog gl 17 [cellD c r,cellD c' r'] (.b (r<r'∨r=r'∧c<c') inferInstance):=by
 refine S0 Tryz.func17 rfl ?_
 ((repeat' ((conv=>whnf);(first|refine Fork.yes (by assumption) ?_|refine Fork.no (by assumption) ?_|refine Fork.nono (by assumption) ?_|(refine Fork.yes ?_ ?_;focus (simp[andPD];done))|(refine Fork.no ?_ ?_;focus (simp;done))|refine Fork.neg (fun _=>?_) (fun _=>?_)|refine Fork.mk (fun _=>?_) (fun _=>?_))));(all_goals (conv=>whnf)))
 all_goals first|exact LeD.bt (by omega)|exact LeD.bf (by omega)|exact LeD.b (by omega)
theorem boxD_eq {a b c d a' b' c' d':Int} (h1:a=a') (h2:b=b') (h3:c=c') (h4:d=d'):boxD a b c d=boxD a' b' c' d':=by rw[h1,h2,h3,h4]
theorem Corners_d (c r c' r':Int):FnP Tryz.prog gl 58 [cellD c r,cellD c' r'] (boxD (min c c') (min r r') (max c c') (max r r')):=by
 refine S0 Tryz.func58 rfl ?_
 ((repeat' ((conv=>whnf);(first|refine Fork.yes (by assumption) ?_|refine Fork.no (by assumption) ?_|refine Fork.nono (by assumption) ?_|(refine Fork.yes ?_ ?_;focus (simp[andPD];done))|(refine Fork.no ?_ ?_;focus (simp;done))|refine Fork.neg (fun _=>?_) (fun _=>?_)|refine Fork.mk (fun _=>?_) (fun _=>?_))));(all_goals (conv=>whnf)))
 all_goals exact LeD.of (boxD_eq (by omega) (by omega) (by omega) (by omega))
def boxR (c r c' r':Int):D:=if okP c r∧okP c' r' then .tup [boxD (min c c') (min r r') (max c c') (max r r'),errD 0] else .tup [boxD 0 0 0 0,errD 1]
theorem Box_d (c r c' r':Int):FnP Tryz.prog gl 60 [cellD c r,cellD c' r'] (boxR c r c' r'):=by
 refine S0 Tryz.func60 rfl ?_
 ((repeat' ((conv=>whnf);first|(first|refine Fork.yes (by assumption) ?_|refine Fork.no (by assumption) ?_|refine Fork.nono (by assumption) ?_|(refine Fork.yes ?_ ?_;focus (simp;done))|(refine Fork.no ?_ ?_;focus (simp;done))|refine Fork.neg (fun _=>?_) (fun _=>?_)|refine Fork.mk (fun _=>?_) (fun _=>?_))|refine Or.inl (Or.inl (Exists.intro _ (And.intro (by first|exact ok_d _ _) ?_)))|refine Exists.intro _ (And.intro (by first|exact ok_d _ _) ?_)));(all_goals (conv=>whnf)))
 all_goals unfold boxR
 all_goals first
  | exact LeD.ite_neg (by omega) LeD.rfl
  | exact LeD.ite_pos (by omega) (LeD.of (congrArg (fun z=>D.tup [z,errD 0]) (boxD_eq (by split <;> omega) (by split <;> omega) (by split <;> omega) (by split <;> omega))))
def shiftP (c r:Int) (fc fr:Bool) (dc dr:Int):Prop:=okP c r∧(fc=true∨¬ farP dc)∧(fr=true∨¬ farP dr)∧okP (if fc=true then c else c+dc) (if fr=true then r else r+dr)
instance (c r:Int) (fc fr:Bool) (dc dr:Int):Decidable (shiftP c r fc fr dc dr):=by unfold shiftP;infer_instance
theorem wrapI {n:Int} (h:-9223372036854775808≤n∧n≤9223372036854775807):IntKind.i64.wrap n=n:=IntWalk.i64_in _ h
theorem tD_le (b:Bool):LeD (.v (.bool b)) (tD b):=⟨fun M w x hx=>by
 rw[DenD.v_inv hx];have:=DenD.b (M:=M) (w:=w) (b=true) inferInstance;cases b <;> simpa using this⟩
theorem noneR_le:LeD (retD [D.agg [iD 0,iD 0,.v (.bool false),.v (.bool false)],.v (.bool false)]) (.tup [refD 0 0 false false,tD false]) :=
 LeD.tup ⟨LeD.agg ⟨LeD.rfl,LeD.rfl,tD_le _,tD_le _,trivial⟩,tD_le _,trivial⟩
end
section
open Go Go.ChangeShapes Go.WideShapes Go.ChangeAt Go.RowKit Go.EYtfcmhmglpcimiaaGreatDoor
set_option linter.unusedVariables false
set_option maxRecDepth 100000
theorem Door.own:ownKnob Tryz.prog.godebug=none:=by kernel_rfl
theorem Door.out:laidOutB Tryz.prog=true:=by kernel_rfl
theorem Door.size:Tryz.prog.types.size=308:=by kernel_rfl
theorem FnP.calls {P:Program} {gl:List (Nat×List D)} {g:Nat} {ds:List D} {r:Value} {xs:List Value} {w:World} (h:FnP P gl g ds (.v r)) (hb:HasBody P g) (hg:Glob gl (fun _=>False) w) (hd:DenL (fun _=>False) w ds xs) :
 Calls P g xs.toArray w fun e w'=>e=.returned r∧Below w.heap.size w w':=by
 rcases h w (fun _=>False) xs (fun _ h=>h.elim) hg hd with ⟨_,h1⟩|⟨v,w',h1,h2⟩
 ·refine h1.mono fun e w' ⟨h2,x,h3,h4⟩=>?_
  rw[DenD.v_inv h4] at h3
  exact ⟨h3,h2.below⟩
 ·rw[hb.enters] at h1;cases h1
theorem trodAll_below {H:Type} {enc:TypeId×Value→H} {P:Program} (hl:laidOutB P=true) {W W':World} {sp:Nat→Bool} (hb:Below W.heap.size W W'):∀ {ts:List TypeId} {vs:List Value} {ds:List (DataW H)} {ps:List MemPlace},
 (∀ t ∈ ts,P.readableRec t=true∧t<P.types.size)→DataW.TrodAll enc P W 0 (fun _=>true) true ts vs ds ps→(∀ x ∈ ps,x.block<W.heap.size)→(∀ x ∈ ps,sp x.block=true)→DataW.TrodAll enc P W' 0 sp true ts vs ds ps
 | [],_,_,_,_,h,_,_=>by
  obtain ⟨rfl,rfl,rfl⟩:=trodAll_nil h
  exact trodAll_mk0
 | t::ts,_,_,_,hr,h,hlt,hs=>by
  obtain ⟨v,vs,d,ds,p,q,rfl,rfl,rfl,h1,h2⟩:=trodAll_cons h
  exact trodAll_cons_mk (WideElems.Trod_stays hl (hr t (List.mem_cons_self ..)).1 (hr t (List.mem_cons_self ..)).2 h1 (fun x hx=>hb.same (hlt x (List.mem_append_left _ hx))) (fun x hx=>hs x (List.mem_append_left _ hx)))
   (trodAll_below hl hb (fun t ht=>hr t (List.mem_cons_of_mem _ ht)) h2 (fun x hx=>hlt x (List.mem_append_right _ hx)) (fun x hx=>hs x (List.mem_append_right _ hx)))
end
section
open Go Go.EYtfcmhmglpcimiaaGreatDoor
set_option maxRecDepth 100000
variable {gl:List (Nat×List D)}
def orL:List Int→Int
 | []=>0
 | x::r=>if x=0 then orL r else x
theorem get_map {α β:Type} {f:α→β} {l:List α} {k:Nat} (h:k<l.length):(l.map f)[((k:Nat):Int).toNat]?=some (f l[k]):=by
 simp[h]
theorem orL_drop {l:List Int} {k:Nat} (h:k<l.length):orL (l.drop k)=if l[k]=0 then orL (l.drop (k+1)) else l[k]:=by
 rw[List.drop_eq_getElem_cons h];rfl
theorem Or_d (l:List Int) (hl:l.length≤1000):FnP Tryz.prog gl 41 [.lst 1 (l.map fun x=>[iD x])] (iD (orL l)):=by
 refine S0 Tryz.func41 rfl ?_
 ((repeat' ((conv=>whnf);(first|refine Fork.yes (by assumption) ?_|refine Fork.no (by assumption) ?_|refine Fork.nono (by assumption) ?_|(refine Fork.yes ?_ ?_;focus (simp[andPD];done))|(refine Fork.no ?_ ?_;focus (simp[andPD];done))|refine Fork.neg (fun _=>?_) (fun _=>?_)|refine Fork.mk (fun _=>?_) (fun _=>?_))));(all_goals (conv=>whnf)))
 refine ⟨{ σ:=Nat,fr:=fun k=>[(8,.c (.d (iD k)))],ks:=[],L:=fun _=>[],ex:=0,I:=fun k=>k≤l.length∧orL l=orL (l.drop k),μ:=fun k=>l.length - k },⟨0,⟨Nat.zero_le _,rfl⟩,?_⟩,fun (k:Nat) hk=>?_⟩
 ·((repeat' first|exact rfl|((conv=>whnf);first|done|exact suL|refine And.intro ?_ ?_|fail));all_goals conv=>whnf)
 ·obtain ⟨hk1,hk2⟩:=hk
  ((repeat' ((conv=>whnf);(first|refine Fork.yes (by assumption) ?_|refine Fork.no (by assumption) ?_|refine Fork.nono (by assumption) ?_|(refine Fork.yes ?_ ?_;focus (simp;done))|(refine Fork.no ?_ ?_;focus (simp;done))|refine Fork.neg (fun _=>?_) (fun _=>?_)|refine Fork.mk (fun _=>?_) (fun _=>?_))));(all_goals (conv=>whnf)))
  ·rename_i h
   have hlt:k<l.length:=by simpa using h
   have hd:=orL_drop hlt
   refine ⟨Int.natCast_nonneg _,_,get_map hlt,?_⟩
   ((repeat' ((conv=>whnf);(first|refine Fork.yes (by assumption) ?_|refine Fork.no (by assumption) ?_|refine Fork.nono (by assumption) ?_|(refine Fork.yes ?_ ?_;focus (simp[andPD];done))|(refine Fork.no ?_ ?_;focus (simp;done))|refine Fork.neg (fun _=>?_) (fun _=>?_)|refine Fork.mk (fun _=>?_) (fun _=>?_))));(all_goals (conv=>whnf)))
   ·rename_i h0
    exact LeD.of (congrArg iD (by rw[hk2,hd,if_neg h0]))
   ·rename_i h0
    refine ⟨k+1,⟨⟨hlt,by rw[hk2,hd,if_pos h0]⟩,by show l.length - (k+1)<l.length - k;omega⟩,?_⟩
    ((repeat' first|exact rfl|((conv=>whnf);first|done|exact suL|refine And.intro ?_ ?_|fail));all_goals conv=>whnf)
    exact Or.inr (Or.inl (congrArg (fun z=>C.d (iD z)) (wrapI (n:=(k:Int)+1) (by omega))))
  ·rename_i h
   refine LeD.of (congrArg iD ?_)
   rw[hk2,List.drop_of_length_le (by simpa using h)];rfl
def orZ (a b:Int):Int:=if a=0 then b else a
theorem orZ_eq (a b:Int):orL [a,b]=orZ a b:=by by_cases h:a=0 <;> by_cases h2:b=0 <;> simp[orL,orZ,h,h2]
theorem Compare_d (c r c' r':Int):FnP Tryz.prog gl 30 [cellD c r,cellD c' r'] (iD (orZ (cmpZ r r') (cmpZ c c'))):=by
 rw[← orZ_eq]
 refine S0 Tryz.func30 rfl ?_
 ((repeat' ((conv=>whnf);(first|refine Fork.yes (by assumption) ?_|refine Fork.no (by assumption) ?_|refine Fork.nono (by assumption) ?_|(refine Fork.yes ?_ ?_;focus (simp[andPD];done))|(refine Fork.no ?_ ?_;focus (simp[andPD];done))|refine Fork.neg (fun _=>?_) (fun _=>?_)|refine Fork.mk (fun _=>?_) (fun _=>?_))));(all_goals (conv=>whnf)))
 refine ⟨by kernel_rfl,?_⟩
 ((repeat' ((conv=>whnf);first|(first|refine Fork.yes (by assumption) ?_|refine Fork.no (by assumption) ?_|refine Fork.nono (by assumption) ?_|(refine Fork.yes ?_ ?_;focus (simp[andPD];done))|(refine Fork.no ?_ ?_;focus (simp[andPD];done))|refine Fork.neg (fun _=>?_) (fun _=>?_)|refine Fork.mk (fun _=>?_) (fun _=>?_))|refine Or.inl (Or.inl (Exists.intro _ (And.intro (by first|exact cmpInt_d _ _|exact Or_d [_,_] (by simp)) ?_)))|refine Exists.intro _ (And.intro (by first|exact cmpInt_d _ _|exact Or_d [_,_] (by simp)) ?_)));(all_goals (conv=>whnf)))
 exact LeD.rfl
theorem Less_d (c r c' r':Int):FnP Tryz.prog gl 20 [cellD c r,cellD c' r'] (.b (r<r'∨r=r'∧c<c') inferInstance):=by
 refine S0 Tryz.func20 rfl ?_
 ((repeat' ((conv=>whnf);first|(first|refine Fork.yes (by assumption) ?_|refine Fork.no (by assumption) ?_|refine Fork.nono (by assumption) ?_|(refine Fork.yes ?_ ?_;focus (simp[andPD];done))|(refine Fork.no ?_ ?_;focus (simp[andPD];done))|refine Fork.neg (fun _=>?_) (fun _=>?_)|refine Fork.mk (fun _=>?_) (fun _=>?_))|refine Or.inl (Or.inl (Exists.intro _ (And.intro (by first|exact Compare_d _ _ _ _) ?_)))|refine Exists.intro _ (And.intro (by first|exact Compare_d _ _ _ _) ?_)));(all_goals (conv=>whnf)))
 refine LeD.b ?_
 unfold orZ cmpZ
 by_cases a1:r<r' <;> by_cases a2:r'<r <;> by_cases a3:c<c' <;> by_cases a4:c'<c <;> simp[a1,a2,a3,a4] <;> omega
end
section
open Go Go.EYtfcmhmglpcimiaaGreatDoor
set_option maxRecDepth 100000
variable {gl:List (Nat×List D)}
def cellRow (c r:Int):List D:=[iD c,iD r]
def partL (c0 r:Int) (j:Nat):List (List D):=(List.range j).map fun (i:Nat)=>cellRow (c0+i) r
def rowsL (c0 r0:Int) (n k:Nat):List (List D):=(List.range k).flatMap fun (i:Nat)=>partL c0 (r0+i) n
theorem partL_succ (c0 r:Int) (j:Nat):partL c0 r (j+1)=partL c0 r j++[cellRow (c0+j) r]:=by simp[partL,List.range_succ]
theorem rowsL_succ (c0 r0:Int) (n k:Nat):rowsL c0 r0 n (k+1)=rowsL c0 r0 n k++partL c0 (r0+k) n:=by simp[rowsL,List.range_succ]
theorem partL_len (c0 r:Int) (j:Nat):(partL c0 r j).length=j:=by simp[partL]
theorem rowsL_len (c0 r0:Int) (n k:Nat):(rowsL c0 r0 n k).length=k * n:=by
 induction k with
 | zero=>simp[rowsL]
 | succ k ih=>rw[rowsL_succ,List.length_append,ih,partL_len,Nat.add_mul,Nat.one_mul]
def cellsD (a b c d:Int):D:=.lst 2 (rowsL a b (c - a+1).toNat (d - b+1).toNat)
theorem ceq {x y:Int} (h:x=y) {P:Prop}:C.d (iD y)=C.junk∨C.d (iD x)=C.d (iD y)∨P:=.inr (.inl (congrArg (fun z=>C.d (iD z)) h))
theorem refCells_d (a b c d:Int) (h:boxP a b c d):FnP Tryz.prog gl 57 [boxD a b c d] (cellsD a b c d):=by
 obtain ⟨⟨h1,h2,h3,h4⟩,⟨h5,h6,h7,h8⟩,h9,h10⟩:=h
 obtain ⟨n,hn⟩:∃ n,(c - a+1).toNat=n:=⟨_,rfl⟩
 obtain ⟨m,hm⟩:∃ m,(d - b+1).toNat=m:=⟨_,rfl⟩
 unfold cellsD
 rw[hn,hm]
 refine S0 Tryz.func57 rfl ?_
 ((repeat' ((conv=>whnf);(first|refine Fork.yes (by assumption) ?_|refine Fork.no (by assumption) ?_|refine Fork.nono (by assumption) ?_|(refine Fork.yes ?_ ?_;focus (simp[andPD];done))|(refine Fork.no ?_ ?_;focus (simp[andPD];done))|refine Fork.neg (fun _=>?_) (fun _=>?_)|refine Fork.mk (fun _=>?_) (fun _=>?_))));(all_goals (conv=>whnf)))
 refine ⟨{ σ:=Nat,fr:=fun k=>[(3,.c (.all 2 1)),(4,.c (.d (iD (b+(k:Int)))))],ks:=[1],L:=fun k=>[(1,.rows 2 (rowsL a b n k) 39)],ex:=1,I:=fun k=>k≤m,μ:=fun k=>m - k },⟨0,Nat.zero_le _,?_⟩,fun (k:Nat) hk=>?_⟩
 ·((repeat' first|exact rfl|((conv=>whnf);first|done|exact suL|refine And.intro ?_ ?_|fail));all_goals conv=>whnf)
  ·exact ceq (by simp)
  ·exact ⟨_,_,rfl,by omega,by omega⟩
 ·replace hk:k≤m:=hk
  have hkn:k * n≤99 * 26:=Nat.mul_le_mul (by omega) (by omega)
  ((repeat' ((conv=>whnf);(first|refine Fork.yes (by assumption) ?_|refine Fork.no (by assumption) ?_|refine Fork.nono (by assumption) ?_|(refine Fork.yes ?_ ?_;focus (simp[andPD];done))|(refine Fork.no ?_ ?_;focus (simp;done))|refine Fork.neg (fun _=>?_) (fun _=>?_)|refine Fork.mk (fun _=>?_) (fun _=>?_))));(all_goals (conv=>whnf)))
  ·have hlt:k<m:=by omega
   refine ⟨{ σ:=Nat,fr:=fun j=>[(3,.c (.all 2 1)),(5,.c (.d (iD (a+(j:Int)))))],ks:=[1],L:=fun j=>[(1,.rows 2 (rowsL a b n k++partL a (b+k) j) 39)],ex:=0,I:=fun j=>j≤n,μ:=fun j=>n - j },⟨0,Nat.zero_le _,?_⟩,fun (j:Nat) hj=>?_⟩
   ·((repeat' first|exact rfl|((conv=>whnf);first|done|exact suL|refine And.intro ?_ ?_|fail));all_goals conv=>whnf)
    ·exact ceq (by simp)
    ·simp[partL]
   ·replace hj:j≤n:=hj
    ((repeat' ((conv=>whnf);(first|refine Fork.yes (by assumption) ?_|refine Fork.no (by assumption) ?_|refine Fork.nono (by assumption) ?_|(refine Fork.yes ?_ ?_;focus (simp[andPD];done))|(refine Fork.no ?_ ?_;focus (simp;done))|refine Fork.neg (fun _=>?_) (fun _=>?_)|refine Fork.mk (fun _=>?_) (fun _=>?_))));(all_goals (conv=>whnf)))
    ·have hjl:j<n:=by omega
     refine ⟨⟨rfl,?_,?_⟩,?_⟩
     ·rw[List.length_append,rowsL_len,partL_len];show (k * n+j+1) * 16≤_;omega
     ·rw[List.length_append,rowsL_len,partL_len];show k * n+j+1≤_;unfold maxLen;omega
     ·((repeat' ((conv=>whnf);(first|refine Fork.yes (by assumption) ?_|refine Fork.no (by assumption) ?_|refine Fork.nono (by assumption) ?_|(refine Fork.yes ?_ ?_;focus (simp[andPD];done))|(refine Fork.no ?_ ?_;focus (simp[andPD];done))|refine Fork.neg (fun _=>?_) (fun _=>?_)|refine Fork.mk (fun _=>?_) (fun _=>?_))));(all_goals (conv=>whnf)))
      refine ⟨j+1,⟨hjl,by show n - (j+1)<n - j;omega⟩,?_⟩
      ((repeat' first|exact rfl|((conv=>whnf);first|done|exact suL|refine And.intro ?_ ?_|fail));all_goals conv=>whnf)
      ·exact ceq (show IntKind.i64.wrap (a+(j:Int)+1)=a+((j+1:Nat):Int) by rw[wrapI (by omega)];omega)
      ·rw[partL_succ,List.append_assoc];rfl
    ·have hjn:j=n:=by omega
     subst hjn
     refine ⟨k+1,⟨hlt,by show m - (k+1)<m - k;omega⟩,?_⟩
     ((repeat' first|exact rfl|((conv=>whnf);first|done|exact suL|refine And.intro ?_ ?_|fail));all_goals conv=>whnf)
     ·exact ceq (show IntKind.i64.wrap (b+(k:Int)+1)=b+((k+1:Nat):Int) by rw[wrapI (by omega)];omega)
     ·rw[rowsL_succ]
  ·have hkm:k=m:=by omega
   subst hkm
   exact LeD.rfl
theorem Cells_d (a b c d:Int):FnP Tryz.prog gl 61 [boxD a b c d] (if boxP a b c d then .tup [cellsD a b c d,errD 0] else .tup [.lst 2 [],errD 1]):=by
 by_cases h:boxP a b c d
 ·rw[if_pos h]
  have hb:=h
  obtain ⟨⟨h1,h2,h3,h4⟩,⟨h5,h6,h7,h8⟩,h9,h10⟩:=h
  obtain ⟨n,hn⟩:∃ n,(c - a+1).toNat=n:=⟨_,rfl⟩
  obtain ⟨m,hm⟩:∃ m,(d - b+1).toNat=m:=⟨_,rfl⟩
  unfold cellsD
  rw[hn,hm]
  refine S0 Tryz.func61 rfl ?_
  ((repeat' ((conv=>whnf);first|(first|refine Fork.yes (by assumption) ?_|refine Fork.no (by assumption) ?_|refine Fork.nono (by assumption) ?_|(refine Fork.yes ?_ ?_;focus (simp[andPD];done))|(refine Fork.no ?_ ?_;focus (simp[andPD];done))|refine Fork.neg (fun _=>?_) (fun _=>?_)|refine Fork.mk (fun _=>?_) (fun _=>?_))|refine Or.inl (Or.inl (Exists.intro _ (And.intro (by first|exact Boxed_d _ _ _ _) ?_)))|refine Exists.intro _ (And.intro (by first|exact Boxed_d _ _ _ _) ?_)));(all_goals (conv=>whnf)))
  refine ⟨{ σ:=Nat,fr:=fun k=>[(4,.c (.all 2 1)),(5,.c (.d (iD (b+(k:Int)))))],ks:=[1],L:=fun k=>[(1,.rows 2 (rowsL a b n k) 39)],ex:=1,I:=fun k=>k≤m,μ:=fun k=>m - k },⟨0,Nat.zero_le _,?_⟩,fun (k:Nat) hk=>?_⟩
  ·((repeat' first|exact rfl|((conv=>whnf);first|done|exact suL|refine And.intro ?_ ?_|fail));all_goals conv=>whnf)
   ·exact ceq (by simp)
   ·exact ⟨_,_,rfl,by omega,by omega⟩
  ·replace hk:k≤m:=hk
   have hkn:k * n≤99 * 26:=Nat.mul_le_mul (by omega) (by omega)
   ((repeat' ((conv=>whnf);(first|refine Fork.yes (by assumption) ?_|refine Fork.no (by assumption) ?_|refine Fork.nono (by assumption) ?_|(refine Fork.yes ?_ ?_;focus (simp[andPD];done))|(refine Fork.no ?_ ?_;focus (simp;done))|refine Fork.neg (fun _=>?_) (fun _=>?_)|refine Fork.mk (fun _=>?_) (fun _=>?_))));(all_goals (conv=>whnf)))
   ·have hlt:k<m:=by omega
    refine ⟨{ σ:=Nat,fr:=fun j=>[(4,.c (.all 2 1)),(6,.c (.d (iD (a+(j:Int)))))],ks:=[1],L:=fun j=>[(1,.rows 2 (rowsL a b n k++partL a (b+k) j) 39)],ex:=0,I:=fun j=>j≤n,μ:=fun j=>n - j },⟨0,Nat.zero_le _,?_⟩,fun (j:Nat) hj=>?_⟩
    ·((repeat' first|exact rfl|((conv=>whnf);first|done|exact suL|refine And.intro ?_ ?_|fail));all_goals conv=>whnf)
     ·exact ceq (by simp)
     ·simp[partL]
    ·replace hj:j≤n:=hj
     ((repeat' ((conv=>whnf);(first|refine Fork.yes (by assumption) ?_|refine Fork.no (by assumption) ?_|refine Fork.nono (by assumption) ?_|(refine Fork.yes ?_ ?_;focus (simp[andPD];done))|(refine Fork.no ?_ ?_;focus (simp;done))|refine Fork.neg (fun _=>?_) (fun _=>?_)|refine Fork.mk (fun _=>?_) (fun _=>?_))));(all_goals (conv=>whnf)))
     ·have hjl:j<n:=by omega
      refine ⟨⟨rfl,?_,?_⟩,?_⟩
      ·rw[List.length_append,rowsL_len,partL_len];show (k * n+j+1) * 16≤_;omega
      ·rw[List.length_append,rowsL_len,partL_len];show k * n+j+1≤_;unfold maxLen;omega
      ·((repeat' ((conv=>whnf);(first|refine Fork.yes (by assumption) ?_|refine Fork.no (by assumption) ?_|refine Fork.nono (by assumption) ?_|(refine Fork.yes ?_ ?_;focus (simp[andPD];done))|(refine Fork.no ?_ ?_;focus (simp[andPD];done))|refine Fork.neg (fun _=>?_) (fun _=>?_)|refine Fork.mk (fun _=>?_) (fun _=>?_))));(all_goals (conv=>whnf)))
       refine ⟨j+1,⟨hjl,by show n - (j+1)<n - j;omega⟩,?_⟩
       ((repeat' first|exact rfl|((conv=>whnf);first|done|exact suL|refine And.intro ?_ ?_|fail));all_goals conv=>whnf)
       ·exact ceq (show IntKind.i64.wrap (a+(j:Int)+1)=a+((j+1:Nat):Int) by rw[wrapI (by omega)];omega)
       ·rw[partL_succ,List.append_assoc];rfl
     ·have hjn:j=n:=by omega
      subst hjn
      refine ⟨k+1,⟨hlt,by show m - (k+1)<m - k;omega⟩,?_⟩
      ((repeat' first|exact rfl|((conv=>whnf);first|done|exact suL|refine And.intro ?_ ?_|fail));all_goals conv=>whnf)
      ·exact ceq (show IntKind.i64.wrap (b+(k:Int)+1)=b+((k+1:Nat):Int) by rw[wrapI (by omega)];omega)
      ·rw[rowsL_succ]
   ·have hkm:k=m:=by omega
    subst hkm
    exact LeD.rfl
 ·rw[if_neg h]
  refine S0 Tryz.func61 rfl ?_
  ((repeat' ((conv=>whnf);first|(first|refine Fork.yes (by assumption) ?_|refine Fork.no (by assumption) ?_|refine Fork.nono (by assumption) ?_|(refine Fork.yes ?_ ?_;focus (simp[andPD];done))|(refine Fork.no ?_ ?_;focus (simp[andPD];done))|refine Fork.neg (fun _=>?_) (fun _=>?_)|refine Fork.mk (fun _=>?_) (fun _=>?_))|refine Or.inl (Or.inl (Exists.intro _ (And.intro (by first|exact Boxed_d _ _ _ _) ?_)))|refine Exists.intro _ (And.intro (by first|exact Boxed_d _ _ _ _) ?_)));(all_goals (conv=>whnf)))
  refine LeD.tup ⟨⟨fun M w x hx=>?_⟩,LeD.rfl,trivial⟩
  rw[DenD.v_inv hx];exact .lst0 _ _ _ (by simp[maxLen])
end
section
open Go.RowKit
theorem Ext.alloc {a w:World} (h:Below a.heap.size a w) (o:Obj):Below a.heap.size a (w.alloc o):=h.alloc h.size o
theorem Ext.trans {a b c:World} (h:Below a.heap.size a b) (k:Below b.heap.size b c):Below a.heap.size a c:=h.trans (k.mono h.size)
end
section
open Go.RowKit Go.Extern.Stop Go.Stop Go.Extern
def ErrT (w:World):Prop:=w.cell? ⟨0,0,none⟩=some (.iface 148 (.agg #[.pointer (some ⟨11,25,none⟩)]))
namespace EA
theorem valueOfP (t:Addr) (w:World):(ReflectliteValue.unpack (.iface 87 (.pointer (some t)))).run Tryz.prog w
 = .ok (.agg #[.pointer (some ⟨11,87,none⟩),.pointer (some ⟨w.heap.size,0,none⟩),.int .u64 150]) (w.alloc (.cells #[.pointer (some t)] 87)):=by kernel_rfl
theorem typeP (a:Addr) (w:World):(ReflectliteValue.methodAny (ReflectliteValue.valueError "reflectlite.Value.Type" 0) (fun t _ _ _=>ReflectliteType.toType t) #[.agg #[.pointer (some ⟨11,87,none⟩),.pointer (some a),.int .u64 150]]).run Tryz.prog w
 = .ok (.iface 148 (.agg #[.pointer (some ⟨11,87,none⟩)])) w:=by kernel_rfl
theorem kindP (w:World):((ReflectliteType.abiMethod fun t=>(fun a:Nat=>Value.int IntKind.u8 (a:Int)) <$> Rtype.kind t) #[.pointer (some ⟨11,87,none⟩)]).run Tryz.prog w=.ok (.int .u8 22) w:=by kernel_rfl
theorem kindE (w:World):((ReflectliteType.abiMethod fun t=>(fun a:Nat=>Value.int IntKind.u8 (a:Int)) <$> Rtype.kind t) #[.pointer (some ⟨11,57,none⟩)]).run Tryz.prog w=.ok (.int .u8 2) w:=by kernel_rfl
theorem rlm (z:Sem Value) (f:TypeId→Addr→Nat→Nat→Sem Value) (v:Value) :
 ReflectliteValue.method z f #[v]=(do match ← ReflectliteValue.parts v with|none=>z|some (t,a,fl)=>f t a fl (fl % 32)):=rfl
theorem partsP (a:Addr) (w:World):(ReflectliteValue.parts (.agg #[.pointer (some ⟨11,87,none⟩),.pointer (some a),.int .u64 150])).run Tryz.prog w=.ok (some (87,a,150)) w:=by kernel_rfl
theorem isNilP (a p:Addr) (W:World) (ha:W.cell? a=some (.pointer (some p))) :
 (ReflectliteValue.method (ReflectliteValue.valueError "reflectlite.Value.IsNil" 0) ReflectliteValue.isNil #[.agg #[.pointer (some ⟨11,87,none⟩),.pointer (some a),.int .u64 150]]).run Tryz.prog W=.ok (.bool false) W:=by
 rw[rlm]
 simp only[Sem.run_bind,partsP,Result.andThen]
 simp[ReflectliteValue.isNil,loadVar,isAgg,underlying,Tryz.underlying87,ha,Result.andThen]
theorem elemP (w:World):(ReflectliteType.method ReflectliteType.elem #[.agg #[.pointer (some ⟨11,87,none⟩)]]).run Tryz.prog w=.ok (.iface 148 (.agg #[.pointer (some ⟨11,57,none⟩)])) w:=by kernel_rfl
theorem implementsE (w:World):(ReflectliteType.relation "Implements" ReflectliteType.implements_ #[.agg #[.pointer (some ⟨11,57,none⟩)],.iface 148 (.agg #[.pointer (some ⟨11,25,none⟩)])]).run Tryz.prog w=.ok (.bool true) w:=by kernel_rfl
theorem typeOfE (v:Value) (w:World):(ReflectliteType.typeOf #[.iface 57 v]).run Tryz.prog w=.ok (.iface 148 (.agg #[.pointer (some ⟨11,57,none⟩)])) w:=by kernel_rfl
theorem assignableE (w:World):(ReflectliteType.relation "AssignableTo" ReflectliteType.assignableTo #[.agg #[.pointer (some ⟨11,57,none⟩)],.iface 148 (.agg #[.pointer (some ⟨11,57,none⟩)])]).run Tryz.prog w=.ok (.bool true) w:=by kernel_rfl
theorem valueOfE (n:Int) (w:World):(ReflectliteValue.unpack (.iface 57 (.int .i64 n))).run Tryz.prog w
 = .ok (.agg #[.pointer (some ⟨11,57,none⟩),.pointer (some ⟨w.heap.size,0,none⟩),.int .u64 130]) (w.alloc (.cells #[.int .i64 n] 57)):=by kernel_rfl
theorem elemOfP (w:World):(Rtype.elem? 87).run Tryz.prog w=.ok (some 57) w:=by kernel_rfl
theorem mkE (p:Addr) (w:World):(ReflectliteValue.mk 57 p ReflectliteValue.flagAddr).run Tryz.prog w=.ok (.agg #[.pointer (some ⟨11,57,none⟩),.pointer (some p),.int .u64 386]) w:=by kernel_rfl
theorem elemVP (a p:Addr) (W:World) (ha:W.cell? a=some (.pointer (some p))) :
 (ReflectliteValue.method (ReflectliteValue.valueError "reflectlite.Value.Elem" 0) ReflectliteValue.elem #[.agg #[.pointer (some ⟨11,87,none⟩),.pointer (some a),.int .u64 150]]).run Tryz.prog W
  = .ok (.agg #[.pointer (some ⟨11,57,none⟩),.pointer (some p),.int .u64 386]) W:=by
 rw[rlm]
 simp only[Sem.run_bind,partsP,Result.andThen]
 simp[ReflectliteValue.elem,loadVar,isAgg,underlying,Tryz.underlying87,ha,Result.andThen,elemOfP,mkE]
theorem rls (v x:Value):ReflectliteValue.set #[v,x]=(do
 let (some (dst,a,fl),some (src,b,_)):=(← ReflectliteValue.parts v,← ReflectliteValue.parts x)
  | unsupported (.noEntry "extern/(internal/reflectlite.Value).Set.zeroValue")
 if fl / ReflectliteValue.flagAddr % 2==0 then unsupported (.noEntry "extern/(internal/reflectlite.Value).Set.unaddressable")
 let val ← loadVar src b
 if ← Rtype.directlyAssignable dst src then storeVar dst a val
 else if ← Rtype.implements dst src then
  if (← Rtype.kind src)==20 then
   match val with
   | .nilIface=>unsupported (.noEntry "extern/reflectlite: a nil value of one interface type handed on as a value of another")
   | _=>storeVar dst a val
  else storeVar dst a (.iface src val)
 else panicString ("reflectlite.Set: value of type "++(← Rtype.spelt src)++" is not assignable to type "++(← Rtype.spelt dst))
 pure (.tuple #[])):=rfl
theorem partsEa (a:Addr) (w:World):(ReflectliteValue.parts (.agg #[.pointer (some ⟨11,57,none⟩),.pointer (some a),.int .u64 386])).run Tryz.prog w=.ok (some (57,a,386)) w:=by kernel_rfl
theorem partsE (a:Addr) (w:World):(ReflectliteValue.parts (.agg #[.pointer (some ⟨11,57,none⟩),.pointer (some a),.int .u64 130])).run Tryz.prog w=.ok (some (57,a,130)) w:=by kernel_rfl
theorem directE (w:World):(Rtype.directlyAssignable 57 57).run Tryz.prog w=.ok true w:=by kernel_rfl
theorem setE (ta b:Addr) (n:Int) (old:Value) (W:World) (hb:W.cell? b=some (.int .i64 n)) (ht:W.cell? ta=some old) (hf:W.frozen? ta=false) :
 (ReflectliteValue.set #[.agg #[.pointer (some ⟨11,57,none⟩),.pointer (some ta),.int .u64 386],.agg #[.pointer (some ⟨11,57,none⟩),.pointer (some b),.int .u64 130]]).run Tryz.prog W
  = .ok (.tuple #[]) (W.setCell ta (.int .i64 n)):=by
 rw[rls]
 simp only[Sem.run_bind,partsEa,partsE,Result.andThen]
 simp[ReflectliteValue.flagAddr,loadVar,isAgg,underlying,Tryz.underlying57,hb,Result.andThen,directE,storeVar,Value.cells,storeCells,Addr.add]
 rw[run_store Tryz.prog W ta _ _ (by rfl)]
 simp[ht,hf]
end EA
open EA
set_option maxHeartbeats 4000000 in
theorem as_hit (n:Int) (t:Addr) (old:Value) (w:World) (hg:ErrT w) (ht0:w.cell? t=some old) (hf0:w.frozen? t=false) :
 Calls Tryz.prog 33 #[.iface 57 (.int .i64 n),.iface 87 (.pointer (some t))] w fun ev w'=>ev=.returned (.bool true)∧w'=((((w.alloc (.cells #[.pointer (some t)] 87)).alloc (.cells #[.pointer (some ⟨11,87,none⟩),.pointer (some ⟨w.heap.size,0,none⟩),.int .u64 150] 111)).alloc (.cells #[.pointer (some ⟨11,87,none⟩),.pointer (some ⟨w.heap.size,0,none⟩),.int .u64 150] 111)).alloc (.cells #[.int .i64 n] 57)).setCell t (.int .i64 n):=by
 unfold ErrT at hg
 have h6:=@run_callFunc_extern Tryz.prog 48 _ (fun args=>ReflectliteValue.unpack (args.getD 0 (.tuple #[]))) Tryz.func48 (by kernel_rfl) (by kernel_rfl) (by kernel_rfl) (by kernel_rfl)
 have h7:=@run_callFunc_extern Tryz.prog 49 _ (ReflectliteValue.methodAny (ReflectliteValue.valueError "reflectlite.Value.Type" 0) (fun t _ _ _=>ReflectliteType.toType t)) Tryz.func49 (by kernel_rfl) (by kernel_rfl) (by kernel_rfl) (by kernel_rfl)
 have h8:=@run_callFunc_extern Tryz.prog 50 _ (ReflectliteValue.method (ReflectliteValue.valueError "reflectlite.Value.IsNil" 0) ReflectliteValue.isNil) Tryz.func50 (by kernel_rfl) (by kernel_rfl) (by kernel_rfl) (by kernel_rfl)
 have h27:=@run_callFunc_extern Tryz.prog 220 _ (ReflectliteType.abiMethod fun t=>do pure (.int .u8 (← Rtype.kind t))) Tryz.func220 (by kernel_rfl) (by kernel_rfl) (by kernel_rfl) (by kernel_rfl)
 have h37:=@run_callFunc_extern Tryz.prog 231 _ (ReflectliteType.method ReflectliteType.elem) Tryz.func231 (by kernel_rfl) (by kernel_rfl) (by kernel_rfl) (by kernel_rfl)
 have h38:=@run_callFunc_extern Tryz.prog 232 _ (ReflectliteType.relation "Implements" ReflectliteType.implements_) Tryz.func232 (by kernel_rfl) (by kernel_rfl) (by kernel_rfl) (by kernel_rfl)
 have h10:=@run_callFunc_extern Tryz.prog 73 _ ReflectliteType.typeOf Tryz.func73 (by kernel_rfl) (by kernel_rfl) (by kernel_rfl) (by kernel_rfl)
 have h35:=@run_callFunc_extern Tryz.prog 229 _ (ReflectliteType.relation "AssignableTo" ReflectliteType.assignableTo) Tryz.func229 (by kernel_rfl) (by kernel_rfl) (by kernel_rfl) (by kernel_rfl)
 have h11:=@run_callFunc_extern Tryz.prog 74 _ (ReflectliteValue.method (ReflectliteValue.valueError "reflectlite.Value.Elem" 0) ReflectliteValue.elem) Tryz.func74 (by kernel_rfl) (by kernel_rfl) (by kernel_rfl) (by kernel_rfl)
 have h12:=@run_callFunc_extern Tryz.prog 75 _ ReflectliteValue.set Tryz.func75 (by kernel_rfl) (by kernel_rfl) (by kernel_rfl) (by kernel_rfl)
 have tO:=typeOfE
 have a25:=assignableE
 have v25:=valueOfE
 have f6:=valueOfP
 have f7:=typeP
 have k27:=kindP
 have k25:=kindE
 have e27:=elemP
 have i25:=implementsE
 have n8:=isNilP ⟨w.heap.size,0,none⟩ t ((w.alloc (.cells #[.pointer (some t)] 87)).alloc (.cells #[.pointer (some ⟨11,87,none⟩),.pointer (some ⟨w.heap.size,0,none⟩),.int .u64 150] 111)) (by simp)
 have hlt:0<w.heap.size:=World.block_lt_of_cell? w _ hg
 have hg2:((w.alloc (.cells #[.pointer (some t)] 87)).alloc (.cells #[.pointer (some ⟨11,87,none⟩),.pointer (some ⟨w.heap.size,0,none⟩),.int .u64 150] 111)).cell? ⟨0,0,none⟩=some (.iface 148 (.agg #[.pointer (some ⟨11,25,none⟩)])):=by
  rw[World.cell?_alloc_lt _ _ ⟨0,0,none⟩ (by simp <;> omega),World.cell?_alloc_lt _ _ ⟨0,0,none⟩ hlt];exact hg
 have htl:t.block<w.heap.size:=World.block_lt_of_cell? w _ ht0
 have el:=elemVP ⟨w.heap.size,0,none⟩ t (((w.alloc (.cells #[.pointer (some t)] 87)).alloc (.cells #[.pointer (some ⟨11,87,none⟩),.pointer (some ⟨w.heap.size,0,none⟩),.int .u64 150] 111)).alloc (.cells #[.pointer (some ⟨11,87,none⟩),.pointer (some ⟨w.heap.size,0,none⟩),.int .u64 150] 111)) (by rw[World.cell?_alloc_lt _ _ ⟨w.heap.size,0,none⟩ (by simp <;> omega)];simp)
 have st:=setE t ⟨w.heap.size+1+1+1,0,none⟩ n old ((((w.alloc (.cells #[.pointer (some t)] 87)).alloc (.cells #[.pointer (some ⟨11,87,none⟩),.pointer (some ⟨w.heap.size,0,none⟩),.int .u64 150] 111)).alloc (.cells #[.pointer (some ⟨11,87,none⟩),.pointer (some ⟨w.heap.size,0,none⟩),.int .u64 150] 111)).alloc (.cells #[.int .i64 n] 57))
  (by rw[World.cell?_alloc_at _ _ _ _ (by simp)];rfl)
  (by rw[World.cell?_alloc_lt _ _ t (by simp <;> omega),World.cell?_alloc_lt _ _ t (by simp <;> omega),World.cell?_alloc_lt _ _ t (by simp <;> omega),World.cell?_alloc_lt _ _ t htl];exact ht0)
  (by rw[World.frozen?_alloc_old _ _ t (by simp <;> omega),World.frozen?_alloc_old _ _ t (by simp <;> omega),World.frozen?_alloc_old _ _ t (by simp <;> omega),World.frozen?_alloc_old _ _ t (Nat.ne_of_lt htl)];exact hf0)
 go_enter Tryz.func33,Tryz.ntmps33
 go_wp2
 refine wp_loop_rounds 1 ?_
 rw[rounds_succ]
 go_wp2
 go_ret
 exact ⟨rfl,rfl⟩
theorem told_nil (w:World):Calls Tryz.prog 22 #[.nilIface] w fun e w'=>e=.returned (.int .i64 0)∧Below w.heap.size w w':=by
 go_enter Tryz.func22,Tryz.ntmps22
 go_wp2
 go_returns
 exact ⟨rfl,by repeat (first|exact Below.refl _ _|refine Below.drew ?_|refine Ext.alloc ?_ _)⟩
theorem told_err (n:Int) (w:World) (hg:ErrT w):Calls Tryz.prog 22 #[.iface 57 (.int .i64 n)] w fun e w'=>e=.returned (.int .i64 n)∧Below w.heap.size w w':=by
 have hgA:ErrT (w.alloc (.cells #[.int .i64 0] 57)):=by
  unfold ErrT at *
  rw[World.cell?_alloc_lt _ _ ⟨0,0,none⟩ (World.block_lt_of_cell? w _ hg)];exact hg
 have H:=Lib.hid hg
 clear hg
 have HA:=Lib.hid hgA
 clear hgA
 go_enter Tryz.func22,Tryz.ntmps22
 go_wp2_with (go_at_call 33;refine (as_hit _ _ (.int .i64 0) _ HA.out (by simp) (by simp)).mono ?_;rintro e w' ⟨rfl,rfl⟩)
 go_returns
 exact ⟨rfl,by repeat (first|exact Below.refl _ _|refine Below.drew ?_|refine Ext.alloc ?_ _)⟩
end
end Go.Proofs.YtfcmhmglpcimiaaGreatDoor
