/- Proved: a part of what the law is proved with (the reckoner, contracts of functions, plain laws). Conditions: as each says. -/
import Derived.IntWalk
import Derived.Test.YtaheflnnigocgaaGreatDoorRows
import Derived.Test.YtaheflnnigocgaaGreatDoorTie
import Derived.Test.YtaheflnnigocgaaGreatDoorCards
import Derived.ProofKit
import Derived.LaidLaws
import Derived.LaidHandle
import Derived.Lib.SmallJoins
import Derived.Deep.Fields
import Derived.Carry
import Derived.Lay
import Derived.Test.YtaheflnnigocgaaGreatDoorProg
import Derived.WalkKit
import Derived.Handy
import Derived.Outline
import Derived.Lib.Hide
import Derived.Deep.QuietTactic
import Derived.BigQuiet
import Derived.Deep.RegionHeld3
import Derived.Deep.AppendLies
import Derived.Deep.Onto
import Derived.Test.YtaheflnnigocgaaGreatDoorHET
import Derived.Test.YtaheflnnigocgaaGreatDoorHFo
section
namespace Go.Proofs.YtaheflnnigocgaaGreatDoor
open Go Go.EYtaheflnnigocgaaGreatDoor
set_option maxRecDepth 100000
variable {gl:List (Nat×List D)}
abbrev iD (n:Int):D:=.v (.int .i64 n)
abbrev tD (b:Bool):D:=.b (b=true) inferInstance
def cellD (c r:Int):D:=.agg [iD c,iD r]
def refD (c r:Int) (fc fr:Bool):D:=.agg [iD c,iD r,tD fc,tD fr]
def boxD (a b c d:Int):D:=.agg [iD a,iD b,iD c,iD d]
def errD (n:Int):D:=if n=0 then .v .nilIface else .v (.iface 63 (.int .i64 n))
abbrev okP (c r:Int):Prop:=1≤c∧c≤26∧1≤r∧r≤99
abbrev farP (n:Int):Prop:=1000<n∨n < -1000
theorem ok_d (c r:Int):FnP Tryz.prog gl 28 [cellD c r] (.b (okP c r) inferInstance):=by
 refine fnP_of_vc (nv:=9999) (cu:=[]) fits mixed Tryz.func28 rfl hoB rfl ?_
 ((repeat' ((conv=>whnf);(first|refine Fork.yes (by assumption) ?_|refine Fork.no (by assumption) ?_|refine Fork.nono (by assumption) ?_|(refine Fork.yes ?_ ?_;focus (simp[andPD];done))|(refine Fork.no ?_ ?_;focus (simp;done))|refine Fork.neg (fun _=>?_) (fun _=>?_)|refine Fork.mk (fun _=>?_) (fun _=>?_))));(all_goals (conv=>whnf)))
 all_goals first|exact LeD.bt (by omega)|exact LeD.bf (by omega)|exact LeD.b (by omega)
theorem In_d (c r:Int):FnP Tryz.prog gl 8 [cellD c r] (.b (okP c r) inferInstance):=by
 refine fnP_of_vc (nv:=9999) (cu:=[]) fits mixed Tryz.func8 rfl hoB rfl ?_
 ((repeat' ((conv=>whnf);(first|refine Fork.yes (by assumption) ?_|refine Fork.no (by assumption) ?_|refine Fork.nono (by assumption) ?_|(refine Fork.yes ?_ ?_;focus (simp[andPD];done))|(refine Fork.no ?_ ?_;focus (simp;done))|refine Fork.neg (fun _=>?_) (fun _=>?_)|refine Fork.mk (fun _=>?_) (fun _=>?_))));(all_goals (conv=>whnf)))
 all_goals first|exact LeD.bt (by omega)|exact LeD.bf (by omega)|exact LeD.b (by omega)
abbrev boxP (a b c d:Int):Prop:=okP a b∧okP c d∧a≤c∧b≤d
theorem Boxed_d (a b c d:Int):FnP Tryz.prog gl 55 [boxD a b c d] (.b (boxP a b c d) inferInstance):=by
 refine fnP_of_vc (nv:=9999) (cu:=[]) fits mixed Tryz.func55 rfl hoB rfl ?_
 ((repeat' ((conv=>whnf);first|(first|refine Fork.yes (by assumption) ?_|refine Fork.no (by assumption) ?_|refine Fork.nono (by assumption) ?_|(refine Fork.yes ?_ ?_;focus (simp[andPD];done))|(refine Fork.no ?_ ?_;focus (simp;done))|refine Fork.neg (fun _=>?_) (fun _=>?_)|refine Fork.mk (fun _=>?_) (fun _=>?_))|refine Or.inl (Or.inl (Exists.intro _ (And.intro (by first|exact ok_d _ _) ?_)))|refine Exists.intro _ (And.intro (by first|exact ok_d _ _) ?_)));(all_goals (conv=>whnf)))
 all_goals first|exact LeD.bt (by omega)|exact LeD.bf (by omega)|exact LeD.b (by omega)
theorem isNaN_d (a:Int):FnP Tryz.prog gl 75 [iD a] (.v (.bool false)):=by
 refine fnP_of_vc (nv:=9999) (cu:=[]) fits mixed Tryz.func75 rfl hoB rfl ?_
 ((repeat' ((conv=>whnf);(first|refine Fork.yes (by assumption) ?_|refine Fork.no (by assumption) ?_|refine Fork.nono (by assumption) ?_|(refine Fork.yes ?_ ?_;focus (simp[andPD];done))|(refine Fork.no ?_ ?_;focus (simp[andPD];done))|refine Fork.neg (fun _=>?_) (fun _=>?_)|refine Fork.mk (fun _=>?_) (fun _=>?_))));(all_goals (conv=>whnf)))
 exact ⟨fun M w x hx=>by rw[DenD.b_inv hx,decide_eq_false (by simp)];exact .v _⟩
def cmpZ (a b:Int):Int:=if a<b then -1 else if b<a then 1 else 0
theorem cmpInt_d (a b:Int):FnP Tryz.prog gl 59 [iD a,iD b] (iD (cmpZ a b)):=by
 refine fnP_of_vc (nv:=9999) (cu:=[]) fits mixed Tryz.func59 rfl hoB rfl ?_
 ((repeat' ((conv=>whnf);first|(first|refine Fork.yes (by assumption) ?_|refine Fork.no (by assumption) ?_|refine Fork.nono (by assumption) ?_|(refine Fork.yes ?_ ?_;focus (simp[andPD];done))|(refine Fork.no ?_ ?_;focus (simp;done))|refine Fork.neg (fun _=>?_) (fun _=>?_)|refine Fork.mk (fun _=>?_) (fun _=>?_))|refine Or.inl (Or.inl (Exists.intro _ (And.intro (by first|exact isNaN_d _) ?_)))|refine Exists.intro _ (And.intro (by first|exact isNaN_d _) ?_)));(all_goals (conv=>whnf)))
 all_goals (refine LeD.of (congrArg iD ?_);unfold cmpZ;split <;> (try split) <;> omega)
theorem Ahead_d (c r c' r':Int):FnP Tryz.prog gl 19 [cellD c r,cellD c' r'] (.b (r<r'∨r=r'∧c<c') inferInstance):=by
 refine fnP_of_vc (nv:=9999) (cu:=[]) fits mixed Tryz.func19 rfl hoB rfl ?_
 ((repeat' ((conv=>whnf);(first|refine Fork.yes (by assumption) ?_|refine Fork.no (by assumption) ?_|refine Fork.nono (by assumption) ?_|(refine Fork.yes ?_ ?_;focus (simp[andPD];done))|(refine Fork.no ?_ ?_;focus (simp;done))|refine Fork.neg (fun _=>?_) (fun _=>?_)|refine Fork.mk (fun _=>?_) (fun _=>?_))));(all_goals (conv=>whnf)))
 all_goals first|exact LeD.bt (by omega)|exact LeD.bf (by omega)|exact LeD.b (by omega)
theorem boxD_eq {a b c d a' b' c' d':Int} (h1:a=a') (h2:b=b') (h3:c=c') (h4:d=d'):boxD a b c d=boxD a' b' c' d':=by rw[h1,h2,h3,h4]
def boxR (c r c' r':Int):D:=if okP c r∧okP c' r' then .tup [boxD (min c c') (min r r') (max c c') (max r r'),errD 0] else .tup [boxD 0 0 0 0,errD 1]
theorem Box_d (c r c' r':Int):FnP Tryz.prog gl 40 [cellD c r,cellD c' r'] (boxR c r c' r'):=by
 refine fnP_of_vc (nv:=9999) (cu:=[]) fits mixed Tryz.func40 rfl hoB rfl ?_
 ((repeat' ((conv=>whnf);first|(first|refine Fork.yes (by assumption) ?_|refine Fork.no (by assumption) ?_|refine Fork.nono (by assumption) ?_|(refine Fork.yes ?_ ?_;focus (simp;done))|(refine Fork.no ?_ ?_;focus (simp;done))|refine Fork.neg (fun _=>?_) (fun _=>?_)|refine Fork.mk (fun _=>?_) (fun _=>?_))|refine Or.inl (Or.inl (Exists.intro _ (And.intro (by first|exact ok_d _ _) ?_)))|refine Exists.intro _ (And.intro (by first|exact ok_d _ _) ?_)));(all_goals (conv=>whnf)))
 all_goals unfold boxR
 all_goals first
  | exact LeD.ite_neg (by omega) LeD.rfl
  | exact LeD.ite_pos (by omega) (LeD.of (congrArg (fun z=>D.tup [z,errD 0]) (boxD_eq (by split <;> omega) (by split <;> omega) (by split <;> omega) (by split <;> omega))))
def shiftP (c r:Int) (fc fr:Bool) (dc dr:Int):Prop:=okP c r∧(fc=true∨¬ farP dc)∧(fr=true∨¬ farP dr)∧okP (if fc=true then c else c+dc) (if fr=true then r else r+dr)
instance (c r:Int) (fc fr:Bool) (dc dr:Int):Decidable (shiftP c r fc fr dc dr):=by unfold shiftP;infer_instance
theorem wrapI {n:Int} (h:-9223372036854775808≤n∧n≤9223372036854775807):IntKind.i64.wrap n=n:=IntWalk.i64_in _ h
theorem tD_le (b:Bool):LeD (.v (.bool b)) (tD b):=⟨fun M w x hx=>by
 rw[DenD.v_inv hx];have:=DenD.b (M:=M) (w:=w) (b=true) inferInstance;cases b <;> simpa using this⟩
end Go.Proofs.YtaheflnnigocgaaGreatDoor
end
section
namespace Go.Proofs.YtaheflnnigocgaaGreatDoor
open Go Go.ChangeShapes Go.WideShapes Go.ChangeAt Go.RowKit Go.EYtaheflnnigocgaaGreatDoor
set_option linter.unusedVariables false
set_option maxRecDepth 100000
theorem Door.own:ownKnob Tryz.prog.godebug=none:=by kernel_rfl
theorem Door.out:laidOutB Tryz.prog=true:=by kernel_rfl
theorem Door.size:Tryz.prog.types.size=250:=by kernel_rfl
theorem cellsOf3:Tryz.prog.cellsOf 3=1:=by kernel_rfl
theorem den_i (M:Nat→Prop) (w:World) (c:Int):DenD M w (iD c) (.int .i64 c):=.v _
theorem FnP.calls {P:Program} {gl:List (Nat×List D)} {g:Nat} {ds:List D} {r:Value} {xs:List Value} {w:World} (h:FnP P gl g ds (.v r)) (hb:HasBody P g) (hg:Glob gl (fun _=>False) w) (hd:DenL (fun _=>False) w ds xs) :
 Calls P g xs.toArray w fun e w'=>e=.returned r∧Below w.heap.size w w':=by
 rcases h w (fun _=>False) xs (fun _ h=>h.elim) hg hd with ⟨_,h1⟩|⟨v,w',h1,h2⟩
 ·refine h1.mono fun e w' ⟨h2,x,h3,h4⟩=>?_
  rw[DenD.v_inv h4] at h3
  exact ⟨h3,h2.below⟩
 ·rw[hb.enters] at h1;cases h1
theorem trodAll_below {H:Type} {enc:TypeId×Value→H} {P:Program} (hl:laidOutB P=true) {W W':World} {sp:Nat→Bool} (hb:Below W.heap.size W W'):∀ {ts:List TypeId} {vs:List Value} {ds:List (DataW H)} {ps:List MemPlace},
 (∀ t ∈ ts,P.readableRec t=true∧t<P.types.size)→DataW.TrodAll enc P W 0 (fun _=>true) true ts vs ds ps→(∀ x ∈ ps,x.block<W.heap.size)→(∀ x ∈ ps,sp x.block=true)→DataW.TrodAll enc P W' 0 sp true ts vs ds ps
 | [],_,_,_,_,h,_,_=>by
  obtain ⟨rfl,rfl,rfl⟩:=trodAll_nil h
  exact trodAll_mk0
 | t::ts,_,_,_,hr,h,hlt,hs=>by
  obtain ⟨v,vs,d,ds,p,q,rfl,rfl,rfl,h1,h2⟩:=trodAll_cons h
  exact trodAll_cons_mk (WideElems.Trod_stays hl (hr t (List.mem_cons_self ..)).1 (hr t (List.mem_cons_self ..)).2 h1 (fun x hx=>hb.same (hlt x (List.mem_append_left _ hx))) (fun x hx=>hs x (List.mem_append_left _ hx)))
   (trodAll_below hl hb (fun t ht=>hr t (List.mem_cons_of_mem _ ht)) h2 (fun x hx=>hlt x (List.mem_append_right _ hx)) (fun x hx=>hs x (List.mem_append_right _ hx)))
end Go.Proofs.YtaheflnnigocgaaGreatDoor
end
section
namespace Go.Proofs.YtaheflnnigocgaaGreatDoor
open Go Go.EYtaheflnnigocgaaGreatDoor
set_option maxRecDepth 100000
variable {gl:List (Nat×List D)}
def orL:List Int→Int
 | []=>0
 | x::r=>if x=0 then orL r else x
theorem get_map {α β:Type} {f:α→β} {l:List α} {k:Nat} (h:k<l.length):(l.map f)[((k:Nat):Int).toNat]?=some (f l[k]):=by
 simp[h]
theorem orL_drop {l:List Int} {k:Nat} (h:k<l.length):orL (l.drop k)=if l[k]=0 then orL (l.drop (k+1)) else l[k]:=by
 rw[List.drop_eq_getElem_cons h];rfl
theorem Or_d (l:List Int) (hl:l.length≤1000):FnP Tryz.prog gl 58 [.lst 1 (l.map fun x=>[iD x])] (iD (orL l)):=by
 refine fnP_of_vc (nv:=9999) (cu:=[]) fits mixed Tryz.func58 rfl hoB rfl ?_
 ((repeat' ((conv=>whnf);(first|refine Fork.yes (by assumption) ?_|refine Fork.no (by assumption) ?_|refine Fork.nono (by assumption) ?_|(refine Fork.yes ?_ ?_;focus (simp[andPD];done))|(refine Fork.no ?_ ?_;focus (simp[andPD];done))|refine Fork.neg (fun _=>?_) (fun _=>?_)|refine Fork.mk (fun _=>?_) (fun _=>?_))));(all_goals (conv=>whnf)))
 refine ⟨{ σ:=Nat,fr:=fun k=>[(8,.c (.d (iD k)))],ks:=[],L:=fun _=>[],ex:=0,I:=fun k=>k≤l.length∧orL l=orL (l.drop k),μ:=fun k=>l.length - k },⟨0,⟨Nat.zero_le _,rfl⟩,?_⟩,fun (k:Nat) hk=>?_⟩
 ·((repeat' first|exact rfl|((conv=>whnf);first|done|exact suL|refine And.intro ?_ ?_|fail));all_goals conv=>whnf)
 ·obtain ⟨hk1,hk2⟩:=hk
  ((repeat' ((conv=>whnf);(first|refine Fork.yes (by assumption) ?_|refine Fork.no (by assumption) ?_|refine Fork.nono (by assumption) ?_|(refine Fork.yes ?_ ?_;focus (simp;done))|(refine Fork.no ?_ ?_;focus (simp;done))|refine Fork.neg (fun _=>?_) (fun _=>?_)|refine Fork.mk (fun _=>?_) (fun _=>?_))));(all_goals (conv=>whnf)))
  ·rename_i h
   have hlt:k<l.length:=by simpa using h
   have hd:=orL_drop hlt
   refine ⟨Int.natCast_nonneg _,_,get_map hlt,?_⟩
   ((repeat' ((conv=>whnf);(first|refine Fork.yes (by assumption) ?_|refine Fork.no (by assumption) ?_|refine Fork.nono (by assumption) ?_|(refine Fork.yes ?_ ?_;focus (simp[andPD];done))|(refine Fork.no ?_ ?_;focus (simp;done))|refine Fork.neg (fun _=>?_) (fun _=>?_)|refine Fork.mk (fun _=>?_) (fun _=>?_))));(all_goals (conv=>whnf)))
   ·rename_i h0
    exact LeD.of (congrArg iD (by rw[hk2,hd,if_neg h0]))
   ·rename_i h0
    refine ⟨k+1,⟨⟨hlt,by rw[hk2,hd,if_pos h0]⟩,by show l.length - (k+1)<l.length - k;omega⟩,?_⟩
    ((repeat' first|exact rfl|((conv=>whnf);first|done|exact suL|refine And.intro ?_ ?_|fail));all_goals conv=>whnf)
    exact Or.inr (Or.inl (congrArg (fun z=>C.d (iD z)) (wrapI (n:=(k:Int)+1) (by omega))))
  ·rename_i h
   refine LeD.of (congrArg iD ?_)
   rw[hk2,List.drop_of_length_le (by simpa using h)];rfl
def orZ (a b:Int):Int:=if a=0 then b else a
theorem orZ_eq (a b:Int):orL [a,b]=orZ a b:=by by_cases h:a=0 <;> by_cases h2:b=0 <;> simp[orL,orZ,h,h2]
theorem Compare_d (c r c' r':Int):FnP Tryz.prog gl 43 [cellD c r,cellD c' r'] (iD (orZ (cmpZ r r') (cmpZ c c'))):=by
 rw[← orZ_eq]
 refine fnP_of_vc (nv:=9999) (cu:=[]) fits mixed Tryz.func43 rfl hoB rfl ?_
 ((repeat' ((conv=>whnf);(first|refine Fork.yes (by assumption) ?_|refine Fork.no (by assumption) ?_|refine Fork.nono (by assumption) ?_|(refine Fork.yes ?_ ?_;focus (simp[andPD];done))|(refine Fork.no ?_ ?_;focus (simp[andPD];done))|refine Fork.neg (fun _=>?_) (fun _=>?_)|refine Fork.mk (fun _=>?_) (fun _=>?_))));(all_goals (conv=>whnf)))
 refine ⟨by kernel_rfl,?_⟩
 ((repeat' ((conv=>whnf);first|(first|refine Fork.yes (by assumption) ?_|refine Fork.no (by assumption) ?_|refine Fork.nono (by assumption) ?_|(refine Fork.yes ?_ ?_;focus (simp[andPD];done))|(refine Fork.no ?_ ?_;focus (simp[andPD];done))|refine Fork.neg (fun _=>?_) (fun _=>?_)|refine Fork.mk (fun _=>?_) (fun _=>?_))|refine Or.inl (Or.inl (Exists.intro _ (And.intro (by first|exact cmpInt_d _ _|exact Or_d [_,_] (by simp)) ?_)))|refine Exists.intro _ (And.intro (by first|exact cmpInt_d _ _|exact Or_d [_,_] (by simp)) ?_)));(all_goals (conv=>whnf)))
 exact LeD.rfl
theorem Less_d (c r c' r':Int):FnP Tryz.prog gl 32 [cellD c r,cellD c' r'] (.b (r<r'∨r=r'∧c<c') inferInstance):=by
 refine fnP_of_vc (nv:=9999) (cu:=[]) fits mixed Tryz.func32 rfl hoB rfl ?_
 ((repeat' ((conv=>whnf);first|(first|refine Fork.yes (by assumption) ?_|refine Fork.no (by assumption) ?_|refine Fork.nono (by assumption) ?_|(refine Fork.yes ?_ ?_;focus (simp[andPD];done))|(refine Fork.no ?_ ?_;focus (simp[andPD];done))|refine Fork.neg (fun _=>?_) (fun _=>?_)|refine Fork.mk (fun _=>?_) (fun _=>?_))|refine Or.inl (Or.inl (Exists.intro _ (And.intro (by first|exact Compare_d _ _ _ _) ?_)))|refine Exists.intro _ (And.intro (by first|exact Compare_d _ _ _ _) ?_)));(all_goals (conv=>whnf)))
 refine LeD.b ?_
 unfold orZ cmpZ
 by_cases a1:r<r' <;> by_cases a2:r'<r <;> by_cases a3:c<c' <;> by_cases a4:c'<c <;> simp[a1,a2,a3,a4] <;> omega
end Go.Proofs.YtaheflnnigocgaaGreatDoor
end
section
namespace Go.Proofs.YtaheflnnigocgaaGreatDoor
open Go Go.EYtaheflnnigocgaaGreatDoor
set_option maxRecDepth 100000
variable {gl:List (Nat×List D)}
def cellRow (c r:Int):List D:=[iD c,iD r]
def partL (c0 r:Int) (j:Nat):List (List D):=(List.range j).map fun (i:Nat)=>cellRow (c0+i) r
def rowsL (c0 r0:Int) (n k:Nat):List (List D):=(List.range k).flatMap fun (i:Nat)=>partL c0 (r0+i) n
theorem partL_succ (c0 r:Int) (j:Nat):partL c0 r (j+1)=partL c0 r j++[cellRow (c0+j) r]:=by simp[partL,List.range_succ]
theorem rowsL_succ (c0 r0:Int) (n k:Nat):rowsL c0 r0 n (k+1)=rowsL c0 r0 n k++partL c0 (r0+k) n:=by simp[rowsL,List.range_succ]
theorem partL_len (c0 r:Int) (j:Nat):(partL c0 r j).length=j:=by simp[partL]
theorem rowsL_len (c0 r0:Int) (n k:Nat):(rowsL c0 r0 n k).length=k * n:=by
 induction k with
 | zero=>simp[rowsL]
 | succ k ih=>rw[rowsL_succ,List.length_append,ih,partL_len,Nat.add_mul,Nat.one_mul]
def cellsD (a b c d:Int):D:=.lst 2 (rowsL a b (c - a+1).toNat (d - b+1).toNat)
theorem ceq {x y:Int} (h:x=y) {P:Prop}:C.d (iD y)=C.junk∨C.d (iD x)=C.d (iD y)∨P:=.inr (.inl (congrArg (fun z=>C.d (iD z)) h))
theorem Cells_d (a b c d:Int):FnP Tryz.prog gl 41 [boxD a b c d] (if boxP a b c d then .tup [cellsD a b c d,errD 0] else .tup [.lst 2 [],errD 1]):=by
 by_cases h:boxP a b c d
 ·rw[if_pos h]
  have hb:=h
  obtain ⟨⟨h1,h2,h3,h4⟩,⟨h5,h6,h7,h8⟩,h9,h10⟩:=h
  obtain ⟨n,hn⟩:∃ n,(c - a+1).toNat=n:=⟨_,rfl⟩
  obtain ⟨m,hm⟩:∃ m,(d - b+1).toNat=m:=⟨_,rfl⟩
  unfold cellsD
  rw[hn,hm]
  refine fnP_of_vc (nv:=9999) (cu:=[]) fits mixed Tryz.func41 rfl hoB rfl ?_
  ((repeat' ((conv=>whnf);first|(first|refine Fork.yes (by assumption) ?_|refine Fork.no (by assumption) ?_|refine Fork.nono (by assumption) ?_|(refine Fork.yes ?_ ?_;focus (simp[andPD];done))|(refine Fork.no ?_ ?_;focus (simp[andPD];done))|refine Fork.neg (fun _=>?_) (fun _=>?_)|refine Fork.mk (fun _=>?_) (fun _=>?_))|refine Or.inl (Or.inl (Exists.intro _ (And.intro (by first|exact Boxed_d _ _ _ _) ?_)))|refine Exists.intro _ (And.intro (by first|exact Boxed_d _ _ _ _) ?_)));(all_goals (conv=>whnf)))
  refine ⟨{ σ:=Nat,fr:=fun k=>[(4,.c (.all 2 1)),(5,.c (.d (iD (b+(k:Int)))))],ks:=[1],L:=fun k=>[(1,.rows 2 (rowsL a b n k) 24)],ex:=1,I:=fun k=>k≤m,μ:=fun k=>m - k },⟨0,Nat.zero_le _,?_⟩,fun (k:Nat) hk=>?_⟩
  ·((repeat' first|exact rfl|((conv=>whnf);first|done|exact suL|refine And.intro ?_ ?_|fail));all_goals conv=>whnf)
   ·exact ceq (by simp)
   ·exact ⟨_,_,rfl,by omega,by omega⟩
  ·replace hk:k≤m:=hk
   have hkn:k * n≤99 * 26:=Nat.mul_le_mul (by omega) (by omega)
   ((repeat' ((conv=>whnf);(first|refine Fork.yes (by assumption) ?_|refine Fork.no (by assumption) ?_|refine Fork.nono (by assumption) ?_|(refine Fork.yes ?_ ?_;focus (simp[andPD];done))|(refine Fork.no ?_ ?_;focus (simp;done))|refine Fork.neg (fun _=>?_) (fun _=>?_)|refine Fork.mk (fun _=>?_) (fun _=>?_))));(all_goals (conv=>whnf)))
   ·have hlt:k<m:=by omega
    refine ⟨{ σ:=Nat,fr:=fun j=>[(4,.c (.all 2 1)),(6,.c (.d (iD (a+(j:Int)))))],ks:=[1],L:=fun j=>[(1,.rows 2 (rowsL a b n k++partL a (b+k) j) 24)],ex:=0,I:=fun j=>j≤n,μ:=fun j=>n - j },⟨0,Nat.zero_le _,?_⟩,fun (j:Nat) hj=>?_⟩
    ·((repeat' first|exact rfl|((conv=>whnf);first|done|exact suL|refine And.intro ?_ ?_|fail));all_goals conv=>whnf)
     ·exact ceq (by simp)
     ·simp[partL]
    ·replace hj:j≤n:=hj
     ((repeat' ((conv=>whnf);(first|refine Fork.yes (by assumption) ?_|refine Fork.no (by assumption) ?_|refine Fork.nono (by assumption) ?_|(refine Fork.yes ?_ ?_;focus (simp[andPD];done))|(refine Fork.no ?_ ?_;focus (simp;done))|refine Fork.neg (fun _=>?_) (fun _=>?_)|refine Fork.mk (fun _=>?_) (fun _=>?_))));(all_goals (conv=>whnf)))
     ·have hjl:j<n:=by omega
      refine ⟨⟨rfl,?_,?_⟩,?_⟩
      ·rw[List.length_append,rowsL_len,partL_len];show (k * n+j+1) * 16≤_;omega
      ·rw[List.length_append,rowsL_len,partL_len];show k * n+j+1≤_;unfold maxLen;omega
      ·((repeat' ((conv=>whnf);(first|refine Fork.yes (by assumption) ?_|refine Fork.no (by assumption) ?_|refine Fork.nono (by assumption) ?_|(refine Fork.yes ?_ ?_;focus (simp[andPD];done))|(refine Fork.no ?_ ?_;focus (simp[andPD];done))|refine Fork.neg (fun _=>?_) (fun _=>?_)|refine Fork.mk (fun _=>?_) (fun _=>?_))));(all_goals (conv=>whnf)))
       refine ⟨j+1,⟨hjl,by show n - (j+1)<n - j;omega⟩,?_⟩
       ((repeat' first|exact rfl|((conv=>whnf);first|done|exact suL|refine And.intro ?_ ?_|fail));all_goals conv=>whnf)
       ·exact ceq (show IntKind.i64.wrap (a+(j:Int)+1)=a+((j+1:Nat):Int) by rw[wrapI (by omega)];omega)
       ·rw[partL_succ,List.append_assoc];rfl
     ·have hjn:j=n:=by omega
      subst hjn
      refine ⟨k+1,⟨hlt,by show m - (k+1)<m - k;omega⟩,?_⟩
      ((repeat' first|exact rfl|((conv=>whnf);first|done|exact suL|refine And.intro ?_ ?_|fail));all_goals conv=>whnf)
      ·exact ceq (show IntKind.i64.wrap (b+(k:Int)+1)=b+((k+1:Nat):Int) by rw[wrapI (by omega)];omega)
      ·rw[rowsL_succ]
   ·have hkm:k=m:=by omega
    subst hkm
    exact LeD.rfl
 ·rw[if_neg h]
  refine fnP_of_vc (nv:=9999) (cu:=[]) fits mixed Tryz.func41 rfl hoB rfl ?_
  ((repeat' ((conv=>whnf);first|(first|refine Fork.yes (by assumption) ?_|refine Fork.no (by assumption) ?_|refine Fork.nono (by assumption) ?_|(refine Fork.yes ?_ ?_;focus (simp[andPD];done))|(refine Fork.no ?_ ?_;focus (simp[andPD];done))|refine Fork.neg (fun _=>?_) (fun _=>?_)|refine Fork.mk (fun _=>?_) (fun _=>?_))|refine Or.inl (Or.inl (Exists.intro _ (And.intro (by first|exact Boxed_d _ _ _ _) ?_)))|refine Exists.intro _ (And.intro (by first|exact Boxed_d _ _ _ _) ?_)));(all_goals (conv=>whnf)))
  refine LeD.tup ⟨⟨fun M w x hx=>?_⟩,LeD.rfl,trivial⟩
  rw[DenD.v_inv hx];exact .lst0 _ _ _ (by simp[maxLen])
end Go.Proofs.YtaheflnnigocgaaGreatDoor
end
section
namespace Go.Proofs.YtaheflnnigocgaaGreatDoor
open Go.RowKit
theorem Ext.alloc {a w:World} (h:Below a.heap.size a w) (o:Obj):Below a.heap.size a (w.alloc o):=h.alloc h.size o
theorem Ext.trans {a b c:World} (h:Below a.heap.size a b) (k:Below b.heap.size b c):Below a.heap.size a c:=h.trans (k.mono h.size)
end Go.Proofs.YtaheflnnigocgaaGreatDoor
end
section
namespace Go.Proofs.YtaheflnnigocgaaGreatDoor
open Go Go.EYtaheflnnigocgaaGreatDoor Go.RowKit
set_option maxRecDepth 100000
variable {gl:List (Nat×List D)}
def rowD (p:Int×Int):List D:=[iD p.1,iD p.2]
theorem sameCells_d (l m:List (Int×Int)) (hl:l.length≤9223372036854775806):FnP Tryz.prog gl 12 [.lst 2 (l.map rowD),.lst 2 (m.map rowD)] (.b (l=m) inferInstance):=by
 refine fnP_of_vc (nv:=9999) (cu:=[]) fits mixed Tryz.func12 rfl hoB rfl ?_
 ((repeat' ((conv=>whnf);(first|refine Fork.yes (by assumption) ?_|refine Fork.no (by assumption) ?_|refine Fork.nono (by assumption) ?_|(refine Fork.yes ?_ ?_;focus (simp;done))|(refine Fork.no ?_ ?_;focus (simp;done))|refine Fork.neg (fun _=>?_) (fun _=>?_)|refine Fork.mk (fun _=>?_) (fun _=>?_))));(all_goals (conv=>whnf)))
 ·exact LeD.bf (fun h=>by subst h;simp at *)
 ·have hlen:l.length=m.length:=by simp at *;omega
  refine ⟨{ σ:=Nat,fr:=fun k=>[(5,.c (.d (iD k)))],ks:=[],L:=fun _=>[],ex:=0,I:=fun k=>k≤l.length∧l.take k=m.take k,μ:=fun k=>l.length - k },⟨0,⟨Nat.zero_le _,rfl⟩,?_⟩,fun (k:Nat) hk=>?_⟩
  ·((repeat' first|exact rfl|((conv=>whnf);first|done|exact suL|refine And.intro ?_ ?_|fail));all_goals conv=>whnf)
  ·obtain ⟨hk1,hk2⟩:=hk
   ((repeat' ((conv=>whnf);(first|refine Fork.yes (by assumption) ?_|refine Fork.no (by assumption) ?_|refine Fork.nono (by assumption) ?_|(refine Fork.yes ?_ ?_;focus (simp;done))|(refine Fork.no ?_ ?_;focus (simp;done))|refine Fork.neg (fun _=>?_) (fun _=>?_)|refine Fork.mk (fun _=>?_) (fun _=>?_))));(all_goals (conv=>whnf)))
   ·have hlt:k<l.length:=by simp at *;omega
    have hltm:k<m.length:=by omega
    refine ⟨by kernel_rfl,?_⟩
    ((repeat' ((conv=>whnf);(first|refine Fork.yes (by assumption) ?_|refine Fork.no (by assumption) ?_|refine Fork.nono (by assumption) ?_|(refine Fork.yes ?_ ?_;focus (simp[andPD];done))|(refine Fork.no ?_ ?_;focus (simp[andPD];done))|refine Fork.neg (fun _=>?_) (fun _=>?_)|refine Fork.mk (fun _=>?_) (fun _=>?_))));(all_goals (conv=>whnf)))
    refine ⟨Int.natCast_nonneg _,_,get_map hlt,?_⟩
    ((repeat' ((conv=>whnf);(first|refine Fork.yes (by assumption) ?_|refine Fork.no (by assumption) ?_|refine Fork.nono (by assumption) ?_|(refine Fork.yes ?_ ?_;focus (simp[andPD];done))|(refine Fork.no ?_ ?_;focus (simp[andPD];done))|refine Fork.neg (fun _=>?_) (fun _=>?_)|refine Fork.mk (fun _=>?_) (fun _=>?_))));(all_goals (conv=>whnf)))
    refine ⟨Int.natCast_nonneg _,_,get_map hltm,?_⟩
    ((repeat' ((conv=>whnf);(first|refine Fork.yes (by assumption) ?_|refine Fork.no (by assumption) ?_|refine Fork.nono (by assumption) ?_|(refine Fork.yes ?_ ?_;focus (simp[andPD];done))|(refine Fork.no ?_ ?_;focus (simp[andPD];done))|refine Fork.neg (fun _=>?_) (fun _=>?_)|refine Fork.mk (fun _=>?_) (fun _=>?_))));(all_goals (conv=>whnf)))
    ·rename_i h
     refine LeD.bf (fun he=>h ?_)
     subst he
     exact ⟨rfl,rfl,trivial⟩
    ·rename_i h
     refine ⟨k+1,⟨⟨hlt,?_⟩,by show l.length - (k+1)<l.length - k;omega⟩,?_⟩
     ·rw[List.take_succ_eq_append_getElem hlt,List.take_succ_eq_append_getElem hltm,hk2]
      rw[show l[k]=m[k] from Prod.ext h.1 h.2.1]
     ·((repeat' first|exact rfl|((conv=>whnf);first|done|exact suL|refine And.intro ?_ ?_|fail));all_goals conv=>whnf)
      exact ceq (show IntKind.i64.wrap ((k:Int)+1)=((k+1:Nat):Int) by rw[wrapI (by omega)];rfl)
   ·have hkl:k=l.length:=by simp at *;omega
    refine LeD.bt ?_
    rw[hkl,List.take_length,hlen,List.take_length] at hk2
    exact hk2
theorem FnP.of_below {P:Program} {g:Nat} {ds:List D} {xs:List Value} {r:D} {v:Value} (hB:HasBody P g) (hx:∀ M w ys,DenL M w ds ys→ys=xs) (hv:∀ M w,DenD M w r v)
 (h:∀ M w,Glob gl M w→Calls P g xs.toArray w fun e w'=>e=.returned v∧Below w.heap.size w w'):FnP P gl g ds r:=fun w M ys _ hg hd=>by
 obtain rfl:=hx M w ys hd
 exact .inl ⟨hB,(h M w hg).mono fun e w' ⟨h1,h2⟩=>⟨Evo.of_below h2 _,v,h1,hv _ _⟩⟩
end Go.Proofs.YtaheflnnigocgaaGreatDoor
end
section
namespace Go.Proofs.YtaheflnnigocgaaGreatDoor
open Go Go.EYtaheflnnigocgaaGreatDoor Go.RowKit
set_option maxRecDepth 100000
variable {gl:List (Nat×List D)}
def pairsL (c0 r0:Int) (n k:Nat):List (Int×Int):=(List.range k).flatMap fun (i:Nat)=>(List.range n).map fun (j:Nat)=>(c0+j,r0+i)
theorem rowsL_pairs (c0 r0:Int) (n k:Nat):rowsL c0 r0 n k=(pairsL c0 r0 n k).map rowD:=by
 unfold rowsL pairsL partL
 rw[List.map_flatMap]
 simp[rowD,cellRow,Function.comp_def]
theorem pairsL_len (c0 r0:Int) (n k:Nat):(pairsL c0 r0 n k).length=k * n:=by
 have:=rowsL_len c0 r0 n k
 rwa [rowsL_pairs,List.length_map] at this
theorem Box_s {c r c' r':Int} (h:okP c r) (h':okP c' r'):FnP Tryz.prog gl 40 [cellD c r,cellD c' r'] (.tup [boxD (min c c') (min r r') (max c c') (max r r'),errD 0]):=by
 have:=Box_d (gl:=gl) c r c' r';unfold boxR at this;rwa [if_pos ⟨h,h'⟩] at this
theorem Cells_s {a b c d:Int} (h:boxP a b c d):FnP Tryz.prog gl 41 [boxD a b c d] (.tup [.lst 2 ((pairsL a b (c - a+1).toNat (d - b+1).toNat).map rowD),errD 0]):=by
 have:=Cells_d (gl:=gl) a b c d;rw[if_pos h] at this;unfold cellsD at this;rwa [rowsL_pairs] at this
end Go.Proofs.YtaheflnnigocgaaGreatDoor
end
