/- Proved: a part of what the law is proved with (the reckoner, contracts of functions, plain laws). Conditions: as each says. -/
import Derived.Lib.AppendIntMem
import Derived.Lib.LaidU8
import Derived.Test.YtfcmhmglpcimiaaGreatDoorKBg
import Derived.Test.YtfcmhmglpcimiaaGreatDoorKSe
import Derived.Test.YtfcmhmglpcimiaaGreatDoorKWa
namespace Go.Proofs.YtfcmhmglpcimiaaGreatDoor
section
open Go Go.EYtfcmhmglpcimiaaGreatDoor
set_option maxRecDepth 100000
variable {gl:List (Nat×List D)}
def tx:List (List UInt8):=[[],[35,68,73,86,33],[35,86,65,76,85,69,33],[35,82,69,70,33],[35,78,65,77,69,33],[35,78,85,77,33],[35,78,79,78,69,33]]
abbrev tT:List UInt8:=[84,82,85,69]
abbrev tF:List UInt8:=[70,65,76,83,69]
abbrev glV (te:TypeId) (pe:Value):List (Nat×List D):=[(2,tx.map D.str),(6,[.v (.iface te pe)]),(8,Lib.pow10Tab.map fun z=>D.v (.int .u64 z))]
def txI (s:List UInt8):Nat→Option Nat
 | 0=>none
 | n+1=>if tx.getD (6 - n) []=s then some (6 - n) else txI s n
def litZ (s:List UInt8):Option (Int×Int):=if s=tT then some (3,1) else if s=tF then some (3,0) else (txI s 6).map fun (i:Nat)=>((4:Int),(i:Int))
theorem tx_get {k:Nat} (h:k<7):(tx.map fun t=>C.d (.str t))[((k:Nat):Int).toNat]?=some (.d (.str (tx.getD k []))):=by
 have h':k<tx.length:=h
 rw[Int.toNat_natCast,List.getElem?_map,List.getElem?_eq_getElem h']
 simp[List.getD,List.getElem?_eq_getElem h']
theorem txI_step {s:List UInt8} {k:Nat} (h0:1≤k) (h:k≤6):txI s (7 - k)=if tx.getD k []=s then some k else txI s (7 - (k+1)):=by
 have e:7 - k=(6 - k)+1:=by omega
 have e2:6 - (6 - k)=k:=by omega
 have e3:7 - (k+1)=6 - k:=by omega
 rw[e,e3,txI,e2]
theorem tx_ne {k:Nat} (h0:0<k) (h:k<7):tx.getD k []≠[]:=by
 have key:∀ n:Fin 7,0<n.val→tx.getD n.val []≠[]:=by decide
 exact key ⟨k,h⟩ h0
theorem Is_t:FnP Tryz.prog gl 141 [.v (.bool true)] (vlD 3 1 []):=by
 refine S0 Tryz.func141 rfl ?_
 ((repeat' ((conv=>whnf);first|exact .intro|refine G ?_|intro _|refine .mk ?_ ?_|refine AK ?_|refine And.intro (by first|(fail;done)|fail) ?_|fail));all_goals conv=>whnf)
 exact LeD.rfl
theorem Is_f:FnP Tryz.prog gl 141 [.v (.bool false)] (vlD 3 0 []):=by
 refine S0 Tryz.func141 rfl ?_
 ((repeat' ((conv=>whnf);first|exact .intro|refine G ?_|intro _|refine .mk ?_ ?_|refine AK ?_|refine And.intro (by first|(fail;done)|fail) ?_|fail));all_goals conv=>whnf)
 exact LeD.rfl
def optV:Option (Int×Int)→D
 | some p=>.tup [vlD p.1 p.2 [],.v (.bool true)]
 | none=>.tup [vlD 0 0 [],.v (.bool false)]
theorem Literal_l (te:TypeId) (pe:Value) {s:List UInt8} (hT:¬ s=tT) (hF:¬ s=tF) {hit:Option Nat} (h:txI s 6=hit):FnP Tryz.prog (glV te pe) 119 [.str s] (optV (hit.map fun (i:Nat)=>((4:Int),(i:Int)))):=by
 refine S0 Tryz.func119 rfl ?_
 ((repeat' ((conv=>whnf);first|exact .intro|refine G ?_|intro _|refine .mk ?_ ?_|refine H ?_|fail));all_goals conv=>whnf)
 refine ⟨{ σ:=Nat,fr:=fun k=>[(14,.c (.d (iD k)))],ks:=[],L:=fun _=>[],ex:=0,I:=fun k=>k≤7∧(k=0∨txI s (7 - k)=hit),μ:=fun k=>7 - k },⟨0,⟨Nat.zero_le _,.inl rfl⟩,?_⟩,fun (k:Nat) hk=>?_⟩
 ·((repeat' first|exact rfl|((conv=>whnf);first|done|exact suL|refine And.intro ?_ ?_|fail));all_goals conv=>whnf)
 ·obtain ⟨hk1,hk2⟩:=hk
  by_cases hk7:k<7
  ·have hk7':(k:Int)<7:=by omega
   ((repeat' ((conv=>whnf);first|exact .intro|refine G ?_|intro _|refine .mk ?_ ?_|refine H ?_|fail));all_goals conv=>whnf)
   refine ⟨_,tx_get hk7,?_⟩
   ((repeat' ((conv=>whnf);first|exact .intro|refine G ?_|intro _|refine C1 (Wrong_d _) ?_|refine .mk ?_ ?_|refine H ?_|fail));all_goals conv=>whnf)
   ·rename_i h1 h2
    rcases hk2 with rfl|hk2
    ·exact absurd h1.symm h2
    ·rcases Nat.eq_zero_or_pos k with rfl|h0
     ·exact absurd h1.symm h2
     ·rw[txI_step h0 (by omega),if_pos h1] at hk2
      subst hk2
      exact LeD.rfl
   all_goals
    refine ⟨k+1,⟨⟨hk7,.inr ?_⟩,by show 7 - (k+1)<7 - k;omega⟩,?_⟩
    ·rcases Nat.eq_zero_or_pos k with rfl|h0
     ·exact h
     ·have hk3:=hk2.resolve_left (by omega)
      rw[txI_step h0 (by omega)] at hk3
      have hne:¬ tx.getD k []=s:=by
       first
        | assumption
        | (intro e
           have hs:s=[]:=by assumption
           rw[hs] at e
           exact tx_ne h0 hk7 e)
      rwa [if_neg hne] at hk3
    ·((repeat' first|exact rfl|((conv=>whnf);first|done|exact suL|refine And.intro ?_ ?_|fail));all_goals conv=>whnf)
     exact ceq (by rw[wrapI (by omega)];rfl)
  ·have hk7':¬ (k:Int)<7:=by omega
   have e7:k=7:=by omega
   subst e7
   have hh:txI s 0=hit:=hk2.resolve_left (by omega)
   subst hh
   ((repeat' ((conv=>whnf);first|exact .intro|refine G ?_|intro _|refine .mk ?_ ?_|refine H ?_|fail));all_goals conv=>whnf)
   exact LeD.rfl
theorem Literal_d (te:TypeId) (pe:Value) (s:List UInt8):FnP Tryz.prog (glV te pe) 119 [.str s] (optV (litZ s)):=by
 unfold litZ
 split
 ·rename_i hs
  subst hs
  refine S0 Tryz.func119 rfl ?_
  ((repeat' ((conv=>whnf);first|exact .intro|refine G ?_|intro _|refine C1 Is_t ?_|refine .mk ?_ ?_|refine H ?_|fail));all_goals conv=>whnf)
  all_goals exact LeD.rfl
 ·rename_i hs
  split
  ·rename_i hs2
   subst hs2
   refine S0 Tryz.func119 rfl ?_
   ((repeat' ((conv=>whnf);first|exact .intro|refine G ?_|intro _|refine C1 Is_f ?_|refine .mk ?_ ?_|refine H ?_|fail));all_goals conv=>whnf)
   all_goals exact LeD.rfl
  ·rename_i hs2
   exact Literal_l te pe hs hs2 rfl
theorem Wrongs_d:FnP Tryz.prog gl 56 [] (.lst 1 (tx.map fun t=>[.str t])):=by
 refine S0 Tryz.func56 rfl ?_
 ((repeat' ((conv=>whnf);first|exact .intro|refine G ?_|intro _|refine .mk ?_ ?_|refine AK ?_|refine And.intro (by first|(fail;done)|fail) ?_|fail));all_goals conv=>whnf)
 exact LeD.rfl
theorem txr_get {k:Nat} (h:k<7):(tx.map fun t=>[D.str t])[((k:Nat):Int).toNat]?=some [.str (tx.getD k [])]:=by
 have h':k<tx.length:=h
 rw[Int.toNat_natCast,List.getElem?_map,List.getElem?_eq_getElem h']
 simp[List.getD,List.getElem?_eq_getElem h']
theorem Named_l {s:List UInt8} (hT:¬ s=tT) (hF:¬ s=tF) {hit:Option Nat} (h:txI s 6=hit):FnP Tryz.prog gl 81 [.str s] (optV (hit.map fun (i:Nat)=>((4:Int),(i:Int)))):=by
 refine S0 Tryz.func81 rfl ?_
 ((repeat' ((conv=>whnf);first|exact .intro|refine G ?_|intro _|refine C1 Wrongs_d ?_|refine .mk ?_ ?_|refine H ?_|fail));all_goals conv=>whnf)
 refine ⟨{ σ:=Nat,fr:=fun k=>[(5,.c (.d (iD k)))],ks:=[],L:=fun _=>[],ex:=0,I:=fun k=>1≤k∧k≤7∧txI s (7 - k)=hit,μ:=fun k=>7 - k },⟨1,⟨Nat.le_refl _,by omega,h⟩,?_⟩,fun (k:Nat) hk=>?_⟩
 ·((repeat' first|exact rfl|((conv=>whnf);first|done|exact suL|refine And.intro ?_ ?_|fail));all_goals conv=>whnf)
 ·obtain ⟨h0,hk1,hk2⟩:=hk
  by_cases hk7:k<7
  ·have hk7':(k:Int)<7:=by omega
   rw[txI_step h0 (by omega)] at hk2
   by_cases hm:tx.getD k []=s
   ·rw[if_pos hm] at hk2
    subst hk2
    ((repeat' ((conv=>whnf);first|exact .intro|refine G ?_|intro _|refine .mk ?_ ?_|refine H ?_|fail));all_goals conv=>whnf)
    refine ⟨_,txr_get hk7,?_⟩
    ((repeat' ((conv=>whnf);first|exact .intro|refine G ?_|intro _|refine C1 (rBad_d _) ?_|refine .mk ?_ ?_|refine H ?_|fail));all_goals conv=>whnf)
    exact LeD.rfl
   ·rw[if_neg hm] at hk2
    ((repeat' ((conv=>whnf);first|exact .intro|refine G ?_|intro _|refine .mk ?_ ?_|refine H ?_|fail));all_goals conv=>whnf)
    refine ⟨_,txr_get hk7,?_⟩
    ((repeat' ((conv=>whnf);first|exact .intro|refine G ?_|intro _|refine .mk ?_ ?_|refine H ?_|fail));all_goals conv=>whnf)
    refine ⟨k+1,⟨⟨by omega,hk7,hk2⟩,by show 7 - (k+1)<7 - k;omega⟩,?_⟩
    ((repeat' first|exact rfl|((conv=>whnf);first|done|exact suL|refine And.intro ?_ ?_|fail));all_goals conv=>whnf)
    exact ceq (by rw[wrapI (by omega)];rfl)
  ·have hk7':¬ (k:Int)<7:=by omega
   have e7:k=7:=by omega
   subst e7
   have hh:txI s 0=hit:=hk2
   subst hh
   ((repeat' ((conv=>whnf);first|exact .intro|refine G ?_|intro _|refine .mk ?_ ?_|refine H ?_|fail));all_goals conv=>whnf)
   exact LeD.rfl
theorem Named_d (s:List UInt8):FnP Tryz.prog gl 81 [.str s] (optV (litZ s)):=by
 unfold litZ
 split
 ·rename_i hs
  subst hs
  refine S0 Tryz.func81 rfl ?_
  ((repeat' ((conv=>whnf);first|exact .intro|refine G ?_|intro _|refine C1 (rTru_y _ rfl) ?_|refine .mk ?_ ?_|refine H ?_|fail));all_goals conv=>whnf)
  all_goals exact LeD.rfl
 ·rename_i hs
  split
  ·rename_i hs2
   subst hs2
   refine S0 Tryz.func81 rfl ?_
   ((repeat' ((conv=>whnf);first|exact .intro|refine G ?_|intro _|refine .inl (.inl (X1 (rTru_n _ (by decide)) ?_))|refine .inl (X1 (rTru_n _ (by decide)) ?_)|refine X1 (rTru_n _ (by decide)) ?_|refine .mk ?_ ?_|refine H ?_|fail));all_goals conv=>whnf)
   all_goals exact LeD.rfl
  ·rename_i hs2
   exact Named_l hs hs2 rfl
structure Vl where
 k:Int
 n:Int
 s:List UInt8
def Vl.d (v:Vl):D:=vlD v.k v.n v.s
end
section
open Go Go.EYtfcmhmglpcimiaaGreatDoor
set_option maxRecDepth 100000
variable {gl:List (Nat×List D)}
theorem rvF_snoc (l:List UInt8) (c:UInt8) (acc:Nat):rvF acc (l++[c])=rvF acc l * 10+(c.toNat - 48):=by
 unfold rvF;rw[List.foldl_append];rfl
theorem decDigits_small {u:Nat} (h:u<10):Lib.decDigits u=[UInt8.ofNat (48+u)]:=by rw[Lib.decDigits];simp[h]
theorem decDigits_big {u:Nat} (h:¬ u<10):Lib.decDigits u=Lib.decDigits (u / 10)++[UInt8.ofNat (48+u % 10)]:=by rw[Lib.decDigits];simp[h]
theorem ofNat_dig {k:Nat} (h:k<10):(UInt8.ofNat (48+k)).toNat=48+k:=by rw[UInt8.toNat_ofNat'];omega
theorem dec_facts (u:Nat):rvF 0 (Lib.decDigits u)=u∧(∀ d ∈ Lib.decDigits u,isDig d)∧Lib.decDigits u≠[]∧(u≠0→(Lib.decDigits u).head?≠some 48):=by
 induction u using Nat.strongRecOn with
 | ind u ih =>
  by_cases h:u<10
  ·have hd:=ofNat_dig h
   rw[decDigits_small h]
   refine ⟨?_,?_,by simp,fun h0 e=>?_⟩
   ·show 0 * 10+((UInt8.ofNat (48+u)).toNat - 48)=u
    omega
   ·intro d hd'
    rw[List.mem_singleton.1 hd']
    unfold isDig;omega
   ·have e':UInt8.ofNat (48+u)=48:=by simpa using e
    rw[e'] at hd
    have:(48:UInt8).toNat=48:=rfl
    omega
  ·obtain ⟨h1,h2,h3,h4⟩:=ih (u / 10) (by omega)
   have hd:=ofNat_dig (k:=u % 10) (by omega)
   rw[decDigits_big h]
   refine ⟨?_,?_,by simp,fun h0 e=>?_⟩
   ·rw[rvF_snoc,h1];omega
   ·intro d hd'
    rcases List.mem_append.1 hd' with hd'|hd'
    ·exact h2 d hd'
    ·rw[List.mem_singleton.1 hd'];unfold isDig;omega
   ·rw[List.head?_append] at e
    cases hh:(Lib.decDigits (u / 10)).head? with
    | none=>exact h3 (by cases hq:Lib.decDigits (u / 10) with|nil=>rfl|cons a l=>rw[hq] at hh;cases hh)
    | some a=>rw[hh] at e;exact h4 (by omega) (by rw[hh];exact e)
theorem rvF_pos {l:List UInt8} (h:∀ d ∈ l,isDig d) (h0:l≠[]) (h1:l.head?≠some 48):0<rvF 0 l:=by
 cases l with
 | nil=>exact absurd rfl h0
 | cons a l =>
  have ha:=h a (by simp)
  have h2:=rvF_ge l (0 * 10+(a.toNat - 48))
  have e:rvF 0 (a::l)=rvF (0 * 10+(a.toNat - 48)) l:=rfl
  have h3:a.toNat≠48:=fun e=>h1 (by show some a=some 48;rw[UInt8.toNat_inj.1 (show a.toNat=(48:UInt8).toNat from e)])
  unfold isDig at ha
  omega
theorem dec_rv:∀ (n:Nat) (l:List UInt8),l.length=n→(∀ d ∈ l,isDig d)→l≠[]→l.head?≠some 48→Lib.decDigits (rvF 0 l)=l
 | 0,l,hn,_,h0,_=>absurd (List.eq_nil_of_length_eq_zero hn) h0
 | n+1,l,hn,h,h0,h1=>by
  obtain ⟨q,c,rfl⟩:∃ q c,l=q++[c]:=⟨l.dropLast,l.getLast h0,(List.dropLast_concat_getLast h0).symm⟩
  have hc:=h c (by simp)
  have hc':UInt8.ofNat (48+(c.toNat - 48))=c:=by
   apply UInt8.toNat_inj.1
   rw[ofNat_dig (by unfold isDig at hc;omega)]
   unfold isDig at hc;omega
  rw[rvF_snoc]
  by_cases hq:q=[]
  ·subst hq
   have e:rvF 0 ([]:List UInt8)=0:=rfl
   rw[e,decDigits_small (by unfold isDig at hc;omega),Nat.zero_mul,Nat.zero_add,hc'];rfl
  ·have hqd:∀ d ∈ q,isDig d:=fun d hd=>h d (by simp[hd])
   have hqh:q.head?≠some 48:=fun e=>h1 (by rw[List.head?_append,e];rfl)
   have hp:=rvF_pos hqd hq hqh
   have ih:=dec_rv n q (by simp at hn;omega) hqd hq hqh
   unfold isDig at hc
   rw[decDigits_big (by omega),show (rvF 0 q * 10+(c.toNat - 48)) / 10=rvF 0 q by omega,show (rvF 0 q * 10+(c.toNat - 48)) % 10=c.toNat - 48 by omega,ih,hc']
theorem whole_itoa {n:Int} (h:okI n):wholeZ (Lib.itoa n)=some n:=by
 unfold Lib.itoa
 by_cases hn:n<0
 ·rw[if_pos hn]
  obtain ⟨h1,h2,h3,h4⟩:=dec_facts n.natAbs
  have h5:=h4 (by omega)
  generalize Lib.decDigits n.natAbs=d at *
  have eu:unsg (45::d)=d:=rfl
  have hv:wholeV (45::d)=n:=by
   unfold wholeV
   rw[if_pos (show (45::d).head?=some 45 from rfl),eu,rv_all,h1];omega
  unfold wholeZ
  rw[hv,if_pos]
  exact ⟨⟨by rw[eu];exact h3,fun hh=>by rw[eu] at hh;exact h5 hh.1,by rw[eu];exact h2⟩,h⟩
 ·rw[if_neg hn]
  obtain ⟨h1,h2,h3,h4⟩:=dec_facts n.toNat
  have h45:¬ (Lib.decDigits n.toNat).head?=some 45:=by
   intro e
   cases hd:Lib.decDigits n.toNat with
   | nil=>rw[hd] at e;cases e
   | cons a l=>rw[hd] at e h2;cases e;have:=(h2 45 (by simp)).1;simp at this
  have h0:n.toNat=0→Lib.decDigits n.toNat=[48]:=fun e=>by rw[e];rw[decDigits_small (by omega)];rfl
  generalize Lib.decDigits n.toNat=d at *
  have eu:unsg d=d:=by unfold unsg;rw[if_neg h45]
  have hv:wholeV d=n:=by
   unfold wholeV
   rw[if_neg h45,eu,rv_all,h1];omega
  unfold wholeZ
  rw[hv,if_pos]
  refine ⟨⟨by rw[eu];exact h3,fun hh=>?_,by rw[eu];exact h2⟩,h⟩
  rw[eu] at hh
  by_cases hz:n.toNat=0
  ·exact hh.2 (h0 hz)
  ·exact h4 hz hh.1
theorem itoa_whole {s:List UInt8} {v:Int} (h:wholeZ s=some v):Lib.itoa v=s:=by
 unfold wholeZ at h
 split at h
 ·rename_i hh
  cases h
  obtain ⟨⟨h1,h2,h3⟩,h4⟩:=hh
  unfold wholeV at h4 ⊢
  rw[rv_all] at h4 ⊢
  by_cases h45:s.head?=some 45
  ·rw[if_pos h45]
   obtain ⟨l,rfl⟩:∃ l,s=45::l:=by
    cases s with
    | nil=>cases h45
    | cons a l=>cases h45;exact ⟨l,rfl⟩
   have eu:unsg (45::l)=l:=rfl
   rw[eu] at h1 h2 h3 h4 ⊢
   have hh:l.head?≠some 48:=fun e=>h2 ⟨e,by simp⟩
   have hp:=rvF_pos h3 h1 hh
   unfold Lib.itoa
   rw[if_pos (by omega),show (-(rvF 0 l:Int)).natAbs=rvF 0 l by omega,dec_rv _ l rfl h3 h1 hh]
  ·rw[if_neg h45]
   have eu:unsg s=s:=by unfold unsg;rw[if_neg h45]
   rw[eu] at h1 h2 h3 h4 ⊢
   unfold Lib.itoa
   rw[if_neg (by omega),Int.toNat_natCast]
   by_cases hh:s.head?=some 48
   ·have:s=[48]:=Classical.byContradiction fun e=>h2 ⟨hh,e⟩
    subst this
    show Lib.decDigits 0=[48]
    rw[decDigits_small (by omega)];rfl
   ·exact dec_rv _ s rfl h3 h1 hh
 ·cases h
theorem wholeZ_no {s:List UInt8} (h:∃ a ∈ unsg s,¬ isDig a):wholeZ s=none:=by
 unfold wholeZ
 rw[if_neg]
 rintro ⟨⟨_,_,h3⟩,_⟩
 obtain ⟨a,h1,h2⟩:=h
 exact h2 (h3 a h1)
end
section
open Go Go.ChangeShapes Go.WideShapes Go.ChangeAt Go.RowKit Go.EYtfcmhmglpcimiaaGreatDoor
set_option linter.unusedVariables false
set_option maxRecDepth 100000
theorem var_cells {w:World} {n:String} {g:Nat} {cs:Array Value} (hg:Tryz.prog.globalNamed n=some g) (h:w.var? Tryz.prog n=some cs):∃ t f,w.heap[g]?=some (Obj.cells cs t f):=by
 unfold World.var? at h
 rw[hg] at h
 simp only[Option.bind_some] at h
 split at h
 ·rename_i c t f hc;cases h;exact ⟨t,f,hc⟩
 ·cases h
theorem cells_of_strs {H:Type} {enc:TypeId×Value→H} {P:Program} {w:World} {base:Nat} {sp:Nat→Bool} {held:Bool} {fuel:Nat} {t e:TypeId} {n:Nat} {cs:List Value} {zs:List (List UInt8)} {p:List MemPlace}
 (ht:P.underlying t=some (.array n e)) (he:P.underlying e=some .string) (hce:P.cellsOf e=1) (hct:P.cellsOf t=n)
 (h:DataW.trod enc P w base sp held fuel t cs=some (.agg (zs.map fun z=>.lit (.string z)),p)):cs=zs.map fun z=>Value.string ⟨z.toArray⟩:=by
 cases fuel with
 | zero=>simp[DataW.trod] at h
 | succ fuel =>
  simp only[DataW.trod,ht,hce,hct,Nat.mul_one] at h
  split at h
  ·rename_i hl
   obtain ⟨xs,hm,hx⟩:=Option.map_eq_some_iff.1 h
   have hxs:xs.map (·.1)=zs.map fun z=>(DataW.lit (.string z):DataW H):=by
    have:=congrArg Prod.fst hx
    simpa using this
   have hxl:xs.length=n:=by simpa using Lib.mapM_length hm
   have hzl:zs.length=n:=by
    have:=congrArg List.length hxs
    simp at this
    omega
   apply List.ext_getElem?
   intro i
   by_cases hi:i<n
   ·obtain ⟨b,hb,hf⟩:=Lib.mapM_at hm i i (by simp[hi])
    obtain ⟨z,hc,rfl,_⟩:=DataW.trod_string he hf
    have h1:cs[i]?=some (.string z):=by
     have:=congrArg (·[0]?) hc
     simpa[List.getElem?_take,List.getElem?_drop] using this
    have h2:(xs.map (·.1))[i]?=some (DataW.lit (.string z.data.toList):DataW H):=by simp[hb]
    rw[hxs] at h2
    simp only[List.getElem?_map,Option.map_eq_some_iff,DataW.lit.injEq,Lit.string.injEq] at h2
    obtain ⟨z',hz',rfl⟩:=h2
    simp[h1,hz']
   ·rw[List.getElem?_eq_none (by omega),List.getElem?_eq_none (by simp;omega)]
  ·cases h
theorem all2_map {M:Nat→Prop} {w:World} {α:Type} {f:α→D} {g:α→Value} (h:∀ a,DenD M w (f a) (g a)):∀ l:List α,DenL M w (l.map f) (l.map g)
 | []=>trivial
 | a::l=>⟨h a,all2_map h l⟩
theorem lt_of_cells {w:World} {g:Nat} {cs:Array Value} (h:∃ t f,w.heap[g]?=some (Obj.cells cs t f)):g<w.heap.size:=by
 obtain ⟨t,f,h⟩:=h
 exact (Array.getElem?_eq_some_iff.1 h).1
def Holds1 (w:World) (g:Nat) (l:List D):Prop:=∃ xs:List Value,(∃ t f,w.heap[g]?=some (Obj.cells xs.toArray t f))∧DenL (fun _=>False) w l xs
theorem Glob.cons {w:World} {g:Nat} {l:List D} {gl:List (Nat×List D)} (h:Holds1 w g l) (hg:Glob gl (fun _=>False) w):Glob ((g,l)::gl) (fun _=>False) w:=by
 intro k m hl
 rw[look_cons] at hl
 split at hl
 ·rename_i e;cases hl;rw[← e]
  obtain ⟨xs,h1,h2⟩:=h
  exact ⟨fun h=>h,xs,h1,lt_of_cells h1,h2⟩
 ·exact hg k m hl
theorem var_texts {w:World} (h1:Lib.VarReads Tryz.prog w "sccsettle/value.texts" (.agg (tx.map fun z=>.lit (.string z)))):Holds1 w 2 (tx.map D.str):=by
 obtain ⟨g,t,cs,fuel,p,hg,ht,hv,hd⟩:=h1
 have e:(some g:Option Nat)=some 2:=hg.symm.trans (show Tryz.prog.globalNamed "sccsettle/value.texts" = some 2 by kernel_rfl)
 cases e
 have e:(some t:Option Nat)=some 219:=ht.symm.trans (by kernel_rfl)
 cases e
 have c1:=cells_of_strs (n:=7) (e:=9) Tryz.underlying219 Tryz.underlying9 (by kernel_rfl) (by kernel_rfl) hd
 have b1:=var_cells hg hv
 have c1':cs=(tx.map fun z=>Value.string ⟨z.toArray⟩).toArray:=by rw[← c1]
 subst c1'
 exact ⟨_,b1,all2_map (fun a=>.str a) tx⟩
theorem var_err {w:World} (h2:∃ d,Lib.VarReads Tryz.prog w "strconv.ErrRange" (.iface "*errors.errorString" d)):∃ te pe,Holds1 w 6 [.v (.iface te pe)]:=by
 obtain ⟨d2,g,t,cs2,fuel,p,hg2,ht2,hv2,hd2⟩:=h2
 have e:(some g:Option Nat)=some 6:=hg2.symm.trans (show Tryz.prog.globalNamed "strconv.ErrRange" = some 6 by kernel_rfl)
 cases e
 have e:(some t:Option Nat)=some 25:=ht2.symm.trans (by kernel_rfl)
 cases e
 obtain ⟨_,te,pe,c2,_,_⟩:=iface_of_trod Tryz.underlying25 hd2
 have b2:=var_cells hg2 hv2
 have c2':cs2=[Value.iface te pe].toArray:=by rw[← c2]
 subst c2'
 exact ⟨te,pe,_,b2,.v _,trivial⟩
theorem var_pow {w:World} (h3:Lib.VarReads Tryz.prog w "internal/strconv.uint64pow10" (Lib.tabData .u64 Lib.pow10Tab)):Holds1 w 8 (Lib.pow10Tab.map fun z=>D.v (.int .u64 z)):=by
 obtain ⟨g,t,cs3,fuel,p,hg3,ht3,hv3,hd3⟩:=h3
 have e:(some g:Option Nat)=some 8:=hg3.symm.trans (show Tryz.prog.globalNamed "internal/strconv.uint64pow10" = some 8 by kernel_rfl)
 cases e
 have e:(some t:Option Nat)=some 277:=ht3.symm.trans (by kernel_rfl)
 cases e
 have c3:=Lib.cells_of_tab (n:=20) (e:=196) Tryz.underlying277 Tryz.underlying196 (by kernel_rfl) (by kernel_rfl) hd3
 have b3:=var_cells hg3 hv3
 have c3':cs3=(Lib.pow10Tab.map fun z=>Value.int .u64 z).toArray:=by rw[← c3]
 subst c3'
 exact ⟨_,b3,all2_map (fun a=>.v _) Lib.pow10Tab⟩
theorem var_errT {w:World} (h:handlesMet Tryz.prog [("errors.errorType",Rows.laid_errors_errorType)] w):Holds1 w 0 errT:=by
 have et:Tryz.prog.globalNamed "errors.errorType" = some 0:=by kernel_rfl
 obtain ⟨name,u,ty,e1,e2,e3,e4,e5⟩:=h _ (List.mem_singleton.2 rfl)
 have en:name=[101,114,114,111,114]:=(Option.some.inj e1).symm
 subst en
 obtain rfl:=Option.some.inj ((show (Tryz.prog.cutTypes.find? (·.1 == "internal/reflectlite.rtype")).map (·.2)=some 148 by kernel_rfl).symm.trans e2)
 have hm:ty ∈ (List.range 308).filter fun t=>Tryz.prog.rowNamed t [101,114,114,111,114]:=List.mem_filter.2 ⟨List.mem_range.2 (by rw[← Door.size];exact e3),e4⟩
 rw[show ((List.range 308).filter fun t=>Tryz.prog.rowNamed t [101,114,114,111,114])=[25] by kernel_rfl] at hm
 obtain rfl:=List.mem_singleton.1 hm
 rw[show typeHandle Tryz.prog 25=.pointer (some ⟨11,25,none⟩) by kernel_rfl] at e5
 have b:=var_cells et e5
 exact ⟨[_],b,.v _,trivial⟩
theorem glob_V {w:World} (h1:Lib.VarReads Tryz.prog w "sccsettle/value.texts" (.agg (tx.map fun z=>.lit (.string z)))) (h2:∃ d,Lib.VarReads Tryz.prog w "strconv.ErrRange" (.iface "*errors.errorString" d)) (h3:Lib.VarReads Tryz.prog w "internal/strconv.uint64pow10" (Lib.tabData .u64 Lib.pow10Tab)) :
 ∃ te pe,Glob (glV te pe) (fun _=>False) w:=by
 obtain ⟨te,pe,h⟩:=var_err h2
 exact ⟨te,pe,Glob.cons (var_texts h1) (Glob.cons h (Glob.cons (var_pow h3) glob_none))⟩
end
section
open Go Go.EYtfcmhmglpcimiaaGreatDoor
set_option maxRecDepth 100000
variable {gl:List (Nat×List D)}
theorem Check_s {c r:Int} (h:okP c r):FnP Tryz.prog gl 19 [cellD c r] (errD 0):=by
 refine S0 Tryz.func19 rfl ?_
 ((repeat' ((conv=>whnf);first|exact .intro|refine G ?_|intro _|refine C1 (ok_d _ _) ?_|refine .mk ?_ ?_|refine H ?_|fail));all_goals conv=>whnf)
 exact LeD.rfl
theorem Check_n {c r:Int} (h:¬ okP c r):FnP Tryz.prog gl 19 [cellD c r] (errD 1):=by
 refine S0 Tryz.func19 rfl ?_
 ((repeat' ((conv=>whnf);first|exact .intro|refine G ?_|intro _|refine C1 (ok_d _ _) ?_|refine .mk ?_ ?_|refine H ?_|fail));all_goals conv=>whnf)
 exact LeD.rfl
abbrev rrBad:D:=.tup [refD 0 0 false false,tD false]
theorem rrBad_le:LeD (retD [D.agg [iD 0,iD 0,.v (.bool false),.v (.bool false)],.v (.bool false)]) rrBad:=noneR_le
theorem w01:IntKind.i64.wrap (0+1)=1:=by decide
theorem w011:IntKind.i64.wrap (IntKind.i64.wrap (0+1)+1)=2:=by decide
theorem w0111:IntKind.i64.wrap (IntKind.i64.wrap (IntKind.i64.wrap (0+1)+1)+1)=3:=by decide
theorem dl_inv1 {s:List UInt8} {b:Bool} (h:dl s=(b,[])):s=[]∨s=[36]:=by
 cases s with
 | nil=>exact .inl rfl
 | cons a s =>
  right
  by_cases ha:a=36
  ·simp only[dl,if_pos ha,Prod.mk.injEq] at h;rw[ha,h.2]
  ·simp only[dl,if_neg ha,Prod.mk.injEq] at h;cases h.2
theorem dl_inv2 {s t:List UInt8} {b:Bool} {ch:UInt8} (h:dl s=(b,ch::t)):(s=36::ch::t∧b=true)∨(s=ch::t∧ch≠36∧b=false):=by
 cases s with
 | nil=>cases h
 | cons a s =>
  by_cases ha:a=36
  ·simp only[dl,if_pos ha,Prod.mk.injEq] at h;left;rw[ha,h.2];exact ⟨rfl,h.1.symm⟩
  ·simp only[dl,if_neg ha,Prod.mk.injEq] at h;right;cases h.2;exact ⟨rfl,ha,h.1.symm⟩
theorem ne36 {c:UInt8} (h:c≠36):¬ ((c.toNat:Nat):Int)=36:=fun e=>h (UInt8.toNat_inj.1 (Int.ofNat.inj e))
theorem rRef_1 {s:List UInt8} {b:Bool} (h:dl s=(b,[])):FnP Tryz.prog gl 80 [.str s] rrBad:=by
 rcases dl_inv1 h with rfl|rfl
 ·refine S0 Tryz.func80 rfl ?_
  ((repeat' ((conv=>whnf);first|exact .intro|refine G ?_|intro _|refine .mk ?_ ?_|refine AK ?_|refine And.intro (by first|(first|assumption|omega|(simp;done)|(rw[w01];simp;done)|(rw[w01];simp;omega);done)|fail) ?_|fail));all_goals conv=>whnf)
  exact rrBad_le
 ·have f1:((([36]:List UInt8).length:Nat):Int)≤IntKind.i64.wrap (0+1):=by decide
  refine S0 Tryz.func80 rfl ?_
  ((repeat' ((conv=>whnf);first|exact .intro|refine G ?_|intro _|refine .mk ?_ ?_|refine AK ?_|refine And.intro (by first|(first|assumption|omega|(simp;done)|(rw[w01];simp;done)|(rw[w01];simp;omega);done)|fail) ?_|fail));all_goals conv=>whnf)
  all_goals first|exact rrBad_le
theorem rRef_2 {s t:List UInt8} {b:Bool} {ch:UInt8} (h:dl s=(b,ch::t)) (hc:¬ (65≤ch.toNat∧ch.toNat≤90)):FnP Tryz.prog gl 80 [.str s] rrBad:=by
 rcases dl_inv2 h with ⟨rfl,_⟩|⟨rfl,h36,_⟩
 ·have f1:¬ (((36::ch::t).length:Nat):Int)≤IntKind.i64.wrap (0+1):=by rw[w01];simp;try omega
  have fe:(36::ch::t).getD (IntKind.i64.wrap (0+1)).toNat 0=ch:=by rw[w01];rfl
  by_cases hlo:(((36::ch::t).getD (IntKind.i64.wrap (0+1)).toNat 0).toNat:Int)<65
  ·refine S0 Tryz.func80 rfl ?_
   ((repeat' ((conv=>whnf);first|exact .intro|refine G ?_|intro _|refine .mk ?_ ?_|refine AK ?_|refine And.intro (by first|(first|assumption|omega|(simp;done)|(rw[w01];simp;done)|(rw[w01];simp;omega);done)|fail) ?_|fail));all_goals conv=>whnf)
   all_goals first|exact rrBad_le
  ·have hhi:90<(((36::ch::t).getD (IntKind.i64.wrap (0+1)).toNat 0).toNat:Int):=by rw[fe] at hlo ⊢;omega
   refine S0 Tryz.func80 rfl ?_
   ((repeat' ((conv=>whnf);first|exact .intro|refine G ?_|intro _|refine .mk ?_ ?_|refine AK ?_|refine And.intro (by first|(first|assumption|omega|(simp;done)|(rw[w01];simp;done)|(rw[w01];simp;omega);done)|fail) ?_|fail));all_goals conv=>whnf)
   all_goals first|exact rrBad_le
 ·have f0:¬ (((ch::t).getD (Int.toNat 0) 0).toNat:Int)=36:=ne36 h36
  have f1:¬ (((ch::t).length:Nat):Int)≤0:=by simp;try omega
  by_cases hlo:(((ch::t).getD (Int.toNat 0) 0).toNat:Int)<65
  ·refine S0 Tryz.func80 rfl ?_
   ((repeat' ((conv=>whnf);first|exact .intro|refine G ?_|intro _|refine .mk ?_ ?_|refine AK ?_|refine And.intro (by first|(first|assumption|omega|(simp;done)|(rw[w01];simp;done)|(rw[w01];simp;omega);done)|fail) ?_|fail));all_goals conv=>whnf)
   all_goals first|exact rrBad_le
  ·have hhi:90<(((ch::t).getD (Int.toNat 0) 0).toNat:Int):=by
    have hlo':¬ ((ch.toNat:Nat):Int)<65:=hlo
    show 90<((ch.toNat:Nat):Int)
    omega
   refine S0 Tryz.func80 rfl ?_
   ((repeat' ((conv=>whnf);first|exact .intro|refine G ?_|intro _|refine .mk ?_ ?_|refine AK ?_|refine And.intro (by first|(first|assumption|omega|(simp;done)|(rw[w01];simp;done)|(rw[w01];simp;omega);done)|fail) ?_|fail));all_goals conv=>whnf)
   all_goals first|exact rrBad_le
end
section
open Go Go.EYtfcmhmglpcimiaaGreatDoor
structure Fl where
 c:Int
 r:Int
 t:List UInt8
abbrev flD (f:Fl):List D:=[iD f.c,iD f.r,.str f.t]
abbrev lessF (a b:Fl):Prop:=a.r<b.r∨a.r=b.r∧a.c<b.c
end
end Go.Proofs.YtfcmhmglpcimiaaGreatDoor
