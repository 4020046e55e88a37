/- Proved: a part of what the law is proved with (the reckoner, contracts of functions, plain laws). Conditions: as each says. -/
import Derived.Test.YtcdjjjokniinkaaGreatDoorYIb
section
namespace Go.Proofs.YtcdjjjokniinkaaGreatDoor
open Go Go.EYtcdjjjokniinkaaGreatDoor
set_option maxRecDepth 100000
def lvs:Nat→List (Nat×List UInt8)
 | 0=>[(2,[60,62]),(4,[60,61]),(6,[62,61]),(1,[61]),(3,[60]),(5,[62])]
 | 1=>[(7,[38])]
 | 2=>[(8,[43]),(9,[45])]
 | _=>[(10,[42]),(11,[47])]
def lvR (l:Nat):List (List D):=(lvs l).map fun q=>[.str q.2]
def lvD (l:Nat):D:=.lst 1 (lvR l)
abbrev lvAll:List D:=[lvD 0,lvD 1,lvD 2,lvD 3]
def lvF:List (Nat×List UInt8)→List UInt8→Option (Nat×Nat)
 | [],_=>none
 | q::r,t=>if q.2.length≤t.length∧t.take q.2.length=q.2 then some (q.1,q.2.length) else lvF r t
theorem lvR_len (l:Nat):(lvR l).length=(lvs l).length:=by unfold lvR;rw[List.length_map]
theorem lvs_len (l:Nat):(lvs l).length≤6:=by unfold lvs;split <;> decide
theorem lv_get {l k:Nat} (h:k<(lvs l).length):(lvR l)[((k:Nat):Int).toNat]?=some [.str ((lvs l)[k]).2]:=by
 rw[Int.toNat_natCast,lvR,List.getElem?_map,List.getElem?_eq_getElem h]
 rfl
theorem lv_cut {l:Nat} (h:l≤3):cut lvAll (((l:Nat):Int).toNat * 1) 1=[lvD l]:=by
 match l,h with
 | 0,_=>rfl
 | 1,_=>rfl
 | 2,_=>rfl
 | 3,_=>rfl
theorem lv_mem {l k:Nat} (h:k<(lvs l).length):(lvs l)[k] ∈ [(1,[61]),(2,[60,62]),(3,[60]),(4,[60,61]),(5,[62]),(6,[62,61]),(7,[38]),(8,[43]),(9,[45]),(10,[42]),(11,([47]:List UInt8))]:=by
 have key:∀ q ∈ lvs l,q ∈ [(1,[61]),(2,[60,62]),(3,[60]),(4,[60,61]),(5,[62]),(6,[62,61]),(7,[38]),(8,[43]),(9,[45]),(10,[42]),(11,([47]:List UInt8))]:=by
  unfold lvs
  split <;> (intro q hq;simp only[List.mem_cons,List.not_mem_nil,or_false] at hq;rcases hq with rfl|rfl|rfl|rfl|rfl|rfl) <;> simp
 exact key _ (List.getElem_mem h)
theorem lvF_drop {l k:Nat} (h:k<(lvs l).length) (t:List UInt8):lvF ((lvs l).drop k) t=if ((lvs l)[k]).2.length≤t.length∧t.take ((lvs l)[k]).2.length=((lvs l)[k]).2 then some (((lvs l)[k]).1,((lvs l)[k]).2.length) else lvF ((lvs l).drop (k+1)) t:=by
 rw[List.drop_eq_getElem_cons h,lvF]
theorem opT_not {a:UInt8} {r:List UInt8} (h1:a≠61) (h2:a≠60) (h3:a≠62) (h4:a≠38) (h5:a≠43) (h6:a≠45) (h7:a≠42) (h8:a≠47):opT (a::r)=none:=by
 unfold opT
 split <;> simp_all
theorem lv_spec {l:Nat} (hl:l≤3) (t:List UInt8):lvF (lvs l) t=(opT t).filter fun q=>decide (tgt q.1=l+1):=by
 cases t with
 | nil=>match l,hl with
  | 0,_=>rfl
  | 1,_=>rfl
  | 2,_=>rfl
  | 3,_=>rfl
 | cons a r =>
  by_cases h1:a=61
  ·subst h1
   match l,hl with
   | 0,_=>cases r <;> simp[lvF,lvs,opT,tgt,Option.filter]
   | 1,_=>cases r <;> simp[lvF,lvs,opT,tgt,Option.filter]
   | 2,_=>cases r <;> simp[lvF,lvs,opT,tgt,Option.filter]
   | 3,_=>cases r <;> simp[lvF,lvs,opT,tgt,Option.filter]
  by_cases h4:a=38
  ·subst h4
   match l,hl with
   | 0,_=>cases r <;> simp[lvF,lvs,opT,tgt,Option.filter]
   | 1,_=>cases r <;> simp[lvF,lvs,opT,tgt,Option.filter]
   | 2,_=>cases r <;> simp[lvF,lvs,opT,tgt,Option.filter]
   | 3,_=>cases r <;> simp[lvF,lvs,opT,tgt,Option.filter]
  by_cases h5:a=43
  ·subst h5
   match l,hl with
   | 0,_=>cases r <;> simp[lvF,lvs,opT,tgt,Option.filter]
   | 1,_=>cases r <;> simp[lvF,lvs,opT,tgt,Option.filter]
   | 2,_=>cases r <;> simp[lvF,lvs,opT,tgt,Option.filter]
   | 3,_=>cases r <;> simp[lvF,lvs,opT,tgt,Option.filter]
  by_cases h6:a=45
  ·subst h6
   match l,hl with
   | 0,_=>cases r <;> simp[lvF,lvs,opT,tgt,Option.filter]
   | 1,_=>cases r <;> simp[lvF,lvs,opT,tgt,Option.filter]
   | 2,_=>cases r <;> simp[lvF,lvs,opT,tgt,Option.filter]
   | 3,_=>cases r <;> simp[lvF,lvs,opT,tgt,Option.filter]
  by_cases h7:a=42
  ·subst h7
   match l,hl with
   | 0,_=>cases r <;> simp[lvF,lvs,opT,tgt,Option.filter]
   | 1,_=>cases r <;> simp[lvF,lvs,opT,tgt,Option.filter]
   | 2,_=>cases r <;> simp[lvF,lvs,opT,tgt,Option.filter]
   | 3,_=>cases r <;> simp[lvF,lvs,opT,tgt,Option.filter]
  by_cases h8:a=47
  ·subst h8
   match l,hl with
   | 0,_=>cases r <;> simp[lvF,lvs,opT,tgt,Option.filter]
   | 1,_=>cases r <;> simp[lvF,lvs,opT,tgt,Option.filter]
   | 2,_=>cases r <;> simp[lvF,lvs,opT,tgt,Option.filter]
   | 3,_=>cases r <;> simp[lvF,lvs,opT,tgt,Option.filter]
  by_cases h2:a=60
  ·subst h2
   cases r with
   | nil =>
    match l,hl with
    | 0,_=>rfl
    | 1,_=>rfl
    | 2,_=>rfl
    | 3,_=>rfl
   | cons b r =>
    by_cases e1:b=62
    ·subst e1
     match l,hl with
     | 0,_=>simp[lvF,lvs,opT,tgt,Option.filter]
     | 1,_=>simp[lvF,lvs,opT,tgt,Option.filter]
     | 2,_=>simp[lvF,lvs,opT,tgt,Option.filter]
     | 3,_=>simp[lvF,lvs,opT,tgt,Option.filter]
    by_cases e2:b=61
    ·subst e2
     match l,hl with
     | 0,_=>simp[lvF,lvs,opT,tgt,Option.filter]
     | 1,_=>simp[lvF,lvs,opT,tgt,Option.filter]
     | 2,_=>simp[lvF,lvs,opT,tgt,Option.filter]
     | 3,_=>simp[lvF,lvs,opT,tgt,Option.filter]
    have e:opT (60::b::r)=some (3,1):=by unfold opT;split <;> simp_all
    rw[e]
    match l,hl with
    | 0,_=>simp[lvF,lvs,tgt,Option.filter,e1,e2]
    | 1,_=>simp[lvF,lvs,tgt,Option.filter]
    | 2,_=>simp[lvF,lvs,tgt,Option.filter]
    | 3,_=>simp[lvF,lvs,tgt,Option.filter]
  by_cases h3:a=62
  ·subst h3
   cases r with
   | nil =>
    match l,hl with
    | 0,_=>rfl
    | 1,_=>rfl
    | 2,_=>rfl
    | 3,_=>rfl
   | cons b r =>
    by_cases e2:b=61
    ·subst e2
     match l,hl with
     | 0,_=>simp[lvF,lvs,opT,tgt,Option.filter]
     | 1,_=>simp[lvF,lvs,opT,tgt,Option.filter]
     | 2,_=>simp[lvF,lvs,opT,tgt,Option.filter]
     | 3,_=>simp[lvF,lvs,opT,tgt,Option.filter]
    have e:opT (62::b::r)=some (5,1):=by unfold opT;split <;> simp_all
    rw[e]
    match l,hl with
    | 0,_=>simp[lvF,lvs,tgt,Option.filter,e2]
    | 1,_=>simp[lvF,lvs,tgt,Option.filter]
    | 2,_=>simp[lvF,lvs,tgt,Option.filter]
    | 3,_=>simp[lvF,lvs,tgt,Option.filter]
  rw[opT_not h1 h2 h3 h4 h5 h6 h7 h8]
  match l,hl with
  | 0,_=>simp[lvF,lvs,h1,h2,h3]
  | 1,_=>simp[lvF,lvs,h4]
  | 2,_=>simp[lvF,lvs,h5,h6]
  | 3,_=>simp[lvF,lvs,h7,h8]
end Go.Proofs.YtcdjjjokniinkaaGreatDoor
end
