/- Proved: a part of what the law is proved with (the reckoner, contracts of functions, plain laws). Conditions: as each says. -/
import Derived.Test.YtfkjhfdpphfjhaaGreatDoorYBj
import Derived.Test.YtfkjhfdpphfjhaaGreatDoorYDa
section
namespace Go.Proofs.YtfkjhfdpphfjhaaGreatDoor
open Go Go.EYtfkjhfdpphfjhaaGreatDoor
set_option maxRecDepth 100000
theorem ok_num {n:Int} (h:okI n):(⟨1,n,[]⟩:Vl).ok:=⟨.inr (.inl ⟨rfl,rfl⟩),h⟩
theorem ok_txt {s:List UInt8} (h:s.length≤200):(⟨2,0,s⟩:Vl).ok:=⟨.inr (.inr (.inl ⟨rfl,rfl,h⟩)),by show okI 0;decide⟩
theorem ok_tru {n:Int} (h:n=0∨n=1):(⟨3,n,[]⟩:Vl).ok:=⟨.inr (.inr (.inr (.inl ⟨rfl,h,rfl⟩))),by show okI n;omega⟩
theorem ok_bad {n:Int} (h:1≤n) (h':n≤6):(⟨4,n,[]⟩:Vl).ok:=⟨.inr (.inr (.inr (.inr ⟨rfl,h,h',rfl⟩))),by show okI n;omega⟩
theorem ok_blank:(⟨0,0,[]⟩:Vl).ok:=⟨.inl ⟨rfl,rfl,rfl⟩,by show okI 0;decide⟩
theorem ok_wr:wrV.ok:=ok_bad (by decide) (by decide)
theorem ok_truD (p:Prop) [Decidable p]:(truD p).ok:=ok_tru (by by_cases h:p <;> simp[h])
theorem rg_ok (z:Int):(rg z).ok:=by
 unfold rg
 split
 ·exact ok_num ‹_›
 ·exact ok_bad (by decide) (by decide)
theorem rkV_ok (op x y:Int):(rkV op x y).ok:=by
 unfold rkV
 repeat' split
 all_goals first|exact rg_ok _|exact ok_bad (by decide) (by decide)
theorem cmpN_01 (op c:Int):cmpN op c=0∨cmpN op c=1:=by
 unfold cmpN
 repeat' split
 all_goals simp
theorem twoV_ok (op:Int) {a b:Vl} (ha:a.ok) (hb:b.ok):(twoV op a b).ok:=by
 unfold twoV
 repeat' split
 all_goals first|exact ha|exact hb|exact (numV_ok ha).1|exact (numV_ok hb).1|exact rkV_ok _ _ _|exact ok_bad (by decide) (by decide)|exact ok_tru (cmpN_01 _ _)|exact ok_txt (by omega)
theorem truV_ok {v:Vl} (h:v.ok):(truV v).ok∧((truV v).k=3∨(truV v).k=4):=by
 unfold truV
 repeat' split
 ·rename_i hk;exact ⟨h,hk⟩
 ·exact ⟨ok_tru (.inr rfl),.inl rfl⟩
 ·exact ⟨ok_tru (.inl rfl),.inl rfl⟩
 ·exact ⟨ok_wr,.inr rfl⟩
 ·exact ⟨ok_tru (.inl rfl),.inl rfl⟩
 ·exact ⟨ok_tru (.inr rfl),.inl rfl⟩
theorem tru_n {v:Vl} (h:v.ok) (hk:¬ (truV v).k=4):(truV v).n=0∨(truV v).n=1:=by
 obtain ⟨⟨h1,_⟩,h2⟩:=truV_ok h
 rcases h1 with h1|h1|h1|h1|h1
 ·omega
 ·omega
 ·omega
 ·exact h1.2.1
 ·omega
theorem modV_ok {a b:Vl} (ha:a.ok) (hb:b.ok):(modV a b).ok:=by
 unfold modV
 repeat' split
 ·exact (numV_ok ha).1
 ·exact (numV_ok hb).1
 ·exact ok_bad (by decide) (by decide)
 ·rename_i h;exact ok_num (fmod_okI (numV_ok ha).1.2 (numV_ok hb).1.2 h)
theorem sumL_ok {l:List Int} (h:∀ n ∈ l,okI n):(sumL l).ok:=by
 unfold sumL
 have:∀ (l:List Int) (s:Vl),s.ok→(∀ n ∈ l,okI n)→(l.foldl (fun s n=>twoV 8 s ⟨1,n,[]⟩) s).ok:=by
  intro l
  induction l with
  | nil=>exact fun s hs _=>hs
  | cons x r ih=>exact fun s hs hl=>ih _ (twoV_ok 8 hs (ok_num (hl x (by simp)))) fun n hn=>hl n (by simp[hn])
 exact this l _ (ok_num (by decide)) h
theorem mmL_ok (t:List UInt8) {l:List Int} (h:∀ n ∈ l,okI n):okI (mmL t l):=by
 have:∀ (l:List Int) (o:Int),okI o→(∀ n ∈ l,okI n)→okI (l.foldl (mmS t) o):=by
  intro l
  induction l with
  | nil=>exact fun s hs _=>hs
  | cons x r ih=>exact fun s hs hl=>ih _ (by unfold mmS;split <;> first|exact hl x (by simp)|exact hs) fun n hn=>hl n (by simp[hn])
 cases l with
 | nil=>show okI 0;decide
 | cons x r=>exact this r x (h x (by simp)) fun n hn=>h n (by simp[hn])
theorem numbersV_ok (t:List UInt8) {l:List Int} (h:∀ n ∈ l,okI n) (hl:l.length≤1048576):(numbersV t l).ok:=by
 unfold numbersV
 repeat' split
 ·exact ok_num (mmL_ok t h)
 ·exact twoV_ok 11 (sumL_ok h) (ok_num (by show okI (l.length:Int);omega))
 ·exact sumL_ok h
theorem fold_inv {α β:Type} {f:β→α→β} {p:Nat→β→Prop}:∀ (l:List α) (k:Nat) (b:β),p k b→(∀ k b a,a ∈ l→p k b→p (k+1) (f b a))→p (k+l.length) (l.foldl f b)
 | [],_,_,h,_=>h
 | a::l,k,b,h,hs=>by
  have:=fold_inv l (k+1) (f b a) (hs k b a (by simp) h) fun k b x hx=>hs k b x (by simp[hx])
  rw[List.length_cons,List.foldl_cons]
  rwa [show k+(l.length+1)=k+1+l.length by omega]
theorem numS_inv {l:List (Bool×Vl)} (h:∀ p ∈ l,p.2.ok):((∀ n ∈ (l.foldl numS ⟨[],⟨0,0,[]⟩⟩).all,okI n)∧(l.foldl numS ⟨[],⟨0,0,[]⟩⟩).all.length≤l.length)∧(l.foldl numS ⟨[],⟨0,0,[]⟩⟩).bad.ok:=by
 have:=fold_inv (f:=numS) (p:=fun k s=>((∀ n ∈ s.all,okI n)∧s.all.length≤k)∧s.bad.ok) l 0 ⟨[],⟨0,0,[]⟩⟩ ⟨⟨(fun n hn=>nomatch hn),Nat.le_refl _⟩,ok_blank⟩ fun k s p hp hs=>by
  obtain ⟨⟨h1,h2⟩,h3⟩:=hs
  have ho:=(numV_ok (h p hp)).1
  unfold numS
  split
  ·exact ⟨⟨h1,by omega⟩,h3⟩
  ·unfold numO
   split
   ·exact ⟨⟨h1,by omega⟩,h3⟩
   ·split
    ·refine ⟨⟨fun n hn=>?_,?_⟩,ho⟩
     ·rcases List.mem_append.1 hn with hn|hn
      ·exact h1 n hn
      ·rw[List.mem_singleton.1 hn];exact ho.2
     ·rw[List.length_append];simp;omega
    ·exact ⟨⟨h1,by show s.all.length≤k+1;omega⟩,ho⟩
 simpa using this
theorem logS_inv (and:Bool) {l:List (Bool×Vl)} (h:∀ p ∈ l,p.2.ok) (o:Bool):(l.foldl (logS and) ⟨0,⟨0,0,[]⟩,o⟩).bad.ok:=by
 have:=fold_inv (f:=logS and) (p:=fun _ s=>s.bad.ok) l 0 ⟨0,⟨0,0,[]⟩,o⟩ ok_blank fun k s p hp hs=>by
  unfold logS
  split
  ·exact hs
  ·unfold logO
   split
   ·exact hs
   ·exact (truV_ok (h p hp)).1
 exact this
theorem cntS_le (t:List UInt8) (l:List (Bool×Vl)):l.foldl (cntS t) 0≤l.length:=by
 have:=fold_inv (f:=cntS t) (p:=fun k s=>s≤k) l 0 0 (Nat.le_refl _) fun k s p _ hs=>by
  unfold cntS
  split <;> omega
 simpa using this
theorem catS_ok {l:List (Bool×Vl)} (h:∀ p ∈ l,p.2.ok):(l.foldl catS ⟨2,0,[]⟩).ok :=
 fold_inv (f:=catS) (p:=fun _ s=>s.ok) l 0 ⟨2,0,[]⟩ (ok_txt (by simp)) fun _ _ p hp hs=>twoV_ok 7 hs (h p hp)
theorem manyF_ok (t:List UInt8) {l:List (Bool×Vl)} (h:∀ p ∈ l,p.2.ok) (hl:l.length≤1048576):(manyF t l).ok:=by
 unfold manyF
 split
 ·have:=cntS_le t l
  exact ok_num (by show okI ((l.foldl (cntS t) 0:Nat):Int);omega)
 ·split
  ·exact catS_ok h
  ·split
   ·unfold logicV
    split
    ·exact logS_inv _ h _
    ·split
     ·exact ok_wr
     ·exact ok_tru (by split <;> simp)
   ·obtain ⟨⟨h1,h2⟩,h3⟩:=numS_inv h
    simp only
    split
    ·exact h3
    ·exact numbersV_ok t h1 (by omega)
theorem powL_ok {a:Vl} (ha:a.ok):∀ n,(powL a n).ok
 | 0=>ok_num (by decide)
 | n+1=>twoV_ok 10 (powL_ok ha n) ha
def Ar.ok:Ar→Prop
 | .one v=>v.ok
 | .box vs w=>(∀ v ∈ vs,v.ok)∧vs.length≤2574∧w≤26
theorem Ar.v_ok {a:Ar} (h:a.ok):a.v.ok:=by
 cases a with
 | one v=>exact h
 | box vs w=>exact ok_wr
theorem getD_ok {l:List Vl} (h:∀ v ∈ l,v.ok) (i:Nat):(l.getD i wrV).ok:=by
 rw[List.getD_eq_getElem?_getD]
 by_cases hi:i<l.length
 ·rw[List.getElem?_eq_getElem hi];exact h _ (List.getElem_mem hi)
 ·rw[List.getElem?_eq_none (by omega)];exact ok_wr
theorem aI_ok {ag:List Ar} (h:∀ a ∈ ag,a.ok) (i:Nat):(aI ag i).ok:=by
 unfold aI
 rw[List.getD_eq_getElem?_getD]
 by_cases hi:i<ag.length
 ·rw[List.getElem?_eq_getElem hi];exact h _ (List.getElem_mem hi)
 ·rw[List.getElem?_eq_none (by omega)];exact ok_wr
theorem badL_ok {l:List Vl} (h:∀ v ∈ l,v.ok) {b:Vl} (hb:badL l=some b):b.ok∧b.k=4:=by
 unfold badL at hb
 exact ⟨h b (List.mem_of_find?_eq_some hb),by simpa using List.find?_some hb⟩
theorem chosenV_ok (t:List UInt8) {l:List Vl} (h:∀ v ∈ l,v.ok):(chosenV t l).ok:=by
 unfold chosenV v0 v1 v2
 repeat' split
 all_goals first|exact getD_ok h _|exact (numV_ok (getD_ok h _)).1|exact (truV_ok (getD_ok h _)).1|exact ok_wr|exact ok_tru (.inl rfl)
theorem neg_ok {z:Vl} (h:z.ok):(twoV 9 ⟨1,0,[]⟩ z).ok:=twoV_ok 9 (ok_num (by decide)) h
theorem sgnZ_ok (c:Int):okI (sgnZ c):=by
 unfold sgnZ
 repeat' split
 all_goals decide
theorem reckV_ok (t:List UInt8) {l:List Vl} (h:∀ v ∈ l,v.ok):(reckV t l).ok:=by
 have h0:=getD_ok h 0
 have h1:=getD_ok h 1
 unfold reckV v0 v1
 split
 ·split
  ·exact (truV_ok h0).1
  ·rename_i hk
   exact ok_tru (by have:=tru_n h0 hk;omega)
 ·repeat' split
  all_goals first|exact (numV_ok h0).1|exact neg_ok (numV_ok h0).1|exact ok_num (sgnZ_ok _)|exact modV_ok (numV_ok h0).1 h1|exact (numV_ok h1).1|exact ok_bad (by decide) (by decide)|exact powL_ok (numV_ok h0).1 _
theorem cutV_ok (t:List UInt8) {s:List UInt8} (h:s.length≤200) (n m:Int):(cutV t s n m).ok:=by
 unfold cutV
 split
 ·split
  ·exact ok_wr
  ·split
   ·exact ok_wr
   ·exact ok_txt (by rw[List.length_take,List.length_drop];omega)
 ·split
  ·exact ok_wr
  ·split
   ·exact ok_txt (by rw[List.length_drop];omega)
   ·split
    ·split
     ·exact ok_txt (by simp)
     ·split
      ·exact ok_wr
      ·rename_i h1 h2
       refine ok_txt ?_
       have hp:0<s.length:=List.length_pos_iff.2 h1
       have h3:n≤200 / (s.length:Int):=by omega
       have h4:n * (s.length:Int)≤200:=Int.le_trans (Int.mul_le_mul_of_nonneg_right h3 (by omega)) (Int.ediv_mul_le _ (by omega))
       have h5:((n.toNat * s.length:Nat):Int)=n * (s.length:Int):=by rw[Int.natCast_mul,Int.toNat_of_nonneg (by omega)]
       simp
       omega
    ·exact ok_txt (by rw[List.length_take];omega)
theorem textV_ok (t:List UInt8) {l:List Vl} (h:∀ v ∈ l,v.ok) (hi:okI (Lib.index (showV (v1 l)) (showV (v0 l))+1)):(textV t l).ok:=by
 have s0:=showV_len (getD_ok h 0)
 unfold textV
 split
 ·exact ok_num (by show okI ((showV (l.getD 0 wrV)).length:Int);omega)
 ·split
  ·exact ok_txt (by rw[List.length_map];exact s0)
  ·split
   ·exact ok_truD _
   ·split
    ·split
     ·exact ok_wr
     ·exact ok_num hi
    ·split
     ·rename_i b hb
      refine (badL_ok (fun v hv=>?_) hb).1
      obtain ⟨x,hx,rfl⟩:=List.mem_map.1 hv
      exact (numV_ok (h x (List.mem_of_mem_tail hx))).1
     ·exact cutV_ok t s0 _ _
theorem sumifL_ok {v:Vl}:∀ (l:List (Vl×Vl)) (all:List Int),(∀ p ∈ l,p.2.ok)→(∀ n ∈ all,okI n)→(sumifL v l all).ok
 | [],all,_,h=>sumL_ok h
 | (x,s)::r,all,hl,h=>by
  have hs:s.ok:=hl (x,s) (by simp)
  have hr:∀ p ∈ r,p.2.ok:=fun p hp=>hl p (by simp[hp])
  rw[sumifL]
  split
  ·split
   ·exact hs
   ·split
    ·refine sumifL_ok r _ hr fun n hn=>?_
     rcases List.mem_append.1 hn with hn|hn
     ·exact h n hn
     ·rw[List.mem_singleton.1 hn];exact hs.2
    ·exact sumifL_ok r _ hr h
  ·exact sumifL_ok r _ hr h
theorem indexV_ok {vs:List Vl} (w:Nat) {a b:Vl} (hv:∀ v ∈ vs,v.ok) (ha:a.ok) (hb:b.ok):(indexV vs w a b).ok:=by
 unfold indexV
 split
 ·rename_i x hx
  exact (badL_ok (fun v hv=>by rcases List.mem_cons.1 hv with rfl|hv;exact ha;rw[List.mem_singleton.1 hv];exact hb) hx).1
 ·split
  ·rename_i x hx
   exact (badL_ok (fun v hv=>by rcases List.mem_cons.1 hv with rfl|hv;exact (numV_ok ha).1;rw[List.mem_singleton.1 hv];exact (numV_ok hb).1) hx).1
  ·split
   ·exact ok_bad (by decide) (by decide)
   ·exact getD_ok hv _
theorem boxedV_ok (t:List UInt8) {ag:List Ar} (h:∀ a ∈ ag,a.ok):(boxedV t ag).ok:=by
 have h0:=Ar.v_ok (aI_ok h 0)
 have h1:=Ar.v_ok (aI_ok h 1)
 have h2:=Ar.v_ok (aI_ok h 2)
 unfold boxedV
 split
 ·exact ok_wr
 ·rename_i vs w hb
  have hB:(∀ v ∈ vs,v.ok)∧vs.length≤2574∧w≤26:=by
   have:=aI_ok h (if t=nMATCH∨t=nLOOKUP then 1 else 0)
   generalize aI ag (if t=nMATCH∨t=nLOOKUP then 1 else 0)=a at *
   cases a with
   | one v=>cases hb
   | box vs' w'=>cases hb;exact this
  obtain ⟨b1,b2,b3⟩:=hB
  have hd:vs.length / w≤vs.length:=Nat.div_le_self _ _
  unfold boxV
  split
  ·exact ok_num (by show okI ((vs.length / w:Nat):Int);generalize vs.length / w=q at *;omega)
  ·split
   ·exact ok_num (by show okI (w:Int);omega)
   ·split
    ·exact indexV_ok w b1 h1 h2
    ·split
     ·split
      ·exact h0
      ·unfold matchV
       split
       ·rename_i i hi
        have:=(List.findIdx?_eq_some_iff_getElem.1 hi).1
        exact ok_num (by show okI ((i:Int)+1);omega)
       ·exact ok_bad (by decide) (by decide)
     ·split
      ·split
       ·exact h0
       ·unfold lookV
        repeat' split
        all_goals first|exact (numV_ok h2).1|exact ok_bad (by decide) (by decide)|exact getD_ok b1 _
      ·split
       ·split
        ·exact h1
        ·have:=List.countP_le_length (p:=fun x=>decide (alikeP x (aI ag 1).v)) (l:=vs)
         unfold cntifV
         exact ok_num (by show okI ((vs.countP fun x=>decide (alikeP x (aI ag 1).v):Nat):Int);omega)
       ·split
        ·exact ok_wr
        ·split
         ·exact h1
         ·have h2':=aI_ok h 2
          generalize aI ag 2=a at *
          cases a with
          | one v=>exact ok_wr
          | box ss w' =>
           show (if ¬ w'=w∨¬ ss.length=vs.length then wrV else sumifL (aI ag 1).v (vs.zip ss) []).ok
           split
           ·exact ok_wr
           ·refine sumifL_ok _ _ (fun p hp=>?_) fun n hn=>nomatch hn
            exact h2'.1 _ (List.of_mem_zip hp).2
theorem flA_ok {ag:List Ar} (h:∀ a ∈ ag,a.ok):∀ p ∈ flA ag,p.2.ok:=fun p hp=>by
 obtain ⟨a,ha,hp⟩:=List.mem_flatMap.1 hp
 have:=h a ha
 cases a with
 | one v=>rw[List.mem_singleton.1 hp];exact this
 | box vs w =>
  obtain ⟨v,hv,rfl⟩:=List.mem_map.1 hp
  exact this.1 v hv
theorem flA_len:∀ {ag:List Ar},(∀ a ∈ ag,a.ok)→(flA ag).length≤2574 * ag.length
 | [],_=>Nat.le_refl _
 | a::r,h=>by
  have ih:=flA_len (ag:=r) fun x hx=>h x (by simp[hx])
  have ha:=h a (by simp)
  show (List.flatMap Ar.fl (a::r)).length≤_
  rw[List.flatMap_cons,List.length_append,List.length_cons]
  change (r.flatMap Ar.fl).length≤_ at ih
  have:a.fl.length≤2574:=by
   cases a with
   | one v=>show 1≤2574;decide
   | box vs w=>show (vs.map _).length≤_;rw[List.length_map];exact ha.2.1
  omega
theorem callV_ok (t:List UInt8) {ag:List Ar} (h:∀ a ∈ ag,a.ok) (hl:ag.length≤200) (hi:∀ x y:List UInt8,x.length≤200→okI (Lib.index x y+1)):(callV t ag).ok:=by
 have hv:∀ v ∈ ag.map Ar.v,v.ok:=fun v hv=>by
  obtain ⟨a,ha,rfl⟩:=List.mem_map.1 hv
  exact Ar.v_ok (h a ha)
 have hf:=flA_len h
 unfold callV
 repeat' split
 all_goals first|exact ok_wr|exact ok_bad (by decide) (by decide)|exact chosenV_ok t hv|exact ok_truD _|exact boxedV_ok t h|exact reckV_ok t hv|exact textV_ok t hv (hi _ _ (showV_len (getD_ok hv 1)))|exact manyF_ok t (flA_ok h) (by omega)|skip
 ·rename_i b hb
  exact (badL_ok hv hb).1
end Go.Proofs.YtfkjhfdpphfjhaaGreatDoor
end
section
namespace Go.Proofs.YtfkjhfdpphfjhaaGreatDoor
open Go Go.EYtfkjhfdpphfjhaaGreatDoor
set_option maxRecDepth 100000
structure PB (p:Par):Prop where
 num:∀ m:Int,0≤m→okI m→p.pl (Lib.itoa m)=some (.mk 1 m [] z0 z0 [])
 numW:∀ m:Int,0≤m→Lib.itoa m≠[]∧∀ c ∈ Lib.itoa m,wordlyP c
 tru:p.pl tT=some (.mk 3 1 [] z0 z0 [])
 fal:p.pl tF=some (.mk 3 0 [] z0 z0 [])
 ref:∀ a:Rf,okP a.c a.r→p.pl (nmR a)=some (.mk 5 0 [] a z0 [])∧p.rf (nmR a)=some a
 refW:∀ a:Rf,okP a.c a.r→nmR a≠[]∧∀ c ∈ nmR a,wordlyP c
 lit:∀ (m:Int) (post:List UInt8),1≤m→m≤6→p.lit (tx.getD m.toNat []++post)=some (m,(tx.getD m.toNat []).length)
 cl:p.cl=clZ
def brD (x:Nd) (g:Int) (dx:Nat):Nat:=if tgtN x<g then dx+1 else dx
def dp7:List Nd→List Nat→Nat
 | x::_,d::_=>brD x 5 d+1
 | _,_=>0
def dp8 (tg:Int):List Nd→List Nat→Nat
 | x::y::_,d::e::_=>max (brD x tg d) (brD y (tg+1) e)
 | _,_=>0
def mxL:List Nat→Nat
 | []=>0
 | d::r=>max d (mxL r)
mutual
def depN:Nd→Nat
 | .mk k m t a b ks=>if k=7 then dp7 ks (depL ks) else if k=8 then dp8 (tgtN (.mk k m t a b ks)) ks (depL ks) else if k=9 then mxL (depL ks)+1 else 0
def depL:List Nd→List Nat
 | []=>[]
 | x::r=>depN x::depL r
end
def Gd {α:Type} (D:Prop) (x y:Rs α):Prop:=(D→x=y)∧(x=y∨∃ a e,x=.no a e)
section
variable {α β:Type} {D E F:Prop}
theorem Gd.same (x:Rs α):Gd D x x:=⟨fun _=>rfl,.inl rfl⟩
theorem Gd.of {x y:Rs α} (h:x=y):Gd D x y:=⟨fun _=>h,.inl h⟩
theorem Gd.fail {a:Nat} {e:Int} {y:Rs α} (h:¬ D):Gd D (.no a e) y:=⟨fun hd=>absurd hd h,.inr ⟨_,_,rfl⟩⟩
theorem Gd.imp {x y:Rs α} (h:Gd D x y) (hd:E→D):Gd E x y:=⟨fun he=>h.1 (hd he),h.2⟩
theorem Gd.trans {x y z:Rs α} (h:Gd D x y) (h':Gd D y z):Gd D x z:=by
 refine ⟨fun hd=>(h.1 hd).trans (h'.1 hd),?_⟩
 rcases h.2 with rfl|hn
 ·exact h'.2
 ·exact .inr hn
theorem Gd.bind {x:Rs α} {v:α} {i:Nat} {f:α→Nat→Rs β} {y:Rs β} (h:Gd D x (.ok v i)) (h':Gd E (f v i) y) (hd:F→D∧E):Gd F (x.bind f) y:=by
 refine ⟨fun hf=>?_,?_⟩
 ·rw[h.1 (hd hf).1];exact h'.1 (hd hf).2
 ·rcases h.2 with hx|⟨a,e,hx⟩
  ·rw[hx];exact h'.2
  ·rw[hx];exact .inr ⟨a,e,rfl⟩
end
def okQ (l:List UInt8):Prop:=l=[]∨∃ c r,l=c::r∧(c=41∨c=44∨c=61∨c=60∨c=62∨c=38∨c=43∨c=45∨c=42∨c=47)
theorem okQ.ne {l:List UInt8} (h:okQ l) {c:UInt8} (hc:l.head?=some c):¬ wordlyP c∧c≠32∧c≠34∧c≠58∧c≠40:=by
 rcases h with rfl|⟨d,r,rfl,h⟩
 ·cases hc
 ·cases hc
  rcases h with rfl|rfl|rfl|rfl|rfl|rfl|rfl|rfl|rfl|rfl <;> decide
theorem okQ.c {c:UInt8} {r:List UInt8} (h:c=41∨c=44):okQ (c::r):=.inr ⟨c,r,rfl,by rcases h with h|h <;> simp[h]⟩
section
variable {s:List UInt8}
theorem drop_app {w post:List UInt8} {i:Nat} (h:s.drop i=w++post):s.drop (i+w.length)=post:=by rw[← List.drop_drop,h,List.drop_left]
theorem drop_one {c:UInt8} {l:List UInt8} {i:Nat} (h:s.drop i=c::l):s.drop (i+1)=l:=drop_app (w:=[c]) h
theorem get_at {l:List UInt8} {i:Nat} (h:s.drop i=l):s[i]?=l.head?:=by rw[← List.head?_drop,h]
theorem skp_of {l:List UInt8} {i:Nat} (h:s.drop i=l) (hl:l.head?≠some 32):skp s i=i:=by
 unfold skp
 rw[h]
 cases l with
 | nil=>rfl
 | cons c r =>
  unfold blk
  rw[if_neg (fun hc=>hl (by rw[hc];rfl))]
  rfl
theorem opA_of {l:List UInt8} {i:Nat} (h:s.drop i=l) (hl:l.head?≠some 32):opA s i=opT l:=by
 unfold opA
 rw[skp_of h hl,h]
theorem okQ.b {l:List UInt8} (h:okQ l):l.head?≠some 32:=fun hc=>(h.ne hc).2.1 rfl
theorem wdl_word {w post:List UInt8} (hw:∀ c ∈ w,wordlyP c) (hp:∀ c,post.head?=some c→¬ wordlyP c):wdl (w++post)=w.length:=by
 induction w with
 | nil =>
  cases post with
  | nil=>rfl
  | cons c r =>
   show wdl (c::r)=0
   unfold wdl
   rw[if_neg (hp c rfl)]
 | cons c r ih =>
  show wdl (c::(r++post))=_
  unfold wdl
  rw[if_pos (hw c (by simp)),ih (fun d hd=>hw d (by simp[hd]))]
  rfl
theorem wdAt_of {w post:List UInt8} {i:Nat} (h:s.drop i=w++post) (hw:∀ c ∈ w,wordlyP c) (hp:∀ c,post.head?=some c→¬ wordlyP c):wdAt s i=w∧wdE s i=i+w.length:=by
 unfold wdAt wdE
 rw[h,wdl_word hw hp]
 exact ⟨List.take_left,rfl⟩
theorem wordly_ne {c:UInt8} (h:wordlyP c):c≠45∧c≠40∧c≠34∧c≠35∧c≠32∧c≠61∧c≠62∧c≠58:=by
 refine ⟨?_,?_,?_,?_,?_,?_,?_,?_⟩ <;> rintro rfl <;> revert h <;> decide
theorem oneB_neg (p:Par) (d:Nat):∃ full ng tw,oneB p s d=negF p s full ng tw:=by
 cases d with
 | zero=>exact ⟨_,_,_,rfl⟩
 | succ d=>exact ⟨_,_,_,rfl⟩
theorem negF_prim {p:Par} {full:Bool} {ng tw:Nat→Rs Nd} {c:UInt8} {r:List UInt8} {i:Nat} (h:s.drop i=c::r) (h1:c≠32) (h2:c≠45):negF p s full ng tw i=primF p s full tw i:=by
 unfold negF
 rw[skp_of h (by simpa using h1),get_at h,if_neg (by simpa using h2)]
theorem oneB_word {p:Par} {w post:List UInt8} {n:Nd} {i:Nat} (h:s.drop i=w++post) (h0:w≠[]) (hw:∀ c ∈ w,wordlyP c) (hq:okQ post) (hn:p.pl w=some n) (d:Nat):oneB p s d i=.ok n (i+w.length):=by
 obtain ⟨full,ng,tw,e⟩:=oneB_neg (s:=s) p d
 obtain ⟨e1,e2⟩:=wdAt_of h hw (fun c hc=>(hq.ne hc).1)
 have e3:=get_at (drop_app h)
 rw[e]
 cases w with
 | nil=>exact absurd rfl h0
 | cons c r =>
  have hc:=wordly_ne (hw c (by simp))
  rw[negF_prim h hc.2.2.2.2.1 hc.1]
  unfold primF
  rw[get_at h]
  show (if c=40 then _ else _)=_
  rw[if_neg hc.2.1,if_neg hc.2.2.1,if_neg hc.2.2.2.1,if_pos (hw c (by simp))]
  unfold wordF
  rw[e2,e3,if_neg (fun hh=>(hq.ne hh.1).2.2.2.2 rfl),e1,hn]
theorem txtF_dq:∀ (t post:List UInt8),post.head?≠some 34→txtF (dqN t++34::post)=some (t,(dqN t).length+1)
 | [],[],_=>rfl
 | [],d::r,h=>by
  show txtF (34::d::r)=some ([],1)
  unfold txtF
  rw[if_pos rfl,if_neg (by simpa using h)]
 | c::t,post,h=>by
  have ih:=txtF_dq t post h
  unfold dqN
  by_cases hc:c=34
  ·rw[if_pos hc]
   show txtF (34::34::(dqN t++34::post))=_
   unfold txtF
   rw[if_pos rfl,if_pos rfl,ih,hc]
   simp
  ·rw[if_neg hc]
   show txtF (c::(dqN t++34::post))=_
   have hne:∃ d r,dqN t++34::post=d::r:=by
    cases hd:dqN t with
    | nil=>exact ⟨_,_,rfl⟩
    | cons d r=>exact ⟨_,_,rfl⟩
   obtain ⟨d,r,hd⟩:=hne
   rw[hd] at ih ⊢
   unfold txtF
   rw[if_neg hc,ih]
   simp
theorem opT_sgn {m:Int} (h1:1≤m) (h2:m≤11) {c:UInt8} {r:List UInt8} (hc:c≠61) (hc2:c≠62):opT (sgnN m++c::r)=some (m.toNat,(sgnN m).length):=by
 have h:m=1∨m=2∨m=3∨m=4∨m=5∨m=6∨m=7∨m=8∨m=9∨m=10∨m=11:=by omega
 rcases h with rfl|rfl|rfl|rfl|rfl|rfl|rfl|rfl|rfl|rfl|rfl
 ·rfl
 ·rfl
 ·show opT (60::c::r)=some (3,1)
  unfold opT
  split <;> simp_all
 ·rfl
 ·show opT (62::c::r)=some (5,1)
  unfold opT
  split <;> simp_all
 all_goals rfl
theorem sgn_hd {m:Int} (h1:1≤m) (h2:m≤11):∃ c r,sgnN m=c::r∧(c=61∨c=60∨c=62∨c=38∨c=43∨c=45∨c=42∨c=47):=by
 have h:m=1∨m=2∨m=3∨m=4∨m=5∨m=6∨m=7∨m=8∨m=9∨m=10∨m=11:=by omega
 rcases h with rfl|rfl|rfl|rfl|rfl|rfl|rfl|rfl|rfl|rfl|rfl
 all_goals exact ⟨_,_,rfl,by decide⟩
theorem okQ_sgn {m:Int} (h1:1≤m) (h2:m≤11) (r:List UInt8):okQ (sgnN m++r):=by
 obtain ⟨c,l,e,hc⟩:=sgn_hd h1 h2
 rw[e]
 exact .inr ⟨c,l++r,rfl,by grind⟩
theorem tgt_tgtN {m:Int} (h1:1≤m) (h2:m≤11) (t:List UInt8) (a b:Rf) (ks:List Nd):tgtN (.mk 8 m t a b ks)=(tgt m.toNat:Nat):=by
 show (if (8:Int)=8 then (if m≤6 then (1:Int) else if m=7 then 2 else if m≤9 then 3 else 4) else 5)=_
 unfold tgt
 rw[if_pos rfl]
 (repeat' split) <;> omega
theorem frm_fuel {sub:Nat→Nat→Rs Nd} {sel:Nat→Bool} (hs:∀ op,Fwd s (sub op)):∀ {F F':Nat} {n:Nd} {j:Nat},j≤s.length→s.length - j<F→s.length - j<F'→frm s sub sel F n j=frm s sub sel F' n j
 | 0,F',n,j,hj,h,_=>by omega
 | F+1,0,n,j,hj,_,h=>by omega
 | F+1,F'+1,n,j,hj,h,h'=>by
  unfold frm
  split
  ·rename_i op len ho
   have hl:=opA_len ho
   have hk:=le_skp s j
   split
   ·cases hx:sub op (skp s j+len) with
    | no a e=>rfl
    | ok m k =>
     have h1:=hs op _ _ _ hl.2 hx
     simp only[Rs.bind_ok]
     exact frm_fuel hs h1.2 (by omega) (by omega)
   ·rfl
  ·rfl
theorem oneBF_fwd (p:Par) (d:Nat):Fwd s (oneB p s d):=by
 have e:oneB p s d=oneA p s d:=by funext i;exact (one_eq d i).symm
 rw[e]
 exact oneA_fwd d
end
def hdP (c:UInt8):Prop:=c=40∨c=34∨c=35∨c=45∨wordlyP c
theorem hdP.ne {c:UInt8} (h:hdP c):c≠32∧c≠61∧c≠62∧c≠41:=by
 refine ⟨?_,?_,?_,?_⟩ <;> rintro rfl <;> revert h <;> unfold hdP <;> decide
theorem tx_hd {m:Int} (h1:1≤m) (h2:m≤6):∃ r,tx.getD m.toNat []=35::r:=by
 have h:m=1∨m=2∨m=3∨m=4∨m=5∨m=6:=by omega
 rcases h with rfl|rfl|rfl|rfl|rfl|rfl
 all_goals exact ⟨_,rfl⟩
theorem cl_word {t:List UInt8} (h:clZ t=true):t≠[]∧∀ c ∈ t,wordlyP c:=by
 unfold clZ at h
 simp only[Bool.and_eq_true,decide_eq_true_eq,List.all_eq_true] at h
 refine ⟨fun e=>by rw[e] at h;simp at h,fun c hc=>?_⟩
 have:=h.2 c hc
 refine .inr (.inr (.inl ⟨?_,?_⟩))
 ·exact UInt8.le_iff_toNat_le.2 this.1
 ·exact UInt8.le_iff_toNat_le.2 this.2
end Go.Proofs.YtfkjhfdpphfjhaaGreatDoor
end
section
namespace Go.Proofs.YtfkjhfdpphfjhaaGreatDoor
open Go Go.EYtfkjhfdpphfjhaaGreatDoor
set_option maxRecDepth 100000
section
variable {p:Par} {s:List UInt8}
theorem wr_hd (hp:PB p) (n:Nd):∀ {box:Prop},frmN n box→∃ c r,wrN n=c::r∧hdP c:=by
 match n with
 | .mk k m t a b ks =>
  intro box hf
  have wd:∀ w:List UInt8,(w≠[]∧∀ c ∈ w,wordlyP c)→∃ c r,w=c::r∧hdP c:=fun w hw=>by
   cases w with
   | nil=>exact absurd rfl hw.1
   | cons c r=>exact ⟨c,r,rfl,.inr (.inr (.inr (.inr (hw.2 c (by simp)))))⟩
  by_cases h1:k=1
  ·subst h1;rw[frm_1] at hf;exact wd _ (hp.numW m hf.2.2.2)
  by_cases h2:k=2
  ·subst h2;exact ⟨34,_,rfl,by unfold hdP;decide⟩
  by_cases h3:k=3
  ·subst h3
   show ∃ c r,(if m=1 then tT else tF)=c::r∧hdP c
   split
   ·exact ⟨_,_,rfl,by unfold hdP;decide⟩
   ·exact ⟨_,_,rfl,by unfold hdP;decide⟩
  by_cases h4:k=4
  ·subst h4;rw[frm_4] at hf
   obtain ⟨r,hr⟩:=tx_hd hf.2.2.2.1 hf.2.2.2.2
   exact ⟨35,r,hr,by unfold hdP;decide⟩
  by_cases h5:k=5
  ·subst h5;rw[frm_5] at hf;exact wd _ (hp.refW a hf.2.2.2.2)
  by_cases h6:k=6
  ·subst h6;rw[frm_6] at hf
   obtain ⟨c,r,e,hc⟩:=wd _ (hp.refW a hf.2.2.2.2.1)
   exact ⟨c,r++58::nmR b,by show nmR a++58::nmR b=_;rw[e];rfl,hc⟩
  by_cases h7:k=7
  ·subst h7;rw[frm_7] at hf
   match ks,hf with
   | [x],_=>exact ⟨45,_,rfl,by unfold hdP;decide⟩
  by_cases h8:k=8
  ·subst h8;rw[frm_8] at hf
   match ks,hf with
   | [x,y],hf =>
    obtain ⟨c,r,e,hc⟩:=wr_hd hp x hf.2.2.2.2.2.1
    show ∃ c r,brN (wrN x) (tgtN x<_)++_=c::r∧hdP c
    unfold brN
    split
    ·exact ⟨40,_,rfl,by unfold hdP;decide⟩
    ·rw[e];exact ⟨c,_,rfl,hc⟩
  by_cases h9:k=9
  ·subst h9;rw[frm_9] at hf
   obtain ⟨c,r,e,hc⟩:=wd _ (cl_word hf.1)
   exact ⟨c,r++40::(comN (wrL ks)++[41]),by show t++40::(comN (wrL ks)++[41])=_;rw[e];rfl,hc⟩
  exfalso
  unfold frmN at hf
  omega
abbrev subB (p:Par) (s:List UInt8) (d:Nat):Nat→Nat→Rs Nd:=fun op=>Lo s (oneB p s d) 4 (tgt op+1)
abbrev selB (least:Nat):Nat→Bool:=fun op=>decide (least≤tgt op)
theorem sub_fwd (d:Nat):∀ op,Fwd s (subB p s d op):=fun _=>Lo_fwd (oneBF_fwd p d) _ _
structure RdOk (p:Par) (s:List UInt8) (n:Nd):Prop where
 one:∀ (d i:Nat) (post:List UInt8),s.drop i=wrN n++post→okQ post→tgtN n=5→Gd (depN n≤d) (oneB p s d i) (.ok n (i+(wrN n).length))
 go:∀ (d i:Nat) (post:List UInt8),s.drop i=wrN n++post→okQ post→∀ least F F':Nat,(least:Int)≤tgtN n→(∀ op len,opT post=some (op,len)→(tgt op:Int)≤tgtN n)→
  s.length - i<F→s.length - (i+(wrN n).length)<F'→Gd (depN n≤d) ((oneB p s d i).bind (frm s (subB p s d) (selB least) F)) (frm s (subB p s d) (selB least) F' n (i+(wrN n).length))
theorem len_of {i:Nat} {w post:List UInt8} (h:s.drop i=w++post) (h0:w≠[]):i+w.length≤s.length:=by
 have h1:=congrArg List.length h
 rw[List.length_drop,List.length_append] at h1
 have:0<w.length:=List.length_pos_iff.2 h0
 omega
theorem wr_ne (hp:PB p) {n:Nd} {box:Prop} (hf:frmN n box):wrN n≠[]:=by
 obtain ⟨c,r,e,_⟩:=wr_hd hp n hf
 rw[e];simp
theorem RdOk.of_one {n:Nd} (hw:wrN n≠[]) (h:∀ (d i:Nat) (post:List UInt8),s.drop i=wrN n++post→okQ post→Gd (depN n≤d) (oneB p s d i) (.ok n (i+(wrN n).length))):RdOk p s n where
 one:=fun d i post hd hq _=>h d i post hd hq
 go:=fun d i post hd hq least F F' _ _ hF hF'=>by
  have hl:=len_of hd hw
  refine (h d i post hd hq).bind (E:=True) (Gd.of ?_) (fun hh=>⟨hh,trivial⟩)
  exact frm_fuel (fun op=>sub_fwd d op) hl (by omega) hF'
theorem rd_of (hp:PB p) {n:Nd} {box:Prop} (hf:frmN n box) (h:RdOk p s n) {d i least:Nat} {post:List UInt8} (hd:s.drop i=wrN n++post) (hq:okQ post) (h4:1≤least) (hl:(least:Int)≤tgtN n) (hn:∀ op len,opT post=some (op,len)→tgt op<least) :
 Gd (depN n≤d) (Lo s (oneB p s d) 4 least i) (.ok n (i+(wrN n).length)):=by
 have hlen:=len_of hd (wr_ne hp hf)
 rw[← Lo_more 4 least i (by omega)]
 refine (h.go d i post hd hq least (s.length+1) (s.length+1) hl (fun op len ho=>?_) (by omega) (by omega)).trans (Gd.of ?_)
 ·have:=hn op len ho;omega
 ·refine frm_none fun op len ho=>?_
  rw[opA_of (drop_app hd) hq.b] at ho
  have:=hn op len ho
  simp;omega
theorem tgtN_pos (n:Nd):1≤tgtN n:=by
 obtain ⟨k,m,t,a,b,ks⟩:=n
 unfold tgtN
 (repeat' split) <;> omega
theorem tgtN_le (n:Nd):tgtN n≤5:=by
 obtain ⟨k,m,t,a,b,ks⟩:=n
 unfold tgtN
 (repeat' split) <;> omega
theorem par_of (hp:PB p) {n:Nd} {box:Prop} (hf:frmN n box) (h:RdOk p s n) {d i:Nat} {post:List UInt8} (hd:s.drop i=40::(wrN n++41::post)) :
 Gd (depN n+1≤d) (oneB p s d i) (.ok n (i+((wrN n).length+2))):=by
 cases d with
 | zero =>
  have e:oneB p s 0 i=.no i 4:=by
   show negF p s true _ _ i=_
   rw[negF_prim hd (by decide) (by decide)]
   unfold primF
   rw[get_at hd]
   rfl
  rw[e]
  exact Gd.fail (by omega)
 | succ d =>
  have h1:=drop_one hd
  have h2:=drop_app h1
  show Gd _ (negF p s false (oneB p s d) (Lo s (oneB p s d) 4 1) i) _
  rw[negF_prim hd (by decide) (by decide)]
  unfold primF
  rw[get_at hd]
  show Gd _ (parF s (Lo s (oneB p s d) 4 1) (i+1)) _
  unfold parF
  refine (rd_of hp hf h (d:=d) (least:=1) h1 (.c (.inl rfl)) (by omega) (tgtN_pos n) (fun op len ho=>by cases ho)).bind (E:=True) (Gd.of ?_) (fun hh=>⟨Nat.le_of_succ_le_succ hh,trivial⟩)
  rw[skp_of h2 (by simp),get_at h2]
  show Rs.ok n (i+1+(wrN n).length+1)=_
  congr 1
  omega
theorem br_one (hp:PB p) {n:Nd} {box:Prop} (hf:frmN n box) (h:RdOk p s n) {d i:Nat} {post:List UInt8} (hd:s.drop i=brN (wrN n) (tgtN n<5)++post) (hq:okQ post) :
 Gd (brD n 5 (depN n)≤d) (oneB p s d i) (.ok n (i+(brN (wrN n) (tgtN n<5)).length)):=by
 unfold brD
 by_cases hg:tgtN n<5
 ·rw[if_pos hg]
  unfold brN at hd ⊢
  rw[if_pos hg] at hd ⊢
  have:=par_of (d:=d) (i:=i) (post:=post) hp hf h (by rw[hd];simp)
  simpa using this
 ·rw[if_neg hg]
  unfold brN at hd ⊢
  rw[if_neg hg] at hd ⊢
  have:=tgtN_le n
  exact h.one d i post hd hq (by omega)
theorem two_of (hp:PB p) {x y:Nd} {m:Int} (h1:1≤m) (h2:m≤11) {bx by':Prop} (hfx:frmN x bx) (hfy:frmN y by') (hx:RdOk p s x) (hy:RdOk p s y):RdOk p s (.mk 8 m [] z0 z0 [x,y]):=by
 have hg:=tgt_tgtN h1 h2 [] z0 z0 [x,y]
 have g0:=tgt_pos m.toNat
 have g4:=tgt_le m.toNat
 refine ⟨fun d i post hd hq h5=>by omega,fun d i post hd hq least F F' hl hn hF hF'=>?_⟩
 have hg':=hg
 generalize htg:tgtN (.mk 8 m [] z0 z0 [x,y])=tg at *
 have hw:wrN (.mk 8 m [] z0 z0 [x,y])=brN (wrN x) (tgtN x<tg)++(sgnN m++brN (wrN y) (tgtN y≤tg)):=by rw[← htg];rfl
 have hdp:depN (.mk 8 m [] z0 z0 [x,y])=max (brD x tg (depN x)) (brD y (tg+1) (depN y)):=by rw[← htg];rfl
 have hlen:=len_of hd (by rw[hw];obtain ⟨c,r,e,_⟩:=sgn_hd h1 h2;rw[e];simp)
 rw[hw,List.append_assoc,List.append_assoc] at hd
 have hd1:=drop_app hd
 have hd2:=drop_app hd1
 have hyh:∃ c r,brN (wrN y) (tgtN y≤tg)++post=c::r∧hdP c:=by
  unfold brN
  split
  ·exact ⟨40,_,rfl,by unfold hdP;decide⟩
  ·obtain ⟨c,r,e,hc⟩:=wr_hd hp y hfy
   exact ⟨c,r++post,by rw[e];rfl,hc⟩
 have hop:opA s (i+(brN (wrN x) (tgtN x<tg)).length)=some (m.toNat,(sgnN m).length):=by
  rw[opA_of hd1 (okQ_sgn h1 h2 _).b]
  obtain ⟨c,r,e,hc⟩:=hyh
  rw[e]
  exact opT_sgn h1 h2 hc.ne.2.1 hc.ne.2.2.1
 have hskp:=skp_of hd1 (okQ_sgn h1 h2 _).b
 have hopT:opT (sgnN m++(brN (wrN y) (tgtN y≤tg)++post))=some (m.toNat,(sgnN m).length):=by rw[← opA_of hd1 (okQ_sgn h1 h2 _).b];exact hop
 have hll:(wrN (.mk 8 m [] z0 z0 [x,y])).length=(brN (wrN x) (tgtN x<tg)).length+((sgnN m).length+(brN (wrN y) (tgtN y≤tg)).length):=by rw[hw,List.length_append,List.length_append]
 have hs1:1≤(sgnN m).length:=by obtain ⟨c,r,e,_⟩:=sgn_hd h1 h2;rw[e];simp
 -- the left
 have left:Gd (brD x tg (depN x)≤d) ((oneB p s d i).bind (frm s (subB p s d) (selB least) F)) (frm s (subB p s d) (selB least) (s.length+1) x (i+(brN (wrN x) (tgtN x<tg)).length)):=by
  unfold brD
  by_cases hb:tgtN x<tg
  ·rw[if_pos hb]
   have e:brN (wrN x) (tgtN x<tg)=40::(wrN x++[41]):=if_pos hb
   rw[e] at hd hll ⊢
   refine (par_of (d:=d) (post:=sgnN m++(brN (wrN y) (tgtN y≤tg)++post)) hp hfx hx (by rw[hd];simp)).bind (E:=True) (Gd.of ?_) (fun hh=>⟨hh,trivial⟩)
   have e2:i+(40::(wrN x++[41])).length=i+((wrN x).length+2):=by simp
   rw[e2] at *
   have hl2:(40::(wrN x++[41])).length=(wrN x).length+2:=by simp
   exact frm_fuel (fun op=>sub_fwd d op) (by omega) (by omega) (by omega)
  ·rw[if_neg hb]
   have e:brN (wrN x) (tgtN x<tg)=wrN x:=if_neg hb
   rw[e] at hd hll ⊢
   exact hx.go d i _ hd (okQ_sgn h1 h2 _) least F (s.length+1) (by omega) (fun op len ho=>by rw[hopT] at ho;cases ho;omega) hF (by omega)
 refine (left.imp fun hh=>?_).trans ?_
 ·rw[hdp] at hh;omega
 -- the operator
 rw[frm,hop]
 simp only[]
 rw[if_pos (by simp;omega),hskp]
 -- the right
 have right:Gd (brD y (tg+1) (depN y)≤d) (Lo s (oneB p s d) 4 (tgt m.toNat+1) (i+(brN (wrN x) (tgtN x<tg)).length+(sgnN m).length)) (.ok y (i+(brN (wrN x) (tgtN x<tg)).length+(sgnN m).length+(brN (wrN y) (tgtN y≤tg)).length)):=by
  unfold brD
  by_cases hb:tgtN y<tg+1
  ·rw[if_pos hb]
   have e:brN (wrN y) (tgtN y≤tg)=40::(wrN y++[41]):=if_pos (by omega)
   rw[e] at hd2 hll ⊢
   have hl2:(40::(wrN y++[41])).length=(wrN y).length+2:=by simp
   rw[hl2] at hll ⊢
   rw[← Lo_more 4 _ _ (by omega)]
   refine (par_of (d:=d) (post:=post) hp hfy hy (by rw[hd2];simp)).bind (E:=True) (Gd.of ?_) (fun hh=>⟨hh,trivial⟩)
   refine frm_none fun op len ho=>?_
   have hd3:=drop_app hd2
   rw[hl2] at hd3
   rw[opA_of hd3 hq.b] at ho
   have:=hn op len ho
   simp;omega
  ·rw[if_neg hb]
   have e:brN (wrN y) (tgtN y≤tg)=wrN y:=if_neg (by omega)
   rw[e] at hd2 ⊢
   exact rd_of hp hfy hy hd2 hq (by omega) (by omega) (fun op len ho=>by have:=hn op len ho;omega)
 refine right.bind (E:=True) (Gd.of ?_) (fun hh=>⟨by rw[hdp] at hh;omega,trivial⟩)
 have e:i+(brN (wrN x) (tgtN x<tg)).length+(sgnN m).length+(brN (wrN y) (tgtN y≤tg)).length=i+(wrN (.mk 8 m [] z0 z0 [x,y])).length:=by omega
 rw[e]
 have e2:twoN (m.toNat:Nat) x y=.mk 8 m [] z0 z0 [x,y]:=by unfold twoN;rw[Int.toNat_of_nonneg (by omega)]
 rw[e2]
 exact frm_fuel (fun op=>sub_fwd d op) hlen (by omega) hF'
end
end Go.Proofs.YtfkjhfdpphfjhaaGreatDoor
end
section
namespace Go.Proofs.YtfkjhfdpphfjhaaGreatDoor
open Go Go.EYtfkjhfdpphfjhaaGreatDoor
set_option maxRecDepth 100000
section
variable {p:Par} {s:List UInt8}
def kN:Nd→Int
 | .mk k _ _ _ _ _=>k
theorem noR_z {b:Rf} (h:noR b):b=z0:=by
 obtain ⟨c,r,f,g⟩:=b
 obtain ⟨⟨h1,h2,_⟩,h3,h4,_⟩:=h
 simp only at h1 h2 h3 h4
 subst h1;subst h2
 cases f <;> cases g <;> simp_all [z0]
def nxt (l:List UInt8):Option UInt8:=(l.drop (wdl l)).head?
theorem nxt_at (i:Nat):s[wdE s i]?=nxt (s.drop i):=by
 unfold wdE nxt
 rw[List.drop_drop,List.head?_drop]
theorem nxt_word {w post:List UInt8} (hw:∀ c ∈ w,wordlyP c) (hp:∀ c,post.head?=some c→¬ wordlyP c):nxt (w++post)=post.head?:=by
 unfold nxt
 rw[wdl_word hw hp,List.drop_left]
theorem nxt_mark {c:UInt8} {r:List UInt8} (h:¬ wordlyP c):nxt (c::r)=some c:=by
 unfold nxt wdl
 rw[if_neg h]
 rfl
theorem nxt_wr (hp:PB p) (n:Nd):∀ {box:Prop},frmN n box→kN n≠6→∀ {post:List UInt8},okQ post→nxt (wrN n++post)≠some 58:=by
 match n with
 | .mk k m t a b ks =>
  intro box hf h6 post hq
  have wd:∀ w:List UInt8,(∀ c ∈ w,wordlyP c)→nxt (w++post)≠some 58:=fun w hw=>by
   rw[nxt_word hw (fun c hc=>(hq.ne hc).1)]
   exact fun hc=>(hq.ne hc).2.2.2.1 rfl
  by_cases h1:k=1
  ·subst h1;rw[frm_1] at hf;exact wd _ (hp.numW m hf.2.2.2).2
  by_cases h2:k=2
  ·subst h2
   show nxt (34::_)≠_
   rw[nxt_mark (by decide)];decide
  by_cases h3:k=3
  ·subst h3
   refine wd (if m=1 then tT else tF) ?_
   split <;> decide
  by_cases h4:k=4
  ·subst h4;rw[frm_4] at hf
   obtain ⟨r,hr⟩:=tx_hd hf.2.2.2.1 hf.2.2.2.2
   show nxt (tx.getD m.toNat []++post)≠_
   rw[hr]
   show nxt (35::_)≠_
   rw[nxt_mark (by decide)];decide
  by_cases h5:k=5
  ·subst h5;rw[frm_5] at hf;exact wd _ (hp.refW a hf.2.2.2.2).2
  by_cases h7:k=7
  ·subst h7;rw[frm_7] at hf
   match ks,hf with
   | [x],_ =>
    show nxt (45::_)≠_
    rw[nxt_mark (by decide)];decide
  by_cases h8:k=8
  ·subst h8;rw[frm_8] at hf
   match ks,hf with
   | [x,y],hf =>
    show nxt ((brN (wrN x) (tgtN x<_)++(sgnN m++_))++post)≠_
    rw[List.append_assoc,List.append_assoc]
    unfold brN
    split
    ·show nxt (40::_)≠_
     rw[nxt_mark (by decide)];decide
    ·have hx:=hf.2.2.2.2.2.1
     refine nxt_wr hp x hx (fun h=>?_) (okQ_sgn hf.2.2.2.1 hf.2.2.2.2.1 _)
     obtain ⟨k',m',t',a',b',ks'⟩:=x
     change k'=6 at h
     subst h
     rw[frm_6] at hx
     exact hx.1
  by_cases h9:k=9
  ·subst h9;rw[frm_9] at hf
   show nxt ((t++40::(comN (wrL ks)++[41]))++post)≠_
   rw[List.append_assoc,nxt_word (cl_word hf.1).2 (fun c hc=>by cases hc;decide)]
   simp
  exfalso
  unfold frmN at hf
  change k≠6 at h6
  omega
theorem arg_of (hp:PB p) {n:Nd} {box:Prop} (hf:frmN n box) (h:kN n≠6→RdOk p s n) {d i:Nat} {c:UInt8} {post:List UInt8} (hd:s.drop i=wrN n++c::post) (hc:c=41∨c=44) :
 Gd (depN n≤d) (argF p s (Lo s (oneB p s d) 4 1) i) (.ok n (i+(wrN n).length)):=by
 have hq:okQ (c::post):=.c hc
 have hsk:skp s i=i:=by
  obtain ⟨c',r,e,hh⟩:=wr_hd hp n hf
  exact skp_of hd (by rw[e];simpa using hh.ne.1)
 unfold argF
 rw[hsk]
 by_cases h6:kN n=6
 ·obtain ⟨k,m,t,a,b,ks⟩:=n
  change k=6 at h6
  subst h6
  rw[frm_6] at hf
  obtain ⟨-,h0,rfl,rfl,ha,hb⟩:=hf
  obtain rfl:=List.eq_nil_of_length_eq_zero h0
  change s.drop i=(nmR a++58::nmR b)++c::post at hd
  rw[List.append_assoc] at hd
  obtain ⟨e1,e2⟩:=wdAt_of hd (hp.refW a ha).2 (fun c hc=>by cases hc;decide)
  have hd1:=drop_app hd
  have hd2:=drop_one hd1
  obtain ⟨e3,e4⟩:=wdAt_of hd2 (hp.refW b hb).2 (fun c hc=>(hq.ne hc).1)
  rw[e1,(hp.ref a ha).2,e2]
  simp only[]
  rw[get_at hd1]
  simp only[List.cons_append,List.head?_cons,if_true]
  rw[e3,(hp.ref b hb).2,e4]
  refine Gd.of ?_
  show Rs.ok _ _=Rs.ok _ (i+(nmR a++58::nmR b).length)
  congr 1
  simp
  omega
 ·have hn:s[wdE s i]?≠some 58:=by
   rw[nxt_at,hd]
   exact nxt_wr hp n hf h6 hq
  have hr:=rd_of (d:=d) (least:=1) hp hf (h h6) hd hq (by omega) (tgtN_pos n) (fun op len ho=>by rcases hc with rfl|rfl <;> cases ho)
  cases p.rf (wdAt s i) with
  | none=>exact hr
  | some a =>
   simp only[]
   rw[if_neg hn]
   exact hr
theorem comN_cons (x y:List UInt8) (l:List (List UInt8)):comN (x::y::l)=x++44::comN (y::l):=by simp[comN]
theorem args_of (hp:PB p) (d:Nat):∀ {ks:List Nd} {acc:List Nd} {f j:Nat} {post:List UInt8},ks≠[]→(∀ x ∈ ks,frmN x True∧(kN x≠6→RdOk p s x))→s.drop j=comN (wrL ks)++41::post→ks.length≤f→
 Gd (mxL (depL ks)≤d) (argsF p s (Lo s (oneB p s d) 4 1) f acc j) (.ok (acc++ks) (j+(comN (wrL ks)).length+1))
 | [],_,_,_,_,h,_,_,_=>absurd rfl h
 | _::_,_,0,_,_,_,_,_,h=>by simp at h
 | [x],acc,f+1,j,post,_,hk,hd,_=>by
  have e:comN (wrL [x])=wrN x:=by simp[comN,wrL]
  rw[e] at hd ⊢
  obtain ⟨hf,hr⟩:=hk x (by simp)
  have hd1:=drop_app hd
  unfold argsF
  refine (arg_of (d:=d) hp hf hr hd (.inl rfl)).bind (E:=True) (Gd.of ?_) (fun hh=>⟨by simp only[depL,mxL] at hh;omega,trivial⟩)
  rw[skp_of hd1 (by simp),get_at hd1,if_neg (by simp),if_pos (by simp)]
 | x::y::r,acc,f+1,j,post,_,hk,hd,hl=>by
  have e:comN (wrL (x::y::r))=wrN x++44::comN (wrL (y::r)):=comN_cons _ _ _
  rw[e] at hd ⊢
  rw[List.append_assoc] at hd
  obtain ⟨hf,hr⟩:=hk x (by simp)
  have hd1:=drop_app hd
  have hd2:=drop_one hd1
  unfold argsF
  refine (arg_of (d:=d) hp hf hr hd (.inr rfl)).bind (E:=mxL (depL (y::r))≤d) ?_ (fun hh=>?_)
  ·rw[skp_of hd1 (by simp),get_at hd1,if_pos (by simp)]
   have:=args_of hp d (acc:=acc++[x]) (f:=f) (by simp) (fun z hz=>hk z (by simp only[List.mem_cons] at hz ⊢;exact .inr hz)) hd2 (by simpa using hl)
   rw[List.append_assoc] at this
   have e2:j+(wrN x).length+1+(comN (wrL (y::r))).length+1=j+(wrN x++44::comN (wrL (y::r))).length+1:=by simp;omega
   rw[e2] at this
   exact this
  ·simp only[depL,mxL] at hh ⊢
   omega
theorem argsN_len:∀ {ks:List Nd},(∀ x ∈ ks,wrN x≠[])→ks.length≤(comN (wrL ks)).length
 | [],_=>Nat.zero_le _
 | [x],h=>by
  have e:comN (wrL [x])=wrN x:=by simp[comN,wrL]
  rw[e]
  exact List.length_pos_iff.2 (h x (by simp))
 | x::y::r,h=>by
  have e:comN (wrL (x::y::r))=wrN x++44::comN (wrL (y::r)):=comN_cons _ _ _
  have:=argsN_len (ks:=y::r) (fun z hz=>h z (by simp only[List.mem_cons] at hz ⊢;exact .inr hz))
  rw[e]
  simp at this ⊢
  omega
theorem rdOk (hp:PB p) (n:Nd):∀ {box:Prop},frmN n box→kN n≠6→okN n→RdOk p s n:=by
 match n with
 | .mk k m t a b ks =>
  intro box hf h6 ho
  have hne:=wr_ne hp hf
  have leaf:∀ w:List UInt8,wrN (.mk k m t a b ks)=w→(w≠[]∧∀ c ∈ w,wordlyP c)→p.pl w=some (.mk k m t a b ks)→RdOk p s (.mk k m t a b ks):=fun w e hw hpl =>
   .of_one hne fun d i post hd hq=>by
    rw[e] at hd ⊢
    exact Gd.of (oneB_word hd hw.1 hw.2 hq hpl d)
  by_cases h1:k=1
  ·subst h1
   rw[frm_1] at hf
   obtain ⟨h0,rfl,⟨ha,hb⟩,hm⟩:=hf
   obtain rfl:=List.eq_nil_of_length_eq_zero h0
   obtain rfl:=noR_z ha
   obtain rfl:=noR_z hb
   exact leaf _ rfl (hp.numW m hm) (hp.num m hm ho.1)
  by_cases h2:k=2
  ·subst h2
   rw[frm_2] at hf
   obtain ⟨h0,⟨ha,hb⟩,rfl⟩:=hf
   obtain rfl:=List.eq_nil_of_length_eq_zero h0
   obtain rfl:=noR_z ha
   obtain rfl:=noR_z hb
   refine .of_one hne fun d i post hd hq=>Gd.of ?_
   obtain ⟨full,ng,tw,e⟩:=oneB_neg (s:=s) p d
   change s.drop i=(34::(dqN t++[34]))++post at hd
   have hd':s.drop i=34::(dqN t++34::post):=by rw[hd];simp
   rw[e,negF_prim hd' (by decide) (by decide)]
   unfold primF
   rw[get_at hd']
   show (match txtF (s.drop (i+1)) with
    | some (b,l)=>Rs.ok (Nd.mk 2 0 b z0 z0 []) (i+1+l)
    | none=>.no i 2)=_
   rw[drop_one hd',txtF_dq t post (fun hc=>(hq.ne hc).2.2.1 rfl)]
   show Rs.ok _ _=Rs.ok _ (i+(34::(dqN t++[34])).length)
   congr 1
   simp
   omega
  by_cases h3:k=3
  ·subst h3
   rw[frm_3] at hf
   obtain ⟨h0,rfl,⟨ha,hb⟩,hm⟩:=hf
   obtain rfl:=List.eq_nil_of_length_eq_zero h0
   obtain rfl:=noR_z ha
   obtain rfl:=noR_z hb
   rcases hm with rfl|rfl
   ·exact leaf tF rfl (by decide) hp.fal
   ·exact leaf tT rfl (by decide) hp.tru
  by_cases h4:k=4
  ·subst h4
   rw[frm_4] at hf
   obtain ⟨h0,rfl,⟨ha,hb⟩,hm1,hm2⟩:=hf
   obtain rfl:=List.eq_nil_of_length_eq_zero h0
   obtain rfl:=noR_z ha
   obtain rfl:=noR_z hb
   refine .of_one hne fun d i post hd hq=>Gd.of ?_
   obtain ⟨full,ng,tw,e⟩:=oneB_neg (s:=s) p d
   change s.drop i=tx.getD m.toNat []++post at hd
   have hlit:=hp.lit m post hm1 hm2
   obtain ⟨r,hr⟩:=tx_hd hm1 hm2
   have hd':s.drop i=35::(r++post):=by rw[hd,hr];rfl
   rw[e,negF_prim hd' (by decide) (by decide)]
   unfold primF
   rw[get_at hd']
   show (match p.lit (s.drop i) with
    | some (n,l)=>Rs.ok (Nd.mk 4 n [] z0 z0 []) (i+l)
    | none=>.no i 2)=_
   rw[hd,hlit]
   rfl
  by_cases h5:k=5
  ·subst h5
   rw[frm_5] at hf
   obtain ⟨h0,rfl,rfl,hb,ha⟩:=hf
   obtain rfl:=List.eq_nil_of_length_eq_zero h0
   obtain rfl:=noR_z hb
   exact leaf _ rfl (hp.refW a ha) (hp.ref a ha).1
  by_cases h7:k=7
  ·subst h7
   rw[frm_7] at hf
   obtain ⟨h0,rfl,⟨ha,hb⟩,rfl,hk⟩:=hf
   obtain rfl:=noR_z ha
   obtain rfl:=noR_z hb
   match ks,h0,ho,hk with
   | [x],_,ho,hk =>
    have hx:=hk.1
    have h6x:kN x≠6:=fun h=>by
     obtain ⟨k',m',t',a',b',ks'⟩:=x
     change k'=6 at h
     subst h
     rw[frm_6] at hx
     exact hx.1
    have hr:=rdOk hp x hx h6x ho.2.2.1
    refine .of_one hne fun d i post hd hq=>?_
    change s.drop i=(45::brN (wrN x) (tgtN x<5))++post at hd
    have hd':s.drop i=45::(brN (wrN x) (tgtN x<5)++post):=hd
    have hsk:=skp_of hd' (by simp)
    show Gd (brD x 5 (depN x)+1≤d) _ _
    cases d with
    | zero =>
     show Gd _ (negF p s true _ _ i) _
     unfold negF
     rw[hsk,get_at hd',List.head?_cons,if_pos rfl]
     exact Gd.fail (by omega)
    | succ d =>
     show Gd _ (negF p s false (oneB p s d) _ i) _
     unfold negF
     rw[hsk,get_at hd',List.head?_cons,if_pos rfl,if_neg (by simp)]
     refine (br_one (d:=d) hp hx hr (drop_one hd') hq).bind (E:=True) (Gd.of ?_) (fun hh=>⟨by omega,trivial⟩)
     show Rs.ok _ _=Rs.ok _ (i+(45::brN (wrN x) (tgtN x<5)).length)
     congr 1
     simp
     omega
  by_cases h8:k=8
  ·subst h8
   rw[frm_8] at hf
   obtain ⟨h0,rfl,⟨ha,hb⟩,hm1,hm2,hk⟩:=hf
   obtain rfl:=noR_z ha
   obtain rfl:=noR_z hb
   match ks,h0,ho,hk with
   | [x,y],_,ho,hk =>
    have h6x:∀ x:Nd,frmN x False→kN x≠6:=fun x hx h=>by
     obtain ⟨k',m',t',a',b',ks'⟩:=x
     change k'=6 at h
     subst h
     rw[frm_6] at hx
     exact hx.1
    exact two_of hp hm1 hm2 hk.1 hk.2.1 (rdOk hp x hk.1 (h6x x hk.1) ho.2.2.1) (rdOk hp y hk.2.1 (h6x y hk.2.1) ho.2.2.2.1)
  by_cases h9:k=9
  ·subst h9
   rw[frm_9] at hf
   obtain ⟨hcl,⟨ha,hb⟩,rfl,hk⟩:=hf
   obtain rfl:=noR_z ha
   obtain rfl:=noR_z hb
   have hkid:∀ x ∈ ks,frmN x True∧(kN x≠6→RdOk p s x):=fun x hx=>by
    obtain ⟨y,hy,rfl⟩:=List.getElem_of_mem hx
    have hfx:=frmL_iff.1 hk y hy
    exact ⟨hfx,fun h=>rdOk hp _ hfx h (okL_get ho.2.2 hy)⟩
   obtain ⟨hw0,hw⟩:=cl_word hcl
   refine .of_one hne fun d i post hd hq=>?_
   change s.drop i=(t++40::(comN (wrL ks)++[41]))++post at hd
   have hd':s.drop i=t++40::(comN (wrL ks)++41::post):=by rw[hd];simp
   have hd1:=drop_app hd'
   have hd2:=drop_one hd1
   obtain ⟨e1,e2⟩:=wdAt_of hd' hw (fun c hc=>by cases hc;decide)
   have hprim:∀ (full:Bool) (tw:Nat→Rs Nd),primF p s full tw i=if full=true then .no i 4 else callF p s tw t (i+t.length):=fun full tw=>by
    unfold primF
    cases t with
    | nil=>exact absurd rfl hw0
    | cons c r =>
     have hc:=wordly_ne (hw c (by simp))
     rw[get_at hd']
     show (if c=40 then _ else _)=_
     rw[if_neg hc.2.1,if_neg hc.2.2.1,if_neg hc.2.2.2.1,if_pos (hw c (by simp))]
     unfold wordF
     rw[e1,e2,get_at hd1,if_pos ⟨rfl,by rw[hp.cl];exact hcl⟩]
   have hneg:∀ (full:Bool) (ng tw:Nat→Rs Nd),negF p s full ng tw i=primF p s full tw i:=fun full ng tw=>by
    cases t with
    | nil=>exact absurd rfl hw0
    | cons c r =>
     have hc:=wordly_ne (hw c (by simp))
     exact negF_prim hd' hc.2.2.2.2.1 hc.1
   show Gd (mxL (depL ks)+1≤d) _ _
   cases d with
   | zero =>
    show Gd _ (negF p s true _ _ i) _
    rw[hneg,hprim,if_pos rfl]
    exact Gd.fail (by omega)
   | succ d =>
    show Gd _ (negF p s false _ (Lo s (oneB p s d) 4 1) i) _
    rw[hneg,hprim,if_neg (by simp)]
    unfold callF
    by_cases hk0:ks=[]
    ·subst hk0
     have hd3:s.drop (i+t.length+1)=41::post:=hd2
     rw[skp_of hd3 (by simp),get_at hd3,List.head?_cons,if_pos rfl]
     refine Gd.of ?_
     show Rs.ok _ _=Rs.ok _ (i+(t++40::([]++[41])).length)
     congr 1
     simp
     omega
    ·have hx0:∃ c r,comN (wrL ks)++41::post=c::r∧hdP c:=by
      cases ks with
      | nil=>exact absurd rfl hk0
      | cons x r =>
       obtain ⟨c,l,e,hc⟩:=wr_hd hp x (hkid x (by simp)).1
       exact ⟨c,(l++((wrL r).map fun t=>44::t).flatten)++41::post,by show (wrN x++_)++_=_;rw[e];rfl,hc⟩
     obtain ⟨c,r,e,hc⟩:=hx0
     have hd3:=hd2
     rw[e] at hd3
     rw[skp_of hd3 (by simpa using hc.ne.1),get_at hd3,if_neg (by simpa using hc.ne.2.2.2)]
     have hlen:ks.length≤s.length+1:=by
      have h1:=argsN_len (ks:=ks) (fun x hx=>wr_ne hp (hkid x hx).1)
      have h2:=congrArg List.length hd2
      rw[List.length_drop,List.length_append] at h2
      simp at h2
      omega
     refine (args_of (d:=d) hp hk0 hkid hd2 hlen).bind (E:=True) (Gd.of ?_) (fun hh=>⟨by omega,trivial⟩)
     show Rs.ok _ _=Rs.ok _ (i+(t++40::(comN (wrL ks)++[41])).length)
     rw[List.nil_append]
     congr 1
     simp
     omega
  exfalso
  unfold frmN at hf
  change k≠6 at h6
  omega
termination_by SizeOf.sizeOf n
decreasing_by
 all_goals simp only[Nd.mk.sizeOf_spec]
 all_goals first
  | (have:=List.sizeOf_lt_of_mem (List.getElem_mem hy);omega)
  | (simp;omega)
theorem frm_no6 {n:Nd} (h:frmN n False):kN n≠6:=fun h6=>by
 obtain ⟨k',m',t',a',b',ks'⟩:=n
 change k'=6 at h6
 subst h6
 rw[frm_6] at h
 exact h.1
theorem parse_wr (hp:PB p) {n:Nd} (hf:frmN n False) (ho:okN n):Gd (depN n≤30) (allF (s:=61::wrN n) (Tw (61::wrN n) (oneA p (61::wrN n) 30) 4)) (.ok n 0):=by
 rw[all_eq 30 (by simp)]
 unfold allF
 have hd:(61::wrN n).drop 1=wrN n++[]:=by simp
 refine (rd_of (d:=30) (least:=1) (post:=[]) hp hf (rdOk hp n hf (frm_no6 hf) ho) hd (.inl rfl) (by omega) (tgtN_pos n) (fun op len ho=>by cases ho)).bind (E:=True) (Gd.of ?_) (fun hh=>⟨hh,trivial⟩)
 have h2:=drop_app hd
 rw[skp_of h2 (by simp),if_pos (by simp;omega)]
end
end Go.Proofs.YtfkjhfdpphfjhaaGreatDoor
end
