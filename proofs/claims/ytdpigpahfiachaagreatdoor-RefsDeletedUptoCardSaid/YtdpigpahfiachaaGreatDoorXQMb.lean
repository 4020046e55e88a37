/- Proved: a part of what the law is proved with (the reckoner, contracts of functions, plain laws). Conditions: as each says. -/
import Derived.OwnWalk
import Derived.Lib.SliceRun
import Derived.Lib.Walk
import Derived.Test.YtdpigpahfiachaaGreatDoorXET
import Derived.Test.YtdpigpahfiachaaGreatDoorXGe
import Derived.Test.YtdpigpahfiachaaGreatDoorXKd
import Derived.Test.YtdpigpahfiachaaGreatDoorXPe
section
namespace Go.Proofs.YtdpigpahfiachaaGreatDoor
open Go Go.EYtdpigpahfiachaaGreatDoor
def badN:Nd:=.mk 4 3 [] ⟨0,0,false,false⟩ ⟨0,0,false,false⟩ []
mutual
def chN (ρ:Rf→Rf×Bool) (β:Rf→Rf→Rf×Rf×Bool):Nd→Nd
 | .mk k m t a b ks=>if k=5 then (if (ρ a).2=true then .mk k m t (ρ a).1 b (chL ρ β ks) else badN) else if k=6 then (if (β a b).2.2=true then .mk k m t (β a b).1 (β a b).2.1 (chL ρ β ks) else badN) else .mk k m t a b (chL ρ β ks)
def chL (ρ:Rf→Rf×Bool) (β:Rf→Rf→Rf×Rf×Bool):List Nd→List Nd
 | []=>[]
 | x::r=>chN ρ β x::chL ρ β r
end
section
variable {ρ:Rf→Rf×Bool} {β:Rf→Rf→Rf×Rf×Bool}
theorem chL_len:∀ ks:List Nd,(chL ρ β ks).length=ks.length
 | []=>rfl
 | _x::r=>congrArg (·+1) (chL_len r)
def chT (ρ:Rf→Rf×Bool) (β:Rf→Rf→Rf×Rf×Bool):Nat→List Nd→List Nd
 | 0,l=>l
 | _+1,[]=>[]
 | x+1,y::r=>chN ρ β y::chT ρ β x r
theorem chT_len:∀ (x:Nat) (ks:List Nd),(chT ρ β x ks).length=ks.length
 | 0,_l=>rfl
 | _+1,[]=>rfl
 | x+1,_y::r=>congrArg (·+1) (chT_len x r)
theorem chT_all:∀ ks:List Nd,chT ρ β ks.length ks=chL ρ β ks
 | []=>rfl
 | y::r=>by
  show chN ρ β y::chT ρ β r.length r=chN ρ β y::chL ρ β r
  rw[chT_all r]
theorem chT_set:∀ {x:Nat} {ks:List Nd} (h:x<ks.length),(Nd.csL (chT ρ β x ks)).set x (chN ρ β ks[x]).cs=Nd.csL (chT ρ β (x+1) ks)
 | 0,y::r,_=>rfl
 | x+1,y::r,h=>by
  have h':x<r.length:=by simpa using h
  exact congrArg (List.cons (chN ρ β y).cs) (chT_set (ks:=r) h')
theorem chT_get:∀ {x:Nat} {ks:List Nd} (h:x<ks.length),(Nd.csL (chT ρ β x ks))[x]?=some (ks[x]).cs
 | 0,y::r,_=>rfl
 | x+1,y::r,h=>by
  have h':x<r.length:=by simpa using h
  exact chT_get (ks:=r) h'
end
end Go.Proofs.YtdpigpahfiachaaGreatDoor
end
section
namespace Go.Proofs.YtdpigpahfiachaaGreatDoor
open Go Go.RowKit Go.EYtdpigpahfiachaaGreatDoor
set_option maxRecDepth 100000
set_option maxHeartbeats 4000000
variable {gl:List (Nat×List D)}
theorem clone_calls (ad:Addr) (n c:Nat) (news:List Value) (w:World) (hn:n≤200) (hl:news.length=n * 12) (hc:∀ j u,news[j]?=some u→w.cell? (ad.add j)=some u) (h1:∀ u ∈ news,u.oneCell'=true) :
 Calls Tryz.prog 124 #[.slice (some ad) n c] w fun e w'=>∃ v',e=.returned v'∧w'.ownsRow w.heap.size 28 12 v' n news∧v'≠.slice none 0 0∧Below w.heap.size w w':=by
 obtain ⟨i0,hi,hz0,hz1,hz2⟩:=info_parts (show (Tryz.prog.info? 28).map (fun i=>(i.zero,i.size,i.bytes))=some (some (.agg #[.int .i64 0,.int .i64 0,.string ⟨#[]⟩,.int .i64 0,.int .i64 0,.bool false,.bool false,.int .i64 0,.int .i64 0,.bool false,.bool false,.slice none 0 0]),12,104) by kernel_rfl)
 have q22:∀ (w:World) (a:Option Addr) (n c n' c':Nat),(binOp .eql 26 (.slice a n c) (.slice none n' c')).run Tryz.prog w=.ok (.bool a.isNone) w:=fun w a n c n' c'=>Lib.run_eql_slice_nil w _ _ a n c n' c' Tryz.underlying26
 have A:Aside (∀ j u,news[j]?=some u→w.cell? (ad.add j)=some u):=hc
 clear hc
 go_enter Tryz.func124,Tryz.ntmps124
 go_wp2_with (at_builtin;refine wpList_append_own _ rfl _ _ 26 rfl w.heap.size 28 i0 (.agg #[.int .i64 0,.int .i64 0,.string ⟨#[]⟩,.int .i64 0,.int .i64 0,.bool false,.bool false,.int .i64 0,.int .i64 0,.bool false,.bool false,.slice none 0 0]) 12 104 Tryz.underlying26 hi hz0 hz1 hz2 rfl (by decide) _ _ _ rfl (World.ownsRow_made w #[] 0 (Nat.le_refl _) (Nat.zero_le _) rfl) ad n c news rfl ?qc1 ?qc2 ?qc3 ?qc4 ?qc5 ?qc6 ?_)
 case qc1=>exact hl
 case qc2=>exact fun j u hj=>Lib.cell?_alloc_some _ (A.out j u hj)
 case qc3=>exact h1
 case qc4=>unfold maxLen;omega
 case qc5=>omega
 case qc6=>simp
 intro v' w1 hown hgrow hnil
 go_wp2
 go_ret
 refine ⟨v',rfl,by simpa using hown,?_,?_⟩
 ·exact hnil
 ·exact ((Below.refl _ w).alloc (Nat.le_refl _) _).grown hgrow (by simp) (by intro k hk;simp[Value.ownBlock] at hk;omega)
theorem csL_ones:∀ l:List Nd,allOne (Nd.csL l)=true
 | []=>rfl
 | .mk _ _ _ _ _ _::l=>csL_ones l
theorem Clone_x (l:List Nd) (h0:l≠[]) (hn:l.length≤200):Go.EYtdpigpahfiachaaGreatDoor.Fn Tryz.prog gl 124 [.c (.d (.lst 12 (Nd.csL l)))] [] 0 (.ret (.c (.all 12 0))) [(0,.rows 12 (Nd.csL l) 28)] 1 []:=by
 refine ⟨by omega,fun k B h hk=>(by omega),fun k hk=>(by cases hk),fun w M0 adr xs hW hG hd=>?_⟩
 obtain ⟨x,rfl,hx⟩:=All2.one_iff.1 hd
 obtain ⟨hrz,a,c,news,rfl,hden,hnl,hcell⟩:=lst_rows hx
 have hlen:=kid_len l
 rcases hcell with hcell|⟨ad,rfl,hcell⟩
 ·exact absurd (List.eq_nil_of_length_eq_zero (by rw[← hlen,hcell];rfl)) h0
 refine .inl ⟨by unfold HasBody;kernel_rfl,(clone_calls ad (Nd.csL l).length c news w (by omega) hnl hcell (allOne_ok (csL_ones l) hden)).mono ?_⟩
 rintro e w' ⟨v',rfl,hown,-,hb⟩
 have hE:Evo (Trk adr []) w w':=Evo.of_below hb _
 obtain ⟨-,⟨rfl,hz⟩|⟨g,cap,cur,rfl,hg,hh,hc1,hc2,hc3,hc4⟩⟩:=hown
 ·exact absurd (List.eq_nil_of_length_eq_zero (by omega)) h0
 refine ⟨fun k=>if k=0 then some (some g,(Nd.csL l).length) else none,hE,⟨?_,?_,?_,?_,?_,?_⟩,fun k hk=>(by omega),?_,_,rfl,.inr ⟨g,_,cap,cur,_,_,rfl,hh,hc3,hc1,hc2,rfl⟩⟩
 ·intro k B h
  match k,h with
  | 0,_=>decide
 ·intro k hk
  exact if_neg (by omega)
 ·intro k B h
  match k,h with
  | 0,h =>
   cases h
   have hfl:((Nd.csL l).flatten).length=(Nd.csL l).length * 12:=flatten_length hrz
   refine ⟨by decide,rfl,hrz,cur,cap,hh,hc3,hc1,hc2,?_⟩
   rw[hc4]
   refine hden.evo (S:=fun _=>False) (Evo.of_below hb _) (fun _ _ h=>h.elim) fun b hlt hm=>?_
   rcases hm with hm|⟨k,B,m,hk,he⟩
   ·exact .inl hm
   ·match k,hk with
    | 0,_ =>
     cases he
     omega
 ·intro k k' B B' b m m' h h' _ _
  match k,k',h,h' with
  | 0,0,_,_=>rfl
 ·intro k B b m h he hM
  match k,h with
  | 0,_ =>
   cases he
   have:=hW.bound _ hM
   omega
 ·intro b hM
  exact Nat.lt_of_lt_of_le (hW.bound b hM) hb.size
 ·intro k B b m h he
  match k,h with
  | 0,_ =>
   cases he
   exact .inr hg
theorem clone_nil (n c:Nat) (w:World):Calls Tryz.prog 124 #[.slice none n c] w fun e w'=>e=.returned (.slice none 0 0)∧w'=w:=by
 have q22:∀ (w:World) (a:Option Addr) (n c n' c':Nat),(binOp .eql 26 (.slice a n c) (.slice none n' c')).run Tryz.prog w=.ok (.bool a.isNone) w:=fun w a n c n' c'=>Lib.run_eql_slice_nil w _ _ a n c n' c' Tryz.underlying26
 go_enter Tryz.func124,Tryz.ntmps124
 go_wp2
 go_ret
 exact ⟨rfl,rfl⟩
theorem Clone_0:FnP Tryz.prog gl 124 [.lst 12 []] (.lst 12 []):=by
 intro w M xs hM hg hd
 obtain ⟨x,rfl,hx⟩:=All2.one_iff.1 hd
 obtain ⟨a,c,rfl⟩:∃ a c,x=.slice a 0 c:=by
  cases hx with
  | lst0 z a c hc=>exact ⟨a,c,rfl⟩
  | lst z l b o c cs hb hM hl hc hz h1 h2=>exact ⟨_,_,rfl⟩
 refine .inl ⟨by unfold HasBody;kernel_rfl,?_⟩
 cases a with
 | none =>
  refine (clone_nil 0 c w).mono ?_
  rintro e w' ⟨rfl,rfl⟩
  exact ⟨Evo.refl _ _,_,rfl,.lst0 _ _ _ (Nat.zero_le _)⟩
 | some ad =>
  refine (clone_calls ad 0 c [] w (by decide) rfl (fun j u h=>by cases h) (fun u h=>by cases h)).mono ?_
  rintro e w' ⟨v',rfl,⟨-,⟨rfl,-⟩|⟨g,cap,cur,rfl,-,-,-,h,-⟩⟩,-,hb⟩
  ·exact ⟨Evo.of_below hb _,_,rfl,.lst0 _ _ _ (Nat.zero_le _)⟩
  ·exact ⟨Evo.of_below hb _,_,rfl,.lst0 _ _ _ h⟩
end Go.Proofs.YtdpigpahfiachaaGreatDoor
end
section
namespace Go.Proofs.YtdpigpahfiachaaGreatDoor
open Go Go.EYtdpigpahfiachaaGreatDoor
theorem fitF1:FitsOne Tryz.prog 121 ⟨false,1,8,[.v .nilFunc],[],false,none,none,0,[],false,[]⟩:=⟨by kernel_rfl,rfl,rfl,by kernel_rfl,(fun h=>by cases h),by kernel_rfl⟩
theorem fitF2:FitsOne Tryz.prog 122 ⟨false,1,8,[.v .nilFunc],[],false,none,none,0,[],false,[]⟩:=⟨by kernel_rfl,rfl,rfl,by kernel_rfl,(fun h=>by cases h),by kernel_rfl⟩
theorem fitF3:FitsOne Tryz.prog 124 ⟨true,2,16,[.v .nilFunc,.v .nilFunc],[(0,1),(1,1)],false,none,none,6,[],false,[]⟩:=⟨by kernel_rfl,rfl,rfl,by kernel_rfl,(fun h=>by cases h),by kernel_rfl⟩
theorem fitsF:Fits Tryz.prog ((121,⟨false,1,8,[.v .nilFunc],[],false,none,none,0,[],false,[]⟩)::(122,⟨false,1,8,[.v .nilFunc],[],false,none,none,0,[],false,[]⟩)::(124,⟨true,2,16,[.v .nilFunc,.v .nilFunc],[(0,1),(1,1)],false,none,none,6,[],false,[]⟩)::tt) :=
 fits_cons fitF1 (fits_cons fitF2 (fits_cons fitF3 fits))
end Go.Proofs.YtdpigpahfiachaaGreatDoor
end
section
namespace Go.Proofs.YtdpigpahfiachaaGreatDoor
open Go Go.EYtdpigpahfiachaaGreatDoor
set_option maxRecDepth 100000
set_option maxHeartbeats 4000000
variable {gl:List (Nat×List D)}
abbrev rfC (a:Rf):List C:=[.d (iD a.c),.d (iD a.r),.d (tD a.fc),.d (tD a.fr)]
abbrev rfD (a:Rf):D:=.agg [iD a.c,iD a.r,tD a.fc,tD a.fr]
abbrev inB1 (i:Int):Blk:=.var [.d (iD i)] 3
end Go.Proofs.YtdpigpahfiachaaGreatDoor
end
