/- Proved: a part of what the law is proved with (the reckoner, contracts of functions, plain laws). Conditions: as each says. -/
import Derived.OwnWalk
import Derived.Lib.SliceRun
import Derived.Lib.Walk
import Derived.Test.YtdpigpahfiachaaGreatDoorVET
import Derived.Test.YtdpigpahfiachaaGreatDoorVGe
import Derived.Test.YtdpigpahfiachaaGreatDoorVKd
import Derived.Test.YtdpigpahfiachaaGreatDoorVPe
section
namespace Go.Proofs.YtdpigpahfiachaaGreatDoor
open Go Go.EYtdpigpahfiachaaGreatDoor
def badN:Nd:=.mk 4 3 [] ⟨0,0,false,false⟩ ⟨0,0,false,false⟩ []
mutual
def chN (ρ:Rf→Rf×Bool) (β:Rf→Rf→Rf×Rf×Bool):Nd→Nd
 | .mk k m t a b ks=>if k=5 then (if (ρ a).2=true then .mk k m t (ρ a).1 b (chL ρ β ks) else badN) else if k=6 then (if (β a b).2.2=true then .mk k m t (β a b).1 (β a b).2.1 (chL ρ β ks) else badN) else .mk k m t a b (chL ρ β ks)
def chL (ρ:Rf→Rf×Bool) (β:Rf→Rf→Rf×Rf×Bool):List Nd→List Nd
 | []=>[]
 | x::r=>chN ρ β x::chL ρ β r
end
section
variable {ρ:Rf→Rf×Bool} {β:Rf→Rf→Rf×Rf×Bool}
def chT (ρ:Rf→Rf×Bool) (β:Rf→Rf→Rf×Rf×Bool):Nat→List Nd→List Nd
 | 0,l=>l
 | _+1,[]=>[]
 | x+1,y::r=>chN ρ β y::chT ρ β x r
theorem chT_len:∀ (x:Nat) (ks:List Nd),(chT ρ β x ks).length=ks.length
 | 0,_l=>rfl
 | _+1,[]=>rfl
 | x+1,_y::r=>congrArg (·+1) (chT_len x r)
theorem chT_all:∀ ks:List Nd,chT ρ β ks.length ks=chL ρ β ks
 | []=>rfl
 | y::r=>by
  show chN ρ β y::chT ρ β r.length r=chN ρ β y::chL ρ β r
  rw[chT_all r]
theorem chT_set:∀ {x:Nat} {ks:List Nd} (h:x<ks.length),(Nd.csL (chT ρ β x ks)).set x (chN ρ β ks[x]).cs=Nd.csL (chT ρ β (x+1) ks)
 | 0,y::r,_=>rfl
 | x+1,y::r,h=>by
  have h':x<r.length:=by simpa using h
  exact congrArg (List.cons (chN ρ β y).cs) (chT_set (ks:=r) h')
theorem chT_get:∀ {x:Nat} {ks:List Nd} (h:x<ks.length),(Nd.csL (chT ρ β x ks))[x]?=some (ks[x]).cs
 | 0,y::r,_=>rfl
 | x+1,y::r,h=>by
  have h':x<r.length:=by simpa using h
  exact chT_get (ks:=r) h'
end
end Go.Proofs.YtdpigpahfiachaaGreatDoor
end
section
namespace Go.Proofs.YtdpigpahfiachaaGreatDoor
open Go Go.RowKit Go.EYtdpigpahfiachaaGreatDoor
set_option maxRecDepth 100000
set_option maxHeartbeats 4000000
variable {gl:List (Nat×List D)}
theorem clone_calls (ad:Addr) (n c:Nat) (news:List Value) (w:World) (hn:n≤200) (hl:news.length=n * 12) (hc:∀ j u,news[j]?=some u→w.cell? (ad.add j)=some u) (h1:∀ u ∈ news,u.oneCell'=true) :
 Calls Tryz.prog 124 #[.slice (some ad) n c] w fun e w'=>∃ v',e=.returned v'∧w'.ownsRow w.heap.size 28 12 v' n news∧v'≠.slice none 0 0∧Below w.heap.size w w':=by
 obtain ⟨i0,hi,hz0,hz1,hz2⟩:=info_parts (show (Tryz.prog.info? 28).map (fun i=>(i.zero,i.size,i.bytes))=some (some (.agg #[.int .i64 0,.int .i64 0,.string ⟨#[]⟩,.int .i64 0,.int .i64 0,.bool false,.bool false,.int .i64 0,.int .i64 0,.bool false,.bool false,.slice none 0 0]),12,104) by kernel_rfl)
 have q22:∀ (w:World) (a:Option Addr) (n c n' c':Nat),(binOp .eql 26 (.slice a n c) (.slice none n' c')).run Tryz.prog w=.ok (.bool a.isNone) w:=fun w a n c n' c'=>Lib.run_eql_slice_nil w _ _ a n c n' c' Tryz.underlying26
 have A:Aside (∀ j u,news[j]?=some u→w.cell? (ad.add j)=some u):=hc
 clear hc
 go_enter Tryz.func124,Tryz.ntmps124
 go_wp2_with (at_builtin;refine wpList_append_own _ rfl _ _ 26 rfl w.heap.size 28 i0 (.agg #[.int .i64 0,.int .i64 0,.string ⟨#[]⟩,.int .i64 0,.int .i64 0,.bool false,.bool false,.int .i64 0,.int .i64 0,.bool false,.bool false,.slice none 0 0]) 12 104 Tryz.underlying26 hi hz0 hz1 hz2 rfl (by decide) _ _ _ rfl (World.ownsRow_made w #[] 0 (Nat.le_refl _) (Nat.zero_le _) rfl) ad n c news rfl ?qc1 ?qc2 ?qc3 ?qc4 ?qc5 ?qc6 ?_)
 case qc1=>exact hl
 case qc2=>exact fun j u hj=>Lib.cell?_alloc_some _ (A.out j u hj)
 case qc3=>exact h1
 case qc4=>unfold maxLen;omega
 case qc5=>omega
 case qc6=>simp
 intro v' w1 hown hgrow hnil
 go_wp2
 go_ret
 refine ⟨v',rfl,by simpa using hown,?_,?_⟩
 ·exact hnil
 ·exact ((Below.refl _ w).alloc (Nat.le_refl _) _).grown hgrow (by simp) (by intro k hk;simp[Value.ownBlock] at hk;omega)
theorem csL_ones:∀ l:List Nd,allOne (Nd.csL l)=true
 | []=>rfl
 | .mk _ _ _ _ _ _::l=>csL_ones l
theorem Clone_x (l:List Nd) (h0:l≠[]) (hn:l.length≤200):Go.EYtdpigpahfiachaaGreatDoor.Fn Tryz.prog gl 124 [.c (.d (.lst 12 (Nd.csL l)))] [] 0 (.ret (.c (.all 12 0))) [(0,.rows 12 (Nd.csL l) 28)] 1 []:=by
 refine ⟨by omega,fun k B h hk=>(by omega),fun k hk=>(by cases hk),fun w M0 adr xs hW hG hd=>?_⟩
 obtain ⟨x,rfl,hx⟩:=All2.one_iff.1 hd
 obtain ⟨hrz,a,c,news,rfl,hden,hnl,hcell⟩:=lst_rows hx
 have hlen:=kid_len l
 rcases hcell with hcell|⟨ad,rfl,hcell⟩
 ·exact absurd (List.eq_nil_of_length_eq_zero (by rw[← hlen,hcell];rfl)) h0
 refine .inl ⟨by unfold HasBody;kernel_rfl,(clone_calls ad (Nd.csL l).length c news w (by omega) hnl hcell (allOne_ok (csL_ones l) hden)).mono ?_⟩
 rintro e w' ⟨v',rfl,hown,-,hb⟩
 have hE:Evo (Trk adr []) w w':=Evo.of_below hb _
 obtain ⟨-,⟨rfl,hz⟩|⟨g,cap,cur,rfl,hg,hh,hc1,hc2,hc3,hc4⟩⟩:=hown
 ·exact absurd (List.eq_nil_of_length_eq_zero (by omega)) h0
 refine ⟨fun k=>if k=0 then some (some g,(Nd.csL l).length) else none,hE,⟨?_,?_,?_,?_,?_,?_⟩,fun k hk=>(by omega),?_,_,rfl,.inr ⟨g,_,cap,cur,_,_,rfl,hh,hc3,hc1,hc2,rfl⟩⟩
 ·intro k B h
  match k,h with
  | 0,_=>decide
 ·intro k hk
  exact if_neg (by omega)
 ·intro k B h
  match k,h with
  | 0,h =>
   cases h
   have hfl:((Nd.csL l).flatten).length=(Nd.csL l).length * 12:=flatten_length hrz
   refine ⟨by decide,rfl,hrz,cur,cap,hh,hc3,hc1,hc2,?_⟩
   rw[hc4]
   refine hden.evo (S:=fun _=>False) (Evo.of_below hb _) (fun _ _ h=>h.elim) fun b hlt hm=>?_
   rcases hm with hm|⟨k,B,m,hk,he⟩
   ·exact .inl hm
   ·match k,hk with
    | 0,_ =>
     cases he
     omega
 ·intro k k' B B' b m m' h h' _ _
  match k,k',h,h' with
  | 0,0,_,_=>rfl
 ·intro k B b m h he hM
  match k,h with
  | 0,_ =>
   cases he
   have:=hW.bound _ hM
   omega
 ·intro b hM
  exact Nat.lt_of_lt_of_le (hW.bound b hM) hb.size
 ·intro k B b m h he
  match k,h with
  | 0,_ =>
   cases he
   exact .inr hg
theorem clone_nil (n c:Nat) (w:World):Calls Tryz.prog 124 #[.slice none n c] w fun e w'=>e=.returned (.slice none 0 0)∧w'=w:=by
 have q22:∀ (w:World) (a:Option Addr) (n c n' c':Nat),(binOp .eql 26 (.slice a n c) (.slice none n' c')).run Tryz.prog w=.ok (.bool a.isNone) w:=fun w a n c n' c'=>Lib.run_eql_slice_nil w _ _ a n c n' c' Tryz.underlying26
 go_enter Tryz.func124,Tryz.ntmps124
 go_wp2
 go_ret
 exact ⟨rfl,rfl⟩
theorem Clone_0:FnP Tryz.prog gl 124 [.lst 12 []] (.lst 12 []):=by
 intro w M xs hM hg hd
 obtain ⟨x,rfl,hx⟩:=All2.one_iff.1 hd
 obtain ⟨a,c,rfl⟩:∃ a c,x=.slice a 0 c:=by
  cases hx with
  | lst0 z a c hc=>exact ⟨a,c,rfl⟩
  | lst z l b o c cs hb hM hl hc hz h1 h2=>exact ⟨_,_,rfl⟩
 refine .inl ⟨by unfold HasBody;kernel_rfl,?_⟩
 cases a with
 | none =>
  refine (clone_nil 0 c w).mono ?_
  rintro e w' ⟨rfl,rfl⟩
  exact ⟨Evo.refl _ _,_,rfl,.lst0 _ _ _ (Nat.zero_le _)⟩
 | some ad =>
  refine (clone_calls ad 0 c [] w (by decide) rfl (fun j u h=>by cases h) (fun u h=>by cases h)).mono ?_
  rintro e w' ⟨v',rfl,⟨-,⟨rfl,-⟩|⟨g,cap,cur,rfl,-,-,-,h,-⟩⟩,-,hb⟩
  ·exact ⟨Evo.of_below hb _,_,rfl,.lst0 _ _ _ (Nat.zero_le _)⟩
  ·exact ⟨Evo.of_below hb _,_,rfl,.lst0 _ _ _ h⟩
end Go.Proofs.YtdpigpahfiachaaGreatDoor
end
section
namespace Go.Proofs.YtdpigpahfiachaaGreatDoor
open Go Go.EYtdpigpahfiachaaGreatDoor
theorem fitF1:FitsOne Tryz.prog 121 ⟨false,1,8,[.v .nilFunc],[],false,none,none,0,[],false,[]⟩:=⟨by kernel_rfl,rfl,rfl,by kernel_rfl,(fun h=>by cases h),by kernel_rfl⟩
theorem fitF2:FitsOne Tryz.prog 122 ⟨false,1,8,[.v .nilFunc],[],false,none,none,0,[],false,[]⟩:=⟨by kernel_rfl,rfl,rfl,by kernel_rfl,(fun h=>by cases h),by kernel_rfl⟩
theorem fitF3:FitsOne Tryz.prog 124 ⟨true,2,16,[.v .nilFunc,.v .nilFunc],[(0,1),(1,1)],false,none,none,6,[],false,[]⟩:=⟨by kernel_rfl,rfl,rfl,by kernel_rfl,(fun h=>by cases h),by kernel_rfl⟩
theorem fitsF:Fits Tryz.prog ((121,⟨false,1,8,[.v .nilFunc],[],false,none,none,0,[],false,[]⟩)::(122,⟨false,1,8,[.v .nilFunc],[],false,none,none,0,[],false,[]⟩)::(124,⟨true,2,16,[.v .nilFunc,.v .nilFunc],[(0,1),(1,1)],false,none,none,6,[],false,[]⟩)::tt) :=
 fits_cons fitF1 (fits_cons fitF2 (fits_cons fitF3 fits))
end Go.Proofs.YtdpigpahfiachaaGreatDoor
end
section
namespace Go.Proofs.YtdpigpahfiachaaGreatDoor
open Go Go.EYtdpigpahfiachaaGreatDoor
set_option maxRecDepth 100000
set_option maxHeartbeats 4000000
variable {gl:List (Nat×List D)}
abbrev rfC (a:Rf):List C:=[.d (iD a.c),.d (iD a.r),.d (tD a.fc),.d (tD a.fr)]
abbrev rfD (a:Rf):D:=.agg [iD a.c,iD a.r,tD a.fc,tD a.fr]
def shZ (dc dr:Int) (a:Rf):Rf×Bool:=if shiftP a.c a.r a.fc a.fr dc dr then (⟨if a.fc=true then a.c else a.c+dc,if a.fr=true then a.r else a.r+dr,a.fc,a.fr⟩,true) else (⟨0,0,false,false⟩,false)
theorem Shift_z (dc dr:Int) (a:Rf):FnP Tryz.prog gl 70 [rfD a,iD dc,iD dr] (.tup [rfD (shZ dc dr a).1,tD (shZ dc dr a).2]):=by
 unfold shZ
 by_cases h:shiftP a.c a.r a.fc a.fr dc dr
 ·rw[if_pos h];exact Shift_s h
 ·rw[if_neg h];exact Shift_n h
abbrev inB1 (i:Int):Blk:=.var [.d (iD i)] 3
theorem mov_ref (dc dr:Int) (a:Rf):Go.EYtdpigpahfiachaaGreatDoor.Fn Tryz.prog gl 69 [.agg (rfC a),.c (.ptr 0 0),.c (.ptr 1 0)] [(0,inB1 dc),(1,inB1 dr)] 2 (.ret (.tup [(true,rfC (shZ dc dr a).1),(false,[.d (tD (shZ dc dr a).2)])])) [(0,inB1 dc),(1,inB1 dr)] 2 []:=by
 have c1:=Shift_z (gl:=gl) dc dr a
 generalize shZ dc dr a=z at *
 obtain ⟨⟨c,r,f,g⟩,ok⟩:=z
 obtain ⟨c',r',f',g'⟩:=a
 refine fn_of_vc (nv:=9999) (cu:=[]) fitsF mixed Tryz.func69 rfl hoB rfl rfl rfl rfl ?_
 ((repeat' ((conv=>whnf);first|exact .intro|refine .ya ?_|refine .na ?_|refine .ys ?_|refine .ns ?_|refine .neg (fun _=>?_) (fun _=>?_)|refine .mk (fun _=>?_) (fun _=>?_)|refine .inl (.inl (X1 (c1) ?_))|refine .inl (X1 (c1) ?_)|refine X1 (c1) ?_|refine .mk ?_ ?_|refine AK ?_|refine AT ?_|fail));all_goals conv=>whnf)
 ((repeat' first|exact rfl|((conv=>whnf);first|done|exact suL|refine And.intro ?_ ?_|fail));all_goals conv=>whnf)
abbrev mvH (dc dr:Int):List (Nat×Blk):=[(0,inB1 dc),(1,inB1 dr),(2,.var [.fn 69 [(0,0),(1,0)]] 121)]
theorem mov_each (dc dr:Int):Go.EYtdpigpahfiachaaGreatDoor.Fn Tryz.prog gl 68 [.c (.fn 69 [(0,0),(1,0)])] [(0,inB1 dc),(1,inB1 dr)] 2 (.ret (.agg [.fn 69 [(0,0),(1,0)],.fn 121 [(2,0)]])) (mvH dc dr) 3 []:=by
 refine fn_of_vc (nv:=9999) (cu:=[]) fitsF mixed Tryz.func68 rfl hoB rfl rfl rfl rfl ?_
 ((repeat' ((conv=>whnf);first|exact .intro|refine .ya ?_|refine .na ?_|refine .ys ?_|refine .ns ?_|refine .neg (fun _=>?_) (fun _=>?_)|refine .mk (fun _=>?_) (fun _=>?_)|refine .mk ?_ ?_|refine AK ?_|refine AT ?_|fail));all_goals conv=>whnf)
 ((repeat' first|exact rfl|((conv=>whnf);first|done|exact suL|refine And.intro ?_ ?_|fail));all_goals conv=>whnf)
abbrev andB (p q:Bool):D:=match p with
 | true=>tD q
 | false=>.v (.bool false)
theorem mov_box (dc dr:Int) (a b:Rf):Go.EYtdpigpahfiachaaGreatDoor.Fn Tryz.prog gl 121 [.agg (rfC a),.agg (rfC b),.c (.ptr 2 0)] (mvH dc dr) 3 (.ret (.tup [(true,rfC (shZ dc dr a).1),(true,rfC (shZ dc dr b).1),(false,[.d (andB (shZ dc dr a).2 (shZ dc dr b).2)])])) (mvH dc dr) 3 []:=by
 have c1:=mov_ref (gl:=gl) dc dr a
 have c2:=mov_ref (gl:=gl) dc dr b
 generalize shZ dc dr a=z at *
 generalize shZ dc dr b=y at *
 obtain ⟨⟨c,r,f,g⟩,ok⟩:=z
 obtain ⟨⟨c',r',f',g'⟩,ok'⟩:=y
 obtain ⟨ac,ar,af,ag⟩:=a
 obtain ⟨bc,br,bf,bg⟩:=b
 cases ok
 all_goals refine fn_of_vc (nv:=9999) (cu:=[]) fitsF mixed Tryz.func121 rfl hoB rfl rfl rfl rfl ?_
 all_goals ((repeat' ((conv=>whnf);first|exact .intro|refine .ya ?_|refine .na ?_|refine .ys ?_|refine .ns ?_|refine .neg (fun _=>?_) (fun _=>?_)|refine .mk (fun _=>?_) (fun _=>?_)|refine .inr (X5 (c1.r [0,1] _) ?_)|refine .inl (.inr (X5 (c1.r [0,1] _) ?_))|refine .inl (X5 (c1.r [0,1] _) ?_)|refine .inr (X5 (c2.r [0,1] _) ?_)|refine .inl (.inr (X5 (c2.r [0,1] _) ?_))|refine .inl (X5 (c2.r [0,1] _) ?_)|refine .mk ?_ ?_|refine AK ?_|refine AT ?_|fail));all_goals conv=>whnf)
 all_goals ((repeat' first|exact rfl|((conv=>whnf);first|done|exact suL|refine And.intro ?_ ?_|fail));all_goals conv=>whnf)
end Go.Proofs.YtdpigpahfiachaaGreatDoor
end
section
namespace Go.Proofs.YtdpigpahfiachaaGreatDoor
open Go Go.EYtdpigpahfiachaaGreatDoor
set_option maxRecDepth 100000
set_option maxHeartbeats 4000000
variable {gl:List (Nat×List D)}
abbrev mvC:V:=.agg [.fn 69 [(0,0),(1,0)],.fn 121 [(2,0)]]
def bxZ (ρ:Rf→Rf×Bool) (a b:Rf):Rf×Rf×Bool:=((ρ a).1,(ρ b).1,(ρ a).2 && (ρ b).2)
def OnMv (gl:List (Nat×List D)) (dc dr:Int) (n:Nd):Prop:=Go.EYtdpigpahfiachaaGreatDoor.Fn Tryz.prog gl 71 [mvC,.agg (ndC n)] (mvH dc dr) 3 (.ret (.agg (ndC (chN (shZ dc dr) (bxZ (shZ dc dr)) n)))) (mvH dc dr) 3 []
theorem on_mv_k (dc dr:Int) (k m:Int) (t:List UInt8) (a b:Rf) (ks:List Nd) (h5:¬ k=5) (h6:¬ k=6) (h0:ks≠[]) (hn:ks.length≤200) (ih:∀ x (h:x<ks.length),OnMv gl dc dr ks[x]):OnMv gl dc dr (.mk k m t a b ks):=by
 have c0:=Clone_x (gl:=gl) ks h0 hn
 have hlen:=kid_len ks
 unfold OnMv chN
 rw[if_neg h5,if_neg h6]
 refine fn_of_vc (nv:=9999) (cu:=[100017]) fitsF mixed Tryz.func71 rfl hoB rfl rfl rfl rfl ?_
 ((repeat' ((conv=>whnf);first|exact .intro|refine .ya ?_|refine .na ?_|refine .ys ?_|refine .ns ?_|refine .neg (fun _=>?_) (fun _=>?_)|refine .mk (fun _=>?_) (fun _=>?_)|refine .inr (X5 (c0.r [] _) ?_)|refine .inl (.inr (X5 (c0.r [] _) ?_))|refine .inl (X5 (c0.r [] _) ?_)|refine .mk ?_ ?_|refine AK ?_|refine AT ?_|fail));all_goals conv=>whnf)
 refine ⟨{ σ:=Nat,fr:=fun x=>[(58,.c (.d (iD (x:Int))))],ks:=[7],L:=fun x=>[(7,.rows 12 (Nd.csL (chT (shZ dc dr) (bxZ (shZ dc dr)) x ks)) 28)],ex:=0,I:=fun x=>x≤ks.length,μ:=fun x=>ks.length - x },⟨0,Nat.zero_le _,?_⟩,fun (x:Nat) hx=>?_⟩
 ·((repeat' first|exact rfl|((conv=>whnf);first|done|exact suL|refine And.intro ?_ ?_|fail));all_goals conv=>whnf)
 ·replace hx:x≤ks.length:=hx
  by_cases hlt:x<ks.length
  ·have h2:(x:Int)<((Nd.csL ks).length:Nat):=by omega
   have e0:IntKind.i64.wrap ((x:Int)+1)=((x+1:Nat):Int):=by rw[wrapI (by omega)];rfl
   have g1:=chT_get (ρ:=shZ dc dr) (β:=bxZ (shZ dc dr)) hlt
   have g2:=chT_set (ρ:=shZ dc dr) (β:=bxZ (shZ dc dr)) hlt
   have hi:(x:Int)<((Nd.csL (chT (shZ dc dr) (bxZ (shZ dc dr)) x ks)).length:Nat):=by rw[kid_len,chT_len];omega
   have c1:=ih x hlt
   unfold OnMv at c1
   generalize hch:chN (shZ dc dr) (bxZ (shZ dc dr)) ks[x]=q' at *
   generalize ks[x]=q at *
   obtain ⟨k1,m1,t1,a1,b1,ks1⟩:=q
   obtain ⟨k2,m2,t2,a2,b2,ks2⟩:=q'
   ((repeat' ((conv=>whnf);first|exact .intro|refine .ya ?_|refine .na ?_|refine .ys ?_|refine .ns ?_|refine .neg (fun _=>?_) (fun _=>?_)|refine .mk (fun _=>?_) (fun _=>?_)|refine .inr (X5 (c1.r [0,1,2] _) ?_)|refine .inl (.inr (X5 (c1.r [0,1,2] _) ?_))|refine .inl (X5 (c1.r [0,1,2] _) ?_)|(first|refine ⟨⟨Int.natCast_nonneg _,hi⟩,?_⟩|refine ⟨Int.natCast_nonneg _,_,g1,?_⟩|refine ⟨_,g1,?_⟩)|refine .mk ?_ ?_|refine AK ?_|refine AT ?_|fail));all_goals conv=>whnf)
   all_goals refine ⟨x+1,⟨hlt,by show ks.length - (x+1)<ks.length - x;omega⟩,?_⟩
   all_goals ((repeat' first|exact rfl|((conv=>whnf);first|done|exact suL|refine And.intro ?_ ?_|fail));all_goals conv=>whnf)
   all_goals first
    | exact ceq e0
    | exact g2
    | exact congrArg (fun z=>Blk.rows 12 z 28) g2
  ·have h2:¬ (x:Int)<((Nd.csL ks).length:Nat):=by omega
   obtain rfl:x=ks.length:=by omega
   ((repeat' ((conv=>whnf);first|exact .intro|refine .ya ?_|refine .na ?_|refine .ys ?_|refine .ns ?_|refine .neg (fun _=>?_) (fun _=>?_)|refine .mk (fun _=>?_) (fun _=>?_)|refine .mk ?_ ?_|refine AK ?_|refine AT ?_|fail));all_goals conv=>whnf)
   ((repeat' first|exact rfl|((conv=>whnf);first|done|exact suL|refine And.intro ?_ ?_|fail));all_goals conv=>whnf)
   exact .inl (by rw[chT_all];rfl)
theorem on_mv_0 (dc dr:Int) (k m:Int) (t:List UInt8) (a b:Rf) (h5:¬ k=5) (h6:¬ k=6):OnMv gl dc dr (.mk k m t a b []):=by
 have c0:=Clone_0 (gl:=gl)
 have h2:¬ (0:Int)<((([]:List (List D)).length:Nat):Int):=by decide
 unfold OnMv chN
 rw[if_neg h5,if_neg h6]
 refine fn_of_vc (nv:=9999) (cu:=[]) fitsF mixed Tryz.func71 rfl hoB rfl rfl rfl rfl ?_
 ((repeat' ((conv=>whnf);first|exact .intro|refine .ya ?_|refine .na ?_|refine .ys ?_|refine .ns ?_|refine .neg (fun _=>?_) (fun _=>?_)|refine .mk (fun _=>?_) (fun _=>?_)|refine .inl (.inl (X1 (c0) ?_))|refine .inl (X1 (c0) ?_)|refine X1 (c0) ?_|refine .mk ?_ ?_|refine AK ?_|refine AT ?_|fail));all_goals conv=>whnf)
 refine ⟨{ σ:=Unit,fr:=fun x=>[(58,.c (.d (iD 0)))],ks:=[],L:=fun x=>[],ex:=0,I:=fun x=>True,μ:=fun x=>0 },⟨(),trivial,?_⟩,fun _ _=>?_⟩
 ·((repeat' first|exact rfl|((conv=>whnf);first|done|exact suL|refine And.intro ?_ ?_|fail));all_goals conv=>whnf)
 ·((repeat' ((conv=>whnf);first|exact .intro|refine .ya ?_|refine .na ?_|refine .ys ?_|refine .ns ?_|refine .neg (fun _=>?_) (fun _=>?_)|refine .mk (fun _=>?_) (fun _=>?_)|refine .mk ?_ ?_|refine AK ?_|refine AT ?_|fail));all_goals conv=>whnf)
  ((repeat' first|exact rfl|((conv=>whnf);first|done|exact suL|refine And.intro ?_ ?_|fail));all_goals conv=>whnf)
theorem on_mv_5 (dc dr:Int) (m:Int) (t:List UInt8) (a b:Rf):OnMv gl dc dr (.mk 5 m t a b []):=by
 have c0:=Clone_0 (gl:=gl)
 have c1:=mov_ref (gl:=gl) dc dr a
 have h2:¬ (0:Int)<((([]:List (List D)).length:Nat):Int):=by decide
 unfold OnMv chN
 rw[if_pos rfl]
 generalize shZ dc dr a=z at *
 obtain ⟨⟨c,r,f,g⟩,ok⟩:=z
 cases ok
 ·rw[if_neg (by simp)]
  refine fn_of_vc (nv:=9999) (cu:=[]) fitsF mixed Tryz.func71 rfl hoB rfl rfl rfl rfl ?_
  ((repeat' ((conv=>whnf);first|exact .intro|refine .ya ?_|refine .na ?_|refine .ys ?_|refine .ns ?_|refine .neg (fun _=>?_) (fun _=>?_)|refine .mk (fun _=>?_) (fun _=>?_)|refine .inr (X5 (c1.r [0,1] _) ?_)|refine .inl (.inr (X5 (c1.r [0,1] _) ?_))|refine .inl (X5 (c1.r [0,1] _) ?_)|refine .inl (.inl (X1 (c0) ?_))|refine .inl (X1 (c0) ?_)|refine X1 (c0) ?_|refine .mk ?_ ?_|refine AK ?_|refine AT ?_|fail));all_goals conv=>whnf)
  ((repeat' first|exact rfl|((conv=>whnf);first|done|exact suL|refine And.intro ?_ ?_|fail));all_goals conv=>whnf)
  (refine .inr ?_;repeat' first|exact .intro|exact .inr (.inl rfl)|exact lf0|exact ln0|((conv=>whnf);first|exact .intro|exact .inr (.inl rfl)|exact lf0|exact ln0|refine And.intro ?_ ?_|fail))
 ·refine fn_of_vc (nv:=9999) (cu:=[]) fitsF mixed Tryz.func71 rfl hoB rfl rfl rfl rfl ?_
  ((repeat' ((conv=>whnf);first|exact .intro|refine .ya ?_|refine .na ?_|refine .ys ?_|refine .ns ?_|refine .neg (fun _=>?_) (fun _=>?_)|refine .mk (fun _=>?_) (fun _=>?_)|refine .inr (X5 (c1.r [0,1] _) ?_)|refine .inl (.inr (X5 (c1.r [0,1] _) ?_))|refine .inl (X5 (c1.r [0,1] _) ?_)|refine .inl (.inl (X1 (c0) ?_))|refine .inl (X1 (c0) ?_)|refine X1 (c0) ?_|refine .mk ?_ ?_|refine AK ?_|refine AT ?_|fail));all_goals conv=>whnf)
  refine ⟨{ σ:=Unit,fr:=fun x=>[(58,.c (.d (iD 0)))],ks:=[],L:=fun x=>[],ex:=0,I:=fun x=>True,μ:=fun x=>0 },⟨(),trivial,?_⟩,fun _ _=>?_⟩
  ·((repeat' first|exact rfl|((conv=>whnf);first|done|exact suL|refine And.intro ?_ ?_|fail));all_goals conv=>whnf)
  ·((repeat' ((conv=>whnf);first|exact .intro|refine .ya ?_|refine .na ?_|refine .ys ?_|refine .ns ?_|refine .neg (fun _=>?_) (fun _=>?_)|refine .mk (fun _=>?_) (fun _=>?_)|refine .mk ?_ ?_|refine AK ?_|refine AT ?_|fail));all_goals conv=>whnf)
   ((repeat' first|exact rfl|((conv=>whnf);first|done|exact suL|refine And.intro ?_ ?_|fail));all_goals conv=>whnf)
theorem on_mv_6 (dc dr:Int) (m:Int) (t:List UInt8) (a b:Rf):OnMv gl dc dr (.mk 6 m t a b []):=by
 have c0:=Clone_0 (gl:=gl)
 have c1:=mov_box (gl:=gl) dc dr a b
 have h2:¬ (0:Int)<((([]:List (List D)).length:Nat):Int):=by decide
 unfold OnMv chN bxZ
 rw[if_neg (by decide),if_pos rfl]
 generalize shZ dc dr a=z at *
 generalize shZ dc dr b=y at *
 obtain ⟨⟨c,r,f,g⟩,ok⟩:=z
 obtain ⟨⟨c',r',f',g'⟩,ok'⟩:=y
 cases ok <;> cases ok'
 ·rw[if_neg (by simp)]
  refine fn_of_vc (nv:=9999) (cu:=[]) fitsF mixed Tryz.func71 rfl hoB rfl rfl rfl rfl ?_
  ((repeat' ((conv=>whnf);first|exact .intro|refine .ya ?_|refine .na ?_|refine .ys ?_|refine .ns ?_|refine .neg (fun _=>?_) (fun _=>?_)|refine .mk (fun _=>?_) (fun _=>?_)|refine .inr (X5 (c1.r [0,1,2] _) ?_)|refine .inl (.inr (X5 (c1.r [0,1,2] _) ?_))|refine .inl (X5 (c1.r [0,1,2] _) ?_)|refine .inl (.inl (X1 (c0) ?_))|refine .inl (X1 (c0) ?_)|refine X1 (c0) ?_|refine .mk ?_ ?_|refine AK ?_|refine AT ?_|fail));all_goals conv=>whnf)
  ((repeat' first|exact rfl|((conv=>whnf);first|done|exact suL|refine And.intro ?_ ?_|fail));all_goals conv=>whnf)
  (refine .inr ?_;repeat' first|exact .intro|exact .inr (.inl rfl)|exact lf0|exact ln0|((conv=>whnf);first|exact .intro|exact .inr (.inl rfl)|exact lf0|exact ln0|refine And.intro ?_ ?_|fail))
 ·rw[if_neg (by simp)]
  refine fn_of_vc (nv:=9999) (cu:=[]) fitsF mixed Tryz.func71 rfl hoB rfl rfl rfl rfl ?_
  ((repeat' ((conv=>whnf);first|exact .intro|refine .ya ?_|refine .na ?_|refine .ys ?_|refine .ns ?_|refine .neg (fun _=>?_) (fun _=>?_)|refine .mk (fun _=>?_) (fun _=>?_)|refine .inr (X5 (c1.r [0,1,2] _) ?_)|refine .inl (.inr (X5 (c1.r [0,1,2] _) ?_))|refine .inl (X5 (c1.r [0,1,2] _) ?_)|refine .inl (.inl (X1 (c0) ?_))|refine .inl (X1 (c0) ?_)|refine X1 (c0) ?_|refine .mk ?_ ?_|refine AK ?_|refine AT ?_|fail));all_goals conv=>whnf)
  ((repeat' first|exact rfl|((conv=>whnf);first|done|exact suL|refine And.intro ?_ ?_|fail));all_goals conv=>whnf)
  (refine .inr ?_;repeat' first|exact .intro|exact .inr (.inl rfl)|exact lf0|exact ln0|((conv=>whnf);first|exact .intro|exact .inr (.inl rfl)|exact lf0|exact ln0|refine And.intro ?_ ?_|fail))
 ·rw[if_neg (by simp)]
  refine fn_of_vc (nv:=9999) (cu:=[]) fitsF mixed Tryz.func71 rfl hoB rfl rfl rfl rfl ?_
  ((repeat' ((conv=>whnf);first|exact .intro|refine .ya ?_|refine .na ?_|refine .ys ?_|refine .ns ?_|refine .neg (fun _=>?_) (fun _=>?_)|refine .mk (fun _=>?_) (fun _=>?_)|refine .inr (X5 (c1.r [0,1,2] _) ?_)|refine .inl (.inr (X5 (c1.r [0,1,2] _) ?_))|refine .inl (X5 (c1.r [0,1,2] _) ?_)|refine .inl (.inl (X1 (c0) ?_))|refine .inl (X1 (c0) ?_)|refine X1 (c0) ?_|refine .mk ?_ ?_|refine AK ?_|refine AT ?_|fail));all_goals conv=>whnf)
  ((repeat' first|exact rfl|((conv=>whnf);first|done|exact suL|refine And.intro ?_ ?_|fail));all_goals conv=>whnf)
  (refine .inr ?_;repeat' first|exact .intro|exact .inr (.inl rfl)|exact lf0|exact ln0|((conv=>whnf);first|exact .intro|exact .inr (.inl rfl)|exact lf0|exact ln0|refine And.intro ?_ ?_|fail))
 ·refine fn_of_vc (nv:=9999) (cu:=[]) fitsF mixed Tryz.func71 rfl hoB rfl rfl rfl rfl ?_
  ((repeat' ((conv=>whnf);first|exact .intro|refine .ya ?_|refine .na ?_|refine .ys ?_|refine .ns ?_|refine .neg (fun _=>?_) (fun _=>?_)|refine .mk (fun _=>?_) (fun _=>?_)|refine .inr (X5 (c1.r [0,1,2] _) ?_)|refine .inl (.inr (X5 (c1.r [0,1,2] _) ?_))|refine .inl (X5 (c1.r [0,1,2] _) ?_)|refine .inl (.inl (X1 (c0) ?_))|refine .inl (X1 (c0) ?_)|refine X1 (c0) ?_|refine .mk ?_ ?_|refine AK ?_|refine AT ?_|fail));all_goals conv=>whnf)
  all_goals
   refine ⟨{ σ:=Unit,fr:=fun x=>[(58,.c (.d (iD 0)))],ks:=[],L:=fun x=>[],ex:=0,I:=fun x=>True,μ:=fun x=>0 },⟨(),trivial,?_⟩,fun _ _=>?_⟩
   ·((repeat' first|exact rfl|((conv=>whnf);first|done|exact suL|refine And.intro ?_ ?_|fail));all_goals conv=>whnf)
   ·((repeat' ((conv=>whnf);first|exact .intro|refine .ya ?_|refine .na ?_|refine .ys ?_|refine .ns ?_|refine .neg (fun _=>?_) (fun _=>?_)|refine .mk (fun _=>?_) (fun _=>?_)|refine .mk ?_ ?_|refine AK ?_|refine AT ?_|fail));all_goals conv=>whnf)
    ((repeat' first|exact rfl|((conv=>whnf);first|done|exact suL|refine And.intro ?_ ?_|fail));all_goals conv=>whnf)
theorem on_mv (dc dr:Int) (n:Nd):∀ {box:Prop},frmN n box→cntN n≤200→OnMv gl dc dr n:=by
 match n with
 | .mk k m t a b ks =>
  intro box hf hc
  have hcl:cntL ks+1≤200:=hc
  have hlk:=len_cnt ks
  have hcx:∀ x (h:x<ks.length),cntN ks[x]≤200:=fun x h=>by
   have h1:=cntL_take h
   have h2:=cntL_le ks (x+1)
   omega
  have hfx:∀ x (h:x<ks.length),∃ bx:Prop,frmN ks[x] bx:=fun x h=>by
   by_cases h7:k=7
   ·subst h7;rw[frm_7] at hf;exact ⟨_,frmL_iff.1 hf.2.2.2.2 x h⟩
   by_cases h8:k=8
   ·subst h8;rw[frm_8] at hf;exact ⟨_,frmL_iff.1 hf.2.2.2.2.2 x h⟩
   by_cases h9:k=9
   ·subst h9;rw[frm_9] at hf;exact ⟨_,frmL_iff.1 hf.2.2.2 x h⟩
   exfalso
   unfold frmN at hf
   omega
  have ih:∀ x (h:x<ks.length),OnMv gl dc dr ks[x]:=fun x h=>on_mv dc dr ks[x] (hfx x h).choose_spec (hcx x h)
  by_cases h5:k=5
  ·subst h5
   rw[frm_5] at hf
   obtain rfl:=List.eq_nil_of_length_eq_zero hf.1
   exact on_mv_5 dc dr m t a b
  by_cases h6:k=6
  ·subst h6
   rw[frm_6] at hf
   obtain rfl:=List.eq_nil_of_length_eq_zero hf.2.1
   exact on_mv_6 dc dr m t a b
  by_cases h0:ks=[]
  ·subst h0
   exact on_mv_0 dc dr k m t a b h5 h6
  ·exact on_mv_k dc dr k m t a b ks h5 h6 h0 (by omega) ih
termination_by SizeOf.sizeOf n
decreasing_by
 simp only[Nd.mk.sizeOf_spec]
 have:=List.sizeOf_lt_of_mem (List.getElem_mem h)
 omega
end Go.Proofs.YtdpigpahfiachaaGreatDoor
end
