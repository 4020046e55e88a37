/- Proved: a part of what the law is proved with (the reckoner, contracts of functions, plain laws). Conditions: as each says. -/
import Derived.OwnWalk
import Derived.Lib.SliceRun
import Derived.Lib.Walk
import Derived.Test.YtcdjjjokniinkaaGreatDoorXBase
import Derived.Test.YtcdjjjokniinkaaGreatDoorXEr
import Derived.Test.YtcdjjjokniinkaaGreatDoorXGe
import Derived.Test.YtcdjjjokniinkaaGreatDoorXJr
import Derived.Test.YtcdjjjokniinkaaGreatDoorXKa
section
namespace Go.Proofs.YtcdjjjokniinkaaGreatDoor
open Go Go.RowKit Go.EYtcdjjjokniinkaaGreatDoor
set_option maxRecDepth 100000
set_option maxHeartbeats 4000000
variable {gl:List (Nat×List D)}
theorem fclone_calls (ad:Addr) (n c:Nat) (news:List Value) (w:World) (hn:n≤65536) (hl:news.length=n * 3) (hc:∀ j u,news[j]?=some u→w.cell? (ad.add j)=some u) (h1:∀ u ∈ news,u.oneCell'=true) :
 Calls Tryz.prog 19 #[.slice (some ad) n c] w fun e w'=>∃ v',e=.returned v'∧w'.ownsRow w.heap.size 31 3 v' n news∧v'≠.slice none 0 0∧Below w.heap.size w w':=by
 obtain ⟨i0,hi,hz0,hz1,hz2⟩:=info_parts (show (Tryz.prog.info? 31).map (fun i=>(i.zero,i.size,i.bytes))=some (some (.agg #[.int .i64 0,.int .i64 0,.string ⟨#[]⟩]),3,32) by kernel_rfl)
 have q22:∀ (w:World) (a:Option Addr) (n c n' c':Nat),(binOp .eql 22 (.slice a n c) (.slice none n' c')).run Tryz.prog w=.ok (.bool a.isNone) w:=fun w a n c n' c'=>Lib.run_eql_slice_nil w _ _ a n c n' c' Tryz.underlying22
 have A:Aside (∀ j u,news[j]?=some u→w.cell? (ad.add j)=some u):=hc
 clear hc
 go_enter Tryz.func19,Tryz.ntmps19
 go_wp2_with (at_builtin;refine wpList_append_own _ rfl _ _ 22 rfl w.heap.size 31 i0 (.agg #[.int .i64 0,.int .i64 0,.string ⟨#[]⟩]) 3 32 Tryz.underlying22 hi hz0 hz1 hz2 rfl (by decide) _ _ _ rfl (World.ownsRow_made w #[] 0 (Nat.le_refl _) (Nat.zero_le _) rfl) ad n c news rfl ?qc1 ?qc2 ?qc3 ?qc4 ?qc5 ?qc6 ?_)
 case qc1=>exact hl
 case qc2=>exact fun j u hj=>Lib.cell?_alloc_some _ (A.out j u hj)
 case qc3=>exact h1
 case qc4=>unfold maxLen;omega
 case qc5=>omega
 case qc6=>simp
 intro v' w1 hown hgrow hnil
 go_wp2
 go_ret
 refine ⟨v',rfl,by simpa using hown,?_,?_⟩
 ·exact hnil
 ·exact ((Below.refl _ w).alloc (Nat.le_refl _) _).grown hgrow (by simp) (by intro k hk;simp[Value.ownBlock] at hk;omega)
theorem flD_ones:∀ l:List Fl,allOne (l.map flD)=true
 | []=>rfl
 | _::l=>flD_ones l
theorem FClone_x (l:List Fl) (h0:l≠[]) (hn:l.length≤65536):Go.EYtcdjjjokniinkaaGreatDoor.Fn Tryz.prog gl 19 [.c (.d (.lst 3 (l.map flD)))] [] 0 (.ret (.c (.all 3 0))) [(0,.rows 3 (l.map flD) 31)] 1 []:=by
 refine ⟨by omega,fun k B h hk=>(by omega),fun k hk=>(by cases hk),fun w M0 adr xs hW hG hd=>?_⟩
 obtain ⟨x,rfl,hx⟩:=All2.one_iff.1 hd
 obtain ⟨hrz,a,c,news,rfl,hden,hnl,hcell⟩:=lst_rows hx
 have hlen:=(List.length_map flD:(l.map flD).length=l.length)
 rcases hcell with hcell|⟨ad,rfl,hcell⟩
 ·exact absurd (List.eq_nil_of_length_eq_zero (by rw[← hlen,hcell];rfl)) h0
 refine .inl ⟨by unfold HasBody;kernel_rfl,(fclone_calls ad (l.map flD).length c news w (by omega) hnl hcell (allOne_ok (flD_ones l) hden)).mono ?_⟩
 rintro e w' ⟨v',rfl,hown,-,hb⟩
 have hE:Evo (Trk adr []) w w':=Evo.of_below hb _
 obtain ⟨-,⟨rfl,hz⟩|⟨g,cap,cur,rfl,hg,hh,hc1,hc2,hc3,hc4⟩⟩:=hown
 ·exact absurd (List.eq_nil_of_length_eq_zero (by omega)) h0
 refine ⟨fun k=>if k=0 then some (some g,(l.map flD).length) else none,hE,⟨?_,?_,?_,?_,?_,?_⟩,fun k hk=>(by omega),?_,_,rfl,.inr ⟨g,_,cap,cur,_,_,rfl,hh,hc3,hc1,hc2,rfl⟩⟩
 ·intro k B h
  match k,h with
  | 0,_=>decide
 ·intro k hk
  exact if_neg (by omega)
 ·intro k B h
  match k,h with
  | 0,h =>
   cases h
   have hfl:((l.map flD).flatten).length=(l.map flD).length * 3:=flatten_length hrz
   refine ⟨by decide,rfl,hrz,cur,cap,hh,hc3,hc1,hc2,?_⟩
   rw[hc4]
   refine hden.evo (S:=fun _=>False) (Evo.of_below hb _) (fun _ _ h=>h.elim) fun b hlt hm=>?_
   rcases hm with hm|⟨k,B,m,hk,he⟩
   ·exact .inl hm
   ·match k,hk with
    | 0,_ =>
     cases he
     omega
 ·intro k k' B B' b m m' h h' _ _
  match k,k',h,h' with
  | 0,0,_,_=>rfl
 ·intro k B b m h he hM
  match k,h with
  | 0,_ =>
   cases he
   have:=hW.bound _ hM
   omega
 ·intro b hM
  exact Nat.lt_of_lt_of_le (hW.bound b hM) hb.size
 ·intro k B b m h he
  match k,h with
  | 0,_ =>
   cases he
   exact .inr hg
theorem fclone_nil (n c:Nat) (w:World):Calls Tryz.prog 19 #[.slice none n c] w fun e w'=>e=.returned (.slice none 0 0)∧w'=w:=by
 have q22:∀ (w:World) (a:Option Addr) (n c n' c':Nat),(binOp .eql 22 (.slice a n c) (.slice none n' c')).run Tryz.prog w=.ok (.bool a.isNone) w:=fun w a n c n' c'=>Lib.run_eql_slice_nil w _ _ a n c n' c' Tryz.underlying22
 go_enter Tryz.func19,Tryz.ntmps19
 go_wp2
 go_ret
 exact ⟨rfl,rfl⟩
theorem FClone_0:FnP Tryz.prog gl 19 [.lst 3 []] (.lst 3 []):=by
 intro w M xs hM hg hd
 obtain ⟨x,rfl,hx⟩:=All2.one_iff.1 hd
 obtain ⟨a,c,rfl⟩:∃ a c,x=.slice a 0 c:=by
  cases hx with
  | lst0 z a c hc=>exact ⟨a,c,rfl⟩
  | lst z l b o c cs hb hM hl hc hz h1 h2=>exact ⟨_,_,rfl⟩
 refine .inl ⟨by unfold HasBody;kernel_rfl,?_⟩
 cases a with
 | none =>
  refine (fclone_nil 0 c w).mono ?_
  rintro e w' ⟨rfl,rfl⟩
  exact ⟨Evo.refl _ _,_,rfl,.lst0 _ _ _ (Nat.zero_le _)⟩
 | some ad =>
  refine (fclone_calls ad 0 c [] w (by decide) rfl (fun j u h=>by cases h) (fun u h=>by cases h)).mono ?_
  rintro e w' ⟨v',rfl,⟨-,⟨rfl,-⟩|⟨g,cap,cur,rfl,-,-,-,h,-⟩⟩,-,hb⟩
  ·exact ⟨Evo.of_below hb _,_,rfl,.lst0 _ _ _ (Nat.zero_le _)⟩
  ·exact ⟨Evo.of_below hb _,_,rfl,.lst0 _ _ _ h⟩
end Go.Proofs.YtcdjjjokniinkaaGreatDoor
end
section
namespace Go.Proofs.YtcdjjjokniinkaaGreatDoor
open Go Go.EYtcdjjjokniinkaaGreatDoor
set_option maxRecDepth 100000
variable {gl:List (Nat×List D)}
def Gives1 (gl:List (Nat×List D)) (f:Nat) (vs:List V) (s:List UInt8) (i d:Nat):Rs Nd→Prop
 | .ok n j=>Go.EYtcdjjjokniinkaaGreatDoor.Fn Tryz.prog gl f vs [(0,rdB s i d)] 1 (.ret (.agg (ndC n))) [(0,rdB s j d)] 1 []
 | .no a e=>Go.EYtcdjjjokniinkaaGreatDoor.Fn Tryz.prog gl f vs [(0,rdB s i d)] 1 (.panic (.d (fltD a e))) [] 1 []
theorem neg1_ok {s:List UInt8} {i j d:Nat} {n:Nd} (hi:i<s.length) (hs:s.length≤200) (h:Gives1 gl 91 [.c (.ptr 0 0)] s (i+1) d (.ok n j)) :
 Go.EYtcdjjjokniinkaaGreatDoor.Fn Tryz.prog gl 129 [.c (.ptr 1 0)] [(0,rdB s i d),(1,rpB)] 2 (.ret (.agg (ndC (negN n)))) [(0,rdB s j d),(1,rpB)] 2 []:=by
 obtain ⟨k,m,t,a,b,ks⟩:=n
 have e1:IntKind.i64.wrap (((i:Nat):Int)+1)=((i+1:Nat):Int):=by rw[wrapI (by omega)];rfl
 unfold Gives1 at h
 refine fn_of_vc (nv:=9999) (cu:=[]) fits mixed Tryz.func129 rfl hoB rfl rfl rfl rfl ?_
 ((repeat' ((conv=>whnf);first|exact .intro|refine .ya ?_|refine .na ?_|refine .ys ?_|refine .ns ?_|refine .neg (fun _=>?_) (fun _=>?_)|refine .mk (fun _=>?_) (fun _=>?_)|refine .inr (X5 (h.r [0] _) ?_)|refine .inl (.inr (X5 (h.r [0] _) ?_))|refine .inl (X5 (h.r [0] _) ?_)|(rw[e1])|refine .mk ?_ ?_|refine AK ?_|refine AT ?_|fail));all_goals conv=>whnf)
 ((repeat' first|exact rfl|((conv=>whnf);first|done|exact suL|refine And.intro ?_ ?_|fail));all_goals conv=>whnf)
 (refine .inr ?_;repeat' first|exact .intro|exact .inr (.inl rfl)|exact lf0|exact ln0|((conv=>whnf);first|exact .intro|exact .inr (.inl rfl)|exact lf0|exact ln0|refine And.intro ?_ ?_|fail))
theorem neg1_no {s:List UInt8} {i p d:Nat} {e:Int} (hi:i<s.length) (hs:s.length≤200) (h:Gives1 gl 91 [.c (.ptr 0 0)] s (i+1) d (.no p e)) :
 Go.EYtcdjjjokniinkaaGreatDoor.Fn Tryz.prog gl 129 [.c (.ptr 1 0)] [(0,rdB s i d),(1,rpB)] 2 (.panic (.d (fltD p e))) [] 2 []:=by
 have e1:IntKind.i64.wrap (((i:Nat):Int)+1)=((i+1:Nat):Int):=by rw[wrapI (by omega)];rfl
 unfold Gives1 at h
 refine fn_of_vc (nv:=9999) (cu:=[]) fits mixed Tryz.func129 rfl hoB rfl rfl rfl rfl ?_
 ((repeat' ((conv=>whnf);first|exact .intro|refine .ya ?_|refine .na ?_|refine .ys ?_|refine .ns ?_|refine .neg (fun _=>?_) (fun _=>?_)|refine .mk (fun _=>?_) (fun _=>?_)|refine .inr (X5 (h.r [0] _) ?_)|refine .inl (.inr (X5 (h.r [0] _) ?_))|refine .inl (X5 (h.r [0] _) ?_)|(rw[e1])|refine .mk ?_ ?_|refine AK ?_|refine AT ?_|fail));all_goals conv=>whnf)
 ((repeat' first|exact rfl|((conv=>whnf);first|done|exact suL|refine And.intro ?_ ?_|fail));all_goals conv=>whnf)
theorem prim1_ok {s:List UInt8} {i j d:Nat} {n:Nd} (hi:i<s.length) (hj:j≤s.length) (hs:s.length≤200) (h:Gives1 gl 67 [.c (.ptr 0 0),.c (.d (iD 0))] s (i+1) d (.ok n j)) (hq:s[skp s j]?=some 41) :
 Go.EYtcdjjjokniinkaaGreatDoor.Fn Tryz.prog gl 150 [.c (.ptr 1 0)] [(0,rdB s i d),(1,rpB)] 2 (.ret (.agg (ndC n))) [(0,rdB s (skp s j+1) d),(1,rpB)] 2 []:=by
 obtain ⟨k,m,t,a,b,ks⟩:=n
 have e1:IntKind.i64.wrap (((i:Nat):Int)+1)=((i+1:Nat):Int):=by rw[wrapI (by omega)];rfl
 have c2:=want_y (gl:=gl) (d:=d) hj hs hq
 unfold Gives1 at h
 refine fn_of_vc (nv:=9999) (cu:=[]) fits mixed Tryz.func150 rfl hoB rfl rfl rfl rfl ?_
 ((repeat' ((conv=>whnf);first|exact .intro|refine .ya ?_|refine .na ?_|refine .ys ?_|refine .ns ?_|refine .neg (fun _=>?_) (fun _=>?_)|refine .mk (fun _=>?_) (fun _=>?_)|refine .inr (X5 (h.r [0] _) ?_)|refine .inl (.inr (X5 (h.r [0] _) ?_))|refine .inl (X5 (h.r [0] _) ?_)|refine .inr (X5 (c2.r [0] _) ?_)|refine .inl (.inr (X5 (c2.r [0] _) ?_))|refine .inl (X5 (c2.r [0] _) ?_)|(rw[e1])|refine .mk ?_ ?_|refine AK ?_|refine AT ?_|fail));all_goals conv=>whnf)
 ((repeat' first|exact rfl|((conv=>whnf);first|done|exact suL|refine And.intro ?_ ?_|fail));all_goals conv=>whnf)
theorem prim1_n {s:List UInt8} {i j d:Nat} {n:Nd} (hi:i<s.length) (hj:j≤s.length) (hs:s.length≤200) (h:Gives1 gl 67 [.c (.ptr 0 0),.c (.d (iD 0))] s (i+1) d (.ok n j)) (hq:s[skp s j]?≠some 41) :
 Go.EYtcdjjjokniinkaaGreatDoor.Fn Tryz.prog gl 150 [.c (.ptr 1 0)] [(0,rdB s i d),(1,rpB)] 2 (.panic (.d (fltD (skp s j) 2))) [] 2 []:=by
 obtain ⟨k,m,t,a,b,ks⟩:=n
 have e1:IntKind.i64.wrap (((i:Nat):Int)+1)=((i+1:Nat):Int):=by rw[wrapI (by omega)];rfl
 have c2:=want_n (gl:=gl) (d:=d) hj hs hq
 unfold Gives1 at h
 refine fn_of_vc (nv:=9999) (cu:=[]) fits mixed Tryz.func150 rfl hoB rfl rfl rfl rfl ?_
 ((repeat' ((conv=>whnf);first|exact .intro|refine .ya ?_|refine .na ?_|refine .ys ?_|refine .ns ?_|refine .neg (fun _=>?_) (fun _=>?_)|refine .mk (fun _=>?_) (fun _=>?_)|refine .inr (X5 (h.r [0] _) ?_)|refine .inl (.inr (X5 (h.r [0] _) ?_))|refine .inl (X5 (h.r [0] _) ?_)|refine .inr (X5 (c2.r [0] _) ?_)|refine .inl (.inr (X5 (c2.r [0] _) ?_))|refine .inl (X5 (c2.r [0] _) ?_)|(rw[e1])|refine .mk ?_ ?_|refine AK ?_|refine AT ?_|fail));all_goals conv=>whnf)
 ((repeat' first|exact rfl|((conv=>whnf);first|done|exact suL|refine And.intro ?_ ?_|fail));all_goals conv=>whnf)
theorem prim1_no {s:List UInt8} {i p d:Nat} {e:Int} (hi:i<s.length) (hs:s.length≤200) (h:Gives1 gl 67 [.c (.ptr 0 0),.c (.d (iD 0))] s (i+1) d (.no p e)) :
 Go.EYtcdjjjokniinkaaGreatDoor.Fn Tryz.prog gl 150 [.c (.ptr 1 0)] [(0,rdB s i d),(1,rpB)] 2 (.panic (.d (fltD p e))) [] 2 []:=by
 have e1:IntKind.i64.wrap (((i:Nat):Int)+1)=((i+1:Nat):Int):=by rw[wrapI (by omega)];rfl
 unfold Gives1 at h
 refine fn_of_vc (nv:=9999) (cu:=[]) fits mixed Tryz.func150 rfl hoB rfl rfl rfl rfl ?_
 ((repeat' ((conv=>whnf);first|exact .intro|refine .ya ?_|refine .na ?_|refine .ys ?_|refine .ns ?_|refine .neg (fun _=>?_) (fun _=>?_)|refine .mk (fun _=>?_) (fun _=>?_)|refine .inr (X5 (h.r [0] _) ?_)|refine .inl (.inr (X5 (h.r [0] _) ?_))|refine .inl (X5 (h.r [0] _) ?_)|(rw[e1])|refine .mk ?_ ?_|refine AK ?_|refine AT ?_|fail));all_goals conv=>whnf)
 ((repeat' first|exact rfl|((conv=>whnf);first|done|exact suL|refine And.intro ?_ ?_|fail));all_goals conv=>whnf)
theorem prim2_ok {s w:List UInt8} {i j d:Nat} {n:Nd} (h:Gives1 gl 157 [.c (.ptr 0 0),.c (.d (.str w))] s i d (.ok n j)) :
 Go.EYtcdjjjokniinkaaGreatDoor.Fn Tryz.prog gl 156 [.c (.ptr 1 0),.c (.ptr 2 0)] [(0,rdB s i d),(1,rpB),(2,txB w)] 3 (.ret (.agg (ndC n))) [(0,rdB s j d),(1,rpB),(2,txB w)] 3 []:=by
 obtain ⟨k,m,t,a,b,ks⟩:=n
 unfold Gives1 at h
 refine fn_of_vc (nv:=9999) (cu:=[]) fits mixed Tryz.func156 rfl hoB rfl rfl rfl rfl ?_
 ((repeat' ((conv=>whnf);first|exact .intro|refine .ya ?_|refine .na ?_|refine .ys ?_|refine .ns ?_|refine .neg (fun _=>?_) (fun _=>?_)|refine .mk (fun _=>?_) (fun _=>?_)|refine .inr (X5 (h.r [0] _) ?_)|refine .inl (.inr (X5 (h.r [0] _) ?_))|refine .inl (X5 (h.r [0] _) ?_)|refine .mk ?_ ?_|refine AK ?_|refine AT ?_|fail));all_goals conv=>whnf)
 ((repeat' first|exact rfl|((conv=>whnf);first|done|exact suL|refine And.intro ?_ ?_|fail));all_goals conv=>whnf)
theorem prim2_no {s w:List UInt8} {i p d:Nat} {e:Int} (h:Gives1 gl 157 [.c (.ptr 0 0),.c (.d (.str w))] s i d (.no p e)) :
 Go.EYtcdjjjokniinkaaGreatDoor.Fn Tryz.prog gl 156 [.c (.ptr 1 0),.c (.ptr 2 0)] [(0,rdB s i d),(1,rpB),(2,txB w)] 3 (.panic (.d (fltD p e))) [] 3 []:=by
 unfold Gives1 at h
 refine fn_of_vc (nv:=9999) (cu:=[]) fits mixed Tryz.func156 rfl hoB rfl rfl rfl rfl ?_
 ((repeat' ((conv=>whnf);first|exact .intro|refine .ya ?_|refine .na ?_|refine .ys ?_|refine .ns ?_|refine .neg (fun _=>?_) (fun _=>?_)|refine .mk (fun _=>?_) (fun _=>?_)|refine .inr (X5 (h.r [0] _) ?_)|refine .inl (.inr (X5 (h.r [0] _) ?_))|refine .inl (X5 (h.r [0] _) ?_)|refine .mk ?_ ?_|refine AK ?_|refine AT ?_|fail));all_goals conv=>whnf)
 ((repeat' first|exact rfl|((conv=>whnf);first|done|exact suL|refine And.intro ?_ ?_|fail));all_goals conv=>whnf)
end Go.Proofs.YtcdjjjokniinkaaGreatDoor
end
section
namespace Go.Proofs.YtcdjjjokniinkaaGreatDoor
open Go Go.EYtcdjjjokniinkaaGreatDoor
set_option maxRecDepth 100000
variable {gl:List (Nat×List D)}
theorem HasPrefix_d (s p:List UInt8) {b:Bool} (hb:b=(decide (p.length≤s.length) && decide (s.take p.length=p))):FnP Tryz.prog gl 64 [.str s,.str p] (.v (.bool b)):=by
 have c1:FnP Tryz.prog gl 90 [.str s,.str p] (.v (.bool b)):=by
  by_cases h1:(s.length:Int)≥(p.length:Int)
  ·have h1':p.length≤s.length:=by omega
   refine fnP_of_vc (nv:=9999) (cu:=[]) fits mixed Tryz.func90 rfl hoB rfl ?_
   ((repeat' ((conv=>whnf);first|exact .intro|refine .ya ?_|refine .na ?_|refine .ys ?_|refine .ns ?_|refine .neg (fun _=>?_) (fun _=>?_)|refine .mk (fun _=>?_) (fun _=>?_)|refine .mk ?_ ?_|refine AK ?_|refine AT ?_|fail));all_goals conv=>whnf)
   refine ⟨⟨Int.le_refl 0,(show (0:Int)≤((p.length:Nat):Int) by omega),(show ((p.length:Nat):Int)≤((s.length:Nat):Int) by omega)⟩,?_⟩
   subst hb
   by_cases h2:s.take p.length=p
   ·simp only[h1',h2,decide_true,Bool.and_self]
    ((repeat' ((conv=>whnf);first|exact .intro|refine .ya ?_|refine .na ?_|refine .ys ?_|refine .ns ?_|refine .neg (fun _=>?_) (fun _=>?_)|refine .mk (fun _=>?_) (fun _=>?_)|refine .mk ?_ ?_|refine AK ?_|refine AT ?_|fail));all_goals conv=>whnf)
    all_goals first|exact LeD.rfl|exact LeD.vt (show (s.take ((p.length:Nat):Int).toNat).drop 0=p by rw[Int.toNat_natCast];exact h2)
   ·simp only[h1',h2,decide_true,decide_false,Bool.and_false]
    ((repeat' ((conv=>whnf);first|exact .intro|refine .ya ?_|refine .na ?_|refine .ys ?_|refine .ns ?_|refine .neg (fun _=>?_) (fun _=>?_)|refine .mk (fun _=>?_) (fun _=>?_)|refine .mk ?_ ?_|refine AK ?_|refine AT ?_|fail));all_goals conv=>whnf)
    all_goals first|exact LeD.rfl|exact LeD.vf (fun h=>h2 (by have h:(s.take ((p.length:Nat):Int).toNat).drop 0=p:=h;rw[Int.toNat_natCast] at h;exact h))
  ·have h1':¬ p.length≤s.length:=by omega
   subst hb
   simp only[h1',decide_false,Bool.false_and]
   refine fnP_of_vc (nv:=9999) (cu:=[]) fits mixed Tryz.func90 rfl hoB rfl ?_
   ((repeat' ((conv=>whnf);first|exact .intro|refine .ya ?_|refine .na ?_|refine .ys ?_|refine .ns ?_|refine .neg (fun _=>?_) (fun _=>?_)|refine .mk (fun _=>?_) (fun _=>?_)|refine .mk ?_ ?_|refine AK ?_|refine AT ?_|fail));all_goals conv=>whnf)
   all_goals exact LeD.rfl
 refine fnP_of_vc (nv:=9999) (cu:=[]) fits mixed Tryz.func64 rfl hoB rfl ?_
 ((repeat' ((conv=>whnf);first|exact .intro|refine .ya ?_|refine .na ?_|refine .ys ?_|refine .ns ?_|refine .neg (fun _=>?_) (fun _=>?_)|refine .mk (fun _=>?_) (fun _=>?_)|refine .inl (.inl (X1 (c1) ?_))|refine .inl (X1 (c1) ?_)|refine X1 (c1) ?_|refine .mk ?_ ?_|refine AK ?_|refine AT ?_|fail));all_goals conv=>whnf)
 exact LeD.rfl
theorem opOf_d (op:Nat) (t:List UInt8) (h:(op,t) ∈ [(1,[61]),(2,[60,62]),(3,[60]),(4,[60,61]),(5,[62]),(6,[62,61]),(7,[38]),(8,[43]),(9,[45]),(10,[42]),(11,[47])]):FnP Tryz.prog gl 92 [.str t] (iD (op:Int)):=by
 simp only[List.mem_cons,Prod.mk.injEq,List.not_mem_nil,or_false] at h
 rcases h with ⟨rfl,rfl⟩|⟨rfl,rfl⟩|⟨rfl,rfl⟩|⟨rfl,rfl⟩|⟨rfl,rfl⟩|⟨rfl,rfl⟩|⟨rfl,rfl⟩|⟨rfl,rfl⟩|⟨rfl,rfl⟩|⟨rfl,rfl⟩|⟨rfl,rfl⟩
 all_goals
  refine fnP_of_vc (nv:=9999) (cu:=[]) fits mixed Tryz.func92 rfl hoB rfl ?_
  ((repeat' ((conv=>whnf);first|exact .intro|refine .ya ?_|refine .na ?_|refine .ys ?_|refine .ns ?_|refine .neg (fun _=>?_) (fun _=>?_)|refine .mk (fun _=>?_) (fun _=>?_)|refine .mk ?_ ?_|refine AK ?_|refine AT ?_|fail));all_goals conv=>whnf)
  all_goals first|exact LeD.rfl|(exfalso;simp_all;done)
end Go.Proofs.YtcdjjjokniinkaaGreatDoor
end
section
namespace Go.Proofs.YtcdjjjokniinkaaGreatDoor
open Go Go.EYtcdjjjokniinkaaGreatDoor
set_option maxRecDepth 100000
variable {gl:List (Nat×List D)}
def litN (t:List UInt8):Nat→Nat→Option (Int×Nat)
 | 0,_=>none
 | f+1,n=>match litZ (t.take n) with
  | some q=>some (q.2,n)
  | none=>litN t f (n+1)
theorem litN_len (t:List UInt8):∀ (f n:Nat) (m:Int) (l:Nat),litN t f n=some (m,l)→n≤l∧l<n+f
 | 0,n,m,l,h=>by cases h
 | f+1,n,m,l,h=>by
  unfold litN at h
  split at h
  ·cases h;omega
  ·have:=litN_len t f (n+1) m l h;omega
def litF (t:List UInt8):Option (Int×Nat):=litN t t.length 1
theorem litF_len (t:List UInt8) (m:Int) (l:Nat) (h:litF t=some (m,l)):1≤l∧l≤t.length:=by
 have:=litN_len t _ _ _ _ h
 omega
def parZ (rf:List UInt8→Option Rf):Par:=⟨plZ rf,clZ,rf,litF,litF_len⟩
end Go.Proofs.YtcdjjjokniinkaaGreatDoor
end
