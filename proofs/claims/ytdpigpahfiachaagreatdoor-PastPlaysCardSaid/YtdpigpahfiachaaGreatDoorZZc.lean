/- Proved: a part of what the law is proved with (the reckoner, contracts of functions, plain laws). Conditions: as each says. -/
import Derived.OwnWalk
import Derived.Lib.SliceRun
import Derived.Lib.Walk
import Derived.Test.YtdpigpahfiachaaGreatDoorZBi
import Derived.Test.YtdpigpahfiachaaGreatDoorZEs
import Derived.Test.YtdpigpahfiachaaGreatDoorZFv
import Derived.Test.YtdpigpahfiachaaGreatDoorZFy
import Derived.Test.YtdpigpahfiachaaGreatDoorZGb
import Derived.Test.YtdpigpahfiachaaGreatDoorZGe
import Derived.Test.YtdpigpahfiachaaGreatDoorZGi
import Derived.Test.YtdpigpahfiachaaGreatDoorZPc
section
namespace Go.Proofs.YtdpigpahfiachaaGreatDoor
open Go Go.EYtdpigpahfiachaaGreatDoor
open Go
open Go
section
variable {m:Int} {t:List UInt8} {a b:Rf} {ks:List Nd} {box:Prop}
end
open Go
open Go
mutual
def okN:Nd→Prop
 | .mk _ m t _ _ ks=>okI m∧t.length≤1048576∧okL ks
def okL:List Nd→Prop
 | []=>True
 | x::r=>okN x∧okL r
end
end Go.Proofs.YtdpigpahfiachaaGreatDoor
end
section
namespace Go.Proofs.YtdpigpahfiachaaGreatDoor
open Go Go.RowKit Go.EYtdpigpahfiachaaGreatDoor
set_option maxRecDepth 100000
set_option maxHeartbeats 4000000
variable {gl:List (Nat×List D)}
theorem fclone_calls (ad:Addr) (n c:Nat) (news:List Value) (w:World) (hn:n≤65536) (hl:news.length=n * 3) (hc:∀ j u,news[j]?=some u→w.cell? (ad.add j)=some u) (h1:∀ u ∈ news,u.oneCell'=true) :
 Calls Tryz.prog 58 #[.slice (some ad) n c] w fun e w'=>∃ v',e=.returned v'∧w'.ownsRow w.heap.size 44 3 v' n news∧v'≠.slice none 0 0∧Below w.heap.size w w':=by
 obtain ⟨i0,hi,hz0,hz1,hz2⟩:=info_parts (show (Tryz.prog.info? 44).map (fun i=>(i.zero,i.size,i.bytes))=some (some (.agg #[.int .i64 0,.int .i64 0,.string ⟨#[]⟩]),3,32) by kernel_rfl)
 have q22:∀ (w:World) (a:Option Addr) (n c n' c':Nat),(binOp .eql 38 (.slice a n c) (.slice none n' c')).run Tryz.prog w=.ok (.bool a.isNone) w:=fun w a n c n' c'=>Lib.run_eql_slice_nil w _ _ a n c n' c' Tryz.underlying38
 have A:Aside (∀ j u,news[j]?=some u→w.cell? (ad.add j)=some u):=hc
 clear hc
 go_enter Tryz.func58,Tryz.ntmps58
 go_wp2_with (at_builtin;refine wpList_append_own _ rfl _ _ 38 rfl w.heap.size 44 i0 (.agg #[.int .i64 0,.int .i64 0,.string ⟨#[]⟩]) 3 32 Tryz.underlying38 hi hz0 hz1 hz2 rfl (by decide) _ _ _ rfl (World.ownsRow_made w #[] 0 (Nat.le_refl _) (Nat.zero_le _) rfl) ad n c news rfl ?qc1 ?qc2 ?qc3 ?qc4 ?qc5 ?qc6 ?_)
 case qc1=>exact hl
 case qc2=>exact fun j u hj=>Lib.cell?_alloc_some _ (A.out j u hj)
 case qc3=>exact h1
 case qc4=>unfold maxLen;omega
 case qc5=>omega
 case qc6=>simp
 intro v' w1 hown hgrow hnil
 go_wp2
 go_ret
 refine ⟨v',rfl,by simpa using hown,?_,?_⟩
 ·exact hnil
 ·exact ((Below.refl _ w).alloc (Nat.le_refl _) _).grown hgrow (by simp) (by intro k hk;simp[Value.ownBlock] at hk;omega)
theorem flD_ones:∀ l:List Fl,allOne (l.map flD)=true
 | []=>rfl
 | _::l=>flD_ones l
theorem FClone_x (l:List Fl) (h0:l≠[]) (hn:l.length≤65536):Go.EYtdpigpahfiachaaGreatDoor.Fn Tryz.prog gl 58 [.c (.d (.lst 3 (l.map flD)))] [] 0 (.ret (.c (.all 3 0))) [(0,.rows 3 (l.map flD) 44)] 1 []:=by
 refine ⟨by omega,fun k B h hk=>(by omega),fun k hk=>(by cases hk),fun w M0 adr xs hW hG hd=>?_⟩
 obtain ⟨x,rfl,hx⟩:=All2.one_iff.1 hd
 obtain ⟨hrz,a,c,news,rfl,hden,hnl,hcell⟩:=lst_rows hx
 have hlen:=(List.length_map flD:(l.map flD).length=l.length)
 rcases hcell with hcell|⟨ad,rfl,hcell⟩
 ·exact absurd (List.eq_nil_of_length_eq_zero (by rw[← hlen,hcell];rfl)) h0
 refine .inl ⟨by unfold HasBody;kernel_rfl,(fclone_calls ad (l.map flD).length c news w (by omega) hnl hcell (allOne_ok (flD_ones l) hden)).mono ?_⟩
 rintro e w' ⟨v',rfl,hown,-,hb⟩
 have hE:Evo (Trk adr []) w w':=Evo.of_below hb _
 obtain ⟨-,⟨rfl,hz⟩|⟨g,cap,cur,rfl,hg,hh,hc1,hc2,hc3,hc4⟩⟩:=hown
 ·exact absurd (List.eq_nil_of_length_eq_zero (by omega)) h0
 refine ⟨fun k=>if k=0 then some (some g,(l.map flD).length) else none,hE,⟨?_,?_,?_,?_,?_,?_⟩,fun k hk=>(by omega),?_,_,rfl,.inr ⟨g,_,cap,cur,_,_,rfl,hh,hc3,hc1,hc2,rfl⟩⟩
 ·intro k B h
  match k,h with
  | 0,_=>decide
 ·intro k hk
  exact if_neg (by omega)
 ·intro k B h
  match k,h with
  | 0,h =>
   cases h
   have hfl:((l.map flD).flatten).length=(l.map flD).length * 3:=flatten_length hrz
   refine ⟨by decide,rfl,hrz,cur,cap,hh,hc3,hc1,hc2,?_⟩
   rw[hc4]
   refine hden.evo (S:=fun _=>False) (Evo.of_below hb _) (fun _ _ h=>h.elim) fun b hlt hm=>?_
   rcases hm with hm|⟨k,B,m,hk,he⟩
   ·exact .inl hm
   ·match k,hk with
    | 0,_ =>
     cases he
     omega
 ·intro k k' B B' b m m' h h' _ _
  match k,k',h,h' with
  | 0,0,_,_=>rfl
 ·intro k B b m h he hM
  match k,h with
  | 0,_ =>
   cases he
   have:=hW.bound _ hM
   omega
 ·intro b hM
  exact Nat.lt_of_lt_of_le (hW.bound b hM) hb.size
 ·intro k B b m h he
  match k,h with
  | 0,_ =>
   cases he
   exact .inr hg
theorem fclone_nil (n c:Nat) (w:World):Calls Tryz.prog 58 #[.slice none n c] w fun e w'=>e=.returned (.slice none 0 0)∧w'=w:=by
 have q22:∀ (w:World) (a:Option Addr) (n c n' c':Nat),(binOp .eql 38 (.slice a n c) (.slice none n' c')).run Tryz.prog w=.ok (.bool a.isNone) w:=fun w a n c n' c'=>Lib.run_eql_slice_nil w _ _ a n c n' c' Tryz.underlying38
 go_enter Tryz.func58,Tryz.ntmps58
 go_wp2
 go_ret
 exact ⟨rfl,rfl⟩
theorem FClone_0:FnP Tryz.prog gl 58 [.lst 3 []] (.lst 3 []):=by
 intro w M xs hM hg hd
 obtain ⟨x,rfl,hx⟩:=All2.one_iff.1 hd
 obtain ⟨a,c,rfl⟩:∃ a c,x=.slice a 0 c:=by
  cases hx with
  | lst0 z a c hc=>exact ⟨a,c,rfl⟩
  | lst z l b o c cs hb hM hl hc hz h1 h2=>exact ⟨_,_,rfl⟩
 refine .inl ⟨by unfold HasBody;kernel_rfl,?_⟩
 cases a with
 | none =>
  refine (fclone_nil 0 c w).mono ?_
  rintro e w' ⟨rfl,rfl⟩
  exact ⟨Evo.refl _ _,_,rfl,.lst0 _ _ _ (Nat.zero_le _)⟩
 | some ad =>
  refine (fclone_calls ad 0 c [] w (by decide) rfl (fun j u h=>by cases h) (fun u h=>by cases h)).mono ?_
  rintro e w' ⟨v',rfl,⟨-,⟨rfl,-⟩|⟨g,cap,cur,rfl,-,-,-,h,-⟩⟩,-,hb⟩
  ·exact ⟨Evo.of_below hb _,_,rfl,.lst0 _ _ _ (Nat.zero_le _)⟩
  ·exact ⟨Evo.of_below hb _,_,rfl,.lst0 _ _ _ h⟩
end Go.Proofs.YtdpigpahfiachaaGreatDoor
end
