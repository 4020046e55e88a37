/- Proved: a part of what the law is proved with (the reckoner, contracts of functions, plain laws). Conditions: as each says. -/
import Derived.Test.YtdpigpahfiachaaGreatDoorZId
section
namespace Go.Proofs.YtdpigpahfiachaaGreatDoor
open Go Go.EYtdpigpahfiachaaGreatDoor
set_option maxRecDepth 100000
variable {gl:List (Nat×List D)}
theorem two_all {s:List UInt8} {d:Nat} {one:Nat→Rs Nd} (hl:Go.EYtdpigpahfiachaaGreatDoor.look gl 0=some lvAll) (hs:s.length≤200) (hf:Fwd s one)
 (hn:∀ i,i≤s.length→Gives1 gl 95 [.c (.ptr 0 0)] s i d (one i)):∀ c,c≤4→∀ i,i≤s.length→Gives1 gl 52 [.c (.ptr 0 0),.c (.d (iD ((4 - c:Nat):Int)))] s i d (Tw s one c i)
 | 0,_,i,hi=>two_4 (hn i hi)
 | c+1,hc,i,hi=>by
  have ih:=two_all hl hs hf hn c (by omega)
  have e:4 - c=(3 - c)+1:=by omega
  have e2:4 - (c+1)=3 - c:=by omega
  rw[e] at ih
  rw[e2]
  refine two_l hl (by omega) hs (Tw_fwd hf c) hi ih ?_
  rw[← e]
  rfl
theorem argsF_skp {p:Par} {s:List UInt8} {tw:Nat→Rs Nd} {f:Nat} {ks:List Nd} {i:Nat} (hf:0<f):argsF p s tw f ks (skp s i)=argsF p s tw f ks i:=by
 obtain ⟨f,rfl⟩:∃ g,f=g+1:=⟨f - 1,by omega⟩
 unfold argsF
 have:argF p s tw (skp s i)=argF p s tw i:=by unfold argF;rw[skp_skp]
 rw[this]
theorem call_d {p:Par} {s w:List UInt8} {k d:Nat} (hk:k<s.length) (hs:s.length≤200) {tw:Nat→Rs Nd} (hf:Fwd s tw)
 (ha:∀ i,i≤s.length→Gives1 gl 203 [.c (.ptr 0 0)] s i d (argF p s tw i)):Gives1 gl 173 [.c (.ptr 0 0),.c (.d (.str w))] s k d (callF p s tw w k):=by
 unfold callF
 by_cases h:s[skp s (k+1)]?=some 41
 ·rw[if_pos h];exact call_none hk hs h
 ·rw[if_neg h]
  exact call_args hk hs h hf ha (argsF_skp (by omega))
theorem neg_all (te:TypeId) (pe:Value) (hV:Has gl (glV te pe)) (hl:Go.EYtdpigpahfiachaaGreatDoor.look gl 0=some lvAll) {rf:List UInt8→Option Rf} (hR:RefsOk rf) {s:List UInt8} (hs:s.length≤200) :
 ∀ (x d:Nat),d+x=30→∀ i,i≤s.length→Gives1 gl 95 [.c (.ptr 0 0)] s i d (oneA (parZ rf) s x i)
 | 0,d,hd,i,hi=>by
  obtain rfl:d=30:=by omega
  exact neg_d te pe hV hR hs (Nat.le_refl _) hi no_fwd (fun h=>absurd h (by omega)) (fun h=>absurd h (by omega)) (fun h=>absurd h (by omega))
 | x+1,d,hd,i,hi=>by
  have ih:=neg_all te pe hV hl hR hs x (d+1) (by omega)
  have h2:=two_all hl hs (oneA_fwd x) ih 4 (Nat.le_refl _)
  have hf:=Tw_fwd (oneA_fwd (p:=parZ rf) (s:=s) x) 4
  have:=neg_d te pe hV hR hs (show d≤30 by omega) hi hf (fun _=>ih) (fun _=>h2) (fun _ w k hk=>call_d hk hs hf fun i hi=>arg_d hR hi hs h2)
  rw[show decide (d=30)=false from decide_eq_false (by omega)] at this
  exact this
theorem two_0 (te:TypeId) (pe:Value) (hV:Has gl (glV te pe)) (hl:Go.EYtdpigpahfiachaaGreatDoor.look gl 0=some lvAll) {rf:List UInt8→Option Rf} (hR:RefsOk rf) {s:List UInt8} (hs:s.length≤200) {i:Nat} (hi:i≤s.length) :
 Gives1 gl 52 [.c (.ptr 0 0),.c (.d (iD 0))] s i 0 (Tw s (oneA (parZ rf) s 30) 4 i) :=
 two_all hl hs (oneA_fwd 30) (neg_all te pe hV hl hR hs 30 0 rfl) 4 (Nat.le_refl _) i hi
end Go.Proofs.YtdpigpahfiachaaGreatDoor
end
