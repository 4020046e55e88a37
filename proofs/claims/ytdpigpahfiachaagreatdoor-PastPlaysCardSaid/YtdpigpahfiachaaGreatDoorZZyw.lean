/- Proved: a part of what the law is proved with (the reckoner, contracts of functions, plain laws). Conditions: as each says. -/
import Derived.Test.YtdpigpahfiachaaGreatDoorZZyv
section
namespace Go.Proofs.YtdpigpahfiachaaGreatDoor
open Go Go.RowKit Go.EYtdpigpahfiachaaGreatDoor
set_option maxRecDepth 100000
set_option maxHeartbeats 4000000
variable {gl:List (Nat×List D)}
theorem step_append {ta tb:TypeId} {ops:Array Oper} {o:Oper} {a:Act} {w:World} {K:Act→World→Prop} {Q:Exit→Act→World→Prop} {E:Prop} (hg:o.guard=none) (d x:Operand) (hop:o.op=Op.call { callee:=Callee.builtin Builtin.append,args:=#[d,x],argTypes:=#[ta,tb] })
 (v u:Value) (hd:a.eval d=v) (hx:a.eval x=u) {v':Value} {w':World} (hr:(Builtin.append_ #[ta,tb] o.type #[v,u]).run Tryz.prog w=.ok v' w') (hK:K (a.put o.dst v') w') :
 if Region.wanted o (yielded ops a.tmps)=true then Oper.wp Tryz.prog o a w K Q else E:=by
 rw[if_pos (show Region.wanted o (yielded ops a.tmps)=true by simp[Region.wanted,hg])]
 unfold Oper.wp
 simp[execOp,hop,resolve,invoke,builtin,hd,hx,hr,Result.andThen]
 exact hK
theorem push_calls (b g n c k:Nat) (cur:Array Value) (xa:Option Addr) (xn xc:Nat) (v:Value) (w:World) (hp:w.heap[b]?=some (Obj.cells #[.slice (some ⟨g,0,none⟩) n c,.int .i64 k] 108 (0,0))) (hg:w.heap[g]?=some (Obj.cells cur 38 (0,0))) (hs:cur.size=c) (hk:k<n) (hn:n≤c) (hc:c≤maxLen) (hbig:k≤549755813888)
 (hv:cur[k]?=some v) (hq:Calls Tryz.prog 107 #[.slice xa xn xc,v] w.drew fun e w'=>e=.returned (.bool false)∧w'.heap[b]?=w.heap[b]?∧w'.heap[g]?=w.heap[g]?∧Evo (fun _=>False) w.drew w') :
 Calls Tryz.prog 61 #[.pointer (some ⟨b,0,none⟩),.slice xa xn xc] w fun e w'=>e=.returned (.tuple #[])∧Pushed b k xn xc xa cur w w':=by
 unfold maxLen at hc
 have hc0:∀ w':World,w'.heap[b]?=w.heap[b]?→w'.cell? ⟨b,0,none⟩=some (.slice (some ⟨g,0,none⟩) n c):=fun w' h=>by simp[World.cell?,h,hp]
 have hc1:∀ w':World,w'.heap[b]?=w.heap[b]?→w'.cell? ⟨b,1,none⟩=some (.int .i64 k):=fun w' h=>by simp[World.cell?,h,hp]
 have hc2:w.cell? ⟨g,k,none⟩=some v:=by simp[World.cell?,hg,hv]
 have hal:∀ (w':World) (o:Obj),w'.heap[b]?=w.heap[b]?→(w'.alloc o).heap[b]?=w.heap[b]?:=fun w' o h=>by
  have hlt:b<w'.heap.size:=(Array.getElem?_eq_some_iff.1 (h.trans hp)).1
  show (w'.heap.push o)[b]?=_
  rw[Array.getElem?_push,if_neg (by omega)]
  exact h
 have h0:=hc0 w rfl
 have h1:=hc1 w rfl
 have mixed':=mixed
 go_enter Tryz.func61,Tryz.ntmps61
 go_wp2
 have hw:IntKind.i64.wrap ((k:Int)+1)=(k:Int)+1:=wrapI (by omega)
 have hkc:k+1≤c:=by omega
 have hk0:(0:Int)≤(k:Int)+1:=by omega
 have hki:(k:Int)+1≤(c:Int):=by omega
 have hc63:c≤9223372036854775807:=by omega
 have hw3:¬ c<k+1:=by omega
 have htn:((k:Int)+1).toNat=k+1:=by omega
 have hap:=fun (w1:World)=>push_append b g n c k cur xa xn xc w w1 hp hg hs hk hn hbig
 go_region_law_o (go_simp;refine hq.mono ?_;rintro e w1 ⟨rfl,hb1,hg1,hE1⟩;have k0:=hc0 w1 hb1;have k1:=hc1 w1 hb1;have k2:=hc0 _ (hal w1 (.cells #[.slice xa xn xc] 38) hb1);have k3:=hc1 _ (hal w1 (.cells #[.slice xa xn xc] 38) hb1);obtain ⟨gb,G,w2,hr2,m1,m2,m3,m4,m5⟩:=hap w1 hb1 hg1 hE1)
 go_wp2
 all_goals go_region_law_o (refine step_append rfl _ _ rfl _ _ (by simp[Act.eval,Act.put]) (by simp[Act.eval,Act.put]) hr2 ?_)
 all_goals go_wp2
 all_goals go_end0
 all_goals exact ⟨rfl,m5.out⟩
end Go.Proofs.YtdpigpahfiachaaGreatDoor
end
