/- Proved: a part of what the law is proved with (the reckoner, contracts of functions, plain laws). Conditions: as each says. -/
import Derived.Shelf.Strings.BuilderK
import Derived.Deep.WholeRow
import Derived.Test.YtdpigpahfiachaaGreatDoorVEs
import Derived.Test.YtdpigpahfiachaaGreatDoorVIg
import Derived.Test.YtdpigpahfiachaaGreatDoorVKj
section
namespace Go.EYtdpigpahfiachaaGreatDoor
open Go Go.RowKit
inductive Stp where
 | code (c:Code)
 | cut
def seqs:List Stp→Code→Code
 | [],t=>t
 | .code a::r,t=>.seq a (seqs r t)
 | .cut::r,t=>seqs r t
def vcPre (P:Program) (gl:List (Nat×List D)) (tt:List (Nat×TI)) (fx:List Nat) (N nv:Nat) (cu:List Nat):List Stp→List (Nat×V)→List (Nat×Blk)→Nat→SK→XK→Prop
 | [],fr,L,n,T,_=>T fr L n
 | .code a::r,fr,L,n,T,K=>vcCode P gl tt fx N nv cu a fr L n fun x fr1 L1 n1=>match x with
  | .normal=>vcPre P gl tt fx N nv cu r fr1 L1 n1 T K
  | x=>K x fr1 L1 n1
 | .cut::r,fr,L,n,T,K=>∃ fr' L' n',sub3 fx n fr L n' fr' L'∧vcPre P gl tt fx N nv cu r fr' L' n' T K
section
variable {P:Program} {gl:List (Nat×List D)} {tt:List (Nat×TI)} {M0 S0:Nat→Prop} {w0:Base} {N:Nat} {nv:Nat} {cu:List Nat}
theorem vcPre_ok (hT:Fits P tt) (hm:P.follows .mixedOrders=true) {t:Code} {T:SK} {K:XK} {Q:Exit→Act→World→Prop}
 (ht:∀ fr L n adr a w,T fr L n→Ok gl M0 S0 w0 N adr fr L n a w→t.wp P Q a w)
 (hQ:(∀ id fr L n adr a w,K (.exit id) fr L n→Ok gl M0 S0 w0 N adr fr L n a w→Q (.exit id) a w)∧(∀ l fr L n adr a w,K (.goto l) fr L n→Ok gl M0 S0 w0 N adr fr L n a w→Q (.goto l) a w)∧
  (∀ fr L n adr a w,K .ret fr L n→Ok gl M0 S0 w0 N adr fr L n a w→Q .ret a w)∧PanOk gl M0 S0 w0 N (fun c=>K (.panic c)) Q∧(∀ c a d v w,Q (.panic c) (a.put d v) w→Q (.panic c) a w)) :
 ∀ (l:List Stp) fr L n adr a w,vcPre P gl tt w0.fx N nv cu l fr L n T K→Ok gl M0 S0 w0 N adr fr L n a w→(seqs l t).wp P Q a w
 | [],fr,L,n,adr,a,w,h,hx=>ht _ _ _ _ _ _ h hx
 | .cut::r,fr,L,n,adr,a,w,h,hx=>by
  obtain ⟨fr',L',n',h1,h2⟩:=h
  exact vcPre_ok hT hm ht hQ r _ _ _ _ _ _ h2 (sub3_ok hx h1)
 | .code c::r,fr,L,n,adr,a,w,h,hx=>by
  refine wp_seq (vcCode_ok hT hm c _ _ _ _ _ _ _ _ h hx ⟨?_,?_,?_,?_,?_,?_⟩)
  ·intro fr1 L1 n1 adr1 a1 w1 h1 hx1
   exact vcPre_ok hT hm ht hQ r _ _ _ _ _ _ h1 hx1
  ·intro id fr1 L1 n1 adr1 a1 w1 h1 hx1;exact hQ.1 _ _ _ _ _ _ _ h1 hx1
  ·intro id fr1 L1 n1 adr1 a1 w1 h1 hx1;exact hQ.2.1 _ _ _ _ _ _ _ h1 hx1
  ·intro fr1 L1 n1 adr1 a1 w1 h1 hx1;exact hQ.2.2.1 _ _ _ _ _ _ h1 hx1
  ·exact hQ.2.2.2.1
  ·intro _ c a d v w h;exact hQ.2.2.2.2 c a d v w h
theorem fnP_of_pre (hT:Fits P tt) (hm:P.follows .mixedOrders=true) {f:FuncId} {fn:Func} {l:List Stp} {t:Code} {ds:List D} {r:D} {T:SK} (hf:P.funcs[f]?=some fn) (hb:fn.body=some (seqs l t)) (hB:HasBody P f) (hN:Nat.ble ds.length fn.ntmps=true)
 (ht:∀ (w:World) (M:Nat→Prop) fr L n adr a w',(∀ b,M b→b<w.heap.size)→Glob gl M w→T fr L n→Ok gl M (fun _=>False) ⟨w,fun _=>none,[],[]⟩ fn.ntmps adr fr L n a w'→
  t.wp P (bodyPost P fn fun e w'=>Evo (fun _=>False) w w'∧∃ x,e=.returned x∧DenD M w' r x) a w')
 (h:vsK ds fun vs=>vcPre P gl tt [] fn.ntmps nv cu l (argFr 0 vs) [] 0 T (endP tt fn.results.toList r)):FnP P gl f ds r:=by
 rw[vsK_eq] at h
 intro w M xs hM hg hd
 refine .inl ⟨hB,?_⟩
 have hN':=Nat.le_of_ble_eq_true hN
 have hlen:=All2.length hd
 have hmut:Mut M (fun _=>none) []=M:=by
  funext b
  apply propext
  constructor
  ·rintro (h1|⟨k,B,m,h1,_⟩)
   ·exact h1
   ·cases h1
  ·exact .inl
 have fin:∀ {fr L n adr a w'},vcRes tt L fr fn.results.toList (fun l=>lendVs L l fun ds _=>LeD (retD ds) r)→Ok gl M (fun _=>False) ⟨w,fun _=>none,[],[]⟩ fn.ntmps adr fr L n a w'→
  a.defers=[]∧∃ v,(results fn a.tmps).run P w'=.ok v w'∧(Evo (fun _=>False) w w'∧∃ x,Ending.returned v=.returned x∧DenD M w' r x):=by
  intro fr L n adr a w' hr hx
  obtain ⟨l,ys,hK,h1,h2⟩:=vcRes_ok hT hx hr
  obtain ⟨es,ks,⟨h3,h5⟩,h4⟩:=lendVs_ok (lendVs_look hK)
  refine ⟨hx.defers,_,run_results h1,hx.base,_,rfl,?_⟩
  refine h3.out _ _ _ (retD_den (h4 M adr n w' ys M hx.wok h2 (fun b _ hb=>.inl hb) (fun k hk b m ha hb=>?_)))
  have hlt:=hM b hb
  obtain ⟨B,hB'⟩:=Option.isSome_iff_exists.1 (h5 k hk)
  exact hx.wok.prot k B b m hB' ha hb
 refine calls_of_wp hf hb (vcPre_ok (M0:=M) (S0:=fun _=>False) (w0:=⟨w,fun _=>none,[],[]⟩) hT hm (fun fr L n adr a w' h1 h2=>ht w M fr L n adr a w' hM hg h1 h2) ⟨?_,?_,?_,?_,?_⟩ l _ _ _ (fun _=>none) _ w h ⟨?_,rfl,fun t s hl=>?_,⟨(fun k B hk=>by cases hk),(fun _ _=>rfl),(fun k B hk=>by cases hk),(fun k k' B B' b m m' hk=>by cases hk),(fun k B b m hk=>by cases hk),hM⟩,by rw[hmut];exact hg,Evo.refl _ _,(fun k B b m hk=>by cases hk),(fun k hk=>by simp at hk)⟩)
 ·intro id fr L n adr a w' hk hx;exact hk.elim
 ·intro id fr L n adr a w' hk hx;exact hk.elim
 ·intro fr L n adr a w' hk hx;exact fin hk hx
 ·intro c fr L n adr x a w' hk hx hd;exact hk.elim
 ·intro c a d v w h;cases d <;> exact h
 ·simp;omega
 ·obtain ⟨_,h2⟩:=look_argFr hl
  simp only[Nat.sub_zero] at h2
  rw[List.getElem?_map] at h2
  obtain ⟨d,hd1,rfl⟩:=Option.map_eq_some_iff.1 h2
  obtain ⟨x,hx1,hx2⟩:=All2.get hd hd1
  have hlt:t<xs.length:=(List.getElem?_eq_some_iff.1 hx1).1
  rw[Array.getD_eq_getD_getElem?,Array.getElem?_append_left (by simpa using hlt)]
  rw[hmut]
  simp only[List.getElem?_toArray,hx1,Option.getD_some]
  exact vD_den hx2
theorem Evo.thenB {w w' w1:World} (h:Evo (fun _=>False) w w') (hb:Below w.heap.size w' w1):Evo (fun _=>False) w w1 :=
 ⟨hb.os.trans h.os,hb.tape.trans h.tape,hb.output.trans h.output,Nat.le_trans h.size hb.size,fun b hlt hn=>(hb.block b hlt).trans (h.block b hlt hn),fun b cur e f hc=>by
  have hlt:=(Array.getElem?_eq_some_iff.1 hc).1
  exact ⟨cur,((hb.block b hlt).trans (h.block b hlt fun h=>h)).trans hc,rfl⟩⟩
theorem FnP.callsE {g:Nat} {ds:List D} {r:D} {xs:List Value} {w:World} {M:Nat→Prop} (h:FnP P gl g ds r) (hb:HasBody P g) (hM:∀ b,M b→b<w.heap.size) (hg:Glob gl M w) (hd:DenL M w ds xs) :
 Calls P g xs.toArray w fun e w'=>Evo (fun _=>False) w w'∧∃ x,e=.returned x∧DenD M w' r x:=by
 rcases h w M xs hM hg hd with ⟨_,h1⟩|⟨v,w',h1,h2⟩
 ·exact h1
 ·rw[hb.enters] at h1;cases h1
end
end Go.EYtdpigpahfiachaaGreatDoor
end
section
namespace Go.Proofs.YtdpigpahfiachaaGreatDoor
open Go Go.EYtdpigpahfiachaaGreatDoor
set_option maxRecDepth 100000
set_option maxHeartbeats 4000000
variable {gl:List (Nat×List D)}
theorem Print_k (n:Nd) (h:¬ cntN n≤200):FnP Tryz.prog gl 31 [.agg n.cs] (.tup [.str [],erD 4]):=by
 have c1:=count_d (gl:=gl) n 200 (Nat.le_refl _)
 rw[decide_eq_false h,if_neg h] at c1
 obtain ⟨k,m,t,a,b,ks⟩:=n
 refine fnP_of_vc (nv:=9999) (cu:=[]) fits mixed Tryz.func31 rfl hoB rfl ?_
 ((repeat' ((conv=>whnf);first|exact .intro|refine .ya ?_|refine .na ?_|refine .ys ?_|refine .ns ?_|refine .neg (fun _=>?_) (fun _=>?_)|refine .mk (fun _=>?_) (fun _=>?_)|refine .inr (X5 (c1.r [1] _) ?_)|refine .inl (.inr (X5 (c1.r [1] _) ?_))|refine .inl (X5 (c1.r [1] _) ?_)|refine .mk ?_ ?_|refine AK ?_|refine AT ?_|fail));all_goals conv=>whnf)
 exact LeD.rfl
theorem Print_f (n:Nd) (h:cntN n≤200) (hf:¬ frmN n (false=true)):FnP Tryz.prog gl 31 [.agg n.cs] (.tup [.str [],erD 2]):=by
 have c1:=count_d (gl:=gl) n 200 (Nat.le_refl _)
 rw[decide_eq_true h,if_pos h] at c1
 have c2:=form_d (gl:=gl) n false
 obtain ⟨k,m,t,a,b,ks⟩:=n
 refine fnP_of_vc (nv:=9999) (cu:=[]) fits mixed Tryz.func31 rfl hoB rfl ?_
 ((repeat' ((conv=>whnf);first|exact .intro|refine .ya ?_|refine .na ?_|refine .ys ?_|refine .ns ?_|refine .neg (fun _=>?_) (fun _=>?_)|refine .mk (fun _=>?_) (fun _=>?_)|refine .inr (X5 (c1.r [1] _) ?_)|refine .inl (.inr (X5 (c1.r [1] _) ?_))|refine .inl (X5 (c1.r [1] _) ?_)|refine .inl (.inl (X1 (c2) ?_))|refine .inl (X1 (c2) ?_)|refine X1 (c2) ?_|refine .mk ?_ ?_|refine AK ?_|refine AT ?_|fail));all_goals conv=>whnf)
 exact LeD.rfl
theorem xtra169:Builder.Extra Tryz.prog Tryz.lays169_ren:={ sizeBuilder:=by kernel_rfl,liesBuilder:=by kernel_rfl,t5:=Tryz.underlying5,a5:=Tryz.isAgg5,z5:=Tryz.sizeOf5,v5:=Tryz.zeroValue5,infoByte:=by kernel_rfl,cellsByte:=by kernel_rfl,sizeByte:=by kernel_rfl,neB5:=by decide }
theorem bytes_den {M:Nat→Prop} {w:World}:∀ {l:List UInt8} {xs:List Value},DenL M w (l.map u8D).flatten xs→xs=Lib.byteCells l
 | [],[],_=>rfl
 | [],_::_,h=>h.elim
 | _::_,[],h=>h.elim
 | b::l,x::xs,⟨h1,h2⟩=>by
  rw[h1.v_inv,bytes_den h2]
  rfl
theorem nod12 {M:Nat→Prop} {w:World} {n:Nd} {z:Value} (h:DenD M w (.agg n.cs) z):∃ c:Array Value,z=.agg c∧c.size=12∧c.all (·.oneCell')=true:=by
 obtain ⟨k,m,t,a,b,ks⟩:=n
 obtain ⟨xs,rfl,hx⟩:=h.agg_inv
 match xs,hx with
 | [a0,a1,a2,a3,a4,a5,a6,a7,a8,a9,a10,a11],⟨h0,h1,h2,h3,h4,h5,h6,h7,h8,h9,h10,h11,_⟩ =>
  refine ⟨_,rfl,rfl,?_⟩
  simp only[List.all_toArray,List.all_cons,List.all_nil,h0.one rfl,h1.one rfl,h2.one rfl,h3.one rfl,h4.one rfl,h5.one rfl,h6.one rfl,h7.one rfl,h8.one rfl,h9.one rfl,h10.one rfl,h11.one rfl,Bool.and_self]
theorem den_tup2 {M:Nat→Prop} {w:World} {d1 d2:D} {x1 x2:Value} (h1:DenD M w d1 x1) (h2:DenD M w d2 x2):DenD M w (.tup [d1,d2]) (.tuple #[x1,x2]) :=
 have h:All2 (DenD M w) [d1,d2] [x1,x2]:=⟨h1,h2,trivial⟩
 .tup [d1,d2] [x1,x2] rfl fun j d x=>h.get2 j d x
theorem isB_keep {T e:TypeId} {B b:Nat} {l:List Value} {w w':World} (h:Lib.IsBuilderF T e B b l w) (hk:∀ k,k<w.heap.size→w'.heap[k]?=w.heap[k]?):Lib.IsBuilderF T e B b l w':=by
 have key:∀ {p:Value},Lib.BuilderAtF T e B b p l w→Lib.BuilderAtF T e B b p l w':=by
  rintro p ⟨h1,v,h2,⟨h3,h4⟩,h5⟩
  refine ⟨h1,v,(hk b (Array.getElem?_eq_some_iff.1 h2).1).trans h2,⟨h3,?_⟩,h5⟩
  rcases h4 with h4|⟨g,cap,cur,fz,q1,q2,q3,q4⟩
  ·exact .inl h4
  ·exact .inr ⟨g,cap,cur,fz,q1,q2,(hk g (Array.getElem?_eq_some_iff.1 q3).1).trans q3,q4⟩
 exact h.elim (fun x=>.inl (key x)) fun x=>.inr (key x)
theorem Print_w (te:TypeId) (pe:Value) (hV:Has gl (glV te pe)) (hl:Go.EYtdpigpahfiachaaGreatDoor.look gl 0=some lvAll) {rf:List UInt8→Option Rf} (hR:RefsOk rf) {mx:Int} (hm:Go.EYtdpigpahfiachaaGreatDoor.look gl 3=some [iD mx]) (n:Nd) (h:cntN n≤200) (hf:frmN n (false=true)) (ho:okN n) :
 FnP Tryz.prog gl 31 [.agg n.cs] (match parseZ rf (61::wrN n) with|.ok _ _=>.tup [.str (61::wrN n),.v .nilIface]|.no _ _=>.tup [.str [],erD 4]):=by
 have c1:=count_d (gl:=gl) n 200 (Nat.le_refl _)
 rw[decide_eq_true h,if_pos h] at c1
 have c2:=form_d (gl:=gl) n false
 have c3:=WriteByte_d (gl:=gl) (.inl rfl) [] 61 (by decide)
 have c4:=write_d te pe hV hm n hf ho [61] (by simp only[List.length_singleton];omega)
 obtain ⟨k,m,t,a_,b,ks⟩:=n
 obtain ⟨rz,hrz⟩:∃ rz:D,rz=(match parseZ rf (61::wrN (.mk k m t a_ b ks)) with|.ok _ _=>.tup [.str (61::wrN (.mk k m t a_ b ks)),.v .nilIface]|.no _ _=>.tup [.str [],erD 4]):=⟨_,rfl⟩
 rw[← hrz]
 refine fnP_of_pre (nv:=9999) (cu:=[]) (l:=[.code _,.code _,.code _,.code _,.code _,.cut,.code _,.code _]) (T:=fun fr L _=>Go.EYtdpigpahfiachaaGreatDoor.look fr 5=some (.c (.ptr 2 0))∧Go.EYtdpigpahfiachaaGreatDoor.look L 2=some (.var [.ptr 2 0,.all 1 3] 116)∧Go.EYtdpigpahfiachaaGreatDoor.look L 3=some (.rows 1 ((61::wrN (.mk k m t a_ b ks)).map u8D) 5)) fits mixed Tryz.func31 rfl hoB rfl ?_ ?_
 ·intro w M fr L nn adr a w' hM hg0 ⟨h5,hb,hr⟩ hx
  have hnil:a.defers=[]:=hx.defers
  obtain ⟨b0,m0,ha,hv⟩:=hx.fr 5 _ h5
  have hloc2:=hx.wok.loc 2 _ hb
  have hloc3:=hx.wok.loc 3 _ hr
  rw[ha] at hloc2
  obtain ⟨ys,g1,g2⟩:=hloc2
  obtain ⟨y0,y1,rfl,g3,g4⟩:∃ y0 y1,ys=[y0,y1]∧DenC adr (Mut M adr L) w' (.ptr 2 0) y0∧DenC adr (Mut M adr L) w' (.all 1 3) y1:=by
   match ys,g2 with
   | [y0,y1],g2=>exact ⟨y0,y1,rfl,g2.1,g2.2.1⟩
  obtain ⟨b',m',ha',rfl⟩:=g3
  rw[ha] at ha'
  cases ha'
  have hBb:w.heap.size≤b0:=by
   rcases hx.new 2 _ b0 m0 hb ha with h|h
   ·exact h.elim
   ·exact h
  have hB:Lib.IsBuilderF 116 5 w.heap.size b0 (Lib.byteCells (61::wrN (.mk k m t a_ b ks))) w':=by
   rcases g4 with ⟨e1,-⟩|⟨b3,n3,c3_,cur,e3,f3,e1,e2,e4,e5,e6,rfl⟩
   ·rw[e1] at hloc3
    cases hloc3.2.1
   ·rw[e1] at hloc3
    obtain ⟨-,q2,-,cur2,c2_,q4,q5,q6,q7,q8⟩:=hloc3
    have hne:b3≠b0:=by
     rintro rfl
     cases hx.wok.inj 2 3 _ _ _ _ _ hb hr ha e1
    have hBr:w.heap.size≤b3:=by
     rcases hx.new 3 _ b3 n3 hr e1 with h|h
     ·exact h.elim
     ·exact h
    rw[q4] at e2
    cases e2
    have hq:=bytes_den q8
    simp only[List.length_map,Nat.mul_one] at q2 q5 q6 hq
    refine Lib.IsBuilderF.of (.inr ⟨hBb,_,g1,⟨by simp[Lib.byteCells],.inr ⟨b3,_,cur,by rw[← q2];simp[Lib.byteCells],hBr,q4,by simp only[Lib.byteCells,List.length_map];omega,e6,by omega,?_⟩⟩,?_⟩)
    ·simp only[Lib.byteCells,List.length_map,Nat.mul_one]
     exact hq
    ·intro h
     cases h
     exact hne rfl
  have hsz:=hx.base.size
  have hsize:=hx.size
  have hg:=hx.glob
  obtain ⟨⟨tm⟩,df⟩:=a
  simp only at hnil
  subst hnil
  match tm,hsize with
  | [x0,x1,x2,x3,x4,x5,x6,x7,x8,x9,x10,x11,x12,x13,x14,x15,x16,x17,x18,x19,x20,x21,x22,x23,x24,x25,x26,x27,x28,x29],_ =>
   have hv5:x5=.pointer (some ⟨b0,0,none⟩):=hv
   subst hv5
   go_wp2_with (go_at_call 66;refine (Any.Builder_String_any_k Tryz.lays169 xtra169 w.heap.size b0 (61::wrN (.mk k m t a_ b ks)) w' hB hsz).mono ?_;rintro e w1 ⟨rfl,hB1,hb1,ho1⟩)
   have hE1:=hx.base.thenB hb1
   have hM1:∀ b,M b→b<w1.heap.size:=fun b hb=>Nat.lt_of_lt_of_le (hM b hb) hE1.size
   have hg1:Glob gl M w1:=hg0.evo hE1 (fun _ _ h=>h.elim) fun _ _ h=>h
   have hP:=(Parse_d te pe hV hl hR (61::wrN (.mk k m t a_ b ks))).callsE (M:=M) (xs:=[.string ⟨(61::wrN (.mk k m t a_ b ks)).toArray⟩]) hoB hM1 hg1 ⟨.str _,trivial⟩
   refine hP.mono ?_
   rintro e w2 ⟨hE2,x,rfl,hx2⟩
   have hE2':Evo (fun _=>False) w1 w2:=hE2
   cases hp:parseZ rf (61::wrN (.mk k m t a_ b ks)) with
   | no q e =>
    rw[hp] at hx2
    obtain ⟨xs,rfl,hxs⟩:=DenD.tup_inv hx2
    match xs,hxs with
    | [z0,z1,z2],⟨hn,_,hz,_⟩ =>
    cases hz.v_inv
    obtain ⟨c,rfl,hc12,hone⟩:=nod12 hn
    have hst:(storeCells ⟨w2.heap.size,0,none⟩ c.toList 0).run Tryz.prog (w2.alloc (.cells #[.int .i64 0,.int .i64 0,.string ⟨#[]⟩,.int .i64 0,.int .i64 0,.bool false,.bool false,.int .i64 0,.int .i64 0,.bool false,.bool false,.slice none 0 0] 28))=.ok () (w2.alloc (.cells c 28)) :=
     run_storeCells_new w2 28 _ c (by rw[hc12];rfl) (by rw[hc12];rfl) hone
    go_wp2
    rw[hp] at hrz
    subst hrz
    exact ⟨rfl,_,run_results (xs:=[_,_]) rfl,(hE1.trans hE2').trans (Evo.alloc _ _ _),_,rfl,den_tup2 (.str _) (.v _)⟩
   | ok n' q =>
    rw[hp] at hx2
    obtain ⟨xs,rfl,hxs⟩:=DenD.tup_inv hx2
    match xs,hxs with
    | [z0,z1,z2],⟨hn,_,hz,_⟩ =>
    cases hz.v_inv
    obtain ⟨c,rfl,hc12,hone⟩:=nod12 hn
    have hst:(storeCells ⟨w2.heap.size,0,none⟩ c.toList 0).run Tryz.prog (w2.alloc (.cells #[.int .i64 0,.int .i64 0,.string ⟨#[]⟩,.int .i64 0,.int .i64 0,.bool false,.bool false,.int .i64 0,.int .i64 0,.bool false,.bool false,.slice none 0 0] 28))=.ok () (w2.alloc (.cells c 28)) :=
     run_storeCells_new w2 28 _ c (by rw[hc12];rfl) (by rw[hc12];rfl) hone
    have hB2:=isB_keep hB1 (w':=w2.alloc (.cells c 28)) fun k hk=>((Evo.alloc (fun _=>False) w2 (.cells c 28)).block k (Nat.lt_of_lt_of_le hk hE2.size) fun h=>h).trans (hE2.block k hk fun h=>h)
    have hE3:=(hE1.trans hE2').trans (Evo.alloc (fun _=>False) w2 (.cells c 28))
    go_wp2_with (go_at_call 66;refine (Any.Builder_String_any_k Tryz.lays169 xtra169 w.heap.size b0 (61::wrN (.mk k m t a_ b ks)) (w2.alloc (.cells c 28)) hB2 hE3.size).mono ?_;rintro e w4 ⟨rfl,-,hb4,-⟩)
    rw[hp] at hrz
    subst hrz
    exact ⟨rfl,_,run_results (xs:=[_,_]) rfl,hE3.thenB hb4,_,rfl,den_tup2 (.str _) (.v _)⟩
 ·((repeat' ((conv=>whnf);first|exact .intro|refine .ya ?_|refine .na ?_|refine .ys ?_|refine .ns ?_|refine .neg (fun _=>?_) (fun _=>?_)|refine .mk (fun _=>?_) (fun _=>?_)|refine .inr (X5 (c1.r [1] _) ?_)|refine .inl (.inr (X5 (c1.r [1] _) ?_))|refine .inl (X5 (c1.r [1] _) ?_)|refine .inl (.inl (X1 (c2) ?_))|refine .inl (X1 (c2) ?_)|refine X1 (c2) ?_|refine .mk ?_ ?_|refine AK ?_|refine AT ?_|fail));all_goals conv=>whnf)
  refine ⟨[(1,.c (.ptr 0 0)),(5,.c (.ptr 2 0))],[(0,nodB (.mk k m t a_ b ks)),(2,.var [.d (.v (.pointer none)),.all 1 3] 116),(3,bytB [])],4,?_,?_⟩
  ·((repeat' first|exact rfl|((conv=>whnf);first|done|exact suL|refine And.intro ?_ ?_|fail));all_goals conv=>whnf)
   exact ⟨_,_,rfl,by omega,by omega⟩
  ·clear hrz
   ((repeat' ((conv=>whnf);first|exact .intro|refine .ya ?_|refine .na ?_|refine .ys ?_|refine .ns ?_|refine .neg (fun _=>?_) (fun _=>?_)|refine .mk (fun _=>?_) (fun _=>?_)|refine .inr (X5 (c3.r [2,3] _) ?_)|refine .inl (.inr (X5 (c3.r [2,3] _) ?_))|refine .inl (X5 (c3.r [2,3] _) ?_)|refine .inr (X5 (c4.r [2,3] _) ?_)|refine .inl (.inr (X5 (c4.r [2,3] _) ?_))|refine .inl (X5 (c4.r [2,3] _) ?_)|refine .mk ?_ ?_|refine AK ?_|refine AT ?_|fail));all_goals conv=>whnf)
   exact rfl
open Classical in
noncomputable def prZ (rf:List UInt8→Option Rf) (n:Nd):List UInt8×Int :=
 if cntN n≤200 then (if frmN n False then (match parseZ rf (61::wrN n) with|.ok _ _=>(61::wrN n,0)|.no _ _=>([],4)) else ([],2)) else ([],4)
theorem prZ_k {rf:List UInt8→Option Rf} {n:Nd} (h:¬ cntN n≤200):prZ rf n=([],4):=if_neg h
theorem prZ_f {rf:List UInt8→Option Rf} {n:Nd} (h:cntN n≤200) (hf:¬ frmN n False):prZ rf n=([],2):=by
 unfold prZ
 rw[if_pos h,if_neg hf]
theorem prZ_w {rf:List UInt8→Option Rf} {n:Nd} (h:cntN n≤200) (hf:frmN n False):prZ rf n=(match parseZ rf (61::wrN n) with|.ok _ _=>(61::wrN n,0)|.no _ _=>([],4)):=by
 unfold prZ
 rw[if_pos h,if_pos hf]
theorem Print_d (te:TypeId) (pe:Value) (hV:Has gl (glV te pe)) (hl:Go.EYtdpigpahfiachaaGreatDoor.look gl 0=some lvAll) {rf:List UInt8→Option Rf} (hR:RefsOk rf) {mx:Int} (hm:Go.EYtdpigpahfiachaaGreatDoor.look gl 3=some [iD mx]) (n:Nd) (ho:okN n) :
 FnP Tryz.prog gl 31 [.agg n.cs] (.tup [.str (prZ rf n).1,errD (prZ rf n).2]):=by
 have e0:(false=true)=False:=by simp
 by_cases h:cntN n≤200
 ·by_cases hf:frmN n False
  ·rw[prZ_w h hf]
   have:=Print_w te pe hV hl hR hm n h (by rw[e0];exact hf) ho
   cases hp:parseZ rf (61::wrN n) with
   | no q e=>rw[hp] at this;exact this
   | ok n' q=>rw[hp] at this;exact this
  ·rw[prZ_f h hf]
   exact Print_f n h (by rw[e0];exact hf)
 ·rw[prZ_k h]
  exact Print_k n h
theorem fCheck_d (te:TypeId) (pe:Value) (hV:Has gl (glV te pe)) (hl:Go.EYtdpigpahfiachaaGreatDoor.look gl 0=some lvAll) {rf:List UInt8→Option Rf} (hR:RefsOk rf) {mx:Int} (hm:Go.EYtdpigpahfiachaaGreatDoor.look gl 3=some [iD mx]) (n:Nd) (ho:okN n) :
 FnP Tryz.prog gl 37 [.agg n.cs] (errD (prZ rf n).2):=by
 have c1:=Print_d te pe hV hl hR hm n ho
 generalize prZ rf n=z at c1 ⊢
 obtain ⟨s,e⟩:=z
 obtain ⟨k,m,t,a,b,ks⟩:=n
 by_cases he:e=0
 ·subst he
  change FnP Tryz.prog gl 31 [_] (.tup [.str s,.v .nilIface]) at c1
  refine fnP_of_vc (nv:=9999) (cu:=[]) fits mixed Tryz.func37 rfl hoB rfl ?_
  ((repeat' ((conv=>whnf);first|exact .intro|refine .ya ?_|refine .na ?_|refine .ys ?_|refine .ns ?_|refine .neg (fun _=>?_) (fun _=>?_)|refine .mk (fun _=>?_) (fun _=>?_)|refine .inl (.inl (X1 (c1) ?_))|refine .inl (X1 (c1) ?_)|refine X1 (c1) ?_|refine .mk ?_ ?_|refine AK ?_|refine AT ?_|fail));all_goals conv=>whnf)
  exact LeD.rfl
 ·simp only[errD,if_neg he] at c1 ⊢
  refine fnP_of_vc (nv:=9999) (cu:=[]) fits mixed Tryz.func37 rfl hoB rfl ?_
  ((repeat' ((conv=>whnf);first|exact .intro|refine .ya ?_|refine .na ?_|refine .ys ?_|refine .ns ?_|refine .neg (fun _=>?_) (fun _=>?_)|refine .mk (fun _=>?_) (fun _=>?_)|refine .inl (.inl (X1 (c1) ?_))|refine .inl (X1 (c1) ?_)|refine X1 (c1) ?_|refine .mk ?_ ?_|refine AK ?_|refine AT ?_|fail));all_goals conv=>whnf)
  exact LeD.rfl
end Go.Proofs.YtdpigpahfiachaaGreatDoor
end
