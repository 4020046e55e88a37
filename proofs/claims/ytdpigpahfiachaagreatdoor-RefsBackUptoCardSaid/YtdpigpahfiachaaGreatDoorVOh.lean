/- Proved: a part of what the law is proved with (the reckoner, contracts of functions, plain laws). Conditions: as each says. -/
import Derived.Test.YtdpigpahfiachaaGreatDoorVFv
import Derived.Test.YtdpigpahfiachaaGreatDoorVGm
import Derived.Test.YtdpigpahfiachaaGreatDoorVHa
import Derived.Test.YtdpigpahfiachaaGreatDoorVIg
import Derived.Test.YtdpigpahfiachaaGreatDoorVIm
import Derived.Test.YtdpigpahfiachaaGreatDoorVIn
import Derived.Test.YtdpigpahfiachaaGreatDoorVKd
import Derived.Test.YtdpigpahfiachaaGreatDoorVKj
import Derived.Test.YtdpigpahfiachaaGreatDoorVKk
import Derived.Test.YtdpigpahfiachaaGreatDoorVOf
import Derived.Test.YtdpigpahfiachaaGreatDoorVRa
section
namespace Go.Proofs.YtdpigpahfiachaaGreatDoor
open Go Go.EYtdpigpahfiachaaGreatDoor
set_option maxRecDepth 100000
theorem itoa_word {m:Int} (h:0≤m):Lib.itoa m≠[]∧∀ c ∈ Lib.itoa m,wordlyP c:=by
 unfold Lib.itoa
 rw[if_neg (by omega)]
 obtain ⟨h1,h2,h3,h4⟩:=dec_facts m.toNat
 exact ⟨h3,fun c hc=>dig_word (h2 c hc)⟩
theorem nmR_char {a:Rf} (h:okP a.c a.r):(∃ c ∈ unsg (nmR a),¬ isDig c)∧(∃ c ∈ nmR a,isDig c)∧(∃ c,(nmR a).head?=some c∧wordlyP c):=by
 obtain ⟨w1,w2⟩:=nmR_word h
 have hw:∃ c,(nmR a).head?=some c∧wordlyP c:=by
  cases e:nmR a with
  | nil=>exact absurd e w1
  | cons c r=>exact ⟨c,rfl,w2 c (by rw[e];simp)⟩
 have hu:unsg (nmR a)=nmR a:=by
  unfold unsg
  rw[if_neg fun e=>?_]
  obtain ⟨c,hc,hcw⟩:=hw
  rw[hc] at e
  cases e
  exact (wordly_ne hcw).1 rfl
 refine ⟨?_,?_,hw⟩
 ·rw[hu]
  obtain ⟨c,r,fc,fr⟩:=a
  obtain ⟨h1,h2,h3,h4⟩:=h
  simp only at h1 h2 h3 h4
  obtain ⟨m,rfl⟩:=Int.eq_ofNat_of_zero_le (show 0≤c by omega)
  have hc:=chTab ⟨m,by omega⟩ (by show 1≤m;omega)
  simp only at hc
  refine ⟨UInt8.ofNat (64+m),?_,?_⟩
  ·show _ ∈ nameL m r fc fr
   unfold nameL
   rw[Int.toNat_natCast]
   simp
  ·unfold isDig
   rw[hc]
   omega
 ·obtain ⟨c,r,fc,fr⟩:=a
  obtain ⟨h1,h2,h3,h4⟩:=h
  simp only at h1 h2 h3 h4
  obtain ⟨n,rfl⟩:=Int.eq_ofNat_of_zero_le (show 0≤r by omega)
  obtain ⟨d1,d2,d3,d4,d5⟩:=digsTab ⟨n,by omega⟩ (by show 1≤n;omega)
  simp only at d1 d4
  obtain ⟨x,l,e⟩:=List.exists_cons_of_ne_nil d1
  refine ⟨x,?_,d4 x (by rw[e];simp)⟩
  show x ∈ nameL c n fc fr
  unfold nameL
  rw[Int.toNat_natCast,e]
  simp
theorem litZ_ref {a:Rf} (h:okP a.c a.r):litZ (nmR a)=none:=by
 obtain ⟨-,⟨d,hd,hdd⟩,c,hc,hcw⟩:=nmR_char h
 rw[litZ_word hc hcw,if_neg,if_neg]
 ·intro e
  rw[e] at hd
  simp only[List.mem_cons,List.not_mem_nil,or_false] at hd
  rcases hd with rfl|rfl|rfl|rfl|rfl <;> revert hdd <;> decide
 ·intro e
  rw[e] at hd
  simp only[List.mem_cons,List.not_mem_nil,or_false] at hd
  rcases hd with rfl|rfl|rfl|rfl <;> revert hdd <;> decide
theorem litN_skip {t:List UInt8}:∀ (k f n:Nat) (q:Int×Int),(∀ j,j<k→litZ (t.take (n+j))=none)→litZ (t.take (n+k))=some q→litN t (k+1+f) n=some (q.2,n+k)
 | 0,f,n,q,_,h=>by
  rw[show 0+1+f=f+1 by omega]
  unfold litN
  rw[show t.take n=t.take (n+0) from rfl,h]
  rfl
 | k+1,f,n,q,h0,h=>by
  rw[show k+1+1+f=(k+1+f)+1 by omega]
  unfold litN
  rw[show t.take n=t.take (n+0) from rfl,h0 0 (by omega)]
  have:=litN_skip k f (n+1) q (fun j hj=>by rw[show n+1+j=n+(j+1) by omega];exact h0 (j+1) (by omega)) (by rw[show n+1+k=n+(k+1) by omega];exact h)
  rw[this,show n+1+k=n+(k+1) by omega]
theorem litN_sound {t:List UInt8}:∀ (f n:Nat) (m:Int) (l:Nat),litN t f n=some (m,l)→∃ k,litZ (t.take l)=some (k,m)
 | 0,n,m,l,h=>by cases h
 | f+1,n,m,l,h=>by
  unfold litN at h
  split at h
  ·rename_i q hq
   cases h
   exact ⟨q.1,hq⟩
  ·exact litN_sound f (n+1) m l h
theorem lit_tab:∀ m:Fin 7,1≤m.val→(∀ j:Fin 7,j.val+1<(tx.getD m.val []).length→litZ ((tx.getD m.val []).take (1+j.val))=none)∧litZ (tx.getD m.val [])=some (4,(m.val:Int))∧1≤(tx.getD m.val []).length∧(tx.getD m.val []).length≤7:=by decide +kernel
theorem litF_tx (m:Int) (post:List UInt8) (h1:1≤m) (h2:m≤6):litF (tx.getD m.toNat []++post)=some (m,(tx.getD m.toNat []).length):=by
 obtain ⟨k,rfl⟩:=Int.eq_ofNat_of_zero_le (show 0≤m by omega)
 obtain ⟨a,b,c,d⟩:=lit_tab ⟨k,by omega⟩ (by show 1≤k;omega)
 simp only at a b c d
 rw[Int.toNat_natCast]
 generalize tx.getD k []=x at *
 unfold litF
 obtain ⟨n,hn⟩:∃ n,x.length=n+1:=⟨x.length - 1,by omega⟩
 have:=litN_skip (t:=x++post) n post.length 1 (4,(k:Int)) (fun j hj=>by
  rw[List.take_append_of_le_length (by omega)]
  exact a ⟨j,by omega⟩ (by show j+1<_;omega)) (by
  rw[show 1+n=x.length by omega,List.take_left]
  exact b)
 rw[List.length_append,hn,this,show 1+n=n+1 by omega]
theorem txI_sound {s:List UInt8}:∀ {n i:Nat},n≤6→txI s n=some i→1≤i∧i≤6∧tx.getD i []=s
 | 0,i,_,h=>by cases h
 | n+1,i,hn,h=>by
  unfold txI at h
  split at h
  ·rename_i e
   cases h
   exact ⟨by omega,by omega,e⟩
  ·exact txI_sound (by omega) h
theorem litF_sound {t:List UInt8} {m:Int} {l:Nat} (h35:t.head?=some 35) (h:litF t=some (m,l)):1≤m∧m≤6∧(tx.getD m.toNat []).length≤l:=by
 obtain ⟨k,hk⟩:=litN_sound _ _ _ _ h
 have hl:=litF_len t m l h
 obtain ⟨r,rfl⟩:∃ r,t=35::r:=by
  cases t with
  | nil=>cases h35
  | cons c r=>cases h35;exact ⟨r,rfl⟩
 obtain ⟨l',rfl⟩:∃ l',l=l'+1:=⟨l - 1,by omega⟩
 rw[List.take_succ_cons] at hk
 unfold litZ at hk
 rw[if_neg (by simp),if_neg (by simp)] at hk
 obtain ⟨i,hi,e⟩:=Option.map_eq_some_iff.1 hk
 cases e
 obtain ⟨a,b,c⟩:=txI_sound (by omega) hi
 refine ⟨by omega,by omega,?_⟩
 rw[Int.toNat_natCast,c]
 simp
 omega
theorem pbZ:PB (parZ rfZ) where
 num:=fun m h0 h=>by
  show plZ rfZ _=_
  unfold plZ
  rw[whole_itoa h]
 numW:=fun m h=>itoa_word h
 tru:=by
  change plZ rfZ tT=some (Nd.mk 3 1 [] z0 z0 [])
  unfold plZ
  rw[wholeZ_no ⟨84,by decide,by decide⟩]
  rfl
 fal:=by
  change plZ rfZ tF=some (Nd.mk 3 0 [] z0 z0 [])
  unfold plZ
  rw[wholeZ_no ⟨70,by decide,by decide⟩]
  rfl
 ref:=fun a h=>by
  refine ⟨?_,rfZ_name h⟩
  show plZ rfZ _=_
  unfold plZ
  rw[wholeZ_no (nmR_char h).1,litZ_ref h,rfZ_name h]
  rfl
 refW:=fun a h=>nmR_word h
 lit:=litF_tx
 cl:=rfl
theorem pcZ:PC (parZ rfZ) where
 pl:=fun w n hw hc h=>by
  change plZ rfZ w=some n at h
  unfold plZ at h
  cases hwz:wholeZ w with
  | some v =>
   rw[hwz] at h
   cases h
   have e:=itoa_whole hwz
   have hv:0≤v∧okI v:=by
    unfold wholeZ at hwz
    split at hwz
    ·rename_i hh
     cases hwz
     refine ⟨?_,hh.2⟩
     unfold wholeV
     split
     ·rename_i h45
      exfalso
      cases w with
      | nil=>cases h45
      | cons c r=>cases h45;exact (wordly_ne (hc 45 (by simp))).1 rfl
     ·omega
    ·cases hwz
   refine ⟨by rw[frm_1];exact ⟨rfl,rfl,⟨noR_z0,noR_z0⟩,hv.1⟩,⟨hv.2,by decide,trivial⟩,rfl,rfl,?_,rfl⟩
   show (Lib.itoa v).length≤_
   rw[e]
   exact Nat.le_refl _
  | none =>
   rw[hwz] at h
   simp only at h
   cases w with
   | nil=>cases h
   | cons c r =>
    rw[litZ_word (w:=c::r) (c:=c) rfl (hc c (by simp))] at h
    by_cases h1:c::r=tT
    ·rw[if_pos h1] at h
     cases h
     refine ⟨by rw[frm_3];exact ⟨rfl,rfl,⟨noR_z0,noR_z0⟩,.inr rfl⟩,⟨by decide,by decide,trivial⟩,rfl,rfl,?_,rfl⟩
     rw[h1];decide
    ·rw[if_neg h1] at h
     by_cases h2:c::r=tF
     ·rw[if_pos h2] at h
      cases h
      refine ⟨by rw[frm_3];exact ⟨rfl,rfl,⟨noR_z0,noR_z0⟩,.inl rfl⟩,⟨by decide,by decide,trivial⟩,rfl,rfl,?_,rfl⟩
      rw[h2];decide
     ·rw[if_neg h2] at h
      simp only at h
      obtain ⟨a,ha,e⟩:=Option.map_eq_some_iff.1 h
      cases e
      obtain ⟨k1,k2,k3⟩:=rfZ_some ha
      exact ⟨by rw[frm_5];exact ⟨rfl,rfl,rfl,noR_z0,k1⟩,⟨by decide,by decide,trivial⟩,rfl,rfl,k2,rfl⟩
 rf:=fun w a _ h=>rfZ_some h
 lit:=fun t m l h35 h=>litF_sound h35 h
 cl:=rfl
theorem parse_back {n:Nd} (hf:frmN n False) (ho:okN n) {m:Nd} {i:Nat} (h:parseZ rfZ (61::wrN n)=.ok m i):m=n:=by
 unfold parseZ at h
 split at h
 ·cases h
 ·rw[List.head?_cons,if_pos rfl] at h
  rcases (parse_wr pbZ hf ho).2 with e|⟨a,b,e⟩
  ·rw[e] at h;cases h;rfl
  ·rw[e] at h;cases h
theorem parse_short {s:List UInt8} {m:Nd} {i:Nat} (h:parseZ rfZ s=.ok m i):frmN m False∧okN m∧cntN m≤200∧(61::wrN m).length≤s.length∧∃ j,parseZ rfZ (61::wrN m)=.ok m j:=by
 unfold parseZ at h
 split at h
 ·cases h
 ·rename_i h200
  split at h
  ·rename_i h61
   have h1:1≤s.length:=by
    cases s with
    | nil=>cases h61
    | cons c r=>simp
   obtain ⟨a,b,c,d,e⟩:=parse_rw pcZ (by omega) h1 h
   refine ⟨a,b,c,d,0,?_⟩
   unfold parseZ
   rw[if_neg (by omega),List.head?_cons,if_pos rfl]
   exact (parse_wr pbZ a b).1 e
  ·cases h
end Go.Proofs.YtdpigpahfiachaaGreatDoor
end
section
namespace Go.Proofs.YtdpigpahfiachaaGreatDoor
open Go Go.EYtdpigpahfiachaaGreatDoor
set_option maxRecDepth 100000
set_option maxHeartbeats 4000000
variable {gl:List (Nat×List D)}
def n12:Nd:=.mk 8 8 [] z0 z0 [.mk 1 1 [] z0 z0 [],.mk 1 2 [] z0 z0 []]
theorem parse_12:∃ i,parseZ rfZ [61,49,43,50]=.ok n12 i:=by
 have hf:frmN n12 False:=by
  unfold n12
  rw[frm_8]
  refine ⟨rfl,rfl,⟨noR_z0,noR_z0⟩,by decide,by decide,?_,?_,trivial⟩
  all_goals rw[frm_1]
  all_goals exact ⟨rfl,rfl,⟨noR_z0,noR_z0⟩,by decide⟩
 have ho:okN n12:=⟨by decide,by decide,⟨by decide,by decide,trivial⟩,⟨by decide,by decide,trivial⟩,trivial⟩
 have hw:61::wrN n12=[61,49,43,50]:=by decide +kernel
 have h:=(parse_wr pbZ hf ho).1 (by decide)
 rw[hw] at h
 refine ⟨0,?_⟩
 unfold parseZ
 rw[if_neg (by decide),List.head?_cons,if_pos rfl]
 exact h
theorem prZ_y {rf:List UInt8→Option Rf} {n:Nd} (h:(prZ rf n).2=0):(prZ rf n).1=61::wrN n∧cntN n≤200∧frmN n False:=by
 by_cases h1:cntN n≤200
 ·by_cases h2:frmN n False
  ·rw[prZ_w h1 h2] at h ⊢
   cases hp:parseZ rf (61::wrN n) with
   | no a e=>rw[hp] at h;cases h
   | ok m i=>exact ⟨rfl,h1,h2⟩
  ·rw[prZ_f h1 h2] at h;cases h
 ·rw[prZ_k h1] at h;cases h
theorem prZ_p {rf:List UInt8→Option Rf} {n:Nd} (h:(prZ rf n).2=0):∃ m i,parseZ rf (61::wrN n)=.ok m i:=by
 obtain ⟨-,h1,h2⟩:=prZ_y h
 rw[prZ_w h1 h2] at h
 cases hp:parseZ rf (61::wrN n) with
 | no a e=>rw[hp] at h;cases h
 | ok m i=>exact ⟨m,i,rfl⟩
theorem prZ_s {rf:List UInt8→Option Rf} {n:Nd} (h1:frmN n False) (h2:cntN n≤200) (h:∃ i,parseZ rf (61::wrN n)=.ok n i):prZ rf n=(61::wrN n,0):=by
 obtain ⟨i,h⟩:=h
 rw[prZ_w h2 h1,h]
theorem FormulaBack_d (te:TypeId) (pe:Value) (hV:Has gl (glV te pe)) (hl:Go.EYtdpigpahfiachaaGreatDoor.look gl 0=some lvAll) {mx:Int} (hm:Go.EYtdpigpahfiachaaGreatDoor.look gl 3=some [iD mx]) (n:Nd) (ho:okN n) (t:List UInt8):FnP Tryz.prog gl 7 [.agg n.cs,.str t] (.v (.bool true)):=by
 obtain ⟨i0,p0⟩:=parse_12
 have c0:=Parse_d te pe hV hl rfZ_ok [61,49,43,50]
 rw[p0] at c0
 change FnP Tryz.prog gl 16 _ (.tup [.agg [iD 8,iD 8,.str [],iD 0,iD 0,tD false,tD false,iD 0,iD 0,tD false,tD false,.lst 12 (Nd.csL [.mk 1 1 [] z0 z0 [],.mk 1 2 [] z0 z0 []])],iD 0,.v .nilIface]) at c0
 have k12:((Nd.csL [.mk 1 1 [] z0 z0 [],.mk 1 2 [] z0 z0 []]).length:Int)=2:=by decide
 have c1:=Print_d te pe hV hl rfZ_ok hm n ho
 have c2:=Parse_d te pe hV hl rfZ_ok t
 have c4:=same_y (gl:=gl) n
 generalize Nd.csL [.mk 1 1 [] z0 z0 [],.mk 1 2 [] z0 z0 []]=l12 at *
 by_cases h0:(prZ rfZ n).2=0
 ·obtain ⟨e1,hc,hf⟩:=prZ_y h0
  rw[h0,e1] at c1
  change FnP Tryz.prog gl 31 _ (.tup [.str (61::wrN n),.v .nilIface]) at c1
  have c3:=Parse_d te pe hV hl rfZ_ok (61::wrN n)
  obtain ⟨m,j,hm'⟩:=prZ_p h0
  obtain rfl:=parse_back hf ho hm'
  rw[hm'] at c3
  change FnP Tryz.prog gl 16 _ (.tup [.agg _,iD 0,.v .nilIface]) at c3
  generalize 61::wrN m=s1 at *
  cases hp:parseZ rfZ t with
  | no a e =>
   rw[hp] at c2
   change FnP Tryz.prog gl 16 _ (.tup [.agg n00.cs,iD (a:Int),erD e]) at c2
   generalize n00=q at *
   obtain ⟨k,m,t,a,b,ks⟩:=m
   obtain ⟨k',m',t',a',b',ks'⟩:=q
   refine fnP_of_vc (nv:=9999) (cu:=[]) fits mixed Tryz.func7 rfl hoB rfl ?_
   ((repeat' ((conv=>whnf);first|exact .intro|refine .ya ?_|refine .na ?_|refine .ys ?_|refine .ns ?_|refine .neg (fun _=>?_) (fun _=>?_)|refine .mk (fun _=>?_) (fun _=>?_)|refine .inl (.inl (X1 (by first|exact c0|exact c1|exact c2|exact c3|exact c4) ?_))|refine .inl (X1 (by first|exact c0|exact c1|exact c2|exact c3|exact c4) ?_)|refine X1 (by first|exact c0|exact c1|exact c2|exact c3|exact c4) ?_|refine .mk ?_ ?_|refine AK ?_|refine AT ?_|fail));all_goals conv=>whnf)
   all_goals first|exact LeD.rfl|exact LeD.vt rfl|exact LeD.vt (by simp)
  | ok q i =>
   rw[hp] at c2
   change FnP Tryz.prog gl 16 _ (.tup [.agg _,iD 0,.v .nilIface]) at c2
   obtain ⟨q1,q2,q3,q4,q5⟩:=parse_short hp
   have c5:=Print_d te pe hV hl rfZ_ok hm q q2
   rw[prZ_s q1 q3 q5] at c5
   change FnP Tryz.prog gl 31 _ (.tup [.str (61::wrN q),.v .nilIface]) at c5
   have q6:(((61::wrN q).length:Nat):Int)≤(t.length:Nat):=by omega
   generalize 61::wrN q=s2 at *
   obtain ⟨k,m,t,a,b,ks⟩:=m
   obtain ⟨k',m',t',a',b',ks'⟩:=q
   refine fnP_of_vc (nv:=9999) (cu:=[]) fits mixed Tryz.func7 rfl hoB rfl ?_
   ((repeat' ((conv=>whnf);first|exact .intro|refine .ya ?_|refine .na ?_|refine .ys ?_|refine .ns ?_|refine .neg (fun _=>?_) (fun _=>?_)|refine .mk (fun _=>?_) (fun _=>?_)|refine .inl (.inl (X1 (by first|exact c0|exact c1|exact c2|exact c3|exact c4|exact c5) ?_))|refine .inl (X1 (by first|exact c0|exact c1|exact c2|exact c3|exact c4|exact c5) ?_)|refine X1 (by first|exact c0|exact c1|exact c2|exact c3|exact c4|exact c5) ?_|refine .mk ?_ ?_|refine AK ?_|refine AT ?_|fail));all_goals conv=>whnf)
   all_goals first|exact LeD.rfl|exact LeD.vt rfl|exact LeD.vt q6|exact LeD.vt (by simp)
 ·generalize prZ rfZ n=z at *
  obtain ⟨s1,e1⟩:=z
  simp only at h0 c1
  simp only[errD,if_neg h0] at c1
  cases hp:parseZ rfZ t with
  | no a e =>
   rw[hp] at c2
   change FnP Tryz.prog gl 16 _ (.tup [.agg n00.cs,iD (a:Int),erD e]) at c2
   generalize n00=q at *
   obtain ⟨k,m,t,a,b,ks⟩:=n
   obtain ⟨k',m',t',a',b',ks'⟩:=q
   refine fnP_of_vc (nv:=9999) (cu:=[]) fits mixed Tryz.func7 rfl hoB rfl ?_
   ((repeat' ((conv=>whnf);first|exact .intro|refine .ya ?_|refine .na ?_|refine .ys ?_|refine .ns ?_|refine .neg (fun _=>?_) (fun _=>?_)|refine .mk (fun _=>?_) (fun _=>?_)|refine .inl (.inl (X1 (by first|exact c0|exact c1|exact c2) ?_))|refine .inl (X1 (by first|exact c0|exact c1|exact c2) ?_)|refine X1 (by first|exact c0|exact c1|exact c2) ?_|refine .mk ?_ ?_|refine AK ?_|refine AT ?_|fail));all_goals conv=>whnf)
   all_goals first|exact LeD.rfl|exact LeD.vt rfl|exact LeD.vt (by simp)
  | ok q i =>
   rw[hp] at c2
   change FnP Tryz.prog gl 16 _ (.tup [.agg _,iD 0,.v .nilIface]) at c2
   obtain ⟨q1,q2,q3,q4,q5⟩:=parse_short hp
   have c5:=Print_d te pe hV hl rfZ_ok hm q q2
   rw[prZ_s q1 q3 q5] at c5
   change FnP Tryz.prog gl 31 _ (.tup [.str (61::wrN q),.v .nilIface]) at c5
   have q6:(((61::wrN q).length:Nat):Int)≤(t.length:Nat):=by omega
   generalize 61::wrN q=s2 at *
   obtain ⟨k,m,t,a,b,ks⟩:=n
   obtain ⟨k',m',t',a',b',ks'⟩:=q
   refine fnP_of_vc (nv:=9999) (cu:=[]) fits mixed Tryz.func7 rfl hoB rfl ?_
   ((repeat' ((conv=>whnf);first|exact .intro|refine .ya ?_|refine .na ?_|refine .ys ?_|refine .ns ?_|refine .neg (fun _=>?_) (fun _=>?_)|refine .mk (fun _=>?_) (fun _=>?_)|refine .inl (.inl (X1 (by first|exact c0|exact c1|exact c2|exact c5) ?_))|refine .inl (X1 (by first|exact c0|exact c1|exact c2|exact c5) ?_)|refine X1 (by first|exact c0|exact c1|exact c2|exact c5) ?_|refine .mk ?_ ?_|refine AK ?_|refine AT ?_|fail));all_goals conv=>whnf)
   all_goals first|exact LeD.rfl|exact LeD.vt rfl|exact LeD.vt q6|exact LeD.vt (by simp)
abbrev glW (te:TypeId) (pe:Value) (mx:Int):List (Nat×List D):=(0,lvAll)::(3,[iD mx])::glV te pe
theorem glW_has (te:TypeId) (pe:Value) (mx:Int):Has (glW te pe mx) (glV te pe):=by
 intro g l hl
 rw[look_cons]
 split
 ·rename_i e;subst e;exact absurd hl (by rw[show Go.EYtdpigpahfiachaaGreatDoor.look (glV te pe) 0=none from rfl];simp)
 ·rw[look_cons]
  split
  ·rename_i e;subst e;exact absurd hl (by rw[show Go.EYtdpigpahfiachaaGreatDoor.look (glV te pe) 3=none from rfl];simp)
  ·exact hl
theorem FormulaBack_g (te:TypeId) (pe:Value) (mx:Int) (n:Nd) (ho:okN n) (t:List UInt8):FnP Tryz.prog (glW te pe mx) 7 [.agg n.cs,.str t] (.v (.bool true)) :=
 FormulaBack_d te pe (glW_has te pe mx) rfl rfl n ho t
end Go.Proofs.YtdpigpahfiachaaGreatDoor
end
