/- Proved: a part of what the law is proved with (the reckoner, contracts of functions, plain laws). Conditions: as each says. -/
import Derived.ChangeArms
import Derived.Test.YtfkjhfdpphfjhaaGreatDoorXDe
import Derived.Test.YtfkjhfdpphfjhaaGreatDoorXDzb
import Derived.Test.YtfkjhfdpphfjhaaGreatDoorXFs
section
namespace Go.Proofs.YtfkjhfdpphfjhaaGreatDoor
open Go Go.RowKit Go.EYtfkjhfdpphfjhaaGreatDoor
set_option maxRecDepth 100000
set_option maxHeartbeats 40000000
variable {gl:List (Nat×List D)}
abbrev rf1 (i:Nat):Rf:=cR 1 ((i:Int)+1)
def rfs (k:Nat):List Nd:=(List.range k).map fun (i:Nat)=>refN (rf1 i)
def rfsR (k:Nat):List (List D):=(List.range k).map fun (i:Nat)=>refR 1 ((i:Int)+1)
def nts (k:Nat):List Nd:=(List.range k).map fun (i:Nat)=>callN nNOT [refN (rf1 i)]
def ntsR (k:Nat):List (List D):=(List.range k).map fun (i:Nat)=>(callN nNOT [refN (rf1 i)]).cs
theorem csL_map {α:Type} (f:α→List D) (g:α→Nd) (h:∀ x,All2 LeD (f x) (g x).cs):∀ l:List α,All2 (All2 LeD) (l.map f) (Nd.csL (l.map g))
 | []=>trivial
 | x::r=>⟨h x,csL_map f g h r⟩
theorem rfs_le (k:Nat):All2 (All2 LeD) (rfsR k) (Nd.csL (rfs k)):=csL_map (fun (i:Nat)=>refR 1 ((i:Int)+1)) (fun (i:Nat)=>refN (rf1 i)) (fun _=>ref_le _ _) _
theorem nts_le (k:Nat):All2 (All2 LeD) (ntsR k) (Nd.csL (nts k)):=csL_map _ _ (fun _=>le_refl2 _) _
theorem rfsR_s (k:Nat):rfsR (k+1)=rfsR k++[refR 1 ((k:Int)+1)]:=by unfold rfsR;rw[List.range_succ,List.map_append];rfl
theorem ntsR_s (k:Nat):ntsR (k+1)=ntsR k++[(callN nNOT [refN (rf1 k)]).cs]:=by unfold ntsR;rw[List.range_succ,List.map_append];rfl
theorem rfsR_len (k:Nat):(rfsR k).length=k:=by unfold rfsR;simp
theorem ntsR_len (k:Nat):(ntsR k).length=k:=by unfold ntsR;simp
theorem rfs_len (k:Nat):(rfs k).length=k:=by unfold rfs;simp
theorem nts_len (k:Nat):(nts k).length=k:=by unfold nts;simp
section
variable {ev:Int→Int→Vl} {vs:List Vl} (hev:∀ (i:Nat) (h:i<vs.length),ev 1 ((i:Int)+1)=vs[i])
include hev
theorem ev_rfs:(rfs vs.length).map (evA ev)=vs.map Ar.one:=by
 unfold rfs
 rw[List.map_map]
 apply List.ext_getElem
 ·simp
 intro i h1 h2
 simp only[List.getElem_map,List.getElem_range,Function.comp]
 rw[evA_ref]
 exact congrArg Ar.one (hev i (by simpa using h2))
theorem ev_nts:(nts vs.length).map (evA ev)=(vs.map ntV).map Ar.one:=by
 unfold nts
 rw[List.map_map,List.map_map]
 apply List.ext_getElem
 ·simp
 intro i h1 h2
 simp only[List.getElem_map,List.getElem_range,Function.comp]
 rw[evA_call]
 show Ar.one (callV nNOT [.one (ev 1 ((i:Int)+1))])=_
 rw[hev i (by simpa using h2),call_not]
theorem ev_and (h0:vs≠[]):evN ev (callN nAND (rfs vs.length))=manyF nAND (onv vs):=by
 rw[evN_call,ev_rfs hev,many_eq (by decide) (by simpa using h0),fl_ones]
theorem ev_or (h0:vs≠[]):evN ev (callN nOR (nts vs.length))=manyF nOR (onv (vs.map ntV)):=by
 rw[evN_call,ev_nts hev,many_eq (by decide) (by simpa using h0),fl_ones]
theorem ev_not (h0:vs≠[]):evN ev (callN nNOT [callN nAND (rfs vs.length)])=ntV (manyF nAND (onv vs)):=by
 rw[evN_call]
 show callV nNOT [evA ev _]=_
 rw[evA_call,← evN_call,ev_and hev h0,call_not]
theorem ev_if (h0:vs≠[]):evN ev (callN nIF [callN nAND (rfs vs.length),refN (cR 2 1),refN (cR 3 1)])=if (truV (manyF nAND (onv vs))).k=4 then truV (manyF nAND (onv vs)) else if (truV (manyF nAND (onv vs))).n=1 then ev 2 1 else ev 3 1:=by
 rw[evN_call]
 show callV nIF [evA ev _,.one (ev 2 1),.one (ev 3 1)]=_
 rw[evA_call,← evN_call,ev_and hev h0,call_if]
end
theorem okP_1 {i:Nat} (h:i<8):okP 1 ((i:Int)+1):=by unfold okP;omega
theorem sm_rfs {k:Nat} (h:k≤8):∀ x ∈ rfs k,Sm x True 3 0 1:=fun x hx=>by
 obtain ⟨i,hi,rfl⟩:=List.mem_map.1 hx
 exact sm_ref True (okP_1 (by have:=List.mem_range.1 hi;omega))
theorem sm_and {k:Nat} (h:k≤8) (p:Prop):Sm (callN nAND (rfs k)) p 37 1 9:=(sm_call (w:=3) (d:=0) (c:=1) p (by decide) (sm_rfs h)).mono id (by rw[rfs_len];show 3+2+_≤_;omega) (by decide) (by rw[rfs_len];omega)
theorem sm_or {k:Nat} (h:k≤8):Sm (callN nOR (nts k)) False 84 2 17:=(sm_call (w:=9) (d:=1) (c:=2) False (by decide) fun x hx=>by
 obtain ⟨i,hi,rfl⟩:=List.mem_map.1 hx
 exact (sm_call (w:=3) (d:=0) (c:=1) True (by decide) fun y hy=>by
  obtain rfl:=List.mem_singleton.1 hy
  exact sm_ref True (okP_1 (by have:=List.mem_range.1 hi;omega))).mono id (Nat.le_of_ble_eq_true rfl) (Nat.le_of_ble_eq_true rfl) (Nat.le_of_ble_eq_true rfl)).mono id (by rw[nts_len];show 2+2+_≤_;omega) (by decide) (by rw[nts_len];omega)
theorem sm_nota {k:Nat} (h:k≤8):Sm (callN nNOT [callN nAND (rfs k)]) False 43 2 10:=(sm_call (w:=37) (d:=1) (c:=9) False (by decide) fun x hx=>by
 obtain rfl:=List.mem_singleton.1 hx
 exact sm_and h True).mono id (Nat.le_of_ble_eq_true rfl) (Nat.le_of_ble_eq_true rfl) (Nat.le_of_ble_eq_true rfl)
theorem sm_if {k:Nat} (h:k≤8):Sm (callN nIF [callN nAND (rfs k),refN (cR 2 1),refN (cR 3 1)]) False 118 2 28:=(sm_call (w:=37) (d:=1) (c:=9) False (by decide) (all_3 (sm_and h True) ((sm_ref True (by decide)).mono id (Nat.le_of_ble_eq_true rfl) (Nat.le_of_ble_eq_true rfl) (Nat.le_of_ble_eq_true rfl)) ((sm_ref True (by decide)).mono id (Nat.le_of_ble_eq_true rfl) (Nat.le_of_ble_eq_true rfl) (Nat.le_of_ble_eq_true rfl)))).mono id (Nat.le_of_ble_eq_true rfl) (Nat.le_of_ble_eq_true rfl) (Nat.le_of_ble_eq_true rfl)
theorem in_and (k:Nat):InS lgcS (callN nAND (rfs k)):=in_call (.inr (.inr (.inl rfl))) fun x hx=>by
 obtain ⟨i,_,rfl⟩:=List.mem_map.1 hx
 exact in_ref _ _
theorem in_or (k:Nat):InS lgcS (callN nOR (nts k)):=in_call (.inr (.inr (.inr rfl))) fun x hx=>by
 obtain ⟨i,_,rfl⟩:=List.mem_map.1 hx
 exact in_call (.inl ⟨rfl,rfl⟩) (in_1 (in_ref _ _))
theorem in_nota (k:Nat):InS lgcS (callN nNOT [callN nAND (rfs k)]):=in_call (.inl ⟨rfl,rfl⟩) (in_1 (in_and k))
theorem in_if (k:Nat):InS lgcS (callN nIF [callN nAND (rfs k),refN (cR 2 1),refN (cR 3 1)]):=in_call (.inr (.inl ⟨rfl,rfl⟩)) (in_3 (in_and k) (in_ref _ _) (in_ref _ _))
theorem lgc_0:InS lgcS (callN nNOT [truN 1]):=in_call (.inl ⟨rfl,rfl⟩) (in_1 (.leaf (by decide)))
theorem lgc_f0:evN (evF []) (callN nNOT [truN 1])=⟨3,0,[]⟩:=by
 rw[evN_call]
 show callV nNOT [.one (truD ((1:Int)=1))]=_
 rw[call_not]
 rfl
theorem lgc_f1:FnP Tryz.prog (wG gl) 16 [.str nNOT,.lst 12 [rawR 3 1 [] 0 0]] (.agg (callN nNOT [truN 1]).cs):=FnP.args (scall_d nNOT [truN 1]) ⟨LeD.rfl,LeD.lst ⟨raw_le _ _ _ _ _,trivial⟩,trivial⟩
theorem lgc_f2:Sm (callN nNOT [truN 1]) False 10 1 2:=sm_call (w:=4) (d:=0) (c:=1) False (by decide) fun x hx=>by
 obtain rfl:=List.mem_singleton.1 hx
 exact sm_tru True
def lgcL (vs:List Vl) (a b:Vl):List Shw:=colS vs++[⟨2,1,a,0,0⟩,⟨3,1,b,0,0⟩]
def lgcB (vs:List Vl) (i:Nat):Bool:=(vs.take i).any fun v=>decide ((truV v).k=4)
theorem lgcB_s {vs:List Vl} {i:Nat} (h:i<vs.length):lgcB vs (i+1)=(lgcB vs i || decide ((truV vs[i]).k=4)):=by
 unfold lgcB
 rw[List.take_succ_eq_append_getElem h,List.any_append]
 simp
section
variable (te:TypeId) (pe:Value) (hV:Has (wG gl) (glV te pe)) {mx:Int} (hm':Go.EYtfkjhfdpphfjhaaGreatDoor.look (wG gl) 4=some [iD mx]) (hl':Go.EYtfkjhfdpphfjhaaGreatDoor.look (wG gl) 0=some lvAll)
include hV hm' hl'
theorem logi_a {vs:List Vl} {a b:Vl} {p q r:Bool} (hp:FnP Tryz.prog (wG gl) 17 [.lst 3 (vs.map vlQ),iD 8] (.v (.bool p))) (hq:FnP Tryz.prog (wG gl) 12 [a.d] (.v (.bool q))) (hr:FnP Tryz.prog (wG gl) 12 [b.d] (.v (.bool r))) (h:p=false∨q=false∨r=false):FnP Tryz.prog (wG gl) 7 [.lst 3 (vs.map vlQ),a.d,b.d] (.v (.bool true)):=by
 have f1:=lgc_f1 (gl:=gl)
 have f2:=works_0 te pe hV hm' hl' lgc_f2 (by decide) (by decide) (by decide) lgc_0 (fun _ _ hM hev=>call_logi te pe hV hM hev) lgc_f0
 have f3:FnP Tryz.prog (wG gl) 23 [.v (.bool false)] (vlD 3 0 []):=rTru_c false
 obtain ⟨k,n,s⟩:=a
 obtain ⟨k',n',s'⟩:=b
 change FnP Tryz.prog (wG gl) 12 [vlD k n s] _ at hq
 change FnP Tryz.prog (wG gl) 12 [vlD k' n' s'] _ at hr
 cases p
 ·refine fnP_of_vc (nv:=9999) (cu:=[]) fits mixed Tryz.func7 rfl hoB rfl ?_
  ((repeat' ((conv=>whnf);first|exact .intro|refine .ya ?_|refine .na ?_|refine .ys ?_|refine .ns ?_|refine .neg (fun _=>?_) (fun _=>?_)|refine .mk (fun _=>?_) (fun _=>?_)|refine .inl (.inl (X1 (by first|exact f2|exact f3|exact hp|exact hq|exact hr) ?_))|refine .inl (X1 (by first|exact f2|exact f3|exact hp|exact hq|exact hr) ?_)|refine X1 (by first|exact f2|exact f3|exact hp|exact hq|exact hr) ?_|refine .inr (X1 (by first|exact f1) ?_)|refine .mk ?_ ?_|refine AK ?_|refine AT ?_|fail));all_goals conv=>whnf)
  all_goals first|exact LeD.rfl|(exfalso;simp_all;done)|skip
 cases q
 ·refine fnP_of_vc (nv:=9999) (cu:=[]) fits mixed Tryz.func7 rfl hoB rfl ?_
  ((repeat' ((conv=>whnf);first|exact .intro|refine .ya ?_|refine .na ?_|refine .ys ?_|refine .ns ?_|refine .neg (fun _=>?_) (fun _=>?_)|refine .mk (fun _=>?_) (fun _=>?_)|refine .inl (.inl (X1 (by first|exact f2|exact f3|exact hp|exact hq|exact hr) ?_))|refine .inl (X1 (by first|exact f2|exact f3|exact hp|exact hq|exact hr) ?_)|refine X1 (by first|exact f2|exact f3|exact hp|exact hq|exact hr) ?_|refine .inr (X1 (by first|exact f1) ?_)|refine .mk ?_ ?_|refine AK ?_|refine AT ?_|fail));all_goals conv=>whnf)
  all_goals first|exact LeD.rfl|(exfalso;simp_all;done)|skip
 obtain rfl:r=false:=by simpa using h
 refine fnP_of_vc (nv:=9999) (cu:=[]) fits mixed Tryz.func7 rfl hoB rfl ?_
 ((repeat' ((conv=>whnf);first|exact .intro|refine .ya ?_|refine .na ?_|refine .ys ?_|refine .ns ?_|refine .neg (fun _=>?_) (fun _=>?_)|refine .mk (fun _=>?_) (fun _=>?_)|refine .inl (.inl (X1 (by first|exact f2|exact f3|exact hp|exact hq|exact hr) ?_))|refine .inl (X1 (by first|exact f2|exact f3|exact hp|exact hq|exact hr) ?_)|refine X1 (by first|exact f2|exact f3|exact hp|exact hq|exact hr) ?_|refine .inr (X1 (by first|exact f1) ?_)|refine .mk ?_ ?_|refine AK ?_|refine AT ?_|fail));all_goals conv=>whnf)
 all_goals first|exact LeD.rfl|(exfalso;simp_all;done)|skip
theorem logi_y {vs:List Vl} {a b:Vl} (hv:∀ v ∈ vs,v.ok) (ha:a.ok) (hb:b.ok) (h0:vs.length≠0) (h8:vs.length≤8):FnP Tryz.prog (wG gl) 7 [.lst 3 (vs.map vlQ),a.d,b.d] (.v (.bool true)):=by
 have hlen:(vs.map vlQ).length=vs.length:=List.length_map _
 have hne:vs≠[]:=fun h=>h0 (by rw[h];rfl)
 have f1:=lgc_f1 (gl:=gl)
 have f2:=works_0 te pe hV hm' hl' lgc_f2 (by decide) (by decide) (by decide) lgc_0 (fun _ _ hM hev=>call_logi te pe hV hM hev) lgc_f0
 have f3:FnP Tryz.prog (wG gl) 23 [.v (.bool false)] (vlD 3 0 []):=rTru_c false
 have hp:=values_y (gl:=wG gl) (vs:=vs) (most:=8) h0 (by omega) (by omega) fun v h=>(hv v h).1
 have hq:FnP Tryz.prog (wG gl) 12 [vlD a.k a.n a.s] (.v (.bool true)):=isR_y ha.1
 have hr:FnP Tryz.prog (wG gl) 12 [vlD b.k b.n b.s] (.v (.bool true)):=isR_y hb.1
 have fc:=column_h (gl:=wG gl) vs (by omega)
 have hrl:((colS vs).map shwD).length=vs.length:=by rw[List.length_map,colS_len]
 have b1:(((colS vs).map shwD).length+2) * 64≤140737488355328:=by omega
 have b2:((colS vs).map shwD).length+2≤maxLen:=by unfold maxLen;omega
 have hsh:∀ x ∈ lgcL vs a b,shOk x∧okI x.v.n:=fun x hx=>by
  unfold lgcL at hx
  rcases List.mem_append.1 hx with hx|hx
  ·unfold colS at hx
   obtain ⟨i,hi,rfl⟩:=List.mem_mapIdx.1 hx
   have:=hv _ (List.getElem_mem hi)
   exact ⟨⟨by show okP 1 ((i:Int)+1);unfold okP;omega,this.1⟩,this.2⟩
  ·rcases List.mem_cons.1 hx with rfl|hx
   ·exact ⟨⟨by show okP 2 1;decide,ha.1⟩,ha.2⟩
   ·obtain rfl:=List.mem_singleton.1 hx
    exact ⟨⟨by show okP 3 1;decide,hb.1⟩,hb.2⟩
 have hcl:(lgcL vs a b).length≤1048576:=by unfold lgcL;rw[List.length_append,colS_len];simp;omega
 have hsw:shw7 (lgcL vs a b)=.lst 7 ((colS vs).map shwD++[[iD 2,iD 1,iD a.k,iD a.n,.str a.s,iD 0,iD 0],[iD 3,iD 1,iD b.k,iD b.n,.str b.s,iD 0,iD 0]]):=by
  show D.lst 7 ((colS vs++[(⟨2,1,a,0,0⟩:Shw),⟨3,1,b,0,0⟩]).map shwD)=_
  rw[List.map_append]
  rfl
 have esn:evF (lgcL vs a b)=evS (evS (evF (colS vs)) ⟨2,1,a,0,0⟩) ⟨3,1,b,0,0⟩:=by unfold lgcL evF;rw[List.foldl_append];rfl
 have ea:evF (lgcL vs a b) 2 1=a:=by rw[esn];unfold evS;rw[if_neg (by simp),if_pos ⟨rfl,rfl⟩]
 have eb:evF (lgcL vs a b) 3 1=b:=by rw[esn];unfold evS;rw[if_pos ⟨rfl,rfl⟩]
 have hev:∀ (i:Nat) (h:i<vs.length),evF (lgcL vs a b) 1 ((i:Int)+1)=vs[i]:=fun i h=>by
  rw[esn]
  unfold evS
  rw[if_neg (by simp),if_neg (by simp),col_at h]
 have cok:∀ mk mv,MapOk mk mv (evF (lgcL vs a b))→(∀ c r,(evF (lgcL vs a b) c r).ok)→CallOk gl lgcS mk mv (evF (lgcL vs a b)):=fun _ _ hM hev=>call_logi te pe hV hM hev
 have wP:=works_s te pe hV hm' hl' (sm_nota h8) (by decide) (by decide) (by decide) (in_nota _) (fun x hx=>(hsh x hx).1) (fun x hx=>(hsh x hx).2) hcl cok (ev_not hev hne)
 have wQ:=works_s te pe hV hm' hl' (sm_or h8) (by decide) (by decide) (by decide) (in_or _) (fun x hx=>(hsh x hx).1) (fun x hx=>(hsh x hx).2) hcl cok (ev_or hev hne)
 have wR:=works_s te pe hV hm' hl' (sm_if h8) (by decide) (by decide) (by decide) (in_if _) (fun x hx=>(hsh x hx).1) (fun x hx=>(hsh x hx).2) hcl cok (ev_if hev hne)
 have wS:=works_s te pe hV hm' hl' (sm_and h8 False) (by decide) (by decide) (by decide) (in_and _) (fun x hx=>(hsh x hx).1) (fun x hx=>(hsh x hx).2) hcl cok (ev_and hev hne)
 rw[ea,eb] at wR
 rw[hsw] at wP wQ wR wS
 have kA:FnP Tryz.prog (wG gl) 16 [.str nAND,.lst 12 (rfsR vs.length)] (.agg (callN nAND (rfs vs.length)).cs):=FnP.args (scall_d nAND _) ⟨LeD.rfl,LeD.lst (rfs_le _),trivial⟩
 have kO:FnP Tryz.prog (wG gl) 16 [.str nOR,.lst 12 (ntsR vs.length)] (.agg (callN nOR (nts vs.length)).cs):=FnP.args (scall_d nOR _) ⟨LeD.rfl,LeD.lst (nts_le _),trivial⟩
 have kN:FnP Tryz.prog (wG gl) 16 [.str nNOT,.lst 12 [(callN nAND (rfs vs.length)).cs]] (.agg (callN nNOT [callN nAND (rfs vs.length)]).cs):=FnP.args (scall_d nNOT [callN nAND (rfs vs.length)]) ⟨LeD.rfl,LeD.lst ⟨le_refl2 _,trivial⟩,trivial⟩
 have kI:FnP Tryz.prog (wG gl) 16 [.str nIF,.lst 12 [(callN nAND (rfs vs.length)).cs,refR 2 1,refR 3 1]] (.agg (callN nIF [callN nAND (rfs vs.length),refN (cR 2 1),refN (cR 3 1)]).cs):=FnP.args (scall_d nIF [callN nAND (rfs vs.length),refN (cR 2 1),refN (cR 3 1)]) ⟨LeD.rfl,LeD.lst ⟨le_refl2 _,ref_le _ _,ref_le _ _,trivial⟩,trivial⟩
 have a2:=at_d (gl:=wG gl) 2 1
 have a3:=at_d (gl:=wG gl) 3 1
 have hm:=morgan hne hv
 have hk:=and_k hne hv
 have hbad:lgcB vs vs.length=true↔∃ v ∈ vs,(truV v).k=4:=by
  unfold lgcB
  rw[List.take_length,List.any_eq_true]
  simp
 clear hsh hcl hsw esn ea eb hev cok
 generalize manyF nAND (onv vs)=A at *
 generalize manyF nOR (onv (vs.map ntV))=O at *
 refine fnP_of_vc (nv:=9999) (cu:=[]) fits mixed Tryz.func7 rfl hoB rfl ?_
 ((repeat' ((conv=>whnf);first|exact .intro|refine .ya ?_|refine .na ?_|refine .ys ?_|refine .ns ?_|refine .neg (fun _=>?_) (fun _=>?_)|refine .mk (fun _=>?_) (fun _=>?_)|refine .inr (X5 (fc.r [] _) ?_)|refine .inl (.inr (X5 (fc.r [] _) ?_))|refine .inl (X5 (fc.r [] _) ?_)|refine .inl (.inl (X1 (by first|exact f2|exact f3|exact hp|exact hq|exact hr|exact a2|exact a3) ?_))|refine .inl (X1 (by first|exact f2|exact f3|exact hp|exact hq|exact hr|exact a2|exact a3) ?_)|refine X1 (by first|exact f2|exact f3|exact hp|exact hq|exact hr|exact a2|exact a3) ?_|refine .inr (X1 (by first|exact f1) ?_)|(first|rw[hlen]|refine ⟨⟨rfl,b1,b2⟩,?_⟩)|refine .mk ?_ ?_|refine AK ?_|refine AT ?_|fail));all_goals conv=>whnf)
 refine ⟨{ σ:=Nat×Bool,fr:=fun i=>[(16,.c (.d (iD (i.1:Int)))),(15,.c (.d (.v (.bool i.2)))),(14,.c (.all 12 6)),(13,.c (.all 12 5))],ks:=[],L:=fun i=>[(6,.rows 12 (ntsR i.1) 28),(5,.rows 12 (rfsR i.1) 28)],ex:=2,I:=fun i=>i.1≤vs.length∧lgcB vs i.1=i.2,μ:=fun i=>vs.length - i.1 },⟨(0,false),⟨Nat.zero_le _,rfl⟩,?_⟩,fun (i:Nat×Bool) hi=>?_⟩
 ·((repeat' first|exact rfl|((conv=>whnf);first|done|exact suL|refine And.intro ?_ ?_|fail));all_goals conv=>whnf)
  all_goals first|exact .inr (.inr (.inl ⟨rfl,12,6,rfl,by decide⟩))|exact .inr (.inr (.inl ⟨rfl,12,5,rfl,by decide⟩))|exact ⟨12,_,rfl,by decide,by decide⟩|skip
 obtain ⟨i,B⟩:=i
 obtain ⟨hi,hB⟩:=hi
 replace hi:i≤vs.length:=hi
 replace hB:lgcB vs i=B:=hB
 by_cases hlt:i<vs.length
 ·clear f1 f2 f3 hp hq hr fc b1 b2 hrl wP wQ wR wS kA kO kN kI hm hk hbad a2 a3 h0 hne ha hb
  have h3:(i:Int)<(((vs.map vlQ).length:Nat):Int):=by omega
  have g1:=get_map (f:=vlQ) hlt
  have e0:=wx (x:=i) (by omega)
  have hst:=lgcB_s hlt
  have r1:=rfsR_s i
  have r2:=ntsR_s i
  have r3:=rfsR_len i
  have r4:=ntsR_len i
  have b3:((rfsR i).length+1) * 104≤140737488355328:=by omega
  have b4:(rfsR i).length+1≤maxLen:=by unfold maxLen;omega
  have b5:((ntsR i).length+1) * 104≤140737488355328:=by omega
  have b6:(ntsR i).length+1≤maxLen:=by unfold maxLen;omega
  have a4:=at_d (gl:=wG gl) 1 ((i+1:Nat):Int)
  have kC:FnP Tryz.prog (wG gl) 16 [.str nNOT,.lst 12 [refR 1 ((i+1:Nat):Int)]] (.agg (callN nNOT [refN (cR 1 ((i+1:Nat):Int))]).cs):=FnP.args (scall_d nNOT [refN (cR 1 ((i+1:Nat):Int))]) ⟨LeD.rfl,LeD.lst ⟨ref_le _ _,trivial⟩,trivial⟩
  have rT:FnP Tryz.prog (wG gl) 25 [vlD vs[i].k vs[i].n vs[i].s] (truV vs[i]).d:=rTruth_d (hv _ (List.getElem_mem hlt)).1
  clear hv
  rw[hB] at hst
  generalize vs[i]=v at *
  generalize truV v=t at *
  cases B
  ·by_cases ht:t.k=4
   ·((repeat' ((conv=>whnf);first|exact .intro|refine .ya ?_|refine .na ?_|refine .ys ?_|refine .ns ?_|refine .neg (fun _=>?_) (fun _=>?_)|refine .mk (fun _=>?_) (fun _=>?_)|refine .inl (.inl (X1 (by first|exact a4|exact rT) ?_))|refine .inl (X1 (by first|exact a4|exact rT) ?_)|refine X1 (by first|exact a4|exact rT) ?_|refine .inr (X1 (by first|exact kC) ?_)|(first|rw[e0]|refine ⟨Int.natCast_nonneg _,_,g1,?_⟩|refine ⟨⟨rfl,b3,b4⟩,?_⟩|refine ⟨⟨rfl,b5,b6⟩,?_⟩)|refine .mk ?_ ?_|refine AK ?_|refine AT ?_|fail));all_goals conv=>whnf)
    all_goals refine ⟨(i+1,true),⟨⟨hlt,by rw[hst];simp[ht]⟩,by show vs.length - (i+1)<vs.length - i;omega⟩,?_⟩
    all_goals ((repeat' first|exact rfl|((conv=>whnf);first|done|exact suL|refine And.intro ?_ ?_|fail));all_goals conv=>whnf)
    all_goals first|exact ceq e0|exact r1.symm|exact r2.symm|exact .inr (.inr (.inr (LeD.vt ht)))|skip
   ·((repeat' ((conv=>whnf);first|exact .intro|refine .ya ?_|refine .na ?_|refine .ys ?_|refine .ns ?_|refine .neg (fun _=>?_) (fun _=>?_)|refine .mk (fun _=>?_) (fun _=>?_)|refine .inl (.inl (X1 (by first|exact a4|exact rT) ?_))|refine .inl (X1 (by first|exact a4|exact rT) ?_)|refine X1 (by first|exact a4|exact rT) ?_|refine .inr (X1 (by first|exact kC) ?_)|(first|rw[e0]|refine ⟨Int.natCast_nonneg _,_,g1,?_⟩|refine ⟨⟨rfl,b3,b4⟩,?_⟩|refine ⟨⟨rfl,b5,b6⟩,?_⟩)|refine .mk ?_ ?_|refine AK ?_|refine AT ?_|fail));all_goals conv=>whnf)
    all_goals refine ⟨(i+1,false),⟨⟨hlt,by rw[hst];simp[ht]⟩,by show vs.length - (i+1)<vs.length - i;omega⟩,?_⟩
    all_goals ((repeat' first|exact rfl|((conv=>whnf);first|done|exact suL|refine And.intro ?_ ?_|fail));all_goals conv=>whnf)
    all_goals first|exact ceq e0|exact r1.symm|exact r2.symm|exact .inr (.inr (.inr (LeD.vf ht)))|skip
  ·clear hB
   ((repeat' ((conv=>whnf);first|exact .intro|refine .ya ?_|refine .na ?_|refine .ys ?_|refine .ns ?_|refine .neg (fun _=>?_) (fun _=>?_)|refine .mk (fun _=>?_) (fun _=>?_)|refine .inl (.inl (X1 (by first|exact a4|exact rT) ?_))|refine .inl (X1 (by first|exact a4|exact rT) ?_)|refine X1 (by first|exact a4|exact rT) ?_|refine .inr (X1 (by first|exact kC) ?_)|(first|rw[e0]|refine ⟨Int.natCast_nonneg _,_,g1,?_⟩|refine ⟨⟨rfl,b3,b4⟩,?_⟩|refine ⟨⟨rfl,b5,b6⟩,?_⟩)|refine .mk ?_ ?_|refine AK ?_|refine AT ?_|fail));all_goals conv=>whnf)
   all_goals refine ⟨(i+1,true),⟨⟨hlt,by rw[hst];rfl⟩,by show vs.length - (i+1)<vs.length - i;omega⟩,?_⟩
   all_goals ((repeat' first|exact rfl|((conv=>whnf);first|done|exact suL|refine And.intro ?_ ?_|fail));all_goals conv=>whnf)
   all_goals first|exact ceq e0|exact r1.symm|exact r2.symm|skip
 ·have h3:¬ (i:Int)<(((vs.map vlQ).length:Nat):Int):=by omega
  obtain rfl:i=vs.length:=by omega
  clear f1 f2 f3 hp hq hr fc b1 b2 hrl h0
  have hT:A.k=4∨A.k=3→truV A=A:=fun h=>h.elim truV_bad truV_tru
  have hcs:(B=true∧(ntV A).k=4∧O.k=4∧A.k=4)∨(B=false∧ntV A=O):=by
   cases B with
   | true =>
    obtain ⟨h1,h2⟩:=hm.2 (hbad.1 hB)
    refine .inl ⟨rfl,h1,h2,?_⟩
    rcases hk with hk|hk
    ·exact hk
    ·exfalso
     have ht:=hT (.inr hk.1)
     unfold ntV at h1
     rw[if_neg (by omega),ht,if_neg (by omega)] at h1
     cases h1
   | false =>
    refine .inr ⟨rfl,hm.1 fun v hv h4=>?_⟩
    have:=hbad.2 ⟨v,hv,h4⟩
    rw[hB] at this
    cases this
  have hR:(A.k=4∧(if (truV A).k=4 then truV A else if (truV A).n=1 then a else b)=A)∨(A.k=3∧A.n=0∧(if (truV A).k=4 then truV A else if (truV A).n=1 then a else b)=b)∨(A.k=3∧A.n=1∧(if (truV A).k=4 then truV A else if (truV A).n=1 then a else b)=a):=by
   rcases hk with hk|⟨hk,hn|hn⟩
   ·exact .inl ⟨hk,by rw[hT (.inl hk),if_pos hk]⟩
   ·exact .inr (.inl ⟨hk,hn,by rw[hT (.inr hk),if_neg (by omega),if_neg (by omega)]⟩)
   ·exact .inr (.inr ⟨hk,hn,by rw[hT (.inr hk),if_neg (by omega),if_pos hn]⟩)
  clear hm hk hbad hT hB
  generalize (if (truV A).k=4 then truV A else if (truV A).n=1 then a else b)=R at *
  generalize ntV A=P at *
  obtain ⟨pk,pn,ps⟩:=P
  obtain ⟨qk,qn,qs⟩:=O
  obtain ⟨sk,sn,ss⟩:=A
  obtain ⟨rk,rn,rs⟩:=R
  obtain ⟨ak,an,as'⟩:=a
  obtain ⟨bk,bn,bs⟩:=b
  change FnP Tryz.prog (wG gl) 15 _ (.tup [vlD pk pn ps,_]) at wP
  change FnP Tryz.prog (wG gl) 15 _ (.tup [vlD qk qn qs,_]) at wQ
  change FnP Tryz.prog (wG gl) 15 _ (.tup [vlD rk rn rs,_]) at wR
  change FnP Tryz.prog (wG gl) 15 _ (.tup [vlD sk sn ss,_]) at wS
  simp only at hcs hR
  rcases hcs with ⟨rfl,rfl,rfl,rfl⟩|⟨rfl,he⟩
  ·have he:rk=4∧rn=sn∧rs=ss:=by
    rcases hR with ⟨_,h⟩|h|h
    ·cases h;exact ⟨rfl,rfl,rfl⟩
    ·exact absurd h.1 (by decide)
    ·exact absurd h.1 (by decide)
   obtain ⟨rfl,rfl,rfl⟩:=he
   clear hR
   ((repeat' ((conv=>whnf);first|exact .intro|refine .ya ?_|refine .na ?_|refine .ys ?_|refine .ns ?_|refine .neg (fun _=>?_) (fun _=>?_)|refine .mk (fun _=>?_) (fun _=>?_)|refine .inl (.inl (X1 (by first|exact wP|exact wQ|exact wR|exact wS|exact a2|exact a3) ?_))|refine .inl (X1 (by first|exact wP|exact wQ|exact wR|exact wS|exact a2|exact a3) ?_)|refine X1 (by first|exact wP|exact wQ|exact wR|exact wS|exact a2|exact a3) ?_|refine .inr (X1 (by first|exact kA|exact kO|exact kN|exact kI) ?_)|refine .mk ?_ ?_|refine AK ?_|refine AT ?_|fail));all_goals conv=>whnf)
   all_goals first|exact LeD.rfl|exact LeD.vt (by simp[andPD])|(exfalso;simp_all [andPD];done)|skip
  cases he
  rcases hR with ⟨rfl,h⟩|⟨rfl,rfl,h⟩|⟨rfl,rfl,h⟩
  ·cases h
   ((repeat' ((conv=>whnf);first|exact .intro|refine .ya ?_|refine .na ?_|refine .ys ?_|refine .ns ?_|refine .neg (fun _=>?_) (fun _=>?_)|refine .mk (fun _=>?_) (fun _=>?_)|refine .inl (.inl (X1 (by first|exact wP|exact wQ|exact wR|exact wS|exact a2|exact a3) ?_))|refine .inl (X1 (by first|exact wP|exact wQ|exact wR|exact wS|exact a2|exact a3) ?_)|refine X1 (by first|exact wP|exact wQ|exact wR|exact wS|exact a2|exact a3) ?_|refine .inr (X1 (by first|exact kA|exact kO|exact kN|exact kI) ?_)|refine .mk ?_ ?_|refine AK ?_|refine AT ?_|fail));all_goals conv=>whnf)
   all_goals first|exact LeD.rfl|exact LeD.vt (by simp[andPD])|(exfalso;simp_all [andPD];done)|skip
  ·cases h
   ((repeat' ((conv=>whnf);first|exact .intro|refine .ya ?_|refine .na ?_|refine .ys ?_|refine .ns ?_|refine .neg (fun _=>?_) (fun _=>?_)|refine .mk (fun _=>?_) (fun _=>?_)|refine .inl (.inl (X1 (by first|exact wP|exact wQ|exact wR|exact wS|exact a2|exact a3) ?_))|refine .inl (X1 (by first|exact wP|exact wQ|exact wR|exact wS|exact a2|exact a3) ?_)|refine X1 (by first|exact wP|exact wQ|exact wR|exact wS|exact a2|exact a3) ?_|refine .inr (X1 (by first|exact kA|exact kO|exact kN|exact kI) ?_)|refine .mk ?_ ?_|refine AK ?_|refine AT ?_|fail));all_goals conv=>whnf)
   all_goals first|exact LeD.rfl|exact LeD.vt (by simp[andPD])|(exfalso;simp_all [andPD];done)|skip
  ·cases h
   ((repeat' ((conv=>whnf);first|exact .intro|refine .ya ?_|refine .na ?_|refine .ys ?_|refine .ns ?_|refine .neg (fun _=>?_) (fun _=>?_)|refine .mk (fun _=>?_) (fun _=>?_)|refine .inl (.inl (X1 (by first|exact wP|exact wQ|exact wR|exact wS|exact a2|exact a3) ?_))|refine .inl (X1 (by first|exact wP|exact wQ|exact wR|exact wS|exact a2|exact a3) ?_)|refine X1 (by first|exact wP|exact wQ|exact wR|exact wS|exact a2|exact a3) ?_|refine .inr (X1 (by first|exact kA|exact kO|exact kN|exact kI) ?_)|refine .mk ?_ ?_|refine AK ?_|refine AT ?_|fail));all_goals conv=>whnf)
   all_goals first|exact LeD.rfl|exact LeD.vt (by simp[andPD])|(exfalso;simp_all [andPD];done)|skip
theorem EvalLogic_d {vs:List Vl} {a b:Vl} (hn:∀ v ∈ vs,okI v.n) (ha:okI a.n) (hb:okI b.n):FnP Tryz.prog (wG gl) 7 [.lst 3 (vs.map vlQ),a.d,b.d] (.v (.bool true)):=by
 have iR:∀ w:Vl,∃ q,FnP Tryz.prog (wG gl) 12 [w.d] (.v (.bool q))∧(q=true→isV w.k w.n w.s):=fun w=>by
  by_cases h:isV w.k w.n w.s
  ·exact ⟨true,isR_y h,fun _=>h⟩
  ·exact ⟨false,isR_n h,fun h=>by cases h⟩
 obtain ⟨q,hq,hqv⟩:=iR a
 obtain ⟨r,hr,hrv⟩:=iR b
 by_cases h:vs.length≠0∧(vs.length:Int)≤8∧∀ v ∈ vs,isV v.k v.n v.s
 ·by_cases h2:q=true∧r=true
  ·exact logi_y te pe hV hm' hl' (fun v hv=>⟨h.2.2 v hv,hn v hv⟩) ⟨hqv h2.1,ha⟩ ⟨hrv h2.2,hb⟩ h.1 (by omega)
  ·refine logi_a te pe hV hm' hl' (values_y (gl:=wG gl) (vs:=vs) (most:=8) h.1 h.2.1 (by omega) h.2.2) hq hr (.inr ?_)
   cases q
   ·exact .inl rfl
   cases r
   ·exact .inr rfl
   exact absurd ⟨rfl,rfl⟩ h2
 ·exact logi_a te pe hV hm' hl' (values_n (by decide) (by decide) h) hq hr (.inl rfl)
end
end Go.Proofs.YtfkjhfdpphfjhaaGreatDoor
end
section
namespace Go.Proofs.YtfkjhfdpphfjhaaGreatDoor
open Go Go.ChangeShapes Go.WideShapes Go.ChangeAt Go.RowKit Go.EYtfkjhfdpphfjhaaGreatDoor
set_option linter.unusedVariables false
set_option maxRecDepth 100000
theorem var_wrong {w:World} (h1:Lib.VarReads Tryz.prog w "sccsettle/eval.wrong" Rows.laid_sccsettle_eval_wrong):Holds1 w 1 [iD 4,iD 2,.str []]:=by
 obtain ⟨g,t,cs,fuel,p,hg,ht,hv,hd⟩:=h1
 have e:(some g:Option Nat)=some 1:=hg.symm.trans (show Tryz.prog.globalNamed "sccsettle/eval.wrong" = some 1 by kernel_rfl)
 cases e
 have e:(some t:Option Nat)=some 31:=ht.symm.trans (by kernel_rfl)
 cases e
 obtain ⟨xs,n,_,hx,hcl,hlen,hi⟩:=DataW.trod_struct Tryz.underlying31 hd
 rw[show Tryz.prog.cellsOf 31=3 by kernel_rfl] at hcl
 have b1:=var_cells hg hv
 obtain ⟨csl⟩:=cs
 have c3:Tryz.prog.cellsOf 3=1:=by kernel_rfl
 have c9:Tryz.prog.cellsOf 9=1:=by kernel_rfl
 match csl,hcl with
 | [a,b,c],_ =>
  match xs,hlen with
  | [y0,y1,y2],_ =>
   have h0:=hi 0 _ rfl
   have h1:=hi 1 _ rfl
   have h2:=hi 2 _ rfl
   change DataW.trod _ Tryz.prog w _ _ _ n 3 (List.take (Tryz.prog.cellsOf 3) [a,b,c])=some y0 at h0
   change DataW.trod _ Tryz.prog w _ _ _ n 3 (List.take (Tryz.prog.cellsOf 3) [b,c])=some y1 at h1
   change DataW.trod _ Tryz.prog w _ _ _ n 9 (List.take (Tryz.prog.cellsOf 9) [c])=some y2 at h2
   rw[c3] at h0 h1
   rw[c9] at h2
   obtain ⟨k,e0,f0,_⟩:=DataW.trod_int Tryz.underlying3 h0
   obtain ⟨m,e1,f1,_⟩:=DataW.trod_int Tryz.underlying3 h1
   obtain ⟨s,e2,f2,_⟩:=DataW.trod_string Tryz.underlying9 h2
   cases e0;cases e1;cases e2
   subst f0;subst f1;subst f2
   have hq:=(Prod.mk.inj hx).1
   simp only[Rows.laid_sccsettle_eval_wrong,List.map,DataW.agg.injEq,List.cons.injEq,DataW.lit.injEq,Lit.int.injEq,Lit.string.injEq,true_and,and_true] at hq
   obtain ⟨rfl,rfl,hs⟩:=hq
   have es:s=⟨([]:List UInt8).toArray⟩:=by
    obtain ⟨⟨l⟩⟩:=s
    have:l=[]:=hs.symm
    subst this
    rfl
   subst es
   exact ⟨_,b1,.v _,.v _,.str _,trivial⟩
abbrev glX (te:TypeId) (pe:Value) (mx:Int):List (Nat×List D):=(0,lvAll)::(4,[iD mx])::glV te pe
abbrev glY (te:TypeId) (pe:Value) (mx:Int):List (Nat×List D):=wG (glX te pe mx)
theorem glY_has (te:TypeId) (pe:Value) (mx:Int):Has (glY te pe mx) (glV te pe):=by
 intro g l hl
 rw[look_cons]
 split
 ·rename_i e;subst e;exact absurd hl (by rw[show Go.EYtfkjhfdpphfjhaaGreatDoor.look (glV te pe) 1=none from rfl];simp)
 ·rw[look_cons]
  split
  ·rename_i e;subst e;exact absurd hl (by rw[show Go.EYtfkjhfdpphfjhaaGreatDoor.look (glV te pe) 0=none from rfl];simp)
  ·rw[look_cons]
   split
   ·rename_i e;subst e;exact absurd hl (by rw[show Go.EYtfkjhfdpphfjhaaGreatDoor.look (glV te pe) 4=none from rfl];simp)
   ·exact hl
end Go.Proofs.YtfkjhfdpphfjhaaGreatDoor
end
section
namespace Go.Proofs.YtfkjhfdpphfjhaaGreatDoor
open Go Go.EYtfkjhfdpphfjhaaGreatDoor
set_option maxRecDepth 100000
theorem EvalLogic_g (te:TypeId) (pe:Value) (mx:Int) (vs:List Vl) (hv:∀ v ∈ vs,inV v) (k n:Int) (s:List UInt8) (hn:okI n) (k2 n2:Int) (s2:List UInt8) (hn2:okI n2):FnP Tryz.prog (glY te pe mx) 7 [.lst 3 (vs.map vlR),vlD k n s,vlD k2 n2 s2] (.v (.bool true)) :=
 EvalLogic_d te pe (glY_has te pe mx) rfl rfl (a:=⟨k,n,s⟩) (b:=⟨k2,n2,s2⟩) (fun v h=>(hv v h).1) hn hn2
end Go.Proofs.YtfkjhfdpphfjhaaGreatDoor
end
