/- Proved: a part of what the law is proved with (the reckoner, contracts of functions, plain laws). Conditions: as each says. -/
import Derived.Test.YtfkjhfdpphfjhaaGreatDoorXDe
import Derived.Test.YtfkjhfdpphfjhaaGreatDoorXGa
namespace Go.Proofs.YtfkjhfdpphfjhaaGreatDoor
set_option maxRecDepth 100000
section
open Go Go.RowKit Go.EYtfkjhfdpphfjhaaGreatDoor
set_option maxHeartbeats 4000000
variable {gl:List (Nat×List D)}
def bxOk:Nd→Prop
 | .mk k _ _ a b _=>k=6→okP a.c a.r∧okP b.c b.r
structure KdOk (gl:List (Nat×List D)) (mk:List (Int×Int)) (mv:List Vl) (ev:Int→Int→Vl) (x:Nd):Prop where
 run:FnP Tryz.prog gl 39 [mpE mk mv,.agg (Nd.cs x)] (evN ev x).d
 ok:(evA ev x).ok
 bx:bxOk x
structure GdL (l:List (Bool×Vl)):Prop where
 ok:∀ p ∈ l,p.2.ok
 len:l.length≤600000
theorem GdL.pre {a b:List (Bool×Vl)} (h:GdL (a++b)):GdL a:=⟨fun p hp=>h.ok p (List.mem_append.2 (.inl hp)),by have:=h.len;rw[List.length_append] at this;omega⟩
theorem kids_ok {mk:List (Int×Int)} {mv:List Vl} {ev:Int→Int→Vl} {ks:List Nd} (hk:∀ x (h:x<ks.length),KdOk gl mk mv ev ks[x]):∀ a ∈ evK ev ks,a.ok:=fun a ha=>by
 rw[evK_map] at ha
 obtain ⟨n,hn,rfl⟩:=List.mem_map.1 ha
 obtain ⟨x,hx,rfl⟩:=List.getElem_of_mem hn
 exact (hk x hx).ok
theorem gd_all {ag:List Ar} (h:∀ a ∈ ag,a.ok) (hl:ag.length≤200):GdL (flA ag):=⟨flA_ok h,by have:=flA_len h;omega⟩
theorem evK_snoc (ev:Int→Int→Vl) {ks:List Nd} {x:Nat} (h:x<ks.length):flA (evK ev (ks.take (x+1)))=flA (evK ev (ks.take x))++(evA ev ks[x]).fl:=by
 rw[evK_map,evK_map,List.take_succ_eq_append_getElem h,List.map_append]
 unfold flA
 rw[List.flatMap_append]
 simp
theorem gd_take (ev:Int→Int→Vl) {ks:List Nd} (h:GdL (flA (evK ev ks))) (x:Nat):GdL (flA (evK ev (ks.take x))):=by
 have e:flA (evK ev ks)=flA (evK ev (ks.take x))++flA (evK ev (ks.drop x)):=by
  rw[evK_map,evK_map,evK_map]
  unfold flA
  rw[← List.flatMap_append,← List.map_append,List.take_append_drop]
 rw[e] at h
 exact h.pre
theorem wx {x:Nat} (h:x≤1099511627776):IntKind.i64.wrap ((x:Int)+1)=((x+1:Nat):Int):=by rw[wrapI (by omega)];rfl
theorem boxC_few {a b:Rf} (ha:okP a.c a.r) (hb:okP b.c b.r):(boxC a b).length≤1099511627776:=Nat.le_trans (boxC_len ha hb) (by decide)
theorem bad_d {v:Vl}:FnP Tryz.prog gl 107 [v.d] (.b (v.k=4) inferInstance):=IsBad_d v.k v.n v.s
def cnF (t:List UInt8) (l:List (Bool×Vl)):Nat:=l.foldl (cntS t) 0
def ctF (l:List (Bool×Vl)):Vl:=l.foldl catS ⟨2,0,[]⟩
def nuF (l:List (Bool×Vl)):Ns:=l.foldl numS ⟨[],⟨0,0,[]⟩⟩
def lgF (and:Bool) (l:List (Bool×Vl)):Lg:=l.foldl (logS and) ⟨0,⟨0,0,[]⟩,and⟩
theorem cnF_snoc (t:List UInt8) (l:List (Bool×Vl)) (p:Bool×Vl):cnF t (l++[p])=cntS t (cnF t l) p:=by unfold cnF;rw[List.foldl_append];rfl
theorem ctF_snoc (l:List (Bool×Vl)) (p:Bool×Vl):ctF (l++[p])=catS (ctF l) p:=by unfold ctF;rw[List.foldl_append];rfl
theorem nuF_snoc (l:List (Bool×Vl)) (p:Bool×Vl):nuF (l++[p])=numS (nuF l) p:=by unfold nuF;rw[List.foldl_append];rfl
theorem lgF_snoc (and:Bool) (l:List (Bool×Vl)) (p:Bool×Vl):lgF and (l++[p])=logS and (lgF and l) p:=by unfold lgF;rw[List.foldl_append];rfl
theorem lgF_k (and:Bool) (l:List (Bool×Vl)):(lgF and l).k≤l.length:=by
 have:=fold_inv (f:=logS and) (p:=fun k s=>s.k≤k) l 0 ⟨0,⟨0,0,[]⟩,and⟩ (Nat.le_refl _) fun k s p _ hs=>by
  unfold logS
  split
  ·omega
  ·unfold logO
   split
   ·omega
   ·show s.k+1≤k+1
    omega
 rw[Nat.zero_add] at this
 exact this
section
variable (te:TypeId) (pe:Value) (hV:Has gl (glV te pe))
include hV
omit hV in
theorem cn_c {t:List UInt8} (ht:t=nCOUNT∨t=nCOUNTA) {l:List (Bool×Vl)} (hl:GdL l) {v:Vl} (_hv:v.ok):Go.EYtfkjhfdpphfjhaaGreatDoor.Fn Tryz.prog gl 168 [.agg (vlC v),.c (.ptr 0 0),.c (.ptr 1 0)] (cnH t (cnF t (l))) 2 (.ret (.tup [])) (cnH t (cnF t (l++[(true,v)]))) 2 []:=by
 rw[cnF_snoc]
 exact (cn_cell (gl:=gl) ht v _ (Nat.le_trans (cntS_le t l) (Nat.le_trans hl.len (by decide))))
theorem cn_o {t:List UInt8} (ht:t=nCOUNT∨t=nCOUNTA) {l:List (Bool×Vl)} (hl:GdL l) {v:Vl} (hv:v.ok):Go.EYtfkjhfdpphfjhaaGreatDoor.Fn Tryz.prog gl 169 [.agg (vlC v),.c (.ptr 0 0),.c (.ptr 1 0)] (cnH t (cnF t (l))) 2 (.ret (.tup [])) (cnH t (cnF t (l++[(false,v)]))) 2 []:=by
 rw[cnF_snoc]
 exact (cn_other te pe hV ht hv _ (Nat.le_trans (cntS_le t l) (Nat.le_trans hl.len (by decide))))
theorem tk_cn {t:List UInt8} (ht:t=nCOUNT∨t=nCOUNTA) {mk:List (Int×Int)} {mv:List Vl} {ev:Int→Int→Vl} (hM:MapOk mk mv ev) (hev:∀ c r,(ev c r).ok) (ks:List Nd) (hk:∀ x (h:x<ks.length),KdOk gl mk mv ev ks[x]) (hlk:ks.length≤200) :
 Go.EYtfkjhfdpphfjhaaGreatDoor.Fn Tryz.prog gl 167 [.c (.d (mpE mk mv)),.c (.d (.lst 12 (Nd.csL ks))),.c (.fn 168 [(0,0),(1,0)]),.c (.fn 169 [(0,0),(1,0)])] (cnH t 0) 2 (.ret (.tup [])) (cnH t (cnF t (flA (evK ev ks)))) 2 []:=by
 have hlen:=kid_len ks
 have hall:GdL (flA (evK ev ks)):=gd_all (kids_ok hk) (by rw[evK_map,List.length_map];exact hlk)
 refine fn_of_vc (nv:=9999) (cu:=[]) fitsE mixed Tryz.func167 rfl hoB rfl rfl rfl rfl ?_
 ((repeat' ((conv=>whnf);first|exact .intro|refine G ?_|intro _|refine .mk ?_ ?_|refine H ?_|fail));all_goals conv=>whnf)
 refine ⟨{ σ:=Nat,fr:=fun x=>[(17,.c (.d (iD (x:Int))))],ks:=[1],L:=fun x=>[(1,.var [.d (iD ((cnF t (flA (evK ev (ks.take x))):Nat):Int))] 3)],ex:=0,I:=fun x=>x≤ks.length,μ:=fun x=>ks.length - x },⟨0,Nat.zero_le _,?_⟩,fun (x:Nat) hx=>?_⟩
 ·((repeat' first|exact rfl|((conv=>whnf);first|done|exact suL|refine And.intro ?_ ?_|fail));all_goals conv=>whnf)
 ·replace hx:x≤ks.length:=hx
  by_cases hlt:x<ks.length
  ·have h2:(x:Int)<((Nd.csL ks).length:Nat):=by omega
   have g1:=kid_get hlt
   obtain ⟨r1,r2,r3⟩:=hk x hlt
   have hsn:=evK_snoc ev hlt
   have hg1:=gd_take ev hall (x+1)
   have e0:=wx (x:=x) (by omega)
   rw[hsn] at hg1
   generalize ks[x]=q at *
   obtain ⟨k1,m1,t1,a1,b1,ks1⟩:=q
   change (Nd.csL ks)[((x:Nat):Int).toNat]?=some [iD k1,iD m1,.str t1,iD a1.c,iD a1.r,tD a1.fc,tD a1.fr,iD b1.c,iD b1.r,tD b1.fc,tD b1.fr,.lst 12 (Nd.csL ks1)] at g1
   by_cases h6:k1=6
   ·subst h6
    obtain ⟨q1,q2⟩:=r3 rfl
    have c1:=box_y (gl:=gl) (m:=m1) (t:=t1) (ks:=ks1) q1 q2
    have hfl:(evA ev (.mk 6 m1 t1 a1 b1 ks1)).fl=(boxC a1 b1).map fun p=>(true,ev p.1 p.2):=by
     show ((boxC a1 b1).map fun p=>ev p.1 p.2).map (fun v=>(true,v))=_
     rw[List.map_map]
     rfl
    have hcl:=boxC_few q1 q2
    rw[hfl] at hsn hg1
    clear r1 r2 r3 hfl hk hall q1 q2
    generalize boxC a1 b1=cs at *
    have hrc:(cs.map rowC).length=cs.length:=List.length_map _
    ((repeat' ((conv=>whnf);first|exact .intro|refine G ?_|intro _|refine C1 c1 ?_|(refine ⟨Int.natCast_nonneg _,_,g1,?_⟩)|refine .mk ?_ ?_|refine H ?_|fail));all_goals conv=>whnf)
    refine ⟨{ σ:=Nat,fr:=fun j=>[(30,.c (.d (iD (j:Int))))],ks:=[1],L:=fun j=>[(1,.var [.d (iD ((cnF t (flA (evK ev (ks.take x))++(cs.take j).map fun p=>(true,ev p.1 p.2)):Nat):Int))] 3)],ex:=0,I:=fun j=>j≤cs.length,μ:=fun j=>cs.length - j },⟨0,Nat.zero_le _,?_⟩,fun (j:Nat) hj=>?_⟩
    ·((repeat' first|exact rfl|((conv=>whnf);first|done|exact suL|refine And.intro ?_ ?_|fail));all_goals conv=>whnf)
     all_goals first|(rw[List.take_zero,List.map_nil,List.append_nil];first|done|exact .inr (.inl rfl))|skip
    ·replace hj:j≤cs.length:=hj
     by_cases hjl:j<cs.length
     ·have h3:(j:Int)<((cs.map rowC).length:Nat):=by omega
      have g2:=get_map (f:=rowC) hjl
      have hts:=List.take_succ_eq_append_getElem hjl
      have hgj:GdL (flA (evK ev (ks.take x))++(cs.take j).map fun p=>(true,ev p.1 p.2)):=GdL.pre (b:=(cs.drop j).map fun p=>(true,ev p.1 p.2)) (by rw[List.append_assoc,← List.map_append,List.take_append_drop];simpa using hg1)
      generalize cs[j]=p at *
      obtain ⟨pc,pr⟩:=p
      have hlk':=look_ev hM pc pr
      have hvo:=hev pc pr
      have c2:=cn_c (gl:=gl) ht hgj hvo
      have e1:=wx (x:=j) (by omega)
      have hst:flA (evK ev (ks.take x))++(cs.take (j+1)).map (fun p=>(true,ev p.1 p.2))=flA (evK ev (ks.take x))++(cs.take j).map (fun p=>(true,ev p.1 p.2))++[(true,ev pc pr)]:=by rw[hts,List.map_append,List.append_assoc];rfl
      generalize ev pc pr=w at *
      rw[← hst] at c2
      generalize hsb:cnF t (flA (evK ev (ks.take x))++(cs.take (j+1)).map (fun p=>(true,ev p.1 p.2)))=sb at c2
      rcases hlk' with ⟨i,hi⟩|⟨hi,rfl⟩
      ·((repeat' ((conv=>whnf);first|exact .intro|refine G ?_|intro _|refine C5 c2 [0,1] ?_|(first|refine ⟨Int.natCast_nonneg _,_,g2,?_⟩|refine ⟨3,⟨key_cell,rfl,keys_E _⟩,by kernel_rfl,.inl ⟨_,_,hi,?_⟩⟩)|refine .mk ?_ ?_|refine H ?_|fail));all_goals conv=>whnf)
       all_goals refine ⟨j+1,⟨hjl,by show cs.length - (j+1)<cs.length - j;omega⟩,?_⟩
       all_goals ((repeat' first|exact rfl|((conv=>whnf);first|done|exact suL|refine And.intro ?_ ?_|fail));all_goals conv=>whnf)
       all_goals first|exact ceq e1|(rw[hsb];first|done|exact .inr (.inl rfl))|skip
      ·((repeat' ((conv=>whnf);first|exact .intro|refine G ?_|intro _|refine C5 c2 [0,1] ?_|(first|refine ⟨Int.natCast_nonneg _,_,g2,?_⟩|refine ⟨3,⟨key_cell,rfl,keys_E _⟩,by kernel_rfl,.inr ⟨hi,?_⟩⟩)|refine .mk ?_ ?_|refine H ?_|fail));all_goals conv=>whnf)
       all_goals refine ⟨j+1,⟨hjl,by show cs.length - (j+1)<cs.length - j;omega⟩,?_⟩
       all_goals ((repeat' first|exact rfl|((conv=>whnf);first|done|exact suL|refine And.intro ?_ ?_|fail));all_goals conv=>whnf)
       all_goals first|exact ceq e1|(rw[hsb];first|done|exact .inr (.inl rfl))|skip
     ·have h3:¬ (j:Int)<((cs.map rowC).length:Nat):=by omega
      obtain rfl:j=cs.length:=by omega
      ((repeat' ((conv=>whnf);first|exact .intro|refine G ?_|intro _|refine .mk ?_ ?_|refine H ?_|fail));all_goals conv=>whnf)
      all_goals refine ⟨x+1,⟨hlt,by show ks.length - (x+1)<ks.length - x;omega⟩,?_⟩
      all_goals ((repeat' first|exact rfl|((conv=>whnf);first|done|exact suL|refine And.intro ?_ ?_|fail));all_goals conv=>whnf)
      all_goals first|exact ceq e0|(rw[List.take_length,hsn];first|done|exact .inr (.inl rfl))|skip
   ·have c1:=box_n (gl:=gl) (m:=m1) (t:=t1) (a:=a1) (b:=b1) (ks:=ks1) h6
    have hfl:(evA ev (.mk k1 m1 t1 a1 b1 ks1)).fl=[(false,evN ev (.mk k1 m1 t1 a1 b1 ks1))]:=by
     unfold evN
     rw[evA]
     unfold nodeA
     rw[if_neg h6]
     rfl
    have hvo:=Ar.v_ok r2
    change (evN ev (.mk k1 m1 t1 a1 b1 ks1)).ok at hvo
    rw[hfl] at hsn hg1
    have c3:=cn_o te pe hV ht (GdL.pre hg1) hvo
    clear r2 r3 hfl hk hall
    generalize evN ev (.mk k1 m1 t1 a1 b1 ks1)=w at *
    generalize hsb:cnF t (flA (evK ev (ks.take x))++[(false,w)])=sb at c3
    ((repeat' ((conv=>whnf);first|exact .intro|refine G ?_|intro _|refine C5 c3 [0,1] ?_|refine C1 c1 ?_|refine C1 r1 ?_|(refine ⟨Int.natCast_nonneg _,_,g1,?_⟩)|refine .mk ?_ ?_|refine H ?_|fail));all_goals conv=>whnf)
    all_goals refine ⟨x+1,⟨hlt,by show ks.length - (x+1)<ks.length - x;omega⟩,?_⟩
    all_goals ((repeat' first|exact rfl|((conv=>whnf);first|done|exact suL|refine And.intro ?_ ?_|fail));all_goals conv=>whnf)
    all_goals first|exact ceq e0|(rw[hsn,hsb];first|done|exact .inr (.inl rfl))|skip
  ·have h2:¬ (x:Int)<((Nd.csL ks).length:Nat):=by omega
   obtain rfl:x=ks.length:=by omega
   ((repeat' ((conv=>whnf);first|exact .intro|refine G ?_|intro _|refine .mk ?_ ?_|refine H ?_|fail));all_goals conv=>whnf)
   all_goals ((repeat' first|exact rfl|((conv=>whnf);first|done|exact suL|refine And.intro ?_ ?_|fail));all_goals conv=>whnf)
   all_goals first|(rw[List.take_length];first|done|exact .inr (.inl rfl))|skip
theorem ct_c {l:List (Bool×Vl)} (hl:GdL l) {v:Vl} (hv:v.ok):Go.EYtfkjhfdpphfjhaaGreatDoor.Fn Tryz.prog gl 170 [.agg (vlC v),.c (.ptr 0 0)] (ctH (ctF (l))) 1 (.ret (.tup [])) (ctH (ctF (l++[(true,v)]))) 1 []:=by
 rw[ctF_snoc]
 exact (ct_cell te pe hV true (catS_ok hl.ok) hv)
theorem ct_o {l:List (Bool×Vl)} (hl:GdL l) {v:Vl} (hv:v.ok):Go.EYtfkjhfdpphfjhaaGreatDoor.Fn Tryz.prog gl 170 [.agg (vlC v),.c (.ptr 0 0)] (ctH (ctF (l))) 1 (.ret (.tup [])) (ctH (ctF (l++[(false,v)]))) 1 []:=by
 rw[ctF_snoc]
 exact (ct_cell te pe hV false (catS_ok hl.ok) hv)
theorem tk_ct {mk:List (Int×Int)} {mv:List Vl} {ev:Int→Int→Vl} (hM:MapOk mk mv ev) (hev:∀ c r,(ev c r).ok) (ks:List Nd) (hk:∀ x (h:x<ks.length),KdOk gl mk mv ev ks[x]) (hlk:ks.length≤200) :
 Go.EYtfkjhfdpphfjhaaGreatDoor.Fn Tryz.prog gl 167 [.c (.d (mpE mk mv)),.c (.d (.lst 12 (Nd.csL ks))),.c (.fn 170 [(0,0)]),.c (.fn 170 [(0,0)])] (ctH ⟨2,0,[]⟩) 1 (.ret (.tup [])) (ctH (ctF (flA (evK ev ks)))) 1 []:=by
 have hlen:=kid_len ks
 have hall:GdL (flA (evK ev ks)):=gd_all (kids_ok hk) (by rw[evK_map,List.length_map];exact hlk)
 refine fn_of_vc (nv:=9999) (cu:=[]) fitsE mixed Tryz.func167 rfl hoB rfl rfl rfl rfl ?_
 ((repeat' ((conv=>whnf);first|exact .intro|refine G ?_|intro _|refine .mk ?_ ?_|refine H ?_|fail));all_goals conv=>whnf)
 refine ⟨{ σ:=Nat,fr:=fun x=>[(17,.c (.d (iD (x:Int))))],ks:=[0],L:=fun x=>[(0,vB (ctF (flA (evK ev (ks.take x)))))],ex:=0,I:=fun x=>x≤ks.length,μ:=fun x=>ks.length - x },⟨0,Nat.zero_le _,?_⟩,fun (x:Nat) hx=>?_⟩
 ·((repeat' first|exact rfl|((conv=>whnf);first|done|exact suL|refine And.intro ?_ ?_|fail));all_goals conv=>whnf)
 ·replace hx:x≤ks.length:=hx
  by_cases hlt:x<ks.length
  ·have h2:(x:Int)<((Nd.csL ks).length:Nat):=by omega
   have g1:=kid_get hlt
   obtain ⟨r1,r2,r3⟩:=hk x hlt
   have hsn:=evK_snoc ev hlt
   have hg1:=gd_take ev hall (x+1)
   have e0:=wx (x:=x) (by omega)
   rw[hsn] at hg1
   generalize ks[x]=q at *
   obtain ⟨k1,m1,t1,a1,b1,ks1⟩:=q
   change (Nd.csL ks)[((x:Nat):Int).toNat]?=some [iD k1,iD m1,.str t1,iD a1.c,iD a1.r,tD a1.fc,tD a1.fr,iD b1.c,iD b1.r,tD b1.fc,tD b1.fr,.lst 12 (Nd.csL ks1)] at g1
   by_cases h6:k1=6
   ·subst h6
    obtain ⟨q1,q2⟩:=r3 rfl
    have c1:=box_y (gl:=gl) (m:=m1) (t:=t1) (ks:=ks1) q1 q2
    have hfl:(evA ev (.mk 6 m1 t1 a1 b1 ks1)).fl=(boxC a1 b1).map fun p=>(true,ev p.1 p.2):=by
     show ((boxC a1 b1).map fun p=>ev p.1 p.2).map (fun v=>(true,v))=_
     rw[List.map_map]
     rfl
    have hcl:=boxC_few q1 q2
    rw[hfl] at hsn hg1
    clear r1 r2 r3 hfl hk hall q1 q2
    generalize boxC a1 b1=cs at *
    have hrc:(cs.map rowC).length=cs.length:=List.length_map _
    ((repeat' ((conv=>whnf);first|exact .intro|refine G ?_|intro _|refine C1 c1 ?_|(refine ⟨Int.natCast_nonneg _,_,g1,?_⟩)|refine .mk ?_ ?_|refine H ?_|fail));all_goals conv=>whnf)
    refine ⟨{ σ:=Nat,fr:=fun j=>[(30,.c (.d (iD (j:Int))))],ks:=[0],L:=fun j=>[(0,vB (ctF (flA (evK ev (ks.take x))++(cs.take j).map fun p=>(true,ev p.1 p.2))))],ex:=0,I:=fun j=>j≤cs.length,μ:=fun j=>cs.length - j },⟨0,Nat.zero_le _,?_⟩,fun (j:Nat) hj=>?_⟩
    ·((repeat' first|exact rfl|((conv=>whnf);first|done|exact suL|refine And.intro ?_ ?_|fail));all_goals conv=>whnf)
     all_goals first|(rw[List.take_zero,List.map_nil,List.append_nil];first|done|exact .inr (.inl rfl))|skip
    ·replace hj:j≤cs.length:=hj
     by_cases hjl:j<cs.length
     ·have h3:(j:Int)<((cs.map rowC).length:Nat):=by omega
      have g2:=get_map (f:=rowC) hjl
      have hts:=List.take_succ_eq_append_getElem hjl
      have hgj:GdL (flA (evK ev (ks.take x))++(cs.take j).map fun p=>(true,ev p.1 p.2)):=GdL.pre (b:=(cs.drop j).map fun p=>(true,ev p.1 p.2)) (by rw[List.append_assoc,← List.map_append,List.take_append_drop];simpa using hg1)
      generalize cs[j]=p at *
      obtain ⟨pc,pr⟩:=p
      have hlk':=look_ev hM pc pr
      have hvo:=hev pc pr
      have c2:=ct_c te pe hV hgj hvo
      have e1:=wx (x:=j) (by omega)
      have hst:flA (evK ev (ks.take x))++(cs.take (j+1)).map (fun p=>(true,ev p.1 p.2))=flA (evK ev (ks.take x))++(cs.take j).map (fun p=>(true,ev p.1 p.2))++[(true,ev pc pr)]:=by rw[hts,List.map_append,List.append_assoc];rfl
      generalize ev pc pr=w at *
      rw[← hst] at c2
      generalize hsb:ctF (flA (evK ev (ks.take x))++(cs.take (j+1)).map (fun p=>(true,ev p.1 p.2)))=sb at c2
      rcases hlk' with ⟨i,hi⟩|⟨hi,rfl⟩
      ·((repeat' ((conv=>whnf);first|exact .intro|refine G ?_|intro _|refine C5 c2 [0] ?_|(first|refine ⟨Int.natCast_nonneg _,_,g2,?_⟩|refine ⟨3,⟨key_cell,rfl,keys_E _⟩,by kernel_rfl,.inl ⟨_,_,hi,?_⟩⟩)|refine .mk ?_ ?_|refine H ?_|fail));all_goals conv=>whnf)
       all_goals refine ⟨j+1,⟨hjl,by show cs.length - (j+1)<cs.length - j;omega⟩,?_⟩
       all_goals ((repeat' first|exact rfl|((conv=>whnf);first|done|exact suL|refine And.intro ?_ ?_|fail));all_goals conv=>whnf)
       all_goals first|exact ceq e1|(rw[hsb];first|done|exact .inr (.inl rfl))|skip
      ·((repeat' ((conv=>whnf);first|exact .intro|refine G ?_|intro _|refine C5 c2 [0] ?_|(first|refine ⟨Int.natCast_nonneg _,_,g2,?_⟩|refine ⟨3,⟨key_cell,rfl,keys_E _⟩,by kernel_rfl,.inr ⟨hi,?_⟩⟩)|refine .mk ?_ ?_|refine H ?_|fail));all_goals conv=>whnf)
       all_goals refine ⟨j+1,⟨hjl,by show cs.length - (j+1)<cs.length - j;omega⟩,?_⟩
       all_goals ((repeat' first|exact rfl|((conv=>whnf);first|done|exact suL|refine And.intro ?_ ?_|fail));all_goals conv=>whnf)
       all_goals first|exact ceq e1|(rw[hsb];first|done|exact .inr (.inl rfl))|skip
     ·have h3:¬ (j:Int)<((cs.map rowC).length:Nat):=by omega
      obtain rfl:j=cs.length:=by omega
      ((repeat' ((conv=>whnf);first|exact .intro|refine G ?_|intro _|refine .mk ?_ ?_|refine H ?_|fail));all_goals conv=>whnf)
      all_goals refine ⟨x+1,⟨hlt,by show ks.length - (x+1)<ks.length - x;omega⟩,?_⟩
      all_goals ((repeat' first|exact rfl|((conv=>whnf);first|done|exact suL|refine And.intro ?_ ?_|fail));all_goals conv=>whnf)
      all_goals first|exact ceq e0|(rw[List.take_length,hsn];first|done|exact .inr (.inl rfl))|skip
   ·have c1:=box_n (gl:=gl) (m:=m1) (t:=t1) (a:=a1) (b:=b1) (ks:=ks1) h6
    have hfl:(evA ev (.mk k1 m1 t1 a1 b1 ks1)).fl=[(false,evN ev (.mk k1 m1 t1 a1 b1 ks1))]:=by
     unfold evN
     rw[evA]
     unfold nodeA
     rw[if_neg h6]
     rfl
    have hvo:=Ar.v_ok r2
    change (evN ev (.mk k1 m1 t1 a1 b1 ks1)).ok at hvo
    rw[hfl] at hsn hg1
    have c3:=ct_o te pe hV (GdL.pre hg1) hvo
    clear r2 r3 hfl hk hall
    generalize evN ev (.mk k1 m1 t1 a1 b1 ks1)=w at *
    generalize hsb:ctF (flA (evK ev (ks.take x))++[(false,w)])=sb at c3
    ((repeat' ((conv=>whnf);first|exact .intro|refine G ?_|intro _|refine C5 c3 [0] ?_|refine C1 c1 ?_|refine C1 r1 ?_|(refine ⟨Int.natCast_nonneg _,_,g1,?_⟩)|refine .mk ?_ ?_|refine H ?_|fail));all_goals conv=>whnf)
    all_goals refine ⟨x+1,⟨hlt,by show ks.length - (x+1)<ks.length - x;omega⟩,?_⟩
    all_goals ((repeat' first|exact rfl|((conv=>whnf);first|done|exact suL|refine And.intro ?_ ?_|fail));all_goals conv=>whnf)
    all_goals first|exact ceq e0|(rw[hsn,hsb];first|done|exact .inr (.inl rfl))|skip
  ·have h2:¬ (x:Int)<((Nd.csL ks).length:Nat):=by omega
   obtain rfl:x=ks.length:=by omega
   ((repeat' ((conv=>whnf);first|exact .intro|refine G ?_|intro _|refine .mk ?_ ?_|refine H ?_|fail));all_goals conv=>whnf)
   all_goals ((repeat' first|exact rfl|((conv=>whnf);first|done|exact suL|refine And.intro ?_ ?_|fail));all_goals conv=>whnf)
   all_goals first|(rw[List.take_length];first|done|exact .inr (.inl rfl))|skip
theorem nu_c {l:List (Bool×Vl)} (hl:GdL l) {v:Vl} (hv:v.ok):Go.EYtfkjhfdpphfjhaaGreatDoor.Fn Tryz.prog gl 173 [.agg (vlC v),.c (.ptr 3 0)] (nuH (nuF (l))) 4 (.ret (.tup [])) (nuH (nuF (l++[(true,v)]))) 4 [2]:=by
 rw[nuF_snoc]
 exact (nu_cell te pe hV hv (Nat.le_trans (numS_inv hl.ok).1.2 (Nat.le_trans hl.len (by decide))))
theorem nu_o {l:List (Bool×Vl)} (hl:GdL l) {v:Vl} (hv:v.ok):Go.EYtfkjhfdpphfjhaaGreatDoor.Fn Tryz.prog gl 172 [.agg (vlC v),.c (.ptr 0 0),.c (.ptr 1 0)] (nuH (nuF (l))) 4 (.ret (.tup [])) (nuH (nuF (l++[(false,v)]))) 4 [2]:=by
 rw[nuF_snoc]
 exact (nu_other te pe hV hv (Nat.le_trans (numS_inv hl.ok).1.2 (Nat.le_trans hl.len (by decide))))
theorem tk_nu {mk:List (Int×Int)} {mv:List Vl} {ev:Int→Int→Vl} (hM:MapOk mk mv ev) (hev:∀ c r,(ev c r).ok) (ks:List Nd) (hk:∀ x (h:x<ks.length),KdOk gl mk mv ev ks[x]) (hlk:ks.length≤200) :
 Go.EYtfkjhfdpphfjhaaGreatDoor.Fn Tryz.prog gl 167 [.c (.d (mpE mk mv)),.c (.d (.lst 12 (Nd.csL ks))),.c (.fn 173 [(3,0)]),.c (.fn 172 [(0,0),(1,0)])] (nuH ⟨[],⟨0,0,[]⟩⟩) 4 (.ret (.tup [])) (nuH (nuF (flA (evK ev ks)))) 4 [2]:=by
 have hlen:=kid_len ks
 have hall:GdL (flA (evK ev ks)):=gd_all (kids_ok hk) (by rw[evK_map,List.length_map];exact hlk)
 refine fn_of_vc (nv:=9999) (cu:=[]) fitsE mixed Tryz.func167 rfl hoB rfl rfl rfl rfl ?_
 ((repeat' ((conv=>whnf);first|exact .intro|refine G ?_|intro _|refine .mk ?_ ?_|refine H ?_|fail));all_goals conv=>whnf)
 refine ⟨{ σ:=Nat,fr:=fun x=>[(17,.c (.d (iD (x:Int))))],ks:=[0,2],L:=fun x=>[(0,vB (nuF (flA (evK ev (ks.take x)))).bad),(2,.rows 1 ((nuF (flA (evK ev (ks.take x)))).all.map iR) 3)],ex:=0,I:=fun x=>x≤ks.length,μ:=fun x=>ks.length - x },⟨0,Nat.zero_le _,?_⟩,fun (x:Nat) hx=>?_⟩
 ·((repeat' first|exact rfl|((conv=>whnf);first|done|exact suL|refine And.intro ?_ ?_|fail));all_goals conv=>whnf)
 ·replace hx:x≤ks.length:=hx
  by_cases hlt:x<ks.length
  ·have h2:(x:Int)<((Nd.csL ks).length:Nat):=by omega
   have g1:=kid_get hlt
   obtain ⟨r1,r2,r3⟩:=hk x hlt
   have hsn:=evK_snoc ev hlt
   have hg1:=gd_take ev hall (x+1)
   have e0:=wx (x:=x) (by omega)
   rw[hsn] at hg1
   generalize ks[x]=q at *
   obtain ⟨k1,m1,t1,a1,b1,ks1⟩:=q
   change (Nd.csL ks)[((x:Nat):Int).toNat]?=some [iD k1,iD m1,.str t1,iD a1.c,iD a1.r,tD a1.fc,tD a1.fr,iD b1.c,iD b1.r,tD b1.fc,tD b1.fr,.lst 12 (Nd.csL ks1)] at g1
   by_cases h6:k1=6
   ·subst h6
    obtain ⟨q1,q2⟩:=r3 rfl
    have c1:=box_y (gl:=gl) (m:=m1) (t:=t1) (ks:=ks1) q1 q2
    have hfl:(evA ev (.mk 6 m1 t1 a1 b1 ks1)).fl=(boxC a1 b1).map fun p=>(true,ev p.1 p.2):=by
     show ((boxC a1 b1).map fun p=>ev p.1 p.2).map (fun v=>(true,v))=_
     rw[List.map_map]
     rfl
    have hcl:=boxC_few q1 q2
    rw[hfl] at hsn hg1
    clear r1 r2 r3 hfl hk hall q1 q2
    generalize boxC a1 b1=cs at *
    have hrc:(cs.map rowC).length=cs.length:=List.length_map _
    ((repeat' ((conv=>whnf);first|exact .intro|refine G ?_|intro _|refine C1 c1 ?_|(refine ⟨Int.natCast_nonneg _,_,g1,?_⟩)|refine .mk ?_ ?_|refine H ?_|fail));all_goals conv=>whnf)
    refine ⟨{ σ:=Nat,fr:=fun j=>[(30,.c (.d (iD (j:Int))))],ks:=[0,2],L:=fun j=>[(0,vB (nuF (flA (evK ev (ks.take x))++(cs.take j).map fun p=>(true,ev p.1 p.2))).bad),(2,.rows 1 ((nuF (flA (evK ev (ks.take x))++(cs.take j).map fun p=>(true,ev p.1 p.2))).all.map iR) 3)],ex:=0,I:=fun j=>j≤cs.length,μ:=fun j=>cs.length - j },⟨0,Nat.zero_le _,?_⟩,fun (j:Nat) hj=>?_⟩
    ·((repeat' first|exact rfl|((conv=>whnf);first|done|exact suL|refine And.intro ?_ ?_|fail));all_goals conv=>whnf)
     all_goals first|(rw[List.take_zero,List.map_nil,List.append_nil];first|done|exact .inr (.inl rfl))|skip
    ·replace hj:j≤cs.length:=hj
     by_cases hjl:j<cs.length
     ·have h3:(j:Int)<((cs.map rowC).length:Nat):=by omega
      have g2:=get_map (f:=rowC) hjl
      have hts:=List.take_succ_eq_append_getElem hjl
      have hgj:GdL (flA (evK ev (ks.take x))++(cs.take j).map fun p=>(true,ev p.1 p.2)):=GdL.pre (b:=(cs.drop j).map fun p=>(true,ev p.1 p.2)) (by rw[List.append_assoc,← List.map_append,List.take_append_drop];simpa using hg1)
      generalize cs[j]=p at *
      obtain ⟨pc,pr⟩:=p
      have hlk':=look_ev hM pc pr
      have hvo:=hev pc pr
      have c2:=nu_c te pe hV hgj hvo
      have e1:=wx (x:=j) (by omega)
      have hst:flA (evK ev (ks.take x))++(cs.take (j+1)).map (fun p=>(true,ev p.1 p.2))=flA (evK ev (ks.take x))++(cs.take j).map (fun p=>(true,ev p.1 p.2))++[(true,ev pc pr)]:=by rw[hts,List.map_append,List.append_assoc];rfl
      generalize ev pc pr=w at *
      rw[← hst] at c2
      generalize hsb:nuF (flA (evK ev (ks.take x))++(cs.take (j+1)).map (fun p=>(true,ev p.1 p.2)))=sb at c2
      rcases hlk' with ⟨i,hi⟩|⟨hi,rfl⟩
      ·((repeat' ((conv=>whnf);first|exact .intro|refine G ?_|intro _|refine C5 c2 [0,1,2,3] ?_|(first|refine ⟨Int.natCast_nonneg _,_,g2,?_⟩|refine ⟨3,⟨key_cell,rfl,keys_E _⟩,by kernel_rfl,.inl ⟨_,_,hi,?_⟩⟩)|refine .mk ?_ ?_|refine H ?_|fail));all_goals conv=>whnf)
       all_goals refine ⟨j+1,⟨hjl,by show cs.length - (j+1)<cs.length - j;omega⟩,?_⟩
       all_goals ((repeat' first|exact rfl|((conv=>whnf);first|done|exact suL|refine And.intro ?_ ?_|fail));all_goals conv=>whnf)
       all_goals first|exact ceq e1|(rw[hsb];first|done|exact .inr (.inl rfl))|skip
      ·((repeat' ((conv=>whnf);first|exact .intro|refine G ?_|intro _|refine C5 c2 [0,1,2,3] ?_|(first|refine ⟨Int.natCast_nonneg _,_,g2,?_⟩|refine ⟨3,⟨key_cell,rfl,keys_E _⟩,by kernel_rfl,.inr ⟨hi,?_⟩⟩)|refine .mk ?_ ?_|refine H ?_|fail));all_goals conv=>whnf)
       all_goals refine ⟨j+1,⟨hjl,by show cs.length - (j+1)<cs.length - j;omega⟩,?_⟩
       all_goals ((repeat' first|exact rfl|((conv=>whnf);first|done|exact suL|refine And.intro ?_ ?_|fail));all_goals conv=>whnf)
       all_goals first|exact ceq e1|(rw[hsb];first|done|exact .inr (.inl rfl))|skip
     ·have h3:¬ (j:Int)<((cs.map rowC).length:Nat):=by omega
      obtain rfl:j=cs.length:=by omega
      ((repeat' ((conv=>whnf);first|exact .intro|refine G ?_|intro _|refine .mk ?_ ?_|refine H ?_|fail));all_goals conv=>whnf)
      all_goals refine ⟨x+1,⟨hlt,by show ks.length - (x+1)<ks.length - x;omega⟩,?_⟩
      all_goals ((repeat' first|exact rfl|((conv=>whnf);first|done|exact suL|refine And.intro ?_ ?_|fail));all_goals conv=>whnf)
      all_goals first|exact ceq e0|(rw[List.take_length,hsn];first|done|exact .inr (.inl rfl))|skip
   ·have c1:=box_n (gl:=gl) (m:=m1) (t:=t1) (a:=a1) (b:=b1) (ks:=ks1) h6
    have hfl:(evA ev (.mk k1 m1 t1 a1 b1 ks1)).fl=[(false,evN ev (.mk k1 m1 t1 a1 b1 ks1))]:=by
     unfold evN
     rw[evA]
     unfold nodeA
     rw[if_neg h6]
     rfl
    have hvo:=Ar.v_ok r2
    change (evN ev (.mk k1 m1 t1 a1 b1 ks1)).ok at hvo
    rw[hfl] at hsn hg1
    have c3:=nu_o te pe hV (GdL.pre hg1) hvo
    clear r2 r3 hfl hk hall
    generalize evN ev (.mk k1 m1 t1 a1 b1 ks1)=w at *
    generalize hsb:nuF (flA (evK ev (ks.take x))++[(false,w)])=sb at c3
    ((repeat' ((conv=>whnf);first|exact .intro|refine G ?_|intro _|refine C5 c3 [0,1,2,3] ?_|refine C1 c1 ?_|refine C1 r1 ?_|(refine ⟨Int.natCast_nonneg _,_,g1,?_⟩)|refine .mk ?_ ?_|refine H ?_|fail));all_goals conv=>whnf)
    all_goals refine ⟨x+1,⟨hlt,by show ks.length - (x+1)<ks.length - x;omega⟩,?_⟩
    all_goals ((repeat' first|exact rfl|((conv=>whnf);first|done|exact suL|refine And.intro ?_ ?_|fail));all_goals conv=>whnf)
    all_goals first|exact ceq e0|(rw[hsn,hsb];first|done|exact .inr (.inl rfl))|skip
  ·have h2:¬ (x:Int)<((Nd.csL ks).length:Nat):=by omega
   obtain rfl:x=ks.length:=by omega
   ((repeat' ((conv=>whnf);first|exact .intro|refine G ?_|intro _|refine .mk ?_ ?_|refine H ?_|fail));all_goals conv=>whnf)
   all_goals ((repeat' first|exact rfl|((conv=>whnf);first|done|exact suL|refine And.intro ?_ ?_|fail));all_goals conv=>whnf)
   all_goals first|(rw[List.take_length];first|done|exact .inr (.inl rfl))|skip
theorem lg_c (and:Bool) {l:List (Bool×Vl)} (hl:GdL l) {v:Vl} (hv:v.ok):Go.EYtfkjhfdpphfjhaaGreatDoor.Fn Tryz.prog gl 215 [.agg (vlC v),.c (.ptr 4 0)] (lgH and (lgF and (l))) 5 (.ret (.tup [])) (lgH and (lgF and (l++[(true,v)]))) 5 []:=by
 rw[lgF_snoc]
 exact (lg_cell te pe hV and hv (Nat.le_trans (lgF_k and l) (Nat.le_trans hl.len (by decide))))
theorem lg_o (and:Bool) {l:List (Bool×Vl)} (hl:GdL l) {v:Vl} (hv:v.ok):Go.EYtfkjhfdpphfjhaaGreatDoor.Fn Tryz.prog gl 213 [.agg (vlC v),.c (.ptr 0 0),.c (.ptr 1 0),.c (.ptr 2 0),.c (.ptr 3 0)] (lgH and (lgF and (l))) 5 (.ret (.tup [])) (lgH and (lgF and (l++[(false,v)]))) 5 []:=by
 rw[lgF_snoc]
 exact (lg_other te pe hV and hv (Nat.le_trans (lgF_k and l) (Nat.le_trans hl.len (by decide))))
theorem tk_lg (and:Bool) {mk:List (Int×Int)} {mv:List Vl} {ev:Int→Int→Vl} (hM:MapOk mk mv ev) (hev:∀ c r,(ev c r).ok) (ks:List Nd) (hk:∀ x (h:x<ks.length),KdOk gl mk mv ev ks[x]) (hlk:ks.length≤200) :
 Go.EYtfkjhfdpphfjhaaGreatDoor.Fn Tryz.prog gl 167 [.c (.d (mpE mk mv)),.c (.d (.lst 12 (Nd.csL ks))),.c (.fn 215 [(4,0)]),.c (.fn 213 [(0,0),(1,0),(2,0),(3,0)])] (lgH and ⟨0,⟨0,0,[]⟩,and⟩) 5 (.ret (.tup [])) (lgH and (lgF and (flA (evK ev ks)))) 5 []:=by
 have hlen:=kid_len ks
 have hall:GdL (flA (evK ev ks)):=gd_all (kids_ok hk) (by rw[evK_map,List.length_map];exact hlk)
 refine fn_of_vc (nv:=9999) (cu:=[]) fitsE mixed Tryz.func167 rfl hoB rfl rfl rfl rfl ?_
 ((repeat' ((conv=>whnf);first|exact .intro|refine G ?_|intro _|refine .mk ?_ ?_|refine H ?_|fail));all_goals conv=>whnf)
 refine ⟨{ σ:=Nat,fr:=fun x=>[(17,.c (.d (iD (x:Int))))],ks:=[0,1,3],L:=fun x=>[(0,vB (lgF and (flA (evK ev (ks.take x)))).bad),(1,.var [.d (iD ((lgF and (flA (evK ev (ks.take x)))).k:Int))] 3),(3,.var [.d (.v (.bool (lgF and (flA (evK ev (ks.take x)))).out))] 4)],ex:=0,I:=fun x=>x≤ks.length,μ:=fun x=>ks.length - x },⟨0,Nat.zero_le _,?_⟩,fun (x:Nat) hx=>?_⟩
 ·((repeat' first|exact rfl|((conv=>whnf);first|done|exact suL|refine And.intro ?_ ?_|fail));all_goals conv=>whnf)
 ·replace hx:x≤ks.length:=hx
  by_cases hlt:x<ks.length
  ·have h2:(x:Int)<((Nd.csL ks).length:Nat):=by omega
   have g1:=kid_get hlt
   obtain ⟨r1,r2,r3⟩:=hk x hlt
   have hsn:=evK_snoc ev hlt
   have hg1:=gd_take ev hall (x+1)
   have e0:=wx (x:=x) (by omega)
   rw[hsn] at hg1
   generalize ks[x]=q at *
   obtain ⟨k1,m1,t1,a1,b1,ks1⟩:=q
   change (Nd.csL ks)[((x:Nat):Int).toNat]?=some [iD k1,iD m1,.str t1,iD a1.c,iD a1.r,tD a1.fc,tD a1.fr,iD b1.c,iD b1.r,tD b1.fc,tD b1.fr,.lst 12 (Nd.csL ks1)] at g1
   by_cases h6:k1=6
   ·subst h6
    obtain ⟨q1,q2⟩:=r3 rfl
    have c1:=box_y (gl:=gl) (m:=m1) (t:=t1) (ks:=ks1) q1 q2
    have hfl:(evA ev (.mk 6 m1 t1 a1 b1 ks1)).fl=(boxC a1 b1).map fun p=>(true,ev p.1 p.2):=by
     show ((boxC a1 b1).map fun p=>ev p.1 p.2).map (fun v=>(true,v))=_
     rw[List.map_map]
     rfl
    have hcl:=boxC_few q1 q2
    rw[hfl] at hsn hg1
    clear r1 r2 r3 hfl hk hall q1 q2
    generalize boxC a1 b1=cs at *
    have hrc:(cs.map rowC).length=cs.length:=List.length_map _
    ((repeat' ((conv=>whnf);first|exact .intro|refine G ?_|intro _|refine C1 c1 ?_|(refine ⟨Int.natCast_nonneg _,_,g1,?_⟩)|refine .mk ?_ ?_|refine H ?_|fail));all_goals conv=>whnf)
    refine ⟨{ σ:=Nat,fr:=fun j=>[(30,.c (.d (iD (j:Int))))],ks:=[0,1,3],L:=fun j=>[(0,vB (lgF and (flA (evK ev (ks.take x))++(cs.take j).map fun p=>(true,ev p.1 p.2))).bad),(1,.var [.d (iD ((lgF and (flA (evK ev (ks.take x))++(cs.take j).map fun p=>(true,ev p.1 p.2))).k:Int))] 3),(3,.var [.d (.v (.bool (lgF and (flA (evK ev (ks.take x))++(cs.take j).map fun p=>(true,ev p.1 p.2))).out))] 4)],ex:=0,I:=fun j=>j≤cs.length,μ:=fun j=>cs.length - j },⟨0,Nat.zero_le _,?_⟩,fun (j:Nat) hj=>?_⟩
    ·((repeat' first|exact rfl|((conv=>whnf);first|done|exact suL|refine And.intro ?_ ?_|fail));all_goals conv=>whnf)
     all_goals first|(rw[List.take_zero,List.map_nil,List.append_nil];first|done|exact .inr (.inl rfl))|skip
    ·replace hj:j≤cs.length:=hj
     by_cases hjl:j<cs.length
     ·have h3:(j:Int)<((cs.map rowC).length:Nat):=by omega
      have g2:=get_map (f:=rowC) hjl
      have hts:=List.take_succ_eq_append_getElem hjl
      have hgj:GdL (flA (evK ev (ks.take x))++(cs.take j).map fun p=>(true,ev p.1 p.2)):=GdL.pre (b:=(cs.drop j).map fun p=>(true,ev p.1 p.2)) (by rw[List.append_assoc,← List.map_append,List.take_append_drop];simpa using hg1)
      generalize cs[j]=p at *
      obtain ⟨pc,pr⟩:=p
      have hlk':=look_ev hM pc pr
      have hvo:=hev pc pr
      have c2:=lg_c te pe hV and hgj hvo
      have e1:=wx (x:=j) (by omega)
      have hst:flA (evK ev (ks.take x))++(cs.take (j+1)).map (fun p=>(true,ev p.1 p.2))=flA (evK ev (ks.take x))++(cs.take j).map (fun p=>(true,ev p.1 p.2))++[(true,ev pc pr)]:=by rw[hts,List.map_append,List.append_assoc];rfl
      generalize ev pc pr=w at *
      rw[← hst] at c2
      generalize hsb:lgF and (flA (evK ev (ks.take x))++(cs.take (j+1)).map (fun p=>(true,ev p.1 p.2)))=sb at c2
      rcases hlk' with ⟨i,hi⟩|⟨hi,rfl⟩
      ·((repeat' ((conv=>whnf);first|exact .intro|refine G ?_|intro _|refine C5 c2 [0,1,2,3,4] ?_|(first|refine ⟨Int.natCast_nonneg _,_,g2,?_⟩|refine ⟨3,⟨key_cell,rfl,keys_E _⟩,by kernel_rfl,.inl ⟨_,_,hi,?_⟩⟩)|refine .mk ?_ ?_|refine H ?_|fail));all_goals conv=>whnf)
       all_goals refine ⟨j+1,⟨hjl,by show cs.length - (j+1)<cs.length - j;omega⟩,?_⟩
       all_goals ((repeat' first|exact rfl|((conv=>whnf);first|done|exact suL|refine And.intro ?_ ?_|fail));all_goals conv=>whnf)
       all_goals first|exact ceq e1|(rw[hsb];first|done|exact .inr (.inl rfl))|skip
      ·((repeat' ((conv=>whnf);first|exact .intro|refine G ?_|intro _|refine C5 c2 [0,1,2,3,4] ?_|(first|refine ⟨Int.natCast_nonneg _,_,g2,?_⟩|refine ⟨3,⟨key_cell,rfl,keys_E _⟩,by kernel_rfl,.inr ⟨hi,?_⟩⟩)|refine .mk ?_ ?_|refine H ?_|fail));all_goals conv=>whnf)
       all_goals refine ⟨j+1,⟨hjl,by show cs.length - (j+1)<cs.length - j;omega⟩,?_⟩
       all_goals ((repeat' first|exact rfl|((conv=>whnf);first|done|exact suL|refine And.intro ?_ ?_|fail));all_goals conv=>whnf)
       all_goals first|exact ceq e1|(rw[hsb];first|done|exact .inr (.inl rfl))|skip
     ·have h3:¬ (j:Int)<((cs.map rowC).length:Nat):=by omega
      obtain rfl:j=cs.length:=by omega
      ((repeat' ((conv=>whnf);first|exact .intro|refine G ?_|intro _|refine .mk ?_ ?_|refine H ?_|fail));all_goals conv=>whnf)
      all_goals refine ⟨x+1,⟨hlt,by show ks.length - (x+1)<ks.length - x;omega⟩,?_⟩
      all_goals ((repeat' first|exact rfl|((conv=>whnf);first|done|exact suL|refine And.intro ?_ ?_|fail));all_goals conv=>whnf)
      all_goals first|exact ceq e0|(rw[List.take_length,hsn];first|done|exact .inr (.inl rfl))|skip
   ·have c1:=box_n (gl:=gl) (m:=m1) (t:=t1) (a:=a1) (b:=b1) (ks:=ks1) h6
    have hfl:(evA ev (.mk k1 m1 t1 a1 b1 ks1)).fl=[(false,evN ev (.mk k1 m1 t1 a1 b1 ks1))]:=by
     unfold evN
     rw[evA]
     unfold nodeA
     rw[if_neg h6]
     rfl
    have hvo:=Ar.v_ok r2
    change (evN ev (.mk k1 m1 t1 a1 b1 ks1)).ok at hvo
    rw[hfl] at hsn hg1
    have c3:=lg_o te pe hV and (GdL.pre hg1) hvo
    clear r2 r3 hfl hk hall
    generalize evN ev (.mk k1 m1 t1 a1 b1 ks1)=w at *
    generalize hsb:lgF and (flA (evK ev (ks.take x))++[(false,w)])=sb at c3
    ((repeat' ((conv=>whnf);first|exact .intro|refine G ?_|intro _|refine C5 c3 [0,1,2,3,4] ?_|refine C1 c1 ?_|refine C1 r1 ?_|(refine ⟨Int.natCast_nonneg _,_,g1,?_⟩)|refine .mk ?_ ?_|refine H ?_|fail));all_goals conv=>whnf)
    all_goals refine ⟨x+1,⟨hlt,by show ks.length - (x+1)<ks.length - x;omega⟩,?_⟩
    all_goals ((repeat' first|exact rfl|((conv=>whnf);first|done|exact suL|refine And.intro ?_ ?_|fail));all_goals conv=>whnf)
    all_goals first|exact ceq e0|(rw[hsn,hsb];first|done|exact .inr (.inl rfl))|skip
  ·have h2:¬ (x:Int)<((Nd.csL ks).length:Nat):=by omega
   obtain rfl:x=ks.length:=by omega
   ((repeat' ((conv=>whnf);first|exact .intro|refine G ?_|intro _|refine .mk ?_ ?_|refine H ?_|fail));all_goals conv=>whnf)
   all_goals ((repeat' first|exact rfl|((conv=>whnf);first|done|exact suL|refine And.intro ?_ ?_|fail));all_goals conv=>whnf)
   all_goals first|(rw[List.take_length];first|done|exact .inr (.inl rfl))|skip
end
end
section
open Go Go.EYtfkjhfdpphfjhaaGreatDoor
variable {gl:List (Nat×List D)}
theorem FnP.more {P:Program} {gl gl':List (Nat×List D)} {f:Nat} {ds:List D} {r:D} (hs:∀ g l,Go.EYtfkjhfdpphfjhaaGreatDoor.look gl g=some l→Go.EYtfkjhfdpphfjhaaGreatDoor.look gl' g=some l) (h:FnP P gl f ds r):FnP P gl' f ds r :=
 fun w M xs hM hg hd=>h w M xs hM (fun g l hl=>hg g l (hs g l hl)) hd
theorem Neg_v (te:TypeId) (pe:Value) {v:Vl} (hv:v.ok):FnP Tryz.prog (glV te pe) 64 [v.d] (twoV 9 ⟨1,0,[]⟩ v).d:=by
 have h:=Two_v te pe 9 (a:=⟨1,0,[]⟩) ⟨.inr (.inl ⟨rfl,rfl⟩),by decide⟩ hv
 refine S0 Tryz.func64 rfl ?_
 ((repeat' ((conv=>whnf);first|exact .intro|refine G ?_|intro _|refine C1 (Num_d _) ?_|refine C1 h ?_|refine .mk ?_ ?_|refine H ?_|fail));all_goals conv=>whnf)
 exact LeD.rfl
end
end Go.Proofs.YtfkjhfdpphfjhaaGreatDoor
