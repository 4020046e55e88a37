/- Proved: a part of what the law is proved with (the reckoner, contracts of functions, plain laws). Conditions: as each says. -/
import Derived.Test.YtdpigpahfiachaaGreatDoorZBi
import Derived.Test.YtdpigpahfiachaaGreatDoorZEs
import Derived.Test.YtdpigpahfiachaaGreatDoorZFv
import Derived.Test.YtdpigpahfiachaaGreatDoorZGb
section
namespace Go.Proofs.YtdpigpahfiachaaGreatDoor
open Go Go.EYtdpigpahfiachaaGreatDoor
set_option maxRecDepth 100000
variable {gl:List (Nat×List D)}
theorem dl_inv3 {t l:List UInt8} {b:Bool} (h:dl t=(b,l)):(t=36::l∧b=true)∨(t=l∧l.head?≠some 36∧b=false):=by
 cases t with
 | nil=>cases h;exact .inr ⟨rfl,by simp,rfl⟩
 | cons a s =>
  by_cases ha:a=36
  ·simp only[dl,if_pos ha,Prod.mk.injEq] at h;left;rw[ha,h.2];exact ⟨rfl,h.1.symm⟩
  ·simp only[dl,if_neg ha,Prod.mk.injEq] at h;right;obtain ⟨h1,h2⟩:=h;subst h2;exact ⟨rfl,fun e=>ha (Option.some.inj e),h1.symm⟩
theorem rRef_s {s t l:List UInt8} {b b':Bool} {ch:UInt8} {n:Int} (h:dl s=(b,ch::t)) (hc:65≤ch.toNat∧ch.toNat≤90) (h':dl t=(b',l)) (hW:FnP Tryz.prog gl 139 [.str l,fD] (.tup [iD n,.v (.bool true)])) (hn:1≤n∧n≤99) :
 FnP Tryz.prog gl 140 [.str s] (.tup [refD ((ch.toNat - 64:Nat):Int) n b b',tD true]):=by
 rcases dl_inv2 h with ⟨rfl,rfl⟩|⟨rfl,h36,rfl⟩ <;> rcases dl_inv3 h' with ⟨rfl,rfl⟩|⟨rfl,hl,rfl⟩
 ·exact rRef_As hc hW hn
 ·exact rRef_Bs hc hl hW hn
 ·exact rRef_Cs hc h36 hW hn
 ·exact rRef_Ds hc h36 hl hW hn
theorem rRef_n {s t l:List UInt8} {b b':Bool} {ch:UInt8} {n:Int} (h:dl s=(b,ch::t)) (hc:65≤ch.toNat∧ch.toNat≤90) (h':dl t=(b',l)) (hW:FnP Tryz.prog gl 139 [.str l,fD] (.tup [iD n,.v (.bool true)])) (hn:n<1∨99<n) :
 FnP Tryz.prog gl 140 [.str s] rrBad:=by
 rcases dl_inv2 h with ⟨rfl,rfl⟩|⟨rfl,h36,rfl⟩ <;> rcases dl_inv3 h' with ⟨rfl,rfl⟩|⟨rfl,hl,rfl⟩
 ·exact rRef_An hc hW hn
 ·exact rRef_Bn hc hl hW hn
 ·exact rRef_Cn hc h36 hW hn
 ·exact rRef_Dn hc h36 hl hW hn
theorem rRef_f {s t l:List UInt8} {b b':Bool} {ch:UInt8} (h:dl s=(b,ch::t)) (hc:65≤ch.toNat∧ch.toNat≤90) (h':dl t=(b',l)) (hW:FnP Tryz.prog gl 139 [.str l,fD] (.tup [iD 0,fD])) :
 FnP Tryz.prog gl 140 [.str s] rrBad:=by
 rcases dl_inv2 h with ⟨rfl,rfl⟩|⟨rfl,h36,rfl⟩ <;> rcases dl_inv3 h' with ⟨rfl,rfl⟩|⟨rfl,hl,rfl⟩
 ·exact rRef_Af hc hW
 ·exact rRef_Bf hc hl hW
 ·exact rRef_Cf hc h36 hW
 ·exact rRef_Df hc h36 hl hW
theorem refWhole_e:FnP Tryz.prog gl 139 [.str [],fD] (.tup [iD 0,fD]):=by
 refine fnP_of_vc (nv:=9999) (cu:=[]) fits mixed Tryz.func139 rfl hoB rfl ?_
 ((repeat' ((conv=>whnf);first|exact .intro|refine .ya ?_|refine .na ?_|refine .ys ?_|refine .ns ?_|refine .neg (fun _=>?_) (fun _=>?_)|refine .mk (fun _=>?_) (fun _=>?_)|refine .mk ?_ ?_|refine AK ?_|refine AT ?_|fail));all_goals conv=>whnf)
 exact LeD.rfl
theorem refWhole_z {l:List UInt8} (h:l≠[]):FnP Tryz.prog gl 139 [.str (48::l),fD] (.tup [iD 0,fD]):=by
 have h1:(((48::l).getD (Int.toNat 0) 0).toNat:Int)=48:=rfl
 have h2:¬ 48::l=(⟨#[48]⟩:ByteArray).data.toList:=fun e=>h (List.cons.inj e).2
 refine fnP_of_vc (nv:=9999) (cu:=[]) fits mixed Tryz.func139 rfl hoB rfl ?_
 ((repeat' ((conv=>whnf);first|exact .intro|refine .ya ?_|refine .na ?_|refine .ys ?_|refine .ns ?_|refine .neg (fun _=>?_) (fun _=>?_)|refine .mk (fun _=>?_) (fun _=>?_)|refine .mk ?_ ?_|refine AK ?_|refine AT ?_|fail));all_goals conv=>whnf)
 exact LeD.rfl
theorem rv_ge {l:List UInt8} (h0:l≠[]) (h48:l.head?≠some 48) (hd:∀ d ∈ l,isDig d):∀ k,k<l.length→10 ^ k≤rv l (k+1)
 | 0,h=>by
  obtain ⟨a,l,rfl⟩:=List.exists_cons_of_ne_nil h0
  rw[rv_succ h]
  have h1:a≠48:=fun e=>h48 (congrArg some e)
  have h2:=hd a (List.mem_cons_self ..)
  have h3:a.toNat≠48:=fun e=>h1 (UInt8.toNat_inj.1 e)
  show 1≤0 * 10+(a.toNat - 48)
  obtain ⟨h4,h5⟩:=h2
  omega
 | k+1,h=>by
  have:=rv_ge h0 h48 hd k (by omega)
  rw[rv_succ h,Nat.pow_succ];omega
theorem ref_both (s:List UInt8) (hs:s.length≤140737488355328) :
 (∃ (c r:Int) (fc fr:Bool),okP c r∧FnP Tryz.prog gl 140 [.str s] (.tup [refD c r fc fr,tD true])∧FnP Tryz.prog gl 205 [.str s] (.tup [refD c r fc fr,errD 0]))∨
 (FnP Tryz.prog gl 140 [.str s] rrBad∧FnP Tryz.prog gl 205 [.str s] refBad):=by
 obtain ⟨b,t0,h⟩:∃ b t0,dl s=(b,t0):=⟨_,_,rfl⟩
 cases t0 with
 | nil=>exact .inr ⟨rRef_1 h,Ref_1 h⟩
 | cons ch t =>
  by_cases hc:65≤ch.toNat∧ch.toNat≤90
  ·obtain ⟨b',l,h'⟩:∃ b' l,dl t=(b',l):=⟨_,_,rfl⟩
   have hll:l.length≤s.length:=by
    rcases dl_inv2 h with ⟨rfl,_⟩|⟨rfl,_,_⟩ <;> rcases dl_inv3 h' with ⟨rfl,_⟩|⟨rfl,_,_⟩ <;> simp <;> omega
   by_cases h0:l=[]
   ·subst h0
    exact .inr ⟨rRef_f h hc h' refWhole_e,Ref_3 h hc h' (.inl rfl)⟩
   by_cases hz:l.head?=some 48∧l≠[48]
   ·refine .inr ⟨rRef_f h hc h' ?_,Ref_3 h hc h' (.inr (.inr hz.1))⟩
    obtain ⟨a,l,rfl⟩:=List.exists_cons_of_ne_nil h0
    obtain rfl:a=48:=Option.some.inj hz.1
    exact refWhole_z fun e=>hz.2 (by rw[e])
   have hW:=Whole_p (gl:=gl) l h0 hz (by omega)
   by_cases hg:l.length≤2∧l.head?≠some 48
   ·have h4:=Ref_4 (gl:=gl) h hc h' h0 hg.1 hg.2
    by_cases hd:∀ d ∈ l,isDig d
    ·have hlt:=rv_lt (l:=l) (Nat.le_refl _) (fun d hx=>hd d (List.mem_of_mem_take hx))
     have hlen:0<l.length:=List.length_pos_iff.2 h0
     have hge:=rv_ge h0 hg.2 hd (l.length - 1) (by omega)
     rw[Nat.sub_add_cancel hlen] at hge
     have h99:rv l l.length<100:=Nat.lt_of_lt_of_le hlt (Nat.pow_le_pow_right (n:=10) (by decide) hg.1)
     have h01:1≤rv l l.length:=by have:=Nat.pow_le_pow_right (n:=10) (by decide) (Nat.zero_le (l.length - 1));omega
     rw[if_pos hd] at h4
     rw[if_pos ⟨hd,by omega⟩] at hW
     exact .inl ⟨_,_,b,b',by unfold okP;omega,rRef_s h hc h' hW (by omega),h4⟩
    ·rw[if_neg hd] at h4
     rw[if_neg fun hh=>hd hh.1] at hW
     exact .inr ⟨rRef_f h hc h' hW,h4⟩
   ·have hb:2<l.length∨l.head?=some 48:=by
     by_cases e:l.head?=some 48
     ·exact .inr e
     ·exact .inl (Nat.lt_of_not_le fun h=>hg ⟨h,e⟩)
    have h3:=Ref_3 (gl:=gl) h hc h' (.inr hb)
    by_cases hw:wholeC l
    ·rw[if_pos hw] at hW
     refine .inr ⟨rRef_n h hc h' hW ?_,h3⟩
     by_cases e:l.head?=some 48
     ·have:l=[48]:=Classical.byContradiction fun hn=>hz ⟨e,hn⟩
      subst this
      left;show ((0 * 10+(48 - 48):Nat):Int)<1;decide
     ·right
      have h2:2<l.length:=by rcases hb with hb|hb;exact hb;exact absurd hb e
      have hge:=rv_ge h0 e hw.1 (l.length - 1) (by omega)
      rw[Nat.sub_add_cancel (by omega)] at hge
      have:10 ^ 2≤10 ^ (l.length - 1):=Nat.pow_le_pow_right (by decide) (by omega)
      omega
    ·rw[if_neg hw] at hW
     exact .inr ⟨rRef_f h hc h' hW,h3⟩
  ·exact .inr ⟨rRef_2 h hc,Ref_2 h hc⟩
end Go.Proofs.YtdpigpahfiachaaGreatDoor
end
section
namespace Go.Proofs.YtdpigpahfiachaaGreatDoor
open Go Go.EYtdpigpahfiachaaGreatDoor
set_option maxRecDepth 100000
variable {gl:List (Nat×List D)}
abbrev rdB (s:List UInt8) (i:Nat) (d:Nat):Blk:=.var [.d (.str s),.d (iD (i:Int)),.d (iD (d:Int))] 102
abbrev erD (e:Int):D:=.v (.iface 96 (.int .i64 e))
abbrev fltD (i:Nat) (e:Int):D:=.ifc 98 true [iD (i:Int),erD e]
theorem skp_32 {s:List UInt8} {i:Nat} (h:s[i]?=some 32):skp s (i+1)=skp s i:=by
 have hl:=(List.getElem?_eq_some_iff.1 h)
 obtain ⟨hl,he⟩:=hl
 unfold skp
 rw[List.drop_eq_getElem_cons hl,he]
 simp only[blk,if_true]
 omega
theorem skp_n {s:List UInt8} {i:Nat} (h:s[i]?≠some 32):skp s i=i:=by
 unfold skp
 rcases Nat.lt_or_ge i s.length with hl|hl
 ·rw[List.drop_eq_getElem_cons hl]
  have:s[i]≠32:=fun e=>h (by rw[List.getElem?_eq_getElem hl,e])
  simp only[blk,if_neg this,Nat.add_zero]
 ·rw[List.drop_eq_nil_of_le hl]
  rfl
theorem fail_d (s:List UInt8) (i d j:Nat) (e:Int):Go.EYtdpigpahfiachaaGreatDoor.Fn Tryz.prog gl 51 [.c (.ptr 0 0),.c (.d (iD (j:Int))),.c (.d (erD e))] [(0,rdB s i d)] 1 (.panic (.d (fltD j e))) [] 1 []:=by
 refine fn_of_vc (nv:=9999) (cu:=[]) fits mixed Tryz.func51 rfl hoB rfl rfl rfl rfl ?_
 ((repeat' ((conv=>whnf);first|exact .intro|refine .ya ?_|refine .na ?_|refine .ys ?_|refine .ns ?_|refine .neg (fun _=>?_) (fun _=>?_)|refine .mk (fun _=>?_) (fun _=>?_)|refine .mk ?_ ?_|refine AK ?_|refine AT ?_|fail));all_goals conv=>whnf)
 ((repeat' first|exact rfl|((conv=>whnf);first|done|exact suL|refine And.intro ?_ ?_|fail));all_goals conv=>whnf)
theorem byt {s:List UInt8} {k:Nat} (c:UInt8) (hk:k<s.length):(((s.getD ((k:Nat):Int).toNat 0).toNat:Nat):Int)=((c.toNat:Nat):Int)↔s[k]?=some c:=by
 have e:((k:Nat):Int).toNat=k:=by omega
 rw[e,List.getD,List.getElem?_eq_getElem hk]
 simp only[Option.getD_some,Option.some.injEq]
 constructor
 ·intro h
  exact UInt8.toNat_inj.1 (by omega)
 ·intro h
  rw[h]
theorem blanks_d (s:List UInt8) (i d:Nat) (hi:i≤s.length) (hs:s.length≤200):Go.EYtdpigpahfiachaaGreatDoor.Fn Tryz.prog gl 53 [.c (.ptr 0 0)] [(0,rdB s i d)] 1 (.ret (.tup [])) [(0,rdB s (skp s i) d)] 1 []:=by
 refine fn_of_vc (nv:=9999) (cu:=[]) fits mixed Tryz.func53 rfl hoB rfl rfl rfl rfl ?_
 ((repeat' ((conv=>whnf);first|exact .intro|refine .ya ?_|refine .na ?_|refine .ys ?_|refine .ns ?_|refine .neg (fun _=>?_) (fun _=>?_)|refine .mk (fun _=>?_) (fun _=>?_)|refine .mk ?_ ?_|refine AK ?_|refine AT ?_|fail));all_goals conv=>whnf)
 refine ⟨{ σ:=Nat,fr:=fun k=>[],ks:=[0],L:=fun k=>[(0,rdB s k d)],ex:=0,I:=fun k=>k≤s.length∧skp s k=skp s i,μ:=fun k=>s.length - k },⟨i,⟨hi,rfl⟩,?_⟩,fun (k:Nat) hk=>?_⟩
 ·((repeat' first|exact rfl|((conv=>whnf);first|done|exact suL|refine And.intro ?_ ?_|fail));all_goals conv=>whnf)
 ·obtain ⟨hk1,hk2⟩:=hk
  by_cases hk7:k<s.length
  ·have hk7':(k:Int)<(s.length:Int):=by omega
   by_cases hc:(((s.getD ((k:Nat):Int).toNat 0).toNat:Nat):Int)=32
   ·have hc':=(byt 32 hk7).1 hc
    ((repeat' ((conv=>whnf);first|exact .intro|refine .ya ?_|refine .na ?_|refine .ys ?_|refine .ns ?_|refine .neg (fun _=>?_) (fun _=>?_)|refine .mk (fun _=>?_) (fun _=>?_)|refine .mk ?_ ?_|refine AK ?_|refine AT ?_|fail));all_goals conv=>whnf)
    refine ⟨k+1,⟨⟨hk7,by rw[skp_32 hc',hk2]⟩,by show s.length - (k+1)<s.length - k;omega⟩,?_⟩
    ((repeat' first|exact rfl|((conv=>whnf);first|done|exact suL|refine And.intro ?_ ?_|fail));all_goals conv=>whnf)
    exact ceq (by rw[wrapI (by omega)];rfl)
   ·have hc':s[k]?≠some 32:=fun h=>hc ((byt 32 hk7).2 h)
    rw[skp_n hc'] at hk2
    subst hk2
    ((repeat' ((conv=>whnf);first|exact .intro|refine .ya ?_|refine .na ?_|refine .ys ?_|refine .ns ?_|refine .neg (fun _=>?_) (fun _=>?_)|refine .mk (fun _=>?_) (fun _=>?_)|refine .mk ?_ ?_|refine AK ?_|refine AT ?_|fail));all_goals conv=>whnf)
    ((repeat' first|exact rfl|((conv=>whnf);first|done|exact suL|refine And.intro ?_ ?_|fail));all_goals conv=>whnf)
  ·have hk8:¬ (k:Int)<(s.length:Int):=by omega
   have hc':s[k]?≠some 32:=by rw[List.getElem?_eq_none (by omega)];simp
   rw[skp_n hc'] at hk2
   subst hk2
   ((repeat' ((conv=>whnf);first|exact .intro|refine .ya ?_|refine .na ?_|refine .ys ?_|refine .ns ?_|refine .neg (fun _=>?_) (fun _=>?_)|refine .mk (fun _=>?_) (fun _=>?_)|refine .mk ?_ ?_|refine AK ?_|refine AT ?_|fail));all_goals conv=>whnf)
   ((repeat' first|exact rfl|((conv=>whnf);first|done|exact suL|refine And.intro ?_ ?_|fail));all_goals conv=>whnf)
abbrev wdlyP (n:Int):Prop:=n=36∨(48≤n∧n≤57)∨(65≤n∧n≤90)∨(97≤n∧n≤122)
theorem wdly_iff (c:UInt8):wdlyP ((c.toNat:Nat):Int)↔wordlyP c:=by
 unfold wdlyP wordlyP
 have h1:c=36↔((c.toNat:Nat):Int)=36:=by
  constructor
  ·rintro rfl;rfl
  ·intro h;exact UInt8.toNat_inj.1 (by show c.toNat=36;omega)
 have h2:∀ (a b:UInt8),a≤b↔((a.toNat:Nat):Int)≤((b.toNat:Nat):Int):=fun a b=>by
  rw[UInt8.le_iff_toNat_le];omega
 rw[h1,h2 48 c,h2 c 57,h2 65 c,h2 c 90,h2 97 c,h2 c 122]
 exact Iff.rfl
theorem wordly_y {n:Int} (h:wdlyP n):FnP Tryz.prog gl 170 [.v (.int .u8 n)] (.v (.bool true)):=by
 refine fnP_of_vc (nv:=9999) (cu:=[]) fits mixed Tryz.func170 rfl hoB rfl ?_
 ((repeat' ((conv=>whnf);first|exact .intro|refine .ya ?_|refine .na ?_|refine .ys ?_|refine .ns ?_|refine .neg (fun _=>?_) (fun _=>?_)|refine .mk (fun _=>?_) (fun _=>?_)|refine .mk ?_ ?_|refine AK ?_|refine AT ?_|fail));all_goals conv=>whnf)
 all_goals first|exact LeD.rfl|exact LeD.vt (by omega)|(exfalso;omega)
theorem wordly_n {n:Int} (h:¬ wdlyP n):FnP Tryz.prog gl 170 [.v (.int .u8 n)] (.v (.bool false)):=by
 refine fnP_of_vc (nv:=9999) (cu:=[]) fits mixed Tryz.func170 rfl hoB rfl ?_
 ((repeat' ((conv=>whnf);first|exact .intro|refine .ya ?_|refine .na ?_|refine .ys ?_|refine .ns ?_|refine .neg (fun _=>?_) (fun _=>?_)|refine .mk (fun _=>?_) (fun _=>?_)|refine .mk ?_ ?_|refine AK ?_|refine AT ?_|fail));all_goals conv=>whnf)
 all_goals first|exact LeD.rfl|exact LeD.vf (by omega)|(exfalso;omega)
theorem wdE_y {s:List UInt8} {i:Nat} {c:UInt8} (h:s[i]?=some c) (hw:wordlyP c):wdE s (i+1)=wdE s i:=by
 obtain ⟨hl,he⟩:=List.getElem?_eq_some_iff.1 h
 unfold wdE
 rw[List.drop_eq_getElem_cons hl,he]
 simp only[wdl,if_pos hw]
 omega
theorem wdE_n {s:List UInt8} {i:Nat} (h:∀ c,s[i]?=some c→¬ wordlyP c):wdE s i=i:=by
 unfold wdE
 rcases Nat.lt_or_ge i s.length with hl|hl
 ·rw[List.drop_eq_getElem_cons hl]
  simp only[wdl,if_neg (h _ (List.getElem?_eq_getElem hl)),Nat.add_zero]
 ·rw[List.drop_eq_nil_of_le hl]
  rfl
theorem wd_slice (s:List UInt8) (i:Nat):List.drop ((some ((i:Nat):Int)).getD 0).toNat (List.take ((some ((wdE s i:Nat):Int)).getD ((s.length:Nat):Int)).toNat s)=wdAt s i:=by
 simp only[Option.getD_some,Int.toNat_natCast]
 unfold wdAt wdE
 rw[List.drop_take]
 congr 1
 omega
theorem strq {a b:List UInt8} (h:a=b) {P:Prop}:C.d (.str b)=C.junk∨C.d (.str a)=C.d (.str b)∨P:=.inr (.inl (by rw[h]))
theorem word_d (s:List UInt8) (i d:Nat) (hi:i≤s.length) (hs:s.length≤200):Go.EYtdpigpahfiachaaGreatDoor.Fn Tryz.prog gl 171 [.c (.ptr 0 0)] [(0,rdB s i d)] 1 (.ret (.c (.d (.str (wdAt s i))))) [(0,rdB s (wdE s i) d)] 1 []:=by
 refine fn_of_vc (nv:=9999) (cu:=[]) fits mixed Tryz.func171 rfl hoB rfl rfl rfl rfl ?_
 ((repeat' ((conv=>whnf);first|exact .intro|refine .ya ?_|refine .na ?_|refine .ys ?_|refine .ns ?_|refine .neg (fun _=>?_) (fun _=>?_)|refine .mk (fun _=>?_) (fun _=>?_)|refine .mk ?_ ?_|refine AK ?_|refine AT ?_|fail));all_goals conv=>whnf)
 refine ⟨{ σ:=Nat,fr:=fun k=>[],ks:=[0],L:=fun k=>[(0,rdB s k d)],ex:=0,I:=fun k=>i≤k∧k≤s.length∧wdE s k=wdE s i,μ:=fun k=>s.length - k },⟨i,⟨Nat.le_refl _,hi,rfl⟩,?_⟩,fun (k:Nat) hk=>?_⟩
 ·((repeat' first|exact rfl|((conv=>whnf);first|done|exact suL|refine And.intro ?_ ?_|fail));all_goals conv=>whnf)
 ·obtain ⟨hk0,hk1,hk2⟩:=hk
  by_cases hk7:k<s.length
  ·have hk7':(k:Int)<(s.length:Int):=by omega
   have hg:s[k]?=some (s.getD ((k:Nat):Int).toNat 0):=(byt _ hk7).1 rfl
   by_cases hc:wordlyP (s.getD ((k:Nat):Int).toNat 0)
   ·have c1:=wordly_y (gl:=gl) ((wdly_iff _).2 hc)
    ((repeat' ((conv=>whnf);first|exact .intro|refine .ya ?_|refine .na ?_|refine .ys ?_|refine .ns ?_|refine .neg (fun _=>?_) (fun _=>?_)|refine .mk (fun _=>?_) (fun _=>?_)|refine .inl (.inl (X1 (c1) ?_))|refine .inl (X1 (c1) ?_)|refine X1 (c1) ?_|refine .mk ?_ ?_|refine AK ?_|refine AT ?_|fail));all_goals conv=>whnf)
    refine ⟨k+1,⟨⟨by omega,hk7,by rw[wdE_y hg hc,hk2]⟩,by show s.length - (k+1)<s.length - k;omega⟩,?_⟩
    ((repeat' first|exact rfl|((conv=>whnf);first|done|exact suL|refine And.intro ?_ ?_|fail));all_goals conv=>whnf)
    exact ceq (by rw[wrapI (by omega)];rfl)
   ·have c1:=wordly_n (gl:=gl) (fun h=>hc ((wdly_iff _).1 h))
    rw[wdE_n fun c h=>by rw[hg] at h;cases h;exact hc] at hk2
    subst hk2
    ((repeat' ((conv=>whnf);first|exact .intro|refine .ya ?_|refine .na ?_|refine .ys ?_|refine .ns ?_|refine .neg (fun _=>?_) (fun _=>?_)|refine .mk (fun _=>?_) (fun _=>?_)|refine .inl (.inl (X1 (c1) ?_))|refine .inl (X1 (c1) ?_)|refine X1 (c1) ?_|refine .mk ?_ ?_|refine AK ?_|refine AT ?_|fail));all_goals conv=>whnf)
    ((repeat' first|exact rfl|((conv=>whnf);first|done|exact suL|refine And.intro ?_ ?_|fail));all_goals conv=>whnf)
    ·exact (show (0:Int)≤((i:Nat):Int) by omega)
    ·exact (show ((i:Nat):Int)≤((wdE s i:Nat):Int) by omega)
    ·exact (show ((wdE s i:Nat):Int)≤((s.length:Nat):Int) by omega)
    ·exact strq (wd_slice s i)
  ·have hk8:¬ (k:Int)<(s.length:Int):=by omega
   rw[wdE_n fun c h=>absurd (lt_of_get h) hk7] at hk2
   subst hk2
   ((repeat' ((conv=>whnf);first|exact .intro|refine .ya ?_|refine .na ?_|refine .ys ?_|refine .ns ?_|refine .neg (fun _=>?_) (fun _=>?_)|refine .mk (fun _=>?_) (fun _=>?_)|refine .mk ?_ ?_|refine AK ?_|refine AT ?_|fail));all_goals conv=>whnf)
   ((repeat' first|exact rfl|((conv=>whnf);first|done|exact suL|refine And.intro ?_ ?_|fail));all_goals conv=>whnf)
   ·exact (show (0:Int)≤((i:Nat):Int) by omega)
   ·exact (show ((i:Nat):Int)≤((wdE s i:Nat):Int) by omega)
   ·exact (show ((wdE s i:Nat):Int)≤((s.length:Nat):Int) by omega)
   ·exact strq (wd_slice s i)
theorem want_y {s:List UInt8} {i d:Nat} (hi:i≤s.length) (hs:s.length≤200) (h:s[skp s i]?=some 41):Go.EYtdpigpahfiachaaGreatDoor.Fn Tryz.prog gl 167 [.c (.ptr 0 0),.c (.d (.v (.int .u8 41)))] [(0,rdB s i d)] 1 (.ret (.tup [])) [(0,rdB s (skp s i+1) d)] 1 []:=by
 have hl:=lt_of_get h
 have h1:=(byt 41 hl).2 h
 have h2:¬ ((skp s i:Nat):Int)=((s.length:Nat):Int):=by omega
 have h3:¬ ¬ (((s.getD ((skp s i:Nat):Int).toNat 0).toNat:Nat):Int)=41:=fun hh=>hh h1
 have c1:=blanks_d (gl:=gl) s i d hi hs
 generalize skp s i=j at *
 refine fn_of_vc (nv:=9999) (cu:=[]) fits mixed Tryz.func167 rfl hoB rfl rfl rfl rfl ?_
 ((repeat' ((conv=>whnf);first|exact .intro|refine .ya ?_|refine .na ?_|refine .ys ?_|refine .ns ?_|refine .neg (fun _=>?_) (fun _=>?_)|refine .mk (fun _=>?_) (fun _=>?_)|refine .inr (X5 (c1.r [0] _) ?_)|refine .inl (.inr (X5 (c1.r [0] _) ?_))|refine .inl (X5 (c1.r [0] _) ?_)|refine .mk ?_ ?_|refine AK ?_|refine AT ?_|fail));all_goals conv=>whnf)
 ((repeat' first|exact rfl|((conv=>whnf);first|done|exact suL|refine And.intro ?_ ?_|fail));all_goals conv=>whnf)
 exact ceq (by rw[wrapI (by omega)];rfl)
theorem want_n {s:List UInt8} {i d:Nat} (hi:i≤s.length) (hs:s.length≤200) (h:s[skp s i]?≠some 41):Go.EYtdpigpahfiachaaGreatDoor.Fn Tryz.prog gl 167 [.c (.ptr 0 0),.c (.d (.v (.int .u8 41)))] [(0,rdB s i d)] 1 (.panic (.d (fltD (skp s i) 2))) [] 1 []:=by
 have hk:=skp_le hi
 have c1:=blanks_d (gl:=gl) s i d hi hs
 have c2:=fail_d (gl:=gl) s (skp s i) d (skp s i) 2
 rcases Nat.lt_or_ge (skp s i) s.length with hl|hl
 ·have h1:¬ (((s.getD ((skp s i:Nat):Int).toNat 0).toNat:Nat):Int)=41:=fun hh=>h ((byt 41 hl).1 hh)
  have h2:¬ ((skp s i:Nat):Int)=((s.length:Nat):Int):=by omega
  generalize skp s i=j at *
  refine fn_of_vc (nv:=9999) (cu:=[]) fits mixed Tryz.func167 rfl hoB rfl rfl rfl rfl ?_
  ((repeat' ((conv=>whnf);first|exact .intro|refine .ya ?_|refine .na ?_|refine .ys ?_|refine .ns ?_|refine .neg (fun _=>?_) (fun _=>?_)|refine .mk (fun _=>?_) (fun _=>?_)|refine .inr (X5 (c1.r [0] _) ?_)|refine .inl (.inr (X5 (c1.r [0] _) ?_))|refine .inl (X5 (c1.r [0] _) ?_)|refine .inr (X5 (c2.r [0] _) ?_)|refine .inl (.inr (X5 (c2.r [0] _) ?_))|refine .inl (X5 (c2.r [0] _) ?_)|refine .mk ?_ ?_|refine AK ?_|refine AT ?_|fail));all_goals conv=>whnf)
  ((repeat' first|exact rfl|((conv=>whnf);first|done|exact suL|refine And.intro ?_ ?_|fail));all_goals conv=>whnf)
 ·have h2:((skp s i:Nat):Int)=((s.length:Nat):Int):=by omega
  generalize skp s i=j at *
  refine fn_of_vc (nv:=9999) (cu:=[]) fits mixed Tryz.func167 rfl hoB rfl rfl rfl rfl ?_
  ((repeat' ((conv=>whnf);first|exact .intro|refine .ya ?_|refine .na ?_|refine .ys ?_|refine .ns ?_|refine .neg (fun _=>?_) (fun _=>?_)|refine .mk (fun _=>?_) (fun _=>?_)|refine .inr (X5 (c1.r [0] _) ?_)|refine .inl (.inr (X5 (c1.r [0] _) ?_))|refine .inl (X5 (c1.r [0] _) ?_)|refine .inr (X5 (c2.r [0] _) ?_)|refine .inl (.inr (X5 (c2.r [0] _) ?_))|refine .inl (X5 (c2.r [0] _) ?_)|refine .mk ?_ ?_|refine AK ?_|refine AT ?_|fail));all_goals conv=>whnf)
  ((repeat' first|exact rfl|((conv=>whnf);first|done|exact suL|refine And.intro ?_ ?_|fail));all_goals conv=>whnf)
end Go.Proofs.YtdpigpahfiachaaGreatDoor
end
