/- A part of the proofs about the pair's laws (PyM, PyN, PyO). -/
import Derived.Test.YtidbbnkpglggdaaPyL
namespace Go.W
open Go.Proofs
set_option linter.unusedSimpArgs false
set_option linter.unusedVariables false
set_option maxHeartbeats 8000000
attribute [local irreducible] Wm
attribute [local simp] nmap lkp mkPl prs prsL prT ddL idL CRenL CRen Ren RenL NObj.none CRenLL
section
variable {w0:World} {S:Sc} {Q:Exit→St→Prop}
theorem set_mem {α:Type} {l:List α} {k:Nat} {a:α} {p:α→Prop} (h:∀ x,x∈l→p x) (ha:p a):∀ x,x∈l.set k a→p x:=fun x hx=>by
 rcases List.mem_or_eq_of_mem_set hx with h3|h3
 ·exact h x h3
 ·rw[h3];exact ha
theorem w6C (hS:S.m=3) (hQ:∀ hl nb,Q .ret ⟨[(8,.bool true)],hl,nb⟩) {SS:List (List AV)} {n m:Nat} {B W:WZ} {was:Int→Int} {Ts:List TZ} (hJ:SysJ B was W Ts∧Ts.length=n∧(∀ T,T∈Ts→okT T=true)) (hn6:n≤6) (hs:W.s≤1000∧W.lg.length≤200) (hm:(m:Int)=B.a*B.b) (hSm:SS.length=m) (hTS:t0LL SS=SS) (hCS:clLL SS=true)
  (hl:∀ j:Nat,j<m→∃ s0:StZ,SS[j]?=some (stL s0)∧0≤s0.l∧s0.l≤65535∧was j=s0.l) :
  Wm Try.prog w0 S Try.f6.ntmps [] (.loop (.seq (.reg q6_23) (.seq (.cond (.t 143) .skip (.exit 4)) (.seq (.block 5 (.seq (.reg q6_24) (.block 6 (.loop (.seq (.seq (.reg q6_25) (.cond (.t 148) .skip (.exit 6))) (.block 7 (.reg q6_26))))))) (.reg q6_27))))) (KC SS n m W Ts 0) (blockK 4 (thenK Try.prog w0 S Try.f6.ntmps [] (.seq (.reg q6_28) (.seq (.seq (.reg q6_29) (.block 8 (.loop (.seq (.reg q6_30) (.seq (.cond (.t 162) .skip (.exit 8)) (.seq (.block 9 (.seq (.reg q6_31) (.seq (.reg q6_32) (.cond (.t 167) (.seq (.seq (.reg q6_33) (.cond (.t 189) (.seq (.reg q6_34) .ret) .skip)) (.seq (.draw q6_35 p6_35) (.draw q6_36 p6_36))) .skip)))) (.reg q6_37))))))) (.seq (.seq (.reg q6_38) (.block 10 (.loop (.seq (.reg q6_39) (.seq (.cond (.t 212) .skip (.exit 10)) (.seq (.block 11 (.seq (.reg q6_40) (.seq (.reg q6_41) (.seq (.draw q6_42 p6_42) (.cond (.t 245) (.seq (.reg q6_43) .ret) .skip))))) (.reg q6_44))))))) (.seq (.reg q6_45) .ret)))) Q)):=by
 have hE:=ELf_ok
 refine Wm_loop (fun x:WZ×List TZ×Nat=>KC SS n m x.1 x.2.1 x.2.2) (fun x=>(SysJ B was x.1 x.2.1∧x.2.1.length=n∧(∀ T,T∈x.2.1→okT T=true))∧x.2.2≤n∧(∀ (j:Nat) (T:TZ),j<x.2.2→x.2.1[j]?=some T→14≤T.pc)∧x.1.s≤1000+14*x.2.2∧x.1.lg.length≤200+14*x.2.2) (fun x=>n - x.2.2) (W,Ts,0) ⟨hJ,Nat.zero_le _,fun j T hj=>absurd hj (Nat.not_lt_zero j),by simp;omega,by simp;omega⟩ (by rw[hS];exact Imp.refl _ _) ?_
 clear hJ hs
 rintro ⟨W,Ts,k⟩ ⟨⟨hJ,hTl,hok⟩,hk,hdone,hsb,hlb⟩
 simp only at hJ hTl hok hk hdone hsb hlb
 by_cases hkn:k<n
 ·obtain ⟨T,hT⟩:∃ T,Ts[k]?=some T:=⟨_,List.getElem?_eq_getElem (by omega)⟩
  have hg:=trs_get hT
  have hgl:=trs_len Ts
  have hge:∀ h,(trs Ts)[k]'h=[.op 0 (tzC T)]:=fun h=>by have:=hg;rw[List.getElem?_eq_getElem h]at this;exact Option.some.inj this
  have ht0:=trs_t0 Ts
  have htc:=trs_cl Ts
  have hW:=hJ.1
  have hz0:=wz_t0' (hW)
  have hz1:=wz_cl' (hW)
  have hzr:=wz_ren (hW)
  simp only[KC]
  repeat' with_reducible (first
   | refine ZR.h ?_ | refine zI (by decide) ?_
   | ((first | refine zK hE ?_ | refine zL hE mixT ?_);intro K hK;simp[KR.ks,KD.ks,KD.cl,ELf,q6_0,q6_1,q6_2,q6_3,q6_4,q6_5,q6_6,q6_7,q6_8,q6_9,q6_10,q6_11,q6_12,q6_13,q6_14,q6_15,q6_16,q6_17,q6_18,q6_19,q6_20,q6_21,q6_22,q6_23,q6_24,q6_25,q6_26,q6_27,q6_28,q6_29,q6_30,q6_31,q6_32,q6_33,q6_34,q6_35,q6_36,q6_37,q6_38,q6_39,q6_40,q6_41,q6_42,q6_43,q6_44,q6_45,hz0,hz1,hzr,ht0,htc,hTS,hCS,hkn,hg,hge,hgl,hTl];(repeat' (first | refine hK _ _ ?_ | refine And.intro ?_ ?_ | (intro hc;try subst hc)))<;>(try clear hK K))
   | (refine zJ (b:=_) (by with_unfolding_all rfl) (fun hc=>?_) (fun hc=>?_)<;>simp at hc<;>(try subst hc)))
  all_goals (refine Wm_loop (fun y:WZ×List TZ×TZ=>KD' SS n m y.1 y.2.1 k) (fun y=>(SysJ B was y.1 y.2.1∧y.2.1.length=n∧(∀ T,T∈y.2.1→okT T=true))∧y.2.1[k]?=some y.2.2∧(∀ (j:Nat) (T:TZ),j<k→y.2.1[j]?=some T→14≤T.pc)∧y.1.s≤1000+14*k+y.2.2.pc∧y.1.lg.length≤200+14*k+y.2.2.pc) (fun y=>(14 - y.2.2.pc).toNat) (W,Ts,T) ⟨⟨hJ,hTl,hok⟩,hT,hdone,by have:=(hJ.2.2.2.2 T (List.mem_of_getElem? hT)).1;simp only;omega,by have:=(hJ.2.2.2.2 T (List.mem_of_getElem? hT)).1;simp only;omega⟩ ?_ ?_)
  ·rw[hS]
   simp only[KD']
   (refine Imp.auto (by kernel_rfl) ?_ ?_<;>simp[NLe,mkPlX,hz0,hz1,hzr,ht0,htc,hTS,hCS,hg,hge,hgl,hTl,hkn])
  ·clear hJ hTl hok hdone hsb hlb hT hg hge hgl ht0 htc hW hz0 hz1 hzr
   rintro ⟨W,Ts,T⟩ ⟨⟨hJ,hTl,hok⟩,hT,hdone,hsb,hlb⟩
   simp only at hJ hTl hok hT hdone hsb hlb
   have hg:=trs_get hT
   have hgl:=trs_len Ts
   have hge:∀ h,(trs Ts)[k]'h=[.op 0 (tzC T)]:=fun h=>by have:=hg;rw[List.getElem?_eq_getElem h]at this;exact Option.some.inj this
   have ht0:=trs_t0 Ts
   have htc:=trs_cl Ts
   have hW:=hJ.1
   have hmem:=List.mem_of_getElem? hT
   have hTj:=hJ.2.2.2.2 T hmem
   have hz2:=tz_t0 T
   have hz3:=tz_cl T
   have hz0:=wz_t0' (hW)
   have hz1:=wz_cl' (hW)
   have hzr:=wz_ren (hW)
   have h13:=fun u=>e13 T u
   by_cases h14:14≤T.pc
   ·rw[decide_eq_true h14]at h13
    have ww:IntKind.wrap .i64 ((k:Int)+1)=(k:Int)+1:=wrap_in (by omega) (by omega)
    simp only[KD']
    repeat' with_reducible (first
     | refine ZR.h ?_ | refine zI (by decide) ?_
     | ((first | refine zK hE ?_ | refine zL hE mixT ?_);intro K hK;simp[KR.ks,KD.ks,KD.cl,ELf,q6_0,q6_1,q6_2,q6_3,q6_4,q6_5,q6_6,q6_7,q6_8,q6_9,q6_10,q6_11,q6_12,q6_13,q6_14,q6_15,q6_16,q6_17,q6_18,q6_19,q6_20,q6_21,q6_22,q6_23,q6_24,q6_25,q6_26,q6_27,q6_28,q6_29,q6_30,q6_31,q6_32,q6_33,q6_34,q6_35,q6_36,q6_37,q6_38,q6_39,q6_40,q6_41,q6_42,q6_43,q6_44,q6_45,hz0,hz1,hzr,hz2,hz3,ht0,htc,hTS,hCS,hkn,hg,hge,hgl,hTl,h13,ww];(repeat' (first | refine hK _ _ ?_ | refine And.intro ?_ ?_ | (intro hc;try subst hc)))<;>(try clear hK K))
     | (refine zJ (b:=_) (by with_unfolding_all rfl) (fun hc=>?_) (fun hc=>?_)<;>simp at hc<;>(try subst hc)))
    all_goals refine ⟨(W,Ts,k+1),⟨⟨hJ,hTl,hok⟩,hkn,fun j U hj hU=>?_,?_,?_⟩,Nat.sub_lt_sub_left hkn (Nat.lt_succ_self k),?_⟩
    ·simp only at hj hU
     by_cases e:j=k
     ·subst e
      rw[hT]at hU
      injection hU with hU
      rw[← hU];exact h14
     ·exact hdone j U (by omega) hU
    ·have:=hTj.2.1
     simp only
     omega
    ·have:=hTj.2.1
     simp only
     omega
    ·rw[hS]
     (try simp only[KC])
     (refine Imp.auto (by kernel_rfl) ?_ ?_<;>simp[NLe,mkPlX,hz0,hz1,hzr,ht0,htc,hTS,hCS,hg,hge,hgl,hTl,hkn])
   ·rw[decide_eq_false h14]at h13
    have hsm:smW W=true:=decide_eq_true (by have:=hTj.2.1;omega)
    have hst:∀ u v,d12 [.op u (tzC T),.op v (wzC W)]=some ⟨.tup [],[.cells 0 (tzC (StepT W T).1),.cells 0 (wzC (StepT W T).2)]⟩:=fun u v=>e12 (hok T hmem) hW hsm u v 0 0 0 0
    have hJ2:=sys_step hJ hT
    have hok2:=StepT_T (hok T hmem) hW
    have hfr:=StepT_fr W T
    have hpc:=StepT_pc W T
    rw[if_neg h14]at hpc
    obtain ⟨⟨T',W'⟩,hr⟩:∃ r,StepT W T=r:=⟨_,rfl⟩
    rw[hr]at hst hJ2 hok2 hfr hpc
    simp only at hst hJ2 hok2 hfr hpc
    have hW2:=hJ2.1
    have hz0b:=wz_t0' (hW2)
    have hz1b:=wz_cl' (hW2)
    have hzrb:=wz_ren (hW2)
    have hz2b:=tz_t0 T'
    have hz3b:=tz_cl T'
    have hset:=fun u=>trs_set Ts k u T'
    have hT2:(Ts.set k T')[k]?=some T':=List.getElem?_set_self (by omega)
    have hg2:=trs_get hT2
    have hgl2:=trs_len (Ts.set k T')
    have hge2:∀ h,(trs (Ts.set k T'))[k]'h=[.op 0 (tzC T')]:=fun h=>by have:=hg2;rw[List.getElem?_eq_getElem h]at this;exact Option.some.inj this
    have hTl2:(Ts.set k T').length=n:=by rw[List.length_set];exact hTl
    have ht02:=trs_t0 (Ts.set k T')
    have htc2:=trs_cl (Ts.set k T')
    obtain ⟨Ts',hTs⟩:∃ Ts',Ts.set k T'=Ts':=⟨_,rfl⟩
    rw[hTs]at hJ2 hset hT2 hg2 hgl2 hge2 hTl2 ht02 htc2
    simp only[KD']
    repeat' with_reducible (first
     | refine ZR.h ?_ | refine zI (by decide) ?_
     | ((first | refine zK hE ?_ | refine zL hE mixT ?_);intro K hK;simp[KR.ks,KD.ks,KD.cl,ELf,q6_0,q6_1,q6_2,q6_3,q6_4,q6_5,q6_6,q6_7,q6_8,q6_9,q6_10,q6_11,q6_12,q6_13,q6_14,q6_15,q6_16,q6_17,q6_18,q6_19,q6_20,q6_21,q6_22,q6_23,q6_24,q6_25,q6_26,q6_27,q6_28,q6_29,q6_30,q6_31,q6_32,q6_33,q6_34,q6_35,q6_36,q6_37,q6_38,q6_39,q6_40,q6_41,q6_42,q6_43,q6_44,q6_45,hz0,hz1,hzr,hz0b,hz1b,hzrb,hz2,hz3,hz2b,hz3b,ht0,htc,hTS,hCS,hkn,hg,hge,hgl,hTl,h13,hst];(repeat' (first | refine hK _ _ ?_ | refine And.intro ?_ ?_ | (intro hc;try subst hc)))<;>(try clear hK K))
     | (refine zJ (b:=_) (by with_unfolding_all rfl) (fun hc=>?_) (fun hc=>?_)<;>simp at hc<;>(try subst hc)))
    all_goals refine ⟨(W',Ts',T'),⟨⟨hJ2,hTl2,by rw[← hTs];exact set_mem hok hok2⟩,hT2,fun j U hj hU=>?_,?_,?_⟩,?_,?_⟩
    ·simp only at hj hU
     rw[← hTs,List.getElem?_set_ne (by omega)]at hU
     exact hdone j U hj hU
    ·simp only
     omega
    ·simp only
     omega
    ·simp only
     omega
    ·rw[hS]
     (try simp only[KD'])
     (refine Imp.auto (by kernel_rfl) ?_ ?_<;>simp[NLe,mkPlX,hz0b,hz1b,hzrb,hset,ht02,htc2,hTS,hCS,hg,hge,hg2,hge2,hgl,hgl2,hTl,hTl2,hkn])
 ·have hke:k=n:=by omega
  subst hke
  have hW:=hJ.1
  have p:=parX_ab hJ.2.1
  have hall:∀ T,T∈Ts→14≤T.pc:=fun T hT=>by
   obtain ⟨j,hj⟩:=List.getElem?_of_mem hT
   exact hdone j T (by have:=(List.getElem?_eq_some_iff.1 hj).1;omega) hj
  have hlog:LogJ m W.lg:=by rw[hm];exact hJ.2.2.2.1
  have hab:=cfg_all (okW_ex hW).1
  rw[p.1,p.2.1]at hab
  have hfin:=w6E (w0:=w0) hS hQ hW (by omega) (by rw[p.1,p.2.1];exact hm) hTS hCS hlog fun j hj=>by
   obtain ⟨s0,g1,g2,g3,g4⟩:=hl j hj
   have:=sys_end hJ hall (i:=(j:Int)) (by omega) (by omega)
   exact ⟨s0,g1,g2,g3,this.1,this.2.1,by rw[← g4];exact this.2.2.1,this.2.2.2⟩
  have hz:List.replicate m [AV.int .i64 0]=dn m (fun x=>fillL x (W.lg.take 0)):=dn_zero m fun i=>rfl
  obtain ⟨F,hF⟩:∃ F:Int→Int,(fun x=>fillL x (W.lg.take 0))=F:=⟨_,rfl⟩
  rw[hF]at hfin hz
  have hdt:=dn_t0 m F
  have hdc:=dn_cl m F
  have hm24:m≤24:=by omega
  have hmx1:(m:Int)*8≤281474976710656:=by omega
  have hmx2:(m:Int)≤9223372036854775807:=by omega
  have hmx3:m≤9223372036854775807:=by omega
  obtain ⟨hcf,hw,hwl,hs0,ht0,ht1,hlg⟩:=okW_ex hW
  have hT:=w_t0 hw
  have hC:=w_cl hw
  have hTl:=l_t0 hlg
  have hCl:=l_cl hlg
  simp only[KC,wzC]
  repeat' with_reducible (first
   | refine ZR.h ?_ | refine zI (by decide) ?_
   | ((first | refine zK hE ?_ | refine zL hE mixT ?_);intro K hK;simp[KR.ks,KD.ks,KD.cl,ELf,q6_0,q6_1,q6_2,q6_3,q6_4,q6_5,q6_6,q6_7,q6_8,q6_9,q6_10,q6_11,q6_12,q6_13,q6_14,q6_15,q6_16,q6_17,q6_18,q6_19,q6_20,q6_21,q6_22,q6_23,q6_24,q6_25,q6_26,q6_27,q6_28,q6_29,q6_30,q6_31,q6_32,q6_33,q6_34,q6_35,q6_36,q6_37,q6_38,q6_39,q6_40,q6_41,q6_42,q6_43,q6_44,q6_45,hT,hC,hTl,hCl,hTS,hCS,hz,hdt,hdc,hmx1,hmx2,hmx3];(repeat' (first | refine hK _ _ ?_ | refine And.intro ?_ ?_ | (intro hc;try subst hc)))<;>(try clear hK K))
   | (refine zJ (b:=_) (by with_unfolding_all rfl) (fun hc=>?_) (fun hc=>?_)<;>simp at hc<;>(try subst hc)))
  all_goals refine Wm_imp ?_ hfin
  all_goals rw[hS]
  all_goals simp only[KE,wzC]
  all_goals (refine Imp.auto (by kernel_rfl) ?_ ?_<;>simp[NLe,mkPlX,hT,hC,hTl,hCl,hdt,hdc,hTS,hCS])
end
end Go.W

namespace Go.W
open Go.Proofs
set_option linter.unusedSimpArgs false
set_option linter.unusedVariables false
set_option maxHeartbeats 8000000
attribute [local irreducible] Wm
attribute [local simp] nmap lkp mkPl prs prsL prT ddL idL CRenL CRen Ren RenL NObj.none CRenLL
section
variable {w0:World} {S:Sc} {Q:Exit→St→Prop}
theorem w6B (hS:S.m=3) (hQ:∀ hl nb,Q .ret ⟨[(8,.bool true)],hl,nb⟩) {ac SS:List (List AV)} {n m:Nat} {B W:WZ} {was:Int→Int} {Ts:List TZ} (hJ:SysJ B was W Ts∧Ts.length=n∧(∀ T,T∈Ts→okT T=true)) (hn6:n≤6) (hac:ac.all actB=true) (hna:ac.length≤9223372036854775807) (hs:W.s≤48∧W.lg.length=0) (hm:(m:Int)=B.a*B.b) (hSm:SS.length=m) (hTS:t0LL SS=SS) (hCS:clLL SS=true)
  (hl:∀ j:Nat,j<m→∃ s0:StZ,SS[j]?=some (stL s0)∧0≤s0.l∧s0.l≤65535∧was j=s0.l) :
  Wm Try.prog w0 S Try.f6.ntmps [] (.loop (.seq (.reg q6_12) (.seq (.cond (.t 66) .skip (.exit 2)) (.seq (.block 3 (.seq (.reg q6_13) (.seq (.seq (.reg q6_14) (.cond (.t 81) (.reg q6_15) .skip)) (.seq (.reg q6_16) (.cond (.t 113) (.seq (.reg q6_17) (.seq (.reg q6_18) (.seq (.reg q6_19) (.cond (.t 132) (.reg q6_20) .skip)))) .skip))))) (.reg q6_21))))) (KB ac SS n m W Ts 0) (blockK 2 (thenK Try.prog w0 S Try.f6.ntmps [] (.seq (.seq (.reg q6_22) (.block 4 (.loop (.seq (.reg q6_23) (.seq (.cond (.t 143) .skip (.exit 4)) (.seq (.block 5 (.seq (.reg q6_24) (.block 6 (.loop (.seq (.seq (.reg q6_25) (.cond (.t 148) .skip (.exit 6))) (.block 7 (.reg q6_26))))))) (.reg q6_27))))))) (.seq (.reg q6_28) (.seq (.seq (.reg q6_29) (.block 8 (.loop (.seq (.reg q6_30) (.seq (.cond (.t 162) .skip (.exit 8)) (.seq (.block 9 (.seq (.reg q6_31) (.seq (.reg q6_32) (.cond (.t 167) (.seq (.seq (.reg q6_33) (.cond (.t 189) (.seq (.reg q6_34) .ret) .skip)) (.seq (.draw q6_35 p6_35) (.draw q6_36 p6_36))) .skip)))) (.reg q6_37))))))) (.seq (.seq (.reg q6_38) (.block 10 (.loop (.seq (.reg q6_39) (.seq (.cond (.t 212) .skip (.exit 10)) (.seq (.block 11 (.seq (.reg q6_40) (.seq (.reg q6_41) (.seq (.draw q6_42 p6_42) (.cond (.t 245) (.seq (.reg q6_43) .ret) .skip))))) (.reg q6_44))))))) (.seq (.reg q6_45) .ret))))) Q)):=by
 have hE:=ELf_ok
 have hTa:=act_t0 hac
 have hCa:=act_cl hac
 refine Wm_loop (fun x:WZ×List TZ×Nat=>KB ac SS n m x.1 x.2.1 x.2.2) (fun x=>(SysJ B was x.1 x.2.1∧x.2.1.length=n∧(∀ T,T∈x.2.1→okT T=true))∧x.2.2≤ac.length∧x.1.s≤48+3*(min x.2.2 200:Nat)∧x.1.lg.length≤min x.2.2 200) (fun x=>ac.length - x.2.2) (W,Ts,0) ⟨hJ,Nat.zero_le _,by simp only;omega,by simp only;omega⟩ (by rw[hS];exact Imp.refl _ _) ?_
 clear hJ hs
 rintro ⟨W,Ts,i⟩ ⟨⟨hJ,hTl,hok⟩,hi,hsb,hlb⟩
 simp only at hJ hTl hok hi hsb hlb
 have hW:=hJ.1
 have p:=parX_ab hJ.2.1
 have hab:=cfg_all (okW_ex hW).1
 rw[p.1,p.2.1]at hab
 have hz0:=wz_t0' (hW)
 have hz1:=wz_cl' (hW)
 have hzr:=wz_ren (hW)
 have hgl:=trs_len Ts
 have ht0:=trs_t0 Ts
 have htc:=trs_cl Ts
 by_cases him:i<ac.length
 ·obtain ⟨r,hr,hrb⟩:=all_get hac him
  obtain ⟨k,N,rfl⟩:=actB_ex hrb
  have hri:ac[i]'him=[.int .i64 k,.int .i64 N]:=by have:=hr;rw[List.getElem?_eq_getElem him]at this;exact Option.some.inj this
  have ww:IntKind.wrap .i64 ((i:Int)+1)=(i:Int)+1:=wrap_in (by omega) (by omega)
  by_cases h200:(i:Int)<200
  ·by_cases k0:k=0
   ·subst k0
    by_cases n0:0<n
    ·
     obtain ⟨U,hU⟩:∃ U,IntKind.wrap .u64 N=U:=⟨_,rfl⟩
     have hU0:0≤U:=by rw[← hU,IntKind.wrap_u64];omega
     have hn0:(n:Int)≠0:=by omega
     have hnn:¬ n=0:=by omega
     have wn:IntKind.wrap .u64 (n:Int)=n:=by rw[IntKind.wrap_u64];omega
     obtain ⟨K,hK⟩:∃ K:Nat,U % (n:Int)=K:=Int.eq_ofNat_of_zero_le (Int.emod_nonneg U hn0)
     have hKn:K<n:=by have:=Int.emod_lt_of_pos U (show 0<(n:Int) by omega);omega
     have htm:U.tmod (n:Int)=K:=by rw[Int.tmod_eq_emod_of_nonneg hU0];exact hK
     have wK:IntKind.wrap .i64 (K:Int)=K:=wrap_in (by omega) (by omega)
     obtain ⟨T,hT⟩:∃ T,Ts[K]?=some T:=⟨_,List.getElem?_eq_getElem (by omega)⟩
     have hg:=trs_get hT
     have hge:∀ h,(trs Ts)[K]'h=[.op 0 (tzC T)]:=fun h=>by have:=hg;rw[List.getElem?_eq_getElem h]at this;exact Option.some.inj this
     have hmem:=List.mem_of_getElem? hT
     have hz2:=tz_t0 T
     have hz3:=tz_cl T
     have hsm:smW W=true:=decide_eq_true (by omega)
     have hst:∀ u v,d12 [.op u (tzC T),.op v (wzC W)]=some ⟨.tup [],[.cells 0 (tzC (StepT W T).1),.cells 0 (wzC (StepT W T).2)]⟩:=fun u v=>e12 (hok T hmem) hW hsm u v 0 0 0 0
     have hJ2:=sys_step hJ hT
     have hok2:=StepT_T (hok T hmem) hW
     have hfr:=StepT_fr W T
     obtain ⟨⟨T',W'⟩,hrr⟩:∃ r,StepT W T=r:=⟨_,rfl⟩
     rw[hrr]at hst hJ2 hok2 hfr
     simp only at hst hJ2 hok2 hfr
     have hW2:=hJ2.1
     have hz0b:=wz_t0' (hW2)
     have hz1b:=wz_cl' (hW2)
     have hzrb:=wz_ren (hW2)
     have hz2b:=tz_t0 T'
     have hz3b:=tz_cl T'
     have hset:=fun u=>trs_set Ts K u T'
     have hTl2:(Ts.set K T').length=n:=by rw[List.length_set];exact hTl
     have hgl2:=trs_len (Ts.set K T')
     have ht02:=trs_t0 (Ts.set K T')
     have htc2:=trs_cl (Ts.set K T')
     obtain ⟨Ts',hTs⟩:∃ Ts',Ts.set K T'=Ts':=⟨_,rfl⟩
     rw[hTs]at hJ2 hset hTl2 hgl2 ht02 htc2
     simp only[KB]
     repeat' with_reducible (first
      | refine ZR.h ?_ | refine zI (by decide) ?_
      | ((first | refine zK hE ?_ | refine zL hE mixT ?_);intro K hK;simp[KR.ks,KD.ks,KD.cl,ELf,q6_0,q6_1,q6_2,q6_3,q6_4,q6_5,q6_6,q6_7,q6_8,q6_9,q6_10,q6_11,q6_12,q6_13,q6_14,q6_15,q6_16,q6_17,q6_18,q6_19,q6_20,q6_21,q6_22,q6_23,q6_24,q6_25,q6_26,q6_27,q6_28,q6_29,q6_30,q6_31,q6_32,q6_33,q6_34,q6_35,q6_36,q6_37,q6_38,q6_39,q6_40,q6_41,q6_42,q6_43,q6_44,q6_45,hTa,hCa,hTS,hCS,him,hr,hri,hSm,ww,hz0,hz1,hzr,hz0b,hz1b,hzrb,hz2,hz3,hz2b,hz3b,ht0,htc,hg,hge,hgl,hTl,h200,n0,hnn,hU,wn,htm,wK,hKn,hst];(repeat' (first | refine hK _ _ ?_ | refine And.intro ?_ ?_ | (intro hc;try subst hc)))<;>(try clear hK K))
      | (refine zJ (b:=_) (by with_unfolding_all rfl) (fun hc=>?_) (fun hc=>?_)<;>simp at hc<;>(try subst hc)))
     all_goals refine ⟨(W',Ts',i+1),⟨⟨hJ2,hTl2,by rw[← hTs];exact set_mem hok hok2⟩,him,?_,?_⟩,Nat.sub_lt_sub_left him (Nat.lt_succ_self i),?_⟩
     ·simp only
      omega
     ·simp only
      omega
     ·rw[hS]
      (try simp only[KB])
      (refine Imp.auto (by kernel_rfl) ?_ ?_<;>simp[NLe,mkPlX,hTa,hCa,hTS,hCS,him,hr,hri,hSm,ww,hz0b,hz1b,hzrb,hset,ht02,htc2,hgl,hgl2,hTl,hTl2])
    ·have hnz:n=0:=by omega
     simp only[KB]
     repeat' with_reducible (first
      | refine ZR.h ?_ | refine zI (by decide) ?_
      | ((first | refine zK hE ?_ | refine zL hE mixT ?_);intro K hK;simp[KR.ks,KD.ks,KD.cl,ELf,q6_0,q6_1,q6_2,q6_3,q6_4,q6_5,q6_6,q6_7,q6_8,q6_9,q6_10,q6_11,q6_12,q6_13,q6_14,q6_15,q6_16,q6_17,q6_18,q6_19,q6_20,q6_21,q6_22,q6_23,q6_24,q6_25,q6_26,q6_27,q6_28,q6_29,q6_30,q6_31,q6_32,q6_33,q6_34,q6_35,q6_36,q6_37,q6_38,q6_39,q6_40,q6_41,q6_42,q6_43,q6_44,q6_45,hTa,hCa,hTS,hCS,him,hr,hri,hSm,ww,hz0,hz1,hzr,ht0,htc,h200,hnz];(repeat' (first | refine hK _ _ ?_ | refine And.intro ?_ ?_ | (intro hc;try subst hc)))<;>(try clear hK K))
      | (refine zJ (b:=_) (by with_unfolding_all rfl) (fun hc=>?_) (fun hc=>?_)<;>simp at hc<;>(try subst hc)))
     all_goals refine ⟨(W,Ts,i+1),⟨⟨hJ,hTl,hok⟩,him,?_,?_⟩,Nat.sub_lt_sub_left him (Nat.lt_succ_self i),?_⟩
     ·simp only
      omega
     ·simp only
      omega
     ·rw[hS]
      (try simp only[KB])
      (refine Imp.auto (by kernel_rfl) ?_ ?_<;>simp[NLe,mkPlX,hTa,hCa,hTS,hCS,him,hr,hri,hSm,ww,hz0,hz1,hzr,ht0,htc,h200,hnz])
   ·by_cases k2:k=2
    ·subst k2
     by_cases N0:0≤N
     ·obtain ⟨X,rfl⟩:=Int.eq_ofNat_of_zero_le N0
      by_cases N1:X<m
      ·
       have x1:(X:Int)<B.a*B.b:=by omega
       have x1':(X:Int)<W.a*W.b:=by rw[p.1,p.2.1];exact x1
       have hlo:loW W=true:=decide_eq_true (by omega)
       have hlo2:loW (tickW W)=true:=decide_eq_true (by simp only[tickW];omega)
       have h14:∀ u,d14 [.op u (wzC W),.int .i64 (X:Int)]=some ⟨.tup [.int .u64 (sAt W X),stA (stateZ (sAt W X))],[.cells 0 (wzC (tickW W))]⟩:=fun u=>e14 hW hlo (by omega) x1' u 0 0 0 0
       have es:stateZ (sAt W X)=stW W X:=rfl
       rw[es]at h14
       have okt:=tick_ok hW
       have hz0t:=wz_t0' (okt)
       have hz1t:=wz_cl' (okt)
       have hzrt:=wz_ren (okt)
       have hJt:=sys_tick hJ
       have hz:=stateZ_ok (sAt W X)
       rw[es]at hz
       have h25:d25 [stA (stW W X)] []=some (errA (cancelS (stW W X)).1 (cancelS (stW W X)).2):=rfl
       obtain ⟨cc,hcc⟩:∃ c,(cancelS (stW W X)).1=c:=⟨_,rfl⟩
       by_cases he:(cancelS (stW W X)).2=0
       ·by_cases hfl:(stW W X).fl=true
        ·rw[he,hcc]at h25
         simp only[errA,if_true,stA]at h25 h14
         clear hJt hz hcc he es
         obtain ⟨⟨ck,cf,cg,cl,cx⟩,hss⟩:∃ s,stW W X=s:=⟨_,rfl⟩
         rw[hss]at h14 h25 hfl
         simp only at h14 h25 hfl
         subst hfl
         simp only[KB]
         repeat' with_reducible (first
          | refine ZR.h ?_ | refine zI (by decide) ?_
          | ((first | refine zK hE ?_ | refine zL hE mixT ?_);intro K hK;simp[KR.ks,KD.ks,KD.cl,ELf,q6_0,q6_1,q6_2,q6_3,q6_4,q6_5,q6_6,q6_7,q6_8,q6_9,q6_10,q6_11,q6_12,q6_13,q6_14,q6_15,q6_16,q6_17,q6_18,q6_19,q6_20,q6_21,q6_22,q6_23,q6_24,q6_25,q6_26,q6_27,q6_28,q6_29,q6_30,q6_31,q6_32,q6_33,q6_34,q6_35,q6_36,q6_37,q6_38,q6_39,q6_40,q6_41,q6_42,q6_43,q6_44,q6_45,hTa,hCa,hTS,hCS,him,hr,hri,hSm,ww,hz0,hz1,hzr,hz0t,hz1t,hzrt,ht0,htc,h200,N1,h14,h25];(repeat' (first | refine hK _ _ ?_ | refine And.intro ?_ ?_ | (intro hc;try subst hc)))<;>(try clear hK K))
          | (refine zJ (b:=_) (by with_unfolding_all rfl) (fun hc=>?_) (fun hc=>?_)<;>simp at hc<;>(try subst hc)))
         all_goals refine ⟨(tickW W,Ts,i+1),⟨⟨sys_tick hJ,hTl,hok⟩,him,?_,?_⟩,Nat.sub_lt_sub_left him (Nat.lt_succ_self i),?_⟩
         ·simp only[tickW]
          omega
         ·simp only[tickW]
          omega
         ·rw[hS]
          (try simp only[KB])
          (refine Imp.auto (by kernel_rfl) ?_ ?_<;>simp[NLe,mkPlX,hTa,hCa,hTS,hCS,him,hr,hri,hSm,ww,hz0t,hz1t,hzrt,ht0,htc])
        ·have hfl:(stW W X).fl=false:=by simpa using hfl
         have hoc:okS (cancelS (stW W X)).1=true:=by
          have:=okS_ex hz
          unfold cancelS
          repeat' split
          all_goals first|exact rfl|exact decide_eq_true (by simp only;omega)|exact hz
         have h26:∀ u,d26 [.op u (wzC (tickW W)),.int .i64 (X:Int),.int .u64 (sAt W X),stA (cancelS (stW W X)).1]=some ⟨.bool (turnW (tickW W) X (sAt W X) (cancelS (stW W X)).1).1,[.cells 0 (wzC (turnW (tickW W) X (sAt W X) (cancelS (stW W X)).1).2)]⟩:=fun u=>e26 okt hlo2 (by omega) x1' (sAt W X) hoc u 0 0 0 0
         have hJ2:=sys_turn (z:=(X:Int)) (old:=sAt W X) hJt (by omega) x1 rfl hfl he
         replace hJ2:SysJ B was (turnW (tickW W) X (sAt W X) (cancelS (stW W X)).1).2 Ts:=hJ2
         have hfr:=turn_fr (tickW W) X (sAt W X) (cancelS (stW W X)).1
         rw[he,hcc]at h25
         rw[hcc]at h26 hJ2 hfr
         simp only[errA,if_true,stA]at h25 h14 h26
         clear hJt hz he es hoc
         obtain ⟨⟨ck,cf,cg,cl,cx⟩,hss⟩:∃ s,stW W X=s:=⟨_,rfl⟩
         rw[hss]at h14 h25 hfl
         simp only at h14 h25 hfl
         subst hfl
         obtain ⟨⟨bb,W'⟩,hrr⟩:∃ r,turnW (tickW W) X (sAt W X) cc=r:=⟨_,rfl⟩
         rw[hrr]at h26 hJ2 hfr
         simp only[tickW]at hfr
         simp only at h26 hJ2
         have hW2:=hJ2.1
         have hz0b:=wz_t0' (hW2)
         have hz1b:=wz_cl' (hW2)
         have hzrb:=wz_ren (hW2)
         simp only[KB]
         repeat' with_reducible (first
          | refine ZR.h ?_ | refine zI (by decide) ?_
          | ((first | refine zK hE ?_ | refine zL hE mixT ?_);intro K hK;simp[KR.ks,KD.ks,KD.cl,ELf,q6_0,q6_1,q6_2,q6_3,q6_4,q6_5,q6_6,q6_7,q6_8,q6_9,q6_10,q6_11,q6_12,q6_13,q6_14,q6_15,q6_16,q6_17,q6_18,q6_19,q6_20,q6_21,q6_22,q6_23,q6_24,q6_25,q6_26,q6_27,q6_28,q6_29,q6_30,q6_31,q6_32,q6_33,q6_34,q6_35,q6_36,q6_37,q6_38,q6_39,q6_40,q6_41,q6_42,q6_43,q6_44,q6_45,hTa,hCa,hTS,hCS,him,hr,hri,hSm,ww,hz0,hz1,hzr,hz0b,hz1b,hzrb,hz0t,hz1t,hzrt,ht0,htc,h200,N1,h14,h25,h26];(repeat' (first | refine hK _ _ ?_ | refine And.intro ?_ ?_ | (intro hc;try subst hc)))<;>(try clear hK K))
          | (refine zJ (b:=_) (by with_unfolding_all rfl) (fun hc=>?_) (fun hc=>?_)<;>simp at hc<;>(try subst hc)))
         all_goals refine ⟨(W',Ts,i+1),⟨⟨hJ2,hTl,hok⟩,him,?_,?_⟩,Nat.sub_lt_sub_left him (Nat.lt_succ_self i),?_⟩
         ·simp only
          omega
         ·simp only
          rw[hfr.2.1]
          omega
         ·rw[hS]
          (try simp only[KB])
          (refine Imp.auto (by kernel_rfl) ?_ ?_<;>simp[NLe,mkPlX,hTa,hCa,hTS,hCS,him,hr,hri,hSm,ww,hz0b,hz1b,hzrb,ht0,htc])
       ·simp only[errA,if_neg he,stA]at h25 h14
        simp only[KB]
        repeat' with_reducible (first
         | refine ZR.h ?_ | refine zI (by decide) ?_
         | ((first | refine zK hE ?_ | refine zL hE mixT ?_);intro K hK;simp[KR.ks,KD.ks,KD.cl,ELf,q6_0,q6_1,q6_2,q6_3,q6_4,q6_5,q6_6,q6_7,q6_8,q6_9,q6_10,q6_11,q6_12,q6_13,q6_14,q6_15,q6_16,q6_17,q6_18,q6_19,q6_20,q6_21,q6_22,q6_23,q6_24,q6_25,q6_26,q6_27,q6_28,q6_29,q6_30,q6_31,q6_32,q6_33,q6_34,q6_35,q6_36,q6_37,q6_38,q6_39,q6_40,q6_41,q6_42,q6_43,q6_44,q6_45,hTa,hCa,hTS,hCS,him,hr,hri,hSm,ww,hz0,hz1,hzr,hz0t,hz1t,hzrt,ht0,htc,h200,N1,h14,h25];(repeat' (first | refine hK _ _ ?_ | refine And.intro ?_ ?_ | (intro hc;try subst hc)))<;>(try clear hK K))
         | (refine zJ (b:=_) (by with_unfolding_all rfl) (fun hc=>?_) (fun hc=>?_)<;>simp at hc<;>(try subst hc)))
        all_goals refine ⟨(tickW W,Ts,i+1),⟨⟨sys_tick hJ,hTl,hok⟩,him,?_,?_⟩,Nat.sub_lt_sub_left him (Nat.lt_succ_self i),?_⟩
        ·simp only[tickW]
         omega
        ·simp only[tickW]
         omega
        ·rw[hS]
         (try simp only[KB])
         (refine Imp.auto (by kernel_rfl) ?_ ?_<;>simp[NLe,mkPlX,hTa,hCa,hTS,hCS,him,hr,hri,hSm,ww,hz0t,hz1t,hzrt,ht0,htc])
      ·
       simp only[KB]
       repeat' with_reducible (first
        | refine ZR.h ?_ | refine zI (by decide) ?_
        | ((first | refine zK hE ?_ | refine zL hE mixT ?_);intro K hK;simp[KR.ks,KD.ks,KD.cl,ELf,q6_0,q6_1,q6_2,q6_3,q6_4,q6_5,q6_6,q6_7,q6_8,q6_9,q6_10,q6_11,q6_12,q6_13,q6_14,q6_15,q6_16,q6_17,q6_18,q6_19,q6_20,q6_21,q6_22,q6_23,q6_24,q6_25,q6_26,q6_27,q6_28,q6_29,q6_30,q6_31,q6_32,q6_33,q6_34,q6_35,q6_36,q6_37,q6_38,q6_39,q6_40,q6_41,q6_42,q6_43,q6_44,q6_45,hTa,hCa,hTS,hCS,him,hr,hri,hSm,ww,hz0,hz1,hzr,ht0,htc,h200,N1];(repeat' (first | refine hK _ _ ?_ | refine And.intro ?_ ?_ | (intro hc;try subst hc)))<;>(try clear hK K))
        | (refine zJ (b:=_) (by with_unfolding_all rfl) (fun hc=>?_) (fun hc=>?_)<;>simp at hc<;>(try subst hc)))
       all_goals refine ⟨(W,Ts,i+1),⟨⟨hJ,hTl,hok⟩,him,?_,?_⟩,Nat.sub_lt_sub_left him (Nat.lt_succ_self i),?_⟩
       ·simp only
        omega
       ·simp only
        omega
       ·rw[hS]
        (try simp only[KB])
        (refine Imp.auto (by kernel_rfl) ?_ ?_<;>simp[NLe,mkPlX,hTa,hCa,hTS,hCS,him,hr,hri,hSm,ww,hz0,hz1,hzr,ht0,htc,h200,N1])
     ·
      simp only[KB]
      repeat' with_reducible (first
       | refine ZR.h ?_ | refine zI (by decide) ?_
       | ((first | refine zK hE ?_ | refine zL hE mixT ?_);intro K hK;simp[KR.ks,KD.ks,KD.cl,ELf,q6_0,q6_1,q6_2,q6_3,q6_4,q6_5,q6_6,q6_7,q6_8,q6_9,q6_10,q6_11,q6_12,q6_13,q6_14,q6_15,q6_16,q6_17,q6_18,q6_19,q6_20,q6_21,q6_22,q6_23,q6_24,q6_25,q6_26,q6_27,q6_28,q6_29,q6_30,q6_31,q6_32,q6_33,q6_34,q6_35,q6_36,q6_37,q6_38,q6_39,q6_40,q6_41,q6_42,q6_43,q6_44,q6_45,hTa,hCa,hTS,hCS,him,hr,hri,hSm,ww,hz0,hz1,hzr,ht0,htc,h200,N0];(repeat' (first | refine hK _ _ ?_ | refine And.intro ?_ ?_ | (intro hc;try subst hc)))<;>(try clear hK K))
       | (refine zJ (b:=_) (by with_unfolding_all rfl) (fun hc=>?_) (fun hc=>?_)<;>simp at hc<;>(try subst hc)))
      all_goals refine ⟨(W,Ts,i+1),⟨⟨hJ,hTl,hok⟩,him,?_,?_⟩,Nat.sub_lt_sub_left him (Nat.lt_succ_self i),?_⟩
      ·simp only
       omega
      ·simp only
       omega
      ·rw[hS]
       (try simp only[KB])
       (refine Imp.auto (by kernel_rfl) ?_ ?_<;>simp[NLe,mkPlX,hTa,hCa,hTS,hCS,him,hr,hri,hSm,ww,hz0,hz1,hzr,ht0,htc,h200,N0])
    ·
     simp only[KB]
     repeat' with_reducible (first
      | refine ZR.h ?_ | refine zI (by decide) ?_
      | ((first | refine zK hE ?_ | refine zL hE mixT ?_);intro K hK;simp[KR.ks,KD.ks,KD.cl,ELf,q6_0,q6_1,q6_2,q6_3,q6_4,q6_5,q6_6,q6_7,q6_8,q6_9,q6_10,q6_11,q6_12,q6_13,q6_14,q6_15,q6_16,q6_17,q6_18,q6_19,q6_20,q6_21,q6_22,q6_23,q6_24,q6_25,q6_26,q6_27,q6_28,q6_29,q6_30,q6_31,q6_32,q6_33,q6_34,q6_35,q6_36,q6_37,q6_38,q6_39,q6_40,q6_41,q6_42,q6_43,q6_44,q6_45,hTa,hCa,hTS,hCS,him,hr,hri,hSm,ww,hz0,hz1,hzr,ht0,htc,h200,k0,k2];(repeat' (first | refine hK _ _ ?_ | refine And.intro ?_ ?_ | (intro hc;try subst hc)))<;>(try clear hK K))
      | (refine zJ (b:=_) (by with_unfolding_all rfl) (fun hc=>?_) (fun hc=>?_)<;>simp at hc<;>(try subst hc)))
     all_goals refine ⟨(W,Ts,i+1),⟨⟨hJ,hTl,hok⟩,him,?_,?_⟩,Nat.sub_lt_sub_left him (Nat.lt_succ_self i),?_⟩
     ·simp only
      omega
     ·simp only
      omega
     ·rw[hS]
      (try simp only[KB])
      (refine Imp.auto (by kernel_rfl) ?_ ?_<;>simp[NLe,mkPlX,hTa,hCa,hTS,hCS,him,hr,hri,hSm,ww,hz0,hz1,hzr,ht0,htc,h200,k0,k2])
  ·
   simp only[KB]
   repeat' with_reducible (first
    | refine ZR.h ?_ | refine zI (by decide) ?_
    | ((first | refine zK hE ?_ | refine zL hE mixT ?_);intro K hK;simp[KR.ks,KD.ks,KD.cl,ELf,q6_0,q6_1,q6_2,q6_3,q6_4,q6_5,q6_6,q6_7,q6_8,q6_9,q6_10,q6_11,q6_12,q6_13,q6_14,q6_15,q6_16,q6_17,q6_18,q6_19,q6_20,q6_21,q6_22,q6_23,q6_24,q6_25,q6_26,q6_27,q6_28,q6_29,q6_30,q6_31,q6_32,q6_33,q6_34,q6_35,q6_36,q6_37,q6_38,q6_39,q6_40,q6_41,q6_42,q6_43,q6_44,q6_45,hTa,hCa,hTS,hCS,him,hr,hri,hSm,ww,hz0,hz1,hzr,ht0,htc,h200];(repeat' (first | refine hK _ _ ?_ | refine And.intro ?_ ?_ | (intro hc;try subst hc)))<;>(try clear hK K))
    | (refine zJ (b:=_) (by with_unfolding_all rfl) (fun hc=>?_) (fun hc=>?_)<;>simp at hc<;>(try subst hc)))
   all_goals refine ⟨(W,Ts,i+1),⟨⟨hJ,hTl,hok⟩,him,?_,?_⟩,Nat.sub_lt_sub_left him (Nat.lt_succ_self i),?_⟩
   ·simp only
    omega
   ·simp only
    omega
   ·rw[hS]
    (try simp only[KB])
    (refine Imp.auto (by kernel_rfl) ?_ ?_<;>simp[NLe,mkPlX,hTa,hCa,hTS,hCS,him,hr,hri,hSm,ww,hz0,hz1,hzr,ht0,htc,h200])
 ·have hie:i=ac.length:=by omega
  subst hie
  have hfin:=w6C (w0:=w0) hS hQ ⟨hJ,hTl,hok⟩ hn6 ⟨by omega,by omega⟩ hm hSm hTS hCS hl
  simp only[KB]
  repeat' with_reducible (first
   | refine ZR.h ?_ | refine zI (by decide) ?_
   | ((first | refine zK hE ?_ | refine zL hE mixT ?_);intro K hK;simp[KR.ks,KD.ks,KD.cl,ELf,q6_0,q6_1,q6_2,q6_3,q6_4,q6_5,q6_6,q6_7,q6_8,q6_9,q6_10,q6_11,q6_12,q6_13,q6_14,q6_15,q6_16,q6_17,q6_18,q6_19,q6_20,q6_21,q6_22,q6_23,q6_24,q6_25,q6_26,q6_27,q6_28,q6_29,q6_30,q6_31,q6_32,q6_33,q6_34,q6_35,q6_36,q6_37,q6_38,q6_39,q6_40,q6_41,q6_42,q6_43,q6_44,q6_45,hTa,hCa,hz0,hz1,hzr,ht0,htc,hTS,hCS];(repeat' (first | refine hK _ _ ?_ | refine And.intro ?_ ?_ | (intro hc;try subst hc)))<;>(try clear hK K))
   | (refine zJ (b:=_) (by with_unfolding_all rfl) (fun hc=>?_) (fun hc=>?_)<;>simp at hc<;>(try subst hc)))
  all_goals refine Wm_imp ?_ hfin
  all_goals rw[hS]
  all_goals (try simp only[KC])
  all_goals (refine Imp.auto (by kernel_rfl) ?_ ?_<;>simp[NLe,mkPlX,hTa,hCa,hz0,hz1,hzr,ht0,htc,hTS,hCS])
end
end Go.W

namespace Go.W
open Go.Proofs
set_option linter.unusedSimpArgs false
set_option linter.unusedVariables false
set_option maxHeartbeats 8000000
attribute [local irreducible] Wm
attribute [local simp] nmap lkp mkPl prs prsL prT ddL idL CRenL CRen Ren RenL NObj.none CRenLL
section
variable {w0:World} {S:Sc} {Q:Exit→St→Prop}
theorem w6A (hS:S.m=3) (hQ:∀ hl nb,Q .ret ⟨[(8,.bool true)],hl,nb⟩) {am ac SS TT:List (List AV)} {a b c d e f g:Int} {B:WZ} (hW:okW B=true) (hs:B.s≤48) (hlg:B.lg=[]) (hcell:∀ i:Int,0≤i→i<B.a*B.b→CellB B.f (stW B i)) (hm:(SS.length:Int)=B.a*B.b) (hrows:∀ j:Nat,j<SS.length→SS[j]?=some (stL (stW B j)))
  (hTS:t0LL SS=SS) (hCS:clLL SS=true) (hTT:t0LL TT=TT) (hCT:clLL TT=true) (ham:am.all aimB=true) (ham6:am.length≤6) (hac:ac.all actB=true) (hna:ac.length≤9223372036854775807) :
  Wm Try.prog w0 S Try.f6.ntmps [] (.loop (.seq (.reg q6_6) (.seq (.cond (.t 48) .skip (.exit 0)) (.seq (.block 1 (.seq (.reg q6_7) (.reg q6_8))) (.reg q6_9))))) (KA am ac a b c d e f g SS TT B 0) (blockK 0 (thenK Try.prog w0 S Try.f6.ntmps [] (.seq (.reg q6_10) (.seq (.seq (.reg q6_11) (.block 2 (.loop (.seq (.reg q6_12) (.seq (.cond (.t 66) .skip (.exit 2)) (.seq (.block 3 (.seq (.reg q6_13) (.seq (.seq (.reg q6_14) (.cond (.t 81) (.reg q6_15) .skip)) (.seq (.reg q6_16) (.cond (.t 113) (.seq (.reg q6_17) (.seq (.reg q6_18) (.seq (.reg q6_19) (.cond (.t 132) (.reg q6_20) .skip)))) .skip))))) (.reg q6_21))))))) (.seq (.seq (.reg q6_22) (.block 4 (.loop (.seq (.reg q6_23) (.seq (.cond (.t 143) .skip (.exit 4)) (.seq (.block 5 (.seq (.reg q6_24) (.block 6 (.loop (.seq (.seq (.reg q6_25) (.cond (.t 148) .skip (.exit 6))) (.block 7 (.reg q6_26))))))) (.reg q6_27))))))) (.seq (.reg q6_28) (.seq (.seq (.reg q6_29) (.block 8 (.loop (.seq (.reg q6_30) (.seq (.cond (.t 162) .skip (.exit 8)) (.seq (.block 9 (.seq (.reg q6_31) (.seq (.reg q6_32) (.cond (.t 167) (.seq (.seq (.reg q6_33) (.cond (.t 189) (.seq (.reg q6_34) .ret) .skip)) (.seq (.draw q6_35 p6_35) (.draw q6_36 p6_36))) .skip)))) (.reg q6_37))))))) (.seq (.seq (.reg q6_38) (.block 10 (.loop (.seq (.reg q6_39) (.seq (.cond (.t 212) .skip (.exit 10)) (.seq (.block 11 (.seq (.reg q6_40) (.seq (.reg q6_41) (.seq (.draw q6_42 p6_42) (.cond (.t 245) (.seq (.reg q6_43) .ret) .skip))))) (.reg q6_44))))))) (.seq (.reg q6_45) .ret))))))) Q)):=by
 have hE:=ELf_ok
 have hTa:=act_t0 hac
 have hCa:=act_cl hac
 have hTm:=aim_t0 ham
 have hCm:=aim_cl ham
 have hz0:=wz_t0' (hW)
 have hz1:=wz_cl' (hW)
 have hzr:=wz_ren (hW)
 refine Wm_loop (fun k=>KA am ac a b c d e f g SS TT B k) (fun k=>k≤am.length) (fun k=>am.length - k) 0 (Nat.zero_le _) (by rw[hS];exact Imp.refl _ _) ?_
 intro k hk
 replace hk:k≤am.length:=hk
 have hTk:=tAm_len hk
 have hLk:(trs (tAm am k)).length=k:=by rw[trs_len];exact hTk
 have ht0:=trs_t0 (tAm am k)
 have htc:=trs_cl (tAm am k)
 by_cases hkn:k<am.length
 ·obtain ⟨r,hr,hrb⟩:=all_get ham hkn
  have hsucc:=tAm_succ hr
  obtain ⟨w,x,gn,y,sh,rfl⟩:=aimB_ex hrb
  have hri:am[k]'hkn=[.int .i64 w,.int .i64 x,.int .i64 gn,.int .i64 y,.int .i64 sh]:=by have:=hr;rw[List.getElem?_eq_getElem hkn]at this;exact Option.some.inj this
  have ww:IntKind.wrap .i64 ((k:Int)+1)=(k:Int)+1:=wrap_in (by omega) (by omega)
  have h11:d11 [.agg [.int .i64 w,.int .i64 x,.int .i64 gn,.int .i64 y,.int .i64 sh]]=some ⟨.op 0 (tzC (tz0 w x gn y sh)),[]⟩:=rfl
  replace hsucc:tAm am (k+1)=tAm am k++[tz0 w x gn y sh]:=hsucc
  have habs:=fun r=>trs_abs hTk r 0 (tz0 w x gn y sh)
  rw[← hsucc]at habs
  have hget:=fun r=>app_get hTk r
  have hz2:=tz_t0 (tz0 w x gn y sh)
  have hz3:=tz_cl (tz0 w x gn y sh)
  have ht0':=trs_t0 (tAm am (k+1))
  have htc':=trs_cl (tAm am (k+1))
  have htl:∀ q,0<q→tlLL q (trs (tAm am k))=true:=fun q hq=>trs_tl hq _
  have hb1:(k+1)*8≤140737488355328:=by omega
  have hb2:k+1≤9223372036854775807:=by omega
  have hb3:k≤9223372036854775806:=by omega
  obtain ⟨T0,hT0⟩:∃ T0,tz0 w x gn y sh=T0:=⟨_,rfl⟩
  rw[hT0]at h11 habs hz2 hz3
  simp only[KA]
  repeat' with_reducible (first
   | refine ZR.h ?_ | refine zI (by decide) ?_
   | ((first | refine zK hE ?_ | refine zL hE mixT ?_);intro K hK;simp[KR.ks,KD.ks,KD.cl,ELf,q6_0,q6_1,q6_2,q6_3,q6_4,q6_5,q6_6,q6_7,q6_8,q6_9,q6_10,q6_11,q6_12,q6_13,q6_14,q6_15,q6_16,q6_17,q6_18,q6_19,q6_20,q6_21,q6_22,q6_23,q6_24,q6_25,q6_26,q6_27,q6_28,q6_29,q6_30,q6_31,q6_32,q6_33,q6_34,q6_35,q6_36,q6_37,q6_38,q6_39,q6_40,q6_41,q6_42,q6_43,q6_44,q6_45,hTa,hCa,hTm,hCm,hTS,hCS,hTT,hCT,hz0,hz1,hzr,hLk,ht0,htc,hkn,hr,hri,ww,h11,hz2,hz3,htl,hb1,hb2,hb3];(repeat' (first | refine hK _ _ ?_ | refine And.intro ?_ ?_ | (intro hc;try subst hc)))<;>(try clear hK K))
   | (refine zJ (b:=_) (by with_unfolding_all rfl) (fun hc=>?_) (fun hc=>?_)<;>simp at hc<;>(try subst hc)))
  all_goals refine ⟨k+1,hkn,Nat.sub_lt_sub_left hkn (Nat.lt_succ_self k),?_⟩
  all_goals rw[hS]
  all_goals (refine Imp.trans (Imp.absorb (.top 78) k 0 62 (by rfl) (hget _) (by rfl) (.inr ⟨0,_,by rfl,by rfl⟩) (by simp)) ?_)
  all_goals (try simp only[KA])
  all_goals (refine Imp.auto (by kernel_rfl) ?_ ?_<;>simp[NLe,mkPlX,absorbG,newcell,hTa,hCa,hTm,hCm,hTS,hCS,hTT,hCT,hz0,hz1,hzr,qC,hget,habs,ht0',htc',hz2,hz3])
 ·have hke:k=am.length:=by omega
  subst hke
  obtain ⟨m,hSm⟩:∃ m,SS.length=m:=⟨_,rfl⟩
  rw[hSm]at hm hrows
  have hab:=cfg_all (okW_ex hW).1
  have hJ0:=sys_begin hW hcell hlg (fun T hT=>tAm_new T hT) (Ts:=tAm am am.length)
  have hfin:=w6B (w0:=w0) hS hQ (n:=am.length) ⟨hJ0,hTk,fun T hT=>by obtain ⟨w,x,g,y,s,rfl⟩:=tAm_new T hT;exact tz0_ok w x g y s⟩ ham6 hac hna ⟨hs,by rw[hlg];rfl⟩ hm hSm hTS hCS fun j hj=>⟨stW B j,hrows j hj,(stR (sAt B j)).2.2.2.2.1,by have:=(stR (sAt B j)).2.2.2.2.2.1;unfold stW;omega,rfl⟩
  have hSk:SS.take m=SS:=by rw[List.take_of_length_le (by omega)]
  have hPS:SS.all (fun c=>c.all AV.plain)=true:=List.all_eq_true.2 fun c hc=>by
   obtain ⟨j,hj⟩:=List.getElem?_of_mem hc
   have:=hrows j (by have:=(List.getElem?_eq_some_iff.1 hj).1;omega)
   rw[hj]at this
   injection this with this
   rw[this];rfl
  have hb1:m*40≤140737488355328:=by omega
  have hb2:m≤9223372036854775807:=by omega
  have hPS2:∀ x,x∈SS→∀ y,y∈x→AV.plain y=true:=fun x hx y hy=>List.all_eq_true.1 (List.all_eq_true.1 hPS x hx) y hy
  simp only[KA,qC]
  repeat' with_reducible (first
   | refine ZR.h ?_ | refine zI (by decide) ?_
   | ((first | refine zK hE ?_ | refine zL hE mixT ?_);intro K hK;simp[KR.ks,KD.ks,KD.cl,ELf,q6_0,q6_1,q6_2,q6_3,q6_4,q6_5,q6_6,q6_7,q6_8,q6_9,q6_10,q6_11,q6_12,q6_13,q6_14,q6_15,q6_16,q6_17,q6_18,q6_19,q6_20,q6_21,q6_22,q6_23,q6_24,q6_25,q6_26,q6_27,q6_28,q6_29,q6_30,q6_31,q6_32,q6_33,q6_34,q6_35,q6_36,q6_37,q6_38,q6_39,q6_40,q6_41,q6_42,q6_43,q6_44,q6_45,hTa,hCa,hTm,hCm,hTS,hCS,hTT,hCT,hz0,hz1,hzr,hLk,ht0,htc,hSm,hSk,hPS2,hb1,hb2];(repeat' (first | refine hK _ _ ?_ | refine And.intro ?_ ?_ | (intro hc;try subst hc)))<;>(try clear hK K))
   | (refine zJ (b:=_) (by with_unfolding_all rfl) (fun hc=>?_) (fun hc=>?_)<;>simp at hc<;>(try subst hc)))
  all_goals first|(exact hPS2 _ (by assumption) _ (by assumption))|skip
  all_goals refine Wm_imp ?_ hfin
  all_goals rw[hS]
  all_goals (try simp only[KB])
  all_goals (refine Imp.auto (by kernel_rfl) ?_ ?_<;>simp[NLe,mkPlX,hTa,hCa,hTS,hCS,hTT,hCT,hz0,hz1,hzr,ht0,htc,hSm,hSk,hLk,hTk])
end
end Go.W

