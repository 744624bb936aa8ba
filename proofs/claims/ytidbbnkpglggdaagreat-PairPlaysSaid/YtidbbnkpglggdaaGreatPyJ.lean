/- The resolved code of the functions, by a program. Cancelling, and the clock: both worlds alike. Tries that mix: the lists that a walk meets. -/
import Derived.Test.YtidbbnkpglggdaaGreatSbA
import Derived.Test.YtidbbnkpglggdaaGreatSbE
import Derived.Test.YtidbbnkpglggdaaGreatPqJ
import Derived.Test.YtidbbnkpglggdaaGreatPqA
import Derived.Test.YtidbbnkpglggdaaGreatPsQ
import Derived.Test.YtidbbnkpglggdaaGreatPqB
namespace Go.W
open Go.Proofs
set_option linter.unusedSimpArgs false
set_option linter.unusedVariables false
set_option maxHeartbeats 8000000
attribute [local irreducible] Wm
attribute [local simp] Y5 lkp VW prs Uv prT ddL idL YN Um Ren Vt NObj.none Z4
def ZD (W:WZ) (x:Int):WZ:=if 0≤x∧x<W.a*W.b then (if (Zn (stW W x)).2=0∧(stW W x).fl=false then (Zs (ZO W) x (sAt W x) (Zn (stW W x)).1).2 else ZO W) else W
def Yh (Q:QZ) (x:Int):QZ:=if 0≤x∧x<Q.a*Q.b then (if (Zn (xD Q x)).2=0∧(xD Q x).fl=false then { Q with S:=Q.S.set x.toNat (Zn (xD Q x)).1 } else Q) else Q
theorem ZbB {W:WZ} (h:okW W=true) (x:Int):okW (ZD W x)=true:=by
 unfold ZD
 repeat' split
 ·exact Yi (Y8 h) _ _ _
 ·exact Y8 h
 ·exact h
theorem Za1 {Q:QZ} (h:okQ Q=true) (x:Int):okQ (Yh Q x)=true:=by
 unfold Yh;obtain ⟨h1,h2,h3,h4,h5,h6,h7,h8,h9⟩:=Zp h
 repeat' split
 ·exact decide_eq_true ⟨h1,by show ((Q.S.set _ _).length:Int)=_;rw[List.length_set];exact h2,h3,h4,h5,h6,h7,h8,h9⟩
 ·exact h
 ·exact h
theorem ZcI {W:WZ} (h:okW W=true) (φ:TP):YN φ (wzC W) (wzC W):=by
 obtain ⟨hcf,hw,hwl,hs0,ht0,ht1,hlg⟩:=Zl h;simp[wzC,ZZ hw,Z0 hw,ZF hlg,ZE hlg]
open Classical in
noncomputable def d14:List AV→Option Ans
 | [.op _ w,.op _ q,.int .i64 x]=>(match xM w,ZaZ q with
  | some W,some Q=>if Sim W Q∧smW W=true∧smQ Q=true then some ⟨.tup [],[.cells 0 (wzC (ZD W x)),.cells 0 (qzC (Yh Q x))]⟩ else none
  | _,_=>none)
 | _=>none
theorem ok14:NOk [(10,true),(13,true)] d14:=by
 intro xs aa h;unfold d14 at h;split at h
 ·rename_i t1 w t2 q x
  split at h
  ·rename_i W Q hW hQ
   split at h
   ·rename_i hc
    obtain ⟨u1,u2,u3,u4,rfl⟩:=Z1 hW;obtain rfl:=YI hQ;injection h with h;subst h;have hok:=hc.1.okq;have q8:=(Zp hok).2.2.2.2.2.2.2.1;have q82:=(Zp (Za1 hok x)).2.2.2.2.2.2.2.1;obtain ⟨hcf,hw,hwl,hs0,ht0,ht1,hlg⟩:=Zl hc.1.okw;have hT:=ZZ hw;have hC:=Z0 hw;have hTl:=ZF hlg;have hCl:=ZE hlg;have hz1:=ym (ZbB hc.1.okw x);refine ⟨Zq ?_,?_⟩
    ·simp[Xc Q q8,YK Q q8,YK _ q82,wzL,hT,hC,hTl,hCl,hz1]
    ·simp
   ·cases h
  ·cases h
 ·cases h
theorem s14:Sound Tryz.prog 14 (Zi [(10,true),(13,true)] d14 ok14):=by
 refine Zj C14.a C14.b C14.c C14.d ok14 (fun xs a h=>?_) fun xs a h w0 S hS=>?_
 ·unfold d14 at h
  (repeat' (split at h))<;>first|(cases h;done)|exact Nat.le_of_ble_eq_true rfl
 unfold d14 at h;split at h
 ·rename_i t1 w t2 q x
  split at h
  ·rename_i W Q hW hQ
   split at h
   ·rename_i hcond
    obtain ⟨u1,u2,u3,u4,rfl⟩:=Z1 hW;obtain rfl:=YI hQ;injection h with h;subst h;clear hQ hW;have hE:Zb Tryz.prog (EL [(42,Zi [(10,true)] d42 ok42),(53,Zi [(10,true)] d53 ok53),(52,rdS d52 ok52),(54,rdS d54 ok54)]):=Zd (by simp only[List.mem_cons,List.not_mem_nil,or_false,forall_eq_or_imp,forall_eq];exact ⟨s42,s53,s52,s54⟩);obtain ⟨sim,hsm,hsq⟩:=hcond;have hok:=sim.okq;have hwk:=sim.okw;obtain ⟨pa,pb,pc,pd,pf,pg⟩:=sim.par;have hS0:=Z7 Q.S;have hS1:=Z6 Q.S;have hT0:=Yd Q.T;have hT1:=Yc Q.T;have hJ0:=Z9 Q.J;have hJ1:=Ya Q.J;obtain ⟨q1,q2,q3,q4,q5,q6,q7,q8,q9⟩:=Zp hok;have hL0:=ZF q8;have hL1:=ZE q8;obtain ⟨hcf,hw,hwl,hs0,ht0,ht1,hlg⟩:=Zl hwk;have hT:=ZZ hw;have hC:=Z0 hw;have hTl:=ZF hlg;have hCl:=ZE hlg;have hm:=of_decide_eq_true hsm;have hlo:loW W=true:=decide_eq_true (by omega);have hlo2:loW (ZO W)=true:=decide_eq_true (by simp only[ZO];omega);have hSl:=UF Q.S;have okt:=Y8 hwk;by_cases x0:x<0
    ·have e1:ZD W x=W:=by unfold ZD;rw[if_neg (by omega)]
     have e2:Yh Q x=Q:=(by unfold Yh;rw[if_neg (by omega)]);rw[e1,e2];simp only[qzC,wzL,wzC]at hS⊢;unfold m14
     repeat' with_reducible (first|refine ZR.h ?_|refine zI ?_|((first|refine zK hE ?_|refine zM hE ?_);intro K hK;simp[hS0,hS1,hT0,hT1,hJ0,hJ1,hL0,hL1,hT,hC,hTl,hCl,hSl,x0];(repeat' (first|refine hK _ _ ?_|apply And.intro|(intro hc;try subst hc)))<;>(try clear hK K))|(refine zJ (fun hc=>?_) (fun hc=>?_)<;>simp at hc<;>(try subst hc)))
     all_goals first|(simp;done)|(simp at *;omega)|((try simp[hS0,hS1,hT0,hT1,hJ0,hJ1,hL0,hL1,hT,hC,hTl,hCl]);refine Imp.aut ?_ ?_<;>simp[NLe,hS0,hS1,hT0,hT1,hJ0,hJ1,hL0,hL1,hT,hC,hTl,hCl])
    by_cases x1:(Q.S.length:Int)≤x
    ·have e1:ZD W x=W:=by unfold ZD;rw[if_neg (by rw[← pa,← pb];omega)]
     have e2:Yh Q x=Q:=(by unfold Yh;rw[if_neg (by omega)]);rw[e1,e2];simp only[qzC,wzL,wzC]at hS⊢;unfold m14
     repeat' with_reducible (first|refine ZR.h ?_|refine zI ?_|((first|refine zK hE ?_|refine zM hE ?_);intro K hK;simp[hS0,hS1,hT0,hT1,hJ0,hJ1,hL0,hL1,hT,hC,hTl,hCl,hSl,x0,x1];(repeat' (first|refine hK _ _ ?_|apply And.intro|(intro hc;try subst hc)))<;>(try clear hK K))|(refine zJ (fun hc=>?_) (fun hc=>?_)<;>simp at hc<;>(try subst hc)))
     all_goals first|(simp;done)|(simp at *;omega)|((try simp[hS0,hS1,hT0,hT1,hJ0,hJ1,hL0,hL1,hT,hC,hTl,hCl]);refine Imp.aut ?_ ?_<;>simp[NLe,hS0,hS1,hT0,hT1,hJ0,hJ1,hL0,hL1,hT,hC,hTl,hCl])
    have xr:0≤x∧x<Q.a*Q.b:=⟨by omega,by omega⟩;have xw:0≤x∧x<W.a*W.b:=(by rw[← pa,← pb];exact xr);have h42:∀ u u1 u2 u3 u4,d42 [.op u (wzL W u1 u2 u3 u4),.int .i64 x]=some ⟨.tup [.int .u64 (sAt W x),stA (stW W x)],[.cells 0 (wzC (ZO W))]⟩:=fun u u1 u2 u3 u4=>e42 hwk hlo xw.1 xw.2 u u1 u2 u3 u4;have hst:=sim.st x xw.1 xw.2;have hsq2:xD Q x=stW W x:=(by unfold xD;rw[List.getD_eq_getElem?_getD,hst];rfl);have h52:d52 [stA (stW W x)] []=some (YR (Zn (stW W x)).1 (Zn (stW W x)).2):=rfl;have h54:d54 [stA (stW W x)] []=some (.tup [stA (Zn (stW W x)).1,.int .i64 (Zn (stW W x)).2]):=rfl;have hg:=Tt hst;obtain ⟨X,rfl⟩:=Int.eq_ofNat_of_zero_le xr.1;rw[show (X:Int).toNat=X by omega]at hg;have hge:=YL hg;have hX:X<Q.S.length:=(by omega);have hzt:=Zas okt;have hct:=ym okt;have hrt:=ZcI okt;have hset:∀ v:StZ,(sLL Q.S).set X (stL v)=sLL (Q.S.set X v):=fun v=>(Zfv Q.S X v).symm;obtain ⟨cc,hcc⟩:∃ c,(Zn (stW W X)).1=c:=⟨_,rfl⟩;have okc:okS cc=true:=by
     have hz:=Xz (sAt W X);have:=Un hz;rw[← hcc];unfold Zn
     repeat' split
     all_goals first|exact rfl|exact decide_eq_true (by simp only[stW];omega)|exact hz
    by_cases he:(Zn (stW W X)).2=0
    ·by_cases hfl:(stW W X).fl=true
     ·have e1:ZD W X=ZO W:=by unfold ZD;rw[if_pos xw,if_neg (by rw[hfl];simp)]
      have e2:Yh Q X=Q:=(by unfold Yh;rw[if_pos xr,hsq2,if_neg (by rw[hfl];simp)]);rw[e1,e2];rw[he,hcc]at h52 h54;obtain ⟨⟨ck,cf,cg,cl,cx⟩,hss⟩:∃ s,stW W X=s:=⟨_,rfl⟩;rw[hss]at h42 h52 h54 hfl hg hge;simp only[YR,if_true,stA,stL]at h42 h52 h54 hfl hg hge;subst hfl;clear hss hst hsq2 hcc e1 e2 he sim okc;simp only[qzC,wzL]at hS h42⊢;unfold m14
      repeat' with_reducible (first|refine ZR.h ?_|refine zI ?_|((first|refine zK hE ?_|refine zM hE ?_);intro K hK;simp[hS0,hS1,hT0,hT1,hJ0,hJ1,hL0,hL1,hT,hC,hTl,hCl,hzt,hct,hSl,x0,x1,hX,hg,hge,h42,h52,h54];(repeat' (first|refine hK _ _ ?_|apply And.intro|(intro hc;try subst hc)))<;>(try clear hK K))|(refine zJ (fun hc=>?_) (fun hc=>?_)<;>simp at hc<;>(try subst hc)))
      all_goals first|(simp;done)|(simp at *;omega)|((try simp[hS0,hS1,hT0,hT1,hJ0,hJ1,hL0,hL1,hT,hC,hTl,hCl,hzt,hct,hrt]);refine Imp.aut ?_ ?_<;>simp[NLe,hS0,hS1,hT0,hT1,hJ0,hJ1,hL0,hL1,hT,hC,hTl,hCl,hzt,hct,hrt])
     ·have hfl:(stW W X).fl=false:=by simpa using hfl
      have e1:ZD W X=(Zs (ZO W) X (sAt W X) cc).2:=(by unfold ZD;rw[if_pos xw,if_pos ⟨he,hfl⟩,hcc]);have e2:Yh Q X={ Q with S:=Q.S.set X cc }:=(by unfold Yh;rw[if_pos xr,hsq2,if_pos ⟨he,hfl⟩,hcc,show (X:Int).toNat=X by omega]);have h53:∀ u,d53 [.op u (wzC (ZO W)),.int .i64 (X:Int),.int .u64 (sAt W X),stA cc]=some ⟨.bool (Zs (ZO W) X (sAt W X) cc).1,[.cells 0 (wzC (Zs (ZO W) X (sAt W X) cc).2)]⟩:=fun u=>e53 okt hlo2 xw.1 xw.2 (sAt W X) okc u 0 0 0 0;rw[e1,e2];rw[he,hcc]at h52 h54;have hok2:=Yi okt X (sAt W X) cc;have hz2:=Zas hok2;have hc2:=ym hok2;have hr2:=ZcI hok2;obtain ⟨⟨bb,W'⟩,hrr⟩:∃ r,Zs (ZO W) X (sAt W X) cc=r:=⟨_,rfl⟩;rw[hrr]at h53 hz2 hc2 hr2⊢;obtain ⟨⟨ck,cf,cg,cl,cx⟩,hss⟩:∃ s,stW W X=s:=⟨_,rfl⟩;rw[hss]at h42 h52 h54 hfl hg hge;simp only[YR,if_true,stA,stL]at h42 h52 h53 h54 hfl hg hge hset;subst hfl;have hset2:=hset cc;have hs20:=Z7 (Q.S.set X cc);have hs21:=Z6 (Q.S.set X cc);clear hss hst hsq2 hcc e1 e2 he sim okc hrr hok2 hset;simp only[qzC,wzL]at hS h42⊢;unfold m14
      repeat' with_reducible (first|refine ZR.h ?_|refine zI ?_|((first|refine zK hE ?_|refine zM hE ?_);intro K hK;simp[hS0,hS1,hT0,hT1,hJ0,hJ1,hL0,hL1,hT,hC,hTl,hCl,hzt,hct,hz2,hc2,hSl,x0,x1,hX,hg,hge,h42,h52,h53,h54,hset2,hs20,hs21];(repeat' (first|refine hK _ _ ?_|apply And.intro|(intro hc;try subst hc)))<;>(try clear hK K))|(refine zJ (fun hc=>?_) (fun hc=>?_)<;>simp at hc<;>(try subst hc)))
      all_goals first|(simp;done)|(simp at *;omega)|((try simp[hS0,hS1,hT0,hT1,hJ0,hJ1,hL0,hL1,hT,hC,hTl,hCl,hzt,hct,hz2,hc2,hr2,hset2,hs20,hs21]);refine Imp.aut ?_ ?_<;>simp[NLe,hS0,hS1,hT0,hT1,hJ0,hJ1,hL0,hL1,hT,hC,hTl,hCl,hzt,hct,hz2,hc2,hr2,hset2,hs20,hs21])
    ·have e1:ZD W X=ZO W:=by unfold ZD;rw[if_pos xw,if_neg (fun c=>he c.1)]
     have e2:Yh Q X=Q:=(by unfold Yh;rw[if_pos xr,hsq2,if_neg (fun c=>he c.1)]);rw[e1,e2];simp only[YR,if_neg he,stA,stL]at h42 h52 h54 hg hge;obtain ⟨⟨ck,cf,cg,cl,cx⟩,hss⟩:∃ s,stW W X=s:=⟨_,rfl⟩;rw[hss]at h42 h52 h54 hg hge he;simp only at h42 h52 h54 hg hge;obtain ⟨⟨ce,ci⟩,hcs⟩:∃ s,Zn ⟨ck,cf,cg,cl,cx⟩=s:=⟨_,rfl⟩;rw[hcs]at h52 h54 he;simp only at h52 h54 he;clear hss hst hsq2 hcc e1 e2 sim okc hcs;simp only[qzC,wzL]at hS h42⊢;unfold m14
     repeat' with_reducible (first|refine ZR.h ?_|refine zI ?_|((first|refine zK hE ?_|refine zM hE ?_);intro K hK;simp[hS0,hS1,hT0,hT1,hJ0,hJ1,hL0,hL1,hT,hC,hTl,hCl,hzt,hct,hSl,x0,x1,hX,hg,hge,h42,h52,h54,he];(repeat' (first|refine hK _ _ ?_|apply And.intro|(intro hc;try subst hc)))<;>(try clear hK K))|(refine zJ (fun hc=>?_) (fun hc=>?_)<;>simp at hc<;>(try subst hc)))
     all_goals first|(simp;done)|(simp at *;omega)|((try simp[hS0,hS1,hT0,hT1,hJ0,hJ1,hL0,hL1,hT,hC,hTl,hCl,hzt,hct,hrt]);refine Imp.aut ?_ ?_<;>simp[NLe,hS0,hS1,hT0,hT1,hJ0,hJ1,hL0,hL1,hT,hC,hTl,hCl,hzt,hct,hrt])
   ·cases h
  ·cases h
 ·cases h
theorem e14 {W:WZ} {Q:QZ} (h:Sim W Q) (h1:smW W=true) (h2:smQ Q=true) (x:Int) (u v:Nat):d14 [.op u (wzC W),.op v (qzC Q),.int .i64 x]=some ⟨.tup [],[.cells 0 (wzC (ZD W x)),.cells 0 (qzC (Yh Q x))]⟩:=by
 simp only[d14,show xM (wzC W)=some W from rfl,Uq];rw[if_pos ⟨h,h1,h2⟩]
end Go.W
namespace Go.W
open Go.Proofs
set_option maxRecDepth 100000
@[simp] def q13_0:List MO:=[Ma 4 (.mv (.c (.int .i64 0)))]
instance:KR Tryz.f13.ntmps q13_0:=.mk [0,1] 1
@[simp] def q13_1:List MO:=[Aa 7 0,Ma 8 (.eq false .ptr (.t 7) (.c (.raw (.pointer none))))]
instance:KR Tryz.f13.ntmps q13_1:=.mk [0,1,8] 2
@[simp] def q13_2:List MO:=[Ma 4 (.mv (.c (.int .i64 0)))]
instance:KR Tryz.f13.ntmps q13_2:=.mk [4] 1
@[simp] def q13_3:List MO:=[Aa 9 1,Ma 10 (.len (.t 9)),Ma 11 (.mv (.c (.int .i64 0)))]
instance:KR Tryz.f13.ntmps q13_3:=.mk [0,9,10,11] 3
@[simp] def q13_4:List MO:=[Ma 12 (.bin .lss (.t 11) (.t 10))]
instance:KR Tryz.f13.ntmps q13_4:=.mk [0,9,10,11,12] 1
@[simp] def q13_5:List MO:=[Am 13 1 9 11,Ac 14 1 13,Aa 6 14]
instance:KR Tryz.f13.ntmps q13_5:=.mk [0,6,9,10,11] 3
@[simp] def q13_6:List MO:=[Aa 15 6,Ma 16 (.bin .gtr (.t 15) (.c (.int .i64 0)))]
instance:KR Tryz.f13.ntmps q13_6:=.mk [0,6,9,10,11,16] 2
@[simp] def q13_7:List MO:=[Aa 17 0,Aa 18 0,Ad 19 18,Ab 20 0 19,Ac 21 1 20,Aa 22 6,Ma 23 (.conv .u64 (.t 22)),Ma 24 (.bsl 1 2 [(.int .u64 0)] [(0,(1,(.t 21))),(1,(1,(.t 23)))]),Ma 25 (.call (.c (.fn 51 [])) [(.c (.int .u64 1000000)),(.t 24)]),Ad 26 17,Ab 27 0 26,Ae 1 27 25]
instance:KR Tryz.f13.ntmps q13_7:=.mk [0,9,10,11] 12
@[simp] def q13_8:List MO:=[Ma 28 (.bin .add (.t 11) (.c (.int .i64 1))),Aa 11 28]
instance:KR Tryz.f13.ntmps q13_8:=.mk [0,9,10,11] 2
@[simp] def q13_9:List MO:=[Aa 29 0,Ad 30 29,Ab 31 0 30,Ac 32 1 31,Ma 33 (.conv .i64 (.t 32)),Aa 4 33]
instance:KR Tryz.f13.ntmps q13_9:=.mk [4] 6
def m13:MCode:=.seq (.reg q13_0) (.seq (.seq (.reg q13_1) (.cond (.t 8) (.seq (.reg q13_2) .ret) .skip)) (.seq (.seq (.reg q13_3) (.block 0 (.loop (.seq (.reg q13_4) (.seq (.cond (.t 12) .skip (.exit 0)) (.seq (.block 1 (.seq (.reg q13_5) (.seq (.reg q13_6) (.cond (.t 16) (.reg q13_7) .skip)))) (.reg q13_8))))))) (.seq (.reg q13_9) .ret)))
theorem C13:CO Tryz.prog 13 Tryz.f13 m13 [(.t 4)]:=.mk Tryz.func13
@[simp] def q51_0:List MO:=[Ma 4 (.mv (.c (.int .u64 0)))]
instance:KR Tryz.f51.ntmps q51_0:=.mk [0,1] 1
@[simp] def q51_1:List MO:=[Ma 5 (.mv (.c (.int .u64 0)))]
instance:KR Tryz.f51.ntmps q51_1:=.mk [0,1,5] 1
@[simp] def q51_2:List MO:=[Aa 8 1,Ma 9 (.len (.t 8)),Ma 10 (.mv (.c (.int .i64 0)))]
instance:KR Tryz.f51.ntmps q51_2:=.mk [0,5,8,9,10] 3
@[simp] def q51_3:List MO:=[Ma 11 (.bin .lss (.t 10) (.t 9))]
instance:KR Tryz.f51.ntmps q51_3:=.mk [0,5,8,9,10,11] 1
@[simp] def q51_4:List MO:=[Am 12 1 8 10,Ac 13 1 12,Aa 7 13]
instance:KR Tryz.f51.ntmps q51_4:=.mk [0,5,7,8,9,10] 3
@[simp] def q51_5:List MO:=[Aa 14 7,Aa 15 0,Ma 16 (.bin .gtr (.t 14) (.t 15)),Aa 17 16,Aj 18 5 17 false,Aj 19 0 17 false,Aj 20 7 17 false,Mg 21 (.bin .sub (.t 19) (.t 20)) 17 false,Mg 22 (.bin .gtr (.t 18) (.t 21)) 17 false,Af 23 17 22]
instance:KR Tryz.f51.ntmps q51_5:=.mk [0,5,7,8,9,10,23] 10
@[simp] def q51_6:List MO:=[Aa 24 0,Aa 4 24]
instance:KR Tryz.f51.ntmps q51_6:=.mk [4] 2
@[simp] def q51_7:List MO:=[Aa 25 5,Aa 26 7,Ma 27 (.bin .add (.t 25) (.t 26)),Aa 5 27]
instance:KR Tryz.f51.ntmps q51_7:=.mk [0,5,8,9,10] 4
@[simp] def q51_8:List MO:=[Ma 28 (.bin .add (.t 10) (.c (.int .i64 1))),Aa 10 28]
instance:KR Tryz.f51.ntmps q51_8:=.mk [0,5,8,9,10] 2
@[simp] def q51_9:List MO:=[Aa 29 5,Aa 30 0,Ma 31 (.mn [(.t 29),(.t 30)]),Aa 4 31]
instance:KR Tryz.f51.ntmps q51_9:=.mk [4] 4
def m51:MCode:=.seq (.reg q51_0) (.seq (.reg q51_1) (.seq (.seq (.reg q51_2) (.block 0 (.loop (.seq (.reg q51_3) (.seq (.cond (.t 11) .skip (.exit 0)) (.seq (.block 1 (.seq (.reg q51_4) (.seq (.seq (.reg q51_5) (.cond (.t 23) (.seq (.reg q51_6) .ret) .skip)) (.reg q51_7)))) (.reg q51_8))))))) (.seq (.reg q51_9) .ret)))
theorem C51:CO Tryz.prog 51 Tryz.f51 m51 [(.t 4)]:=.mk Tryz.func51
set_option linter.unusedSimpArgs false
set_option linter.unusedVariables false
set_option maxHeartbeats 8000000
attribute [local irreducible] Wm
attribute [local simp] Y5 lkp VW prs Uv prT ddL idL YN Um Ren Vt NObj.none Z4
def vQ (m a b:Int):Int:=if m<a then m else if m<b then m else if m - b<a then m else a+b
def d51:List AV→List NObj→Option AV
 | [.int .u64 m,.sl (.top 0) 0 2],[.view 0 1 [[.int .u64 a],[.int .u64 b]]]=>if 0≤m∧m≤1000000∧0≤a∧a≤1000000∧0≤b∧b≤1000000 then some (.int .u64 (vQ m a b)) else none
 | _,_=>none
theorem ok51:ROk d51:=by
 intro xs os r h;unfold d51 at h
 (repeat' (split at h))<;>first|(cases h;done)|(injection h with h;subst h;simp)
theorem s51:Sound Tryz.prog 51 (rdS d51 ok51):=by
 refine Zo C51.a C51.b C51.c C51.d ok51 fun xs os r h vs ρ0 hvs=>⟨xs,?_,fun _ h=>h,fun w0 S hS=>?_⟩
 ·unfold d51 at h
  (repeat' (split at h))<;>first|(cases h;done)|exact Nat.le_of_ble_eq_true rfl
 unfold d51 at h;split at h
 ·split at h
  ·rename_i m a b hcond
   injection h with h;subst h;have hE:Zb Tryz.prog (EL []):=Zd (by simp);obtain ⟨m0,m1,a0,a1,b0,b1⟩:=hcond;have wk1:IntKind.wrap .i64 1=1:=(by rfl);have wk2:IntKind.wrap .i64 2=2:=(by rfl);have w0:IntKind.wrap .u64 m=m:=YM (by omega) (by omega);have wa:IntKind.wrap .u64 a=a:=YM (by omega) (by omega);have q1:¬ (m<0):=(by omega);by_cases h1:m<a
   ·have e1:vQ m a b=m:=if_pos h1
    unfold m51
    repeat' with_reducible (first|refine ZR.h ?_|refine zI ?_|(refine zK hE ?_;intro K hK;simp[wk1,wk2,h1,e1,w0];(repeat' (first|refine hK _ _ ?_|apply And.intro|(intro hc;try subst hc)))<;>(try clear hK K))|(refine zJ (fun hc=>?_) (fun hc=>?_)<;>simp at hc<;>(try subst hc)))
    all_goals (try refine YF 3 ?_)
    repeat' with_reducible (first|refine ZR.h ?_|refine zI ?_|(refine zK hE ?_;intro K hK;simp[wk1,wk2,h1,e1,w0];(repeat' (first|refine hK _ _ ?_|apply And.intro|(intro hc;try subst hc)))<;>(try clear hK K))|(refine zJ (fun hc=>?_) (fun hc=>?_)<;>simp at hc<;>(try subst hc)))
    all_goals first|(simp;done)|(simp at *;omega)|((try simp[e1]);refine Imp.aut ?_ ?_<;>simp[NLe,e1])
   ·have ws:IntKind.wrap .u64 (m - a)=m - a:=YM (by omega) (by omega)
    have q2:¬ (m - a<0):=(by omega);by_cases h2:m<b
    ·have e1:vQ m a b=m:=by unfold vQ;rw[if_neg h1,if_pos h2]
     unfold m51
     repeat' with_reducible (first|refine ZR.h ?_|refine zI ?_|(refine zK hE ?_;intro K hK;simp[wk1,wk2,h1,h2,e1,w0,wa,ws,q1,q2];(repeat' (first|refine hK _ _ ?_|apply And.intro|(intro hc;try subst hc)))<;>(try clear hK K))|(refine zJ (fun hc=>?_) (fun hc=>?_)<;>simp at hc<;>(try subst hc)))
     all_goals (try refine YF 3 ?_)
     repeat' with_reducible (first|refine ZR.h ?_|refine zI ?_|(refine zK hE ?_;intro K hK;simp[wk1,wk2,h1,h2,e1,w0,wa,ws,q1,q2];(repeat' (first|refine hK _ _ ?_|apply And.intro|(intro hc;try subst hc)))<;>(try clear hK K))|(refine zJ (fun hc=>?_) (fun hc=>?_)<;>simp at hc<;>(try subst hc)))
     all_goals first|(simp;done)|(simp at *;omega)|((try simp[e1]);refine Imp.aut ?_ ?_<;>simp[NLe,e1])
    ·have wb:IntKind.wrap .u64 (m - b)=m - b:=YM (by omega) (by omega)
     by_cases h3:m - b<a
     ·have e1:vQ m a b=m:=by unfold vQ;rw[if_neg h1,if_neg h2,if_pos h3]
      unfold m51
      repeat' with_reducible (first|refine ZR.h ?_|refine zI ?_|(refine zK hE ?_;intro K hK;simp[wk1,wk2,h1,h2,h3,e1,w0,wa,ws,wb,q1,q2];(repeat' (first|refine hK _ _ ?_|apply And.intro|(intro hc;try subst hc)))<;>(try clear hK K))|(refine zJ (fun hc=>?_) (fun hc=>?_)<;>simp at hc<;>(try subst hc)))
      all_goals (try refine YF 3 ?_)
      repeat' with_reducible (first|refine ZR.h ?_|refine zI ?_|(refine zK hE ?_;intro K hK;simp[wk1,wk2,h1,h2,h3,e1,w0,wa,ws,wb,q1,q2];(repeat' (first|refine hK _ _ ?_|apply And.intro|(intro hc;try subst hc)))<;>(try clear hK K))|(refine zJ (fun hc=>?_) (fun hc=>?_)<;>simp at hc<;>(try subst hc)))
      all_goals first|(simp;done)|(simp at *;omega)|((try simp[e1]);refine Imp.aut ?_ ?_<;>simp[NLe,e1])
     ·have e1:vQ m a b=a+b:=by unfold vQ;rw[if_neg h1,if_neg h2,if_neg h3]
      have wab:IntKind.wrap .u64 (a+b)=a+b:=YM (by omega) (by omega);have h4:¬ m<a+b:=(by omega);unfold m51
      repeat' with_reducible (first|refine ZR.h ?_|refine zI ?_|(refine zK hE ?_;intro K hK;simp[wk1,wk2,h1,h2,h3,h4,e1,w0,wa,ws,wb,wab,q1,q2];(repeat' (first|refine hK _ _ ?_|apply And.intro|(intro hc;try subst hc)))<;>(try clear hK K))|(refine zJ (fun hc=>?_) (fun hc=>?_)<;>simp at hc<;>(try subst hc)))
      all_goals (try refine YF 3 ?_)
      repeat' with_reducible (first|refine ZR.h ?_|refine zI ?_|(refine zK hE ?_;intro K hK;simp[wk1,wk2,h1,h2,h3,h4,e1,w0,wa,ws,wb,wab,q1,q2];(repeat' (first|refine hK _ _ ?_|apply And.intro|(intro hc;try subst hc)))<;>(try clear hK K))|(refine zJ (fun hc=>?_) (fun hc=>?_)<;>simp at hc<;>(try subst hc)))
      all_goals first|(simp;done)|(simp at *;omega)|((try simp[e1]);refine Imp.aut ?_ ?_<;>simp[NLe,e1])
  ·cases h
 ·cases h
def goZ (t n:Int):Int:=if 0<n then vQ 1000000 t n else t
def d13:List AV→Option Ans
  | [.op _ [.int .u64 t],.os _ 1 [[.int .i64 n]]]=>if 0≤t∧t≤1000000∧n≤1000000 then some ⟨.int .i64 (goZ t n),[.cells 0 [.int .u64 (goZ t n)],.free]⟩ else none
  | _=>none
theorem ZfL {a b:Int} (h0:0≤a) (h1:a≤1000000) (h2:0≤b) (h3:b≤1000000):0≤vQ 1000000 a b∧vQ 1000000 a b≤1000000:=by
  unfold vQ;repeat' split
  all_goals omega
theorem Zb9 {t n:Int} (h0:0≤t) (h1:t≤1000000) (h3:n≤1000000):0≤goZ t n∧goZ t n≤1000000:=by
  unfold goZ;split
  · exact ZfL h0 h1 (by omega) h3
  · exact ⟨h0,h1⟩
theorem ok13:NOk [(1,true),(1,false)] d13:=by
  intro xs a h;unfold d13 at h
  (repeat' (split at h))<;>first|(cases h;done)|(injection h with h;subst h;refine ⟨Zq ?_,?_⟩<;>simp)
theorem s13:Sound Tryz.prog 13 (Zi [(1,true),(1,false)] d13 ok13):=by
  refine Zj C13.a C13.b C13.c C13.d ok13 (fun xs a h=>?_) fun xs a h w0 S hS=>?_
  · unfold d13 at h
    (repeat' (split at h))<;>first|(cases h;done)|exact Nat.le_of_ble_eq_true rfl
  unfold d13 at h;split at h
  · split at h
    · rename_i u0 t u1 n hcond
      injection h with h
      subst h
      have hE:Zb Tryz.prog (EL [(51,rdS d51 ok51)]):=Zd (by simp only[List.mem_cons,List.not_mem_nil,or_false,forall_eq_or_imp,forall_eq];exact s51)
      obtain ⟨t0,t1,n1⟩:=hcond
      have hg:=Zb9 t0 t1 n1
      have wk1:IntKind.wrap .i64 1=1:=by rfl
      have wg:IntKind.wrap .i64 (goZ t n)=goZ t n:=Zh (by omega) (by omega)
      by_cases h1:0<n
      · have e1:goZ t n=vQ 1000000 t n:=if_pos h1
        have wn:IntKind.wrap .u64 n=n:=YM (by omega) (by omega)
        have h69:d51 [.int .u64 1000000,.sl (.top 0) 0 2] [.view 0 1 [[.int .u64 t],[.int .u64 n]]]=some (.int .u64 (vQ 1000000 t n)):=by simp only[d51];rw[if_pos ⟨by omega,by omega,t0,t1,by omega,n1⟩]
        rw[e1]at wg hg⊢
        obtain ⟨z,hz⟩:∃ z,vQ 1000000 t n=z:=⟨_,rfl⟩
        rw[hz]at wg h69 hg⊢
        unfold m13
        repeat' with_reducible (first|refine ZR.h ?_|refine zI ?_|(refine zK hE ?_;intro K hK;simp[wk1,wg,wn,h1,h69];(repeat' (first|refine hK _ _ ?_|apply And.intro|(intro hc;try subst hc)))<;>(try clear hK K))|(refine zJ (fun hc=>?_) (fun hc=>?_)<;>simp at hc<;>(try subst hc)))
        all_goals (try refine YF 2 ?_)
        repeat' with_reducible (first|refine ZR.h ?_|refine zI ?_|(refine zK hE ?_;intro K hK;simp[wk1,wg,wn,h1,h69];(repeat' (first|refine hK _ _ ?_|apply And.intro|(intro hc;try subst hc)))<;>(try clear hK K))|(refine zJ (fun hc=>?_) (fun hc=>?_)<;>simp at hc<;>(try subst hc)))
        all_goals first|(simp;done)|(simp at *;omega)|((try simp);refine Imp.aut ?_ ?_<;>simp[NLe])
      · have e1:goZ t n=t:=if_neg h1
        rw[e1]at wg hg⊢
        unfold m13
        repeat' with_reducible (first|refine ZR.h ?_|refine zI ?_|(refine zK hE ?_;intro K hK;simp[wk1,wg,h1];(repeat' (first|refine hK _ _ ?_|apply And.intro|(intro hc;try subst hc)))<;>(try clear hK K))|(refine zJ (fun hc=>?_) (fun hc=>?_)<;>simp at hc<;>(try subst hc)))
        all_goals (try refine YF 2 ?_)
        repeat' with_reducible (first|refine ZR.h ?_|refine zI ?_|(refine zK hE ?_;intro K hK;simp[wk1,wg,h1];(repeat' (first|refine hK _ _ ?_|apply And.intro|(intro hc;try subst hc)))<;>(try clear hK K))|(refine zJ (fun hc=>?_) (fun hc=>?_)<;>simp at hc<;>(try subst hc)))
        all_goals first|(simp;done)|(simp at *;omega)|((try simp);refine Imp.aut ?_ ?_<;>simp[NLe])
    · cases h
  · cases h
end Go.W
namespace Go.W
open Go.Proofs
set_option linter.unusedSimpArgs false
set_option linter.unusedVariables false
set_option maxHeartbeats 8000000
theorem okQ_u {Q:QZ} (h:okQ Q=true) {v:Int} (hv:0≤v):okQ { Q with u:=v }=true:=by
 obtain ⟨k1,k2,k3,k4,k5,k6,k7,k8,k9⟩:=Zp h;exact decide_eq_true ⟨k1,k2,k3,k4,k5,k6,k7,k8,hv⟩
theorem sim_u {W:WZ} {Q:QZ} (h:Sim W Q) {v:Int} (hv:0≤v):Sim W { Q with u:=v }:=by
 obtain ⟨h1,h2,h3,h4,h5,h6,h7,h8⟩:=h;exact ⟨h1,okQ_u h2 hv,h3,h4,h5,h6,h7,h8⟩
theorem Zat {W:WZ} {Q:QZ} (h:Sim W Q):Sim (ZO W) Q:=by
 obtain ⟨h1,h2,h3,h4,h5,h6,h7,h8⟩:=h;exact ⟨Y8 h1,h2,h3,h4,h5,h6,h7,h8⟩
theorem Zbz {W:WZ} {Q:QZ} (h:Sim W Q) (hg:zZ W) (x:Int):Sim (ZD W x) (Yh Q x)∧zZ (ZD W x):=by
 obtain ⟨pa,pb,pc,pd,pf,pg⟩:=h.par;unfold ZD Yh;by_cases c:0≤x∧x<W.a*W.b
 ·rw[if_pos c,if_pos (show 0≤x∧x<Q.a*Q.b by rw[pa,pb];exact c),sQ h c.1 c.2,show Za (sAt W x)=stW W x from rfl]
  by_cases e:(Zn (stW W x)).2=0∧(stW W x).fl=false
  ·simp only[if_pos e]
   obtain ⟨g0,g1,g2,g3,g4,g5,g6,g7,g8,g9⟩:=hg x c.1 c.2;have hS:(Zn (stW W x)).1.g=(stW W x).g∧(Zn (stW W x)).1.l=(stW W x).l∧(Zn (stW W x)).1.f=(stW W x).f∧0≤(Zn (stW W x)).1.k∧(Zn (stW W x)).1.k≤8∧(stW W x).k≠0:=by
    have he:=e.1;revert he;unfold Zn
    repeat' split
    ·rename_i k;intro _;exact ⟨rfl,rfl,rfl,by simp,by simp,by omega⟩
    ·rename_i k;intro _;exact ⟨rfl,rfl,rfl,by simp,by simp,by omega⟩
    ·rename_i k;intro _;exact ⟨rfl,rfl,rfl,by simp only;omega,by simp only;omega,by omega⟩
    ·rename_i k;intro _;exact ⟨rfl,rfl,rfl,by simp only;omega,by simp only;omega,by omega⟩
    ·intro k;simp at k
   obtain ⟨s1,s2,s3,s4,s5,s6⟩:=hS;obtain ⟨v,hv⟩:=Vr (s:=(Zn (stW W x)).1) s4 s5 (by rw[s1];exact g3) (by rw[s1];exact g4) (by rw[s2];exact g5) (by rw[s2];exact g6) (by rw[s3];exact g7) (by rw[s3];exact g8);have h2:=Zat h;have st:=T1 h2 (old:=sAt W x) c.1 c.2 (show ZdU (sAt (ZO W) x) from g0) g0 hv;have hst:=h.st x c.1 c.2;have ht:ZY Q x (Za (sAt W x)) (Zn (stW W x)).1=(true,{ Q with S:=Q.S.set x.toNat (Zn (stW W x)).1,u:=Q.u+1 }):=by
    unfold ZY;exact if_pos hst
   have hs:=st.2.1;rw[ht]at hs;have u0:=(Zp h.okq).2.2.2.2.2.2.2.2;have hs2:=sim_u hs u0;refine ⟨hs2,UK (Y8 h.okw) (xp hg) c.1 c.2 fun _=>?_⟩;rw[s1,s3];exact g9 s6
  ·simp only[if_neg e]
   exact ⟨Zat h,xp hg⟩
 ·rw[if_neg c,if_neg (show ¬ (0≤x∧x<Q.a*Q.b) by rw[pa,pb];exact c)]
  exact ⟨h,hg⟩
section
variable {B:WZ} {was:Int→Int} {W:WZ} {Ts:List TZ}
theorem Zbq (h:V0 B was W Ts) (x:Int):V0 B was (ZD W x) Ts:=by
 unfold ZD;have p:=Xe h.2.1;by_cases c:0≤x∧x<W.a*W.b
 ·rw[if_pos c]
  by_cases e:(Zn (stW W x)).2=0∧(stW W x).fl=false
  ·rw[if_pos e]
   have x1:x<B.a*B.b:=(by rw[← p.1,← p.2.1];exact c.2);exact ZdT (W:=ZO W) (z:=x) (old:=sAt W x) (vZ h) c.1 x1 rfl e.2 e.1
  ·rw[if_neg e];exact vZ h
 ·rw[if_neg c];exact h
def goW (W:WZ) (n:Int):WZ:={ W with t:=goZ W.t n }
def goQ (Q:QZ) (n:Int):QZ:={ Q with now:=goZ Q.now n }
theorem ZfB (h:okW W=true) {n:Int} (hn:n≤1000000):okW (goW W n)=true:=by
 obtain ⟨h1,h2,h3,h4,h5,h6,h7⟩:=Zl h;have:=Zb9 h5 h6 hn;exact decide_eq_true ⟨h1,h2,h3,h4,this.1,this.2,h7⟩
theorem ZhH {Q:QZ} (h:Sim W Q) {n:Int} (hn:n≤1000000):Sim (goW W n) (goQ Q n):=by
 have h1:=ZfB h.okw hn;obtain ⟨k1,k2,k3,k4,k5,k6,k7,k8,k9⟩:=Zp h.okq;have:=Zb9 k6 k7 hn;obtain ⟨g1,g2,g3,g4,g5,g6,g7,g8⟩:=h;exact ⟨h1,decide_eq_true ⟨k1,k2,k3,k4,k5,this.1,this.2,k8,k9⟩,g3,g4,g5,g6,by show goZ Q.now n=goZ W.t n;rw[g7],g8⟩
theorem xl (W:WZ) (x:Int):(ZD W x).s≤W.s+2∧(ZD W x).lg=W.lg∧(ZD W x).a=W.a∧(ZD W x).b=W.b∧(ZD W x).f=W.f∧(ZD W x).g=W.g:=by
 unfold ZD
 repeat' split
 ·have h1:=Xo (ZO W) x (sAt W x) (Zn (stW W x)).1
  have h2:=Xe (YE (ZO W) x (sAt W x) (Zn (stW W x)).1);refine ⟨?_,h1.2.1,h2.1,h2.2.1,h2.2.2.2.2.1,h2.2.2.2.2.2.1⟩;have:(ZO W).s=W.s+1:=rfl;omega
 ·exact ⟨by show W.s+1≤W.s+2;omega,rfl,rfl,rfl,rfl,rfl⟩
 ·exact ⟨by omega,rfl,rfl,rfl,rfl,rfl⟩
theorem Zbj (Q:QZ) (x:Int):(Yh Q x).u=Q.u∧(Yh Q x).lg=Q.lg:=by
 unfold Yh
 repeat' split
 all_goals exact ⟨rfl,rfl⟩
end
theorem Zaf {s:StZ} (h:okS s=true):smS s=true:=by
 have:=Un h;exact decide_eq_true ⟨by omega,by omega,by omega,by omega,by omega,by omega⟩
theorem ZhY {T:TZ} (hT:okT T=true):okR (rOf T)=true:=by
 obtain ⟨p0,p1,x0,x1,y0,y1,a0,a1,b0,b1,_,_,_,_,_,_,_,_,nx,ny⟩:=XM hT;exact decide_eq_true ⟨p0,p1,Zaf (Xz _),Zaf (Xz _),Zaf nx,Zaf ny,a0,a1,b0,b1⟩
theorem ZgI {W:WZ} {Q:QZ} {T:TZ} (h:Sim W Q) (ht:Zak W.g W.f T) (hl:Zdc T):Zhj Q (rOf T)=true:=by
 obtain ⟨pa,pb,pc,pd,pf,pg⟩:=h.par;obtain ⟨t1,t2,t3,t4,t5,t6,t7⟩:=ht;rw[← pf,← pg]at t6 t7;refine Zf7 fun _=>⟨fun k m=>?_,fun k m=>?_,fun k m _=>?_,fun k m _=>?_⟩
 ·replace k:T.pc=10:=k
  obtain ⟨f1,f2,f3⟩:=t7 ((hl.1 (by omega)).1 m);have f4:=f1.2.2.2.2.2.2.2.2 f2;have f5:=f3 m;exact ⟨f4.1,f4.2.1,by show 0≤T.nx.f - 1;omega,by show T.nx.f - 1≤Q.f;omega⟩
 ·obtain ⟨n1,n2,n3,_⟩:=t6 m
  have n4:=n1.2.2.2.2.2.2.2.2 n2;exact ⟨n4.1,n4.2.1,by show 0≤T.ny.f - 1;omega,by show T.ny.f - 1≤Q.f;omega⟩
 ·obtain ⟨n1,n2,n3,_⟩:=t6 m
  have n4:=n1.2.2.2.2.2.2.2.2 n2;exact ⟨n4.1,n4.2.1⟩
 ·replace k:T.pc=13:=k
  obtain ⟨f1,f2,f3⟩:=t7 ((hl.1 (by omega)).2 m);have f4:=f1.2.2.2.2.2.2.2.2 f2;exact ⟨f4.1,f4.2.1⟩
def ZcK (W:WZ) (Q:QZ) (Ts:List TZ):Prop:=(∃ B was,V0 B was W Ts)∧Sim W Q∧zZ W∧(∀ T,T∈Ts→Zak W.g W.f T)∧∀ T,T∈Ts→okT T=true
theorem Zfn {W:WZ} {Q:QZ} {Ts:List TZ} (h:ZcK W Q Ts) {T:TZ} (hT:T∈Ts):Zdc T∧((T.pc≤5→T.made=false)∧(T.pc≤7→T.free=false)∧T.pc≤14)∧0≤T.pc:=by
 obtain ⟨⟨B,was,hJ⟩,_⟩:=h;have hj:=hJ.2.2.2.2 T hT;refine ⟨Zge hj,?_,hj.1⟩;obtain ⟨h0,h1,h2,h3,h4,h5,h6⟩:=hj;exact ⟨h4,h5,h1⟩
theorem Zab {α:Type} {l:List α} {k:Nat} {a:α} {p:α→Prop} (h:∀ x,x∈l→p x) (ha:p a):∀ x,x∈l.set k a→p x:=fun x hx=>by
 rcases List.mem_or_eq_of_mem_set hx with h3|h3
 ·exact h x h3
 ·rw[h3];exact ha
theorem Zew {W:WZ} {Q:QZ} {Ts:List TZ} (h:ZcK W Q Ts) {k:Nat} {T:TZ} (hk:Ts[k]?=some T):∃ Q',ZX Q (rOf T)=(rOf (ZC W T).1,Q')∧ZcK (ZC W T).2 Q' (Ts.set k (ZC W T).1)∧(ZC W T).2.s - W.s=Q'.u - Q.u:=by
 have hm:=List.mem_of_getElem? hk;obtain ⟨e1,e2,e3⟩:=Zfn h hm;obtain ⟨⟨B,was,hJ⟩,hs,hg,hgt,hok⟩:=h;obtain ⟨Q',s1,s2,s3,s4,s5⟩:=ZeE hs hg (hgt T hm) (hok T hm) e1 e2;have hJ2:=Zd5 hJ hk;have hp:=Xe (hJ2.2.1.trans hJ.2.1.symm);refine ⟨Q',s1,⟨⟨B,was,hJ2⟩,s2,s4,?_,Zab hok (ZcB (hok T hm) hs.okw)⟩,s3⟩;rw[hp.2.2.2.2.1,hp.2.2.2.2.2.1];exact Zab hgt s5
theorem Zbw {W:WZ} {Q:QZ} {Ts:List TZ} (h:ZcK W Q Ts) (x:Int):ZcK (ZD W x) (Yh Q x) Ts:=by
 obtain ⟨⟨B,was,hJ⟩,hs,hg,hgt,hok⟩:=h;obtain ⟨s1,s2⟩:=Zbz hs hg x;have hf:=xl W x;refine ⟨⟨B,was,Zbq hJ x⟩,s1,s2,?_,hok⟩;rw[hf.2.2.2.2.1,hf.2.2.2.2.2];exact hgt
theorem ZhP {W:WZ} {Q:QZ} {Ts:List TZ} (h:ZcK W Q Ts) {n:Int} (hn:n≤1000000):ZcK (goW W n) (goQ Q n) Ts:=by
 obtain ⟨⟨B,was,hJ⟩,hs,hg,hgt,hok⟩:=h;refine ⟨⟨goW B n,was,?_⟩,ZhH hs hn,hg,hgt,hok⟩;obtain ⟨j1,j2,j3,j4,j5⟩:=hJ;have p:=Xe j2;refine ⟨ZfB j1 hn,?_,j3,j4,j5⟩;simp only[TD,Prod.mk.injEq]at j2⊢;obtain ⟨k1,k2,k3,k4,k5,k6,k7,k8⟩:=j2;exact ⟨k1,k2,k3,k4,k5,k6,k7,by show goZ W.t n=goZ B.t n;rw[k8]⟩
def trs (Ts:List TZ):List (List AV):=Ts.map fun T=>[.op 0 (tzC T)]
theorem Uw (Ts:List TZ):(trs Ts).length=Ts.length:=by unfold trs;rw[List.length_map]
theorem ZcJ {Ts:List TZ} {k:Nat} {T:TZ} (h:Ts[k]?=some T):(trs Ts)[k]?=some [.op 0 (tzC T)]:=by unfold trs;rw[List.getElem?_map,h];rfl
theorem ZgY (u:Nat) (T:TZ):t0L [.op u (tzC T)]=[.op 0 (tzC T)]:=by simp[t0L,AV.t0,Zef]
theorem op_cl (T:TZ):clL [.op 0 (tzC T)]=true:=by simp[clL,AV.cl,ZdH]
theorem tz_tl (n:Nat) (T:TZ):tlL n (tzC T)=true:=by simp[tzC,tlL,AV.tl]
theorem yc (Ts:List TZ):ZG (trs Ts)=trs Ts:=by
 induction Ts with
 | nil=>rfl
 | cons T l ih=>show t0L [.op 0 (tzC T)] :: ZG (trs l)=_;rw[ZgY,ih];rfl
theorem vX (Ts:List TZ):Yp (trs Ts)=true:=by
 induction Ts with
 | nil=>rfl
 | cons T l ih=>show (clL [.op 0 (tzC T)]&&Yp (trs l))=true;rw[op_cl,ih];rfl
theorem Zii {n:Nat} (hn:0<n) (Ts:List TZ):UD n (trs Ts)=true:=by
 induction Ts with
 | nil=>rfl
 | cons T l ih =>
  show (tlL n [.op 0 (tzC T)]&&UD n (trs l))=true;rw[ih];simp[tlL,AV.tl,tz_tl,hn]
theorem xN (l:List (List AV)) (k:Nat) (r:List AV):ZG (l.set k r)=(ZG l).set k (t0L r):=by
 induction l generalizing k with
 | nil=>rfl
 | cons a l ih =>
  cases k with
  | zero=>rfl
  | succ k=>show t0L a :: ZG (l.set k r)=_;rw[ih];rfl
theorem Zhd (Ts:List TZ) (k u:Nat) (T:TZ):ZG ((trs Ts).set k [.op u (tzC T)])=trs (Ts.set k T):=by
 rw[xN,yc,ZgY];unfold trs;rw[List.map_set]
theorem Zgf {Ts:List TZ} {k:Nat} (h:Ts.length=k) (r:List AV):(trs Ts++[r])[k]?=some r:=by
 rw[List.getElem?_append_right (by rw[Uw];omega),Uw,h];simp
theorem Zgp {Ts:List TZ} {k:Nat} (h:Ts.length=k) (r:List AV) (u:Nat) (T:TZ):ZG ((trs Ts++[r]).set k [.op u (tzC T)])=trs (Ts++[T]):=by
 have e:(trs Ts++[r]).set k [.op u (tzC T)]=trs Ts++[[.op u (tzC T)]]:=by
  rw[List.set_append_right _ _ (by rw[Uw];omega),Uw,h];simp
 rw[e,vC,yc];show trs Ts++[t0L [.op u (tzC T)]]=_;rw[ZgY];unfold trs;simp
def tzA:List AV→TZ
 | [.int .i64 w,.int .i64 x,.int .i64 g,.int .i64 y,.int .i64 s]=>tz0 w x g y s
 | _=>tz0 0 0 0 0 0
def tAm (am:List (List AV)) (k:Nat):List TZ:=(am.take k).map tzA
theorem Zgn {am:List (List AV)} {k:Nat} (h:k≤am.length):(tAm am k).length=k:=by unfold tAm;rw[List.length_map,List.length_take];omega
theorem Zd4 {am:List (List AV)} {k:Nat} {r:List AV} (h:am[k]?=some r):tAm am (k+1)=tAm am k++[tzA r]:=by
 unfold tAm;rw[List.take_add_one,h];simp
theorem ZgQ {am:List (List AV)} {k:Nat}:∀ T,T∈tAm am k→∃ w x g y s,T=tz0 w x g y s:=by
 intro T hT;unfold tAm at hT;obtain ⟨r,_,rfl⟩:=List.mem_map.1 hT;unfold tzA;split
 ·exact ⟨_,_,_,_,_,rfl⟩
 ·exact ⟨_,_,_,_,_,rfl⟩
def Zdp:List AV→Bool
 | [.int .i64 w,.int .i64 x,.int .i64 g,.int .i64 y,.int .i64 s]=>true
 | _=>false
theorem vi {r:List AV} (h:Zdp r=true):∃ w x g y s:Int,r=[.int .i64 w,.int .i64 x,.int .i64 g,.int .i64 y,.int .i64 s]:=by
 unfold Zdp at h;split at h
 ·exact ⟨_,_,_,_,_,rfl⟩
 ·cases h
def Zc1:List AV→Bool
 | [.int .i64 k,.int .i64 n]=>true
 | _=>false
theorem vq {r:List AV} (h:Zc1 r=true):∃ k n:Int,r=[.int .i64 k,.int .i64 n]:=by
 unfold Zc1 at h;split at h
 ·exact ⟨_,_,rfl⟩
 ·cases h
theorem vA (f:List AV→Bool) (hf:∀ r,f r=true→t0L r=r):∀ {l:List (List AV)},l.all f=true→ZG l=l
 | [],_=>rfl
 | a :: l,h=>by
  simp only[List.all_cons,Bool.and_eq_true]at h;show t0L a :: ZG l=_;rw[hf a h.1,vA f hf h.2]
theorem vl (f:List AV→Bool) (hf:∀ r,f r=true→clL r=true):∀ {l:List (List AV)},l.all f=true→Yp l=true
 | [],_=>rfl
 | a :: l,h=>by
  simp only[List.all_cons,Bool.and_eq_true]at h;show (clL a&&Yp l)=true;rw[hf a h.1,vl f hf h.2];rfl
theorem Ze3 {l:List (List AV)} (h:l.all Zdp=true):ZG l=l:=vA Zdp (fun r hr=>by obtain ⟨w,x,g,y,s,rfl⟩:=vi hr;simp[t0L,AV.t0]) h
theorem Zfd {l:List (List AV)} (h:l.all Zdp=true):Yp l=true:=vl Zdp (fun r hr=>by obtain ⟨w,x,g,y,s,rfl⟩:=vi hr;simp[clL,AV.cl]) h
theorem ZbZ {l:List (List AV)} (h:l.all Zc1=true):ZG l=l:=vA Zc1 (fun r hr=>by obtain ⟨k,n,rfl⟩:=vq hr;simp[t0L,AV.t0]) h
theorem ZcF {l:List (List AV)} (h:l.all Zc1=true):Yp l=true:=vl Zc1 (fun r hr=>by obtain ⟨k,n,rfl⟩:=vq hr;simp[clL,AV.cl]) h
theorem ZbN {f:List AV→Bool} {l:List (List AV)} (h:l.all f=true) {k:Nat} (hk:k<l.length):∃ r,l[k]?=some r∧f r=true :=
 ⟨l[k],List.getElem?_eq_getElem hk,List.all_eq_true.1 h _ (List.getElem_mem hk)⟩
end Go.W
