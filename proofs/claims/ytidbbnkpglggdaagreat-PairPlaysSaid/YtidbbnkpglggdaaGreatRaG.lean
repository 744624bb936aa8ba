/- A part of the proofs about the pair's laws (RaG). -/
import Derived.Test.YtidbbnkpglggdaaGreatRaF
import Derived.Test.YtidbbnkpglggdaaGreatSbE
namespace Go.W
open Go.Proofs
set_option linter.unusedSimpArgs false
set_option linter.unusedVariables false
set_option maxHeartbeats 8000000
attribute [local irreducible] Wm
attribute [local simp] Y5 lkp VW prs Uv prT ddL idL YN Um Ren Vt NObj.none Z4
theorem Zc8 (R:RZ) (φ:TP):YN φ (rzC R) (rzC R):=by simp[rzC]
def U6:MCode:=(.seq (.reg q10_6) (.cond (.t 77) (.seq (.draw q10_7 p10_7) (.reg q10_8)) (.seq (.reg q10_9) (.cond (.t 97) (.seq (.draw q10_10 p10_10) (.reg q10_11)) (.seq (.reg q10_12) (.cond (.t 117) (.seq (.draw q10_13 p10_13) (.seq (.seq (.reg q10_14) (.cond (.t 142) (.draw q10_15 p10_15) .skip)) (.seq (.reg q10_16) (.cond (.t 181) (.seq (.reg q10_17) (.seq (.reg q10_18) (.draw q10_19 p10_19))) .skip)))) (.seq (.reg q10_20) (.cond (.t 202) (.seq (.draw q10_21 p10_21) (.reg q10_22)) (.seq (.reg q10_23) (.cond (.t 222) (.seq (.draw q10_24 p10_24) (.reg q10_25)) (.seq (.reg q10_26) (.cond (.t 242) (.reg q10_27) (.seq (.seq (.reg q10_28) (.cond (.t 247) .skip (.reg q10_29))) (.cond (.t 247) (.seq (.reg q10_30) (.cond (.t 260) (.seq (.draw q10_31 p10_31) (.reg q10_32)) .skip)) (.seq (.seq (.reg q10_33) (.cond (.t 279) .skip (.reg q10_34))) (.cond (.t 279) (.reg q10_35) (.seq (.reg q10_36) (.cond (.t 285) (.seq (.reg q10_37) (.cond (.t 290) (.draw q10_38 p10_38) .skip)) (.seq (.reg q10_39) (.cond (.t 326) (.seq (.reg q10_40) (.cond (.t 331) (.draw q10_41 p10_41) .skip)) (.seq (.reg q10_42) (.cond (.t 367) (.seq (.draw q10_43 p10_43) (.seq (.reg q10_44) (.cond (.t 387) (.draw q10_45 p10_45) .skip))) (.seq (.reg q10_46) (.cond (.t 403) (.seq (.draw q10_47 p10_47) (.seq (.reg q10_48) (.cond (.t 423) (.draw q10_49 p10_49) .skip))) .skip))))))))))))))))))))))))
def HyR (S:Sc) (R:RZ) (Q:QZ):Prop:=S.m=2∧okR R=true∧okQ Q=true∧smQ Q=true∧0≤R.x∧R.x<Q.a*Q.b∧0≤R.y∧R.y<Q.a*Q.b
def K10 (R:RZ) (Q:QZ) (k:Int):St:=⟨[(0,.ptr (.top 0) 0 0),(1,.ptr (.top 1) 0 0),(5,.ptr (.top 2) 0 0),(76,.int .i64 k)],[(0,.cells 0 (rzC R)),(1,.cells 0 (qzC Q)),(2,.cells 0 [.int .i64 R.way,.int .i64 R.x,.int .i64 R.gn,.int .i64 R.y,.int .i64 R.sh])],3⟩
def ELt:List (FuncId×Spec):=[(45,rdS d45 ok45),(46,Zi [(13,true)] d46 ok46),(49,Zi [(13,true)] d49 ok49),(50,rdS d50 ok50),(47,Zi [(43,true),(13,true)] d47 ok47),(48,Zi [(43,true),(13,true)] d48 ok48)]
theorem XR:Zb Tryz.prog (EL ELt):=Zd (by
 simp only[ELt,List.mem_cons,List.not_mem_nil,or_false,forall_eq_or_imp,forall_eq];exact ⟨s45,s46,s49,s50,s47,s48⟩)
theorem w10_0 {w0:World} {S:Sc} {Qx:Exit→St→Prop} {R:RZ} {Q:QZ} (hH:HyR S R Q)
  (hQ:∀ tl hl nb,Imp 2 ⟨[(0,.tup [])],hl,nb⟩ ⟨[(0,.tup [])],[(0,.cells 0 (rzC (c0R Q R).1)),(1,.cells 0 (qzC (c0R Q R).2))],2⟩→Qx .normal ⟨tl,hl,nb⟩) :
  Wm Tryz.prog w0 S Tryz.f10.ntmps [] U6 (K10 R Q 0) (Ye 0 Qx):=by
 unfold U6
 obtain ⟨hS,hr,hok,hsm,x0,x1,y0,y1⟩:=hH
 have hE:=XR
 have hS0:=Z7 Q.S
 have hS1:=Z6 Q.S
 have hT0:=Yd Q.T
 have hT1:=Yc Q.T
 have hJ0:=Z9 Q.J
 have hJ1:=Ya Q.J
 obtain ⟨q1,q2,q3,q4,q5,q6,q7,q8,q9⟩:=Zp hok
 have hL0:=ZF q8
 have hL1:=ZE q8
 have hz0:=Xc Q q8
 have hz1:=YK Q q8
 have hzr:=YW hok
 have hy0:=XH R
 have hy1:=XW R
 obtain ⟨z1,z2⟩:=XA hsm
 have w1:IntKind.wrap .i64 (Q.u+1)=Q.u+1:=Zh (by omega) (by omega)
 obtain ⟨X,hX⟩:=Int.eq_ofNat_of_zero_le x0
 have hXl:X<Q.S.length:=by omega
 obtain ⟨s0,hs0⟩:∃ s0,Q.S[X]?=some s0:=⟨_,List.getElem?_eq_getElem hXl⟩
 have hg:=Tt hs0
 have hge:=YL hg
 have hgl:=UF Q.S
 have ht:c0R Q R=({ R with sx:=s0 },Xh Q):=by
  unfold c0R xD;rw[hX,show (X:Int).toNat=X by omega,List.getD_eq_getElem?_getD,hs0];rfl
 rw[ht]at hQ
 simp only[stL]at hg hge
 simp only[K10,rzC,qzC]
 repeat' with_reducible (first|refine ZR.h ?_|refine zI ?_|((first|refine zK hE ?_|refine zM hE ?_);intro K hK;simp[ELt,hS0,hS1,hT0,hT1,hJ0,hJ1,hL0,hL1,hX,hg,hge,hgl,hXl,w1];(repeat' (first|refine hK _ _ ?_|apply And.intro|(intro hc;try subst hc)))<;>(try clear hK K))|(refine zJ (fun hc=>?_) (fun hc=>?_)<;>simp at hc<;>(try subst hc)))
 all_goals (refine hQ _ _ _ ?_)
 all_goals (try simp only[rzC,qzC,Xh])
 all_goals (refine Imp.aut ?_ ?_<;>simp[NLe,hS0,hS1,hT0,hT1,hJ0,hJ1,hL0,hL1,hX,stL])
theorem w10_1 {w0:World} {S:Sc} {Qx:Exit→St→Prop} {R:RZ} {Q:QZ} (hH:HyR S R Q)
  (hQ:∀ tl hl nb,Imp 2 ⟨[(0,.tup [])],hl,nb⟩ ⟨[(0,.tup [])],[(0,.cells 0 (rzC (c1R Q R).1)),(1,.cells 0 (qzC (c1R Q R).2))],2⟩→Qx .normal ⟨tl,hl,nb⟩) :
  Wm Tryz.prog w0 S Tryz.f10.ntmps [] U6 (K10 R Q 1) (Ye 0 Qx):=by
 unfold U6
 obtain ⟨hS,hr,hok,hsm,x0,x1,y0,y1⟩:=hH
 have hE:=XR
 have hS0:=Z7 Q.S
 have hS1:=Z6 Q.S
 have hT0:=Yd Q.T
 have hT1:=Yc Q.T
 have hJ0:=Z9 Q.J
 have hJ1:=Ya Q.J
 obtain ⟨q1,q2,q3,q4,q5,q6,q7,q8,q9⟩:=Zp hok
 have hL0:=ZF q8
 have hL1:=ZE q8
 have hz0:=Xc Q q8
 have hz1:=YK Q q8
 have hzr:=YW hok
 have hy0:=XH R
 have hy1:=XW R
 obtain ⟨z1,z2⟩:=XA hsm
 have w1:IntKind.wrap .i64 (Q.u+1)=Q.u+1:=Zh (by omega) (by omega)
 obtain ⟨X,hX⟩:=Int.eq_ofNat_of_zero_le x0
 have hXl:X<Q.T.length:=by omega
 obtain ⟨s0,hs0⟩:∃ s0,Q.T[X]?=some s0:=⟨_,List.getElem?_eq_getElem hXl⟩
 have hg:=vW hs0
 have hge:=YL hg
 have hgl:=Zaz Q.T
 have ht:c1R Q R=({ R with tx:=s0 },Xh Q):=by
  unfold c1R Zfp;rw[hX,show (X:Int).toNat=X by omega,List.getD_eq_getElem?_getD,hs0];rfl
 rw[ht]at hQ
 simp only[tmC]at hg hge
 simp only[K10,rzC,qzC]
 repeat' with_reducible (first|refine ZR.h ?_|refine zI ?_|((first|refine zK hE ?_|refine zM hE ?_);intro K hK;simp[ELt,hS0,hS1,hT0,hT1,hJ0,hJ1,hL0,hL1,hX,hg,hge,hgl,hXl,w1];(repeat' (first|refine hK _ _ ?_|apply And.intro|(intro hc;try subst hc)))<;>(try clear hK K))|(refine zJ (fun hc=>?_) (fun hc=>?_)<;>simp at hc<;>(try subst hc)))
 all_goals (refine hQ _ _ _ ?_)
 all_goals (try simp only[rzC,qzC,Xh])
 all_goals (refine Imp.aut ?_ ?_<;>simp[NLe,hS0,hS1,hT0,hT1,hJ0,hJ1,hL0,hL1,hX,tmC])
theorem w10_3 {w0:World} {S:Sc} {Qx:Exit→St→Prop} {R:RZ} {Q:QZ} (hH:HyR S R Q)
  (hQ:∀ tl hl nb,Imp 2 ⟨[(0,.tup [])],hl,nb⟩ ⟨[(0,.tup [])],[(0,.cells 0 (rzC (c3R Q R).1)),(1,.cells 0 (qzC (c3R Q R).2))],2⟩→Qx .normal ⟨tl,hl,nb⟩) :
  Wm Tryz.prog w0 S Tryz.f10.ntmps [] U6 (K10 R Q 3) (Ye 0 Qx):=by
 unfold U6
 obtain ⟨hS,hr,hok,hsm,x0,x1,y0,y1⟩:=hH
 have hE:=XR
 have hS0:=Z7 Q.S
 have hS1:=Z6 Q.S
 have hT0:=Yd Q.T
 have hT1:=Yc Q.T
 have hJ0:=Z9 Q.J
 have hJ1:=Ya Q.J
 obtain ⟨q1,q2,q3,q4,q5,q6,q7,q8,q9⟩:=Zp hok
 have hL0:=ZF q8
 have hL1:=ZE q8
 have hz0:=Xc Q q8
 have hz1:=YK Q q8
 have hzr:=YW hok
 have hy0:=XH R
 have hy1:=XW R
 obtain ⟨z1,z2⟩:=XA hsm
 have w1:IntKind.wrap .i64 (Q.u+1)=Q.u+1:=Zh (by omega) (by omega)
 obtain ⟨X,hX⟩:=Int.eq_ofNat_of_zero_le y0
 have hXl:X<Q.S.length:=by omega
 obtain ⟨s0,hs0⟩:∃ s0,Q.S[X]?=some s0:=⟨_,List.getElem?_eq_getElem hXl⟩
 have hg:=Tt hs0
 have hge:=YL hg
 have hgl:=UF Q.S
 have ht:c3R Q R=({ R with sy:=s0 },Xh Q):=by
  unfold c3R xD;rw[hX,show (X:Int).toNat=X by omega,List.getD_eq_getElem?_getD,hs0];rfl
 rw[ht]at hQ
 simp only[stL]at hg hge
 simp only[K10,rzC,qzC]
 repeat' with_reducible (first|refine ZR.h ?_|refine zI ?_|((first|refine zK hE ?_|refine zM hE ?_);intro K hK;simp[ELt,hS0,hS1,hT0,hT1,hJ0,hJ1,hL0,hL1,hX,hg,hge,hgl,hXl,w1];(repeat' (first|refine hK _ _ ?_|apply And.intro|(intro hc;try subst hc)))<;>(try clear hK K))|(refine zJ (fun hc=>?_) (fun hc=>?_)<;>simp at hc<;>(try subst hc)))
 all_goals (refine hQ _ _ _ ?_)
 all_goals (try simp only[rzC,qzC,Xh])
 all_goals (refine Imp.aut ?_ ?_<;>simp[NLe,hS0,hS1,hT0,hT1,hJ0,hJ1,hL0,hL1,hX,stL])
theorem w10_4 {w0:World} {S:Sc} {Qx:Exit→St→Prop} {R:RZ} {Q:QZ} (hH:HyR S R Q)
  (hQ:∀ tl hl nb,Imp 2 ⟨[(0,.tup [])],hl,nb⟩ ⟨[(0,.tup [])],[(0,.cells 0 (rzC (c4R Q R).1)),(1,.cells 0 (qzC (c4R Q R).2))],2⟩→Qx .normal ⟨tl,hl,nb⟩) :
  Wm Tryz.prog w0 S Tryz.f10.ntmps [] U6 (K10 R Q 4) (Ye 0 Qx):=by
 unfold U6
 obtain ⟨hS,hr,hok,hsm,x0,x1,y0,y1⟩:=hH
 have hE:=XR
 have hS0:=Z7 Q.S
 have hS1:=Z6 Q.S
 have hT0:=Yd Q.T
 have hT1:=Yc Q.T
 have hJ0:=Z9 Q.J
 have hJ1:=Ya Q.J
 obtain ⟨q1,q2,q3,q4,q5,q6,q7,q8,q9⟩:=Zp hok
 have hL0:=ZF q8
 have hL1:=ZE q8
 have hz0:=Xc Q q8
 have hz1:=YK Q q8
 have hzr:=YW hok
 have hy0:=XH R
 have hy1:=XW R
 obtain ⟨z1,z2⟩:=XA hsm
 have w1:IntKind.wrap .i64 (Q.u+1)=Q.u+1:=Zh (by omega) (by omega)
 obtain ⟨X,hX⟩:=Int.eq_ofNat_of_zero_le y0
 have hXl:X<Q.T.length:=by omega
 obtain ⟨s0,hs0⟩:∃ s0,Q.T[X]?=some s0:=⟨_,List.getElem?_eq_getElem hXl⟩
 have hg:=vW hs0
 have hge:=YL hg
 have hgl:=Zaz Q.T
 have ht:c4R Q R=({ R with ty:=s0 },Xh Q):=by
  unfold c4R Zfp;rw[hX,show (X:Int).toNat=X by omega,List.getD_eq_getElem?_getD,hs0];rfl
 rw[ht]at hQ
 simp only[tmC]at hg hge
 simp only[K10,rzC,qzC]
 repeat' with_reducible (first|refine ZR.h ?_|refine zI ?_|((first|refine zK hE ?_|refine zM hE ?_);intro K hK;simp[ELt,hS0,hS1,hT0,hT1,hJ0,hJ1,hL0,hL1,hX,hg,hge,hgl,hXl,w1];(repeat' (first|refine hK _ _ ?_|apply And.intro|(intro hc;try subst hc)))<;>(try clear hK K))|(refine zJ (fun hc=>?_) (fun hc=>?_)<;>simp at hc<;>(try subst hc)))
 all_goals (refine hQ _ _ _ ?_)
 all_goals (try simp only[rzC,qzC,Xh])
 all_goals (refine Imp.aut ?_ ?_<;>simp[NLe,hS0,hS1,hT0,hT1,hJ0,hJ1,hL0,hL1,hX,tmC])
theorem w10_6 {w0:World} {S:Sc} {Qx:Exit→St→Prop} {R:RZ} {Q:QZ} (hH:HyR S R Q)
  (hQ:∀ tl hl nb,Imp 2 ⟨[(0,.tup [])],hl,nb⟩ ⟨[(0,.tup [])],[(0,.cells 0 (rzC (c6R Q R).1)),(1,.cells 0 (qzC (c6R Q R).2))],2⟩→Qx .normal ⟨tl,hl,nb⟩) :
  Wm Tryz.prog w0 S Tryz.f10.ntmps [] U6 (K10 R Q 6) (Ye 0 Qx):=by
 unfold U6
 obtain ⟨hS,hr,hok,hsm,x0,x1,y0,y1⟩:=hH
 have hE:=XR
 have hS0:=Z7 Q.S
 have hS1:=Z6 Q.S
 have hT0:=Yd Q.T
 have hT1:=Yc Q.T
 have hJ0:=Z9 Q.J
 have hJ1:=Ya Q.J
 obtain ⟨q1,q2,q3,q4,q5,q6,q7,q8,q9⟩:=Zp hok
 have hL0:=ZF q8
 have hL1:=ZE q8
 have hz0:=Xc Q q8
 have hz1:=YK Q q8
 have hzr:=YW hok
 have hy0:=XH R
 have hy1:=XW R
 obtain ⟨z1,z2⟩:=XA hsm
 have w1:IntKind.wrap .i64 (Q.u+1)=Q.u+1:=Zh (by omega) (by omega)
 by_cases hh:R.held=true
 ·by_cases hf:R.free=false
  ·
   obtain ⟨X,hX⟩:=Int.eq_ofNat_of_zero_le x0
   have hXl:X<Q.S.length:=by omega
   obtain ⟨s0,hs0⟩:∃ s0,Q.S[X]?=some s0:=⟨_,List.getElem?_eq_getElem hXl⟩
   have hg:=Tt hs0
   have hge:=YL hg
   have hgl:=UF Q.S
   have ht:c6R Q R=({ R with sx:=s0 },Xh Q):=by
    unfold c6R xD;rw[if_pos ⟨hh,hf⟩];rw[hX,show (X:Int).toNat=X by omega,List.getD_eq_getElem?_getD,hs0];rfl
   rw[ht]at hQ
   simp only[stL]at hg hge
   simp only[K10,rzC,qzC]
   repeat' with_reducible (first|refine ZR.h ?_|refine zI ?_|((first|refine zK hE ?_|refine zM hE ?_);intro K hK;simp[ELt,hS0,hS1,hT0,hT1,hJ0,hJ1,hL0,hL1,hX,hg,hge,hgl,hXl,w1,hh,hf];(repeat' (first|refine hK _ _ ?_|apply And.intro|(intro hc;try subst hc)))<;>(try clear hK K))|(refine zJ (fun hc=>?_) (fun hc=>?_)<;>simp at hc<;>(try subst hc)))
   all_goals (refine hQ _ _ _ ?_)
   all_goals (try simp only[rzC,qzC,Xh])
   all_goals (refine Imp.aut ?_ ?_<;>simp[NLe,hS0,hS1,hT0,hT1,hJ0,hJ1,hL0,hL1,hX,stL,hh,hf])
  ·have hf:R.free=true:=by simpa using hf
   have ht:c6R Q R=(R,Q):=(by unfold c6R;rw[if_neg (by simp[hf])]);rw[ht]at hQ;simp only[K10,rzC]
   repeat' with_reducible (first|refine ZR.h ?_|refine zI ?_|((first|refine zK hE ?_|refine zM hE ?_);intro K hK;simp[ELt,hz0,hz1,hzr,hh,hf];(repeat' (first|refine hK _ _ ?_|apply And.intro|(intro hc;try subst hc)))<;>(try clear hK K))|(refine zJ (fun hc=>?_) (fun hc=>?_)<;>simp at hc<;>(try subst hc)))
   all_goals (refine hQ _ _ _ ?_)
   all_goals (try simp only[rzC])
   all_goals (refine Imp.aut ?_ ?_<;>simp[NLe,hz0,hz1,hzr,hh,hf])
 ·have hh:R.held=false:=by simpa using hh
  have ht:c6R Q R=(R,Q):=by unfold c6R;rw[if_neg (by simp[hh])]
  rw[ht]at hQ;simp only[K10,rzC]
  repeat' with_reducible (first|refine ZR.h ?_|refine zI ?_|((first|refine zK hE ?_|refine zM hE ?_);intro K hK;simp[ELt,hz0,hz1,hzr,hh];(repeat' (first|refine hK _ _ ?_|apply And.intro|(intro hc;try subst hc)))<;>(try clear hK K))|(refine zJ (fun hc=>?_) (fun hc=>?_)<;>simp at hc<;>(try subst hc)))
  all_goals (refine hQ _ _ _ ?_)
  all_goals (try simp only[rzC])
  all_goals (refine Imp.aut ?_ ?_<;>simp[NLe,hz0,hz1,hzr,hh])
theorem w10_8 {w0:World} {S:Sc} {Qx:Exit→St→Prop} {R:RZ} {Q:QZ} (hH:HyR S R Q)
  (hQ:∀ tl hl nb,Imp 2 ⟨[(0,.tup [])],hl,nb⟩ ⟨[(0,.tup [])],[(0,.cells 0 (rzC (c6R Q R).1)),(1,.cells 0 (qzC (c6R Q R).2))],2⟩→Qx .normal ⟨tl,hl,nb⟩) :
  Wm Tryz.prog w0 S Tryz.f10.ntmps [] U6 (K10 R Q 8) (Ye 0 Qx):=by
 unfold U6
 obtain ⟨hS,hr,hok,hsm,x0,x1,y0,y1⟩:=hH
 have hE:=XR
 have hS0:=Z7 Q.S
 have hS1:=Z6 Q.S
 have hT0:=Yd Q.T
 have hT1:=Yc Q.T
 have hJ0:=Z9 Q.J
 have hJ1:=Ya Q.J
 obtain ⟨q1,q2,q3,q4,q5,q6,q7,q8,q9⟩:=Zp hok
 have hL0:=ZF q8
 have hL1:=ZE q8
 have hz0:=Xc Q q8
 have hz1:=YK Q q8
 have hzr:=YW hok
 have hy0:=XH R
 have hy1:=XW R
 obtain ⟨z1,z2⟩:=XA hsm
 have w1:IntKind.wrap .i64 (Q.u+1)=Q.u+1:=Zh (by omega) (by omega)
 by_cases hh:R.held=true
 ·by_cases hf:R.free=false
  ·
   obtain ⟨X,hX⟩:=Int.eq_ofNat_of_zero_le x0
   have hXl:X<Q.S.length:=by omega
   obtain ⟨s0,hs0⟩:∃ s0,Q.S[X]?=some s0:=⟨_,List.getElem?_eq_getElem hXl⟩
   have hg:=Tt hs0
   have hge:=YL hg
   have hgl:=UF Q.S
   have ht:c6R Q R=({ R with sx:=s0 },Xh Q):=by
    unfold c6R xD;rw[if_pos ⟨hh,hf⟩];rw[hX,show (X:Int).toNat=X by omega,List.getD_eq_getElem?_getD,hs0];rfl
   rw[ht]at hQ
   simp only[stL]at hg hge
   simp only[K10,rzC,qzC]
   repeat' with_reducible (first|refine ZR.h ?_|refine zI ?_|((first|refine zK hE ?_|refine zM hE ?_);intro K hK;simp[ELt,hS0,hS1,hT0,hT1,hJ0,hJ1,hL0,hL1,hX,hg,hge,hgl,hXl,w1,hh,hf];(repeat' (first|refine hK _ _ ?_|apply And.intro|(intro hc;try subst hc)))<;>(try clear hK K))|(refine zJ (fun hc=>?_) (fun hc=>?_)<;>simp at hc<;>(try subst hc)))
   all_goals (refine hQ _ _ _ ?_)
   all_goals (try simp only[rzC,qzC,Xh])
   all_goals (refine Imp.aut ?_ ?_<;>simp[NLe,hS0,hS1,hT0,hT1,hJ0,hJ1,hL0,hL1,hX,stL,hh,hf])
  ·have hf:R.free=true:=by simpa using hf
   have ht:c6R Q R=(R,Q):=(by unfold c6R;rw[if_neg (by simp[hf])]);rw[ht]at hQ;simp only[K10,rzC]
   repeat' with_reducible (first|refine ZR.h ?_|refine zI ?_|((first|refine zK hE ?_|refine zM hE ?_);intro K hK;simp[ELt,hz0,hz1,hzr,hh,hf];(repeat' (first|refine hK _ _ ?_|apply And.intro|(intro hc;try subst hc)))<;>(try clear hK K))|(refine zJ (fun hc=>?_) (fun hc=>?_)<;>simp at hc<;>(try subst hc)))
   all_goals (refine hQ _ _ _ ?_)
   all_goals (try simp only[rzC])
   all_goals (refine Imp.aut ?_ ?_<;>simp[NLe,hz0,hz1,hzr,hh,hf])
 ·have hh:R.held=false:=by simpa using hh
  have ht:c6R Q R=(R,Q):=by unfold c6R;rw[if_neg (by simp[hh])]
  rw[ht]at hQ;simp only[K10,rzC]
  repeat' with_reducible (first|refine ZR.h ?_|refine zI ?_|((first|refine zK hE ?_|refine zM hE ?_);intro K hK;simp[ELt,hz0,hz1,hzr,hh];(repeat' (first|refine hK _ _ ?_|apply And.intro|(intro hc;try subst hc)))<;>(try clear hK K))|(refine zJ (fun hc=>?_) (fun hc=>?_)<;>simp at hc<;>(try subst hc)))
  all_goals (refine hQ _ _ _ ?_)
  all_goals (try simp only[rzC])
  all_goals (refine Imp.aut ?_ ?_<;>simp[NLe,hz0,hz1,hzr,hh])
theorem w10_5 {w0:World} {S:Sc} {Qx:Exit→St→Prop} {R:RZ} {Q:QZ} (hH:HyR S R Q)
  (hQ:∀ tl hl nb,Imp 2 ⟨[(0,.tup [])],hl,nb⟩ ⟨[(0,.tup [])],[(0,.cells 0 (rzC (XD Q R).1)),(1,.cells 0 (qzC (XD Q R).2))],2⟩→Qx .normal ⟨tl,hl,nb⟩) :
  Wm Tryz.prog w0 S Tryz.f10.ntmps [] U6 (K10 R Q 5) (Ye 0 Qx):=by
 unfold U6
 obtain ⟨hS,hr,hok,hsm,x0,x1,y0,y1⟩:=hH
 have hE:=XR
 have hS0:=Z7 Q.S
 have hS1:=Z6 Q.S
 have hT0:=Yd Q.T
 have hT1:=Yc Q.T
 have hJ0:=Z9 Q.J
 have hJ1:=Ya Q.J
 obtain ⟨q1,q2,q3,q4,q5,q6,q7,q8,q9⟩:=Zp hok
 have hL0:=ZF q8
 have hL1:=ZE q8
 have hz0:=Xc Q q8
 have hz1:=YK Q q8
 have hzr:=YW hok
 have hy0:=XH R
 have hy1:=XW R
 obtain ⟨z1,z2⟩:=XA hsm
 have w1:IntKind.wrap .i64 (Q.u+1)=Q.u+1:=Zh (by omega) (by omega)
 have hcl:∀ u v,d47 [.op u (rzC R),.op v (qzC Q)]=some ⟨.tup [],[.cells 0 (rzC (XD Q R).1),.cells 0 (qzC (XD Q R).2)]⟩:=fun u v=>by
  simp only[d47,ZaD,Uq];rw[if_pos ⟨hr,hok,hsm,x0,x1,y0,y1⟩]
 have hok2:=yU hok R
 obtain ⟨⟨R2,Q2⟩,hq2⟩:∃ z,XD Q R=z:=⟨_,rfl⟩
 rw[hq2]at hcl hok2 hQ
 simp only at hcl hok2 hQ
 have q82:=(Zp hok2).2.2.2.2.2.2.2.1
 have hz02:=Xc Q2 q82
 have hz12:=YK Q2 q82
 have hzr2:=YW hok2
 have hy02:=XH R2
 have hy12:=XW R2
 have hyr:=Zc8 R2
 simp only[K10]
 repeat' with_reducible (first|refine ZR.h ?_|refine zI ?_|((first|refine zK hE ?_|refine zM hE ?_);intro K hK;simp[ELt,hz0,hz1,hzr,hy0,hy1,hz02,hz12,hzr2,hy02,hy12,hcl];(repeat' (first|refine hK _ _ ?_|apply And.intro|(intro hc;try subst hc)))<;>(try clear hK K))|(refine zJ (fun hc=>?_) (fun hc=>?_)<;>simp at hc<;>(try subst hc)))
 all_goals (refine hQ _ _ _ ?_)
 all_goals (try simp only[K10])
 all_goals (refine Imp.aut ?_ ?_<;>simp[NLe,hz02,hz12,hzr2,hy02,hy12,hyr])
theorem w10_7 {w0:World} {S:Sc} {Qx:Exit→St→Prop} {R:RZ} {Q:QZ} (hH:HyR S R Q)
  (hQ:∀ tl hl nb,Imp 2 ⟨[(0,.tup [])],hl,nb⟩ ⟨[(0,.tup [])],[(0,.cells 0 (rzC (Ty Q R).1)),(1,.cells 0 (qzC (Ty Q R).2))],2⟩→Qx .normal ⟨tl,hl,nb⟩) :
  Wm Tryz.prog w0 S Tryz.f10.ntmps [] U6 (K10 R Q 7) (Ye 0 Qx):=by
 unfold U6
 obtain ⟨hS,hr,hok,hsm,x0,x1,y0,y1⟩:=hH
 have hE:=XR
 have hS0:=Z7 Q.S
 have hS1:=Z6 Q.S
 have hT0:=Yd Q.T
 have hT1:=Yc Q.T
 have hJ0:=Z9 Q.J
 have hJ1:=Ya Q.J
 obtain ⟨q1,q2,q3,q4,q5,q6,q7,q8,q9⟩:=Zp hok
 have hL0:=ZF q8
 have hL1:=ZE q8
 have hz0:=Xc Q q8
 have hz1:=YK Q q8
 have hzr:=YW hok
 have hy0:=XH R
 have hy1:=XW R
 obtain ⟨z1,z2⟩:=XA hsm
 have w1:IntKind.wrap .i64 (Q.u+1)=Q.u+1:=Zh (by omega) (by omega)
 have hcl:∀ u v,d48 [.op u (rzC R),.op v (qzC Q)]=some ⟨.tup [],[.cells 0 (rzC (Ty Q R).1),.cells 0 (qzC (Ty Q R).2)]⟩:=fun u v=>by
  simp only[d48,ZaD,Uq];rw[if_pos ⟨hr,hok,hsm,x0,x1⟩]
 have hok2:=zq hok R
 obtain ⟨⟨R2,Q2⟩,hq2⟩:∃ z,Ty Q R=z:=⟨_,rfl⟩
 rw[hq2]at hcl hok2 hQ
 simp only at hcl hok2 hQ
 have q82:=(Zp hok2).2.2.2.2.2.2.2.1
 have hz02:=Xc Q2 q82
 have hz12:=YK Q2 q82
 have hzr2:=YW hok2
 have hy02:=XH R2
 have hy12:=XW R2
 have hyr:=Zc8 R2
 simp only[K10]
 repeat' with_reducible (first|refine ZR.h ?_|refine zI ?_|((first|refine zK hE ?_|refine zM hE ?_);intro K hK;simp[ELt,hz0,hz1,hzr,hy0,hy1,hz02,hz12,hzr2,hy02,hy12,hcl];(repeat' (first|refine hK _ _ ?_|apply And.intro|(intro hc;try subst hc)))<;>(try clear hK K))|(refine zJ (fun hc=>?_) (fun hc=>?_)<;>simp at hc<;>(try subst hc)))
 all_goals (refine hQ _ _ _ ?_)
 all_goals (try simp only[K10])
 all_goals (refine Imp.aut ?_ ?_<;>simp[NLe,hz02,hz12,hzr2,hy02,hy12,hyr])
theorem w10_9 {w0:World} {S:Sc} {Qx:Exit→St→Prop} {R:RZ} {Q:QZ} (hH:HyR S R Q)
  (hQ:∀ tl hl nb,Imp 2 ⟨[(0,.tup [])],hl,nb⟩ ⟨[(0,.tup [])],[(0,.cells 0 (rzC (Ty Q R).1)),(1,.cells 0 (qzC (Ty Q R).2))],2⟩→Qx .normal ⟨tl,hl,nb⟩) :
  Wm Tryz.prog w0 S Tryz.f10.ntmps [] U6 (K10 R Q 9) (Ye 0 Qx):=by
 unfold U6
 obtain ⟨hS,hr,hok,hsm,x0,x1,y0,y1⟩:=hH
 have hE:=XR
 have hS0:=Z7 Q.S
 have hS1:=Z6 Q.S
 have hT0:=Yd Q.T
 have hT1:=Yc Q.T
 have hJ0:=Z9 Q.J
 have hJ1:=Ya Q.J
 obtain ⟨q1,q2,q3,q4,q5,q6,q7,q8,q9⟩:=Zp hok
 have hL0:=ZF q8
 have hL1:=ZE q8
 have hz0:=Xc Q q8
 have hz1:=YK Q q8
 have hzr:=YW hok
 have hy0:=XH R
 have hy1:=XW R
 obtain ⟨z1,z2⟩:=XA hsm
 have w1:IntKind.wrap .i64 (Q.u+1)=Q.u+1:=Zh (by omega) (by omega)
 have hcl:∀ u v,d48 [.op u (rzC R),.op v (qzC Q)]=some ⟨.tup [],[.cells 0 (rzC (Ty Q R).1),.cells 0 (qzC (Ty Q R).2)]⟩:=fun u v=>by
  simp only[d48,ZaD,Uq];rw[if_pos ⟨hr,hok,hsm,x0,x1⟩]
 have hok2:=zq hok R
 obtain ⟨⟨R2,Q2⟩,hq2⟩:∃ z,Ty Q R=z:=⟨_,rfl⟩
 rw[hq2]at hcl hok2 hQ
 simp only at hcl hok2 hQ
 have q82:=(Zp hok2).2.2.2.2.2.2.2.1
 have hz02:=Xc Q2 q82
 have hz12:=YK Q2 q82
 have hzr2:=YW hok2
 have hy02:=XH R2
 have hy12:=XW R2
 have hyr:=Zc8 R2
 simp only[K10]
 repeat' with_reducible (first|refine ZR.h ?_|refine zI ?_|((first|refine zK hE ?_|refine zM hE ?_);intro K hK;simp[ELt,hz0,hz1,hzr,hy0,hy1,hz02,hz12,hzr2,hy02,hy12,hcl];(repeat' (first|refine hK _ _ ?_|apply And.intro|(intro hc;try subst hc)))<;>(try clear hK K))|(refine zJ (fun hc=>?_) (fun hc=>?_)<;>simp at hc<;>(try subst hc)))
 all_goals (refine hQ _ _ _ ?_)
 all_goals (try simp only[K10])
 all_goals (refine Imp.aut ?_ ?_<;>simp[NLe,hz02,hz12,hzr2,hy02,hy12,hyr])
theorem w10_2 {w0:World} {S:Sc} {Qx:Exit→St→Prop} {R:RZ} {Q:QZ} (hH:HyR S R Q)
  (hQ:∀ tl hl nb,Imp 2 ⟨[(0,.tup [])],hl,nb⟩ ⟨[(0,.tup [])],[(0,.cells 0 (rzC (c2R Q R).1)),(1,.cells 0 (qzC (c2R Q R).2))],2⟩→Qx .normal ⟨tl,hl,nb⟩) :
  Wm Tryz.prog w0 S Tryz.f10.ntmps [] U6 (K10 R Q 2) (Ye 0 Qx):=by
 unfold U6
 obtain ⟨hS,hr,hok,hsm,x0,x1,y0,y1⟩:=hH
 have hE:=XR
 have hS0:=Z7 Q.S
 have hS1:=Z6 Q.S
 have hT0:=Yd Q.T
 have hT1:=Yc Q.T
 have hJ0:=Z9 Q.J
 have hJ1:=Ya Q.J
 obtain ⟨q1,q2,q3,q4,q5,q6,q7,q8,q9⟩:=Zp hok
 have hL0:=ZF q8
 have hL1:=ZE q8
 have hz0:=Xc Q q8
 have hz1:=YK Q q8
 have hzr:=YW hok
 have hy0:=XH R
 have hy1:=XW R
 obtain ⟨z1,z2⟩:=XA hsm
 have w1:IntKind.wrap .i64 (Q.u+1)=Q.u+1:=Zh (by omega) (by omega)
 by_cases w3':R.way=3
 ·by_cases kk:R.sx.k=2
  ·by_cases sd0:R.tx.sd=0
   ·
    have hsh:d45 [.agg [.int .i64 Q.a,.int .i64 Q.b,.int .i64 Q.c,.int .i64 Q.d,.int .i64 Q.e,.int .i64 Q.f,.int .i64 Q.g],.agg [.int .i64 R.tx.nm,.int .i64 R.tx.sd,.int .i64 R.tx.pr,.int .i64 R.tx.le,.int .i64 R.tx.un]] []=some (.int .i64 (YG Q.c Q.d R.tx.nm (Y9 Q.d R.tx.pr))):=by
     simp only[d45];rw[if_pos q1]
    obtain ⟨shv,hshv⟩:∃ z,YG Q.c Q.d R.tx.nm (Y9 Q.d R.tx.pr)=z:=⟨_,rfl⟩
    rw[hshv]at hsh
    simp only[sd0]at hsh
    by_cases hs:shv=R.sh
    ·
     have ht:c2R Q R=({ R with held:=(ZY Q R.x R.sx { R.sx with k:=4 }).1 },(ZY Q R.x R.sx { R.sx with k:=4 }).2):=by
      have hw:UA Q R=true:=by
       unfold UA;refine decide_eq_true ?_;rw[if_pos w3'];exact ⟨kk,sd0,by rw[hshv];exact hs⟩
      unfold c2R;rw[if_pos hw,kk]
      rfl
     rw[ht]at hQ
     have htu:=fun u=>e46 hok hsm x0 x1 R.sx { R.sx with k:=4 } u
     have hok2:=YA hok R.x R.sx { R.sx with k:=4 }
     obtain ⟨⟨tb,Q2⟩,hq2⟩:∃ z,ZY Q R.x R.sx { R.sx with k:=4 }=z:=⟨_,rfl⟩
     rw[hq2]at htu hok2 hQ
     simp only[stA,kk]at htu hok2 hQ
     have q82:=(Zp hok2).2.2.2.2.2.2.2.1
     have hz02:=Xc Q2 q82
     have hz12:=YK Q2 q82
     have hzr2:=YW hok2
     have hS02:=Z7 Q2.S
     have hS12:=Z6 Q2.S
     have hT02:=Yd Q2.T
     have hT12:=Yc Q2.T
     have hJ02:=Z9 Q2.J
     have hJ12:=Ya Q2.J
     have hL02:=ZF q82
     have hL12:=ZE q82
     simp only[qzC]at htu
     have w3:IntKind.wrap .i64 3=3:=rfl
     have w4:IntKind.wrap .i64 4=4:=rfl
     simp only[K10,rzC,qzC]
     repeat' with_reducible (first|refine ZR.h ?_|refine zI ?_|((first|refine zK hE ?_|refine zM hE ?_);intro K hK;simp[ELt,hS0,hS1,hT0,hT1,hJ0,hJ1,hL0,hL1,hS02,hS12,hT02,hT12,hJ02,hJ12,hL02,hL12,hsh,htu,w3,w4,kk,w3',sd0,hs];(repeat' (first|refine hK _ _ ?_|apply And.intro|(intro hc;try subst hc)))<;>(try clear hK K))|(refine zJ (fun hc=>?_) (fun hc=>?_)<;>simp at hc<;>(try subst hc)))
     all_goals (refine hQ _ _ _ ?_)
     all_goals (try simp only[rzC,qzC])
     all_goals (refine Imp.aut ?_ ?_<;>simp[NLe,hS02,hS12,hT02,hT12,hJ02,hJ12,hL02,hL12,kk,w3',sd0,hs])
    ·
     have ht:c2R Q R=(R,Q):=by
      unfold c2R;rw[if_neg];unfold UA;intro hx;have hx:=of_decide_eq_true hx;rw[if_pos w3']at hx;exact hs (hshv ▸ hx.2.2)
     rw[ht]at hQ
     simp only[K10,rzC,qzC]
     repeat' with_reducible (first|refine ZR.h ?_|refine zI ?_|((first|refine zK hE ?_|refine zM hE ?_);intro K hK;simp[ELt,hS0,hS1,hT0,hT1,hJ0,hJ1,hL0,hL1,hsh,w3',kk,sd0,hs];(repeat' (first|refine hK _ _ ?_|apply And.intro|(intro hc;try subst hc)))<;>(try clear hK K))|(refine zJ (fun hc=>?_) (fun hc=>?_)<;>simp at hc<;>(try subst hc)))
     all_goals (refine hQ _ _ _ ?_)
     all_goals (try simp only[rzC,qzC])
     all_goals (refine Imp.aut ?_ ?_<;>simp[NLe,hS0,hS1,hT0,hT1,hJ0,hJ1,hL0,hL1,w3',kk,sd0,hs])
   ·
    have ht:c2R Q R=(R,Q):=by
     unfold c2R;rw[if_neg];unfold UA;intro hx;have hx:=of_decide_eq_true hx;rw[if_pos w3']at hx;exact sd0 hx.2.1
    rw[ht]at hQ
    simp only[K10,rzC]
    repeat' with_reducible (first|refine ZR.h ?_|refine zI ?_|((first|refine zK hE ?_|refine zM hE ?_);intro K hK;simp[ELt,hz0,hz1,hzr,w3',kk,sd0];(repeat' (first|refine hK _ _ ?_|apply And.intro|(intro hc;try subst hc)))<;>(try clear hK K))|(refine zJ (fun hc=>?_) (fun hc=>?_)<;>simp at hc<;>(try subst hc)))
    all_goals (refine hQ _ _ _ ?_)
    all_goals (try simp only[rzC])
    all_goals (refine Imp.aut ?_ ?_<;>simp[NLe,hz0,hz1,hzr,w3',kk,sd0])
  ·
   have ht:c2R Q R=(R,Q):=by
    unfold c2R;rw[if_neg];unfold UA;intro hx;have hx:=of_decide_eq_true hx;rw[if_pos w3']at hx;exact kk hx.1
   rw[ht]at hQ
   simp only[K10,rzC]
   repeat' with_reducible (first|refine ZR.h ?_|refine zI ?_|((first|refine zK hE ?_|refine zM hE ?_);intro K hK;simp[ELt,hz0,hz1,hzr,w3',kk];(repeat' (first|refine hK _ _ ?_|apply And.intro|(intro hc;try subst hc)))<;>(try clear hK K))|(refine zJ (fun hc=>?_) (fun hc=>?_)<;>simp at hc<;>(try subst hc)))
   all_goals (refine hQ _ _ _ ?_)
   all_goals (try simp only[rzC])
   all_goals (refine Imp.aut ?_ ?_<;>simp[NLe,hz0,hz1,hzr,w3',kk])
 ·by_cases w2:R.way≤2
  ·by_cases kk:R.sx.k=1
   ·by_cases gg:R.sx.g=R.gn
    ·by_cases w1':1≤R.way
     ·
      have ht:c2R Q R=({ R with held:=(ZY Q R.x R.sx { R.sx with k:=3 }).1 },(ZY Q R.x R.sx { R.sx with k:=3 }).2):=by
       have hw:UA Q R=true:=by
        unfold UA;refine decide_eq_true ?_;rw[if_neg w3'];exact ⟨w1',w2,kk,gg⟩
       unfold c2R;rw[if_pos hw,kk]
       rfl
      rw[ht]at hQ
      have htu:=fun u=>e46 hok hsm x0 x1 R.sx { R.sx with k:=3 } u
      have hok2:=YA hok R.x R.sx { R.sx with k:=3 }
      obtain ⟨⟨tb,Q2⟩,hq2⟩:∃ z,ZY Q R.x R.sx { R.sx with k:=3 }=z:=⟨_,rfl⟩
      rw[hq2]at htu hok2 hQ
      simp only[stA,kk,gg]at htu hok2 hQ
      have q82:=(Zp hok2).2.2.2.2.2.2.2.1
      have hz02:=Xc Q2 q82
      have hz12:=YK Q2 q82
      have hzr2:=YW hok2
      have w3:IntKind.wrap .i64 3=3:=rfl
      have w4:IntKind.wrap .i64 4=4:=rfl
      simp only[K10,rzC]
      repeat' with_reducible (first|refine ZR.h ?_|refine zI ?_|((first|refine zK hE ?_|refine zM hE ?_);intro K hK;simp[ELt,hz0,hz1,hzr,hz02,hz12,hzr2,htu,w3,w4,kk,w3',w2,gg,w1',show R.way≤3 by omega];(repeat' (first|refine hK _ _ ?_|apply And.intro|(intro hc;try subst hc)))<;>(try clear hK K))|(refine zJ (fun hc=>?_) (fun hc=>?_)<;>simp at hc<;>(try subst hc)))
      all_goals (refine hQ _ _ _ ?_)
      all_goals (try simp only[rzC])
      all_goals (refine Imp.aut ?_ ?_<;>simp[NLe,hz02,hz12,hzr2,kk,w3',w2,gg,w1',show R.way≤3 by omega])
     ·
      have ht:c2R Q R=(R,Q):=by
       unfold c2R;rw[if_neg];unfold UA;intro hx;have hx:=of_decide_eq_true hx;rw[if_neg w3']at hx;exact w1' hx.1
      rw[ht]at hQ
      simp only[K10,rzC]
      repeat' with_reducible (first|refine ZR.h ?_|refine zI ?_|((first|refine zK hE ?_|refine zM hE ?_);intro K hK;simp[ELt,hz0,hz1,hzr,w3',w2,kk,gg,w1'];(repeat' (first|refine hK _ _ ?_|apply And.intro|(intro hc;try subst hc)))<;>(try clear hK K))|(refine zJ (fun hc=>?_) (fun hc=>?_)<;>simp at hc<;>(try subst hc)))
      all_goals (refine hQ _ _ _ ?_)
      all_goals (try simp only[rzC])
      all_goals (refine Imp.aut ?_ ?_<;>simp[NLe,hz0,hz1,hzr,w3',w2,kk,gg,w1'])
    ·
     have ht:c2R Q R=(R,Q):=by
      unfold c2R;rw[if_neg];unfold UA;intro hx;have hx:=of_decide_eq_true hx;rw[if_neg w3']at hx;exact gg hx.2.2.2
     rw[ht]at hQ
     simp only[K10,rzC]
     repeat' with_reducible (first|refine ZR.h ?_|refine zI ?_|((first|refine zK hE ?_|refine zM hE ?_);intro K hK;simp[ELt,hz0,hz1,hzr,w3',w2,kk,gg];(repeat' (first|refine hK _ _ ?_|apply And.intro|(intro hc;try subst hc)))<;>(try clear hK K))|(refine zJ (fun hc=>?_) (fun hc=>?_)<;>simp at hc<;>(try subst hc)))
     all_goals (refine hQ _ _ _ ?_)
     all_goals (try simp only[rzC])
     all_goals (refine Imp.aut ?_ ?_<;>simp[NLe,hz0,hz1,hzr,w3',w2,kk,gg])
   ·
    have ht:c2R Q R=(R,Q):=by
     unfold c2R;rw[if_neg];unfold UA;intro hx;have hx:=of_decide_eq_true hx;rw[if_neg w3']at hx;exact kk hx.2.2.1
    rw[ht]at hQ
    simp only[K10,rzC]
    repeat' with_reducible (first|refine ZR.h ?_|refine zI ?_|((first|refine zK hE ?_|refine zM hE ?_);intro K hK;simp[ELt,hz0,hz1,hzr,w3',w2,kk];(repeat' (first|refine hK _ _ ?_|apply And.intro|(intro hc;try subst hc)))<;>(try clear hK K))|(refine zJ (fun hc=>?_) (fun hc=>?_)<;>simp at hc<;>(try subst hc)))
    all_goals (refine hQ _ _ _ ?_)
    all_goals (try simp only[rzC])
    all_goals (refine Imp.aut ?_ ?_<;>simp[NLe,hz0,hz1,hzr,w3',w2,kk])
  ·
   have ht:c2R Q R=(R,Q):=by
    unfold c2R;rw[if_neg];unfold UA;intro hx;have hx:=of_decide_eq_true hx;rw[if_neg w3']at hx;exact w2 hx.2.1
   rw[ht]at hQ
   simp only[K10,rzC]
   repeat' with_reducible (first|refine ZR.h ?_|refine zI ?_|((first|refine zK hE ?_|refine zM hE ?_);intro K hK;simp[ELt,hz0,hz1,hzr,w3',w2];(repeat' (first|refine hK _ _ ?_|apply And.intro|(intro hc;try subst hc)))<;>(try clear hK K))|(refine zJ (fun hc=>?_) (fun hc=>?_)<;>simp at hc<;>(try subst hc)))
   all_goals (refine hQ _ _ _ ?_)
   all_goals (try simp only[rzC])
   all_goals (refine Imp.aut ?_ ?_<;>simp[NLe,hz0,hz1,hzr,w3',w2])
theorem w10_10 {w0:World} {S:Sc} {Qx:Exit→St→Prop} {R:RZ} {Q:QZ} (hH:HyR S R Q)
  (hn:R.made=true→1≤R.nx.g∧R.nx.g≤Q.g∧0≤R.nx.f - 1∧R.nx.f - 1≤Q.f)
  (hQ:∀ tl hl nb,Imp 2 ⟨[(0,.tup [])],hl,nb⟩ ⟨[(0,.tup [])],[(0,.cells 0 (rzC (Zdq Q R).1)),(1,.cells 0 (qzC (Zdq Q R).2))],2⟩→Qx .normal ⟨tl,hl,nb⟩) :
  Wm Tryz.prog w0 S Tryz.f10.ntmps [] U6 (K10 R Q 10) (Ye 0 Qx):=by
 unfold U6
 obtain ⟨hS,hr,hok,hsm,x0,x1,y0,y1⟩:=hH
 have hE:=XR
 have hS0:=Z7 Q.S
 have hS1:=Z6 Q.S
 have hT0:=Yd Q.T
 have hT1:=Yc Q.T
 have hJ0:=Z9 Q.J
 have hJ1:=Ya Q.J
 obtain ⟨q1,q2,q3,q4,q5,q6,q7,q8,q9⟩:=Zp hok
 have hL0:=ZF q8
 have hL1:=ZE q8
 have hz0:=Xc Q q8
 have hz1:=YK Q q8
 have hzr:=YW hok
 have hy0:=XH R
 have hy1:=XW R
 obtain ⟨z1,z2⟩:=XA hsm
 have w1:IntKind.wrap .i64 (Q.u+1)=Q.u+1:=Zh (by omega) (by omega)
 by_cases hm:R.made=true
 ·obtain ⟨g0,g1,n0,n1⟩:=hn hm
  have s1:=ya (zc hr).2.2.2.2.1;have s2:=ya (zc hr).2.2.2.2.2.1;have wf:IntKind.wrap .i64 (R.nx.f - 1)=R.nx.f - 1:=Zh (by omega) (by omega);have hno:=fun u=>e49 hok hsm x0 x1 g0 g1 n0 n1 ⟨1,R.q,R.p,R.ta,R.y,R.ny.g⟩ u;have hjx:=Zel hok x0 x1 g0 g1 n0 n1;have hok2:=VC hok R.x R.nx.g (R.nx.f - 1) ⟨1,R.q,R.p,R.ta,R.y,R.ny.g⟩ (by omega);have ht:Zdq Q R=(R,Xm Q R.x R.nx.g (R.nx.f - 1) ⟨1,R.q,R.p,R.ta,R.y,R.ny.g⟩):=by unfold Zdq;rw[if_pos hm]
  rw[ht]at hQ;obtain ⟨Q2,hq2⟩:∃ z,Xm Q R.x R.nx.g (R.nx.f - 1) ⟨1,R.q,R.p,R.ta,R.y,R.ny.g⟩=z:=⟨_,rfl⟩;rw[hq2]at hno hok2 hQ;simp only[rcA]at hno hQ;have q82:=(Zp hok2).2.2.2.2.2.2.2.1;have hz02:=Xc Q2 q82;have hz12:=YK Q2 q82;have hzr2:=YW hok2;simp only[K10,rzC]
  repeat' with_reducible (first|refine ZR.h ?_|refine zI ?_|((first|refine zK hE ?_|refine zM hE ?_);intro K hK;simp[ELt,hz0,hz1,hzr,hz02,hz12,hzr2,hno,wf,hm];(repeat' (first|refine hK _ _ ?_|apply And.intro|(intro hc;try subst hc)))<;>(try clear hK K))|(refine zJ (fun hc=>?_) (fun hc=>?_)<;>simp at hc<;>(try subst hc)))
  all_goals (refine hQ _ _ _ ?_)
  all_goals (try simp only[rzC])
  all_goals (refine Imp.aut ?_ ?_<;>simp[NLe,hz02,hz12,hzr2,hm])
 ·have hm:R.made=false:=by simpa using hm
  have ht:Zdq Q R=(R,Q):=by unfold Zdq;rw[if_neg (by simp[hm])]
  rw[ht]at hQ;simp only[K10,rzC]
  repeat' with_reducible (first|refine ZR.h ?_|refine zI ?_|((first|refine zK hE ?_|refine zM hE ?_);intro K hK;simp[ELt,hz0,hz1,hzr,hm];(repeat' (first|refine hK _ _ ?_|apply And.intro|(intro hc;try subst hc)))<;>(try clear hK K))|(refine zJ (fun hc=>?_) (fun hc=>?_)<;>simp at hc<;>(try subst hc)))
  all_goals (refine hQ _ _ _ ?_)
  all_goals (try simp only[rzC])
  all_goals (refine Imp.aut ?_ ?_<;>simp[NLe,hz0,hz1,hzr,hm])
theorem w10_11 {w0:World} {S:Sc} {Qx:Exit→St→Prop} {R:RZ} {Q:QZ} (hH:HyR S R Q)
  (hn:R.made=true→1≤R.ny.g∧R.ny.g≤Q.g∧0≤R.ny.f - 1∧R.ny.f - 1≤Q.f)
  (hQ:∀ tl hl nb,Imp 2 ⟨[(0,.tup [])],hl,nb⟩ ⟨[(0,.tup [])],[(0,.cells 0 (rzC (Zdo Q R).1)),(1,.cells 0 (qzC (Zdo Q R).2))],2⟩→Qx .normal ⟨tl,hl,nb⟩) :
  Wm Tryz.prog w0 S Tryz.f10.ntmps [] U6 (K10 R Q 11) (Ye 0 Qx):=by
 unfold U6
 obtain ⟨hS,hr,hok,hsm,x0,x1,y0,y1⟩:=hH
 have hE:=XR
 have hS0:=Z7 Q.S
 have hS1:=Z6 Q.S
 have hT0:=Yd Q.T
 have hT1:=Yc Q.T
 have hJ0:=Z9 Q.J
 have hJ1:=Ya Q.J
 obtain ⟨q1,q2,q3,q4,q5,q6,q7,q8,q9⟩:=Zp hok
 have hL0:=ZF q8
 have hL1:=ZE q8
 have hz0:=Xc Q q8
 have hz1:=YK Q q8
 have hzr:=YW hok
 have hy0:=XH R
 have hy1:=XW R
 obtain ⟨z1,z2⟩:=XA hsm
 have w1:IntKind.wrap .i64 (Q.u+1)=Q.u+1:=Zh (by omega) (by omega)
 by_cases hm:R.made=true
 ·obtain ⟨g0,g1,n0,n1⟩:=hn hm
  have s1:=ya (zc hr).2.2.2.2.1;have s2:=ya (zc hr).2.2.2.2.2.1;have wf:IntKind.wrap .i64 (R.ny.f - 1)=R.ny.f - 1:=Zh (by omega) (by omega);have hno:=fun u=>e49 hok hsm y0 y1 g0 g1 n0 n1 ⟨1,R.q,R.p,R.ta,R.x,R.nx.g⟩ u;have hjx:=Zel hok y0 y1 g0 g1 n0 n1;have hok2:=VC hok R.y R.ny.g (R.ny.f - 1) ⟨1,R.q,R.p,R.ta,R.x,R.nx.g⟩ (by omega);have ht:Zdo Q R=(R,Xm Q R.y R.ny.g (R.ny.f - 1) ⟨1,R.q,R.p,R.ta,R.x,R.nx.g⟩):=by unfold Zdo;rw[if_pos hm]
  rw[ht]at hQ;obtain ⟨Q2,hq2⟩:∃ z,Xm Q R.y R.ny.g (R.ny.f - 1) ⟨1,R.q,R.p,R.ta,R.x,R.nx.g⟩=z:=⟨_,rfl⟩;rw[hq2]at hno hok2 hQ;simp only[rcA]at hno hQ;have q82:=(Zp hok2).2.2.2.2.2.2.2.1;have hz02:=Xc Q2 q82;have hz12:=YK Q2 q82;have hzr2:=YW hok2;simp only[K10,rzC]
  repeat' with_reducible (first|refine ZR.h ?_|refine zI ?_|((first|refine zK hE ?_|refine zM hE ?_);intro K hK;simp[ELt,hz0,hz1,hzr,hz02,hz12,hzr2,hno,wf,hm];(repeat' (first|refine hK _ _ ?_|apply And.intro|(intro hc;try subst hc)))<;>(try clear hK K))|(refine zJ (fun hc=>?_) (fun hc=>?_)<;>simp at hc<;>(try subst hc)))
  all_goals (refine hQ _ _ _ ?_)
  all_goals (try simp only[rzC])
  all_goals (refine Imp.aut ?_ ?_<;>simp[NLe,hz02,hz12,hzr2,hm])
 ·have hm:R.made=false:=by simpa using hm
  have ht:Zdo Q R=(R,Q):=by unfold Zdo;rw[if_neg (by simp[hm])]
  rw[ht]at hQ;simp only[K10,rzC]
  repeat' with_reducible (first|refine ZR.h ?_|refine zI ?_|((first|refine zK hE ?_|refine zM hE ?_);intro K hK;simp[ELt,hz0,hz1,hzr,hm];(repeat' (first|refine hK _ _ ?_|apply And.intro|(intro hc;try subst hc)))<;>(try clear hK K))|(refine zJ (fun hc=>?_) (fun hc=>?_)<;>simp at hc<;>(try subst hc)))
  all_goals (refine hQ _ _ _ ?_)
  all_goals (try simp only[rzC])
  all_goals (refine Imp.aut ?_ ?_<;>simp[NLe,hz0,hz1,hzr,hm])
theorem w10_12 {w0:World} {S:Sc} {Qx:Exit→St→Prop} {R:RZ} {Q:QZ} (hH:HyR S R Q)
  (hn:R.made=true→(ZW R.ny R.ta).2=true→1≤R.ny.g∧R.ny.g≤Q.g)
  (hQ:∀ tl hl nb,Imp 2 ⟨[(0,.tup [])],hl,nb⟩ ⟨[(0,.tup [])],[(0,.cells 0 (rzC (ZbI Q R).1)),(1,.cells 0 (qzC (ZbI Q R).2))],2⟩→Qx .normal ⟨tl,hl,nb⟩) :
  Wm Tryz.prog w0 S Tryz.f10.ntmps [] U6 (K10 R Q 12) (Ye 0 Qx):=by
 unfold U6
 obtain ⟨hS,hr,hok,hsm,x0,x1,y0,y1⟩:=hH
 have hE:=XR
 have hS0:=Z7 Q.S
 have hS1:=Z6 Q.S
 have hT0:=Yd Q.T
 have hT1:=Yc Q.T
 have hJ0:=Z9 Q.J
 have hJ1:=Ya Q.J
 obtain ⟨q1,q2,q3,q4,q5,q6,q7,q8,q9⟩:=Zp hok
 have hL0:=ZF q8
 have hL1:=ZE q8
 have hz0:=Xc Q q8
 have hz1:=YK Q q8
 have hzr:=YW hok
 have hy0:=XH R
 have hy1:=XW R
 obtain ⟨z1,z2⟩:=XA hsm
 have w1:IntKind.wrap .i64 (Q.u+1)=Q.u+1:=Zh (by omega) (by omega)
 have hen:d50 [stA R.ny,.int .i64 R.ta] []=some (.tup [rcA (ZW R.ny R.ta).1,.bool (ZW R.ny R.ta).2]):=rfl
 have hcf:=ZH q1
 by_cases hm:R.made=true
 ·by_cases he:(ZW R.ny R.ta).2=true
  ·obtain ⟨g0,g1⟩:=hn hm he
   have hno:=fun u=>e49 hok hsm y0 y1 g0 g1 (show 0≤Q.f by omega) (Int.le_refl _) (ZW R.ny R.ta).1 u;have hok2:=VC hok R.y R.ny.g Q.f (ZW R.ny R.ta).1 (by omega);have ht:ZbI Q R=(R,Xm Q R.y R.ny.g Q.f (ZW R.ny R.ta).1):=(by unfold ZbI;rw[if_pos ⟨hm,he⟩]);rw[ht]at hQ;rw[he]at hen;obtain ⟨⟨rc,rb⟩,hrc⟩:∃ z,ZW R.ny R.ta=z:=⟨_,rfl⟩;rw[hrc]at hen hno hok2 hQ;simp only at hen hno hok2 hQ;obtain ⟨Q2,hq2⟩:∃ z,Xm Q R.y R.ny.g Q.f rc=z:=⟨_,rfl⟩;rw[hq2]at hno hok2 hQ;simp only[rcA,stA]at hno hQ hen;have q82:=(Zp hok2).2.2.2.2.2.2.2.1;have hS02:=Z7 Q2.S;have hS12:=Z6 Q2.S;have hT02:=Yd Q2.T;have hT12:=Yc Q2.T;have hJ02:=Z9 Q2.J;have hJ12:=Ya Q2.J;have hL02:=ZF q82;have hL12:=ZE q82;simp only[qzC]at hno;simp only[K10,rzC,qzC]
   repeat' with_reducible (first|refine ZR.h ?_|refine zI ?_|((first|refine zK hE ?_|refine zM hE ?_);intro K hK;simp[ELt,hS0,hS1,hT0,hT1,hJ0,hJ1,hL0,hL1,hS02,hS12,hT02,hT12,hJ02,hJ12,hL02,hL12,hno,hen,hm];(repeat' (first|refine hK _ _ ?_|apply And.intro|(intro hc;try subst hc)))<;>(try clear hK K))|(refine zJ (fun hc=>?_) (fun hc=>?_)<;>simp at hc<;>(try subst hc)))
   all_goals (refine hQ _ _ _ ?_)
   all_goals (try simp only[rzC,qzC])
   all_goals (refine Imp.aut ?_ ?_<;>simp[NLe,hS0,hS1,hT0,hT1,hJ0,hJ1,hL0,hL1,hS02,hS12,hT02,hT12,hJ02,hJ12,hL02,hL12,hm])
  ·have he:(ZW R.ny R.ta).2=false:=by simpa using he
   have ht:ZbI Q R=(R,Q):=(by unfold ZbI;rw[if_neg (by simp[he])]);rw[ht]at hQ;rw[he]at hen;obtain ⟨rc,hrc⟩:∃ z,(ZW R.ny R.ta).1=z:=⟨_,rfl⟩;rw[hrc]at hen;simp only[rcA,stA]at hen;simp only[K10,rzC]
   repeat' with_reducible (first|refine ZR.h ?_|refine zI ?_|((first|refine zK hE ?_|refine zM hE ?_);intro K hK;simp[ELt,hz0,hz1,hzr,hen,hm];(repeat' (first|refine hK _ _ ?_|apply And.intro|(intro hc;try subst hc)))<;>(try clear hK K))|(refine zJ (fun hc=>?_) (fun hc=>?_)<;>simp at hc<;>(try subst hc)))
   all_goals (refine hQ _ _ _ ?_)
   all_goals (try simp only[rzC])
   all_goals (refine Imp.aut ?_ ?_<;>simp[NLe,hz0,hz1,hzr,hm])
 ·have hm:R.made=false:=by simpa using hm
  have ht:ZbI Q R=(R,Q):=by unfold ZbI;rw[if_neg (by simp[hm])]
  rw[ht]at hQ;obtain ⟨⟨rc,rb⟩,hrc⟩:∃ z,ZW R.ny R.ta=z:=⟨_,rfl⟩;rw[hrc]at hen;simp only[rcA,stA]at hen;simp only[K10,rzC]
  repeat' with_reducible (first|refine ZR.h ?_|refine zI ?_|((first|refine zK hE ?_|refine zM hE ?_);intro K hK;simp[ELt,hz0,hz1,hzr,hen,hm];(repeat' (first|refine hK _ _ ?_|apply And.intro|(intro hc;try subst hc)))<;>(try clear hK K))|(refine zJ (fun hc=>?_) (fun hc=>?_)<;>simp at hc<;>(try subst hc)))
  all_goals (refine hQ _ _ _ ?_)
  all_goals (try simp only[rzC])
  all_goals (refine Imp.aut ?_ ?_<;>simp[NLe,hz0,hz1,hzr,hm])
theorem w10_13 {w0:World} {S:Sc} {Qx:Exit→St→Prop} {R:RZ} {Q:QZ} (hH:HyR S R Q)
  (hn:R.held=true→(ZW R.nx R.en).2=true→1≤R.nx.g∧R.nx.g≤Q.g)
  (hQ:∀ tl hl nb,Imp 2 ⟨[(0,.tup [])],hl,nb⟩ ⟨[(0,.tup [])],[(0,.cells 0 (rzC (ZbJ Q R).1)),(1,.cells 0 (qzC (ZbJ Q R).2))],2⟩→Qx .normal ⟨tl,hl,nb⟩) :
  Wm Tryz.prog w0 S Tryz.f10.ntmps [] U6 (K10 R Q 13) (Ye 0 Qx):=by
 unfold U6
 obtain ⟨hS,hr,hok,hsm,x0,x1,y0,y1⟩:=hH
 have hE:=XR
 have hS0:=Z7 Q.S
 have hS1:=Z6 Q.S
 have hT0:=Yd Q.T
 have hT1:=Yc Q.T
 have hJ0:=Z9 Q.J
 have hJ1:=Ya Q.J
 obtain ⟨q1,q2,q3,q4,q5,q6,q7,q8,q9⟩:=Zp hok
 have hL0:=ZF q8
 have hL1:=ZE q8
 have hz0:=Xc Q q8
 have hz1:=YK Q q8
 have hzr:=YW hok
 have hy0:=XH R
 have hy1:=XW R
 obtain ⟨z1,z2⟩:=XA hsm
 have w1:IntKind.wrap .i64 (Q.u+1)=Q.u+1:=Zh (by omega) (by omega)
 have hen:d50 [stA R.nx,.int .i64 R.en] []=some (.tup [rcA (ZW R.nx R.en).1,.bool (ZW R.nx R.en).2]):=rfl
 have hcf:=ZH q1
 by_cases hm:R.held=true
 ·by_cases he:(ZW R.nx R.en).2=true
  ·obtain ⟨g0,g1⟩:=hn hm he
   have hno:=fun u=>e49 hok hsm x0 x1 g0 g1 (show 0≤Q.f by omega) (Int.le_refl _) (ZW R.nx R.en).1 u;have hok2:=VC hok R.x R.nx.g Q.f (ZW R.nx R.en).1 (by omega);have ht:ZbJ Q R=(R,Xm Q R.x R.nx.g Q.f (ZW R.nx R.en).1):=(by unfold ZbJ;rw[if_pos ⟨hm,he⟩]);rw[ht]at hQ;rw[he]at hen;obtain ⟨⟨rc,rb⟩,hrc⟩:∃ z,ZW R.nx R.en=z:=⟨_,rfl⟩;rw[hrc]at hen hno hok2 hQ;simp only at hen hno hok2 hQ;obtain ⟨Q2,hq2⟩:∃ z,Xm Q R.x R.nx.g Q.f rc=z:=⟨_,rfl⟩;rw[hq2]at hno hok2 hQ;simp only[rcA,stA]at hno hQ hen;have q82:=(Zp hok2).2.2.2.2.2.2.2.1;have hS02:=Z7 Q2.S;have hS12:=Z6 Q2.S;have hT02:=Yd Q2.T;have hT12:=Yc Q2.T;have hJ02:=Z9 Q2.J;have hJ12:=Ya Q2.J;have hL02:=ZF q82;have hL12:=ZE q82;simp only[qzC]at hno;simp only[K10,rzC,qzC]
   repeat' with_reducible (first|refine ZR.h ?_|refine zI ?_|((first|refine zK hE ?_|refine zM hE ?_);intro K hK;simp[ELt,hS0,hS1,hT0,hT1,hJ0,hJ1,hL0,hL1,hS02,hS12,hT02,hT12,hJ02,hJ12,hL02,hL12,hno,hen,hm];(repeat' (first|refine hK _ _ ?_|apply And.intro|(intro hc;try subst hc)))<;>(try clear hK K))|(refine zJ (fun hc=>?_) (fun hc=>?_)<;>simp at hc<;>(try subst hc)))
   all_goals (refine hQ _ _ _ ?_)
   all_goals (try simp only[rzC,qzC])
   all_goals (refine Imp.aut ?_ ?_<;>simp[NLe,hS0,hS1,hT0,hT1,hJ0,hJ1,hL0,hL1,hS02,hS12,hT02,hT12,hJ02,hJ12,hL02,hL12,hm])
  ·have he:(ZW R.nx R.en).2=false:=by simpa using he
   have ht:ZbJ Q R=(R,Q):=(by unfold ZbJ;rw[if_neg (by simp[he])]);rw[ht]at hQ;rw[he]at hen;obtain ⟨rc,hrc⟩:∃ z,(ZW R.nx R.en).1=z:=⟨_,rfl⟩;rw[hrc]at hen;simp only[rcA,stA]at hen;simp only[K10,rzC]
   repeat' with_reducible (first|refine ZR.h ?_|refine zI ?_|((first|refine zK hE ?_|refine zM hE ?_);intro K hK;simp[ELt,hz0,hz1,hzr,hen,hm];(repeat' (first|refine hK _ _ ?_|apply And.intro|(intro hc;try subst hc)))<;>(try clear hK K))|(refine zJ (fun hc=>?_) (fun hc=>?_)<;>simp at hc<;>(try subst hc)))
   all_goals (refine hQ _ _ _ ?_)
   all_goals (try simp only[rzC])
   all_goals (refine Imp.aut ?_ ?_<;>simp[NLe,hz0,hz1,hzr,hm])
 ·have hm:R.held=false:=by simpa using hm
  have ht:ZbJ Q R=(R,Q):=by unfold ZbJ;rw[if_neg (by simp[hm])]
  rw[ht]at hQ;obtain ⟨⟨rc,rb⟩,hrc⟩:∃ z,ZW R.nx R.en=z:=⟨_,rfl⟩;rw[hrc]at hen;simp only[rcA,stA]at hen;simp only[K10,rzC]
  repeat' with_reducible (first|refine ZR.h ?_|refine zI ?_|((first|refine zK hE ?_|refine zM hE ?_);intro K hK;simp[ELt,hz0,hz1,hzr,hen,hm];(repeat' (first|refine hK _ _ ?_|apply And.intro|(intro hc;try subst hc)))<;>(try clear hK K))|(refine zJ (fun hc=>?_) (fun hc=>?_)<;>simp at hc<;>(try subst hc)))
  all_goals (refine hQ _ _ _ ?_)
  all_goals (try simp only[rzC])
  all_goals (refine Imp.aut ?_ ?_<;>simp[NLe,hz0,hz1,hzr,hm])
end Go.W
