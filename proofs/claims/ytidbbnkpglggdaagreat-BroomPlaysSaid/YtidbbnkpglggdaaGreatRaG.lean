/- A part of the proofs about the pair's laws (RaG). -/
import Derived.Test.YtidbbnkpglggdaaGreatRaF
import Derived.Test.YtidbbnkpglggdaaGreatRaK
namespace Go.W
open Go.Proofs
set_option linter.unusedSimpArgs false
set_option linter.unusedVariables false
set_option maxHeartbeats 200000000
set_option maxRecDepth 100000
attribute [local irreducible] Wm WmA
attribute [local simp] YP lkp Vq prs V9 prT ddL idL Yy Ue Ren Ve NObj.none ZT
theorem Za1 (R:RZ) (φ:zw):Yy φ (rzC R) (rzC R):=by simp[rzC]
def AC.blk:AC→Option AC
 | .block _ a=>some a
 | .seq a b=>(match a.blk with
  | some x=>some x
  | none=>b.blk)
 | .cond _ a b=>(match a.blk with
  | some x=>some x
  | none=>b.blk)
 | .loop a=>a.blk
 | _=>none
noncomputable def Xl:AC:=match Ziq Tryz.prog Tryz.f10 with
 | some (ac,_)=>(ac.blk).getD .skip
 | none=>.skip
def HyR (S:Sc) (R:RZ) (Q:QZ):Prop:=S.m=2∧okR R=true∧okQ Q=true∧smQ Q=true∧0≤R.x∧R.x<Q.a*Q.b∧0≤R.y∧R.y<Q.a*Q.b
def K10 (sw sp:Int) (R:RZ) (Q:QZ) (k:Int):St:=⟨[(0,.ptr (.top 0) 0 2),(1,.ptr (.top 1) 0 0),(5,.ptr (.top 2) 0 0),(76,.int .i64 k)],[(0,.cells 0 (.int .i64 sw :: .int .i64 sp :: rzC R)),(1,.cells 0 (qzC Q)),(2,.cells 0 [.int .i64 R.way,.int .i64 R.x,.int .i64 R.gn,.int .i64 R.y,.int .i64 R.sh])],3⟩
def ELt:List (FuncId×Spec):=[(45,rdS d45 ok45),(46,Zm [(13,true)] d46 ok46),(49,Zm [(13,true)] d49 ok49),(50,rdS d50 ok50),(47,Zhh 2 [(45,true),(13,true)] d47 ok47),(48,Zhh 2 [(45,true),(13,true)] d48 ok48)]
theorem X4:Zd Tryz.prog (EL ELt):=Ze (by
 simp only[ELt,List.mem_cons,List.not_mem_nil,or_false,forall_eq_or_imp,forall_eq];exact ⟨s45,s46,s49,s50,s47,s48⟩)
theorem w10_0 {w0:World} {S:Sc} {Qx:Exit→St→Prop} {R:RZ} {Q:QZ} {sw sp:Int} (hH:HyR S R Q)
  (hQ:∀ tl hl nb,Imp 2 ⟨[(0,.tup [])],hl,nb⟩ ⟨[(0,.tup [])],[(0,.cells 0 (.int .i64 sw :: .int .i64 sp :: rzC (c0R Q R).1)),(1,.cells 0 (qzC (c0R Q R).2))],2⟩→Qx .normal ⟨tl,hl,nb⟩) :
  WmA Tryz.prog w0 S Tryz.f10.ntmps [] Xl (K10 sw sp R Q 0) (Yp 0 Qx):=by
 have hM:Xl=Xl:=rfl
 conv at hM=>rhs;unfold Xl;cbv
 rw[hM]
 clear hM
 obtain ⟨hS,hr,hok,hsm,x0,x1,y0,y1⟩:=hH
 have hE:=X4
 have hS0:=Z4 Q.S
 have hS1:=Z5 Q.S
 have hT0:=Z7 Q.T
 have hT1:=Z6 Q.T
 have hJ0:=Z1 Q.J
 have hJ1:=Z0 Q.J
 obtain ⟨q1,q2,q3,q4,q5,q6,q7,q8,q9⟩:=Zr hok
 have hL0:=ZC q8
 have hL1:=ZD q8
 have hz0:=Y3 Q q8
 have hz1:=YA Q q8
 have hzr:=YR hok
 have hy0:=X3 R
 have hy1:=X6 R
 obtain ⟨z1,z2⟩:=Xt hsm
 have w1:IntKind.wrap .i64 (Q.u+1)=Q.u+1:=Zg (by omega) (by omega)
 obtain ⟨X,hX⟩:=Int.eq_ofNat_of_zero_le x0
 have hXl:X<Q.S.length:=by omega
 obtain ⟨s0,hs0⟩:∃ s0,Q.S[X]?=some s0:=⟨_,List.getElem?_eq_getElem hXl⟩
 have hg:=T9 hs0
 have hge:=Y5 hg
 have hgl:=Uk Q.S
 have ht:c0R Q R=({ R with sx:=s0 },YO Q):=by
  unfold c0R vf;rw[hX,show (X:Int).toNat=X by omega,List.getD_eq_getElem?_getD,hs0];rfl
 rw[ht]at hQ
 simp only[stL]at hg hge
 simp only[K10,rzC,qzC]
 as_aux_lemma =>
  repeat' with_reducible (first|refine ZR.h ?_|refine kI ?_|((first|refine kR hE ?_|refine kD hE Zq ?_);intro K hK;simp[ELt,                                                 hS0,hS1,hT0,hT1,hJ0,hJ1,hL0,hL1,hX,hg,hge,hgl,hXl,w1];(repeat' (first|refine hK _ _ ?_|apply And.intro|(intro hc;try subst hc)))<;>(try clear hK K))|(refine kT (fun hc=>?_) (fun hc=>?_)<;>simp at hc<;>(try subst hc)))
  all_goals try (show Zb _ _=true;kernel_rfl)
  all_goals (refine hQ _ _ _ ?_)
  all_goals (try simp only[rzC,qzC,YO])
  all_goals (refine Imp.aut ?_ ?_<;>simp[NLe,hS0,hS1,hT0,hT1,hJ0,hJ1,hL0,hL1,hX,stL])
theorem w10_1 {w0:World} {S:Sc} {Qx:Exit→St→Prop} {R:RZ} {Q:QZ} {sw sp:Int} (hH:HyR S R Q)
  (hQ:∀ tl hl nb,Imp 2 ⟨[(0,.tup [])],hl,nb⟩ ⟨[(0,.tup [])],[(0,.cells 0 (.int .i64 sw :: .int .i64 sp :: rzC (c1R Q R).1)),(1,.cells 0 (qzC (c1R Q R).2))],2⟩→Qx .normal ⟨tl,hl,nb⟩) :
  WmA Tryz.prog w0 S Tryz.f10.ntmps [] Xl (K10 sw sp R Q 1) (Yp 0 Qx):=by
 have hM:Xl=Xl:=rfl
 conv at hM=>rhs;unfold Xl;cbv
 rw[hM]
 clear hM
 obtain ⟨hS,hr,hok,hsm,x0,x1,y0,y1⟩:=hH
 have hE:=X4
 have hS0:=Z4 Q.S
 have hS1:=Z5 Q.S
 have hT0:=Z7 Q.T
 have hT1:=Z6 Q.T
 have hJ0:=Z1 Q.J
 have hJ1:=Z0 Q.J
 obtain ⟨q1,q2,q3,q4,q5,q6,q7,q8,q9⟩:=Zr hok
 have hL0:=ZC q8
 have hL1:=ZD q8
 have hz0:=Y3 Q q8
 have hz1:=YA Q q8
 have hzr:=YR hok
 have hy0:=X3 R
 have hy1:=X6 R
 obtain ⟨z1,z2⟩:=Xt hsm
 have w1:IntKind.wrap .i64 (Q.u+1)=Q.u+1:=Zg (by omega) (by omega)
 obtain ⟨X,hX⟩:=Int.eq_ofNat_of_zero_le x0
 have hXl:X<Q.T.length:=by omega
 obtain ⟨s0,hs0⟩:∃ s0,Q.T[X]?=some s0:=⟨_,List.getElem?_eq_getElem hXl⟩
 have hg:=vL hs0
 have hge:=Y5 hg
 have hgl:=vu Q.T
 have ht:c1R Q R=({ R with tx:=s0 },YO Q):=by
  unfold c1R ZdV;rw[hX,show (X:Int).toNat=X by omega,List.getD_eq_getElem?_getD,hs0];rfl
 rw[ht]at hQ
 simp only[tmC]at hg hge
 simp only[K10,rzC,qzC]
 as_aux_lemma =>
  repeat' with_reducible (first|refine ZR.h ?_|refine kI ?_|((first|refine kR hE ?_|refine kD hE Zq ?_);intro K hK;simp[ELt,                                                 hS0,hS1,hT0,hT1,hJ0,hJ1,hL0,hL1,hX,hg,hge,hgl,hXl,w1];(repeat' (first|refine hK _ _ ?_|apply And.intro|(intro hc;try subst hc)))<;>(try clear hK K))|(refine kT (fun hc=>?_) (fun hc=>?_)<;>simp at hc<;>(try subst hc)))
  all_goals try (show Zb _ _=true;kernel_rfl)
  all_goals (refine hQ _ _ _ ?_)
  all_goals (try simp only[rzC,qzC,YO])
  all_goals (refine Imp.aut ?_ ?_<;>simp[NLe,hS0,hS1,hT0,hT1,hJ0,hJ1,hL0,hL1,hX,tmC])
theorem w10_3 {w0:World} {S:Sc} {Qx:Exit→St→Prop} {R:RZ} {Q:QZ} {sw sp:Int} (hH:HyR S R Q)
  (hQ:∀ tl hl nb,Imp 2 ⟨[(0,.tup [])],hl,nb⟩ ⟨[(0,.tup [])],[(0,.cells 0 (.int .i64 sw :: .int .i64 sp :: rzC (c3R Q R).1)),(1,.cells 0 (qzC (c3R Q R).2))],2⟩→Qx .normal ⟨tl,hl,nb⟩) :
  WmA Tryz.prog w0 S Tryz.f10.ntmps [] Xl (K10 sw sp R Q 3) (Yp 0 Qx):=by
 have hM:Xl=Xl:=rfl
 conv at hM=>rhs;unfold Xl;cbv
 rw[hM]
 clear hM
 obtain ⟨hS,hr,hok,hsm,x0,x1,y0,y1⟩:=hH
 have hE:=X4
 have hS0:=Z4 Q.S
 have hS1:=Z5 Q.S
 have hT0:=Z7 Q.T
 have hT1:=Z6 Q.T
 have hJ0:=Z1 Q.J
 have hJ1:=Z0 Q.J
 obtain ⟨q1,q2,q3,q4,q5,q6,q7,q8,q9⟩:=Zr hok
 have hL0:=ZC q8
 have hL1:=ZD q8
 have hz0:=Y3 Q q8
 have hz1:=YA Q q8
 have hzr:=YR hok
 have hy0:=X3 R
 have hy1:=X6 R
 obtain ⟨z1,z2⟩:=Xt hsm
 have w1:IntKind.wrap .i64 (Q.u+1)=Q.u+1:=Zg (by omega) (by omega)
 obtain ⟨X,hX⟩:=Int.eq_ofNat_of_zero_le y0
 have hXl:X<Q.S.length:=by omega
 obtain ⟨s0,hs0⟩:∃ s0,Q.S[X]?=some s0:=⟨_,List.getElem?_eq_getElem hXl⟩
 have hg:=T9 hs0
 have hge:=Y5 hg
 have hgl:=Uk Q.S
 have ht:c3R Q R=({ R with sy:=s0 },YO Q):=by
  unfold c3R vf;rw[hX,show (X:Int).toNat=X by omega,List.getD_eq_getElem?_getD,hs0];rfl
 rw[ht]at hQ
 simp only[stL]at hg hge
 simp only[K10,rzC,qzC]
 as_aux_lemma =>
  repeat' with_reducible (first|refine ZR.h ?_|refine kI ?_|((first|refine kR hE ?_|refine kD hE Zq ?_);intro K hK;simp[ELt,                                                 hS0,hS1,hT0,hT1,hJ0,hJ1,hL0,hL1,hX,hg,hge,hgl,hXl,w1];(repeat' (first|refine hK _ _ ?_|apply And.intro|(intro hc;try subst hc)))<;>(try clear hK K))|(refine kT (fun hc=>?_) (fun hc=>?_)<;>simp at hc<;>(try subst hc)))
  all_goals try (show Zb _ _=true;kernel_rfl)
  all_goals (refine hQ _ _ _ ?_)
  all_goals (try simp only[rzC,qzC,YO])
  all_goals (refine Imp.aut ?_ ?_<;>simp[NLe,hS0,hS1,hT0,hT1,hJ0,hJ1,hL0,hL1,hX,stL])
theorem w10_4 {w0:World} {S:Sc} {Qx:Exit→St→Prop} {R:RZ} {Q:QZ} {sw sp:Int} (hH:HyR S R Q)
  (hQ:∀ tl hl nb,Imp 2 ⟨[(0,.tup [])],hl,nb⟩ ⟨[(0,.tup [])],[(0,.cells 0 (.int .i64 sw :: .int .i64 sp :: rzC (c4R Q R).1)),(1,.cells 0 (qzC (c4R Q R).2))],2⟩→Qx .normal ⟨tl,hl,nb⟩) :
  WmA Tryz.prog w0 S Tryz.f10.ntmps [] Xl (K10 sw sp R Q 4) (Yp 0 Qx):=by
 have hM:Xl=Xl:=rfl
 conv at hM=>rhs;unfold Xl;cbv
 rw[hM]
 clear hM
 obtain ⟨hS,hr,hok,hsm,x0,x1,y0,y1⟩:=hH
 have hE:=X4
 have hS0:=Z4 Q.S
 have hS1:=Z5 Q.S
 have hT0:=Z7 Q.T
 have hT1:=Z6 Q.T
 have hJ0:=Z1 Q.J
 have hJ1:=Z0 Q.J
 obtain ⟨q1,q2,q3,q4,q5,q6,q7,q8,q9⟩:=Zr hok
 have hL0:=ZC q8
 have hL1:=ZD q8
 have hz0:=Y3 Q q8
 have hz1:=YA Q q8
 have hzr:=YR hok
 have hy0:=X3 R
 have hy1:=X6 R
 obtain ⟨z1,z2⟩:=Xt hsm
 have w1:IntKind.wrap .i64 (Q.u+1)=Q.u+1:=Zg (by omega) (by omega)
 obtain ⟨X,hX⟩:=Int.eq_ofNat_of_zero_le y0
 have hXl:X<Q.T.length:=by omega
 obtain ⟨s0,hs0⟩:∃ s0,Q.T[X]?=some s0:=⟨_,List.getElem?_eq_getElem hXl⟩
 have hg:=vL hs0
 have hge:=Y5 hg
 have hgl:=vu Q.T
 have ht:c4R Q R=({ R with ty:=s0 },YO Q):=by
  unfold c4R ZdV;rw[hX,show (X:Int).toNat=X by omega,List.getD_eq_getElem?_getD,hs0];rfl
 rw[ht]at hQ
 simp only[tmC]at hg hge
 simp only[K10,rzC,qzC]
 as_aux_lemma =>
  repeat' with_reducible (first|refine ZR.h ?_|refine kI ?_|((first|refine kR hE ?_|refine kD hE Zq ?_);intro K hK;simp[ELt,                                                 hS0,hS1,hT0,hT1,hJ0,hJ1,hL0,hL1,hX,hg,hge,hgl,hXl,w1];(repeat' (first|refine hK _ _ ?_|apply And.intro|(intro hc;try subst hc)))<;>(try clear hK K))|(refine kT (fun hc=>?_) (fun hc=>?_)<;>simp at hc<;>(try subst hc)))
  all_goals try (show Zb _ _=true;kernel_rfl)
  all_goals (refine hQ _ _ _ ?_)
  all_goals (try simp only[rzC,qzC,YO])
  all_goals (refine Imp.aut ?_ ?_<;>simp[NLe,hS0,hS1,hT0,hT1,hJ0,hJ1,hL0,hL1,hX,tmC])
theorem w10_6 {w0:World} {S:Sc} {Qx:Exit→St→Prop} {R:RZ} {Q:QZ} {sw sp:Int} (hH:HyR S R Q)
  (hQ:∀ tl hl nb,Imp 2 ⟨[(0,.tup [])],hl,nb⟩ ⟨[(0,.tup [])],[(0,.cells 0 (.int .i64 sw :: .int .i64 sp :: rzC (c6R Q R).1)),(1,.cells 0 (qzC (c6R Q R).2))],2⟩→Qx .normal ⟨tl,hl,nb⟩) :
  WmA Tryz.prog w0 S Tryz.f10.ntmps [] Xl (K10 sw sp R Q 6) (Yp 0 Qx):=by
 have hM:Xl=Xl:=rfl
 conv at hM=>rhs;unfold Xl;cbv
 rw[hM]
 clear hM
 obtain ⟨hS,hr,hok,hsm,x0,x1,y0,y1⟩:=hH
 have hE:=X4
 have hS0:=Z4 Q.S
 have hS1:=Z5 Q.S
 have hT0:=Z7 Q.T
 have hT1:=Z6 Q.T
 have hJ0:=Z1 Q.J
 have hJ1:=Z0 Q.J
 obtain ⟨q1,q2,q3,q4,q5,q6,q7,q8,q9⟩:=Zr hok
 have hL0:=ZC q8
 have hL1:=ZD q8
 have hz0:=Y3 Q q8
 have hz1:=YA Q q8
 have hzr:=YR hok
 have hy0:=X3 R
 have hy1:=X6 R
 obtain ⟨z1,z2⟩:=Xt hsm
 have w1:IntKind.wrap .i64 (Q.u+1)=Q.u+1:=Zg (by omega) (by omega)
 by_cases hh:R.held=true
 ·by_cases hf:R.free=false
  ·
   obtain ⟨X,hX⟩:=Int.eq_ofNat_of_zero_le x0
   have hXl:X<Q.S.length:=by omega
   obtain ⟨s0,hs0⟩:∃ s0,Q.S[X]?=some s0:=⟨_,List.getElem?_eq_getElem hXl⟩
   have hg:=T9 hs0
   have hge:=Y5 hg
   have hgl:=Uk Q.S
   have ht:c6R Q R=({ R with sx:=s0 },YO Q):=by
    unfold c6R vf;rw[if_pos ⟨hh,hf⟩];rw[hX,show (X:Int).toNat=X by omega,List.getD_eq_getElem?_getD,hs0];rfl
   rw[ht]at hQ
   simp only[stL]at hg hge
   simp only[K10,rzC,qzC]
   as_aux_lemma =>
    repeat' with_reducible (first|refine ZR.h ?_|refine kI ?_|((first|refine kR hE ?_|refine kD hE Zq ?_);intro K hK;simp[ELt,                                                 hS0,hS1,hT0,hT1,hJ0,hJ1,hL0,hL1,hX,hg,hge,hgl,hXl,w1,hh,hf];(repeat' (first|refine hK _ _ ?_|apply And.intro|(intro hc;try subst hc)))<;>(try clear hK K))|(refine kT (fun hc=>?_) (fun hc=>?_)<;>simp at hc<;>(try subst hc)))
    all_goals try (show Zb _ _=true;kernel_rfl)
    all_goals (refine hQ _ _ _ ?_)
    all_goals (try simp only[rzC,qzC,YO])
    all_goals (refine Imp.aut ?_ ?_<;>simp[NLe,hS0,hS1,hT0,hT1,hJ0,hJ1,hL0,hL1,hX,stL,hh,hf])
  ·have hf:R.free=true:=by simpa using hf
   have ht:c6R Q R=(R,Q):=(by unfold c6R;rw[if_neg (by simp[hf])]);rw[ht]at hQ;simp only[K10,rzC]
   as_aux_lemma =>
    repeat' with_reducible (first|refine ZR.h ?_|refine kI ?_|((first|refine kR hE ?_|refine kD hE Zq ?_);intro K hK;simp[ELt,                                                 hz0,hz1,hzr,hh,hf];(repeat' (first|refine hK _ _ ?_|apply And.intro|(intro hc;try subst hc)))<;>(try clear hK K))|(refine kT (fun hc=>?_) (fun hc=>?_)<;>simp at hc<;>(try subst hc)))
    all_goals try (show Zb _ _=true;kernel_rfl)
    all_goals (refine hQ _ _ _ ?_)
    all_goals (try simp only[rzC])
    all_goals (refine Imp.aut ?_ ?_<;>simp[NLe,hz0,hz1,hzr,hh,hf])
 ·have hh:R.held=false:=by simpa using hh
  have ht:c6R Q R=(R,Q):=by unfold c6R;rw[if_neg (by simp[hh])]
  rw[ht]at hQ;simp only[K10,rzC]
  as_aux_lemma =>
   repeat' with_reducible (first|refine ZR.h ?_|refine kI ?_|((first|refine kR hE ?_|refine kD hE Zq ?_);intro K hK;simp[ELt,                                                 hz0,hz1,hzr,hh];(repeat' (first|refine hK _ _ ?_|apply And.intro|(intro hc;try subst hc)))<;>(try clear hK K))|(refine kT (fun hc=>?_) (fun hc=>?_)<;>simp at hc<;>(try subst hc)))
   all_goals try (show Zb _ _=true;kernel_rfl)
   all_goals (refine hQ _ _ _ ?_)
   all_goals (try simp only[rzC])
   all_goals (refine Imp.aut ?_ ?_<;>simp[NLe,hz0,hz1,hzr,hh])
theorem w10_8 {w0:World} {S:Sc} {Qx:Exit→St→Prop} {R:RZ} {Q:QZ} {sw sp:Int} (hH:HyR S R Q)
  (hQ:∀ tl hl nb,Imp 2 ⟨[(0,.tup [])],hl,nb⟩ ⟨[(0,.tup [])],[(0,.cells 0 (.int .i64 sw :: .int .i64 sp :: rzC (c6R Q R).1)),(1,.cells 0 (qzC (c6R Q R).2))],2⟩→Qx .normal ⟨tl,hl,nb⟩) :
  WmA Tryz.prog w0 S Tryz.f10.ntmps [] Xl (K10 sw sp R Q 8) (Yp 0 Qx):=by
 have hM:Xl=Xl:=rfl
 conv at hM=>rhs;unfold Xl;cbv
 rw[hM]
 clear hM
 obtain ⟨hS,hr,hok,hsm,x0,x1,y0,y1⟩:=hH
 have hE:=X4
 have hS0:=Z4 Q.S
 have hS1:=Z5 Q.S
 have hT0:=Z7 Q.T
 have hT1:=Z6 Q.T
 have hJ0:=Z1 Q.J
 have hJ1:=Z0 Q.J
 obtain ⟨q1,q2,q3,q4,q5,q6,q7,q8,q9⟩:=Zr hok
 have hL0:=ZC q8
 have hL1:=ZD q8
 have hz0:=Y3 Q q8
 have hz1:=YA Q q8
 have hzr:=YR hok
 have hy0:=X3 R
 have hy1:=X6 R
 obtain ⟨z1,z2⟩:=Xt hsm
 have w1:IntKind.wrap .i64 (Q.u+1)=Q.u+1:=Zg (by omega) (by omega)
 by_cases hh:R.held=true
 ·by_cases hf:R.free=false
  ·
   obtain ⟨X,hX⟩:=Int.eq_ofNat_of_zero_le x0
   have hXl:X<Q.S.length:=by omega
   obtain ⟨s0,hs0⟩:∃ s0,Q.S[X]?=some s0:=⟨_,List.getElem?_eq_getElem hXl⟩
   have hg:=T9 hs0
   have hge:=Y5 hg
   have hgl:=Uk Q.S
   have ht:c6R Q R=({ R with sx:=s0 },YO Q):=by
    unfold c6R vf;rw[if_pos ⟨hh,hf⟩];rw[hX,show (X:Int).toNat=X by omega,List.getD_eq_getElem?_getD,hs0];rfl
   rw[ht]at hQ
   simp only[stL]at hg hge
   simp only[K10,rzC,qzC]
   as_aux_lemma =>
    repeat' with_reducible (first|refine ZR.h ?_|refine kI ?_|((first|refine kR hE ?_|refine kD hE Zq ?_);intro K hK;simp[ELt,                                                 hS0,hS1,hT0,hT1,hJ0,hJ1,hL0,hL1,hX,hg,hge,hgl,hXl,w1,hh,hf];(repeat' (first|refine hK _ _ ?_|apply And.intro|(intro hc;try subst hc)))<;>(try clear hK K))|(refine kT (fun hc=>?_) (fun hc=>?_)<;>simp at hc<;>(try subst hc)))
    all_goals try (show Zb _ _=true;kernel_rfl)
    all_goals (refine hQ _ _ _ ?_)
    all_goals (try simp only[rzC,qzC,YO])
    all_goals (refine Imp.aut ?_ ?_<;>simp[NLe,hS0,hS1,hT0,hT1,hJ0,hJ1,hL0,hL1,hX,stL,hh,hf])
  ·have hf:R.free=true:=by simpa using hf
   have ht:c6R Q R=(R,Q):=(by unfold c6R;rw[if_neg (by simp[hf])]);rw[ht]at hQ;simp only[K10,rzC]
   as_aux_lemma =>
    repeat' with_reducible (first|refine ZR.h ?_|refine kI ?_|((first|refine kR hE ?_|refine kD hE Zq ?_);intro K hK;simp[ELt,                                                 hz0,hz1,hzr,hh,hf];(repeat' (first|refine hK _ _ ?_|apply And.intro|(intro hc;try subst hc)))<;>(try clear hK K))|(refine kT (fun hc=>?_) (fun hc=>?_)<;>simp at hc<;>(try subst hc)))
    all_goals try (show Zb _ _=true;kernel_rfl)
    all_goals (refine hQ _ _ _ ?_)
    all_goals (try simp only[rzC])
    all_goals (refine Imp.aut ?_ ?_<;>simp[NLe,hz0,hz1,hzr,hh,hf])
 ·have hh:R.held=false:=by simpa using hh
  have ht:c6R Q R=(R,Q):=by unfold c6R;rw[if_neg (by simp[hh])]
  rw[ht]at hQ;simp only[K10,rzC]
  as_aux_lemma =>
   repeat' with_reducible (first|refine ZR.h ?_|refine kI ?_|((first|refine kR hE ?_|refine kD hE Zq ?_);intro K hK;simp[ELt,                                                 hz0,hz1,hzr,hh];(repeat' (first|refine hK _ _ ?_|apply And.intro|(intro hc;try subst hc)))<;>(try clear hK K))|(refine kT (fun hc=>?_) (fun hc=>?_)<;>simp at hc<;>(try subst hc)))
   all_goals try (show Zb _ _=true;kernel_rfl)
   all_goals (refine hQ _ _ _ ?_)
   all_goals (try simp only[rzC])
   all_goals (refine Imp.aut ?_ ?_<;>simp[NLe,hz0,hz1,hzr,hh])
theorem w10_5 {w0:World} {S:Sc} {Qx:Exit→St→Prop} {R:RZ} {Q:QZ} {sw sp:Int} (hH:HyR S R Q)
  (hQ:∀ tl hl nb,Imp 2 ⟨[(0,.tup [])],hl,nb⟩ ⟨[(0,.tup [])],[(0,.cells 0 (.int .i64 sw :: .int .i64 sp :: rzC (XE Q R).1)),(1,.cells 0 (qzC (XE Q R).2))],2⟩→Qx .normal ⟨tl,hl,nb⟩) :
  WmA Tryz.prog w0 S Tryz.f10.ntmps [] Xl (K10 sw sp R Q 5) (Yp 0 Qx):=by
 have hM:Xl=Xl:=rfl
 conv at hM=>rhs;unfold Xl;cbv
 rw[hM]
 clear hM
 obtain ⟨hS,hr,hok,hsm,x0,x1,y0,y1⟩:=hH
 have hE:=X4
 have hS0:=Z4 Q.S
 have hS1:=Z5 Q.S
 have hT0:=Z7 Q.T
 have hT1:=Z6 Q.T
 have hJ0:=Z1 Q.J
 have hJ1:=Z0 Q.J
 obtain ⟨q1,q2,q3,q4,q5,q6,q7,q8,q9⟩:=Zr hok
 have hL0:=ZC q8
 have hL1:=ZD q8
 have hz0:=Y3 Q q8
 have hz1:=YA Q q8
 have hzr:=YR hok
 have hy0:=X3 R
 have hy1:=X6 R
 obtain ⟨z1,z2⟩:=Xt hsm
 have w1:IntKind.wrap .i64 (Q.u+1)=Q.u+1:=Zg (by omega) (by omega)
 have hcl:∀ u v,d47 [.op u (.int .i64 sw :: .int .i64 sp :: rzC R),.op v (qzC Q)]=some ⟨.tup [],[.cells 0 (.int .i64 sw :: .int .i64 sp :: rzC (XE Q R).1),.cells 0 (qzC (XE Q R).2)]⟩:=fun u v=>by
  simp only[d47,vp,V6];rw[if_pos ⟨hr,hok,hsm,x0,x1,y0,y1⟩]
 have hok2:=yZ hok R
 obtain ⟨⟨R2,Q2⟩,hq2⟩:∃ z,XE Q R=z:=⟨_,rfl⟩
 rw[hq2]at hcl hok2 hQ
 simp only at hcl hok2 hQ
 have q82:=(Zr hok2).2.2.2.2.2.2.2.1
 have hz02:=Y3 Q2 q82
 have hz12:=YA Q2 q82
 have hzr2:=YR hok2
 have hy02:=X3 R2
 have hy12:=X6 R2
 have hyr:=Za1 R2
 simp only[K10]
 as_aux_lemma =>
  repeat' with_reducible (first|refine ZR.h ?_|refine kI ?_|((first|refine kR hE ?_|refine kD hE Zq ?_);intro K hK;simp[ELt,                                                 hz0,hz1,hzr,hy0,hy1,hz02,hz12,hzr2,hy02,hy12,hcl];(repeat' (first|refine hK _ _ ?_|apply And.intro|(intro hc;try subst hc)))<;>(try clear hK K))|(refine kT (fun hc=>?_) (fun hc=>?_)<;>simp at hc<;>(try subst hc)))
  all_goals try (show Zb _ _=true;kernel_rfl)
  all_goals (refine hQ _ _ _ ?_)
  all_goals (try simp only[K10])
  all_goals (refine Imp.aut ?_ ?_<;>simp[NLe,hz02,hz12,hzr2,hy02,hy12,hyr])
theorem w10_7 {w0:World} {S:Sc} {Qx:Exit→St→Prop} {R:RZ} {Q:QZ} {sw sp:Int} (hH:HyR S R Q)
  (hQ:∀ tl hl nb,Imp 2 ⟨[(0,.tup [])],hl,nb⟩ ⟨[(0,.tup [])],[(0,.cells 0 (.int .i64 sw :: .int .i64 sp :: rzC (T7 Q R).1)),(1,.cells 0 (qzC (T7 Q R).2))],2⟩→Qx .normal ⟨tl,hl,nb⟩) :
  WmA Tryz.prog w0 S Tryz.f10.ntmps [] Xl (K10 sw sp R Q 7) (Yp 0 Qx):=by
 have hM:Xl=Xl:=rfl
 conv at hM=>rhs;unfold Xl;cbv
 rw[hM]
 clear hM
 obtain ⟨hS,hr,hok,hsm,x0,x1,y0,y1⟩:=hH
 have hE:=X4
 have hS0:=Z4 Q.S
 have hS1:=Z5 Q.S
 have hT0:=Z7 Q.T
 have hT1:=Z6 Q.T
 have hJ0:=Z1 Q.J
 have hJ1:=Z0 Q.J
 obtain ⟨q1,q2,q3,q4,q5,q6,q7,q8,q9⟩:=Zr hok
 have hL0:=ZC q8
 have hL1:=ZD q8
 have hz0:=Y3 Q q8
 have hz1:=YA Q q8
 have hzr:=YR hok
 have hy0:=X3 R
 have hy1:=X6 R
 obtain ⟨z1,z2⟩:=Xt hsm
 have w1:IntKind.wrap .i64 (Q.u+1)=Q.u+1:=Zg (by omega) (by omega)
 have hcl:∀ u v,d48 [.op u (.int .i64 sw :: .int .i64 sp :: rzC R),.op v (qzC Q)]=some ⟨.tup [],[.cells 0 (.int .i64 sw :: .int .i64 sp :: rzC (T7 Q R).1),.cells 0 (qzC (T7 Q R).2)]⟩:=fun u v=>by
  simp only[d48,vp,V6];rw[if_pos ⟨hr,hok,hsm,x0,x1⟩]
 have hok2:=yo hok R
 obtain ⟨⟨R2,Q2⟩,hq2⟩:∃ z,T7 Q R=z:=⟨_,rfl⟩
 rw[hq2]at hcl hok2 hQ
 simp only at hcl hok2 hQ
 have q82:=(Zr hok2).2.2.2.2.2.2.2.1
 have hz02:=Y3 Q2 q82
 have hz12:=YA Q2 q82
 have hzr2:=YR hok2
 have hy02:=X3 R2
 have hy12:=X6 R2
 have hyr:=Za1 R2
 simp only[K10]
 as_aux_lemma =>
  repeat' with_reducible (first|refine ZR.h ?_|refine kI ?_|((first|refine kR hE ?_|refine kD hE Zq ?_);intro K hK;simp[ELt,                                                 hz0,hz1,hzr,hy0,hy1,hz02,hz12,hzr2,hy02,hy12,hcl];(repeat' (first|refine hK _ _ ?_|apply And.intro|(intro hc;try subst hc)))<;>(try clear hK K))|(refine kT (fun hc=>?_) (fun hc=>?_)<;>simp at hc<;>(try subst hc)))
  all_goals try (show Zb _ _=true;kernel_rfl)
  all_goals (refine hQ _ _ _ ?_)
  all_goals (try simp only[K10])
  all_goals (refine Imp.aut ?_ ?_<;>simp[NLe,hz02,hz12,hzr2,hy02,hy12,hyr])
theorem w10_9 {w0:World} {S:Sc} {Qx:Exit→St→Prop} {R:RZ} {Q:QZ} {sw sp:Int} (hH:HyR S R Q)
  (hQ:∀ tl hl nb,Imp 2 ⟨[(0,.tup [])],hl,nb⟩ ⟨[(0,.tup [])],[(0,.cells 0 (.int .i64 sw :: .int .i64 sp :: rzC (T7 Q R).1)),(1,.cells 0 (qzC (T7 Q R).2))],2⟩→Qx .normal ⟨tl,hl,nb⟩) :
  WmA Tryz.prog w0 S Tryz.f10.ntmps [] Xl (K10 sw sp R Q 9) (Yp 0 Qx):=by
 have hM:Xl=Xl:=rfl
 conv at hM=>rhs;unfold Xl;cbv
 rw[hM]
 clear hM
 obtain ⟨hS,hr,hok,hsm,x0,x1,y0,y1⟩:=hH
 have hE:=X4
 have hS0:=Z4 Q.S
 have hS1:=Z5 Q.S
 have hT0:=Z7 Q.T
 have hT1:=Z6 Q.T
 have hJ0:=Z1 Q.J
 have hJ1:=Z0 Q.J
 obtain ⟨q1,q2,q3,q4,q5,q6,q7,q8,q9⟩:=Zr hok
 have hL0:=ZC q8
 have hL1:=ZD q8
 have hz0:=Y3 Q q8
 have hz1:=YA Q q8
 have hzr:=YR hok
 have hy0:=X3 R
 have hy1:=X6 R
 obtain ⟨z1,z2⟩:=Xt hsm
 have w1:IntKind.wrap .i64 (Q.u+1)=Q.u+1:=Zg (by omega) (by omega)
 have hcl:∀ u v,d48 [.op u (.int .i64 sw :: .int .i64 sp :: rzC R),.op v (qzC Q)]=some ⟨.tup [],[.cells 0 (.int .i64 sw :: .int .i64 sp :: rzC (T7 Q R).1),.cells 0 (qzC (T7 Q R).2)]⟩:=fun u v=>by
  simp only[d48,vp,V6];rw[if_pos ⟨hr,hok,hsm,x0,x1⟩]
 have hok2:=yo hok R
 obtain ⟨⟨R2,Q2⟩,hq2⟩:∃ z,T7 Q R=z:=⟨_,rfl⟩
 rw[hq2]at hcl hok2 hQ
 simp only at hcl hok2 hQ
 have q82:=(Zr hok2).2.2.2.2.2.2.2.1
 have hz02:=Y3 Q2 q82
 have hz12:=YA Q2 q82
 have hzr2:=YR hok2
 have hy02:=X3 R2
 have hy12:=X6 R2
 have hyr:=Za1 R2
 simp only[K10]
 as_aux_lemma =>
  repeat' with_reducible (first|refine ZR.h ?_|refine kI ?_|((first|refine kR hE ?_|refine kD hE Zq ?_);intro K hK;simp[ELt,                                                 hz0,hz1,hzr,hy0,hy1,hz02,hz12,hzr2,hy02,hy12,hcl];(repeat' (first|refine hK _ _ ?_|apply And.intro|(intro hc;try subst hc)))<;>(try clear hK K))|(refine kT (fun hc=>?_) (fun hc=>?_)<;>simp at hc<;>(try subst hc)))
  all_goals try (show Zb _ _=true;kernel_rfl)
  all_goals (refine hQ _ _ _ ?_)
  all_goals (try simp only[K10])
  all_goals (refine Imp.aut ?_ ?_<;>simp[NLe,hz02,hz12,hzr2,hy02,hy12,hyr])
theorem w10_2 {w0:World} {S:Sc} {Qx:Exit→St→Prop} {R:RZ} {Q:QZ} {sw sp:Int} (hH:HyR S R Q)
  (hQ:∀ tl hl nb,Imp 2 ⟨[(0,.tup [])],hl,nb⟩ ⟨[(0,.tup [])],[(0,.cells 0 (.int .i64 sw :: .int .i64 sp :: rzC (c2R Q R).1)),(1,.cells 0 (qzC (c2R Q R).2))],2⟩→Qx .normal ⟨tl,hl,nb⟩) :
  WmA Tryz.prog w0 S Tryz.f10.ntmps [] Xl (K10 sw sp R Q 2) (Yp 0 Qx):=by
 have hM:Xl=Xl:=rfl
 conv at hM=>rhs;unfold Xl;cbv
 rw[hM]
 clear hM
 obtain ⟨hS,hr,hok,hsm,x0,x1,y0,y1⟩:=hH
 have hE:=X4
 have hS0:=Z4 Q.S
 have hS1:=Z5 Q.S
 have hT0:=Z7 Q.T
 have hT1:=Z6 Q.T
 have hJ0:=Z1 Q.J
 have hJ1:=Z0 Q.J
 obtain ⟨q1,q2,q3,q4,q5,q6,q7,q8,q9⟩:=Zr hok
 have hL0:=ZC q8
 have hL1:=ZD q8
 have hz0:=Y3 Q q8
 have hz1:=YA Q q8
 have hzr:=YR hok
 have hy0:=X3 R
 have hy1:=X6 R
 obtain ⟨z1,z2⟩:=Xt hsm
 have w1:IntKind.wrap .i64 (Q.u+1)=Q.u+1:=Zg (by omega) (by omega)
 by_cases w3':R.way=3
 ·by_cases kk:R.sx.k=2
  ·by_cases sd0:R.tx.sd=0
   ·
    have hsh:d45 [.agg [.int .i64 Q.a,.int .i64 Q.b,.int .i64 Q.c,.int .i64 Q.d,.int .i64 Q.e,.int .i64 Q.f,.int .i64 Q.g],.agg [.int .i64 R.tx.nm,.int .i64 R.tx.sd,.int .i64 R.tx.pr,.int .i64 R.tx.le,.int .i64 R.tx.un]] []=some (.int .i64 (ZK Q.c Q.d R.tx.nm (Yj Q.d R.tx.pr))):=by
     simp only[d45];rw[if_pos q1]
    obtain ⟨shv,hshv⟩:∃ z,ZK Q.c Q.d R.tx.nm (Yj Q.d R.tx.pr)=z:=⟨_,rfl⟩
    rw[hshv]at hsh
    simp only[sd0]at hsh
    by_cases hs:shv=R.sh
    ·
     have ht:c2R Q R=({ R with held:=(ZO Q R.x R.sx { R.sx with k:=4 }).1 },(ZO Q R.x R.sx { R.sx with k:=4 }).2):=by
      have hw:UZ Q R=true:=by
       unfold UZ;refine decide_eq_true ?_;rw[if_pos w3'];exact ⟨kk,sd0,by rw[hshv];exact hs⟩
      unfold c2R;rw[if_pos hw,kk]
      rfl
     rw[ht]at hQ
     have htu:=fun u=>e46 hok hsm x0 x1 R.sx { R.sx with k:=4 } u
     have hok2:=Ye hok R.x R.sx { R.sx with k:=4 }
     obtain ⟨⟨tb,Q2⟩,hq2⟩:∃ z,ZO Q R.x R.sx { R.sx with k:=4 }=z:=⟨_,rfl⟩
     rw[hq2]at htu hok2 hQ
     simp only[stA,kk]at htu hok2 hQ
     have q82:=(Zr hok2).2.2.2.2.2.2.2.1
     have hz02:=Y3 Q2 q82
     have hz12:=YA Q2 q82
     have hzr2:=YR hok2
     have hS02:=Z4 Q2.S
     have hS12:=Z5 Q2.S
     have hT02:=Z7 Q2.T
     have hT12:=Z6 Q2.T
     have hJ02:=Z1 Q2.J
     have hJ12:=Z0 Q2.J
     have hL02:=ZC q82
     have hL12:=ZD q82
     simp only[qzC]at htu
     have w3:IntKind.wrap .i64 3=3:=rfl
     have w4:IntKind.wrap .i64 4=4:=rfl
     simp only[K10,rzC,qzC]
     as_aux_lemma =>
      repeat' with_reducible (first|refine ZR.h ?_|refine kI ?_|((first|refine kR hE ?_|refine kD hE Zq ?_);intro K hK;simp[ELt,                                                 hS0,hS1,hT0,hT1,hJ0,hJ1,hL0,hL1,hS02,hS12,hT02,hT12,hJ02,hJ12,hL02,hL12,hsh,htu,w3,w4,kk,w3',sd0,hs];(repeat' (first|refine hK _ _ ?_|apply And.intro|(intro hc;try subst hc)))<;>(try clear hK K))|(refine kT (fun hc=>?_) (fun hc=>?_)<;>simp at hc<;>(try subst hc)))
      all_goals try (show Zb _ _=true;kernel_rfl)
      all_goals (refine hQ _ _ _ ?_)
      all_goals (try simp only[rzC,qzC])
      all_goals (refine Imp.aut ?_ ?_<;>simp[NLe,hS02,hS12,hT02,hT12,hJ02,hJ12,hL02,hL12,kk,w3',sd0,hs])
    ·
     have ht:c2R Q R=(R,Q):=by
      unfold c2R;rw[if_neg];unfold UZ;intro hx;have hx:=of_decide_eq_true hx;rw[if_pos w3']at hx;exact hs (hshv ▸ hx.2.2)
     rw[ht]at hQ
     simp only[K10,rzC,qzC]
     as_aux_lemma =>
      repeat' with_reducible (first|refine ZR.h ?_|refine kI ?_|((first|refine kR hE ?_|refine kD hE Zq ?_);intro K hK;simp[ELt,                                                 hS0,hS1,hT0,hT1,hJ0,hJ1,hL0,hL1,hsh,w3',kk,sd0,hs];(repeat' (first|refine hK _ _ ?_|apply And.intro|(intro hc;try subst hc)))<;>(try clear hK K))|(refine kT (fun hc=>?_) (fun hc=>?_)<;>simp at hc<;>(try subst hc)))
      all_goals try (show Zb _ _=true;kernel_rfl)
      all_goals (refine hQ _ _ _ ?_)
      all_goals (try simp only[rzC,qzC])
      all_goals (refine Imp.aut ?_ ?_<;>simp[NLe,hS0,hS1,hT0,hT1,hJ0,hJ1,hL0,hL1,w3',kk,sd0,hs])
   ·
    have ht:c2R Q R=(R,Q):=by
     unfold c2R;rw[if_neg];unfold UZ;intro hx;have hx:=of_decide_eq_true hx;rw[if_pos w3']at hx;exact sd0 hx.2.1
    rw[ht]at hQ
    simp only[K10,rzC]
    as_aux_lemma =>
     repeat' with_reducible (first|refine ZR.h ?_|refine kI ?_|((first|refine kR hE ?_|refine kD hE Zq ?_);intro K hK;simp[ELt,                                                 hz0,hz1,hzr,w3',kk,sd0];(repeat' (first|refine hK _ _ ?_|apply And.intro|(intro hc;try subst hc)))<;>(try clear hK K))|(refine kT (fun hc=>?_) (fun hc=>?_)<;>simp at hc<;>(try subst hc)))
     all_goals try (show Zb _ _=true;kernel_rfl)
     all_goals (refine hQ _ _ _ ?_)
     all_goals (try simp only[rzC])
     all_goals (refine Imp.aut ?_ ?_<;>simp[NLe,hz0,hz1,hzr,w3',kk,sd0])
  ·
   have ht:c2R Q R=(R,Q):=by
    unfold c2R;rw[if_neg];unfold UZ;intro hx;have hx:=of_decide_eq_true hx;rw[if_pos w3']at hx;exact kk hx.1
   rw[ht]at hQ
   simp only[K10,rzC]
   as_aux_lemma =>
    repeat' with_reducible (first|refine ZR.h ?_|refine kI ?_|((first|refine kR hE ?_|refine kD hE Zq ?_);intro K hK;simp[ELt,                                                 hz0,hz1,hzr,w3',kk];(repeat' (first|refine hK _ _ ?_|apply And.intro|(intro hc;try subst hc)))<;>(try clear hK K))|(refine kT (fun hc=>?_) (fun hc=>?_)<;>simp at hc<;>(try subst hc)))
    all_goals try (show Zb _ _=true;kernel_rfl)
    all_goals (refine hQ _ _ _ ?_)
    all_goals (try simp only[rzC])
    all_goals (refine Imp.aut ?_ ?_<;>simp[NLe,hz0,hz1,hzr,w3',kk])
 ·by_cases w2:R.way≤2
  ·by_cases kk:R.sx.k=1
   ·by_cases gg:R.sx.g=R.gn
    ·by_cases w1':1≤R.way
     ·
      have ht:c2R Q R=({ R with held:=(ZO Q R.x R.sx { R.sx with k:=3 }).1 },(ZO Q R.x R.sx { R.sx with k:=3 }).2):=by
       have hw:UZ Q R=true:=by
        unfold UZ;refine decide_eq_true ?_;rw[if_neg w3'];exact ⟨w1',w2,kk,gg⟩
       unfold c2R;rw[if_pos hw,kk]
       rfl
      rw[ht]at hQ
      have htu:=fun u=>e46 hok hsm x0 x1 R.sx { R.sx with k:=3 } u
      have hok2:=Ye hok R.x R.sx { R.sx with k:=3 }
      obtain ⟨⟨tb,Q2⟩,hq2⟩:∃ z,ZO Q R.x R.sx { R.sx with k:=3 }=z:=⟨_,rfl⟩
      rw[hq2]at htu hok2 hQ
      simp only[stA,kk,gg]at htu hok2 hQ
      have q82:=(Zr hok2).2.2.2.2.2.2.2.1
      have hz02:=Y3 Q2 q82
      have hz12:=YA Q2 q82
      have hzr2:=YR hok2
      have w3:IntKind.wrap .i64 3=3:=rfl
      have w4:IntKind.wrap .i64 4=4:=rfl
      simp only[K10,rzC]
      as_aux_lemma =>
       repeat' with_reducible (first|refine ZR.h ?_|refine kI ?_|((first|refine kR hE ?_|refine kD hE Zq ?_);intro K hK;simp[ELt,                                                 hz0,hz1,hzr,hz02,hz12,hzr2,htu,w3,w4,kk,w3',w2,gg,w1',show R.way≤3 by omega];(repeat' (first|refine hK _ _ ?_|apply And.intro|(intro hc;try subst hc)))<;>(try clear hK K))|(refine kT (fun hc=>?_) (fun hc=>?_)<;>simp at hc<;>(try subst hc)))
       all_goals try (show Zb _ _=true;kernel_rfl)
       all_goals (refine hQ _ _ _ ?_)
       all_goals (try simp only[rzC])
       all_goals (refine Imp.aut ?_ ?_<;>simp[NLe,hz02,hz12,hzr2,kk,w3',w2,gg,w1',show R.way≤3 by omega])
     ·
      have ht:c2R Q R=(R,Q):=by
       unfold c2R;rw[if_neg];unfold UZ;intro hx;have hx:=of_decide_eq_true hx;rw[if_neg w3']at hx;exact w1' hx.1
      rw[ht]at hQ
      simp only[K10,rzC]
      as_aux_lemma =>
       repeat' with_reducible (first|refine ZR.h ?_|refine kI ?_|((first|refine kR hE ?_|refine kD hE Zq ?_);intro K hK;simp[ELt,                                                 hz0,hz1,hzr,w3',w2,kk,gg,w1'];(repeat' (first|refine hK _ _ ?_|apply And.intro|(intro hc;try subst hc)))<;>(try clear hK K))|(refine kT (fun hc=>?_) (fun hc=>?_)<;>simp at hc<;>(try subst hc)))
       all_goals try (show Zb _ _=true;kernel_rfl)
       all_goals (refine hQ _ _ _ ?_)
       all_goals (try simp only[rzC])
       all_goals (refine Imp.aut ?_ ?_<;>simp[NLe,hz0,hz1,hzr,w3',w2,kk,gg,w1'])
    ·
     have ht:c2R Q R=(R,Q):=by
      unfold c2R;rw[if_neg];unfold UZ;intro hx;have hx:=of_decide_eq_true hx;rw[if_neg w3']at hx;exact gg hx.2.2.2
     rw[ht]at hQ
     simp only[K10,rzC]
     as_aux_lemma =>
      repeat' with_reducible (first|refine ZR.h ?_|refine kI ?_|((first|refine kR hE ?_|refine kD hE Zq ?_);intro K hK;simp[ELt,                                                 hz0,hz1,hzr,w3',w2,kk,gg];(repeat' (first|refine hK _ _ ?_|apply And.intro|(intro hc;try subst hc)))<;>(try clear hK K))|(refine kT (fun hc=>?_) (fun hc=>?_)<;>simp at hc<;>(try subst hc)))
      all_goals try (show Zb _ _=true;kernel_rfl)
      all_goals (refine hQ _ _ _ ?_)
      all_goals (try simp only[rzC])
      all_goals (refine Imp.aut ?_ ?_<;>simp[NLe,hz0,hz1,hzr,w3',w2,kk,gg])
   ·
    have ht:c2R Q R=(R,Q):=by
     unfold c2R;rw[if_neg];unfold UZ;intro hx;have hx:=of_decide_eq_true hx;rw[if_neg w3']at hx;exact kk hx.2.2.1
    rw[ht]at hQ
    simp only[K10,rzC]
    as_aux_lemma =>
     repeat' with_reducible (first|refine ZR.h ?_|refine kI ?_|((first|refine kR hE ?_|refine kD hE Zq ?_);intro K hK;simp[ELt,                                                 hz0,hz1,hzr,w3',w2,kk];(repeat' (first|refine hK _ _ ?_|apply And.intro|(intro hc;try subst hc)))<;>(try clear hK K))|(refine kT (fun hc=>?_) (fun hc=>?_)<;>simp at hc<;>(try subst hc)))
     all_goals try (show Zb _ _=true;kernel_rfl)
     all_goals (refine hQ _ _ _ ?_)
     all_goals (try simp only[rzC])
     all_goals (refine Imp.aut ?_ ?_<;>simp[NLe,hz0,hz1,hzr,w3',w2,kk])
  ·
   have ht:c2R Q R=(R,Q):=by
    unfold c2R;rw[if_neg];unfold UZ;intro hx;have hx:=of_decide_eq_true hx;rw[if_neg w3']at hx;exact w2 hx.2.1
   rw[ht]at hQ
   simp only[K10,rzC]
   as_aux_lemma =>
    repeat' with_reducible (first|refine ZR.h ?_|refine kI ?_|((first|refine kR hE ?_|refine kD hE Zq ?_);intro K hK;simp[ELt,                                                 hz0,hz1,hzr,w3',w2];(repeat' (first|refine hK _ _ ?_|apply And.intro|(intro hc;try subst hc)))<;>(try clear hK K))|(refine kT (fun hc=>?_) (fun hc=>?_)<;>simp at hc<;>(try subst hc)))
    all_goals try (show Zb _ _=true;kernel_rfl)
    all_goals (refine hQ _ _ _ ?_)
    all_goals (try simp only[rzC])
    all_goals (refine Imp.aut ?_ ?_<;>simp[NLe,hz0,hz1,hzr,w3',w2])
theorem w10_10 {w0:World} {S:Sc} {Qx:Exit→St→Prop} {R:RZ} {Q:QZ} {sw sp:Int} (hH:HyR S R Q)
  (hn:R.made=true→1≤R.nx.g∧R.nx.g≤Q.g∧0≤R.nx.f - 1∧R.nx.f - 1≤Q.f)
  (hQ:∀ tl hl nb,Imp 2 ⟨[(0,.tup [])],hl,nb⟩ ⟨[(0,.tup [])],[(0,.cells 0 (.int .i64 sw :: .int .i64 sp :: rzC (ZeL Q R).1)),(1,.cells 0 (qzC (ZeL Q R).2))],2⟩→Qx .normal ⟨tl,hl,nb⟩) :
  WmA Tryz.prog w0 S Tryz.f10.ntmps [] Xl (K10 sw sp R Q 10) (Yp 0 Qx):=by
 have hM:Xl=Xl:=rfl
 conv at hM=>rhs;unfold Xl;cbv
 rw[hM]
 clear hM
 obtain ⟨hS,hr,hok,hsm,x0,x1,y0,y1⟩:=hH
 have hE:=X4
 have hS0:=Z4 Q.S
 have hS1:=Z5 Q.S
 have hT0:=Z7 Q.T
 have hT1:=Z6 Q.T
 have hJ0:=Z1 Q.J
 have hJ1:=Z0 Q.J
 obtain ⟨q1,q2,q3,q4,q5,q6,q7,q8,q9⟩:=Zr hok
 have hL0:=ZC q8
 have hL1:=ZD q8
 have hz0:=Y3 Q q8
 have hz1:=YA Q q8
 have hzr:=YR hok
 have hy0:=X3 R
 have hy1:=X6 R
 obtain ⟨z1,z2⟩:=Xt hsm
 have w1:IntKind.wrap .i64 (Q.u+1)=Q.u+1:=Zg (by omega) (by omega)
 by_cases hm:R.made=true
 ·obtain ⟨g0,g1,n0,n1⟩:=hn hm
  have s1:=yK (yh hr).2.2.2.2.1;have s2:=yK (yh hr).2.2.2.2.2.1;have wf:IntKind.wrap .i64 (R.nx.f - 1)=R.nx.f - 1:=Zg (by omega) (by omega);have hno:=fun u=>e49 hok hsm x0 x1 g0 g1 n0 n1 ⟨1,R.q,R.p,R.ta,R.y,R.ny.g⟩ u;have hjx:=Ze5 hok x0 x1 g0 g1 n0 n1;have hok2:=XS hok R.x R.nx.g (R.nx.f - 1) ⟨1,R.q,R.p,R.ta,R.y,R.ny.g⟩ (by omega);have ht:ZeL Q R=(R,Xa Q R.x R.nx.g (R.nx.f - 1) ⟨1,R.q,R.p,R.ta,R.y,R.ny.g⟩):=by unfold ZeL;rw[if_pos hm]
  rw[ht]at hQ;obtain ⟨Q2,hq2⟩:∃ z,Xa Q R.x R.nx.g (R.nx.f - 1) ⟨1,R.q,R.p,R.ta,R.y,R.ny.g⟩=z:=⟨_,rfl⟩;rw[hq2]at hno hok2 hQ;simp only[rcA]at hno hQ;have q82:=(Zr hok2).2.2.2.2.2.2.2.1;have hz02:=Y3 Q2 q82;have hz12:=YA Q2 q82;have hzr2:=YR hok2;simp only[K10,rzC]
  as_aux_lemma =>
   repeat' with_reducible (first|refine ZR.h ?_|refine kI ?_|((first|refine kR hE ?_|refine kD hE Zq ?_);intro K hK;simp[ELt,                                                 hz0,hz1,hzr,hz02,hz12,hzr2,hno,wf,hm];(repeat' (first|refine hK _ _ ?_|apply And.intro|(intro hc;try subst hc)))<;>(try clear hK K))|(refine kT (fun hc=>?_) (fun hc=>?_)<;>simp at hc<;>(try subst hc)))
   all_goals try (show Zb _ _=true;kernel_rfl)
   all_goals (refine hQ _ _ _ ?_)
   all_goals (try simp only[rzC])
   all_goals (refine Imp.aut ?_ ?_<;>simp[NLe,hz02,hz12,hzr2,hm])
 ·have hm:R.made=false:=by simpa using hm
  have ht:ZeL Q R=(R,Q):=by unfold ZeL;rw[if_neg (by simp[hm])]
  rw[ht]at hQ;simp only[K10,rzC]
  as_aux_lemma =>
   repeat' with_reducible (first|refine ZR.h ?_|refine kI ?_|((first|refine kR hE ?_|refine kD hE Zq ?_);intro K hK;simp[ELt,                                                 hz0,hz1,hzr,hm];(repeat' (first|refine hK _ _ ?_|apply And.intro|(intro hc;try subst hc)))<;>(try clear hK K))|(refine kT (fun hc=>?_) (fun hc=>?_)<;>simp at hc<;>(try subst hc)))
   all_goals try (show Zb _ _=true;kernel_rfl)
   all_goals (refine hQ _ _ _ ?_)
   all_goals (try simp only[rzC])
   all_goals (refine Imp.aut ?_ ?_<;>simp[NLe,hz0,hz1,hzr,hm])
theorem w10_11 {w0:World} {S:Sc} {Qx:Exit→St→Prop} {R:RZ} {Q:QZ} {sw sp:Int} (hH:HyR S R Q)
  (hn:R.made=true→1≤R.ny.g∧R.ny.g≤Q.g∧0≤R.ny.f - 1∧R.ny.f - 1≤Q.f)
  (hQ:∀ tl hl nb,Imp 2 ⟨[(0,.tup [])],hl,nb⟩ ⟨[(0,.tup [])],[(0,.cells 0 (.int .i64 sw :: .int .i64 sp :: rzC (ZeK Q R).1)),(1,.cells 0 (qzC (ZeK Q R).2))],2⟩→Qx .normal ⟨tl,hl,nb⟩) :
  WmA Tryz.prog w0 S Tryz.f10.ntmps [] Xl (K10 sw sp R Q 11) (Yp 0 Qx):=by
 have hM:Xl=Xl:=rfl
 conv at hM=>rhs;unfold Xl;cbv
 rw[hM]
 clear hM
 obtain ⟨hS,hr,hok,hsm,x0,x1,y0,y1⟩:=hH
 have hE:=X4
 have hS0:=Z4 Q.S
 have hS1:=Z5 Q.S
 have hT0:=Z7 Q.T
 have hT1:=Z6 Q.T
 have hJ0:=Z1 Q.J
 have hJ1:=Z0 Q.J
 obtain ⟨q1,q2,q3,q4,q5,q6,q7,q8,q9⟩:=Zr hok
 have hL0:=ZC q8
 have hL1:=ZD q8
 have hz0:=Y3 Q q8
 have hz1:=YA Q q8
 have hzr:=YR hok
 have hy0:=X3 R
 have hy1:=X6 R
 obtain ⟨z1,z2⟩:=Xt hsm
 have w1:IntKind.wrap .i64 (Q.u+1)=Q.u+1:=Zg (by omega) (by omega)
 by_cases hm:R.made=true
 ·obtain ⟨g0,g1,n0,n1⟩:=hn hm
  have s1:=yK (yh hr).2.2.2.2.1;have s2:=yK (yh hr).2.2.2.2.2.1;have wf:IntKind.wrap .i64 (R.ny.f - 1)=R.ny.f - 1:=Zg (by omega) (by omega);have hno:=fun u=>e49 hok hsm y0 y1 g0 g1 n0 n1 ⟨1,R.q,R.p,R.ta,R.x,R.nx.g⟩ u;have hjx:=Ze5 hok y0 y1 g0 g1 n0 n1;have hok2:=XS hok R.y R.ny.g (R.ny.f - 1) ⟨1,R.q,R.p,R.ta,R.x,R.nx.g⟩ (by omega);have ht:ZeK Q R=(R,Xa Q R.y R.ny.g (R.ny.f - 1) ⟨1,R.q,R.p,R.ta,R.x,R.nx.g⟩):=by unfold ZeK;rw[if_pos hm]
  rw[ht]at hQ;obtain ⟨Q2,hq2⟩:∃ z,Xa Q R.y R.ny.g (R.ny.f - 1) ⟨1,R.q,R.p,R.ta,R.x,R.nx.g⟩=z:=⟨_,rfl⟩;rw[hq2]at hno hok2 hQ;simp only[rcA]at hno hQ;have q82:=(Zr hok2).2.2.2.2.2.2.2.1;have hz02:=Y3 Q2 q82;have hz12:=YA Q2 q82;have hzr2:=YR hok2;simp only[K10,rzC]
  as_aux_lemma =>
   repeat' with_reducible (first|refine ZR.h ?_|refine kI ?_|((first|refine kR hE ?_|refine kD hE Zq ?_);intro K hK;simp[ELt,                                                 hz0,hz1,hzr,hz02,hz12,hzr2,hno,wf,hm];(repeat' (first|refine hK _ _ ?_|apply And.intro|(intro hc;try subst hc)))<;>(try clear hK K))|(refine kT (fun hc=>?_) (fun hc=>?_)<;>simp at hc<;>(try subst hc)))
   all_goals try (show Zb _ _=true;kernel_rfl)
   all_goals (refine hQ _ _ _ ?_)
   all_goals (try simp only[rzC])
   all_goals (refine Imp.aut ?_ ?_<;>simp[NLe,hz02,hz12,hzr2,hm])
 ·have hm:R.made=false:=by simpa using hm
  have ht:ZeK Q R=(R,Q):=by unfold ZeK;rw[if_neg (by simp[hm])]
  rw[ht]at hQ;simp only[K10,rzC]
  as_aux_lemma =>
   repeat' with_reducible (first|refine ZR.h ?_|refine kI ?_|((first|refine kR hE ?_|refine kD hE Zq ?_);intro K hK;simp[ELt,                                                 hz0,hz1,hzr,hm];(repeat' (first|refine hK _ _ ?_|apply And.intro|(intro hc;try subst hc)))<;>(try clear hK K))|(refine kT (fun hc=>?_) (fun hc=>?_)<;>simp at hc<;>(try subst hc)))
   all_goals try (show Zb _ _=true;kernel_rfl)
   all_goals (refine hQ _ _ _ ?_)
   all_goals (try simp only[rzC])
   all_goals (refine Imp.aut ?_ ?_<;>simp[NLe,hz0,hz1,hzr,hm])
theorem w10_12 {w0:World} {S:Sc} {Qx:Exit→St→Prop} {R:RZ} {Q:QZ} {sw sp:Int} (hH:HyR S R Q)
  (hn:R.made=true→(ZJ R.ny R.ta).2=true→1≤R.ny.g∧R.ny.g≤Q.g)
  (hQ:∀ tl hl nb,Imp 2 ⟨[(0,.tup [])],hl,nb⟩ ⟨[(0,.tup [])],[(0,.cells 0 (.int .i64 sw :: .int .i64 sp :: rzC (Zct Q R).1)),(1,.cells 0 (qzC (Zct Q R).2))],2⟩→Qx .normal ⟨tl,hl,nb⟩) :
  WmA Tryz.prog w0 S Tryz.f10.ntmps [] Xl (K10 sw sp R Q 12) (Yp 0 Qx):=by
 have hM:Xl=Xl:=rfl
 conv at hM=>rhs;unfold Xl;cbv
 rw[hM]
 clear hM
 obtain ⟨hS,hr,hok,hsm,x0,x1,y0,y1⟩:=hH
 have hE:=X4
 have hS0:=Z4 Q.S
 have hS1:=Z5 Q.S
 have hT0:=Z7 Q.T
 have hT1:=Z6 Q.T
 have hJ0:=Z1 Q.J
 have hJ1:=Z0 Q.J
 obtain ⟨q1,q2,q3,q4,q5,q6,q7,q8,q9⟩:=Zr hok
 have hL0:=ZC q8
 have hL1:=ZD q8
 have hz0:=Y3 Q q8
 have hz1:=YA Q q8
 have hzr:=YR hok
 have hy0:=X3 R
 have hy1:=X6 R
 obtain ⟨z1,z2⟩:=Xt hsm
 have w1:IntKind.wrap .i64 (Q.u+1)=Q.u+1:=Zg (by omega) (by omega)
 have hen:d50 [stA R.ny,.int .i64 R.ta] []=some (.tup [rcA (ZJ R.ny R.ta).1,.bool (ZJ R.ny R.ta).2]):=rfl
 have hcf:=ZE q1
 by_cases hm:R.made=true
 ·by_cases he:(ZJ R.ny R.ta).2=true
  ·obtain ⟨g0,g1⟩:=hn hm he
   have hno:=fun u=>e49 hok hsm y0 y1 g0 g1 (show 0≤Q.f by omega) (Int.le_refl _) (ZJ R.ny R.ta).1 u;have hok2:=XS hok R.y R.ny.g Q.f (ZJ R.ny R.ta).1 (by omega);have ht:Zct Q R=(R,Xa Q R.y R.ny.g Q.f (ZJ R.ny R.ta).1):=(by unfold Zct;rw[if_pos ⟨hm,he⟩]);rw[ht]at hQ;rw[he]at hen;obtain ⟨⟨rc,rb⟩,hrc⟩:∃ z,ZJ R.ny R.ta=z:=⟨_,rfl⟩;rw[hrc]at hen hno hok2 hQ;simp only at hen hno hok2 hQ;obtain ⟨Q2,hq2⟩:∃ z,Xa Q R.y R.ny.g Q.f rc=z:=⟨_,rfl⟩;rw[hq2]at hno hok2 hQ;simp only[rcA,stA]at hno hQ hen;have q82:=(Zr hok2).2.2.2.2.2.2.2.1;have hS02:=Z4 Q2.S;have hS12:=Z5 Q2.S;have hT02:=Z7 Q2.T;have hT12:=Z6 Q2.T;have hJ02:=Z1 Q2.J;have hJ12:=Z0 Q2.J;have hL02:=ZC q82;have hL12:=ZD q82;simp only[qzC]at hno;simp only[K10,rzC,qzC]
   as_aux_lemma =>
    repeat' with_reducible (first|refine ZR.h ?_|refine kI ?_|((first|refine kR hE ?_|refine kD hE Zq ?_);intro K hK;simp[ELt,                                                 hS0,hS1,hT0,hT1,hJ0,hJ1,hL0,hL1,hS02,hS12,hT02,hT12,hJ02,hJ12,hL02,hL12,hno,hen,hm];(repeat' (first|refine hK _ _ ?_|apply And.intro|(intro hc;try subst hc)))<;>(try clear hK K))|(refine kT (fun hc=>?_) (fun hc=>?_)<;>simp at hc<;>(try subst hc)))
    all_goals try (show Zb _ _=true;kernel_rfl)
    all_goals (refine hQ _ _ _ ?_)
    all_goals (try simp only[rzC,qzC])
    all_goals (refine Imp.aut ?_ ?_<;>simp[NLe,hS0,hS1,hT0,hT1,hJ0,hJ1,hL0,hL1,hS02,hS12,hT02,hT12,hJ02,hJ12,hL02,hL12,hm])
  ·have he:(ZJ R.ny R.ta).2=false:=by simpa using he
   have ht:Zct Q R=(R,Q):=(by unfold Zct;rw[if_neg (by simp[he])]);rw[ht]at hQ;rw[he]at hen;obtain ⟨rc,hrc⟩:∃ z,(ZJ R.ny R.ta).1=z:=⟨_,rfl⟩;rw[hrc]at hen;simp only[rcA,stA]at hen;simp only[K10,rzC]
   as_aux_lemma =>
    repeat' with_reducible (first|refine ZR.h ?_|refine kI ?_|((first|refine kR hE ?_|refine kD hE Zq ?_);intro K hK;simp[ELt,                                                 hz0,hz1,hzr,hen,hm];(repeat' (first|refine hK _ _ ?_|apply And.intro|(intro hc;try subst hc)))<;>(try clear hK K))|(refine kT (fun hc=>?_) (fun hc=>?_)<;>simp at hc<;>(try subst hc)))
    all_goals try (show Zb _ _=true;kernel_rfl)
    all_goals (refine hQ _ _ _ ?_)
    all_goals (try simp only[rzC])
    all_goals (refine Imp.aut ?_ ?_<;>simp[NLe,hz0,hz1,hzr,hm])
 ·have hm:R.made=false:=by simpa using hm
  have ht:Zct Q R=(R,Q):=by unfold Zct;rw[if_neg (by simp[hm])]
  rw[ht]at hQ;obtain ⟨⟨rc,rb⟩,hrc⟩:∃ z,ZJ R.ny R.ta=z:=⟨_,rfl⟩;rw[hrc]at hen;simp only[rcA,stA]at hen;simp only[K10,rzC]
  as_aux_lemma =>
   repeat' with_reducible (first|refine ZR.h ?_|refine kI ?_|((first|refine kR hE ?_|refine kD hE Zq ?_);intro K hK;simp[ELt,                                                 hz0,hz1,hzr,hen,hm];(repeat' (first|refine hK _ _ ?_|apply And.intro|(intro hc;try subst hc)))<;>(try clear hK K))|(refine kT (fun hc=>?_) (fun hc=>?_)<;>simp at hc<;>(try subst hc)))
   all_goals try (show Zb _ _=true;kernel_rfl)
   all_goals (refine hQ _ _ _ ?_)
   all_goals (try simp only[rzC])
   all_goals (refine Imp.aut ?_ ?_<;>simp[NLe,hz0,hz1,hzr,hm])
theorem w10_13 {w0:World} {S:Sc} {Qx:Exit→St→Prop} {R:RZ} {Q:QZ} {sw sp:Int} (hH:HyR S R Q)
  (hn:R.held=true→(ZJ R.nx R.en).2=true→1≤R.nx.g∧R.nx.g≤Q.g)
  (hQ:∀ tl hl nb,Imp 2 ⟨[(0,.tup [])],hl,nb⟩ ⟨[(0,.tup [])],[(0,.cells 0 (.int .i64 sw :: .int .i64 sp :: rzC (Zcu Q R).1)),(1,.cells 0 (qzC (Zcu Q R).2))],2⟩→Qx .normal ⟨tl,hl,nb⟩) :
  WmA Tryz.prog w0 S Tryz.f10.ntmps [] Xl (K10 sw sp R Q 13) (Yp 0 Qx):=by
 have hM:Xl=Xl:=rfl
 conv at hM=>rhs;unfold Xl;cbv
 rw[hM]
 clear hM
 obtain ⟨hS,hr,hok,hsm,x0,x1,y0,y1⟩:=hH
 have hE:=X4
 have hS0:=Z4 Q.S
 have hS1:=Z5 Q.S
 have hT0:=Z7 Q.T
 have hT1:=Z6 Q.T
 have hJ0:=Z1 Q.J
 have hJ1:=Z0 Q.J
 obtain ⟨q1,q2,q3,q4,q5,q6,q7,q8,q9⟩:=Zr hok
 have hL0:=ZC q8
 have hL1:=ZD q8
 have hz0:=Y3 Q q8
 have hz1:=YA Q q8
 have hzr:=YR hok
 have hy0:=X3 R
 have hy1:=X6 R
 obtain ⟨z1,z2⟩:=Xt hsm
 have w1:IntKind.wrap .i64 (Q.u+1)=Q.u+1:=Zg (by omega) (by omega)
 have hen:d50 [stA R.nx,.int .i64 R.en] []=some (.tup [rcA (ZJ R.nx R.en).1,.bool (ZJ R.nx R.en).2]):=rfl
 have hcf:=ZE q1
 by_cases hm:R.held=true
 ·by_cases he:(ZJ R.nx R.en).2=true
  ·obtain ⟨g0,g1⟩:=hn hm he
   have hno:=fun u=>e49 hok hsm x0 x1 g0 g1 (show 0≤Q.f by omega) (Int.le_refl _) (ZJ R.nx R.en).1 u;have hok2:=XS hok R.x R.nx.g Q.f (ZJ R.nx R.en).1 (by omega);have ht:Zcu Q R=(R,Xa Q R.x R.nx.g Q.f (ZJ R.nx R.en).1):=(by unfold Zcu;rw[if_pos ⟨hm,he⟩]);rw[ht]at hQ;rw[he]at hen;obtain ⟨⟨rc,rb⟩,hrc⟩:∃ z,ZJ R.nx R.en=z:=⟨_,rfl⟩;rw[hrc]at hen hno hok2 hQ;simp only at hen hno hok2 hQ;obtain ⟨Q2,hq2⟩:∃ z,Xa Q R.x R.nx.g Q.f rc=z:=⟨_,rfl⟩;rw[hq2]at hno hok2 hQ;simp only[rcA,stA]at hno hQ hen;have q82:=(Zr hok2).2.2.2.2.2.2.2.1;have hS02:=Z4 Q2.S;have hS12:=Z5 Q2.S;have hT02:=Z7 Q2.T;have hT12:=Z6 Q2.T;have hJ02:=Z1 Q2.J;have hJ12:=Z0 Q2.J;have hL02:=ZC q82;have hL12:=ZD q82;simp only[qzC]at hno;simp only[K10,rzC,qzC]
   as_aux_lemma =>
    repeat' with_reducible (first|refine ZR.h ?_|refine kI ?_|((first|refine kR hE ?_|refine kD hE Zq ?_);intro K hK;simp[ELt,                                                 hS0,hS1,hT0,hT1,hJ0,hJ1,hL0,hL1,hS02,hS12,hT02,hT12,hJ02,hJ12,hL02,hL12,hno,hen,hm];(repeat' (first|refine hK _ _ ?_|apply And.intro|(intro hc;try subst hc)))<;>(try clear hK K))|(refine kT (fun hc=>?_) (fun hc=>?_)<;>simp at hc<;>(try subst hc)))
    all_goals try (show Zb _ _=true;kernel_rfl)
    all_goals (refine hQ _ _ _ ?_)
    all_goals (try simp only[rzC,qzC])
    all_goals (refine Imp.aut ?_ ?_<;>simp[NLe,hS0,hS1,hT0,hT1,hJ0,hJ1,hL0,hL1,hS02,hS12,hT02,hT12,hJ02,hJ12,hL02,hL12,hm])
  ·have he:(ZJ R.nx R.en).2=false:=by simpa using he
   have ht:Zcu Q R=(R,Q):=(by unfold Zcu;rw[if_neg (by simp[he])]);rw[ht]at hQ;rw[he]at hen;obtain ⟨rc,hrc⟩:∃ z,(ZJ R.nx R.en).1=z:=⟨_,rfl⟩;rw[hrc]at hen;simp only[rcA,stA]at hen;simp only[K10,rzC]
   as_aux_lemma =>
    repeat' with_reducible (first|refine ZR.h ?_|refine kI ?_|((first|refine kR hE ?_|refine kD hE Zq ?_);intro K hK;simp[ELt,                                                 hz0,hz1,hzr,hen,hm];(repeat' (first|refine hK _ _ ?_|apply And.intro|(intro hc;try subst hc)))<;>(try clear hK K))|(refine kT (fun hc=>?_) (fun hc=>?_)<;>simp at hc<;>(try subst hc)))
    all_goals try (show Zb _ _=true;kernel_rfl)
    all_goals (refine hQ _ _ _ ?_)
    all_goals (try simp only[rzC])
    all_goals (refine Imp.aut ?_ ?_<;>simp[NLe,hz0,hz1,hzr,hm])
 ·have hm:R.held=false:=by simpa using hm
  have ht:Zcu Q R=(R,Q):=by unfold Zcu;rw[if_neg (by simp[hm])]
  rw[ht]at hQ;obtain ⟨⟨rc,rb⟩,hrc⟩:∃ z,ZJ R.nx R.en=z:=⟨_,rfl⟩;rw[hrc]at hen;simp only[rcA,stA]at hen;simp only[K10,rzC]
  as_aux_lemma =>
   repeat' with_reducible (first|refine ZR.h ?_|refine kI ?_|((first|refine kR hE ?_|refine kD hE Zq ?_);intro K hK;simp[ELt,                                                 hz0,hz1,hzr,hen,hm];(repeat' (first|refine hK _ _ ?_|apply And.intro|(intro hc;try subst hc)))<;>(try clear hK K))|(refine kT (fun hc=>?_) (fun hc=>?_)<;>simp at hc<;>(try subst hc)))
   all_goals try (show Zb _ _=true;kernel_rfl)
   all_goals (refine hQ _ _ _ ?_)
   all_goals (try simp only[rzC])
   all_goals (refine Imp.aut ?_ ?_<;>simp[NLe,hz0,hz1,hzr,hm])
end Go.W
