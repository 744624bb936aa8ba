/- A part of the proofs about the pair's laws (RaE, RaF). -/
import Derived.Test.YtidbbnkpglggdaaGreatRaD
namespace Go.W
open Go.Proofs
set_option linter.unusedSimpArgs false
set_option linter.unusedVariables false
set_option maxHeartbeats 200000000
set_option maxRecDepth 100000
attribute [local irreducible] Wm WmA
attribute [local simp] YP lkp Vq prs V9 prT ddL idL Yy Ue Ren Ve NObj.none ZT
theorem s47:Sound Tryz.prog 47 (Zhh 2 [(45,true),(13,true)] d47 ok47):=by
 refine yn (D:=2) (ac:=?ac) (res:=?res) Tryz.func47 (by kernel_rfl) (ha:=?ha) (hk:=?hk) (hok:=ok47) (fun xs a h=>?_) fun xs a h w0 S hS=>?_
 case ha=>conv=>lhs;cbv
 case hk=>kernel_rfl
 ·unfold d47 at h
  (repeat' (split at h))<;>first|(cases h;done)|exact Nat.le_of_ble_eq_true rfl
 unfold d47 at h;split at h
 ·rename_i t1 sw sp r t2 q
  split at h
  ·rename_i R Q hR hQ
   split at h
   ·rename_i hcond
    obtain rfl:=Yv hQ;obtain rfl:=Ux hR;injection h with h;subst h;clear hQ hR;have hE:Zd Tryz.prog (EL [(45,rdS d45 ok45),(85,rdS d85 ok85),(86,rdS d86 ok86),(46,Zm [(13,true)] d46 ok46),(67,Zm [(13,true)] d67 ok67)]):=Ze (by simp only[List.mem_cons,List.not_mem_nil,or_false,forall_eq_or_imp,forall_eq];exact ⟨s45,s85,s86,s46,s67⟩);obtain ⟨hr,hok,hsm,x0',x1',y0',y1'⟩:=hcond;have hS0:=Z4 Q.S;have hS1:=Z5 Q.S;have hT0:=Z7 Q.T;have hT1:=Z6 Q.T;have hJ0:=Z1 Q.J;have hJ1:=Z0 Q.J;obtain ⟨q1,q2,q3,q4,q5,q6,q7,q8,q9⟩:=Zr hok;have hL0:=ZC q8;have hL1:=ZD q8;obtain ⟨r1,r2,r3,r4,r5,r6,p1,p2,p3,p4⟩:=yh hr;obtain ⟨y1,y2,y3,y4,y5,y6⟩:=yK r4;have hsh:d45 [.agg [.int .i64 Q.a,.int .i64 Q.b,.int .i64 Q.c,.int .i64 Q.d,.int .i64 Q.e,.int .i64 Q.f,.int .i64 Q.g],.agg [.int .i64 R.ty.nm,.int .i64 R.ty.sd,.int .i64 R.ty.pr,.int .i64 R.ty.le,.int .i64 R.ty.un]] []=some (.int .i64 (ZK Q.c Q.d R.ty.nm (Yj Q.d R.ty.pr))):=by
     simp only[d45];rw[if_pos q1]
    obtain ⟨shv,hshv⟩:∃ z,ZK Q.c Q.d R.ty.nm (Yj Q.d R.ty.pr)=z:=⟨_,rfl⟩;by_cases hh:R.held=false
    ·by_cases w1:R.way=1
     ·have ht:XE Q R=(R,Q):=by unfold XE;rw[if_pos (.inl hh)]
      rw[ht];simp only[rzC,qzC]at hS⊢
      as_aux_lemma =>
       repeat' with_reducible (first|refine ZR.h ?_|refine kI ?_|((first|refine kR hE ?_|refine kD hE Zq ?_);intro K hK;simp[hS0,hS1,hT0,hT1,hJ0,hJ1,hL0,hL1,hh,w1];(repeat' (first|refine hK _ _ ?_|apply And.intro|(intro hc;try subst hc)))<;>(try clear hK K))|(refine kT (fun hc=>?_) (fun hc=>?_)<;>simp at hc<;>(try subst hc)))
       all_goals first|(show Zb _ _=true;kernel_rfl)|(simp;done)|(simp at *;omega)|((try simp[hS0,hS1,hT0,hT1,hJ0,hJ1,hL0,hL1,hh,w1]);refine Imp.aut ?_ ?_<;>simp[NLe,hS0,hS1,hT0,hT1,hJ0,hJ1,hL0,hL1,hh,w1])
     ·have ht:XE Q R=(R,Q):=by unfold XE;rw[if_pos (.inl hh)]
      rw[ht];simp only[rzC,qzC]at hS⊢
      as_aux_lemma =>
       repeat' with_reducible (first|refine ZR.h ?_|refine kI ?_|((first|refine kR hE ?_|refine kD hE Zq ?_);intro K hK;simp[hS0,hS1,hT0,hT1,hJ0,hJ1,hL0,hL1,hh,w1];(repeat' (first|refine hK _ _ ?_|apply And.intro|(intro hc;try subst hc)))<;>(try clear hK K))|(refine kT (fun hc=>?_) (fun hc=>?_)<;>simp at hc<;>(try subst hc)))
       all_goals first|(show Zb _ _=true;kernel_rfl)|(simp;done)|(simp at *;omega)|((try simp[hS0,hS1,hT0,hT1,hJ0,hJ1,hL0,hL1,hh,w1]);refine Imp.aut ?_ ?_<;>simp[NLe,hS0,hS1,hT0,hT1,hJ0,hJ1,hL0,hL1,hh,w1])
    ·have hh:R.held=true:=by simpa using hh
     by_cases w1:R.way=1
     ·by_cases k1:R.sy.k=1
      ·
       have hb:¬ (R.held=false∨R.sy.k≠(if R.way=1 then 1 else 2)∨(R.way=2∧ZK Q.c Q.d R.ty.nm (Yj Q.d R.ty.pr)≠R.sh)):=by rw[if_pos w1];simp[hh,k1,w1]
       have hmt:d85 [.agg (tmC R.tx),.agg (tmC R.ty),.int .i64 R.sx.l,.int .i64 R.sy.l] []=some (.tup [.int .i64 (Zf R.tx R.ty R.sx.l R.sy.l).1,.int .i64 (Zf R.tx R.ty R.sx.l R.sy.l).2]):=by
        simp only[d85,tmC];rw[if_pos ⟨p1,p2,p3,p4⟩]
       have htk:d86 [stA R.sy,.int .i64 (Zf R.tx R.ty R.sx.l R.sy.l).1,.int .i64 Q.f] []=some (.tup [stA (Zz R.sy (Zf R.tx R.ty R.sx.l R.sy.l).1 Q.f).1,.int .i64 (Zz R.sy (Zf R.tx R.ty R.sx.l R.sy.l).1 Q.f).2]):=by
        simp only[d86,stA];rw[if_pos ⟨y3,y4,y5,y6⟩]
       unfold XE
       rw[if_neg hb]
       obtain ⟨⟨mq,mp⟩,hm⟩:∃ z,Zf R.tx R.ty R.sx.l R.sy.l=z:=⟨_,rfl⟩
       rw[hm]at hmt htk⊢
       obtain ⟨⟨ts,te⟩,hts⟩:∃ z,Zz R.sy mq Q.f=z:=⟨_,rfl⟩
       simp only at htk⊢
       rw[hts]at htk⊢
       simp only[tmC,stA]at hmt htk⊢
       by_cases he:te=0
       ·subst he
        rw[if_neg (by simp)];have htu:=fun u=>e46 hok hsm y0' y1' R.sy ts u;have hok2:=Ye hok R.y R.sy ts;obtain ⟨⟨tb,Q2⟩,hq2⟩:∃ z,ZO Q R.y R.sy ts=z:=⟨_,rfl⟩;have hsm2:Zhq Q2=true:=(by have:=UC hsm R.y R.sy ts;rw[hq2]at this;exact this);rw[hq2]at htu hok2⊢;simp only[stA]at htu hok2⊢;have q82:=(Zr hok2).2.2.2.2.2.2.2.1;have hS02:=Z4 Q2.S;have hS12:=Z5 Q2.S;have hT02:=Z7 Q2.T;have hT12:=Z6 Q2.T;have hJ02:=Z1 Q2.J;have hJ12:=Z0 Q2.J;have hL02:=ZC q82;have hL12:=ZD q82;cases tb
        ·rw[if_pos rfl]
         simp only[rzC,qzC]at hS htu⊢;simp only[k1]at htk htu
         as_aux_lemma =>
          repeat' with_reducible (first|refine ZR.h ?_|refine kI ?_|((first|refine kR hE ?_|refine kD hE Zq ?_);intro K hK;simp[hh,w1,k1,hS0,hS1,hT0,hT1,hJ0,hJ1,hL0,hL1,hS02,hS12,hT02,hT12,hJ02,hJ12,hL02,hL12,hmt,htk,htu];(repeat' (first|refine hK _ _ ?_|apply And.intro|(intro hc;try subst hc)))<;>(try clear hK K))|(refine kT (fun hc=>?_) (fun hc=>?_)<;>simp at hc<;>(try subst hc)))
          all_goals first|(show Zb _ _=true;kernel_rfl)|(simp;done)|(simp at *;omega)|((try simp[hh,w1,k1,hS0,hS1,hT0,hT1,hJ0,hJ1,hL0,hL1,hS02,hS12,hT02,hT12,hJ02,hJ12,hL02,hL12]);refine Imp.aut ?_ ?_<;>simp[NLe,hh,w1,k1,hS0,hS1,hT0,hT1,hJ0,hJ1,hL0,hL1,hS02,hS12,hT02,hT12,hJ02,hJ12,hL02,hL12])
        ·rw[if_neg (by simp)]
         have htl:=fun u=>e67 hok2 hsm2 2 R.x R.sx.g R.y R.sy.g mq mp 0 0 u;have hok3:=XB hok2 2 R.x R.sx.g R.y R.sy.g mq mp 0;have hnow:Q2.now=Q.now:=(by have:=VB Q R.y R.sy ts;rw[hq2]at this;exact this);obtain ⟨Q3,hq3⟩:∃ z,U5 Q2 2 R.x R.sx.g R.y R.sy.g mq mp 0=z:=⟨_,rfl⟩;rw[hq3]at htl hok3⊢;have q83:=(Zr hok3).2.2.2.2.2.2.2.1;have hS03:=Z4 Q3.S;have hS13:=Z5 Q3.S;have hT03:=Z7 Q3.T;have hT13:=Z6 Q3.T;have hJ03:=Z1 Q3.J;have hJ13:=Z0 Q3.J;have hL03:=ZC q83;have hL13:=ZD q83;rw[← hnow];simp only[rzC,qzC,evC]at hS htu htl⊢;simp only[k1]at htk htu
         as_aux_lemma =>
          repeat' with_reducible (first|refine ZR.h ?_|refine kI ?_|((first|refine kR hE ?_|refine kD hE Zq ?_);intro K hK;simp[hh,w1,k1,hS0,hS1,hT0,hT1,hJ0,hJ1,hL0,hL1,hS02,hS12,hT02,hT12,hJ02,hJ12,hL02,hL12,hS03,hS13,hT03,hT13,hJ03,hJ13,hL03,hL13,hmt,htk,htu,htl];(repeat' (first|refine hK _ _ ?_|apply And.intro|(intro hc;try subst hc)))<;>(try clear hK K))|(refine kT (fun hc=>?_) (fun hc=>?_)<;>simp at hc<;>(try subst hc)))
          all_goals first|(show Zb _ _=true;kernel_rfl)|(simp;done)|(simp at *;omega)|((try simp[hh,w1,k1,hS0,hS1,hT0,hT1,hJ0,hJ1,hL0,hL1,hS02,hS12,hT02,hT12,hJ02,hJ12,hL02,hL12,hS03,hS13,hT03,hT13,hJ03,hJ13,hL03,hL13]);refine Imp.aut ?_ ?_<;>simp[NLe,hh,w1,k1,hS0,hS1,hT0,hT1,hJ0,hJ1,hL0,hL1,hS02,hS12,hT02,hT12,hJ02,hJ12,hL02,hL12,hS03,hS13,hT03,hT13,hJ03,hJ13,hL03,hL13])
       ·rw[if_pos he]
        simp only[rzC,qzC]at hS⊢;simp only[k1]at htk
        as_aux_lemma =>
         repeat' with_reducible (first|refine ZR.h ?_|refine kI ?_|((first|refine kR hE ?_|refine kD hE Zq ?_);intro K hK;simp[hh,w1,k1,hS0,hS1,hT0,hT1,hJ0,hJ1,hL0,hL1,hmt,htk,he];(repeat' (first|refine hK _ _ ?_|apply And.intro|(intro hc;try subst hc)))<;>(try clear hK K))|(refine kT (fun hc=>?_) (fun hc=>?_)<;>simp at hc<;>(try subst hc)))
         all_goals first|(show Zb _ _=true;kernel_rfl)|(simp;done)|(simp at *;omega)|((try simp[hh,w1,k1,hS0,hS1,hT0,hT1,hJ0,hJ1,hL0,hL1,he]);refine Imp.aut ?_ ?_<;>simp[NLe,hh,w1,k1,hS0,hS1,hT0,hT1,hJ0,hJ1,hL0,hL1,he])
      ·have ht:XE Q R=(R,Q):=by unfold XE;rw[if_pos (.inr (.inl (by rw[if_pos w1];exact k1)))]
       rw[ht];simp only[rzC,qzC]at hS⊢
       as_aux_lemma =>
        repeat' with_reducible (first|refine ZR.h ?_|refine kI ?_|((first|refine kR hE ?_|refine kD hE Zq ?_);intro K hK;simp[hS0,hS1,hT0,hT1,hJ0,hJ1,hL0,hL1,hh,w1,k1];(repeat' (first|refine hK _ _ ?_|apply And.intro|(intro hc;try subst hc)))<;>(try clear hK K))|(refine kT (fun hc=>?_) (fun hc=>?_)<;>simp at hc<;>(try subst hc)))
        all_goals first|(show Zb _ _=true;kernel_rfl)|(simp;done)|(simp at *;omega)|((try simp[hS0,hS1,hT0,hT1,hJ0,hJ1,hL0,hL1,hh,w1,k1]);refine Imp.aut ?_ ?_<;>simp[NLe,hS0,hS1,hT0,hT1,hJ0,hJ1,hL0,hL1,hh,w1,k1])
     ·by_cases k2:R.sy.k=2
      ·by_cases w2:R.way=2
       ·rw[hshv]at hsh
        by_cases hs:shv=R.sh
        ·
         have hb:¬ (R.held=false∨R.sy.k≠(if R.way=1 then 1 else 2)∨(R.way=2∧ZK Q.c Q.d R.ty.nm (Yj Q.d R.ty.pr)≠R.sh)):=by rw[if_neg w1,hshv];simp[hh,k2,w2,hs]
         have hmt:d85 [.agg (tmC R.tx),.agg (tmC R.ty),.int .i64 R.sx.l,.int .i64 R.sy.l] []=some (.tup [.int .i64 (Zf R.tx R.ty R.sx.l R.sy.l).1,.int .i64 (Zf R.tx R.ty R.sx.l R.sy.l).2]):=by
          simp only[d85,tmC];rw[if_pos ⟨p1,p2,p3,p4⟩]
         have htk:d86 [stA R.sy,.int .i64 (Zf R.tx R.ty R.sx.l R.sy.l).1,.int .i64 Q.f] []=some (.tup [stA (Zz R.sy (Zf R.tx R.ty R.sx.l R.sy.l).1 Q.f).1,.int .i64 (Zz R.sy (Zf R.tx R.ty R.sx.l R.sy.l).1 Q.f).2]):=by
          simp only[d86,stA];rw[if_pos ⟨y3,y4,y5,y6⟩]
         unfold XE
         rw[if_neg hb]
         obtain ⟨⟨mq,mp⟩,hm⟩:∃ z,Zf R.tx R.ty R.sx.l R.sy.l=z:=⟨_,rfl⟩
         rw[hm]at hmt htk⊢
         obtain ⟨⟨ts,te⟩,hts⟩:∃ z,Zz R.sy mq Q.f=z:=⟨_,rfl⟩
         simp only at htk⊢
         rw[hts]at htk⊢
         simp only[tmC,stA]at hmt htk⊢
         by_cases he:te=0
         ·subst he
          rw[if_neg (by simp)];have htu:=fun u=>e46 hok hsm y0' y1' R.sy ts u;have hok2:=Ye hok R.y R.sy ts;obtain ⟨⟨tb,Q2⟩,hq2⟩:∃ z,ZO Q R.y R.sy ts=z:=⟨_,rfl⟩;have hsm2:Zhq Q2=true:=(by have:=UC hsm R.y R.sy ts;rw[hq2]at this;exact this);rw[hq2]at htu hok2⊢;simp only[stA]at htu hok2⊢;have q82:=(Zr hok2).2.2.2.2.2.2.2.1;have hS02:=Z4 Q2.S;have hS12:=Z5 Q2.S;have hT02:=Z7 Q2.T;have hT12:=Z6 Q2.T;have hJ02:=Z1 Q2.J;have hJ12:=Z0 Q2.J;have hL02:=ZC q82;have hL12:=ZD q82;cases tb
          ·rw[if_pos rfl]
           simp only[rzC,qzC]at hS htu⊢;simp only[k2]at htk htu
           as_aux_lemma =>
            repeat' with_reducible (first|refine ZR.h ?_|refine kI ?_|((first|refine kR hE ?_|refine kD hE Zq ?_);intro K hK;simp[hh,w1,w2,k2,hsh,hs,hS0,hS1,hT0,hT1,hJ0,hJ1,hL0,hL1,hS02,hS12,hT02,hT12,hJ02,hJ12,hL02,hL12,hmt,htk,htu];(repeat' (first|refine hK _ _ ?_|apply And.intro|(intro hc;try subst hc)))<;>(try clear hK K))|(refine kT (fun hc=>?_) (fun hc=>?_)<;>simp at hc<;>(try subst hc)))
            all_goals first|(show Zb _ _=true;kernel_rfl)|(simp;done)|(simp at *;omega)|((try simp[hh,w1,w2,k2,hsh,hs,hS0,hS1,hT0,hT1,hJ0,hJ1,hL0,hL1,hS02,hS12,hT02,hT12,hJ02,hJ12,hL02,hL12]);refine Imp.aut ?_ ?_<;>simp[NLe,hh,w1,w2,k2,hsh,hs,hS0,hS1,hT0,hT1,hJ0,hJ1,hL0,hL1,hS02,hS12,hT02,hT12,hJ02,hJ12,hL02,hL12])
          ·rw[if_neg (by simp)]
           have htl:=fun u=>e67 hok2 hsm2 2 R.x R.sx.g R.y R.sy.g mq mp 0 0 u;have hok3:=XB hok2 2 R.x R.sx.g R.y R.sy.g mq mp 0;have hnow:Q2.now=Q.now:=(by have:=VB Q R.y R.sy ts;rw[hq2]at this;exact this);obtain ⟨Q3,hq3⟩:∃ z,U5 Q2 2 R.x R.sx.g R.y R.sy.g mq mp 0=z:=⟨_,rfl⟩;rw[hq3]at htl hok3⊢;have q83:=(Zr hok3).2.2.2.2.2.2.2.1;have hS03:=Z4 Q3.S;have hS13:=Z5 Q3.S;have hT03:=Z7 Q3.T;have hT13:=Z6 Q3.T;have hJ03:=Z1 Q3.J;have hJ13:=Z0 Q3.J;have hL03:=ZC q83;have hL13:=ZD q83;rw[← hnow];simp only[rzC,qzC,evC]at hS htu htl⊢;simp only[k2]at htk htu
           as_aux_lemma =>
            repeat' with_reducible (first|refine ZR.h ?_|refine kI ?_|((first|refine kR hE ?_|refine kD hE Zq ?_);intro K hK;simp[hh,w1,w2,k2,hsh,hs,hS0,hS1,hT0,hT1,hJ0,hJ1,hL0,hL1,hS02,hS12,hT02,hT12,hJ02,hJ12,hL02,hL12,hS03,hS13,hT03,hT13,hJ03,hJ13,hL03,hL13,hmt,htk,htu,htl];(repeat' (first|refine hK _ _ ?_|apply And.intro|(intro hc;try subst hc)))<;>(try clear hK K))|(refine kT (fun hc=>?_) (fun hc=>?_)<;>simp at hc<;>(try subst hc)))
            all_goals first|(show Zb _ _=true;kernel_rfl)|(simp;done)|(simp at *;omega)|((try simp[hh,w1,w2,k2,hsh,hs,hS0,hS1,hT0,hT1,hJ0,hJ1,hL0,hL1,hS02,hS12,hT02,hT12,hJ02,hJ12,hL02,hL12,hS03,hS13,hT03,hT13,hJ03,hJ13,hL03,hL13]);refine Imp.aut ?_ ?_<;>simp[NLe,hh,w1,w2,k2,hsh,hs,hS0,hS1,hT0,hT1,hJ0,hJ1,hL0,hL1,hS02,hS12,hT02,hT12,hJ02,hJ12,hL02,hL12,hS03,hS13,hT03,hT13,hJ03,hJ13,hL03,hL13])
         ·rw[if_pos he]
          simp only[rzC,qzC]at hS⊢;simp only[k2]at htk
          as_aux_lemma =>
           repeat' with_reducible (first|refine ZR.h ?_|refine kI ?_|((first|refine kR hE ?_|refine kD hE Zq ?_);intro K hK;simp[hh,w1,w2,k2,hsh,hs,hS0,hS1,hT0,hT1,hJ0,hJ1,hL0,hL1,hmt,htk,he];(repeat' (first|refine hK _ _ ?_|apply And.intro|(intro hc;try subst hc)))<;>(try clear hK K))|(refine kT (fun hc=>?_) (fun hc=>?_)<;>simp at hc<;>(try subst hc)))
           all_goals first|(show Zb _ _=true;kernel_rfl)|(simp;done)|(simp at *;omega)|((try simp[hh,w1,w2,k2,hsh,hs,hS0,hS1,hT0,hT1,hJ0,hJ1,hL0,hL1,he]);refine Imp.aut ?_ ?_<;>simp[NLe,hh,w1,w2,k2,hsh,hs,hS0,hS1,hT0,hT1,hJ0,hJ1,hL0,hL1,he])
        ·have ht:XE Q R=(R,Q):=by unfold XE;rw[if_pos (.inr (.inr ⟨w2,by rw[hshv];exact hs⟩))]
         rw[ht];simp only[rzC,qzC]at hS⊢
         as_aux_lemma =>
          repeat' with_reducible (first|refine ZR.h ?_|refine kI ?_|((first|refine kR hE ?_|refine kD hE Zq ?_);intro K hK;simp[hS0,hS1,hT0,hT1,hJ0,hJ1,hL0,hL1,hh,w1,w2,k2,hsh,hs];(repeat' (first|refine hK _ _ ?_|apply And.intro|(intro hc;try subst hc)))<;>(try clear hK K))|(refine kT (fun hc=>?_) (fun hc=>?_)<;>simp at hc<;>(try subst hc)))
          all_goals first|(show Zb _ _=true;kernel_rfl)|(simp;done)|(simp at *;omega)|((try simp[hS0,hS1,hT0,hT1,hJ0,hJ1,hL0,hL1,hh,w1,w2,k2,hsh,hs]);refine Imp.aut ?_ ?_<;>simp[NLe,hS0,hS1,hT0,hT1,hJ0,hJ1,hL0,hL1,hh,w1,w2,k2,hsh,hs])
       ·
        have hb:¬ (R.held=false∨R.sy.k≠(if R.way=1 then 1 else 2)∨(R.way=2∧ZK Q.c Q.d R.ty.nm (Yj Q.d R.ty.pr)≠R.sh)):=by rw[if_neg w1];simp[hh,k2,w2]
        have hmt:d85 [.agg (tmC R.tx),.agg (tmC R.ty),.int .i64 R.sx.l,.int .i64 R.sy.l] []=some (.tup [.int .i64 (Zf R.tx R.ty R.sx.l R.sy.l).1,.int .i64 (Zf R.tx R.ty R.sx.l R.sy.l).2]):=by
         simp only[d85,tmC];rw[if_pos ⟨p1,p2,p3,p4⟩]
        have htk:d86 [stA R.sy,.int .i64 (Zf R.tx R.ty R.sx.l R.sy.l).1,.int .i64 Q.f] []=some (.tup [stA (Zz R.sy (Zf R.tx R.ty R.sx.l R.sy.l).1 Q.f).1,.int .i64 (Zz R.sy (Zf R.tx R.ty R.sx.l R.sy.l).1 Q.f).2]):=by
         simp only[d86,stA];rw[if_pos ⟨y3,y4,y5,y6⟩]
        unfold XE
        rw[if_neg hb]
        obtain ⟨⟨mq,mp⟩,hm⟩:∃ z,Zf R.tx R.ty R.sx.l R.sy.l=z:=⟨_,rfl⟩
        rw[hm]at hmt htk⊢
        obtain ⟨⟨ts,te⟩,hts⟩:∃ z,Zz R.sy mq Q.f=z:=⟨_,rfl⟩
        simp only at htk⊢
        rw[hts]at htk⊢
        simp only[tmC,stA]at hmt htk⊢
        by_cases he:te=0
        ·subst he
         rw[if_neg (by simp)];have htu:=fun u=>e46 hok hsm y0' y1' R.sy ts u;have hok2:=Ye hok R.y R.sy ts;obtain ⟨⟨tb,Q2⟩,hq2⟩:∃ z,ZO Q R.y R.sy ts=z:=⟨_,rfl⟩;have hsm2:Zhq Q2=true:=(by have:=UC hsm R.y R.sy ts;rw[hq2]at this;exact this);rw[hq2]at htu hok2⊢;simp only[stA]at htu hok2⊢;have q82:=(Zr hok2).2.2.2.2.2.2.2.1;have hS02:=Z4 Q2.S;have hS12:=Z5 Q2.S;have hT02:=Z7 Q2.T;have hT12:=Z6 Q2.T;have hJ02:=Z1 Q2.J;have hJ12:=Z0 Q2.J;have hL02:=ZC q82;have hL12:=ZD q82;cases tb
         ·rw[if_pos rfl]
          simp only[rzC,qzC]at hS htu⊢;simp only[k2]at htk htu
          as_aux_lemma =>
           repeat' with_reducible (first|refine ZR.h ?_|refine kI ?_|((first|refine kR hE ?_|refine kD hE Zq ?_);intro K hK;simp[hh,w1,w2,k2,hS0,hS1,hT0,hT1,hJ0,hJ1,hL0,hL1,hS02,hS12,hT02,hT12,hJ02,hJ12,hL02,hL12,hmt,htk,htu];(repeat' (first|refine hK _ _ ?_|apply And.intro|(intro hc;try subst hc)))<;>(try clear hK K))|(refine kT (fun hc=>?_) (fun hc=>?_)<;>simp at hc<;>(try subst hc)))
           all_goals first|(show Zb _ _=true;kernel_rfl)|(simp;done)|(simp at *;omega)|((try simp[hh,w1,w2,k2,hS0,hS1,hT0,hT1,hJ0,hJ1,hL0,hL1,hS02,hS12,hT02,hT12,hJ02,hJ12,hL02,hL12]);refine Imp.aut ?_ ?_<;>simp[NLe,hh,w1,w2,k2,hS0,hS1,hT0,hT1,hJ0,hJ1,hL0,hL1,hS02,hS12,hT02,hT12,hJ02,hJ12,hL02,hL12])
         ·rw[if_neg (by simp)]
          have htl:=fun u=>e67 hok2 hsm2 2 R.x R.sx.g R.y R.sy.g mq mp 0 0 u;have hok3:=XB hok2 2 R.x R.sx.g R.y R.sy.g mq mp 0;have hnow:Q2.now=Q.now:=(by have:=VB Q R.y R.sy ts;rw[hq2]at this;exact this);obtain ⟨Q3,hq3⟩:∃ z,U5 Q2 2 R.x R.sx.g R.y R.sy.g mq mp 0=z:=⟨_,rfl⟩;rw[hq3]at htl hok3⊢;have q83:=(Zr hok3).2.2.2.2.2.2.2.1;have hS03:=Z4 Q3.S;have hS13:=Z5 Q3.S;have hT03:=Z7 Q3.T;have hT13:=Z6 Q3.T;have hJ03:=Z1 Q3.J;have hJ13:=Z0 Q3.J;have hL03:=ZC q83;have hL13:=ZD q83;rw[← hnow];simp only[rzC,qzC,evC]at hS htu htl⊢;simp only[k2]at htk htu
          as_aux_lemma =>
           repeat' with_reducible (first|refine ZR.h ?_|refine kI ?_|((first|refine kR hE ?_|refine kD hE Zq ?_);intro K hK;simp[hh,w1,w2,k2,hS0,hS1,hT0,hT1,hJ0,hJ1,hL0,hL1,hS02,hS12,hT02,hT12,hJ02,hJ12,hL02,hL12,hS03,hS13,hT03,hT13,hJ03,hJ13,hL03,hL13,hmt,htk,htu,htl];(repeat' (first|refine hK _ _ ?_|apply And.intro|(intro hc;try subst hc)))<;>(try clear hK K))|(refine kT (fun hc=>?_) (fun hc=>?_)<;>simp at hc<;>(try subst hc)))
           all_goals first|(show Zb _ _=true;kernel_rfl)|(simp;done)|(simp at *;omega)|((try simp[hh,w1,w2,k2,hS0,hS1,hT0,hT1,hJ0,hJ1,hL0,hL1,hS02,hS12,hT02,hT12,hJ02,hJ12,hL02,hL12,hS03,hS13,hT03,hT13,hJ03,hJ13,hL03,hL13]);refine Imp.aut ?_ ?_<;>simp[NLe,hh,w1,w2,k2,hS0,hS1,hT0,hT1,hJ0,hJ1,hL0,hL1,hS02,hS12,hT02,hT12,hJ02,hJ12,hL02,hL12,hS03,hS13,hT03,hT13,hJ03,hJ13,hL03,hL13])
        ·rw[if_pos he]
         simp only[rzC,qzC]at hS⊢;simp only[k2]at htk
         as_aux_lemma =>
          repeat' with_reducible (first|refine ZR.h ?_|refine kI ?_|((first|refine kR hE ?_|refine kD hE Zq ?_);intro K hK;simp[hh,w1,w2,k2,hS0,hS1,hT0,hT1,hJ0,hJ1,hL0,hL1,hmt,htk,he];(repeat' (first|refine hK _ _ ?_|apply And.intro|(intro hc;try subst hc)))<;>(try clear hK K))|(refine kT (fun hc=>?_) (fun hc=>?_)<;>simp at hc<;>(try subst hc)))
          all_goals first|(show Zb _ _=true;kernel_rfl)|(simp;done)|(simp at *;omega)|((try simp[hh,w1,w2,k2,hS0,hS1,hT0,hT1,hJ0,hJ1,hL0,hL1,he]);refine Imp.aut ?_ ?_<;>simp[NLe,hh,w1,w2,k2,hS0,hS1,hT0,hT1,hJ0,hJ1,hL0,hL1,he])
      ·have ht:XE Q R=(R,Q):=by unfold XE;rw[if_pos (.inr (.inl (by rw[if_neg w1];exact k2)))]
       rw[ht];simp only[rzC,qzC]at hS⊢
       as_aux_lemma =>
        repeat' with_reducible (first|refine ZR.h ?_|refine kI ?_|((first|refine kR hE ?_|refine kD hE Zq ?_);intro K hK;simp[hS0,hS1,hT0,hT1,hJ0,hJ1,hL0,hL1,hh,w1,k2];(repeat' (first|refine hK _ _ ?_|apply And.intro|(intro hc;try subst hc)))<;>(try clear hK K))|(refine kT (fun hc=>?_) (fun hc=>?_)<;>simp at hc<;>(try subst hc)))
        all_goals first|(show Zb _ _=true;kernel_rfl)|(simp;done)|(simp at *;omega)|((try simp[hS0,hS1,hT0,hT1,hJ0,hJ1,hL0,hL1,hh,w1,k2]);refine Imp.aut ?_ ?_<;>simp[NLe,hS0,hS1,hT0,hT1,hJ0,hJ1,hL0,hL1,hh,w1,k2])
   ·cases h
  ·cases h
 ·cases h
set_option maxHeartbeats 8000000
def d48:List AV→Option Ans
 | [.op _ (.int .i64 sw :: .int .i64 sp :: r),.op _ q]=>(match Zje r,Zay q with
  | some R,some Q=>if okR R=true∧okQ Q=true∧smQ Q=true∧0≤R.x∧R.x<Q.a*Q.b then some ⟨.tup [],[.cells 0 (.int .i64 sw :: .int .i64 sp :: rzC (T7 Q R).1),.cells 0 (qzC (T7 Q R).2)]⟩ else none
  | _,_=>none)
 | _=>none
theorem ok48:NOk [(45,true),(13,true)] d48:=by
 intro xs aa h;unfold d48 at h;split at h
 ·rename_i t1 sw sp r t2 q
  split at h
  ·rename_i R Q hR hQ
   split at h
   ·rename_i hc
    obtain rfl:=Yv hQ;obtain rfl:=Ux hR;injection h with h;subst h;have hok:=hc.2.1;have q8:=(Zr hok).2.2.2.2.2.2.2.1;have q82:=(Zr (yo hok R)).2.2.2.2.2.2.2.1;refine ⟨Zp ?_,?_⟩
    ·simp[Y3 Q q8,YA Q q8,YA _ q82,X3,X6]
    ·simp
   ·cases h
  ·cases h
 ·cases h
theorem s48:Sound Tryz.prog 48 (Zhh 2 [(45,true),(13,true)] d48 ok48):=by
 refine yn (D:=2) (ac:=?ac) (res:=?res) Tryz.func48 (by kernel_rfl) (ha:=?ha) (hk:=?hk) (hok:=ok48) (fun xs a h=>?_) fun xs a h w0 S hS=>?_
 case ha=>conv=>lhs;cbv
 case hk=>kernel_rfl
 ·unfold d48 at h
  (repeat' (split at h))<;>first|(cases h;done)|exact Nat.le_of_ble_eq_true rfl
 unfold d48 at h;split at h
 ·rename_i t1 sw sp r t2 q
  split at h
  ·rename_i R Q hR hQ
   split at h
   ·rename_i hcond
    obtain rfl:=Yv hQ;obtain rfl:=Ux hR;injection h with h;subst h;clear hQ hR;have hE:Zd Tryz.prog (EL [(87,rdS d87 ok87),(46,Zm [(13,true)] d46 ok46),(67,Zm [(13,true)] d67 ok67)]):=Ze (by simp only[List.mem_cons,List.not_mem_nil,or_false,forall_eq_or_imp,forall_eq];exact ⟨s87,s46,s67⟩);obtain ⟨hr,hok,hsm,x0',x1'⟩:=hcond;have hS0:=Z4 Q.S;have hS1:=Z5 Q.S;have hT0:=Z7 Q.T;have hT1:=Z6 Q.T;have hJ0:=Z1 Q.J;have hJ1:=Z0 Q.J;obtain ⟨q1,q2,q3,q4,q5,q6,q7,q8,q9⟩:=Zr hok;have hL0:=ZC q8;have hL1:=ZD q8;obtain ⟨r1,r2,r3,r4,r5,r6,p1,p2,p3,p4⟩:=yh hr;obtain ⟨y1,y2,y3,y4,y5,y6⟩:=yK r3;by_cases hh:R.held=false
    ·have ht:T7 Q R=(R,Q):=by unfold T7;rw[if_pos (.inl hh)]
     rw[ht];simp only[rzC,qzC]at hS⊢
     repeat' with_reducible (first|refine ZR.h ?_|refine kI ?_|((first|refine kR hE ?_|refine kD hE Zq ?_);intro K hK;simp[hS0,hS1,hT0,hT1,hJ0,hJ1,hL0,hL1,hh];(repeat' (first|refine hK _ _ ?_|apply And.intro|(intro hc;try subst hc)))<;>(try clear hK K))|(refine kT (fun hc=>?_) (fun hc=>?_)<;>simp at hc<;>(try subst hc)))
     all_goals first|(show Zb _ _=true;kernel_rfl)|(simp;done)|(simp at *;omega)|((try simp[hS0,hS1,hT0,hT1,hJ0,hJ1,hL0,hL1,hh]);refine Imp.aut ?_ ?_<;>simp[NLe,hS0,hS1,hT0,hT1,hJ0,hJ1,hL0,hL1,hh])
    ·have hh:R.held=true:=by simpa using hh
     by_cases hf:R.free=true
     ·have ht:T7 Q R=(R,Q):=by unfold T7;rw[if_pos (.inr hf)]
      rw[ht];simp only[rzC,qzC]at hS⊢
      repeat' with_reducible (first|refine ZR.h ?_|refine kI ?_|((first|refine kR hE ?_|refine kD hE Zq ?_);intro K hK;simp[hS0,hS1,hT0,hT1,hJ0,hJ1,hL0,hL1,hh,hf];(repeat' (first|refine hK _ _ ?_|apply And.intro|(intro hc;try subst hc)))<;>(try clear hK K))|(refine kT (fun hc=>?_) (fun hc=>?_)<;>simp at hc<;>(try subst hc)))
      all_goals first|(show Zb _ _=true;kernel_rfl)|(simp;done)|(simp at *;omega)|((try simp[hS0,hS1,hT0,hT1,hJ0,hJ1,hL0,hL1,hh,hf]);refine Imp.aut ?_ ?_<;>simp[NLe,hS0,hS1,hT0,hT1,hJ0,hJ1,hL0,hL1,hh,hf])
     ·have hf:R.free=false:=by simpa using hf
      by_cases hm:R.made=true
      ·
       have hqy:(if R.made=true then R.q else 0)=R.q:=by rw[hm];rfl
       have hrl:d87 [stA R.sx,.int .i64 (R.q),.int .i64 Q.f] []=some (.tup [stA (Zh R.sx (R.q) Q.f).1,.int .i64 (Zh R.sx (R.q) Q.f).2]):=by
        simp only[d87,stA];rw[if_pos ⟨y3,y4,y5,y6⟩]
       unfold T7
       rw[if_neg (by simp[hh,hf]),hqy]
       obtain ⟨⟨ts,te⟩,hts⟩:∃ z,Zh R.sx (R.q) Q.f=z:=⟨_,rfl⟩
       rw[hts]at hrl⊢
       simp only[stA]at hrl⊢
       by_cases he:te=0
       ·subst he
        rw[if_neg (by simp)];have htu:=fun u=>e46 hok hsm x0' x1' R.sx ts u;have hok2:=Ye hok R.x R.sx ts;obtain ⟨⟨tb,Q2⟩,hq2⟩:∃ z,ZO Q R.x R.sx ts=z:=⟨_,rfl⟩;have hsm2:Zhq Q2=true:=(by have:=UC hsm R.x R.sx ts;rw[hq2]at this;exact this);rw[hq2]at htu hok2⊢;simp only[stA]at htu hok2⊢;have q82:=(Zr hok2).2.2.2.2.2.2.2.1;have hS02:=Z4 Q2.S;have hS12:=Z5 Q2.S;have hT02:=Z7 Q2.T;have hT12:=Z6 Q2.T;have hJ02:=Z1 Q2.J;have hJ12:=Z0 Q2.J;have hL02:=ZC q82;have hL12:=ZD q82;cases tb
        ·rw[if_pos rfl]
         simp only[rzC,qzC]at hS htu⊢
         repeat' with_reducible (first|refine ZR.h ?_|refine kI ?_|((first|refine kR hE ?_|refine kD hE Zq ?_);intro K hK;simp[hh,hf,hm,hS0,hS1,hT0,hT1,hJ0,hJ1,hL0,hL1,hS02,hS12,hT02,hT12,hJ02,hJ12,hL02,hL12,hrl,htu];(repeat' (first|refine hK _ _ ?_|apply And.intro|(intro hc;try subst hc)))<;>(try clear hK K))|(refine kT (fun hc=>?_) (fun hc=>?_)<;>simp at hc<;>(try subst hc)))
         all_goals first|(show Zb _ _=true;kernel_rfl)|(simp;done)|(simp at *;omega)|((try simp[hh,hf,hm,hS0,hS1,hT0,hT1,hJ0,hJ1,hL0,hL1,hS02,hS12,hT02,hT12,hJ02,hJ12,hL02,hL12]);refine Imp.aut ?_ ?_<;>simp[NLe,hh,hf,hm,hS0,hS1,hT0,hT1,hJ0,hJ1,hL0,hL1,hS02,hS12,hT02,hT12,hJ02,hJ12,hL02,hL12])
        ·rw[if_neg (by simp)]
         have hnow:Q2.now=Q.now:=(by have:=VB Q R.x R.sx ts;rw[hq2]at this;exact this);by_cases h5:5≤ts.k
         ·rw[if_pos h5]
          have htl:=fun u=>e67 hok2 hsm2 7 R.x ts.g 0 0 0 0 0 ts.k u;have hok3:=XB hok2 7 R.x ts.g 0 0 0 0 ts.k;obtain ⟨Q3,hq3⟩:∃ z,U5 Q2 7 R.x ts.g 0 0 0 0 ts.k=z:=⟨_,rfl⟩;rw[hq3]at htl hok3⊢;have q83:=(Zr hok3).2.2.2.2.2.2.2.1;have hS03:=Z4 Q3.S;have hS13:=Z5 Q3.S;have hT03:=Z7 Q3.T;have hT13:=Z6 Q3.T;have hJ03:=Z1 Q3.J;have hJ13:=Z0 Q3.J;have hL03:=ZC q83;have hL13:=ZD q83;rw[← hnow];simp only[rzC,qzC,evC]at hS htu htl⊢
          repeat' with_reducible (first|refine ZR.h ?_|refine kI ?_|((first|refine kR hE ?_|refine kD hE Zq ?_);intro K hK;simp[hh,hf,hm,hS0,hS1,hT0,hT1,hJ0,hJ1,hL0,hL1,hS02,hS12,hT02,hT12,hJ02,hJ12,hL02,hL12,hS03,hS13,hT03,hT13,hJ03,hJ13,hL03,hL13,hrl,htu,htl,h5];(repeat' (first|refine hK _ _ ?_|apply And.intro|(intro hc;try subst hc)))<;>(try clear hK K))|(refine kT (fun hc=>?_) (fun hc=>?_)<;>simp at hc<;>(try subst hc)))
          all_goals first|(show Zb _ _=true;kernel_rfl)|(simp;done)|(simp at *;omega)|((try simp[hh,hf,hm,hS0,hS1,hT0,hT1,hJ0,hJ1,hL0,hL1,hS02,hS12,hT02,hT12,hJ02,hJ12,hL02,hL12,hS03,hS13,hT03,hT13,hJ03,hJ13,hL03,hL13]);refine Imp.aut ?_ ?_<;>simp[NLe,hh,hf,hm,hS0,hS1,hT0,hT1,hJ0,hJ1,hL0,hL1,hS02,hS12,hT02,hT12,hJ02,hJ12,hL02,hL12,hS03,hS13,hT03,hT13,hJ03,hJ13,hL03,hL13])
         ·rw[if_neg h5]
          rw[← hnow];simp only[rzC,qzC]at hS htu⊢
          repeat' with_reducible (first|refine ZR.h ?_|refine kI ?_|((first|refine kR hE ?_|refine kD hE Zq ?_);intro K hK;simp[hh,hf,hm,hS0,hS1,hT0,hT1,hJ0,hJ1,hL0,hL1,hS02,hS12,hT02,hT12,hJ02,hJ12,hL02,hL12,hrl,htu,h5];(repeat' (first|refine hK _ _ ?_|apply And.intro|(intro hc;try subst hc)))<;>(try clear hK K))|(refine kT (fun hc=>?_) (fun hc=>?_)<;>simp at hc<;>(try subst hc)))
          all_goals first|(show Zb _ _=true;kernel_rfl)|(simp;done)|(simp at *;omega)|((try simp[hh,hf,hm,hS0,hS1,hT0,hT1,hJ0,hJ1,hL0,hL1,hS02,hS12,hT02,hT12,hJ02,hJ12,hL02,hL12]);refine Imp.aut ?_ ?_<;>simp[NLe,hh,hf,hm,hS0,hS1,hT0,hT1,hJ0,hJ1,hL0,hL1,hS02,hS12,hT02,hT12,hJ02,hJ12,hL02,hL12])
       ·rw[if_pos he]
        simp only[rzC,qzC]at hS⊢
        repeat' with_reducible (first|refine ZR.h ?_|refine kI ?_|((first|refine kR hE ?_|refine kD hE Zq ?_);intro K hK;simp[hh,hf,hm,hS0,hS1,hT0,hT1,hJ0,hJ1,hL0,hL1,hrl,he];(repeat' (first|refine hK _ _ ?_|apply And.intro|(intro hc;try subst hc)))<;>(try clear hK K))|(refine kT (fun hc=>?_) (fun hc=>?_)<;>simp at hc<;>(try subst hc)))
        all_goals first|(show Zb _ _=true;kernel_rfl)|(simp;done)|(simp at *;omega)|((try simp[hh,hf,hm,hS0,hS1,hT0,hT1,hJ0,hJ1,hL0,hL1,he]);refine Imp.aut ?_ ?_<;>simp[NLe,hh,hf,hm,hS0,hS1,hT0,hT1,hJ0,hJ1,hL0,hL1,he])
      ·have hm:R.made=false:=by simpa using hm
       have hqy:(if R.made=true then R.q else 0)=0:=(by rw[hm];rfl);have hrl:d87 [stA R.sx,.int .i64 (0),.int .i64 Q.f] []=some (.tup [stA (Zh R.sx (0) Q.f).1,.int .i64 (Zh R.sx (0) Q.f).2]):=by
        simp only[d87,stA];rw[if_pos ⟨y3,y4,y5,y6⟩]
       unfold T7;rw[if_neg (by simp[hh,hf]),hqy];obtain ⟨⟨ts,te⟩,hts⟩:∃ z,Zh R.sx (0) Q.f=z:=⟨_,rfl⟩;rw[hts]at hrl⊢;simp only[stA]at hrl⊢;by_cases he:te=0
       ·subst he
        rw[if_neg (by simp)];have htu:=fun u=>e46 hok hsm x0' x1' R.sx ts u;have hok2:=Ye hok R.x R.sx ts;obtain ⟨⟨tb,Q2⟩,hq2⟩:∃ z,ZO Q R.x R.sx ts=z:=⟨_,rfl⟩;have hsm2:Zhq Q2=true:=(by have:=UC hsm R.x R.sx ts;rw[hq2]at this;exact this);rw[hq2]at htu hok2⊢;simp only[stA]at htu hok2⊢;have q82:=(Zr hok2).2.2.2.2.2.2.2.1;have hS02:=Z4 Q2.S;have hS12:=Z5 Q2.S;have hT02:=Z7 Q2.T;have hT12:=Z6 Q2.T;have hJ02:=Z1 Q2.J;have hJ12:=Z0 Q2.J;have hL02:=ZC q82;have hL12:=ZD q82;cases tb
        ·rw[if_pos rfl]
         simp only[rzC,qzC]at hS htu⊢
         repeat' with_reducible (first|refine ZR.h ?_|refine kI ?_|((first|refine kR hE ?_|refine kD hE Zq ?_);intro K hK;simp[hh,hf,hm,hS0,hS1,hT0,hT1,hJ0,hJ1,hL0,hL1,hS02,hS12,hT02,hT12,hJ02,hJ12,hL02,hL12,hrl,htu];(repeat' (first|refine hK _ _ ?_|apply And.intro|(intro hc;try subst hc)))<;>(try clear hK K))|(refine kT (fun hc=>?_) (fun hc=>?_)<;>simp at hc<;>(try subst hc)))
         all_goals first|(show Zb _ _=true;kernel_rfl)|(simp;done)|(simp at *;omega)|((try simp[hh,hf,hm,hS0,hS1,hT0,hT1,hJ0,hJ1,hL0,hL1,hS02,hS12,hT02,hT12,hJ02,hJ12,hL02,hL12]);refine Imp.aut ?_ ?_<;>simp[NLe,hh,hf,hm,hS0,hS1,hT0,hT1,hJ0,hJ1,hL0,hL1,hS02,hS12,hT02,hT12,hJ02,hJ12,hL02,hL12])
        ·rw[if_neg (by simp)]
         have hnow:Q2.now=Q.now:=(by have:=VB Q R.x R.sx ts;rw[hq2]at this;exact this);by_cases h5:5≤ts.k
         ·rw[if_pos h5]
          have htl:=fun u=>e67 hok2 hsm2 7 R.x ts.g 0 0 0 0 0 ts.k u;have hok3:=XB hok2 7 R.x ts.g 0 0 0 0 ts.k;obtain ⟨Q3,hq3⟩:∃ z,U5 Q2 7 R.x ts.g 0 0 0 0 ts.k=z:=⟨_,rfl⟩;rw[hq3]at htl hok3⊢;have q83:=(Zr hok3).2.2.2.2.2.2.2.1;have hS03:=Z4 Q3.S;have hS13:=Z5 Q3.S;have hT03:=Z7 Q3.T;have hT13:=Z6 Q3.T;have hJ03:=Z1 Q3.J;have hJ13:=Z0 Q3.J;have hL03:=ZC q83;have hL13:=ZD q83;rw[← hnow];simp only[rzC,qzC,evC]at hS htu htl⊢
          repeat' with_reducible (first|refine ZR.h ?_|refine kI ?_|((first|refine kR hE ?_|refine kD hE Zq ?_);intro K hK;simp[hh,hf,hm,hS0,hS1,hT0,hT1,hJ0,hJ1,hL0,hL1,hS02,hS12,hT02,hT12,hJ02,hJ12,hL02,hL12,hS03,hS13,hT03,hT13,hJ03,hJ13,hL03,hL13,hrl,htu,htl,h5];(repeat' (first|refine hK _ _ ?_|apply And.intro|(intro hc;try subst hc)))<;>(try clear hK K))|(refine kT (fun hc=>?_) (fun hc=>?_)<;>simp at hc<;>(try subst hc)))
          all_goals first|(show Zb _ _=true;kernel_rfl)|(simp;done)|(simp at *;omega)|((try simp[hh,hf,hm,hS0,hS1,hT0,hT1,hJ0,hJ1,hL0,hL1,hS02,hS12,hT02,hT12,hJ02,hJ12,hL02,hL12,hS03,hS13,hT03,hT13,hJ03,hJ13,hL03,hL13]);refine Imp.aut ?_ ?_<;>simp[NLe,hh,hf,hm,hS0,hS1,hT0,hT1,hJ0,hJ1,hL0,hL1,hS02,hS12,hT02,hT12,hJ02,hJ12,hL02,hL12,hS03,hS13,hT03,hT13,hJ03,hJ13,hL03,hL13])
         ·rw[if_neg h5]
          rw[← hnow];simp only[rzC,qzC]at hS htu⊢
          repeat' with_reducible (first|refine ZR.h ?_|refine kI ?_|((first|refine kR hE ?_|refine kD hE Zq ?_);intro K hK;simp[hh,hf,hm,hS0,hS1,hT0,hT1,hJ0,hJ1,hL0,hL1,hS02,hS12,hT02,hT12,hJ02,hJ12,hL02,hL12,hrl,htu,h5];(repeat' (first|refine hK _ _ ?_|apply And.intro|(intro hc;try subst hc)))<;>(try clear hK K))|(refine kT (fun hc=>?_) (fun hc=>?_)<;>simp at hc<;>(try subst hc)))
          all_goals first|(show Zb _ _=true;kernel_rfl)|(simp;done)|(simp at *;omega)|((try simp[hh,hf,hm,hS0,hS1,hT0,hT1,hJ0,hJ1,hL0,hL1,hS02,hS12,hT02,hT12,hJ02,hJ12,hL02,hL12]);refine Imp.aut ?_ ?_<;>simp[NLe,hh,hf,hm,hS0,hS1,hT0,hT1,hJ0,hJ1,hL0,hL1,hS02,hS12,hT02,hT12,hJ02,hJ12,hL02,hL12])
       ·rw[if_pos he]
        simp only[rzC,qzC]at hS⊢
        repeat' with_reducible (first|refine ZR.h ?_|refine kI ?_|((first|refine kR hE ?_|refine kD hE Zq ?_);intro K hK;simp[hh,hf,hm,hS0,hS1,hT0,hT1,hJ0,hJ1,hL0,hL1,hrl,he];(repeat' (first|refine hK _ _ ?_|apply And.intro|(intro hc;try subst hc)))<;>(try clear hK K))|(refine kT (fun hc=>?_) (fun hc=>?_)<;>simp at hc<;>(try subst hc)))
        all_goals first|(show Zb _ _=true;kernel_rfl)|(simp;done)|(simp at *;omega)|((try simp[hh,hf,hm,hS0,hS1,hT0,hT1,hJ0,hJ1,hL0,hL1,he]);refine Imp.aut ?_ ?_<;>simp[NLe,hh,hf,hm,hS0,hS1,hT0,hT1,hJ0,hJ1,hL0,hL1,he])
   ·cases h
  ·cases h
 ·cases h
end Go.W
