/- A part of the proofs about the pair's laws (RaH, PsO, PsQ). -/
import Derived.Test.YtidbbnkpglggdaaGreatRaG
import Derived.Test.YtidbbnkpglggdaaGreatPsN
namespace Go.W
open Go.Proofs
set_option linter.unusedSimpArgs false
set_option linter.unusedVariables false
set_option maxHeartbeats 200000000
set_option maxRecDepth 100000
attribute [local irreducible] Wm WmA
attribute [local simp] YP lkp Vq prs V9 prT ddL idL Yy Ue Ren Ve NObj.none ZT
def d10:List AV→Option Ans
 | [.op _ (.int .i64 sw :: .int .i64 sp :: r),.op _ q]=>(match Zje r,Zay q with
  | some R,some Q=>if okR R=true∧okQ Q=true∧smQ Q=true∧ZfC Q R=true then some ⟨.tup [],[.cells 0 (.int .i64 sw :: .int .i64 sp :: rzC (ZG Q R).1),.cells 0 (qzC (ZG Q R).2)]⟩ else none
  | _,_=>none)
 | _=>none
theorem ok10:NOk [(45,true),(13,true)] d10:=by
 intro xs aa h;unfold d10 at h;split at h
 ·rename_i t1 sw sp r t2 q
  split at h
  ·rename_i R Q hR hQ
   split at h
   ·rename_i hc
    obtain rfl:=Yv hQ;obtain rfl:=Ux hR;injection h with h;subst h;have hok:=hc.2.1;have q8:=(Zr hok).2.2.2.2.2.2.2.1;have q82:=(Zr (xJ hok R)).2.2.2.2.2.2.2.1;refine ⟨Zp ?_,?_⟩
    ·simp[Y3 Q q8,YA Q q8,YA _ q82,X3,X6]
    ·simp
   ·cases h
  ·cases h
 ·cases h
theorem s10:Sound Tryz.prog 10 (Zhh 2 [(45,true),(13,true)] d10 ok10):=by
 refine yn (D:=2) (ac:=?ac) (res:=?res) Tryz.func10 (by kernel_rfl) (ha:=?ha) (hk:=?hk) (hok:=ok10) (fun xs a h=>?_) fun xs a h w0 S hS=>?_
 case ha=>conv=>lhs;cbv
 case hk=>kernel_rfl
 ·unfold d10 at h
  (repeat' (split at h))<;>first|(cases h;done)|exact Nat.le_of_ble_eq_true rfl
 unfold d10 at h;split at h
 ·rename_i t1 sw sp r t2 q
  split at h
  ·rename_i R Q hR hQ
   split at h
   ·rename_i hcond
    obtain rfl:=Yv hQ;obtain rfl:=Ux hR;injection h with h;subst h;clear hQ hR;have hE:=X4;obtain ⟨hr,hok,hsm,hnt⟩:=hcond;have hS0:=Z4 Q.S;have hS1:=Z5 Q.S;have hT0:=Z7 Q.T;have hT1:=Z6 Q.T;have hJ0:=Z1 Q.J;have hJ1:=Z0 Q.J;obtain ⟨q1,q2,q3,q4,q5,q6,q7,q8,q9⟩:=Zr hok;have hL0:=ZC q8;have hL1:=ZD q8;obtain ⟨r1,r2,r3,r4,r5,r6,p1,p2,p3,p4⟩:=yh hr;have hn:=fun hi=>Zh4 hnt hi;have hcf:=ZE q1;have hall:=ZB q1;have hSl:=Uk Q.S;have wp:IntKind.wrap .i64 (R.pc+1)=R.pc+1:=Zg (by omega) (by omega);have wm:IntKind.wrap .i64 (R.pc+1 - 1)=R.pc:=(by rw[Zg (by omega) (by omega)];omega);have wq:IntKind.wrap .i64 R.pc=R.pc:=Zg (by omega) (by omega);have hS2:S.m=2:=(by rw[hS];rfl);by_cases h14:14≤R.pc
    ·have ht:ZG Q R=(R,Q):=by unfold ZG;rw[if_pos h14]
     rw[ht];simp only[rzC,qzC]at hS⊢
     repeat' with_reducible (first|refine ZR.h ?_|refine kI ?_|((first|refine kR hE ?_|refine kD hE Zq ?_);intro K hK;simp[ELt,                                                 hS0,hS1,hT0,hT1,hJ0,hJ1,hL0,hL1,wp,wm,wq,hSl,h14];(repeat' (first|refine hK _ _ ?_|apply And.intro|(intro hc;try subst hc)))<;>(try clear hK K))|(refine kT (fun hc=>?_) (fun hc=>?_)<;>simp at hc<;>(try subst hc)))
     all_goals try (show Zb _ _=true;kernel_rfl)
     all_goals first|(show Zb _ _=true;kernel_rfl)|(simp;done)|(simp at *;omega)|((try simp[hS0,hS1,hT0,hT1,hJ0,hJ1,hL0,hL1,wp,wm,wq,hSl,h14]);refine Imp.aut ?_ ?_<;>simp[NLe,hS0,hS1,hT0,hT1,hJ0,hJ1,hL0,hL1,wp,wm,wq,hSl,h14])
    ·by_cases i1:R.x<0
     ·
      have ht:ZG Q R=({ R with pc:=R.pc+1 },Q):=by
       have hi:Zak Q R=true:=decide_eq_true (.inl i1);unfold ZG;rw[if_neg h14,if_pos hi]
      rw[ht]
      simp only[rzC,qzC]at hS⊢
      repeat' with_reducible (first|refine ZR.h ?_|refine kI ?_|((first|refine kR hE ?_|refine kD hE Zq ?_);intro K hK;simp[ELt,                                                 hS0,hS1,hT0,hT1,hJ0,hJ1,hL0,hL1,wp,wm,wq,hSl,h14,i1];(repeat' (first|refine hK _ _ ?_|apply And.intro|(intro hc;try subst hc)))<;>(try clear hK K))|(refine kT (fun hc=>?_) (fun hc=>?_)<;>simp at hc<;>(try subst hc)))
      all_goals try (show Zb _ _=true;kernel_rfl)
      all_goals first|(show Zb _ _=true;kernel_rfl)|(simp;done)|(simp at *;omega)|((try simp[hS0,hS1,hT0,hT1,hJ0,hJ1,hL0,hL1,wp,wm,wq,hSl]);refine Imp.aut ?_ ?_<;>simp[NLe,hS0,hS1,hT0,hT1,hJ0,hJ1,hL0,hL1,wp,wm,wq,hSl])
     ·by_cases i2:(Q.S.length:Int)≤R.x
      ·
       have ht:ZG Q R=({ R with pc:=R.pc+1 },Q):=by
        have hi:Zak Q R=true:=decide_eq_true (.inr (.inl (by omega)));unfold ZG;rw[if_neg h14,if_pos hi]
       rw[ht]
       simp only[rzC,qzC]at hS⊢
       repeat' with_reducible (first|refine ZR.h ?_|refine kI ?_|((first|refine kR hE ?_|refine kD hE Zq ?_);intro K hK;simp[ELt,                                                 hS0,hS1,hT0,hT1,hJ0,hJ1,hL0,hL1,wp,wm,wq,hSl,h14,i1,i2];(repeat' (first|refine hK _ _ ?_|apply And.intro|(intro hc;try subst hc)))<;>(try clear hK K))|(refine kT (fun hc=>?_) (fun hc=>?_)<;>simp at hc<;>(try subst hc)))
       all_goals try (show Zb _ _=true;kernel_rfl)
       all_goals first|(show Zb _ _=true;kernel_rfl)|(simp;done)|(simp at *;omega)|((try simp[hS0,hS1,hT0,hT1,hJ0,hJ1,hL0,hL1,wp,wm,wq,hSl]);refine Imp.aut ?_ ?_<;>simp[NLe,hS0,hS1,hT0,hT1,hJ0,hJ1,hL0,hL1,wp,wm,wq,hSl])
      ·by_cases i3:R.y<0
       ·
        have ht:ZG Q R=({ R with pc:=R.pc+1 },Q):=by
         have hi:Zak Q R=true:=decide_eq_true (.inr (.inr (.inl i3)));unfold ZG;rw[if_neg h14,if_pos hi]
        rw[ht]
        simp only[rzC,qzC]at hS⊢
        repeat' with_reducible (first|refine ZR.h ?_|refine kI ?_|((first|refine kR hE ?_|refine kD hE Zq ?_);intro K hK;simp[ELt,                                                 hS0,hS1,hT0,hT1,hJ0,hJ1,hL0,hL1,wp,wm,wq,hSl,h14,i1,i2,i3];(repeat' (first|refine hK _ _ ?_|apply And.intro|(intro hc;try subst hc)))<;>(try clear hK K))|(refine kT (fun hc=>?_) (fun hc=>?_)<;>simp at hc<;>(try subst hc)))
        all_goals try (show Zb _ _=true;kernel_rfl)
        all_goals first|(show Zb _ _=true;kernel_rfl)|(simp;done)|(simp at *;omega)|((try simp[hS0,hS1,hT0,hT1,hJ0,hJ1,hL0,hL1,wp,wm,wq,hSl]);refine Imp.aut ?_ ?_<;>simp[NLe,hS0,hS1,hT0,hT1,hJ0,hJ1,hL0,hL1,wp,wm,wq,hSl])
       ·by_cases i4:(Q.S.length:Int)≤R.y
        ·
         have ht:ZG Q R=({ R with pc:=R.pc+1 },Q):=by
          have hi:Zak Q R=true:=decide_eq_true (.inr (.inr (.inr (.inl (by omega)))));unfold ZG;rw[if_neg h14,if_pos hi]
         rw[ht]
         simp only[rzC,qzC]at hS⊢
         repeat' with_reducible (first|refine ZR.h ?_|refine kI ?_|((first|refine kR hE ?_|refine kD hE Zq ?_);intro K hK;simp[ELt,                                                 hS0,hS1,hT0,hT1,hJ0,hJ1,hL0,hL1,wp,wm,wq,hSl,h14,i1,i2,i3,i4];(repeat' (first|refine hK _ _ ?_|apply And.intro|(intro hc;try subst hc)))<;>(try clear hK K))|(refine kT (fun hc=>?_) (fun hc=>?_)<;>simp at hc<;>(try subst hc)))
         all_goals try (show Zb _ _=true;kernel_rfl)
         all_goals first|(show Zb _ _=true;kernel_rfl)|(simp;done)|(simp at *;omega)|((try simp[hS0,hS1,hT0,hT1,hJ0,hJ1,hL0,hL1,wp,wm,wq,hSl]);refine Imp.aut ?_ ?_<;>simp[NLe,hS0,hS1,hT0,hT1,hJ0,hJ1,hL0,hL1,wp,wm,wq,hSl])
        ·have t1:IntKind.wrap .i64 (R.x.tdiv Q.b)=R.x / Q.b:=Xq (by omega) (by omega) (by omega)
         have t2:IntKind.wrap .i64 (R.y.tdiv Q.b)=R.y / Q.b:=Xq (by omega) (by omega) (by omega);have b0:¬ Q.b=0:=(by omega);by_cases i5:R.x / Q.b=R.y / Q.b
         ·
          have ht:ZG Q R=({ R with pc:=R.pc+1 },Q):=by
           have hi:Zak Q R=true:=decide_eq_true (.inr (.inr (.inr (.inr i5))));unfold ZG;rw[if_neg h14,if_pos hi]
          rw[ht]
          simp only[rzC,qzC]at hS⊢
          repeat' with_reducible (first|refine ZR.h ?_|refine kI ?_|((first|refine kR hE ?_|refine kD hE Zq ?_);intro K hK;simp[ELt,                                                 hS0,hS1,hT0,hT1,hJ0,hJ1,hL0,hL1,wp,wm,wq,hSl,h14,i1,i2,i3,i4,b0,t1,t2,i5];(repeat' (first|refine hK _ _ ?_|apply And.intro|(intro hc;try subst hc)))<;>(try clear hK K))|(refine kT (fun hc=>?_) (fun hc=>?_)<;>simp at hc<;>(try subst hc)))
          all_goals try (show Zb _ _=true;kernel_rfl)
          all_goals first|(show Zb _ _=true;kernel_rfl)|(simp;done)|(simp at *;omega)|((try simp[hS0,hS1,hT0,hT1,hJ0,hJ1,hL0,hL1,wp,wm,wq,hSl]);refine Imp.aut ?_ ?_<;>simp[NLe,hS0,hS1,hT0,hT1,hJ0,hJ1,hL0,hL1,wp,wm,wq,hSl])
         ·have hid:Zak Q R=false:=by
           refine decide_eq_false ?_;rintro (h|h|h|h|h)
           ·exact i1 h
           ·omega
           ·exact i3 h
           ·omega
           ·exact i5 h
          obtain ⟨x0,x1,y0,y1,_⟩:=Zef hid;have hr':okR { R with pc:=R.pc+1 }=true:=decide_eq_true ⟨by show 0≤R.pc+1;omega,by show R.pc+1≤1000000;omega,r3,r4,r5,r6,p1,p2,p3,p4⟩;have hM:Xl=Xl:=rfl
          conv at hM=>rhs;unfold Xl;cbv
          rw[← hM];clear hM;simp only[rzC,qzC]
          repeat' with_reducible (first|refine ZR.h ?_|refine kI ?_|((first|refine kR hE ?_|refine kD hE Zq ?_);intro K hK;simp[ELt,                                                 hS0,hS1,hT0,hT1,hJ0,hJ1,hL0,hL1,wp,wm,wq,hSl,h14,i1,i2,i3,i4,b0,t1,t2,i5];(repeat' (first|refine hK _ _ ?_|apply And.intro|(intro hc;try subst hc)))<;>(try clear hK K))|(refine kT (fun hc=>?_) (fun hc=>?_)<;>simp at hc<;>(try subst hc)))
          all_goals try (show Zb _ _=true;kernel_rfl)
          all_goals try refine vF ?_
          all_goals rcases (show R.pc=0∨R.pc=1∨R.pc=2∨R.pc=3∨R.pc=4∨R.pc=5∨R.pc=6∨R.pc=7∨R.pc=8∨R.pc=9∨R.pc=10∨R.pc=11∨R.pc=12∨R.pc=13 by omega) with hk|hk|hk|hk|hk|hk|hk|hk|hk|hk|hk|hk|hk|hk
          ·
           have ht:ZG Q R=c0R Q { R with pc:=R.pc+1 }:=by
            unfold ZG Uc;rw[if_neg h14,if_neg (by rw[hid];simp),hk];simp
           rw[ht]
           refine YZ ?_ (w10_0 (sw:=sw) (sp:=sp) (R:={ R with pc:=R.pc+1 }) (Q:=Q) ⟨hS2,hr',hok,hsm,x0,x1,y0,y1⟩ fun tl hl nb hI=>?_)
           ·rw[hS2]
            simp only[K10,rzC,qzC];refine Imp.aut ?_ ?_<;>simp[NLe,hS0,hS1,hT0,hT1,hJ0,hJ1,hL0,hL1,hk]
           ·simp only[rzC,qzC]at hI
            simpa using hI
          ·
           have ht:ZG Q R=c1R Q { R with pc:=R.pc+1 }:=by
            unfold ZG Uc;rw[if_neg h14,if_neg (by rw[hid];simp),hk];simp
           rw[ht]
           refine YZ ?_ (w10_1 (sw:=sw) (sp:=sp) (R:={ R with pc:=R.pc+1 }) (Q:=Q) ⟨hS2,hr',hok,hsm,x0,x1,y0,y1⟩ fun tl hl nb hI=>?_)
           ·rw[hS2]
            simp only[K10,rzC,qzC];refine Imp.aut ?_ ?_<;>simp[NLe,hS0,hS1,hT0,hT1,hJ0,hJ1,hL0,hL1,hk]
           ·simp only[rzC,qzC]at hI
            simpa using hI
          ·
           have ht:ZG Q R=c2R Q { R with pc:=R.pc+1 }:=by
            unfold ZG Uc;rw[if_neg h14,if_neg (by rw[hid];simp),hk];simp
           rw[ht]
           refine YZ ?_ (w10_2 (sw:=sw) (sp:=sp) (R:={ R with pc:=R.pc+1 }) (Q:=Q) ⟨hS2,hr',hok,hsm,x0,x1,y0,y1⟩ fun tl hl nb hI=>?_)
           ·rw[hS2]
            simp only[K10,rzC,qzC];refine Imp.aut ?_ ?_<;>simp[NLe,hS0,hS1,hT0,hT1,hJ0,hJ1,hL0,hL1,hk]
           ·simp only[rzC,qzC]at hI
            simpa using hI
          ·
           have ht:ZG Q R=c3R Q { R with pc:=R.pc+1 }:=by
            unfold ZG Uc;rw[if_neg h14,if_neg (by rw[hid];simp),hk];simp
           rw[ht]
           refine YZ ?_ (w10_3 (sw:=sw) (sp:=sp) (R:={ R with pc:=R.pc+1 }) (Q:=Q) ⟨hS2,hr',hok,hsm,x0,x1,y0,y1⟩ fun tl hl nb hI=>?_)
           ·rw[hS2]
            simp only[K10,rzC,qzC];refine Imp.aut ?_ ?_<;>simp[NLe,hS0,hS1,hT0,hT1,hJ0,hJ1,hL0,hL1,hk]
           ·simp only[rzC,qzC]at hI
            simpa using hI
          ·
           have ht:ZG Q R=c4R Q { R with pc:=R.pc+1 }:=by
            unfold ZG Uc;rw[if_neg h14,if_neg (by rw[hid];simp),hk];simp
           rw[ht]
           refine YZ ?_ (w10_4 (sw:=sw) (sp:=sp) (R:={ R with pc:=R.pc+1 }) (Q:=Q) ⟨hS2,hr',hok,hsm,x0,x1,y0,y1⟩ fun tl hl nb hI=>?_)
           ·rw[hS2]
            simp only[K10,rzC,qzC];refine Imp.aut ?_ ?_<;>simp[NLe,hS0,hS1,hT0,hT1,hJ0,hJ1,hL0,hL1,hk]
           ·simp only[rzC,qzC]at hI
            simpa using hI
          ·
           have ht:ZG Q R=XE Q { R with pc:=R.pc+1 }:=by
            unfold ZG Uc;rw[if_neg h14,if_neg (by rw[hid];simp),hk];simp
           rw[ht]
           refine YZ ?_ (w10_5 (sw:=sw) (sp:=sp) (R:={ R with pc:=R.pc+1 }) (Q:=Q) ⟨hS2,hr',hok,hsm,x0,x1,y0,y1⟩ fun tl hl nb hI=>?_)
           ·rw[hS2]
            simp only[K10,rzC,qzC];refine Imp.aut ?_ ?_<;>simp[NLe,hS0,hS1,hT0,hT1,hJ0,hJ1,hL0,hL1,hk]
           ·simp only[rzC,qzC]at hI
            simpa using hI
          ·
           have ht:ZG Q R=c6R Q { R with pc:=R.pc+1 }:=by
            unfold ZG Uc;rw[if_neg h14,if_neg (by rw[hid];simp),hk];simp
           rw[ht]
           refine YZ ?_ (w10_6 (sw:=sw) (sp:=sp) (R:={ R with pc:=R.pc+1 }) (Q:=Q) ⟨hS2,hr',hok,hsm,x0,x1,y0,y1⟩ fun tl hl nb hI=>?_)
           ·rw[hS2]
            simp only[K10,rzC,qzC];refine Imp.aut ?_ ?_<;>simp[NLe,hS0,hS1,hT0,hT1,hJ0,hJ1,hL0,hL1,hk]
           ·simp only[rzC,qzC]at hI
            simpa using hI
          ·
           have ht:ZG Q R=T7 Q { R with pc:=R.pc+1 }:=by
            unfold ZG Uc;rw[if_neg h14,if_neg (by rw[hid];simp),hk];simp
           rw[ht]
           refine YZ ?_ (w10_7 (sw:=sw) (sp:=sp) (R:={ R with pc:=R.pc+1 }) (Q:=Q) ⟨hS2,hr',hok,hsm,x0,x1,y0,y1⟩ fun tl hl nb hI=>?_)
           ·rw[hS2]
            simp only[K10,rzC,qzC];refine Imp.aut ?_ ?_<;>simp[NLe,hS0,hS1,hT0,hT1,hJ0,hJ1,hL0,hL1,hk]
           ·simp only[rzC,qzC]at hI
            simpa using hI
          ·
           have ht:ZG Q R=c6R Q { R with pc:=R.pc+1 }:=by
            unfold ZG Uc;rw[if_neg h14,if_neg (by rw[hid];simp),hk];simp
           rw[ht]
           refine YZ ?_ (w10_8 (sw:=sw) (sp:=sp) (R:={ R with pc:=R.pc+1 }) (Q:=Q) ⟨hS2,hr',hok,hsm,x0,x1,y0,y1⟩ fun tl hl nb hI=>?_)
           ·rw[hS2]
            simp only[K10,rzC,qzC];refine Imp.aut ?_ ?_<;>simp[NLe,hS0,hS1,hT0,hT1,hJ0,hJ1,hL0,hL1,hk]
           ·simp only[rzC,qzC]at hI
            simpa using hI
          ·
           have ht:ZG Q R=T7 Q { R with pc:=R.pc+1 }:=by
            unfold ZG Uc;rw[if_neg h14,if_neg (by rw[hid];simp),hk];simp
           rw[ht]
           refine YZ ?_ (w10_9 (sw:=sw) (sp:=sp) (R:={ R with pc:=R.pc+1 }) (Q:=Q) ⟨hS2,hr',hok,hsm,x0,x1,y0,y1⟩ fun tl hl nb hI=>?_)
           ·rw[hS2]
            simp only[K10,rzC,qzC];refine Imp.aut ?_ ?_<;>simp[NLe,hS0,hS1,hT0,hT1,hJ0,hJ1,hL0,hL1,hk]
           ·simp only[rzC,qzC]at hI
            simpa using hI
          ·
           have ht:ZG Q R=ZeL Q { R with pc:=R.pc+1 }:=by
            unfold ZG Uc;rw[if_neg h14,if_neg (by rw[hid];simp),hk];simp
           rw[ht]
           refine YZ ?_ (w10_10 (sw:=sw) (sp:=sp) (R:={ R with pc:=R.pc+1 }) (Q:=Q) ⟨hS2,hr',hok,hsm,x0,x1,y0,y1⟩ (fun a=>(hn hid).1 hk a) fun tl hl nb hI=>?_)
           ·rw[hS2]
            simp only[K10,rzC,qzC];refine Imp.aut ?_ ?_<;>simp[NLe,hS0,hS1,hT0,hT1,hJ0,hJ1,hL0,hL1,hk]
           ·simp only[rzC,qzC]at hI
            simpa using hI
          ·
           have ht:ZG Q R=ZeK Q { R with pc:=R.pc+1 }:=by
            unfold ZG Uc;rw[if_neg h14,if_neg (by rw[hid];simp),hk];simp
           rw[ht]
           refine YZ ?_ (w10_11 (sw:=sw) (sp:=sp) (R:={ R with pc:=R.pc+1 }) (Q:=Q) ⟨hS2,hr',hok,hsm,x0,x1,y0,y1⟩ (fun a=>(hn hid).2.1 hk a) fun tl hl nb hI=>?_)
           ·rw[hS2]
            simp only[K10,rzC,qzC];refine Imp.aut ?_ ?_<;>simp[NLe,hS0,hS1,hT0,hT1,hJ0,hJ1,hL0,hL1,hk]
           ·simp only[rzC,qzC]at hI
            simpa using hI
          ·
           have ht:ZG Q R=Zct Q { R with pc:=R.pc+1 }:=by
            unfold ZG Uc;rw[if_neg h14,if_neg (by rw[hid];simp),hk];simp
           rw[ht]
           refine YZ ?_ (w10_12 (sw:=sw) (sp:=sp) (R:={ R with pc:=R.pc+1 }) (Q:=Q) ⟨hS2,hr',hok,hsm,x0,x1,y0,y1⟩ (fun a b=>(hn hid).2.2.1 hk a b) fun tl hl nb hI=>?_)
           ·rw[hS2]
            simp only[K10,rzC,qzC];refine Imp.aut ?_ ?_<;>simp[NLe,hS0,hS1,hT0,hT1,hJ0,hJ1,hL0,hL1,hk]
           ·simp only[rzC,qzC]at hI
            simpa using hI
          ·
           have ht:ZG Q R=Zcu Q { R with pc:=R.pc+1 }:=by
            unfold ZG Uc;rw[if_neg h14,if_neg (by rw[hid];simp),hk];simp
           rw[ht]
           refine YZ ?_ (w10_13 (sw:=sw) (sp:=sp) (R:={ R with pc:=R.pc+1 }) (Q:=Q) ⟨hS2,hr',hok,hsm,x0,x1,y0,y1⟩ (fun a b=>(hn hid).2.2.2 hk a b) fun tl hl nb hI=>?_)
           ·rw[hS2]
            simp only[K10,rzC,qzC];refine Imp.aut ?_ ?_<;>simp[NLe,hS0,hS1,hT0,hT1,hJ0,hJ1,hL0,hL1,hk]
           ·simp only[rzC,qzC]at hI
            simpa using hI
   ·cases h
  ·cases h
 ·cases h
set_option maxHeartbeats 8000000
theorem stR (x:Int):0≤(Zc x).k∧(Zc x).k<16∧0≤(Zc x).g∧(Zc x).g<256∧0≤(Zc x).l∧(Zc x).l<65536∧0≤(Zc x).f∧(Zc x).f<256:=by
 have h1:=XM x 0 4;have h2:=XM x 5 8;have h3:=XM x 13 16;have h4:=XM x 29 8;simp only[Zc];omega
theorem Zft {s:StZ} (h:okS s=true):okS (YX s)=true:=by
 have:=UP h;unfold YX
 repeat' split
 all_goals exact decide_eq_true (by first|omega|(simp only;omega))
theorem vk {s:StZ} (h:okS s=true) (F:Int):okS (Z2 s F)=true:=by
 have:=UP h;unfold Z2
 repeat' split
 all_goals exact decide_eq_true (by first|omega|(simp only;omega))
theorem Zb3 {s:StZ} (h:okS s=true):okS (Z3 s)=true:=by
 have:=UP h;unfold Z3
 repeat' split
 all_goals exact decide_eq_true (by first|omega|(simp only;omega))
theorem Zby (x q F:Int):okS (Zz (Zc x) q F).1=true:=by
 have:=stR x;unfold Zz
 repeat' split
 all_goals first|(exact rfl)|skip
 exact vk (decide_eq_true (by simp only;omega)) F
theorem Zbz {s:StZ} (h:okS s=true) (F:Int):okS (Yz s F)=true:=by
 have h1:=vk (Zb3 h) F;have:=UP h1;unfold Yz;split
 ·exact decide_eq_true (by simp only;omega)
 ·exact h1
theorem Zdn (x q F:Int):okS (Zh (Zc x) q F).1=true:=by
 have:=stR x;unfold Zh
 repeat' split
 all_goals first|(exact rfl)|skip
 ·exact Zbz (decide_eq_true (by simp only;omega)) F
 ·exact Zbz (XJ x) F
theorem Zbj {a b:TmZ} (h1:0≤a.pr) (h2:a.pr≤1000000) (h3:0≤b.pr) (h4:b.pr≤1000000) {l o:Int} (hl:l≤1000000) (ho:o≤1000000):0≤(Zf a b l o).1∧(Zf a b l o).1≤1000000∧0≤(Zf a b l o).2∧(Zf a b l o).2≤1000000:=by
 unfold Zf;obtain ⟨hi,e1⟩:∃ x,(if a.sd=1 then b.pr else a.pr)=x:=⟨_,rfl⟩;obtain ⟨lo,e2⟩:∃ x,(if a.sd=1 then a.pr else b.pr)=x:=⟨_,rfl⟩;obtain ⟨m,e3⟩:∃ x,(if o<l then o else l)=x:=⟨_,rfl⟩;have b1:0≤hi∧hi≤1000000:=by rw[← e1];split<;>omega
 have b2:0≤lo∧lo≤1000000:=by rw[← e2];split<;>omega
 have b3:m≤1000000:=by rw[← e3];split<;>omega
 rw[e1,e2,e3];clear e1 e2 e3
 repeat' split
 all_goals first|(show Zb _ _=true;kernel_rfl)|(simp;done)|(simp only;omega)
theorem Zdt {s:StZ} (h:okS s=true) {t:Int} (h0:0≤t) (h1:t≤1000000):-9223372036854775808≤(ZJ s t).1.k∧(ZJ s t).1.k≤9223372036854775807∧-9223372036854775808≤(ZJ s t).1.q∧(ZJ s t).1.q≤9223372036854775807∧-9223372036854775808≤(ZJ s t).1.p∧(ZJ s t).1.p≤9223372036854775807∧-9223372036854775808≤(ZJ s t).1.t∧(ZJ s t).1.t≤9223372036854775807∧-9223372036854775808≤(ZJ s t).1.c∧(ZJ s t).1.c≤9223372036854775807∧-9223372036854775808≤(ZJ s t).1.g∧(ZJ s t).1.g≤9223372036854775807:=by
 have:=UP h;unfold ZJ
 repeat' split
 all_goals (simp only;omega)
theorem Xc {W:WZ} {T:TZ} (hW:okW W=true) (h:YI W T=false):0≤T.x∧T.x<W.a*W.b∧0≤T.y∧T.y<W.a*W.b∧W.a*W.b≤24:=by
 have hall:=ZB (Zk hW).1;have h':=of_decide_eq_false h;unfold UH at h';refine ⟨?_,?_,?_,?_,hall.2⟩<;>(by_cases a1:T.x<0<;>by_cases a2:T.x<W.a*W.b<;>by_cases a3:T.y<0<;>by_cases a4:T.y<W.a*W.b<;>simp[a1,a2,a3,a4]at h'⊢<;>omega)
def Xj (W:WZ) (T:TZ):TZ×WZ:=if Z9 W T (Zc T.wx)=true then ({ T with held:=(Zs W T.x T.wx (YX (Zc T.wx))).1 },(Zs W T.x T.wx (YX (Zc T.wx))).2) else (T,W)
def YE (W:WZ) (T:TZ):TZ×WZ:=if T.held=true∧T.free=false then ({ T with wx:=sAt W T.x },Yn W) else (T,W)
def Y7 (W:WZ) (T:TZ):TZ×WZ :=
 if T.held=true∧YG W T (Zc T.wy)=true then
  if (Zz (Zc T.wy) (Zf T.tx T.ty (Zc T.wx).l (Zc T.wy).l).1 W.f).2=0 then
   if (Zs W T.y T.wy (Zz (Zc T.wy) (Zf T.tx T.ty (Zc T.wx).l (Zc T.wy).l).1 W.f).1).1=true then
    ({ T with q:=(Zf T.tx T.ty (Zc T.wx).l (Zc T.wy).l).1,p:=(Zf T.tx T.ty (Zc T.wx).l (Zc T.wy).l).2,made:=true,ny:=(Zz (Zc T.wy) (Zf T.tx T.ty (Zc T.wx).l (Zc T.wy).l).1 W.f).1,ta:=W.t },Vz (Zs W T.y T.wy (Zz (Zc T.wy) (Zf T.tx T.ty (Zc T.wx).l (Zc T.wy).l).1 W.f).1).2 2 T.x (Zc T.wx).g T.y (Zc T.wy).g (Zf T.tx T.ty (Zc T.wx).l (Zc T.wy).l).1 (Zf T.tx T.ty (Zc T.wx).l (Zc T.wy).l).2 0)
   else ({ T with q:=(Zf T.tx T.ty (Zc T.wx).l (Zc T.wy).l).1,p:=(Zf T.tx T.ty (Zc T.wx).l (Zc T.wy).l).2 },(Zs W T.y T.wy (Zz (Zc T.wy) (Zf T.tx T.ty (Zc T.wx).l (Zc T.wy).l).1 W.f).1).2)
  else ({ T with q:=(Zf T.tx T.ty (Zc T.wx).l (Zc T.wy).l).1,p:=(Zf T.tx T.ty (Zc T.wx).l (Zc T.wy).l).2 },W)
 else (T,W)
def XK (T:TZ):Int:=if T.made=true then T.q else 0
def Uf (W:WZ) (T:TZ):TZ×WZ :=
 if T.held=true∧T.free=false then
  if (Zh (Zc T.wx) (XK T) W.f).2=0 then
   if (Zs W T.x T.wx (Zh (Zc T.wx) (XK T) W.f).1).1=true then
    ({ T with free:=true,nx:=(Zh (Zc T.wx) (XK T) W.f).1,en:=W.t },if zJ (Zh (Zc T.wx) (XK T) W.f).1.k=true then Vz (Zs W T.x T.wx (Zh (Zc T.wx) (XK T) W.f).1).2 7 T.x (Zh (Zc T.wx) (XK T) W.f).1.g 0 0 0 0 (Zh (Zc T.wx) (XK T) W.f).1.k else (Zs W T.x T.wx (Zh (Zc T.wx) (XK T) W.f).1).2)
   else (T,(Zs W T.x T.wx (Zh (Zc T.wx) (XK T) W.f).1).2)
  else (T,W)
 else (T,W)
def Ud (T:TZ) (c g:Int):RcZ:=⟨1,T.q,T.p,T.ta,c,g⟩
def YC (W:WZ) (T:TZ):WZ :=
 if T.pc=10∧T.made=true then ZH W T.x T.nx.g (T.nx.f - 1) (Ud T T.y T.ny.g)
 else if T.pc=11∧T.made=true then ZH W T.y T.ny.g (T.ny.f - 1) (Ud T T.x T.nx.g)
 else if T.pc=12∧T.made=true then (if (ZJ T.ny T.ta).2=true then ZH W T.y T.ny.g W.f (ZJ T.ny T.ta).1 else W)
 else if T.pc=13∧T.held=true then (if (ZJ T.nx T.en).2=true then ZH W T.x T.nx.g W.f (ZJ T.nx T.en).1 else W)
 else W
def ZP (W:WZ) (T:TZ):TZ×WZ :=
 if T.pc=0 then ({ T with wx:=sAt W T.x },Yn W)
 else if T.pc=1 then ({ T with tx:=Yc (tAt W T.x) },Yn W)
 else if T.pc=2 then Xj W T
 else if T.pc=3 then ({ T with wy:=sAt W T.y },Yn W)
 else if T.pc=4 then ({ T with ty:=Yc (tAt W T.y) },Yn W)
 else if T.pc=5 then Y7 W T
 else if T.pc=6∨T.pc=8 then YE W T
 else if T.pc=7∨T.pc=9 then Uf W T
 else (T,YC W T)
def Zw (W:WZ) (T:TZ):TZ×WZ :=
 if 14≤T.pc then (T,W)
 else if YI W T=true then ({ T with pc:=T.pc+1 },W)
 else ({ (ZP W T).1 with pc:=T.pc+1 },(ZP W T).2)
theorem Zao {W:WZ} (h:okW W=true) (T:TZ):okW (Xj W T).2=true:=by
 unfold Xj;split
 ·exact Yi h _ _ _
 ·exact h
theorem xx {W:WZ} (h:okW W=true) (T:TZ):okW (YE W T).2=true:=by
 unfold YE;split
 ·exact X2 h
 ·exact h
theorem ZaE {W:WZ} (h:okW W=true) (T:TZ):okW (Y7 W T).2=true:=by
 unfold Y7
 repeat' split
 ·exact Vl (Yi h _ _ _) _ _ _ _ _ _ _ _
 ·exact Yi h _ _ _
 ·exact h
 ·exact h
theorem ZbD {W:WZ} (h:okW W=true) (T:TZ):okW (Uf W T).2=true:=by
 unfold Uf
 repeat' split
 ·exact Vl (Yi h _ _ _) _ _ _ _ _ _ _ _
 ·exact Yi h _ _ _
 ·exact Yi h _ _ _
 ·exact h
 ·exact h
theorem zm {W:WZ} (h:okW W=true) (T:TZ):okW (YC W T)=true:=by
 unfold YC
 repeat' split
 all_goals first|exact h|exact VX h _ _ _ _
theorem va {W:WZ} (h:okW W=true) (T:TZ):okW (ZP W T).2=true:=by
 unfold ZP
 repeat' split
 all_goals first|exact X2 h|exact Zao h T|exact ZaE h T|exact xx h T|exact ZbD h T|exact zm h T
theorem Te {W:WZ} (h:okW W=true) (T:TZ):okW (Zw W T).2=true:=by
 unfold Zw
 repeat' split
 all_goals first|exact h|exact va h T
theorem ZiC (W:WZ) (T:TZ):((Xj W T).2.s=W.s∨(Xj W T).2.s=W.s+1)∧(Xj W T).2.lg=W.lg∧(Xj W T).2.t=W.t:=by
 unfold Xj;split
 ·have:=Xw W T.x T.wx (YX (Zc T.wx));exact ⟨this.1,this.2.1,this.2.2.1⟩
 ·simp
theorem ZhU (W:WZ) (T:TZ):((Y7 W T).2.s=W.s∨(Y7 W T).2.s=W.s+1)∧(Y7 W T).2.lg.length≤W.lg.length+1∧(Y7 W T).2.t=W.t:=by
 unfold Y7;have hf:=Xw W T.y T.wy (Zz (Zc T.wy) (Zf T.tx T.ty (Zc T.wx).l (Zc T.wy).l).1 W.f).1
 repeat' split
 ·refine ⟨hf.1,?_,hf.2.2.1⟩
  simp only[Vz,hf.2.1,List.length_append,List.length_singleton];omega
 ·exact ⟨hf.1,by rw[hf.2.1];omega,hf.2.2.1⟩
 ·simp
 ·simp
theorem Zke (W:WZ) (T:TZ):((Uf W T).2.s=W.s∨(Uf W T).2.s=W.s+1)∧(Uf W T).2.lg.length≤W.lg.length+1∧(Uf W T).2.t=W.t:=by
 unfold Uf;have hf:=Xw W T.x T.wx (Zh (Zc T.wx) (XK T) W.f).1
 repeat' split
 ·refine ⟨hf.1,?_,hf.2.2.1⟩
  simp only[Vz,hf.2.1,List.length_append,List.length_singleton];omega
 ·exact ⟨hf.1,by rw[hf.2.1];omega,hf.2.2.1⟩
 ·exact ⟨hf.1,by rw[hf.2.1];omega,hf.2.2.1⟩
 ·simp
 ·simp
theorem Zbn (W:WZ) (T:TZ):((YC W T).s=W.s∨(YC W T).s=W.s+1)∧(YC W T).lg=W.lg∧(YC W T).t=W.t:=by
 unfold YC
 repeat' split
 all_goals first|exact xB _ _ _ _ _|simp
theorem Zjh (W:WZ) (T:TZ):((YE W T).2.s=W.s∨(YE W T).2.s=W.s+1)∧(YE W T).2.lg=W.lg∧(YE W T).2.t=W.t:=by
 unfold YE;split<;>simp[Yn]
theorem Zfv (W:WZ) (T:TZ):((ZP W T).2.s=W.s∨(ZP W T).2.s=W.s+1)∧(ZP W T).2.lg.length≤W.lg.length+1∧(ZP W T).2.t=W.t:=by
 have h1:=ZiC W T;have h2:=ZhU W T;have h3:=Zke W T;have h4:=Zbn W T;have h5:=Zjh W T;unfold ZP
 repeat' split
 all_goals first|exact h2|exact h3|exact ⟨h1.1,by rw[h1.2.1];omega,h1.2.2⟩ | exact ⟨h4.1,by simp only;rw[h4.2.1];omega,h4.2.2⟩ | exact ⟨h5.1,by rw[h5.2.1];omega,h5.2.2⟩ | (simp[Yn])
theorem ZfF (W:WZ) (T:TZ):((Zw W T).2.s=W.s∨(Zw W T).2.s=W.s+1)∧(Zw W T).2.lg.length≤W.lg.length+1∧(Zw W T).2.t=W.t:=by
 have h:=Zfv W T;unfold Zw
 repeat' split
 all_goals first|exact h|simp
theorem XO {T:TZ} (h:okT T=true) {T':TZ} (h1:0≤T'.pc∧T'.pc≤1000000) (h2:0≤T'.wx∧T'.wx<18446744073709551616) (h3:0≤T'.wy∧T'.wy<18446744073709551616) (h4:0≤T'.tx.pr∧T'.tx.pr≤1000000) (h5:0≤T'.ty.pr∧T'.ty.pr≤1000000) (h6:0≤T'.q∧T'.q≤1000000) (h7:0≤T'.p∧T'.p≤1000000) (h8:0≤T'.ta∧T'.ta≤1000000) (h9:0≤T'.en∧T'.en≤1000000) (h10:okS T'.nx=true) (h11:okS T'.ny=true):okT T'=true :=
 decide_eq_true ⟨h1.1,h1.2,h2.1,h2.2,h3.1,h3.2,h4.1,h4.2,h5.1,h5.2,h6.1,h6.2,h7.1,h7.2,h8.1,h8.2,h9.1,h9.2,h10,h11⟩
theorem Zkx {W:WZ} {T:TZ} (hT:okT T=true) (hW:okW W=true) (hi:YI W T=false):okT (Xj W T).1=true:=by
 obtain ⟨hpc0,hpc1,hx0,hx1,hy0,hy1,htx0,htx1,hty0,hty1,hq0,hq1,hp0,hp1,hta0,hta1,hen0,hen1,hnx,hny⟩:=XQ hT;obtain ⟨hX0,hX1,hY0,hY1,hAB⟩:=Xc hW hi;obtain ⟨hcf,hw,hwl,hs0,ht0,ht1,hlg⟩:=Zk hW;unfold Xj;split
 ·refine XO hT ?_ ?_ ?_ ?_ ?_ ?_ ?_ ?_ ?_ ?_ ?_<;>first|assumption|exact ⟨by assumption,by assumption⟩
 ·exact hT
theorem Zj8 {W:WZ} {T:TZ} (hT:okT T=true) (hW:okW W=true) (hi:YI W T=false):okT (YE W T).1=true:=by
 obtain ⟨hpc0,hpc1,hx0,hx1,hy0,hy1,htx0,htx1,hty0,hty1,hq0,hq1,hp0,hp1,hta0,hta1,hen0,hen1,hnx,hny⟩:=XQ hT;obtain ⟨hX0,hX1,hY0,hY1,hAB⟩:=Xc hW hi;obtain ⟨hcf,hw,hwl,hs0,ht0,ht1,hlg⟩:=Zk hW;have sx:=Zeb hW hX0 hX1;unfold YE;split
 ·refine XO hT ?_ ?_ ?_ ?_ ?_ ?_ ?_ ?_ ?_ ?_ ?_<;>first|assumption|exact ⟨by assumption,by assumption⟩ | exact sx
 ·exact hT
theorem ZkE {W:WZ} {T:TZ} (hT:okT T=true) (hW:okW W=true) (hi:YI W T=false):okT (Y7 W T).1=true:=by
 obtain ⟨hpc0,hpc1,hx0,hx1,hy0,hy1,htx0,htx1,hty0,hty1,hq0,hq1,hp0,hp1,hta0,hta1,hen0,hen1,hnx,hny⟩:=XQ hT;obtain ⟨hX0,hX1,hY0,hY1,hAB⟩:=Xc hW hi;obtain ⟨hcf,hw,hwl,hs0,ht0,ht1,hlg⟩:=Zk hW;have rx:=stR T.wx;have ry:=stR T.wy;have hm:=Zbj htx0 htx1 hty0 hty1 (show (Zc T.wx).l≤1000000 by omega) (show (Zc T.wy).l≤1000000 by omega);have tk:=Zby T.wy (Zf T.tx T.ty (Zc T.wx).l (Zc T.wy).l).1 W.f;unfold Y7
 repeat' split
 ·refine XO hT ?_ ?_ ?_ ?_ ?_ ?_ ?_ ?_ ?_ ?_ ?_<;>first|assumption|exact ⟨by assumption,by assumption⟩ | exact ⟨hm.1,hm.2.1⟩ | exact ⟨hm.2.2.1,hm.2.2.2⟩ | exact tk
 ·refine XO hT ?_ ?_ ?_ ?_ ?_ ?_ ?_ ?_ ?_ ?_ ?_<;>first|assumption|exact ⟨by assumption,by assumption⟩ | exact ⟨hm.1,hm.2.1⟩ | exact ⟨hm.2.2.1,hm.2.2.2⟩ | exact tk
 ·refine XO hT ?_ ?_ ?_ ?_ ?_ ?_ ?_ ?_ ?_ ?_ ?_<;>first|assumption|exact ⟨by assumption,by assumption⟩ | exact ⟨hm.1,hm.2.1⟩ | exact ⟨hm.2.2.1,hm.2.2.2⟩ | exact tk
 ·exact hT
theorem let_T {W:WZ} {T:TZ} (hT:okT T=true) (hW:okW W=true) (hi:YI W T=false):okT (Uf W T).1=true:=by
 obtain ⟨hpc0,hpc1,hx0,hx1,hy0,hy1,htx0,htx1,hty0,hty1,hq0,hq1,hp0,hp1,hta0,hta1,hen0,hen1,hnx,hny⟩:=XQ hT;obtain ⟨hX0,hX1,hY0,hY1,hAB⟩:=Xc hW hi;obtain ⟨hcf,hw,hwl,hs0,ht0,ht1,hlg⟩:=Zk hW;have rl:=Zdn T.wx (XK T) W.f;unfold Uf;split
 ·split
  ·split
   ·refine XO hT ?_ ?_ ?_ ?_ ?_ ?_ ?_ ?_ ?_ ?_ ?_<;>first|assumption|exact ⟨by assumption,by assumption⟩ | exact rl
   ·exact hT
  ·exact hT
 ·exact hT
theorem ZkH {W:WZ} {T:TZ} (hT:okT T=true) (hW:okW W=true) (hi:YI W T=false):okT (ZP W T).1=true:=by
 obtain ⟨hpc0,hpc1,hx0,hx1,hy0,hy1,htx0,htx1,hty0,hty1,hq0,hq1,hp0,hp1,hta0,hta1,hen0,hen1,hnx,hny⟩:=XQ hT;obtain ⟨hX0,hX1,hY0,hY1,hAB⟩:=Xc hW hi;obtain ⟨hcf,hw,hwl,hs0,ht0,ht1,hlg⟩:=Zk hW;have sx:=Zeb hW hX0 hX1;have sy:=Zeb hW hY0 hY1;have tx:=vT (tAt W T.x);have ty:=vT (tAt W T.y);unfold ZP
 repeat' split
 ·refine XO hT ?_ ?_ ?_ ?_ ?_ ?_ ?_ ?_ ?_ ?_ ?_<;>first|assumption|exact ⟨by assumption,by assumption⟩ | exact sx
 ·refine XO hT ?_ ?_ ?_ ?_ ?_ ?_ ?_ ?_ ?_ ?_ ?_<;>first|assumption|exact ⟨by assumption,by assumption⟩ | exact tx
 ·exact Zkx hT hW hi
 ·refine XO hT ?_ ?_ ?_ ?_ ?_ ?_ ?_ ?_ ?_ ?_ ?_<;>first|assumption|exact ⟨by assumption,by assumption⟩ | exact sy
 ·refine XO hT ?_ ?_ ?_ ?_ ?_ ?_ ?_ ?_ ?_ ?_ ?_<;>first|assumption|exact ⟨by assumption,by assumption⟩ | exact ty
 ·exact ZkE hT hW hi
 ·exact Zj8 hT hW hi
 ·exact let_T hT hW hi
 ·exact hT
theorem Zja {W:WZ} {T:TZ} (hT:okT T=true) (hW:okW W=true):okT (Zw W T).1=true:=by
 obtain ⟨hpc0,hpc1,hx0,hx1,hy0,hy1,htx0,htx1,hty0,hty1,hq0,hq1,hp0,hp1,hta0,hta1,hen0,hen1,hnx,hny⟩:=XQ hT;unfold Zw;split
 ·exact hT
 ·have hp:(0:Int)≤T.pc+1∧T.pc+1≤1000000:=by omega
  split
  ·exact XO hT hp ⟨hx0,hx1⟩ ⟨hy0,hy1⟩ ⟨htx0,htx1⟩ ⟨hty0,hty1⟩ ⟨hq0,hq1⟩ ⟨hp0,hp1⟩ ⟨hta0,hta1⟩ ⟨hen0,hen1⟩ hnx hny
  ·have h:=ZkH hT hW (by simpa using ‹¬YI W T=true›)
   obtain ⟨hpc0,hpc1,hx0,hx1,hy0,hy1,htx0,htx1,hty0,hty1,hq0,hq1,hp0,hp1,hta0,hta1,hen0,hen1,hnx,hny⟩:=XQ h;exact XO hT hp ⟨hx0,hx1⟩ ⟨hy0,hy1⟩ ⟨htx0,htx1⟩ ⟨hty0,hty1⟩ ⟨hq0,hq1⟩ ⟨hp0,hp1⟩ ⟨hta0,hta1⟩ ⟨hen0,hen1⟩ hnx hny
theorem Tu (W:WZ) (T:TZ):(Zw W T).1.pc=if 14≤T.pc then T.pc else T.pc+1:=by
 unfold Zw;split
 ·rfl
 ·split<;>rfl
end Go.W
