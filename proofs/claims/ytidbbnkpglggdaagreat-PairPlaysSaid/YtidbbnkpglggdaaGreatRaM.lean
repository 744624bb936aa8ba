/- A part of the proofs about the pair's laws (RaH, RaL, RaM). -/
import Derived.Test.YtidbbnkpglggdaaGreatRaG
import Derived.Test.YtidbbnkpglggdaaGreatRaD
import Derived.Test.YtidbbnkpglggdaaGreatPqJ
import Derived.Test.YtidbbnkpglggdaaGreatWkC
import Derived.Test.YtidbbnkpglggdaaGreatPsQ
namespace Go.W
open Go.Proofs
set_option linter.unusedSimpArgs false
set_option linter.unusedVariables false
set_option maxHeartbeats 8000000
attribute [local irreducible] Wm
attribute [local simp] Y5 lkp VW prs Uv prT ddL idL YN Um Ren Vt NObj.none Z4
def d10:List AV→Option Ans
 | [.op _ r,.op _ q]=>(match Zhm r,ZaZ q with
  | some R,some Q=>if okR R=true∧okQ Q=true∧smQ Q=true∧Zhj Q R=true then some ⟨.tup [],[.cells 0 (rzC (ZX Q R).1),.cells 0 (qzC (ZX Q R).2)]⟩ else none
  | _,_=>none)
 | _=>none
theorem ok10:NOk [(43,true),(13,true)] d10:=by
 intro xs aa h;unfold d10 at h;split at h
 ·rename_i t1 r t2 q
  split at h
  ·rename_i R Q hR hQ
   split at h
   ·rename_i hc
    obtain rfl:=YI hQ;obtain rfl:=Tp hR;injection h with h;subst h;have hok:=hc.2.1;have q8:=(Zp hok).2.2.2.2.2.2.2.1;have q82:=(Zp (Zeu hok R)).2.2.2.2.2.2.2.1;refine ⟨Zq ?_,?_⟩
    ·simp[Xc Q q8,YK Q q8,YK _ q82,XH,XW]
    ·simp
   ·cases h
  ·cases h
 ·cases h
theorem s10:Sound Tryz.prog 10 (Zi [(43,true),(13,true)] d10 ok10):=by
 refine Zj C10.a C10.b C10.c C10.d ok10 (fun xs a h=>?_) fun xs a h w0 S hS=>?_
 ·unfold d10 at h
  (repeat' (split at h))<;>first|(cases h;done)|exact Nat.le_of_ble_eq_true rfl
 unfold d10 at h;split at h
 ·rename_i t1 r t2 q
  split at h
  ·rename_i R Q hR hQ
   split at h
   ·rename_i hcond
    obtain rfl:=YI hQ;obtain rfl:=Tp hR;injection h with h;subst h;clear hQ hR;have hE:=XR;obtain ⟨hr,hok,hsm,hnt⟩:=hcond;have hS0:=Z7 Q.S;have hS1:=Z6 Q.S;have hT0:=Yd Q.T;have hT1:=Yc Q.T;have hJ0:=Z9 Q.J;have hJ1:=Ya Q.J;obtain ⟨q1,q2,q3,q4,q5,q6,q7,q8,q9⟩:=Zp hok;have hL0:=ZF q8;have hL1:=ZE q8;obtain ⟨r1,r2,r3,r4,r5,r6,p1,p2,p3,p4⟩:=zc hr;have hn:=fun hi=>Zha hnt hi;have hcf:=ZH q1;have hall:=ZJ q1;have hSl:=UF Q.S;have wp:IntKind.wrap .i64 (R.pc+1)=R.pc+1:=Zh (by omega) (by omega);have wm:IntKind.wrap .i64 (R.pc+1 - 1)=R.pc:=(by rw[Zh (by omega) (by omega)];omega);have wq:IntKind.wrap .i64 R.pc=R.pc:=Zh (by omega) (by omega);have hS2:S.m=2:=(by rw[hS];rfl);by_cases h14:14≤R.pc
    ·have ht:ZX Q R=(R,Q):=by unfold ZX;rw[if_pos h14]
     rw[ht];simp only[rzC,qzC]at hS⊢;unfold m10
     repeat' with_reducible (first|refine ZR.h ?_|refine zI ?_|((first|refine zK hE ?_|refine zM hE ?_);intro K hK;simp[ELt,hS0,hS1,hT0,hT1,hJ0,hJ1,hL0,hL1,wp,wm,wq,hSl,h14];(repeat' (first|refine hK _ _ ?_|apply And.intro|(intro hc;try subst hc)))<;>(try clear hK K))|(refine zJ (fun hc=>?_) (fun hc=>?_)<;>simp at hc<;>(try subst hc)))
     all_goals first|(simp;done)|(simp at *;omega)|((try simp[hS0,hS1,hT0,hT1,hJ0,hJ1,hL0,hL1,wp,wm,wq,hSl,h14]);refine Imp.aut ?_ ?_<;>simp[NLe,hS0,hS1,hT0,hT1,hJ0,hJ1,hL0,hL1,wp,wm,wq,hSl,h14])
    ·by_cases i1:R.x<0
     ·
      have ht:ZX Q R=({ R with pc:=R.pc+1 },Q):=by
       have hi:ve Q R=true:=decide_eq_true (.inl i1);unfold ZX;rw[if_neg h14,if_pos hi]
      rw[ht]
      simp only[rzC,qzC]at hS⊢
      unfold m10
      repeat' with_reducible (first|refine ZR.h ?_|refine zI ?_|((first|refine zK hE ?_|refine zM hE ?_);intro K hK;simp[ELt,hS0,hS1,hT0,hT1,hJ0,hJ1,hL0,hL1,wp,wm,wq,hSl,h14,i1];(repeat' (first|refine hK _ _ ?_|apply And.intro|(intro hc;try subst hc)))<;>(try clear hK K))|(refine zJ (fun hc=>?_) (fun hc=>?_)<;>simp at hc<;>(try subst hc)))
      all_goals first|(simp;done)|(simp at *;omega)|((try simp[hS0,hS1,hT0,hT1,hJ0,hJ1,hL0,hL1,wp,wm,wq,hSl]);refine Imp.aut ?_ ?_<;>simp[NLe,hS0,hS1,hT0,hT1,hJ0,hJ1,hL0,hL1,wp,wm,wq,hSl])
     ·by_cases i2:(Q.S.length:Int)≤R.x
      ·
       have ht:ZX Q R=({ R with pc:=R.pc+1 },Q):=by
        have hi:ve Q R=true:=decide_eq_true (.inr (.inl (by omega)));unfold ZX;rw[if_neg h14,if_pos hi]
       rw[ht]
       simp only[rzC,qzC]at hS⊢
       unfold m10
       repeat' with_reducible (first|refine ZR.h ?_|refine zI ?_|((first|refine zK hE ?_|refine zM hE ?_);intro K hK;simp[ELt,hS0,hS1,hT0,hT1,hJ0,hJ1,hL0,hL1,wp,wm,wq,hSl,h14,i1,i2];(repeat' (first|refine hK _ _ ?_|apply And.intro|(intro hc;try subst hc)))<;>(try clear hK K))|(refine zJ (fun hc=>?_) (fun hc=>?_)<;>simp at hc<;>(try subst hc)))
       all_goals first|(simp;done)|(simp at *;omega)|((try simp[hS0,hS1,hT0,hT1,hJ0,hJ1,hL0,hL1,wp,wm,wq,hSl]);refine Imp.aut ?_ ?_<;>simp[NLe,hS0,hS1,hT0,hT1,hJ0,hJ1,hL0,hL1,wp,wm,wq,hSl])
      ·by_cases i3:R.y<0
       ·
        have ht:ZX Q R=({ R with pc:=R.pc+1 },Q):=by
         have hi:ve Q R=true:=decide_eq_true (.inr (.inr (.inl i3)));unfold ZX;rw[if_neg h14,if_pos hi]
        rw[ht]
        simp only[rzC,qzC]at hS⊢
        unfold m10
        repeat' with_reducible (first|refine ZR.h ?_|refine zI ?_|((first|refine zK hE ?_|refine zM hE ?_);intro K hK;simp[ELt,hS0,hS1,hT0,hT1,hJ0,hJ1,hL0,hL1,wp,wm,wq,hSl,h14,i1,i2,i3];(repeat' (first|refine hK _ _ ?_|apply And.intro|(intro hc;try subst hc)))<;>(try clear hK K))|(refine zJ (fun hc=>?_) (fun hc=>?_)<;>simp at hc<;>(try subst hc)))
        all_goals first|(simp;done)|(simp at *;omega)|((try simp[hS0,hS1,hT0,hT1,hJ0,hJ1,hL0,hL1,wp,wm,wq,hSl]);refine Imp.aut ?_ ?_<;>simp[NLe,hS0,hS1,hT0,hT1,hJ0,hJ1,hL0,hL1,wp,wm,wq,hSl])
       ·by_cases i4:(Q.S.length:Int)≤R.y
        ·
         have ht:ZX Q R=({ R with pc:=R.pc+1 },Q):=by
          have hi:ve Q R=true:=decide_eq_true (.inr (.inr (.inr (.inl (by omega)))));unfold ZX;rw[if_neg h14,if_pos hi]
         rw[ht]
         simp only[rzC,qzC]at hS⊢
         unfold m10
         repeat' with_reducible (first|refine ZR.h ?_|refine zI ?_|((first|refine zK hE ?_|refine zM hE ?_);intro K hK;simp[ELt,hS0,hS1,hT0,hT1,hJ0,hJ1,hL0,hL1,wp,wm,wq,hSl,h14,i1,i2,i3,i4];(repeat' (first|refine hK _ _ ?_|apply And.intro|(intro hc;try subst hc)))<;>(try clear hK K))|(refine zJ (fun hc=>?_) (fun hc=>?_)<;>simp at hc<;>(try subst hc)))
         all_goals first|(simp;done)|(simp at *;omega)|((try simp[hS0,hS1,hT0,hT1,hJ0,hJ1,hL0,hL1,wp,wm,wq,hSl]);refine Imp.aut ?_ ?_<;>simp[NLe,hS0,hS1,hT0,hT1,hJ0,hJ1,hL0,hL1,wp,wm,wq,hSl])
        ·have t1:IntKind.wrap .i64 (R.x.tdiv Q.b)=R.x / Q.b:=Vq (by omega) (by omega) (by omega)
         have t2:IntKind.wrap .i64 (R.y.tdiv Q.b)=R.y / Q.b:=Vq (by omega) (by omega) (by omega);have b0:¬ Q.b=0:=(by omega);by_cases i5:R.x / Q.b=R.y / Q.b
         ·
          have ht:ZX Q R=({ R with pc:=R.pc+1 },Q):=by
           have hi:ve Q R=true:=decide_eq_true (.inr (.inr (.inr (.inr i5))));unfold ZX;rw[if_neg h14,if_pos hi]
          rw[ht]
          simp only[rzC,qzC]at hS⊢
          unfold m10
          repeat' with_reducible (first|refine ZR.h ?_|refine zI ?_|((first|refine zK hE ?_|refine zM hE ?_);intro K hK;simp[ELt,hS0,hS1,hT0,hT1,hJ0,hJ1,hL0,hL1,wp,wm,wq,hSl,h14,i1,i2,i3,i4,b0,t1,t2,i5];(repeat' (first|refine hK _ _ ?_|apply And.intro|(intro hc;try subst hc)))<;>(try clear hK K))|(refine zJ (fun hc=>?_) (fun hc=>?_)<;>simp at hc<;>(try subst hc)))
          all_goals first|(simp;done)|(simp at *;omega)|((try simp[hS0,hS1,hT0,hT1,hJ0,hJ1,hL0,hL1,wp,wm,wq,hSl]);refine Imp.aut ?_ ?_<;>simp[NLe,hS0,hS1,hT0,hT1,hJ0,hJ1,hL0,hL1,wp,wm,wq,hSl])
         ·have hid:ve Q R=false:=by
           refine decide_eq_false ?_;rintro (h|h|h|h|h)
           ·exact i1 h
           ·omega
           ·exact i3 h
           ·omega
           ·exact i5 h
          obtain ⟨x0,x1,y0,y1,_⟩:=Zc0 hid;have hr':okR { R with pc:=R.pc+1 }=true:=decide_eq_true ⟨by show 0≤R.pc+1;omega,by show R.pc+1≤1000000;omega,r3,r4,r5,r6,p1,p2,p3,p4⟩;unfold m10;generalize hM:MCode.block 0 (.seq (.reg q10_6) (.cond (.t 77) (.seq (.draw q10_7 p10_7) (.reg q10_8)) (.seq (.reg q10_9) (.cond (.t 97) (.seq (.draw q10_10 p10_10) (.reg q10_11)) (.seq (.reg q10_12) (.cond (.t 117) (.seq (.draw q10_13 p10_13) (.seq (.seq (.reg q10_14) (.cond (.t 142) (.draw q10_15 p10_15) .skip)) (.seq (.reg q10_16) (.cond (.t 181) (.seq (.reg q10_17) (.seq (.reg q10_18) (.draw q10_19 p10_19))) .skip)))) (.seq (.reg q10_20) (.cond (.t 202) (.seq (.draw q10_21 p10_21) (.reg q10_22)) (.seq (.reg q10_23) (.cond (.t 222) (.seq (.draw q10_24 p10_24) (.reg q10_25)) (.seq (.reg q10_26) (.cond (.t 242) (.reg q10_27) (.seq (.seq (.reg q10_28) (.cond (.t 247) .skip (.reg q10_29))) (.cond (.t 247) (.seq (.reg q10_30) (.cond (.t 260) (.seq (.draw q10_31 p10_31) (.reg q10_32)) .skip)) (.seq (.seq (.reg q10_33) (.cond (.t 279) .skip (.reg q10_34))) (.cond (.t 279) (.reg q10_35) (.seq (.reg q10_36) (.cond (.t 285) (.seq (.reg q10_37) (.cond (.t 290) (.draw q10_38 p10_38) .skip)) (.seq (.reg q10_39) (.cond (.t 326) (.seq (.reg q10_40) (.cond (.t 331) (.draw q10_41 p10_41) .skip)) (.seq (.reg q10_42) (.cond (.t 367) (.seq (.draw q10_43 p10_43) (.seq (.reg q10_44) (.cond (.t 387) (.draw q10_45 p10_45) .skip))) (.seq (.reg q10_46) (.cond (.t 403) (.seq (.draw q10_47 p10_47) (.seq (.reg q10_48) (.cond (.t 423) (.draw q10_49 p10_49) .skip))) .skip))))))))))))))))))))))))=M
          simp only[rzC,qzC]
          repeat' with_reducible (first|refine ZR.h ?_|refine zI ?_|((first|refine zK hE ?_|refine zM hE ?_);intro K hK;simp[ELt,hS0,hS1,hT0,hT1,hJ0,hJ1,hL0,hL1,wp,wm,wq,hSl,h14,i1,i2,i3,i4,b0,t1,t2,i5];(repeat' (first|refine hK _ _ ?_|apply And.intro|(intro hc;try subst hc)))<;>(try clear hK K))|(refine zJ (fun hc=>?_) (fun hc=>?_)<;>simp at hc<;>(try subst hc)))
          all_goals subst hM
          all_goals refine Zar ?_
          all_goals rcases (show R.pc=0∨R.pc=1∨R.pc=2∨R.pc=3∨R.pc=4∨R.pc=5∨R.pc=6∨R.pc=7∨R.pc=8∨R.pc=9∨R.pc=10∨R.pc=11∨R.pc=12∨R.pc=13 by omega) with hk|hk|hk|hk|hk|hk|hk|hk|hk|hk|hk|hk|hk|hk
          ·
           have ht:ZX Q R=c0R Q { R with pc:=R.pc+1 }:=by
            unfold ZX VJ;rw[if_neg h14,if_neg (by rw[hid];simp),hk];simp
           rw[ht]
           refine XB ?_ (w10_0 (R:={ R with pc:=R.pc+1 }) (Q:=Q) ⟨hS2,hr',hok,hsm,x0,x1,y0,y1⟩ fun tl hl nb hI=>?_)
           ·rw[hS2]
            simp only[K10,rzC,qzC];refine Imp.aut ?_ ?_<;>simp[NLe,hS0,hS1,hT0,hT1,hJ0,hJ1,hL0,hL1,hk]
           ·simp only[rzC,qzC]at hI
            simpa using hI
          ·
           have ht:ZX Q R=c1R Q { R with pc:=R.pc+1 }:=by
            unfold ZX VJ;rw[if_neg h14,if_neg (by rw[hid];simp),hk];simp
           rw[ht]
           refine XB ?_ (w10_1 (R:={ R with pc:=R.pc+1 }) (Q:=Q) ⟨hS2,hr',hok,hsm,x0,x1,y0,y1⟩ fun tl hl nb hI=>?_)
           ·rw[hS2]
            simp only[K10,rzC,qzC];refine Imp.aut ?_ ?_<;>simp[NLe,hS0,hS1,hT0,hT1,hJ0,hJ1,hL0,hL1,hk]
           ·simp only[rzC,qzC]at hI
            simpa using hI
          ·
           have ht:ZX Q R=c2R Q { R with pc:=R.pc+1 }:=by
            unfold ZX VJ;rw[if_neg h14,if_neg (by rw[hid];simp),hk];simp
           rw[ht]
           refine XB ?_ (w10_2 (R:={ R with pc:=R.pc+1 }) (Q:=Q) ⟨hS2,hr',hok,hsm,x0,x1,y0,y1⟩ fun tl hl nb hI=>?_)
           ·rw[hS2]
            simp only[K10,rzC,qzC];refine Imp.aut ?_ ?_<;>simp[NLe,hS0,hS1,hT0,hT1,hJ0,hJ1,hL0,hL1,hk]
           ·simp only[rzC,qzC]at hI
            simpa using hI
          ·
           have ht:ZX Q R=c3R Q { R with pc:=R.pc+1 }:=by
            unfold ZX VJ;rw[if_neg h14,if_neg (by rw[hid];simp),hk];simp
           rw[ht]
           refine XB ?_ (w10_3 (R:={ R with pc:=R.pc+1 }) (Q:=Q) ⟨hS2,hr',hok,hsm,x0,x1,y0,y1⟩ fun tl hl nb hI=>?_)
           ·rw[hS2]
            simp only[K10,rzC,qzC];refine Imp.aut ?_ ?_<;>simp[NLe,hS0,hS1,hT0,hT1,hJ0,hJ1,hL0,hL1,hk]
           ·simp only[rzC,qzC]at hI
            simpa using hI
          ·
           have ht:ZX Q R=c4R Q { R with pc:=R.pc+1 }:=by
            unfold ZX VJ;rw[if_neg h14,if_neg (by rw[hid];simp),hk];simp
           rw[ht]
           refine XB ?_ (w10_4 (R:={ R with pc:=R.pc+1 }) (Q:=Q) ⟨hS2,hr',hok,hsm,x0,x1,y0,y1⟩ fun tl hl nb hI=>?_)
           ·rw[hS2]
            simp only[K10,rzC,qzC];refine Imp.aut ?_ ?_<;>simp[NLe,hS0,hS1,hT0,hT1,hJ0,hJ1,hL0,hL1,hk]
           ·simp only[rzC,qzC]at hI
            simpa using hI
          ·
           have ht:ZX Q R=XD Q { R with pc:=R.pc+1 }:=by
            unfold ZX VJ;rw[if_neg h14,if_neg (by rw[hid];simp),hk];simp
           rw[ht]
           refine XB ?_ (w10_5 (R:={ R with pc:=R.pc+1 }) (Q:=Q) ⟨hS2,hr',hok,hsm,x0,x1,y0,y1⟩ fun tl hl nb hI=>?_)
           ·rw[hS2]
            simp only[K10,rzC,qzC];refine Imp.aut ?_ ?_<;>simp[NLe,hS0,hS1,hT0,hT1,hJ0,hJ1,hL0,hL1,hk]
           ·simp only[rzC,qzC]at hI
            simpa using hI
          ·
           have ht:ZX Q R=c6R Q { R with pc:=R.pc+1 }:=by
            unfold ZX VJ;rw[if_neg h14,if_neg (by rw[hid];simp),hk];simp
           rw[ht]
           refine XB ?_ (w10_6 (R:={ R with pc:=R.pc+1 }) (Q:=Q) ⟨hS2,hr',hok,hsm,x0,x1,y0,y1⟩ fun tl hl nb hI=>?_)
           ·rw[hS2]
            simp only[K10,rzC,qzC];refine Imp.aut ?_ ?_<;>simp[NLe,hS0,hS1,hT0,hT1,hJ0,hJ1,hL0,hL1,hk]
           ·simp only[rzC,qzC]at hI
            simpa using hI
          ·
           have ht:ZX Q R=Ty Q { R with pc:=R.pc+1 }:=by
            unfold ZX VJ;rw[if_neg h14,if_neg (by rw[hid];simp),hk];simp
           rw[ht]
           refine XB ?_ (w10_7 (R:={ R with pc:=R.pc+1 }) (Q:=Q) ⟨hS2,hr',hok,hsm,x0,x1,y0,y1⟩ fun tl hl nb hI=>?_)
           ·rw[hS2]
            simp only[K10,rzC,qzC];refine Imp.aut ?_ ?_<;>simp[NLe,hS0,hS1,hT0,hT1,hJ0,hJ1,hL0,hL1,hk]
           ·simp only[rzC,qzC]at hI
            simpa using hI
          ·
           have ht:ZX Q R=c6R Q { R with pc:=R.pc+1 }:=by
            unfold ZX VJ;rw[if_neg h14,if_neg (by rw[hid];simp),hk];simp
           rw[ht]
           refine XB ?_ (w10_8 (R:={ R with pc:=R.pc+1 }) (Q:=Q) ⟨hS2,hr',hok,hsm,x0,x1,y0,y1⟩ fun tl hl nb hI=>?_)
           ·rw[hS2]
            simp only[K10,rzC,qzC];refine Imp.aut ?_ ?_<;>simp[NLe,hS0,hS1,hT0,hT1,hJ0,hJ1,hL0,hL1,hk]
           ·simp only[rzC,qzC]at hI
            simpa using hI
          ·
           have ht:ZX Q R=Ty Q { R with pc:=R.pc+1 }:=by
            unfold ZX VJ;rw[if_neg h14,if_neg (by rw[hid];simp),hk];simp
           rw[ht]
           refine XB ?_ (w10_9 (R:={ R with pc:=R.pc+1 }) (Q:=Q) ⟨hS2,hr',hok,hsm,x0,x1,y0,y1⟩ fun tl hl nb hI=>?_)
           ·rw[hS2]
            simp only[K10,rzC,qzC];refine Imp.aut ?_ ?_<;>simp[NLe,hS0,hS1,hT0,hT1,hJ0,hJ1,hL0,hL1,hk]
           ·simp only[rzC,qzC]at hI
            simpa using hI
          ·
           have ht:ZX Q R=Zdq Q { R with pc:=R.pc+1 }:=by
            unfold ZX VJ;rw[if_neg h14,if_neg (by rw[hid];simp),hk];simp
           rw[ht]
           refine XB ?_ (w10_10 (R:={ R with pc:=R.pc+1 }) (Q:=Q) ⟨hS2,hr',hok,hsm,x0,x1,y0,y1⟩ (fun a=>(hn hid).1 hk a) fun tl hl nb hI=>?_)
           ·rw[hS2]
            simp only[K10,rzC,qzC];refine Imp.aut ?_ ?_<;>simp[NLe,hS0,hS1,hT0,hT1,hJ0,hJ1,hL0,hL1,hk]
           ·simp only[rzC,qzC]at hI
            simpa using hI
          ·
           have ht:ZX Q R=Zdo Q { R with pc:=R.pc+1 }:=by
            unfold ZX VJ;rw[if_neg h14,if_neg (by rw[hid];simp),hk];simp
           rw[ht]
           refine XB ?_ (w10_11 (R:={ R with pc:=R.pc+1 }) (Q:=Q) ⟨hS2,hr',hok,hsm,x0,x1,y0,y1⟩ (fun a=>(hn hid).2.1 hk a) fun tl hl nb hI=>?_)
           ·rw[hS2]
            simp only[K10,rzC,qzC];refine Imp.aut ?_ ?_<;>simp[NLe,hS0,hS1,hT0,hT1,hJ0,hJ1,hL0,hL1,hk]
           ·simp only[rzC,qzC]at hI
            simpa using hI
          ·
           have ht:ZX Q R=ZbI Q { R with pc:=R.pc+1 }:=by
            unfold ZX VJ;rw[if_neg h14,if_neg (by rw[hid];simp),hk];simp
           rw[ht]
           refine XB ?_ (w10_12 (R:={ R with pc:=R.pc+1 }) (Q:=Q) ⟨hS2,hr',hok,hsm,x0,x1,y0,y1⟩ (fun a b=>(hn hid).2.2.1 hk a b) fun tl hl nb hI=>?_)
           ·rw[hS2]
            simp only[K10,rzC,qzC];refine Imp.aut ?_ ?_<;>simp[NLe,hS0,hS1,hT0,hT1,hJ0,hJ1,hL0,hL1,hk]
           ·simp only[rzC,qzC]at hI
            simpa using hI
          ·
           have ht:ZX Q R=ZbJ Q { R with pc:=R.pc+1 }:=by
            unfold ZX VJ;rw[if_neg h14,if_neg (by rw[hid];simp),hk];simp
           rw[ht]
           refine XB ?_ (w10_13 (R:={ R with pc:=R.pc+1 }) (Q:=Q) ⟨hS2,hr',hok,hsm,x0,x1,y0,y1⟩ (fun a b=>(hn hid).2.2.2 hk a b) fun tl hl nb hI=>?_)
           ·rw[hS2]
            simp only[K10,rzC,qzC];refine Imp.aut ?_ ?_<;>simp[NLe,hS0,hS1,hT0,hT1,hJ0,hJ1,hL0,hL1,hk]
           ·simp only[rzC,qzC]at hI
            simpa using hI
   ·cases h
  ·cases h
 ·cases h
theorem Zcu {els:List (List AV)} (h:els.all isW=true):XN els=true :=
 List.all_eq_true.2 fun c hc=>by obtain ⟨x,rfl,_,_⟩:=ZaT (List.all_eq_true.1 h c hc);rfl
theorem w_pl {els:List (List AV)} (h:els.all isW=true):(els.all fun c=>c.all AV.plain)=true :=
 List.all_eq_true.2 fun c hc=>Xr (List.all_eq_true.1 (Zcu h) c hc)
def d91:List AV→List NObj→Option AV
 | [.sl (.top 0) 0 n],[.view 0 1 els]=>if n=els.length∧els.all isW=true∧1≤els.length∧els.length≤200000 then some (.os 0 1 els) else none
 | _,_=>none
theorem ok91:ROk d91:=by
 intro xs os r h;unfold d91 at h
 (repeat' (split at h))<;>first|(cases h;done)|((rename_i hc;injection h with h;subst h;simp;exact Zcu hc.2.1))
theorem s91:Sound Tryz.prog 91 (rdS d91 ok91):=by
 refine Zo C91.a C91.b C91.c C91.d ok91 fun xs os r h vs ρ0 hvs=>⟨xs,?_,fun _ h=>h,fun w0 S hS=>?_⟩
 ·unfold d91 at h
  (repeat' (split at h))<;>first|(cases h;done)|exact Nat.le_of_ble_eq_true rfl
 unfold d91 at h;split at h
 ·split at h
  ·rename_i n els hcond
   injection h with h;subst h;have hE:Zb Tryz.prog (EL []):=Zd (by simp);obtain ⟨rfl,hrows,hpos,hlen⟩:=hcond;have hdat:=Zcu hrows;have hP:=w_pl hrows;have hT0:=ZZ hrows;have hCl:=Z0 hrows;have hp:0<els.length:=hpos;have hb1:els.length*8≤140737488355328:=(by omega);have hb2:els.length≤9223372036854775807:=(by omega);unfold m91
   repeat' with_reducible (first|refine ZR.h ?_|refine zI ?_|(refine zK hE ?_;intro K hK;simp[hdat,hrows,hlen,hp,hb1,hb2,hP];(repeat' (first|refine hK _ _ ?_|apply And.intro|(intro hc;try subst hc)))<;>(try clear hK K))|(refine zJ (fun hc=>?_) (fun hc=>?_)<;>simp at hc<;>(try subst hc)))
   all_goals first|(simp;done)|(simp at *;omega)|((try simp[hT0,hCl]);refine Imp.aut ?_ ?_<;>simp[NLe,hT0,hCl])
  ·cases h
 ·cases h
def d55:List AV→Option Ans
 | [.op _ [.os _ 1 ws,.int .i64 s,.bot,.bot,.bot,.bot,.bot]]=>if ws.all isW=true∧1≤ws.length∧ws.length≤200000 then some ⟨.os 0 1 ws,[.free]⟩ else none
 | _=>none
theorem ok55:NOk [(7,false)] d55:=by
 intro xs a h;unfold d55 at h
 (repeat' (split at h))<;>first|(cases h;done)|((rename_i hc;injection h with h;subst h;refine ⟨Zq ?_,?_⟩<;>simp[ZZ hc.1,Z0 hc.1]))
theorem s55:Sound Tryz.prog 55 (Zi [(7,false)] d55 ok55):=by
 refine Zj C55.a C55.b C55.c C55.d ok55 (fun xs a h=>?_) fun xs a h w0 S hS=>?_
 ·unfold d55 at h
  (repeat' (split at h))<;>first|(cases h;done)|exact Nat.le_of_ble_eq_true rfl
 unfold d55 at h;split at h
 ·split at h
  ·rename_i t1 t2 ws s hcond
   injection h with h;subst h;have hE:Zb Tryz.prog (EL [(91,rdS d91 ok91)]):=Zd (by simp only[List.mem_cons,List.not_mem_nil,or_false,forall_eq_or_imp,forall_eq];exact s91);obtain ⟨hw,hpos,hlen⟩:=hcond;have hT:=ZZ hw;have hC:=Z0 hw;have hD:=Zcu hw;unfold m55
   repeat' with_reducible (first|refine ZR.h ?_|refine zI ?_|(refine zK hE ?_;intro K hK;simp[hT,hC,hw,hpos,hlen,hD,d91];(repeat' (first|refine hK _ _ ?_|apply And.intro|(intro hc;try subst hc)))<;>(try clear hK K))|(refine zJ (fun hc=>?_) (fun hc=>?_)<;>simp at hc<;>(try subst hc)))
   all_goals first|(simp;done)|(simp at *;omega)|((try simp[hT,hC]);refine Imp.aut ?_ ?_<;>simp[NLe,hT,hC])
  ·cases h
 ·cases h
def pk1 (k:Nat):List AV:=[.int .i64 (((k % 2:Nat):Int)+1),.int .i64 ((k / 2:Nat):Int),.int .i64 0,.int .i64 0]
def pkD (G M k:Nat):List AV:=[.int .i64 3,.int .i64 ((k / M / G:Nat):Int),.int .i64 (((k / M % G:Nat):Int)+1),.int .i64 ((k % M:Nat):Int)]
def pkA (k:Nat):List (List AV):=(List.range k).map pk1
def pkB (n G M k:Nat):List (List AV):=pkA (2*n)++(List.range k).map (pkD G M)
def pkZ (n G M:Nat):List (List AV):=pkB n G M (n*G*M)
theorem To (k:Nat):(pkA k).length=k:=by unfold pkA;rw[List.length_map,List.length_range]
theorem ZcC (n G M k:Nat):(pkB n G M k).length=2*n+k:=by unfold pkB;rw[List.length_append,To,List.length_map,List.length_range]
theorem ZdO (i:Nat):pkA (2*i)++[[.int .i64 1,.int .i64 (i:Int),.int .i64 0,.int .i64 0],[.int .i64 2,.int .i64 (i:Int),.int .i64 0,.int .i64 0]]=pkA (2*(i+1)):=by
 have e0:pk1 (2*i)=[.int .i64 1,.int .i64 (i:Int),.int .i64 0,.int .i64 0]:=by
  unfold pk1;rw[show 2*i % 2=0 by omega,show 2*i / 2=i by omega];rfl
 have e1:pk1 (2*i+1)=[.int .i64 2,.int .i64 (i:Int),.int .i64 0,.int .i64 0]:=by
  unfold pk1;rw[show (2*i+1) % 2=1 by omega,show (2*i+1) / 2=i by omega];rfl
 unfold pkA;rw[show 2*(i+1)=2*i+1+1 by omega,List.range_succ,List.range_succ,List.map_append,List.map_append,List.append_assoc];simp only[List.map_cons,List.map_nil,e0,e1]
 rfl
theorem ZdG (n G M k:Nat):pkB n G M k++[pkD G M k]=pkB n G M (k+1):=by
 unfold pkB;rw[List.range_succ,List.map_append,List.append_assoc];rfl
theorem Zhx {G M i g n:Nat} (hg:g<G) (hn:n<M):pkD G M ((i*G+g)*M+n)=[.int .i64 3,.int .i64 (i:Int),.int .i64 ((g:Int)+1),.int .i64 (n:Int)]:=by
 have h1:∀ x:Nat,(x*M+n) / M=x:=fun x=>by
  rw[Nat.mul_comm,Nat.mul_add_div (by omega),Nat.div_eq_of_lt hn,Nat.add_zero]
 have h2:∀ x:Nat,(x*M+n) % M=n:=fun x=>by
  rw[Nat.mul_comm,Nat.mul_add_mod,Nat.mod_eq_of_lt hn]
 have h3:(i*G+g) / G=i:=by
  rw[Nat.mul_comm,Nat.mul_add_div (by omega),Nat.div_eq_of_lt hg,Nat.add_zero]
 have h4:(i*G+g) % G=g:=by
  rw[Nat.mul_comm,Nat.mul_add_mod,Nat.mod_eq_of_lt hg]
 unfold pkD;rw[h1,h2,h3,h4]
theorem Zc3 (k:Nat):t0L (pk1 k)=pk1 k∧clL (pk1 k)=true∧ZbH (pk1 k)=true:=⟨by simp[pk1,t0L,AV.t0],by simp[pk1,clL,AV.cl],rfl⟩
theorem Zhb (G M k:Nat):t0L (pkD G M k)=pkD G M k∧clL (pkD G M k)=true∧ZbH (pkD G M k)=true:=⟨by simp[pkD,t0L,AV.t0],by simp[pkD,clL,AV.cl],rfl⟩
theorem ZhX (k:Nat):XN (pkA k)=true:=List.all_eq_true.2 fun c hc=>by
 obtain ⟨x,_,rfl⟩:=List.mem_map.1 hc;exact (Zc3 x).2.2
theorem ZgA (n G M k:Nat):XN (pkB n G M k)=true:=List.all_eq_true.2 fun c hc=>by
 rcases List.mem_append.1 hc with h|h
 ·exact List.all_eq_true.1 (ZhX _) c h
 ·obtain ⟨x,_,rfl⟩:=List.mem_map.1 h
  exact (Zhb G M x).2.2
theorem ZaS:∀ {l:List (List AV)},(∀ c,c∈l→t0L c=c)→ZG l=l
 | [],_=>rfl
 | c :: r,h=>by
  show t0L c :: ZG r=_;rw[h c (List.mem_cons_self ..),ZaS fun x hx=>h x (List.mem_cons_of_mem _ hx)]
theorem ZaR:∀ {l:List (List AV)},(∀ c,c∈l→clL c=true)→Yp l=true
 | [],_=>rfl
 | c :: r,h=>by
  show (clL c&&Yp r)=true;rw[h c (List.mem_cons_self ..),ZaR fun x hx=>h x (List.mem_cons_of_mem _ hx)];rfl
theorem Zdm {n:Nat}:∀ {l:List (List AV)},(∀ c,c∈l→tlL n c=true)→UD n l=true
 | [],_=>rfl
 | c :: r,h=>by
  show (tlL n c&&UD n r)=true;rw[h c (List.mem_cons_self ..),Zdm fun x hx=>h x (List.mem_cons_of_mem _ hx)];rfl
theorem ZhE (q k:Nat):UD q (pkA k)=true:=Zdm fun c hc=>by obtain ⟨x,_,rfl⟩:=List.mem_map.1 hc;simp[pk1,tlL,AV.tl]
theorem Zie (q n G M k:Nat):UD q (pkB n G M k)=true:=Zdm fun c hc=>by
 rcases List.mem_append.1 hc with h|h
 ·obtain ⟨x,_,rfl⟩:=List.mem_map.1 h;simp[pk1,tlL,AV.tl]
 ·obtain ⟨x,_,rfl⟩:=List.mem_map.1 h;simp[pkD,tlL,AV.tl]
theorem Zh7 (k:Nat):ZG (pkA k)=pkA k:=ZaS fun c hc=>by obtain ⟨x,_,rfl⟩:=List.mem_map.1 hc;exact (Zc3 x).1
theorem Zhz (k:Nat):Yp (pkA k)=true:=ZaR fun c hc=>by obtain ⟨x,_,rfl⟩:=List.mem_map.1 hc;exact (Zc3 x).2.1
theorem Zfc (n G M k:Nat):ZG (pkB n G M k)=pkB n G M k:=ZaS fun c hc=>by
 rcases List.mem_append.1 hc with h|h
 ·obtain ⟨x,_,rfl⟩:=List.mem_map.1 h;exact (Zc3 x).1
 ·obtain ⟨x,_,rfl⟩:=List.mem_map.1 h;exact (Zhb G M x).1
theorem Zfj (n G M k:Nat):Yp (pkB n G M k)=true:=ZaR fun c hc=>by
 rcases List.mem_append.1 hc with h|h
 ·obtain ⟨x,_,rfl⟩:=List.mem_map.1 h;exact (Zc3 x).2.1
 ·obtain ⟨x,_,rfl⟩:=List.mem_map.1 h;exact (Zhb G M x).2.1
def Ip1 (a b c d e f g:Int) (n G M:Nat) (i:Nat):St:=⟨[(1,.ptr (.top 0) 0 0),(3,.sl (.top 1) 0 (2*i)),(4,.int .i64 n),(5,.int .i64 i)],[(0,.cells 0 [.int .i64 a,.int .i64 b,.int .i64 c,.int .i64 d,.int .i64 e,.int .i64 f,.int .i64 g]),(1,.arr 0 4 (pkA (2*i)))],2⟩
def Ip2 (a b c d e f g:Int) (n G M:Nat) (i:Nat):St:=⟨[(1,.ptr (.top 0) 0 0),(3,.sl (.top 1) 0 (2*n+i*G*M)),(4,.int .i64 n),(6,.int .i64 i)],[(0,.cells 0 [.int .i64 a,.int .i64 b,.int .i64 c,.int .i64 d,.int .i64 e,.int .i64 f,.int .i64 g]),(1,.arr 0 4 (pkB n G M (i*G*M)))],2⟩
def Ip3 (a b c d e f g:Int) (n G M:Nat) (i q:Nat):St:=⟨[(1,.ptr (.top 0) 0 0),(3,.sl (.top 1) 0 (2*n+(i*G+q)*M)),(4,.int .i64 n),(6,.int .i64 i),(7,.int .i64 ((q:Int)+1))],[(0,.cells 0 [.int .i64 a,.int .i64 b,.int .i64 c,.int .i64 d,.int .i64 e,.int .i64 f,.int .i64 g]),(1,.arr 0 4 (pkB n G M ((i*G+q)*M)))],2⟩
def Ip4 (a b c d e f g:Int) (n G M:Nat) (i q r:Nat):St:=⟨[(1,.ptr (.top 0) 0 0),(3,.sl (.top 1) 0 (2*n+((i*G+q)*M+r))),(4,.int .i64 n),(6,.int .i64 i),(7,.int .i64 ((q:Int)+1)),(8,.int .i64 r)],[(0,.cells 0 [.int .i64 a,.int .i64 b,.int .i64 c,.int .i64 d,.int .i64 e,.int .i64 f,.int .i64 g]),(1,.arr 0 4 (pkB n G M ((i*G+q)*M+r)))],2⟩
def d56:List AV→List NObj→Option AV
 | [.agg [.int .i64 a,.int .i64 b,.int .i64 c,.int .i64 d,.int .i64 e,.int .i64 f,.int .i64 g]],[]=>if XX a b c d e f g=true then some (.os 0 4 (pkZ (a*b).toNat g.toNat (f+1).toNat)) else none
 | _,_=>none
theorem ok56:ROk d56:=by
 intro xs os r h;unfold d56 at h
 (repeat' (split at h))<;>first|(cases h;done)|((injection h with h;subst h;simp;exact ZgA _ _ _ _))
theorem s56:Sound Tryz.prog 56 (rdS d56 ok56):=by
 refine Zo C56.a C56.b C56.c C56.d ok56 fun xs os r h vs ρ0 hvs=>⟨xs,?_,fun _ h=>h,fun w0 S hS=>?_⟩
 ·unfold d56 at h
  (repeat' (split at h))<;>first|(cases h;done)|exact Nat.le_of_ble_eq_true rfl
 unfold d56 at h;split at h
 ·split at h
  ·rename_i a b c d e f g hcond
   injection h with h;subst h;have hE:Zb Tryz.prog (EL []):=Zd (by simp);have hc:=ZH hcond;have hall:=ZJ hcond;obtain ⟨n,hn⟩:∃ n:Nat,a*b=n:=⟨(a*b).toNat,by omega⟩;obtain ⟨G,hG⟩:∃ G:Nat,g=G:=⟨g.toNat,by omega⟩;obtain ⟨M,hM⟩:∃ M:Nat,f+1=M:=⟨(f+1).toNat,by omega⟩;subst hG;have hf:f=(M:Int) - 1:=(by omega);subst hf;rw[hn]at hall;have hm1:(M:Int) - 1+1=(M:Int):=(by omega);rw[hn,hm1,show (n:Int).toNat=n by omega,show (G:Int).toNat=G by omega,show (M:Int).toNat=M by omega];have wn:IntKind.wrap .i64 (n:Int)=(n:Int):=Zh (by omega) (by omega);have n24:n≤24:=(by omega);have G15:G≤15:=(by omega);have M5:M≤5:=(by omega);have hGM:∀ i q r:Nat,i<n→q<G→r<M→(i*G+q)*M+r<24*15*5:=fun i q r hi hq hr=>by
    have h1:i*G≤23*15:=Nat.mul_le_mul (by omega) (by omega);have h2:(i*G+q)*M≤(23*15+14)*5:=Nat.mul_le_mul (by omega) (by omega);omega
   have pt1:=fun k=>Zh7 k;have pc1:=fun k=>Zhz k;have pk1':=fun k=>To k;have pd1:=fun k=>ZhX k;have pt2:=fun k=>Zfc n G M k;have pc2:=fun k=>Zfj n G M k;have pl2':=fun k=>ZcC n G M k;have pd2:=fun k=>ZgA n G M k;have ptl1:=fun q k=>ZhE q k;have ptl2:=fun q k=>Zie q n G M k;unfold m56
   repeat' with_reducible (first|refine ZR.h ?_|refine zI ?_|(refine zK hE ?_;intro K hK;simp[hn,wn,hm1];(repeat' (first|refine hK _ _ ?_|apply And.intro|(intro hc;try subst hc)))<;>(try clear hK K))|(refine zJ (fun hc=>?_) (fun hc=>?_)<;>simp at hc<;>(try subst hc)))
   all_goals (refine YJ (fun i=>Ip1 a b c d e ((M:Int) - 1) G n G M i) (fun i=>i≤n) (fun i=>n - i) 0 (Nat.zero_le _) ?_ ?_)
   ·simp only[Ip1]
    rw[hS]
    (refine Imp.aut ?_ ?_<;>simp[NLe,ZM,pkA])
   ·intro i hi
    replace hi:i≤n:=hi;simp only[Ip1];by_cases hin:i<n
    ·have w1:IntKind.wrap .i64 ((i:Int)+1)=(i:Int)+1:=Zh (by omega) (by omega)
     have b1:(2*i+2)*32≤140737488355328:=(by omega);have b2:2*i+2≤9223372036854775807:=(by omega);have hsu:=ZdO i
     repeat' with_reducible (first|refine ZR.h ?_|refine zI ?_|(refine zK hE ?_;intro K hK;simp[hin,w1,b1,b2,pk1',pd1,ptl1];(repeat' (first|refine hK _ _ ?_|apply And.intro|(intro hc;try subst hc)))<;>(try clear hK K))|(refine zJ (fun hc=>?_) (fun hc=>?_)<;>simp at hc<;>(try subst hc)))
     all_goals refine ⟨i+1,hin,Nat.sub_lt_sub_left hin (Nat.lt_succ_self i),?_⟩
     all_goals rw[hS]
     all_goals simp only[Ip1]
     all_goals (refine Imp.aut ?_ ?_<;>simp[NLe,ZM,hsu,pt1,pc1,pk1',Nat.mul_add])
    ·have hie:i=n:=by omega
     subst hie
     repeat' with_reducible (first|refine ZR.h ?_|refine zI ?_|(refine zK hE ?_;intro K hK;simp;(repeat' (first|refine hK _ _ ?_|apply And.intro|(intro hc;try subst hc)))<;>(try clear hK K))|(refine zJ (fun hc=>?_) (fun hc=>?_)<;>simp at hc<;>(try subst hc)))
     all_goals (refine YJ (fun j=>Ip2 a b c d e ((M:Int) - 1) G i G M j) (fun j=>j≤i) (fun j=>i - j) 0 (Nat.zero_le _) ?_ ?_)
     ·simp only[Ip2]
      rw[hS]
      (refine Imp.aut ?_ ?_<;>simp[NLe,ZM,pkB,pt1,pc1,pk1'])
     ·intro j hj
      replace hj:j≤i:=hj;simp only[Ip2];by_cases hjn:j<i
      ·have w1:IntKind.wrap .i64 ((j:Int)+1)=(j:Int)+1:=Zh (by omega) (by omega)
       repeat' with_reducible (first|refine ZR.h ?_|refine zI ?_|(refine zK hE ?_;intro K hK;simp[hjn];(repeat' (first|refine hK _ _ ?_|apply And.intro|(intro hc;try subst hc)))<;>(try clear hK K))|(refine zJ (fun hc=>?_) (fun hc=>?_)<;>simp at hc<;>(try subst hc)))
       all_goals (refine YJ (fun q=>Ip3 a b c d e ((M:Int) - 1) G i G M j q) (fun q=>q≤G) (fun q=>G - q) 0 (Nat.zero_le _) ?_ ?_)
       ·simp only[Ip3]
        rw[hS]
        (refine Imp.aut ?_ ?_<;>simp[NLe,ZM,pt2,pc2,pl2',Nat.add_zero])
       ·intro q hq
        replace hq:q≤G:=hq;simp only[Ip3];by_cases hqG:q<G
        ·have w2:IntKind.wrap .i64 ((q:Int)+1+1)=(q:Int)+1+1:=Zh (by omega) (by omega)
         have hqI:(q:Int)+1≤(G:Int):=by omega
         repeat' with_reducible (first|refine ZR.h ?_|refine zI ?_|(refine zK hE ?_;intro K hK;simp[hqI];(repeat' (first|refine hK _ _ ?_|apply And.intro|(intro hc;try subst hc)))<;>(try clear hK K))|(refine zJ (fun hc=>?_) (fun hc=>?_)<;>simp at hc<;>(try subst hc)))
         all_goals (refine YJ (fun r=>Ip4 a b c d e ((M:Int) - 1) G i G M j q r) (fun r=>r≤M) (fun r=>M - r) 0 (Nat.zero_le _) ?_ ?_)
         ·simp only[Ip4]
          rw[hS]
          (refine Imp.aut ?_ ?_<;>simp[NLe,ZM,pt2,pc2,pl2',Nat.add_zero])
         ·intro r hr
          replace hr:r≤M:=hr;simp only[Ip4];by_cases hrM:r<M
          ·have w3:IntKind.wrap .i64 ((r:Int)+1)=(r:Int)+1:=Zh (by omega) (by omega)
           have hrI:(r:Int)≤(M:Int) - 1:=(by omega);have hsu:=ZdG i G M ((j*G+q)*M+r);rw[Zhx hqG hrM]at hsu;have hb:=hGM j q r hjn hqG hrM;obtain ⟨K,hK⟩:∃ K,(j*G+q)*M+r=K:=⟨_,rfl⟩;rw[hK]at hsu hb;have b1:(2*i+K+1)*32≤140737488355328:=(by omega);have b2:2*i+K+1≤9223372036854775807:=(by omega);rw[hK]
           repeat' with_reducible (first|refine ZR.h ?_|refine zI ?_|(refine zK hE ?_;intro K hK;simp[hrI,w3,b1,b2,pl2',pd2,ptl2];(repeat' (first|refine hK _ _ ?_|apply And.intro|(intro hc;try subst hc)))<;>(try clear hK K))|(refine zJ (fun hc=>?_) (fun hc=>?_)<;>simp at hc<;>(try subst hc)))
           all_goals refine ⟨r+1,hrM,Nat.sub_lt_sub_left hrM (Nat.lt_succ_self r),?_⟩
           all_goals rw[hS]
           all_goals simp only[Ip4]
           all_goals rw[show (j*G+q)*M+(r+1)=K+1 by omega]
           all_goals (refine Imp.aut ?_ ?_<;>simp[NLe,ZM,hsu,pt2,pc2,pl2',Nat.add_assoc])
          ·have hrI:¬ ((r:Int)≤(M:Int) - 1):=by omega
           have hre:r=M:=(by omega);subst hre
           repeat' with_reducible (first|refine ZR.h ?_|refine zI ?_|(refine zK hE ?_;intro K hK;simp[hrI,w2];(repeat' (first|refine hK _ _ ?_|apply And.intro|(intro hc;try subst hc)))<;>(try clear hK K))|(refine zJ (fun hc=>?_) (fun hc=>?_)<;>simp at hc<;>(try subst hc)))
           all_goals refine ⟨q+1,hqG,Nat.sub_lt_sub_left hqG (Nat.lt_succ_self q),?_⟩
           all_goals rw[hS]
           all_goals simp only[Ip3]
           all_goals rw[show (j*G+(q+1))*r=(j*G+q)*r+r by rw[← Nat.add_assoc,Nat.add_mul,Nat.one_mul]]
           all_goals (refine Imp.aut ?_ ?_<;>simp[NLe,ZM,pt2,pc2,pl2'])
        ·have hqI:¬ ((q:Int)+1≤(G:Int)):=by omega
         have hqe:q=G:=(by omega);subst hqe
         repeat' with_reducible (first|refine ZR.h ?_|refine zI ?_|(refine zK hE ?_;intro K hK;simp[hqI,w1];(repeat' (first|refine hK _ _ ?_|apply And.intro|(intro hc;try subst hc)))<;>(try clear hK K))|(refine zJ (fun hc=>?_) (fun hc=>?_)<;>simp at hc<;>(try subst hc)))
         all_goals refine ⟨j+1,hjn,Nat.sub_lt_sub_left hjn (Nat.lt_succ_self j),?_⟩
         all_goals rw[hS]
         all_goals simp only[Ip2]
         all_goals rw[show (j+1)*q=j*q+q by rw[Nat.add_mul,Nat.one_mul]]
         all_goals (refine Imp.aut ?_ ?_<;>simp[NLe,ZM,pt2,pc2,pl2'])
      ·have hje:j=i:=by omega
       subst hje
       repeat' with_reducible (first|refine ZR.h ?_|refine zI ?_|(refine zK hE ?_;intro K hK;simp;(repeat' (first|refine hK _ _ ?_|apply And.intro|(intro hc;try subst hc)))<;>(try clear hK K))|(refine zJ (fun hc=>?_) (fun hc=>?_)<;>simp at hc<;>(try subst hc)))
       all_goals (try simp)
       all_goals (refine Imp.aut ?_ ?_<;>simp[NLe,ZM,pt2,pc2,pl2',pkZ])
  ·cases h
 ·cases h
end Go.W
