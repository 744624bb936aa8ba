/- The resolved code of the functions, by a program. -/
import Derived.Test.YtidbbnkpglggdaaGreatPqA
import Derived.Test.YtidbbnkpglggdaaGreatPsI
import Derived.Test.YtidbbnkpglggdaaGreatRaA
namespace Go.W
open Go.Proofs
set_option maxRecDepth 100000
@[simp] def q85_0:List MO:=[An 4 0,An 5 1,Ma 8 (.mv (.c (.int .i64 0))),Ma 9 (.mv (.c (.int .i64 0)))]
instance:KR Tryz.f85.ntmps q85_0:=.mk [2,3,4,5] 4
@[simp] def q85_1:List MO:=[Ab 11 1 4,Ac 12 1 11,Ma 13 (.bin .eql (.t 12) (.c (.int .i64 1)))]
instance:KR Tryz.f85.ntmps q85_1:=.mk [2,3,4,5,13] 3
@[simp] def q85_2:List MO:=[Ag 14 5 5,Ag 15 5 4,Ae 5 4 14,Ae 5 5 15]
instance:KR Tryz.f85.ntmps q85_2:=.mk [2,3,4,5] 4
@[simp] def q85_3:List MO:=[Aa 16 3,Aa 17 2,Aa 2 16,Aa 3 17]
instance:KR Tryz.f85.ntmps q85_3:=.mk [2,3,4,5] 4
@[simp] def q85_4:List MO:=[Ab 18 1 4,Ac 19 1 18,Ma 20 (.bin .neq (.t 19) (.c (.int .i64 0))),Aa 21 20,Ah 22 1 5 21 false,Ai 23 1 22 21 false,Mg 24 (.bin .neq (.t 23) (.c (.int .i64 1))) 21 false,Af 25 21 24,Aa 26 25,Ah 27 0 4 26 false,Ai 28 1 27 26 false,Ah 29 0 5 26 false,Ai 30 1 29 26 false,Mg 31 (.bin .neq (.t 28) (.t 30)) 26 false,Af 32 26 31,Aa 33 32,Ah 34 2 4 33 false,Ai 35 1 34 33 false,Ah 36 2 5 33 false,Ai 37 1 36 33 false,Mg 38 (.bin .lss (.t 35) (.t 37)) 33 false,Af 39 33 38]
instance:KR Tryz.f85.ntmps q85_4:=.mk [2,3,4,5,39] 22
@[simp] def q85_5:List MO:=[Ma 8 (.mv (.c (.int .i64 0))),Ma 9 (.mv (.c (.int .i64 0)))]
instance:KR Tryz.f85.ntmps q85_5:=.mk [8,9] 2
@[simp] def q85_6:List MO:=[Aa 40 2,Aa 10 40]
instance:KR Tryz.f85.ntmps q85_6:=.mk [3,4,5,10] 2
@[simp] def q85_7:List MO:=[Aa 41 3,Aa 42 10,Ma 43 (.bin .lss (.t 41) (.t 42))]
instance:KR Tryz.f85.ntmps q85_7:=.mk [3,4,5,10,43] 3
@[simp] def q85_8:List MO:=[Aa 44 3,Aa 10 44]
instance:KR Tryz.f85.ntmps q85_8:=.mk [4,5,10] 2
@[simp] def q85_9:List MO:=[Aa 45 10,Ma 46 (.bin .lss (.t 45) (.c (.int .i64 1))),Aa 47 46,Aj 48 10 47 false,Ah 49 3 4 47 false,Ai 50 1 49 47 false,Mg 51 (.bin .lss (.t 48) (.t 50)) 47 false,Af 52 47 51,Aa 53 52,Aj 54 10 53 false,Ah 55 3 5 53 false,Ai 56 1 55 53 false,Mg 57 (.bin .lss (.t 54) (.t 56)) 53 false,Af 58 53 57]
instance:KR Tryz.f85.ntmps q85_9:=.mk [4,5,10,58] 14
@[simp] def q85_10:List MO:=[Ma 8 (.mv (.c (.int .i64 0))),Ma 9 (.mv (.c (.int .i64 0)))]
instance:KR Tryz.f85.ntmps q85_10:=.mk [8,9] 2
@[simp] def q85_11:List MO:=[Aa 59 10,Ab 60 2 4,Ac 61 1 60,Ab 62 2 5,Ac 63 1 62,Ma 64 (.bin .add (.t 61) (.t 63)),Ma 65 (.bin .quo (.t 64) (.c (.int .i64 2))),Aa 8 59,Aa 9 65]
def p85_11:List (List Nat):=[[],[],[1],[],[3],[2,4],[5],[0,0],[6,7,0,1,2,3,4,5,6,7]]
instance:KD Tryz.f85.ntmps q85_11 p85_11:=.mk [[],[],[1],[],[3],[1,2,3,4],[1,2,3,4,5],[0],[0,1,2,3,4,5,6,7]] [8,9] 9
def m85:MCode:=.seq (.reg q85_0) (.seq (.seq (.reg q85_1) (.cond (.t 13) (.seq (.reg q85_2) (.reg q85_3)) .skip)) (.seq (.seq (.reg q85_4) (.cond (.t 39) (.seq (.reg q85_5) .ret) .skip)) (.seq (.reg q85_6) (.seq (.seq (.reg q85_7) (.cond (.t 43) (.reg q85_8) .skip)) (.seq (.seq (.reg q85_9) (.cond (.t 58) (.seq (.reg q85_10) .ret) .skip)) (.seq (.draw q85_11 p85_11) .ret))))))
theorem C85:CO Tryz.prog 85 Tryz.f85 m85 [(.t 8),(.t 9)]:=.mk Tryz.func85
@[simp] def q45_0:List MO:=[An 2 0,An 3 1,Ma 4 (.mv (.c (.int .i64 0)))]
instance:KR Tryz.f45.ntmps q45_0:=.mk [2,3] 3
@[simp] def q45_1:List MO:=[Ag 6 7 2,Ab 7 2 3,Ac 8 1 7,Ma 9 (.call (.c (.fn 84 [])) [(.t 6),(.t 8)]),Aa 5 9]
instance:KR Tryz.f45.ntmps q45_1:=.mk [2,3,5] 5
@[simp] def q45_2:List MO:=[Ab 10 0 3,Ac 11 1 10,Ma 12 (.bin .lss (.t 11) (.c (.int .i64 0))),Aa 13 12,Ah 14 0 3 13 false,Ai 15 1 14 13 false,Ah 16 2 2 13 false,Ai 17 1 16 13 false,Mg 18 (.bin .geq (.t 15) (.t 17)) 13 false,Af 19 13 18,Aa 20 19,Aj 21 5 20 false,Mg 22 (.bin .lss (.t 21) (.c (.int .i64 0))) 20 false,Af 23 20 22]
instance:KR Tryz.f45.ntmps q45_2:=.mk [2,3,5,23] 14
@[simp] def q45_3:List MO:=[Ma 4 (.mv (.c (.int .i64 (-1))))]
instance:KR Tryz.f45.ntmps q45_3:=.mk [4] 1
@[simp] def q45_4:List MO:=[Ab 24 0 3,Ac 25 1 24,Ab 26 3 2,Ac 27 1 26,Ma 28 (.bin .mul (.t 25) (.t 27)),Aa 29 5,Ma 30 (.bin .add (.t 28) (.t 29)),Aa 4 30]
instance:KR Tryz.f45.ntmps q45_4:=.mk [4] 8
def m45:MCode:=.seq (.reg q45_0) (.seq (.reg q45_1) (.seq (.seq (.reg q45_2) (.cond (.t 23) (.seq (.reg q45_3) .ret) .skip)) (.seq (.reg q45_4) .ret)))
theorem C45:CO Tryz.prog 45 Tryz.f45 m45 [(.t 4)]:=.mk Tryz.func45
@[simp] def q84_0:List MO:=[An 2 0,Ma 4 (.mv (.c (.int .i64 0)))]
instance:KR Tryz.f84.ntmps q84_0:=.mk [1,2] 2
@[simp] def q84_1:List MO:=[Aa 6 1,Ma 7 (.bin .lss (.t 6) (.c (.int .i64 1))),Aa 8 7,Aj 9 1 8 false,Mg 10 (.bin .gtr (.t 9) (.c (.int .i64 9999))) 8 false,Af 11 8 10]
instance:KR Tryz.f84.ntmps q84_1:=.mk [1,2,11] 6
@[simp] def q84_2:List MO:=[Ma 4 (.mv (.c (.int .i64 (-1))))]
instance:KR Tryz.f84.ntmps q84_2:=.mk [4] 1
@[simp] def q84_3:List MO:=[Ma 5 (.mv (.c (.int .i64 0)))]
instance:KR Tryz.f84.ntmps q84_3:=.mk [1,2,5] 1
@[simp] def q84_4:List MO:=[Aa 12 5,Ma 13 (.bin .add (.t 12) (.c (.int .i64 1))),Ma 14 (.bin .mul (.t 13) (.c (.int .i64 9999))),Aa 15 1,Ma 16 (.bin .sub (.t 15) (.c (.int .i64 1))),Ab 17 3 2,Ac 18 1 17,Ma 19 (.bin .mul (.t 16) (.t 18)),Ma 20 (.bin .leq (.t 14) (.t 19))]
instance:KR Tryz.f84.ntmps q84_4:=.mk [1,2,5,20] 9
@[simp] def q84_5:List MO:=[Aa 21 5,Ma 22 (.bin .add (.t 21) (.c (.int .i64 1))),Aa 5 22]
instance:KR Tryz.f84.ntmps q84_5:=.mk [1,2,5] 3
@[simp] def q84_6:List MO:=[Aa 23 5,Aa 4 23]
instance:KR Tryz.f84.ntmps q84_6:=.mk [4] 2
def m84:MCode:=.seq (.reg q84_0) (.seq (.seq (.reg q84_1) (.cond (.t 11) (.seq (.reg q84_2) .ret) .skip)) (.seq (.reg q84_3) (.seq (.block 0 (.loop (.seq (.seq (.reg q84_4) (.cond (.t 20) .skip (.exit 0))) (.block 1 (.reg q84_5))))) (.seq (.reg q84_6) .ret))))
theorem C84:CO Tryz.prog 84 Tryz.f84 m84 [(.t 4)]:=.mk Tryz.func84
set_option linter.unusedSimpArgs false
set_option linter.unusedVariables false
set_option maxHeartbeats 8000000
attribute [local irreducible] Wm
attribute [local simp] Y5 lkp VW prs Uv prT ddL idL YN Um Ren Vt NObj.none Z4
theorem ZfW {d p:Int} (h1:1≤d) (h2:d≤4):Y9 d p<d:=by
 unfold Y9;split
 ·omega
 ·rcases (show d=1∨d=2∨d=3∨d=4 by omega) with rfl|rfl|rfl|rfl<;>omega
theorem ZgH {d p:Int} (h1:1≤d):-1≤Y9 d p:=by
 unfold Y9;split
 ·omega
 ·have:=Vf (show 0≤p - 1 by omega) (show p - 1≤9998 by omega) (show 0≤d by omega) (Int.le_refl d)
  omega
def d84:List AV→List NObj→Option AV
 | [.agg [.int .i64 a,.int .i64 b,.int .i64 c,.int .i64 d,.int .i64 e,.int .i64 f,.int .i64 g],.int .i64 p],[]=>if XX a b c d e f g=true then some (.int .i64 (Y9 d p)) else none
 | _,_=>none
theorem ok84:ROk d84:=by
 intro xs os r h;unfold d84 at h
 (repeat' (split at h))<;>first|(cases h;done)|(injection h with h;subst h;simp)
theorem s84:Sound Tryz.prog 84 (rdS d84 ok84):=by
 refine Zo C84.a C84.b C84.c C84.d ok84 fun xs os r h vs ρ0 hvs=>⟨xs,?_,fun _ h=>h,fun w0 S hS=>?_⟩
 ·unfold d84 at h
  (repeat' (split at h))<;>first|(cases h;done)|exact Nat.le_of_ble_eq_true rfl
 unfold d84 at h;split at h
 ·split at h
  ·rename_i a b c d e f g p hcond
   injection h with h;subst h;have hE:Zb Tryz.prog (EL []):=Zd (by simp);have hc:=ZH hcond;by_cases h1:p<1
   ·have e1:Y9 d p=-1:=if_pos (.inl h1)
    unfold m84
    repeat' with_reducible (first|refine ZR.h ?_|refine zI ?_|(refine zK hE ?_;intro K hK;simp[h1];(repeat' (first|refine hK _ _ ?_|apply And.intro|(intro hc;try subst hc)))<;>(try clear hK K))|(refine zJ (fun hc=>?_) (fun hc=>?_)<;>simp at hc<;>(try subst hc)))
    all_goals first|(simp;done)|(simp at *;omega)|((try simp[e1]);refine Imp.aut ?_ ?_<;>simp[NLe,e1])
   ·by_cases h2:9999<p
    ·have e1:Y9 d p=-1:=if_pos (.inr h2)
     unfold m84
     repeat' with_reducible (first|refine ZR.h ?_|refine zI ?_|(refine zK hE ?_;intro K hK;simp[h1,h2];(repeat' (first|refine hK _ _ ?_|apply And.intro|(intro hc;try subst hc)))<;>(try clear hK K))|(refine zJ (fun hc=>?_) (fun hc=>?_)<;>simp at hc<;>(try subst hc)))
     all_goals first|(simp;done)|(simp at *;omega)|((try simp[e1]);refine Imp.aut ?_ ?_<;>simp[NLe,e1])
    ·obtain ⟨x,hx⟩:∃ z,(p - 1)*d=z:=⟨_,rfl⟩
     have e1:Y9 d p=x / 9999:=(by unfold Y9;rw[if_neg (by omega),hx]);have hb:=Vf (show 0≤p - 1 by omega) (show p - 1≤9998 by omega) (show 0≤d by omega) (show d≤4 by omega);rw[hx]at hb;have wx1:IntKind.wrap .i64 (p - 1)=p - 1:=Zh (by omega) (by omega);have wx2:IntKind.wrap .i64 x=x:=Zh (by omega) (by omega);have wb1:IntKind.wrap .i64 1=1:=(by rfl);have wb2:IntKind.wrap .i64 2=2:=(by rfl);have wb3:IntKind.wrap .i64 3=3:=(by rfl);have wb4:IntKind.wrap .i64 4=4:=(by rfl);have wm1:IntKind.wrap .i64 9999=9999:=(by rfl);have wm2:IntKind.wrap .i64 19998=19998:=(by rfl);have wm3:IntKind.wrap .i64 29997=29997:=(by rfl);have wm4:IntKind.wrap .i64 39996=39996:=(by rfl);have hcase:(¬ 9999≤x∧x / 9999=0)∨(9999≤x∧¬ 19998≤x∧x / 9999=1)∨(9999≤x∧19998≤x∧¬ 29997≤x∧x / 9999=2)∨(9999≤x∧19998≤x∧29997≤x∧¬ 39996≤x∧x / 9999=3):=(by omega);rcases hcase with ⟨g1,e2⟩ | ⟨g1,g2,e2⟩ | ⟨g1,g2,g3,e2⟩ | ⟨g1,g2,g3,g4,e2⟩
     ·rw[e2]at e1
      unfold m84
      repeat' with_reducible (first|refine ZR.h ?_|refine zI ?_|(refine zK hE ?_;intro K hK;simp[h1,h2,hx,wb1,wb2,wb3,wb4,wx1,wx2,wm1,wm2,wm3,wm4,g1];(repeat' (first|refine hK _ _ ?_|apply And.intro|(intro hc;try subst hc)))<;>(try clear hK K))|(refine zJ (fun hc=>?_) (fun hc=>?_)<;>simp at hc<;>(try subst hc)))
      all_goals refine YF 1 ?_
      repeat' with_reducible (first|refine ZR.h ?_|refine zI ?_|(refine zK hE ?_;intro K hK;simp[h1,h2,hx,wb1,wb2,wb3,wb4,wx1,wx2,wm1,wm2,wm3,wm4,g1];(repeat' (first|refine hK _ _ ?_|apply And.intro|(intro hc;try subst hc)))<;>(try clear hK K))|(refine zJ (fun hc=>?_) (fun hc=>?_)<;>simp at hc<;>(try subst hc)))
      all_goals first|(simp;done)|(simp at *;omega)|((try simp[e1]);refine Imp.aut ?_ ?_<;>simp[NLe,e1])
     ·rw[e2]at e1
      unfold m84
      repeat' with_reducible (first|refine ZR.h ?_|refine zI ?_|(refine zK hE ?_;intro K hK;simp[h1,h2,hx,wb1,wb2,wb3,wb4,wx1,wx2,wm1,wm2,wm3,wm4,g1,g2];(repeat' (first|refine hK _ _ ?_|apply And.intro|(intro hc;try subst hc)))<;>(try clear hK K))|(refine zJ (fun hc=>?_) (fun hc=>?_)<;>simp at hc<;>(try subst hc)))
      all_goals refine YF 2 ?_
      repeat' with_reducible (first|refine ZR.h ?_|refine zI ?_|(refine zK hE ?_;intro K hK;simp[h1,h2,hx,wb1,wb2,wb3,wb4,wx1,wx2,wm1,wm2,wm3,wm4,g1,g2];(repeat' (first|refine hK _ _ ?_|apply And.intro|(intro hc;try subst hc)))<;>(try clear hK K))|(refine zJ (fun hc=>?_) (fun hc=>?_)<;>simp at hc<;>(try subst hc)))
      all_goals first|(simp;done)|(simp at *;omega)|((try simp[e1]);refine Imp.aut ?_ ?_<;>simp[NLe,e1])
     ·rw[e2]at e1
      unfold m84
      repeat' with_reducible (first|refine ZR.h ?_|refine zI ?_|(refine zK hE ?_;intro K hK;simp[h1,h2,hx,wb1,wb2,wb3,wb4,wx1,wx2,wm1,wm2,wm3,wm4,g1,g2,g3];(repeat' (first|refine hK _ _ ?_|apply And.intro|(intro hc;try subst hc)))<;>(try clear hK K))|(refine zJ (fun hc=>?_) (fun hc=>?_)<;>simp at hc<;>(try subst hc)))
      all_goals refine YF 3 ?_
      repeat' with_reducible (first|refine ZR.h ?_|refine zI ?_|(refine zK hE ?_;intro K hK;simp[h1,h2,hx,wb1,wb2,wb3,wb4,wx1,wx2,wm1,wm2,wm3,wm4,g1,g2,g3];(repeat' (first|refine hK _ _ ?_|apply And.intro|(intro hc;try subst hc)))<;>(try clear hK K))|(refine zJ (fun hc=>?_) (fun hc=>?_)<;>simp at hc<;>(try subst hc)))
      all_goals first|(simp;done)|(simp at *;omega)|((try simp[e1]);refine Imp.aut ?_ ?_<;>simp[NLe,e1])
     ·rw[e2]at e1
      unfold m84
      repeat' with_reducible (first|refine ZR.h ?_|refine zI ?_|(refine zK hE ?_;intro K hK;simp[h1,h2,hx,wb1,wb2,wb3,wb4,wx1,wx2,wm1,wm2,wm3,wm4,g1,g2,g3,g4];(repeat' (first|refine hK _ _ ?_|apply And.intro|(intro hc;try subst hc)))<;>(try clear hK K))|(refine zJ (fun hc=>?_) (fun hc=>?_)<;>simp at hc<;>(try subst hc)))
      all_goals refine YF 4 ?_
      repeat' with_reducible (first|refine ZR.h ?_|refine zI ?_|(refine zK hE ?_;intro K hK;simp[h1,h2,hx,wb1,wb2,wb3,wb4,wx1,wx2,wm1,wm2,wm3,wm4,g1,g2,g3,g4];(repeat' (first|refine hK _ _ ?_|apply And.intro|(intro hc;try subst hc)))<;>(try clear hK K))|(refine zJ (fun hc=>?_) (fun hc=>?_)<;>simp at hc<;>(try subst hc)))
      all_goals first|(simp;done)|(simp at *;omega)|((try simp[e1]);refine Imp.aut ?_ ?_<;>simp[NLe,e1])
  ·cases h
 ·cases h
def d45:List AV→List NObj→Option AV
 | [.agg [.int .i64 a,.int .i64 b,.int .i64 c,.int .i64 d,.int .i64 e,.int .i64 f,.int .i64 g],.agg [.int .i64 nm,.int .i64 sd,.int .i64 pr,.int .i64 le,.int .i64 un]],[]=>if XX a b c d e f g=true then some (.int .i64 (YG c d nm (Y9 d pr))) else none
 | _,_=>none
theorem ok45:ROk d45:=by
 intro xs os r h;unfold d45 at h
 (repeat' (split at h))<;>first|(cases h;done)|(injection h with h;subst h;simp)
theorem s45:Sound Tryz.prog 45 (rdS d45 ok45):=by
 refine Zo C45.a C45.b C45.c C45.d ok45 fun xs os r h vs ρ0 hvs=>⟨xs,?_,fun _ h=>h,fun w0 S hS=>?_⟩
 ·unfold d45 at h
  (repeat' (split at h))<;>first|(cases h;done)|exact Nat.le_of_ble_eq_true rfl
 unfold d45 at h;split at h
 ·split at h
  ·rename_i a b c d e f g nm sd pr le un hcond
   injection h with h;subst h;have hE:Zb Tryz.prog (EL [(84,rdS d84 ok84)]):=Zd (by simp only[List.mem_cons,List.not_mem_nil,or_false,forall_eq_or_imp,forall_eq];exact s84);have hc:=ZH hcond;have hb1:=ZfW (d:=d) (p:=pr) (by omega) (by omega);have hb0:=ZgH (d:=d) (p:=pr) (by omega);obtain ⟨x,hx⟩:∃ z,Y9 d pr=z:=⟨_,rfl⟩;rw[hx]at hb0 hb1;by_cases h1:nm<0
   ·have e1:YG c d nm x=-1:=if_pos (.inl h1)
    unfold m45
    repeat' with_reducible (first|refine ZR.h ?_|refine zI ?_|(refine zK hE ?_;intro K hK;simp[hcond,hx,h1,d84];(repeat' (first|refine hK _ _ ?_|apply And.intro|(intro hc;try subst hc)))<;>(try clear hK K))|(refine zJ (fun hc=>?_) (fun hc=>?_)<;>simp at hc<;>(try subst hc)))
    all_goals first|(simp;done)|(simp at *;omega)|((try simp[e1,hx]);refine Imp.aut ?_ ?_<;>simp[NLe,e1,hx])
   ·by_cases h2:c≤nm
    ·have e1:YG c d nm x=-1:=if_pos (.inr (.inl h2))
     unfold m45
     repeat' with_reducible (first|refine ZR.h ?_|refine zI ?_|(refine zK hE ?_;intro K hK;simp[hcond,hx,h1,h2,d84];(repeat' (first|refine hK _ _ ?_|apply And.intro|(intro hc;try subst hc)))<;>(try clear hK K))|(refine zJ (fun hc=>?_) (fun hc=>?_)<;>simp at hc<;>(try subst hc)))
     all_goals first|(simp;done)|(simp at *;omega)|((try simp[e1,hx]);refine Imp.aut ?_ ?_<;>simp[NLe,e1,hx])
    ·by_cases h3:x<0
     ·have e1:YG c d nm x=-1:=if_pos (.inr (.inr (.inl h3)))
      unfold m45
      repeat' with_reducible (first|refine ZR.h ?_|refine zI ?_|(refine zK hE ?_;intro K hK;simp[hcond,hx,h1,h2,h3,d84];(repeat' (first|refine hK _ _ ?_|apply And.intro|(intro hc;try subst hc)))<;>(try clear hK K))|(refine zJ (fun hc=>?_) (fun hc=>?_)<;>simp at hc<;>(try subst hc)))
      all_goals first|(simp;done)|(simp at *;omega)|((try simp[e1,hx]);refine Imp.aut ?_ ?_<;>simp[NLe,e1,hx])
     ·have e1:YG c d nm x=nm*d+x:=if_neg (by omega)
      have hm:=Vf (show 0≤nm by omega) (show nm≤3 by omega) (show 0≤d by omega) (show d≤4 by omega);have w1:IntKind.wrap .i64 (nm*d)=nm*d:=Zh (by omega) (by omega);have w2:IntKind.wrap .i64 (nm*d+x)=nm*d+x:=Zh (by omega) (by omega);unfold m45
      repeat' with_reducible (first|refine ZR.h ?_|refine zI ?_|(refine zK hE ?_;intro K hK;simp[hcond,hx,h1,h2,h3,w1,w2,d84];(repeat' (first|refine hK _ _ ?_|apply And.intro|(intro hc;try subst hc)))<;>(try clear hK K))|(refine zJ (fun hc=>?_) (fun hc=>?_)<;>simp at hc<;>(try subst hc)))
      all_goals first|(simp;done)|(simp at *;omega)|((try simp[e1,hx]);refine Imp.aut ?_ ?_<;>simp[NLe,e1,hx])
  ·cases h
 ·cases h
def d85:List AV→List NObj→Option AV
 | [.agg [.int .i64 a0,.int .i64 a1,.int .i64 a2,.int .i64 a3,.int .i64 a4],.agg [.int .i64 b0,.int .i64 b1,.int .i64 b2,.int .i64 b3,.int .i64 b4],.int .i64 l,.int .i64 o],[]=>if 0≤a2∧a2≤1000000∧0≤b2∧b2≤1000000 then some (.tup [.int .i64 (Zc ⟨a0,a1,a2,a3,a4⟩ ⟨b0,b1,b2,b3,b4⟩ l o).1,.int .i64 (Zc ⟨a0,a1,a2,a3,a4⟩ ⟨b0,b1,b2,b3,b4⟩ l o).2]) else none
 | _,_=>none
theorem ok85:ROk d85:=by
 intro xs os r h;unfold d85 at h
 (repeat' (split at h))<;>first|(cases h;done)|(injection h with h;subst h;simp)
theorem s85:Sound Tryz.prog 85 (rdS d85 ok85):=by
 refine Zo C85.a C85.b C85.c C85.d ok85 fun xs os r h vs ρ0 hvs=>⟨xs,?_,fun _ h=>h,fun w0 S hS=>?_⟩
 ·unfold d85 at h
  (repeat' (split at h))<;>first|(cases h;done)|exact Nat.le_of_ble_eq_true rfl
 unfold d85 at h;split at h
 ·split at h
  ·rename_i a0 a1 a2 a3 a4 b0 b1 b2 b3 b4 l o hcond
   injection h with h;subst h;have hE:Zb Tryz.prog (EL []):=Zd (by simp);obtain ⟨hp0,hp1,hp2,hp3⟩:=hcond;obtain ⟨mx,hm⟩:∃ mx,(if a3<b3 then b3 else a3)=mx:=⟨_,rfl⟩;by_cases h0:a1=1
   ·skip
    by_cases h1:b1≠0
    ·unfold m85
     repeat' with_reducible (first|refine ZR.h ?_|refine zI ?_|((first|refine zK hE ?_|refine zM hE ?_);intro K hK;simp[h1,h0,hm,Zc];(repeat' (first|refine hK _ _ ?_|apply And.intro|(intro hc;try subst hc)))<;>(try clear hK K))|(refine zJ (fun hc=>?_) (fun hc=>?_)<;>simp at hc<;>(try subst hc)))
     all_goals first|(simp;done)|(simp at *;omega)|((try simp[h1,h0,hm,Zc]);refine Imp.aut ?_ ?_<;>simp[NLe,h1,h0,hm,Zc])
    ·have h1':b1=0:=by omega
     by_cases h3:a0≠b0
     ·have hne:¬ b0=a0:=fun h=>h3 h.symm
      unfold m85
      repeat' with_reducible (first|refine ZR.h ?_|refine zI ?_|((first|refine zK hE ?_|refine zM hE ?_);intro K hK;simp[h1',h3,hne,h0,hm,Zc];(repeat' (first|refine hK _ _ ?_|apply And.intro|(intro hc;try subst hc)))<;>(try clear hK K))|(refine zJ (fun hc=>?_) (fun hc=>?_)<;>simp at hc<;>(try subst hc)))
      all_goals first|(simp;done)|(simp at *;omega)|((try simp[h1',h3,hne,h0,hm,Zc]);refine Imp.aut ?_ ?_<;>simp[NLe,h1',h3,hne,h0,hm,Zc])
     ·have h3':a0=b0:=by omega
      by_cases h4:b2<a2
      ·unfold m85
       repeat' with_reducible (first|refine ZR.h ?_|refine zI ?_|((first|refine zK hE ?_|refine zM hE ?_);intro K hK;simp[h1',h3',h4,h0,hm,Zc];(repeat' (first|refine hK _ _ ?_|apply And.intro|(intro hc;try subst hc)))<;>(try clear hK K))|(refine zJ (fun hc=>?_) (fun hc=>?_)<;>simp at hc<;>(try subst hc)))
       all_goals first|(simp;done)|(simp at *;omega)|((try simp[h1',h3',h4,h0,hm,Zc]);refine Imp.aut ?_ ?_<;>simp[NLe,h1',h3',h4,h0,hm,Zc])
      ·skip
       have hmx:(a3≤mx∧b3≤mx)∧(mx=a3∨mx=b3):=(by rw[← hm];split<;>omega);by_cases h5:l<o
       ·skip
        have hq:(if o<l then o else l)=l:=(by split<;>omega);by_cases h6:l<1
        ·unfold m85
         repeat' with_reducible (first|refine ZR.h ?_|refine zI ?_|((first|refine zK hE ?_|refine zM hE ?_);intro K hK;simp[h1',h3',h4,h5,hq,h6,h0,hm,Zc];(repeat' (first|refine hK _ _ ?_|apply And.intro|(intro hc;try subst hc)))<;>(try clear hK K))|(refine zJ (fun hc=>?_) (fun hc=>?_)<;>simp at hc<;>(try subst hc)))
         all_goals first|(simp;done)|(simp at *;omega)|((try simp[h1',h3',h4,h5,hq,h6,h0,hm,Zc]);refine Imp.aut ?_ ?_<;>simp[NLe,h1',h3',h4,h5,hq,h6,h0,hm,Zc])
        ·skip
         by_cases h7:l<b3
         ·have hx:l<mx:=by omega
          unfold m85
          repeat' with_reducible (first|refine ZR.h ?_|refine zI ?_|((first|refine zK hE ?_|refine zM hE ?_);intro K hK;simp[h1',h3',h4,h5,hq,h6,h7,hx,h0,hm,Zc];(repeat' (first|refine hK _ _ ?_|apply And.intro|(intro hc;try subst hc)))<;>(try clear hK K))|(refine zJ (fun hc=>?_) (fun hc=>?_)<;>simp at hc<;>(try subst hc)))
          all_goals first|(simp;done)|(simp at *;omega)|((try simp[h1',h3',h4,h5,hq,h6,h7,hx,h0,hm,Zc]);refine Imp.aut ?_ ?_<;>simp[NLe,h1',h3',h4,h5,hq,h6,h7,hx,h0,hm,Zc])
         ·skip
          by_cases h8:l<a3
          ·have hx:l<mx:=by omega
           unfold m85
           repeat' with_reducible (first|refine ZR.h ?_|refine zI ?_|((first|refine zK hE ?_|refine zM hE ?_);intro K hK;simp[h1',h3',h4,h5,hq,h6,h7,h8,hx,h0,hm,Zc];(repeat' (first|refine hK _ _ ?_|apply And.intro|(intro hc;try subst hc)))<;>(try clear hK K))|(refine zJ (fun hc=>?_) (fun hc=>?_)<;>simp at hc<;>(try subst hc)))
           all_goals first|(simp;done)|(simp at *;omega)|((try simp[h1',h3',h4,h5,hq,h6,h7,h8,hx,h0,hm,Zc]);refine Imp.aut ?_ ?_<;>simp[NLe,h1',h3',h4,h5,hq,h6,h7,h8,hx,h0,hm,Zc])
          ·have hx:¬ l<mx:=by omega
           have w1:IntKind.wrap .i64 (b2+a2)=b2+a2:=Zh (by omega) (by omega);have w2:IntKind.wrap .i64 ((b2+a2).tdiv 2)=(b2+a2) / 2:=Vq (by omega) (by omega) (by omega);have w3:a2+(b2 - a2) / 2=(b2+a2) / 2:=(by omega);unfold m85
           repeat' with_reducible (first|refine ZR.h ?_|refine zI ?_|((first|refine zK hE ?_|refine zM hE ?_);intro K hK;simp[h1',h3',h4,h5,hq,h6,h7,h8,hx,w1,w2,w3,h0,hm,Zc];(repeat' (first|refine hK _ _ ?_|apply And.intro|(intro hc;try subst hc)))<;>(try clear hK K))|(refine zJ (fun hc=>?_) (fun hc=>?_)<;>simp at hc<;>(try subst hc)))
           all_goals first|(simp;done)|(simp at *;omega)|((try simp[h1',h3',h4,h5,hq,h6,h7,h8,hx,w1,w2,w3,h0,hm,Zc]);refine Imp.aut ?_ ?_<;>simp[NLe,h1',h3',h4,h5,hq,h6,h7,h8,hx,w1,w2,w3,h0,hm,Zc])
       ·skip
        have hq:(if o<l then o else l)=o:=(by split<;>omega);by_cases h6:o<1
        ·unfold m85
         repeat' with_reducible (first|refine ZR.h ?_|refine zI ?_|((first|refine zK hE ?_|refine zM hE ?_);intro K hK;simp[h1',h3',h4,h5,hq,h6,h0,hm,Zc];(repeat' (first|refine hK _ _ ?_|apply And.intro|(intro hc;try subst hc)))<;>(try clear hK K))|(refine zJ (fun hc=>?_) (fun hc=>?_)<;>simp at hc<;>(try subst hc)))
         all_goals first|(simp;done)|(simp at *;omega)|((try simp[h1',h3',h4,h5,hq,h6,h0,hm,Zc]);refine Imp.aut ?_ ?_<;>simp[NLe,h1',h3',h4,h5,hq,h6,h0,hm,Zc])
        ·skip
         by_cases h7:o<b3
         ·have hx:o<mx:=by omega
          unfold m85
          repeat' with_reducible (first|refine ZR.h ?_|refine zI ?_|((first|refine zK hE ?_|refine zM hE ?_);intro K hK;simp[h1',h3',h4,h5,hq,h6,h7,hx,h0,hm,Zc];(repeat' (first|refine hK _ _ ?_|apply And.intro|(intro hc;try subst hc)))<;>(try clear hK K))|(refine zJ (fun hc=>?_) (fun hc=>?_)<;>simp at hc<;>(try subst hc)))
          all_goals first|(simp;done)|(simp at *;omega)|((try simp[h1',h3',h4,h5,hq,h6,h7,hx,h0,hm,Zc]);refine Imp.aut ?_ ?_<;>simp[NLe,h1',h3',h4,h5,hq,h6,h7,hx,h0,hm,Zc])
         ·skip
          by_cases h8:o<a3
          ·have hx:o<mx:=by omega
           unfold m85
           repeat' with_reducible (first|refine ZR.h ?_|refine zI ?_|((first|refine zK hE ?_|refine zM hE ?_);intro K hK;simp[h1',h3',h4,h5,hq,h6,h7,h8,hx,h0,hm,Zc];(repeat' (first|refine hK _ _ ?_|apply And.intro|(intro hc;try subst hc)))<;>(try clear hK K))|(refine zJ (fun hc=>?_) (fun hc=>?_)<;>simp at hc<;>(try subst hc)))
           all_goals first|(simp;done)|(simp at *;omega)|((try simp[h1',h3',h4,h5,hq,h6,h7,h8,hx,h0,hm,Zc]);refine Imp.aut ?_ ?_<;>simp[NLe,h1',h3',h4,h5,hq,h6,h7,h8,hx,h0,hm,Zc])
          ·have hx:¬ o<mx:=by omega
           have w1:IntKind.wrap .i64 (b2+a2)=b2+a2:=Zh (by omega) (by omega);have w2:IntKind.wrap .i64 ((b2+a2).tdiv 2)=(b2+a2) / 2:=Vq (by omega) (by omega) (by omega);have w3:a2+(b2 - a2) / 2=(b2+a2) / 2:=(by omega);unfold m85
           repeat' with_reducible (first|refine ZR.h ?_|refine zI ?_|((first|refine zK hE ?_|refine zM hE ?_);intro K hK;simp[h1',h3',h4,h5,hq,h6,h7,h8,hx,w1,w2,w3,h0,hm,Zc];(repeat' (first|refine hK _ _ ?_|apply And.intro|(intro hc;try subst hc)))<;>(try clear hK K))|(refine zJ (fun hc=>?_) (fun hc=>?_)<;>simp at hc<;>(try subst hc)))
           all_goals first|(simp;done)|(simp at *;omega)|((try simp[h1',h3',h4,h5,hq,h6,h7,h8,hx,w1,w2,w3,h0,hm,Zc]);refine Imp.aut ?_ ?_<;>simp[NLe,h1',h3',h4,h5,hq,h6,h7,h8,hx,w1,w2,w3,h0,hm,Zc])
   ·skip
    by_cases h1:a1≠0
    ·unfold m85
     repeat' with_reducible (first|refine ZR.h ?_|refine zI ?_|((first|refine zK hE ?_|refine zM hE ?_);intro K hK;simp[h1,h0,hm,Zc];(repeat' (first|refine hK _ _ ?_|apply And.intro|(intro hc;try subst hc)))<;>(try clear hK K))|(refine zJ (fun hc=>?_) (fun hc=>?_)<;>simp at hc<;>(try subst hc)))
     all_goals first|(simp;done)|(simp at *;omega)|((try simp[h1,h0,hm,Zc]);refine Imp.aut ?_ ?_<;>simp[NLe,h1,h0,hm,Zc])
    ·have h1':a1=0:=by omega
     by_cases h2:b1≠1
     ·unfold m85
      repeat' with_reducible (first|refine ZR.h ?_|refine zI ?_|((first|refine zK hE ?_|refine zM hE ?_);intro K hK;simp[h1',h2,h0,hm,Zc];(repeat' (first|refine hK _ _ ?_|apply And.intro|(intro hc;try subst hc)))<;>(try clear hK K))|(refine zJ (fun hc=>?_) (fun hc=>?_)<;>simp at hc<;>(try subst hc)))
      all_goals first|(simp;done)|(simp at *;omega)|((try simp[h1',h2,h0,hm,Zc]);refine Imp.aut ?_ ?_<;>simp[NLe,h1',h2,h0,hm,Zc])
     ·have h2':b1=1:=by omega
      by_cases h3:a0≠b0
      ·have hne:¬ b0=a0:=fun h=>h3 h.symm
       unfold m85
       repeat' with_reducible (first|refine ZR.h ?_|refine zI ?_|((first|refine zK hE ?_|refine zM hE ?_);intro K hK;simp[h1',h2',h3,hne,h0,hm,Zc];(repeat' (first|refine hK _ _ ?_|apply And.intro|(intro hc;try subst hc)))<;>(try clear hK K))|(refine zJ (fun hc=>?_) (fun hc=>?_)<;>simp at hc<;>(try subst hc)))
       all_goals first|(simp;done)|(simp at *;omega)|((try simp[h1',h2',h3,hne,h0,hm,Zc]);refine Imp.aut ?_ ?_<;>simp[NLe,h1',h2',h3,hne,h0,hm,Zc])
      ·have h3':a0=b0:=by omega
       by_cases h4:a2<b2
       ·unfold m85
        repeat' with_reducible (first|refine ZR.h ?_|refine zI ?_|((first|refine zK hE ?_|refine zM hE ?_);intro K hK;simp[h1',h2',h3',h4,h0,hm,Zc];(repeat' (first|refine hK _ _ ?_|apply And.intro|(intro hc;try subst hc)))<;>(try clear hK K))|(refine zJ (fun hc=>?_) (fun hc=>?_)<;>simp at hc<;>(try subst hc)))
        all_goals first|(simp;done)|(simp at *;omega)|((try simp[h1',h2',h3',h4,h0,hm,Zc]);refine Imp.aut ?_ ?_<;>simp[NLe,h1',h2',h3',h4,h0,hm,Zc])
       ·skip
        have hmx:(a3≤mx∧b3≤mx)∧(mx=a3∨mx=b3):=(by rw[← hm];split<;>omega);by_cases h5:o<l
        ·skip
         have hq:(if o<l then o else l)=o:=(by split<;>omega);by_cases h6:o<1
         ·unfold m85
          repeat' with_reducible (first|refine ZR.h ?_|refine zI ?_|((first|refine zK hE ?_|refine zM hE ?_);intro K hK;simp[h1',h2',h3',h4,h5,hq,h6,h0,hm,Zc];(repeat' (first|refine hK _ _ ?_|apply And.intro|(intro hc;try subst hc)))<;>(try clear hK K))|(refine zJ (fun hc=>?_) (fun hc=>?_)<;>simp at hc<;>(try subst hc)))
          all_goals first|(simp;done)|(simp at *;omega)|((try simp[h1',h2',h3',h4,h5,hq,h6,h0,hm,Zc]);refine Imp.aut ?_ ?_<;>simp[NLe,h1',h2',h3',h4,h5,hq,h6,h0,hm,Zc])
         ·skip
          by_cases h7:o<a3
          ·have hx:o<mx:=by omega
           unfold m85
           repeat' with_reducible (first|refine ZR.h ?_|refine zI ?_|((first|refine zK hE ?_|refine zM hE ?_);intro K hK;simp[h1',h2',h3',h4,h5,hq,h6,h7,hx,h0,hm,Zc];(repeat' (first|refine hK _ _ ?_|apply And.intro|(intro hc;try subst hc)))<;>(try clear hK K))|(refine zJ (fun hc=>?_) (fun hc=>?_)<;>simp at hc<;>(try subst hc)))
           all_goals first|(simp;done)|(simp at *;omega)|((try simp[h1',h2',h3',h4,h5,hq,h6,h7,hx,h0,hm,Zc]);refine Imp.aut ?_ ?_<;>simp[NLe,h1',h2',h3',h4,h5,hq,h6,h7,hx,h0,hm,Zc])
          ·skip
           by_cases h8:o<b3
           ·have hx:o<mx:=by omega
            unfold m85
            repeat' with_reducible (first|refine ZR.h ?_|refine zI ?_|((first|refine zK hE ?_|refine zM hE ?_);intro K hK;simp[h1',h2',h3',h4,h5,hq,h6,h7,h8,hx,h0,hm,Zc];(repeat' (first|refine hK _ _ ?_|apply And.intro|(intro hc;try subst hc)))<;>(try clear hK K))|(refine zJ (fun hc=>?_) (fun hc=>?_)<;>simp at hc<;>(try subst hc)))
            all_goals first|(simp;done)|(simp at *;omega)|((try simp[h1',h2',h3',h4,h5,hq,h6,h7,h8,hx,h0,hm,Zc]);refine Imp.aut ?_ ?_<;>simp[NLe,h1',h2',h3',h4,h5,hq,h6,h7,h8,hx,h0,hm,Zc])
           ·have hx:¬ o<mx:=by omega
            have w1:IntKind.wrap .i64 (a2+b2)=a2+b2:=Zh (by omega) (by omega);have w2:IntKind.wrap .i64 ((a2+b2).tdiv 2)=(a2+b2) / 2:=Vq (by omega) (by omega) (by omega);have w3:b2+(a2 - b2) / 2=(a2+b2) / 2:=(by omega);unfold m85
            repeat' with_reducible (first|refine ZR.h ?_|refine zI ?_|((first|refine zK hE ?_|refine zM hE ?_);intro K hK;simp[h1',h2',h3',h4,h5,hq,h6,h7,h8,hx,w1,w2,w3,h0,hm,Zc];(repeat' (first|refine hK _ _ ?_|apply And.intro|(intro hc;try subst hc)))<;>(try clear hK K))|(refine zJ (fun hc=>?_) (fun hc=>?_)<;>simp at hc<;>(try subst hc)))
            all_goals first|(simp;done)|(simp at *;omega)|((try simp[h1',h2',h3',h4,h5,hq,h6,h7,h8,hx,w1,w2,w3,h0,hm,Zc]);refine Imp.aut ?_ ?_<;>simp[NLe,h1',h2',h3',h4,h5,hq,h6,h7,h8,hx,w1,w2,w3,h0,hm,Zc])
        ·skip
         have hq:(if o<l then o else l)=l:=(by split<;>omega);by_cases h6:l<1
         ·unfold m85
          repeat' with_reducible (first|refine ZR.h ?_|refine zI ?_|((first|refine zK hE ?_|refine zM hE ?_);intro K hK;simp[h1',h2',h3',h4,h5,hq,h6,h0,hm,Zc];(repeat' (first|refine hK _ _ ?_|apply And.intro|(intro hc;try subst hc)))<;>(try clear hK K))|(refine zJ (fun hc=>?_) (fun hc=>?_)<;>simp at hc<;>(try subst hc)))
          all_goals first|(simp;done)|(simp at *;omega)|((try simp[h1',h2',h3',h4,h5,hq,h6,h0,hm,Zc]);refine Imp.aut ?_ ?_<;>simp[NLe,h1',h2',h3',h4,h5,hq,h6,h0,hm,Zc])
         ·skip
          by_cases h7:l<a3
          ·have hx:l<mx:=by omega
           unfold m85
           repeat' with_reducible (first|refine ZR.h ?_|refine zI ?_|((first|refine zK hE ?_|refine zM hE ?_);intro K hK;simp[h1',h2',h3',h4,h5,hq,h6,h7,hx,h0,hm,Zc];(repeat' (first|refine hK _ _ ?_|apply And.intro|(intro hc;try subst hc)))<;>(try clear hK K))|(refine zJ (fun hc=>?_) (fun hc=>?_)<;>simp at hc<;>(try subst hc)))
           all_goals first|(simp;done)|(simp at *;omega)|((try simp[h1',h2',h3',h4,h5,hq,h6,h7,hx,h0,hm,Zc]);refine Imp.aut ?_ ?_<;>simp[NLe,h1',h2',h3',h4,h5,hq,h6,h7,hx,h0,hm,Zc])
          ·skip
           by_cases h8:l<b3
           ·have hx:l<mx:=by omega
            unfold m85
            repeat' with_reducible (first|refine ZR.h ?_|refine zI ?_|((first|refine zK hE ?_|refine zM hE ?_);intro K hK;simp[h1',h2',h3',h4,h5,hq,h6,h7,h8,hx,h0,hm,Zc];(repeat' (first|refine hK _ _ ?_|apply And.intro|(intro hc;try subst hc)))<;>(try clear hK K))|(refine zJ (fun hc=>?_) (fun hc=>?_)<;>simp at hc<;>(try subst hc)))
            all_goals first|(simp;done)|(simp at *;omega)|((try simp[h1',h2',h3',h4,h5,hq,h6,h7,h8,hx,h0,hm,Zc]);refine Imp.aut ?_ ?_<;>simp[NLe,h1',h2',h3',h4,h5,hq,h6,h7,h8,hx,h0,hm,Zc])
           ·have hx:¬ l<mx:=by omega
            have w1:IntKind.wrap .i64 (a2+b2)=a2+b2:=Zh (by omega) (by omega);have w2:IntKind.wrap .i64 ((a2+b2).tdiv 2)=(a2+b2) / 2:=Vq (by omega) (by omega) (by omega);have w3:b2+(a2 - b2) / 2=(a2+b2) / 2:=(by omega);unfold m85
            repeat' with_reducible (first|refine ZR.h ?_|refine zI ?_|((first|refine zK hE ?_|refine zM hE ?_);intro K hK;simp[h1',h2',h3',h4,h5,hq,h6,h7,h8,hx,w1,w2,w3,h0,hm,Zc];(repeat' (first|refine hK _ _ ?_|apply And.intro|(intro hc;try subst hc)))<;>(try clear hK K))|(refine zJ (fun hc=>?_) (fun hc=>?_)<;>simp at hc<;>(try subst hc)))
            all_goals first|(simp;done)|(simp at *;omega)|((try simp[h1',h2',h3',h4,h5,hq,h6,h7,h8,hx,w1,w2,w3,h0,hm,Zc]);refine Imp.aut ?_ ?_<;>simp[NLe,h1',h2',h3',h4,h5,hq,h6,h7,h8,hx,w1,w2,w3,h0,hm,Zc])
  ·cases h
 ·cases h
structure RZ where
 way:Int
 x:Int
 gn:Int
 y:Int
 sh:Int
 pc:Int
 sx:StZ
 sy:StZ
 nx:StZ
 ny:StZ
 tx:TmZ
 ty:TmZ
 held:Bool
 made:Bool
 free:Bool
 q:Int
 p:Int
 ta:Int
 en:Int
def rzC (R:RZ):List AV:=[.int .i64 R.way,.int .i64 R.x,.int .i64 R.gn,.int .i64 R.y,.int .i64 R.sh,.int .i64 R.pc,.int .i64 R.sx.k,.bool R.sx.fl,.int .i64 R.sx.g,.int .i64 R.sx.l,.int .i64 R.sx.f,.int .i64 R.sy.k,.bool R.sy.fl,.int .i64 R.sy.g,.int .i64 R.sy.l,.int .i64 R.sy.f,.int .i64 R.nx.k,.bool R.nx.fl,.int .i64 R.nx.g,.int .i64 R.nx.l,.int .i64 R.nx.f,.int .i64 R.ny.k,.bool R.ny.fl,.int .i64 R.ny.g,.int .i64 R.ny.l,.int .i64 R.ny.f,.int .i64 R.tx.nm,.int .i64 R.tx.sd,.int .i64 R.tx.pr,.int .i64 R.tx.le,.int .i64 R.tx.un,.int .i64 R.ty.nm,.int .i64 R.ty.sd,.int .i64 R.ty.pr,.int .i64 R.ty.le,.int .i64 R.ty.un,.bool R.held,.bool R.made,.bool R.free,.int .i64 R.q,.int .i64 R.p,.int .i64 R.ta,.int .i64 R.en]
def Zhm:List AV→Option RZ
 | .int .i64 v0 :: .int .i64 v1 :: .int .i64 v2 :: .int .i64 v3 :: .int .i64 v4 :: .int .i64 v5 :: .int .i64 v6 :: .bool v7 :: .int .i64 v8 :: .int .i64 v9 :: .int .i64 v10 :: .int .i64 v11 :: .bool v12 :: .int .i64 v13 :: .int .i64 v14 :: .int .i64 v15 :: .int .i64 v16 :: .bool v17 :: .int .i64 v18 :: .int .i64 v19 :: .int .i64 v20 :: .int .i64 v21 :: .bool v22 :: .int .i64 v23 :: .int .i64 v24 :: .int .i64 v25 :: .int .i64 v26 :: .int .i64 v27 :: .int .i64 v28 :: .int .i64 v29 :: .int .i64 v30 :: .int .i64 v31 :: .int .i64 v32 :: .int .i64 v33 :: .int .i64 v34 :: .int .i64 v35 :: .bool v36 :: .bool v37 :: .bool v38 :: .int .i64 v39 :: .int .i64 v40 :: .int .i64 v41 :: .int .i64 v42 :: []=>some ⟨v0,v1,v2,v3,v4,v5,⟨v6,v7,v8,v9,v10⟩,⟨v11,v12,v13,v14,v15⟩,⟨v16,v17,v18,v19,v20⟩,⟨v21,v22,v23,v24,v25⟩,⟨v26,v27,v28,v29,v30⟩,⟨v31,v32,v33,v34,v35⟩,v36,v37,v38,v39,v40,v41,v42⟩
 | _=>none
theorem ZaD (R:RZ):Zhm (rzC R)=some R:=rfl
theorem Tp {c:List AV} {R:RZ} (h:Zhm c=some R):c=rzC R:=by
 unfold Zhm at h;split at h
 ·injection h with h;subst h;rfl
 ·cases h
theorem XH (R:RZ):t0L (rzC R)=rzC R:=by simp[rzC,t0L,AV.t0]
theorem XW (R:RZ):clL (rzC R)=true:=by simp[rzC,clL,AV.cl]
def smS (s:StZ):Bool:=decide (0≤s.k∧s.k≤1000000∧0≤s.l∧s.l≤1000000∧0≤s.f∧s.f≤1000000)
theorem ya {s:StZ} (h:smS s=true):0≤s.k∧s.k≤1000000∧0≤s.l∧s.l≤1000000∧0≤s.f∧s.f≤1000000:=of_decide_eq_true h
def okR (R:RZ):Bool:=decide (0≤R.pc∧R.pc≤1000000∧smS R.sx=true∧smS R.sy=true∧smS R.nx=true∧smS R.ny=true∧0≤R.tx.pr∧R.tx.pr≤1000000∧0≤R.ty.pr∧R.ty.pr≤1000000)
theorem zc {R:RZ} (h:okR R=true):0≤R.pc∧R.pc≤1000000∧smS R.sx=true∧smS R.sy=true∧smS R.nx=true∧smS R.ny=true∧0≤R.tx.pr∧R.tx.pr≤1000000∧0≤R.ty.pr∧R.ty.pr≤1000000:=of_decide_eq_true h
def XD (Q:QZ) (R:RZ):RZ×QZ :=
 if R.held=false∨R.sy.k≠(if R.way=1 then 1 else 2)∨(R.way=2∧YG Q.c Q.d R.ty.nm (Y9 Q.d R.ty.pr)≠R.sh) then (R,Q)
 else if (Zw R.sy (Zc R.tx R.ty R.sx.l R.sy.l).1 Q.f).2≠0 then ({ R with q:=(Zc R.tx R.ty R.sx.l R.sy.l).1,p:=(Zc R.tx R.ty R.sx.l R.sy.l).2 },Q)
 else if (ZY Q R.y R.sy (Zw R.sy (Zc R.tx R.ty R.sx.l R.sy.l).1 Q.f).1).1=false then ({ R with q:=(Zc R.tx R.ty R.sx.l R.sy.l).1,p:=(Zc R.tx R.ty R.sx.l R.sy.l).2 },(ZY Q R.y R.sy (Zw R.sy (Zc R.tx R.ty R.sx.l R.sy.l).1 Q.f).1).2)
 else ({ R with q:=(Zc R.tx R.ty R.sx.l R.sy.l).1,p:=(Zc R.tx R.ty R.sx.l R.sy.l).2,made:=true,ny:=(Zw R.sy (Zc R.tx R.ty R.sx.l R.sy.l).1 Q.f).1,ta:=Q.now },TK (ZY Q R.y R.sy (Zw R.sy (Zc R.tx R.ty R.sx.l R.sy.l).1 Q.f).1).2 2 R.x R.sx.g R.y R.sy.g (Zc R.tx R.ty R.sx.l R.sy.l).1 (Zc R.tx R.ty R.sx.l R.sy.l).2 0)
def Ty (Q:QZ) (R:RZ):RZ×QZ :=
 if R.held=false∨R.free=true then (R,Q)
 else if (Zf R.sx (if R.made=true then R.q else 0) Q.f).2≠0 then (R,Q)
 else if (ZY Q R.x R.sx (Zf R.sx (if R.made=true then R.q else 0) Q.f).1).1=false then (R,(ZY Q R.x R.sx (Zf R.sx (if R.made=true then R.q else 0) Q.f).1).2)
 else ({ R with free:=true,nx:=(Zf R.sx (if R.made=true then R.q else 0) Q.f).1,en:=Q.now },if 5≤(Zf R.sx (if R.made=true then R.q else 0) Q.f).1.k then TK (ZY Q R.x R.sx (Zf R.sx (if R.made=true then R.q else 0) Q.f).1).2 7 R.x (Zf R.sx (if R.made=true then R.q else 0) Q.f).1.g 0 0 0 0 (Zf R.sx (if R.made=true then R.q else 0) Q.f).1.k else (ZY Q R.x R.sx (Zf R.sx (if R.made=true then R.q else 0) Q.f).1).2)
theorem yU {Q:QZ} (h:okQ Q=true) (R:RZ):okQ (XD Q R).2=true:=by
 unfold XD;generalize (if R.way=1 then (1:Int) else 2)=kd;split
 ·exact h
 ·split
  ·exact h
  ·split
   ·exact YA h _ _ _
   ·exact X1 (YA h _ _ _) _ _ _ _ _ _ _ _
theorem zq {Q:QZ} (h:okQ Q=true) (R:RZ):okQ (Ty Q R).2=true:=by
 unfold Ty;generalize (if R.made=true then R.q else 0)=qy;split
 ·exact h
 ·split
  ·exact h
  ·split
   ·exact YA h _ _ _
   ·simp only
    split
    ·exact X1 (YA h _ _ _) _ _ _ _ _ _ _ _
    ·exact YA h _ _ _
theorem YW {Q:QZ} (h:okQ Q=true) (φ:TP):YN φ (qzC Q) (qzC Q):=by
 have q8:=(Zp h).2.2.2.2.2.2.2.1;simp[qzC,Z7,Z6,Yd,Yc,Z9,Ya,ZF q8,ZE q8]
def d47:List AV→Option Ans
 | [.op _ r,.op _ q]=>(match Zhm r,ZaZ q with
  | some R,some Q=>if okR R=true∧okQ Q=true∧smQ Q=true∧0≤R.x∧R.x<Q.a*Q.b∧0≤R.y∧R.y<Q.a*Q.b then some ⟨.tup [],[.cells 0 (rzC (XD Q R).1),.cells 0 (qzC (XD Q R).2)]⟩ else none
  | _,_=>none)
 | _=>none
theorem ok47:NOk [(43,true),(13,true)] d47:=by
 intro xs aa h;unfold d47 at h;split at h
 ·rename_i t1 r t2 q
  split at h
  ·rename_i R Q hR hQ
   split at h
   ·rename_i hc
    obtain rfl:=YI hQ;obtain rfl:=Tp hR;injection h with h;subst h;have hok:=hc.2.1;have q8:=(Zp hok).2.2.2.2.2.2.2.1;have q82:=(Zp (yU hok R)).2.2.2.2.2.2.2.1;refine ⟨Zq ?_,?_⟩
    ·simp[Xc Q q8,YK Q q8,YK _ q82,XH,XW]
    ·simp
   ·cases h
  ·cases h
 ·cases h
theorem UH {Q:QZ} (h:smQ Q=true) (x:Int) (o s:StZ):Zfg (ZY Q x o s).2=true:=by
 obtain ⟨h1,h2⟩:=XA h;unfold ZY;split<;>exact decide_eq_true ⟨by simp only;omega,h2⟩
theorem VR (Q:QZ) (x:Int) (o s:StZ):(ZY Q x o s).2.now=Q.now:=by
 unfold ZY;split<;>rfl
end Go.W
