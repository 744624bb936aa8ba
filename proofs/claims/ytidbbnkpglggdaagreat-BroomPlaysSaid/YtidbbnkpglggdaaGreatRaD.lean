/- A part of the proofs about the pair's laws (PuA, RaD). -/
import Derived.Test.YtidbbnkpglggdaaGreatPsJ
import Derived.Test.YtidbbnkpglggdaaGreatPaA
import Derived.Test.YtidbbnkpglggdaaGreatRaC
import Derived.Test.YtidbbnkpglggdaaGreatRaA
namespace Go.W
open Go.Proofs
set_option linter.unusedSimpArgs false
set_option linter.unusedVariables false
set_option maxHeartbeats 8000000
set_option maxRecDepth 100000
attribute [local irreducible] Wm WmA
attribute [local simp] YP lkp Vq prs V9 prT ddL idL Yy Ue Ren Ve NObj.none ZT
theorem Zib {d p:Int} (h1:1≤d) (h2:d≤4):Yj d p<d:=by
 unfold Yj;split
 ·omega
 ·rcases (show d=1∨d=2∨d=3∨d=4 by omega) with rfl|rfl|rfl|rfl<;>omega
theorem Zh6 {d p:Int} (h1:1≤d):-1≤Yj d p:=by
 unfold Yj;split
 ·omega
 ·have:=Xh (show 0≤p - 1 by omega) (show p - 1≤9998 by omega) (show 0≤d by omega) (Int.le_refl d)
  omega
def d84:List AV→List NObj→Option AV
 | [.agg [.int .i64 a,.int .i64 b,.int .i64 c,.int .i64 d,.int .i64 e,.int .i64 f,.int .i64 g],.int .i64 p],[]=>if X7 a b c d e f g=true then some (.int .i64 (Yj d p)) else none
 | _,_=>none
theorem ok84:ROk d84:=by
 intro xs os r h;unfold d84 at h
 (repeat' (split at h))<;>first|(cases h;done)|(injection h with h;subst h;simp)
theorem s84:Sound Tryz.prog 84 (rdS d84 ok84):=by
 refine Zo (ac:=?ac) (res:=?res) Tryz.func84 (by kernel_rfl) (ha:=?ha) (hk:=?hk) (hok:=ok84) fun xs os r h vs ρ0 hvs=>?w
 case ha=>conv=>lhs;cbv
 case hk=>kernel_rfl
 refine ⟨xs,?_,fun _ h=>h,fun w0 S hS=>?_⟩
 ·unfold d84 at h
  (repeat' (split at h))<;>first|(cases h;done)|exact Nat.le_of_ble_eq_true rfl
 unfold d84 at h;split at h
 ·split at h
  ·rename_i a b c d e f g p hcond
   injection h with h;subst h;have hE:Zd Tryz.prog (EL []):=Ze (by simp);have hc:=ZE hcond;by_cases h1:p<1
   ·have e1:Yj d p=-1:=if_pos (.inl h1)
    repeat' with_reducible (first|refine ZR.h ?_|refine kI ?_|(refine kR hE ?_;intro K hK;simp[h1];(repeat' (first|refine hK _ _ ?_|apply And.intro|(intro hc;try subst hc)))<;>(try clear hK K))|(refine kT (fun hc=>?_) (fun hc=>?_)<;>simp at hc<;>(try subst hc)))
    all_goals first|(show Zb _ _=true;kernel_rfl)|(simp;done)|(simp at *;omega)|((try simp[e1]);refine Imp.aut ?_ ?_<;>simp[NLe,e1])
   ·by_cases h2:9999<p
    ·have e1:Yj d p=-1:=if_pos (.inr h2)
     repeat' with_reducible (first|refine ZR.h ?_|refine kI ?_|(refine kR hE ?_;intro K hK;simp[h1,h2];(repeat' (first|refine hK _ _ ?_|apply And.intro|(intro hc;try subst hc)))<;>(try clear hK K))|(refine kT (fun hc=>?_) (fun hc=>?_)<;>simp at hc<;>(try subst hc)))
     all_goals first|(show Zb _ _=true;kernel_rfl)|(simp;done)|(simp at *;omega)|((try simp[e1]);refine Imp.aut ?_ ?_<;>simp[NLe,e1])
    ·obtain ⟨x,hx⟩:∃ z,(p - 1)*d=z:=⟨_,rfl⟩
     have e1:Yj d p=x / 9999:=(by unfold Yj;rw[if_neg (by omega),hx]);have hb:=Xh (show 0≤p - 1 by omega) (show p - 1≤9998 by omega) (show 0≤d by omega) (show d≤4 by omega);rw[hx]at hb;have wx1:IntKind.wrap .i64 (p - 1)=p - 1:=Zg (by omega) (by omega);have wx2:IntKind.wrap .i64 x=x:=Zg (by omega) (by omega);have wb1:IntKind.wrap .i64 1=1:=(by rfl);have wb2:IntKind.wrap .i64 2=2:=(by rfl);have wb3:IntKind.wrap .i64 3=3:=(by rfl);have wb4:IntKind.wrap .i64 4=4:=(by rfl);have wm1:IntKind.wrap .i64 9999=9999:=(by rfl);have wm2:IntKind.wrap .i64 19998=19998:=(by rfl);have wm3:IntKind.wrap .i64 29997=29997:=(by rfl);have wm4:IntKind.wrap .i64 39996=39996:=(by rfl);have hcase:(¬ 9999≤x∧x / 9999=0)∨(9999≤x∧¬ 19998≤x∧x / 9999=1)∨(9999≤x∧19998≤x∧¬ 29997≤x∧x / 9999=2)∨(9999≤x∧19998≤x∧29997≤x∧¬ 39996≤x∧x / 9999=3):=(by omega);rcases hcase with ⟨g1,e2⟩ | ⟨g1,g2,e2⟩ | ⟨g1,g2,g3,e2⟩ | ⟨g1,g2,g3,g4,e2⟩
     ·rw[e2]at e1
      repeat' with_reducible (first|refine ZR.h ?_|refine kI ?_|(refine kR hE ?_;intro K hK;simp[h1,h2,hx,wb1,wb2,wb3,wb4,wx1,wx2,wm1,wm2,wm3,wm4,g1];(repeat' (first|refine hK _ _ ?_|apply And.intro|(intro hc;try subst hc)))<;>(try clear hK K))|(refine kT (fun hc=>?_) (fun hc=>?_)<;>simp at hc<;>(try subst hc)))
      all_goals refine Yk 1 ?_
      repeat' with_reducible (first|refine ZR.h ?_|refine kI ?_|(refine kR hE ?_;intro K hK;simp[h1,h2,hx,wb1,wb2,wb3,wb4,wx1,wx2,wm1,wm2,wm3,wm4,g1];(repeat' (first|refine hK _ _ ?_|apply And.intro|(intro hc;try subst hc)))<;>(try clear hK K))|(refine kT (fun hc=>?_) (fun hc=>?_)<;>simp at hc<;>(try subst hc)))
      all_goals first|(show Zb _ _=true;kernel_rfl)|(simp;done)|(simp at *;omega)|((try simp[e1]);refine Imp.aut ?_ ?_<;>simp[NLe,e1])
     ·rw[e2]at e1
      repeat' with_reducible (first|refine ZR.h ?_|refine kI ?_|(refine kR hE ?_;intro K hK;simp[h1,h2,hx,wb1,wb2,wb3,wb4,wx1,wx2,wm1,wm2,wm3,wm4,g1,g2];(repeat' (first|refine hK _ _ ?_|apply And.intro|(intro hc;try subst hc)))<;>(try clear hK K))|(refine kT (fun hc=>?_) (fun hc=>?_)<;>simp at hc<;>(try subst hc)))
      all_goals refine Yk 2 ?_
      repeat' with_reducible (first|refine ZR.h ?_|refine kI ?_|(refine kR hE ?_;intro K hK;simp[h1,h2,hx,wb1,wb2,wb3,wb4,wx1,wx2,wm1,wm2,wm3,wm4,g1,g2];(repeat' (first|refine hK _ _ ?_|apply And.intro|(intro hc;try subst hc)))<;>(try clear hK K))|(refine kT (fun hc=>?_) (fun hc=>?_)<;>simp at hc<;>(try subst hc)))
      all_goals first|(show Zb _ _=true;kernel_rfl)|(simp;done)|(simp at *;omega)|((try simp[e1]);refine Imp.aut ?_ ?_<;>simp[NLe,e1])
     ·rw[e2]at e1
      repeat' with_reducible (first|refine ZR.h ?_|refine kI ?_|(refine kR hE ?_;intro K hK;simp[h1,h2,hx,wb1,wb2,wb3,wb4,wx1,wx2,wm1,wm2,wm3,wm4,g1,g2,g3];(repeat' (first|refine hK _ _ ?_|apply And.intro|(intro hc;try subst hc)))<;>(try clear hK K))|(refine kT (fun hc=>?_) (fun hc=>?_)<;>simp at hc<;>(try subst hc)))
      all_goals refine Yk 3 ?_
      repeat' with_reducible (first|refine ZR.h ?_|refine kI ?_|(refine kR hE ?_;intro K hK;simp[h1,h2,hx,wb1,wb2,wb3,wb4,wx1,wx2,wm1,wm2,wm3,wm4,g1,g2,g3];(repeat' (first|refine hK _ _ ?_|apply And.intro|(intro hc;try subst hc)))<;>(try clear hK K))|(refine kT (fun hc=>?_) (fun hc=>?_)<;>simp at hc<;>(try subst hc)))
      all_goals first|(show Zb _ _=true;kernel_rfl)|(simp;done)|(simp at *;omega)|((try simp[e1]);refine Imp.aut ?_ ?_<;>simp[NLe,e1])
     ·rw[e2]at e1
      repeat' with_reducible (first|refine ZR.h ?_|refine kI ?_|(refine kR hE ?_;intro K hK;simp[h1,h2,hx,wb1,wb2,wb3,wb4,wx1,wx2,wm1,wm2,wm3,wm4,g1,g2,g3,g4];(repeat' (first|refine hK _ _ ?_|apply And.intro|(intro hc;try subst hc)))<;>(try clear hK K))|(refine kT (fun hc=>?_) (fun hc=>?_)<;>simp at hc<;>(try subst hc)))
      all_goals refine Yk 4 ?_
      repeat' with_reducible (first|refine ZR.h ?_|refine kI ?_|(refine kR hE ?_;intro K hK;simp[h1,h2,hx,wb1,wb2,wb3,wb4,wx1,wx2,wm1,wm2,wm3,wm4,g1,g2,g3,g4];(repeat' (first|refine hK _ _ ?_|apply And.intro|(intro hc;try subst hc)))<;>(try clear hK K))|(refine kT (fun hc=>?_) (fun hc=>?_)<;>simp at hc<;>(try subst hc)))
      all_goals first|(show Zb _ _=true;kernel_rfl)|(simp;done)|(simp at *;omega)|((try simp[e1]);refine Imp.aut ?_ ?_<;>simp[NLe,e1])
  ·cases h
 ·cases h
def d45:List AV→List NObj→Option AV
 | [.agg [.int .i64 a,.int .i64 b,.int .i64 c,.int .i64 d,.int .i64 e,.int .i64 f,.int .i64 g],.agg [.int .i64 nm,.int .i64 sd,.int .i64 pr,.int .i64 le,.int .i64 un]],[]=>if X7 a b c d e f g=true then some (.int .i64 (ZK c d nm (Yj d pr))) else none
 | _,_=>none
theorem ok45:ROk d45:=by
 intro xs os r h;unfold d45 at h
 (repeat' (split at h))<;>first|(cases h;done)|(injection h with h;subst h;simp)
theorem s45:Sound Tryz.prog 45 (rdS d45 ok45):=by
 refine Zo (ac:=?ac) (res:=?res) Tryz.func45 (by kernel_rfl) (ha:=?ha) (hk:=?hk) (hok:=ok45) fun xs os r h vs ρ0 hvs=>?w
 case ha=>conv=>lhs;cbv
 case hk=>kernel_rfl
 refine ⟨xs,?_,fun _ h=>h,fun w0 S hS=>?_⟩
 ·unfold d45 at h
  (repeat' (split at h))<;>first|(cases h;done)|exact Nat.le_of_ble_eq_true rfl
 unfold d45 at h;split at h
 ·split at h
  ·rename_i a b c d e f g nm sd pr le un hcond
   injection h with h;subst h;have hE:Zd Tryz.prog (EL [(84,rdS d84 ok84)]):=Ze (by simp only[List.mem_cons,List.not_mem_nil,or_false,forall_eq_or_imp,forall_eq];exact s84);have hc:=ZE hcond;have hb1:=Zib (d:=d) (p:=pr) (by omega) (by omega);have hb0:=Zh6 (d:=d) (p:=pr) (by omega);obtain ⟨x,hx⟩:∃ z,Yj d pr=z:=⟨_,rfl⟩;rw[hx]at hb0 hb1;by_cases h1:nm<0
   ·have e1:ZK c d nm x=-1:=if_pos (.inl h1)
    repeat' with_reducible (first|refine ZR.h ?_|refine kI ?_|(refine kR hE ?_;intro K hK;simp[hcond,hx,h1,d84];(repeat' (first|refine hK _ _ ?_|apply And.intro|(intro hc;try subst hc)))<;>(try clear hK K))|(refine kT (fun hc=>?_) (fun hc=>?_)<;>simp at hc<;>(try subst hc)))
    all_goals first|(show Zb _ _=true;kernel_rfl)|(simp;done)|(simp at *;omega)|((try simp[e1,hx]);refine Imp.aut ?_ ?_<;>simp[NLe,e1,hx])
   ·by_cases h2:c≤nm
    ·have e1:ZK c d nm x=-1:=if_pos (.inr (.inl h2))
     repeat' with_reducible (first|refine ZR.h ?_|refine kI ?_|(refine kR hE ?_;intro K hK;simp[hcond,hx,h1,h2,d84];(repeat' (first|refine hK _ _ ?_|apply And.intro|(intro hc;try subst hc)))<;>(try clear hK K))|(refine kT (fun hc=>?_) (fun hc=>?_)<;>simp at hc<;>(try subst hc)))
     all_goals first|(show Zb _ _=true;kernel_rfl)|(simp;done)|(simp at *;omega)|((try simp[e1,hx]);refine Imp.aut ?_ ?_<;>simp[NLe,e1,hx])
    ·by_cases h3:x<0
     ·have e1:ZK c d nm x=-1:=if_pos (.inr (.inr (.inl h3)))
      repeat' with_reducible (first|refine ZR.h ?_|refine kI ?_|(refine kR hE ?_;intro K hK;simp[hcond,hx,h1,h2,h3,d84];(repeat' (first|refine hK _ _ ?_|apply And.intro|(intro hc;try subst hc)))<;>(try clear hK K))|(refine kT (fun hc=>?_) (fun hc=>?_)<;>simp at hc<;>(try subst hc)))
      all_goals first|(show Zb _ _=true;kernel_rfl)|(simp;done)|(simp at *;omega)|((try simp[e1,hx]);refine Imp.aut ?_ ?_<;>simp[NLe,e1,hx])
     ·have e1:ZK c d nm x=nm*d+x:=if_neg (by omega)
      have hm:=Xh (show 0≤nm by omega) (show nm≤3 by omega) (show 0≤d by omega) (show d≤4 by omega);have w1:IntKind.wrap .i64 (nm*d)=nm*d:=Zg (by omega) (by omega);have w2:IntKind.wrap .i64 (nm*d+x)=nm*d+x:=Zg (by omega) (by omega)
      repeat' with_reducible (first|refine ZR.h ?_|refine kI ?_|(refine kR hE ?_;intro K hK;simp[hcond,hx,h1,h2,h3,w1,w2,d84];(repeat' (first|refine hK _ _ ?_|apply And.intro|(intro hc;try subst hc)))<;>(try clear hK K))|(refine kT (fun hc=>?_) (fun hc=>?_)<;>simp at hc<;>(try subst hc)))
      all_goals first|(show Zb _ _=true;kernel_rfl)|(simp;done)|(simp at *;omega)|((try simp[e1,hx]);refine Imp.aut ?_ ?_<;>simp[NLe,e1,hx])
  ·cases h
 ·cases h
def d85:List AV→List NObj→Option AV
 | [.agg [.int .i64 a0,.int .i64 a1,.int .i64 a2,.int .i64 a3,.int .i64 a4],.agg [.int .i64 b0,.int .i64 b1,.int .i64 b2,.int .i64 b3,.int .i64 b4],.int .i64 l,.int .i64 o],[]=>if 0≤a2∧a2≤1000000∧0≤b2∧b2≤1000000 then some (.tup [.int .i64 (Zf ⟨a0,a1,a2,a3,a4⟩ ⟨b0,b1,b2,b3,b4⟩ l o).1,.int .i64 (Zf ⟨a0,a1,a2,a3,a4⟩ ⟨b0,b1,b2,b3,b4⟩ l o).2]) else none
 | _,_=>none
theorem ok85:ROk d85:=by
 intro xs os r h;unfold d85 at h
 (repeat' (split at h))<;>first|(cases h;done)|(injection h with h;subst h;simp)
theorem s85:Sound Tryz.prog 85 (rdS d85 ok85):=by
 refine Zo (ac:=?ac) (res:=?res) Tryz.func85 (by kernel_rfl) (ha:=?ha) (hk:=?hk) (hok:=ok85) fun xs os r h vs ρ0 hvs=>?w
 case ha=>conv=>lhs;cbv
 case hk=>kernel_rfl
 refine ⟨xs,?_,fun _ h=>h,fun w0 S hS=>?_⟩
 ·unfold d85 at h
  (repeat' (split at h))<;>first|(cases h;done)|exact Nat.le_of_ble_eq_true rfl
 unfold d85 at h;split at h
 ·split at h
  ·rename_i a0 a1 a2 a3 a4 b0 b1 b2 b3 b4 l o hcond
   injection h with h;subst h;have hE:Zd Tryz.prog (EL []):=Ze (by simp);obtain ⟨hp0,hp1,hp2,hp3⟩:=hcond;obtain ⟨mx,hm⟩:∃ mx,(if a3<b3 then b3 else a3)=mx:=⟨_,rfl⟩;by_cases h0:a1=1
   ·skip
    by_cases h1:b1≠0
    ·skip
     repeat' with_reducible (first|refine ZR.h ?_|refine kI ?_|((first|refine kR hE ?_|refine kD hE Zq ?_);intro K hK;simp[h1,h0,hm,Zf];(repeat' (first|refine hK _ _ ?_|apply And.intro|(intro hc;try subst hc)))<;>(try clear hK K))|(refine kT (fun hc=>?_) (fun hc=>?_)<;>simp at hc<;>(try subst hc)))
     all_goals first|(show Zb _ _=true;kernel_rfl)|(simp;done)|(simp at *;omega)|((try simp[h1,h0,hm,Zf]);refine Imp.aut ?_ ?_<;>simp[NLe,h1,h0,hm,Zf])
    ·have h1':b1=0:=by omega
     by_cases h3:a0≠b0
     ·have hne:¬ b0=a0:=fun h=>h3 h.symm
      repeat' with_reducible (first|refine ZR.h ?_|refine kI ?_|((first|refine kR hE ?_|refine kD hE Zq ?_);intro K hK;simp[h1',h3,hne,h0,hm,Zf];(repeat' (first|refine hK _ _ ?_|apply And.intro|(intro hc;try subst hc)))<;>(try clear hK K))|(refine kT (fun hc=>?_) (fun hc=>?_)<;>simp at hc<;>(try subst hc)))
      all_goals first|(show Zb _ _=true;kernel_rfl)|(simp;done)|(simp at *;omega)|((try simp[h1',h3,hne,h0,hm,Zf]);refine Imp.aut ?_ ?_<;>simp[NLe,h1',h3,hne,h0,hm,Zf])
     ·have h3':a0=b0:=by omega
      by_cases h4:b2<a2
      ·skip
       repeat' with_reducible (first|refine ZR.h ?_|refine kI ?_|((first|refine kR hE ?_|refine kD hE Zq ?_);intro K hK;simp[h1',h3',h4,h0,hm,Zf];(repeat' (first|refine hK _ _ ?_|apply And.intro|(intro hc;try subst hc)))<;>(try clear hK K))|(refine kT (fun hc=>?_) (fun hc=>?_)<;>simp at hc<;>(try subst hc)))
       all_goals first|(show Zb _ _=true;kernel_rfl)|(simp;done)|(simp at *;omega)|((try simp[h1',h3',h4,h0,hm,Zf]);refine Imp.aut ?_ ?_<;>simp[NLe,h1',h3',h4,h0,hm,Zf])
      ·skip
       have hmx:(a3≤mx∧b3≤mx)∧(mx=a3∨mx=b3):=(by rw[← hm];split<;>omega);by_cases h5:l<o
       ·skip
        have hq:(if o<l then o else l)=l:=(by split<;>omega);by_cases h6:l<1
        ·skip
         repeat' with_reducible (first|refine ZR.h ?_|refine kI ?_|((first|refine kR hE ?_|refine kD hE Zq ?_);intro K hK;simp[h1',h3',h4,h5,hq,h6,h0,hm,Zf];(repeat' (first|refine hK _ _ ?_|apply And.intro|(intro hc;try subst hc)))<;>(try clear hK K))|(refine kT (fun hc=>?_) (fun hc=>?_)<;>simp at hc<;>(try subst hc)))
         all_goals first|(show Zb _ _=true;kernel_rfl)|(simp;done)|(simp at *;omega)|((try simp[h1',h3',h4,h5,hq,h6,h0,hm,Zf]);refine Imp.aut ?_ ?_<;>simp[NLe,h1',h3',h4,h5,hq,h6,h0,hm,Zf])
        ·skip
         by_cases h7:l<b3
         ·have hx:l<mx:=by omega
          repeat' with_reducible (first|refine ZR.h ?_|refine kI ?_|((first|refine kR hE ?_|refine kD hE Zq ?_);intro K hK;simp[h1',h3',h4,h5,hq,h6,h7,hx,h0,hm,Zf];(repeat' (first|refine hK _ _ ?_|apply And.intro|(intro hc;try subst hc)))<;>(try clear hK K))|(refine kT (fun hc=>?_) (fun hc=>?_)<;>simp at hc<;>(try subst hc)))
          all_goals first|(show Zb _ _=true;kernel_rfl)|(simp;done)|(simp at *;omega)|((try simp[h1',h3',h4,h5,hq,h6,h7,hx,h0,hm,Zf]);refine Imp.aut ?_ ?_<;>simp[NLe,h1',h3',h4,h5,hq,h6,h7,hx,h0,hm,Zf])
         ·skip
          by_cases h8:l<a3
          ·have hx:l<mx:=by omega
           repeat' with_reducible (first|refine ZR.h ?_|refine kI ?_|((first|refine kR hE ?_|refine kD hE Zq ?_);intro K hK;simp[h1',h3',h4,h5,hq,h6,h7,h8,hx,h0,hm,Zf];(repeat' (first|refine hK _ _ ?_|apply And.intro|(intro hc;try subst hc)))<;>(try clear hK K))|(refine kT (fun hc=>?_) (fun hc=>?_)<;>simp at hc<;>(try subst hc)))
           all_goals first|(show Zb _ _=true;kernel_rfl)|(simp;done)|(simp at *;omega)|((try simp[h1',h3',h4,h5,hq,h6,h7,h8,hx,h0,hm,Zf]);refine Imp.aut ?_ ?_<;>simp[NLe,h1',h3',h4,h5,hq,h6,h7,h8,hx,h0,hm,Zf])
          ·have hx:¬ l<mx:=by omega
           have w1:IntKind.wrap .i64 (b2+a2)=b2+a2:=Zg (by omega) (by omega);have w2:IntKind.wrap .i64 ((b2+a2).tdiv 2)=(b2+a2) / 2:=Xq (by omega) (by omega) (by omega);have w3:a2+(b2 - a2) / 2=(b2+a2) / 2:=by omega
           repeat' with_reducible (first|refine ZR.h ?_|refine kI ?_|((first|refine kR hE ?_|refine kD hE Zq ?_);intro K hK;simp[h1',h3',h4,h5,hq,h6,h7,h8,hx,w1,w2,w3,h0,hm,Zf];(repeat' (first|refine hK _ _ ?_|apply And.intro|(intro hc;try subst hc)))<;>(try clear hK K))|(refine kT (fun hc=>?_) (fun hc=>?_)<;>simp at hc<;>(try subst hc)))
           all_goals first|(show Zb _ _=true;kernel_rfl)|(simp;done)|(simp at *;omega)|((try simp[h1',h3',h4,h5,hq,h6,h7,h8,hx,w1,w2,w3,h0,hm,Zf]);refine Imp.aut ?_ ?_<;>simp[NLe,h1',h3',h4,h5,hq,h6,h7,h8,hx,w1,w2,w3,h0,hm,Zf])
       ·skip
        have hq:(if o<l then o else l)=o:=(by split<;>omega);by_cases h6:o<1
        ·skip
         repeat' with_reducible (first|refine ZR.h ?_|refine kI ?_|((first|refine kR hE ?_|refine kD hE Zq ?_);intro K hK;simp[h1',h3',h4,h5,hq,h6,h0,hm,Zf];(repeat' (first|refine hK _ _ ?_|apply And.intro|(intro hc;try subst hc)))<;>(try clear hK K))|(refine kT (fun hc=>?_) (fun hc=>?_)<;>simp at hc<;>(try subst hc)))
         all_goals first|(show Zb _ _=true;kernel_rfl)|(simp;done)|(simp at *;omega)|((try simp[h1',h3',h4,h5,hq,h6,h0,hm,Zf]);refine Imp.aut ?_ ?_<;>simp[NLe,h1',h3',h4,h5,hq,h6,h0,hm,Zf])
        ·skip
         by_cases h7:o<b3
         ·have hx:o<mx:=by omega
          repeat' with_reducible (first|refine ZR.h ?_|refine kI ?_|((first|refine kR hE ?_|refine kD hE Zq ?_);intro K hK;simp[h1',h3',h4,h5,hq,h6,h7,hx,h0,hm,Zf];(repeat' (first|refine hK _ _ ?_|apply And.intro|(intro hc;try subst hc)))<;>(try clear hK K))|(refine kT (fun hc=>?_) (fun hc=>?_)<;>simp at hc<;>(try subst hc)))
          all_goals first|(show Zb _ _=true;kernel_rfl)|(simp;done)|(simp at *;omega)|((try simp[h1',h3',h4,h5,hq,h6,h7,hx,h0,hm,Zf]);refine Imp.aut ?_ ?_<;>simp[NLe,h1',h3',h4,h5,hq,h6,h7,hx,h0,hm,Zf])
         ·skip
          by_cases h8:o<a3
          ·have hx:o<mx:=by omega
           repeat' with_reducible (first|refine ZR.h ?_|refine kI ?_|((first|refine kR hE ?_|refine kD hE Zq ?_);intro K hK;simp[h1',h3',h4,h5,hq,h6,h7,h8,hx,h0,hm,Zf];(repeat' (first|refine hK _ _ ?_|apply And.intro|(intro hc;try subst hc)))<;>(try clear hK K))|(refine kT (fun hc=>?_) (fun hc=>?_)<;>simp at hc<;>(try subst hc)))
           all_goals first|(show Zb _ _=true;kernel_rfl)|(simp;done)|(simp at *;omega)|((try simp[h1',h3',h4,h5,hq,h6,h7,h8,hx,h0,hm,Zf]);refine Imp.aut ?_ ?_<;>simp[NLe,h1',h3',h4,h5,hq,h6,h7,h8,hx,h0,hm,Zf])
          ·have hx:¬ o<mx:=by omega
           have w1:IntKind.wrap .i64 (b2+a2)=b2+a2:=Zg (by omega) (by omega);have w2:IntKind.wrap .i64 ((b2+a2).tdiv 2)=(b2+a2) / 2:=Xq (by omega) (by omega) (by omega);have w3:a2+(b2 - a2) / 2=(b2+a2) / 2:=by omega
           repeat' with_reducible (first|refine ZR.h ?_|refine kI ?_|((first|refine kR hE ?_|refine kD hE Zq ?_);intro K hK;simp[h1',h3',h4,h5,hq,h6,h7,h8,hx,w1,w2,w3,h0,hm,Zf];(repeat' (first|refine hK _ _ ?_|apply And.intro|(intro hc;try subst hc)))<;>(try clear hK K))|(refine kT (fun hc=>?_) (fun hc=>?_)<;>simp at hc<;>(try subst hc)))
           all_goals first|(show Zb _ _=true;kernel_rfl)|(simp;done)|(simp at *;omega)|((try simp[h1',h3',h4,h5,hq,h6,h7,h8,hx,w1,w2,w3,h0,hm,Zf]);refine Imp.aut ?_ ?_<;>simp[NLe,h1',h3',h4,h5,hq,h6,h7,h8,hx,w1,w2,w3,h0,hm,Zf])
   ·skip
    by_cases h1:a1≠0
    ·skip
     repeat' with_reducible (first|refine ZR.h ?_|refine kI ?_|((first|refine kR hE ?_|refine kD hE Zq ?_);intro K hK;simp[h1,h0,hm,Zf];(repeat' (first|refine hK _ _ ?_|apply And.intro|(intro hc;try subst hc)))<;>(try clear hK K))|(refine kT (fun hc=>?_) (fun hc=>?_)<;>simp at hc<;>(try subst hc)))
     all_goals first|(show Zb _ _=true;kernel_rfl)|(simp;done)|(simp at *;omega)|((try simp[h1,h0,hm,Zf]);refine Imp.aut ?_ ?_<;>simp[NLe,h1,h0,hm,Zf])
    ·have h1':a1=0:=by omega
     by_cases h2:b1≠1
     ·skip
      repeat' with_reducible (first|refine ZR.h ?_|refine kI ?_|((first|refine kR hE ?_|refine kD hE Zq ?_);intro K hK;simp[h1',h2,h0,hm,Zf];(repeat' (first|refine hK _ _ ?_|apply And.intro|(intro hc;try subst hc)))<;>(try clear hK K))|(refine kT (fun hc=>?_) (fun hc=>?_)<;>simp at hc<;>(try subst hc)))
      all_goals first|(show Zb _ _=true;kernel_rfl)|(simp;done)|(simp at *;omega)|((try simp[h1',h2,h0,hm,Zf]);refine Imp.aut ?_ ?_<;>simp[NLe,h1',h2,h0,hm,Zf])
     ·have h2':b1=1:=by omega
      by_cases h3:a0≠b0
      ·have hne:¬ b0=a0:=fun h=>h3 h.symm
       repeat' with_reducible (first|refine ZR.h ?_|refine kI ?_|((first|refine kR hE ?_|refine kD hE Zq ?_);intro K hK;simp[h1',h2',h3,hne,h0,hm,Zf];(repeat' (first|refine hK _ _ ?_|apply And.intro|(intro hc;try subst hc)))<;>(try clear hK K))|(refine kT (fun hc=>?_) (fun hc=>?_)<;>simp at hc<;>(try subst hc)))
       all_goals first|(show Zb _ _=true;kernel_rfl)|(simp;done)|(simp at *;omega)|((try simp[h1',h2',h3,hne,h0,hm,Zf]);refine Imp.aut ?_ ?_<;>simp[NLe,h1',h2',h3,hne,h0,hm,Zf])
      ·have h3':a0=b0:=by omega
       by_cases h4:a2<b2
       ·skip
        repeat' with_reducible (first|refine ZR.h ?_|refine kI ?_|((first|refine kR hE ?_|refine kD hE Zq ?_);intro K hK;simp[h1',h2',h3',h4,h0,hm,Zf];(repeat' (first|refine hK _ _ ?_|apply And.intro|(intro hc;try subst hc)))<;>(try clear hK K))|(refine kT (fun hc=>?_) (fun hc=>?_)<;>simp at hc<;>(try subst hc)))
        all_goals first|(show Zb _ _=true;kernel_rfl)|(simp;done)|(simp at *;omega)|((try simp[h1',h2',h3',h4,h0,hm,Zf]);refine Imp.aut ?_ ?_<;>simp[NLe,h1',h2',h3',h4,h0,hm,Zf])
       ·skip
        have hmx:(a3≤mx∧b3≤mx)∧(mx=a3∨mx=b3):=(by rw[← hm];split<;>omega);by_cases h5:o<l
        ·skip
         have hq:(if o<l then o else l)=o:=(by split<;>omega);by_cases h6:o<1
         ·skip
          repeat' with_reducible (first|refine ZR.h ?_|refine kI ?_|((first|refine kR hE ?_|refine kD hE Zq ?_);intro K hK;simp[h1',h2',h3',h4,h5,hq,h6,h0,hm,Zf];(repeat' (first|refine hK _ _ ?_|apply And.intro|(intro hc;try subst hc)))<;>(try clear hK K))|(refine kT (fun hc=>?_) (fun hc=>?_)<;>simp at hc<;>(try subst hc)))
          all_goals first|(show Zb _ _=true;kernel_rfl)|(simp;done)|(simp at *;omega)|((try simp[h1',h2',h3',h4,h5,hq,h6,h0,hm,Zf]);refine Imp.aut ?_ ?_<;>simp[NLe,h1',h2',h3',h4,h5,hq,h6,h0,hm,Zf])
         ·skip
          by_cases h7:o<a3
          ·have hx:o<mx:=by omega
           repeat' with_reducible (first|refine ZR.h ?_|refine kI ?_|((first|refine kR hE ?_|refine kD hE Zq ?_);intro K hK;simp[h1',h2',h3',h4,h5,hq,h6,h7,hx,h0,hm,Zf];(repeat' (first|refine hK _ _ ?_|apply And.intro|(intro hc;try subst hc)))<;>(try clear hK K))|(refine kT (fun hc=>?_) (fun hc=>?_)<;>simp at hc<;>(try subst hc)))
           all_goals first|(show Zb _ _=true;kernel_rfl)|(simp;done)|(simp at *;omega)|((try simp[h1',h2',h3',h4,h5,hq,h6,h7,hx,h0,hm,Zf]);refine Imp.aut ?_ ?_<;>simp[NLe,h1',h2',h3',h4,h5,hq,h6,h7,hx,h0,hm,Zf])
          ·skip
           by_cases h8:o<b3
           ·have hx:o<mx:=by omega
            repeat' with_reducible (first|refine ZR.h ?_|refine kI ?_|((first|refine kR hE ?_|refine kD hE Zq ?_);intro K hK;simp[h1',h2',h3',h4,h5,hq,h6,h7,h8,hx,h0,hm,Zf];(repeat' (first|refine hK _ _ ?_|apply And.intro|(intro hc;try subst hc)))<;>(try clear hK K))|(refine kT (fun hc=>?_) (fun hc=>?_)<;>simp at hc<;>(try subst hc)))
            all_goals first|(show Zb _ _=true;kernel_rfl)|(simp;done)|(simp at *;omega)|((try simp[h1',h2',h3',h4,h5,hq,h6,h7,h8,hx,h0,hm,Zf]);refine Imp.aut ?_ ?_<;>simp[NLe,h1',h2',h3',h4,h5,hq,h6,h7,h8,hx,h0,hm,Zf])
           ·have hx:¬ o<mx:=by omega
            have w1:IntKind.wrap .i64 (a2+b2)=a2+b2:=Zg (by omega) (by omega);have w2:IntKind.wrap .i64 ((a2+b2).tdiv 2)=(a2+b2) / 2:=Xq (by omega) (by omega) (by omega);have w3:b2+(a2 - b2) / 2=(a2+b2) / 2:=by omega
            repeat' with_reducible (first|refine ZR.h ?_|refine kI ?_|((first|refine kR hE ?_|refine kD hE Zq ?_);intro K hK;simp[h1',h2',h3',h4,h5,hq,h6,h7,h8,hx,w1,w2,w3,h0,hm,Zf];(repeat' (first|refine hK _ _ ?_|apply And.intro|(intro hc;try subst hc)))<;>(try clear hK K))|(refine kT (fun hc=>?_) (fun hc=>?_)<;>simp at hc<;>(try subst hc)))
            all_goals first|(show Zb _ _=true;kernel_rfl)|(simp;done)|(simp at *;omega)|((try simp[h1',h2',h3',h4,h5,hq,h6,h7,h8,hx,w1,w2,w3,h0,hm,Zf]);refine Imp.aut ?_ ?_<;>simp[NLe,h1',h2',h3',h4,h5,hq,h6,h7,h8,hx,w1,w2,w3,h0,hm,Zf])
        ·skip
         have hq:(if o<l then o else l)=l:=(by split<;>omega);by_cases h6:l<1
         ·skip
          repeat' with_reducible (first|refine ZR.h ?_|refine kI ?_|((first|refine kR hE ?_|refine kD hE Zq ?_);intro K hK;simp[h1',h2',h3',h4,h5,hq,h6,h0,hm,Zf];(repeat' (first|refine hK _ _ ?_|apply And.intro|(intro hc;try subst hc)))<;>(try clear hK K))|(refine kT (fun hc=>?_) (fun hc=>?_)<;>simp at hc<;>(try subst hc)))
          all_goals first|(show Zb _ _=true;kernel_rfl)|(simp;done)|(simp at *;omega)|((try simp[h1',h2',h3',h4,h5,hq,h6,h0,hm,Zf]);refine Imp.aut ?_ ?_<;>simp[NLe,h1',h2',h3',h4,h5,hq,h6,h0,hm,Zf])
         ·skip
          by_cases h7:l<a3
          ·have hx:l<mx:=by omega
           repeat' with_reducible (first|refine ZR.h ?_|refine kI ?_|((first|refine kR hE ?_|refine kD hE Zq ?_);intro K hK;simp[h1',h2',h3',h4,h5,hq,h6,h7,hx,h0,hm,Zf];(repeat' (first|refine hK _ _ ?_|apply And.intro|(intro hc;try subst hc)))<;>(try clear hK K))|(refine kT (fun hc=>?_) (fun hc=>?_)<;>simp at hc<;>(try subst hc)))
           all_goals first|(show Zb _ _=true;kernel_rfl)|(simp;done)|(simp at *;omega)|((try simp[h1',h2',h3',h4,h5,hq,h6,h7,hx,h0,hm,Zf]);refine Imp.aut ?_ ?_<;>simp[NLe,h1',h2',h3',h4,h5,hq,h6,h7,hx,h0,hm,Zf])
          ·skip
           by_cases h8:l<b3
           ·have hx:l<mx:=by omega
            repeat' with_reducible (first|refine ZR.h ?_|refine kI ?_|((first|refine kR hE ?_|refine kD hE Zq ?_);intro K hK;simp[h1',h2',h3',h4,h5,hq,h6,h7,h8,hx,h0,hm,Zf];(repeat' (first|refine hK _ _ ?_|apply And.intro|(intro hc;try subst hc)))<;>(try clear hK K))|(refine kT (fun hc=>?_) (fun hc=>?_)<;>simp at hc<;>(try subst hc)))
            all_goals first|(show Zb _ _=true;kernel_rfl)|(simp;done)|(simp at *;omega)|((try simp[h1',h2',h3',h4,h5,hq,h6,h7,h8,hx,h0,hm,Zf]);refine Imp.aut ?_ ?_<;>simp[NLe,h1',h2',h3',h4,h5,hq,h6,h7,h8,hx,h0,hm,Zf])
           ·have hx:¬ l<mx:=by omega
            have w1:IntKind.wrap .i64 (a2+b2)=a2+b2:=Zg (by omega) (by omega);have w2:IntKind.wrap .i64 ((a2+b2).tdiv 2)=(a2+b2) / 2:=Xq (by omega) (by omega) (by omega);have w3:b2+(a2 - b2) / 2=(a2+b2) / 2:=by omega
            repeat' with_reducible (first|refine ZR.h ?_|refine kI ?_|((first|refine kR hE ?_|refine kD hE Zq ?_);intro K hK;simp[h1',h2',h3',h4,h5,hq,h6,h7,h8,hx,w1,w2,w3,h0,hm,Zf];(repeat' (first|refine hK _ _ ?_|apply And.intro|(intro hc;try subst hc)))<;>(try clear hK K))|(refine kT (fun hc=>?_) (fun hc=>?_)<;>simp at hc<;>(try subst hc)))
            all_goals first|(show Zb _ _=true;kernel_rfl)|(simp;done)|(simp at *;omega)|((try simp[h1',h2',h3',h4,h5,hq,h6,h7,h8,hx,w1,w2,w3,h0,hm,Zf]);refine Imp.aut ?_ ?_<;>simp[NLe,h1',h2',h3',h4,h5,hq,h6,h7,h8,hx,w1,w2,w3,h0,hm,Zf])
  ·cases h
 ·cases h
structure RZ where
 way:Int
 x:Int
 gn:Int
 y:Int
 sh:Int
 pc:Int
 sx:StZ
 sy:StZ
 nx:StZ
 ny:StZ
 tx:TmZ
 ty:TmZ
 held:Bool
 made:Bool
 free:Bool
 q:Int
 p:Int
 ta:Int
 en:Int
def rzC (R:RZ):List AV:=[.int .i64 R.way,.int .i64 R.x,.int .i64 R.gn,.int .i64 R.y,.int .i64 R.sh,.int .i64 R.pc,.int .i64 R.sx.k,.bool R.sx.fl,.int .i64 R.sx.g,.int .i64 R.sx.l,.int .i64 R.sx.f,.int .i64 R.sy.k,.bool R.sy.fl,.int .i64 R.sy.g,.int .i64 R.sy.l,.int .i64 R.sy.f,.int .i64 R.nx.k,.bool R.nx.fl,.int .i64 R.nx.g,.int .i64 R.nx.l,.int .i64 R.nx.f,.int .i64 R.ny.k,.bool R.ny.fl,.int .i64 R.ny.g,.int .i64 R.ny.l,.int .i64 R.ny.f,.int .i64 R.tx.nm,.int .i64 R.tx.sd,.int .i64 R.tx.pr,.int .i64 R.tx.le,.int .i64 R.tx.un,.int .i64 R.ty.nm,.int .i64 R.ty.sd,.int .i64 R.ty.pr,.int .i64 R.ty.le,.int .i64 R.ty.un,.bool R.held,.bool R.made,.bool R.free,.int .i64 R.q,.int .i64 R.p,.int .i64 R.ta,.int .i64 R.en]
def Zje:List AV→Option RZ
 | .int .i64 v0 :: .int .i64 v1 :: .int .i64 v2 :: .int .i64 v3 :: .int .i64 v4 :: .int .i64 v5 :: .int .i64 v6 :: .bool v7 :: .int .i64 v8 :: .int .i64 v9 :: .int .i64 v10 :: .int .i64 v11 :: .bool v12 :: .int .i64 v13 :: .int .i64 v14 :: .int .i64 v15 :: .int .i64 v16 :: .bool v17 :: .int .i64 v18 :: .int .i64 v19 :: .int .i64 v20 :: .int .i64 v21 :: .bool v22 :: .int .i64 v23 :: .int .i64 v24 :: .int .i64 v25 :: .int .i64 v26 :: .int .i64 v27 :: .int .i64 v28 :: .int .i64 v29 :: .int .i64 v30 :: .int .i64 v31 :: .int .i64 v32 :: .int .i64 v33 :: .int .i64 v34 :: .int .i64 v35 :: .bool v36 :: .bool v37 :: .bool v38 :: .int .i64 v39 :: .int .i64 v40 :: .int .i64 v41 :: .int .i64 v42 :: []=>some ⟨v0,v1,v2,v3,v4,v5,⟨v6,v7,v8,v9,v10⟩,⟨v11,v12,v13,v14,v15⟩,⟨v16,v17,v18,v19,v20⟩,⟨v21,v22,v23,v24,v25⟩,⟨v26,v27,v28,v29,v30⟩,⟨v31,v32,v33,v34,v35⟩,v36,v37,v38,v39,v40,v41,v42⟩
 | _=>none
theorem vp (R:RZ):Zje (rzC R)=some R:=rfl
theorem Ux {c:List AV} {R:RZ} (h:Zje c=some R):c=rzC R:=by
 unfold Zje at h;split at h
 ·injection h with h;subst h;rfl
 ·cases h
theorem X3 (R:RZ):t0L (rzC R)=rzC R:=by simp[rzC,t0L,AV.t0]
theorem X6 (R:RZ):clL (rzC R)=true:=by simp[rzC,clL,AV.cl]
def smS (s:StZ):Bool:=decide (0≤s.k∧s.k≤1000000∧0≤s.l∧s.l≤1000000∧0≤s.f∧s.f≤1000000)
theorem yK {s:StZ} (h:smS s=true):0≤s.k∧s.k≤1000000∧0≤s.l∧s.l≤1000000∧0≤s.f∧s.f≤1000000:=of_decide_eq_true h
def okR (R:RZ):Bool:=decide (0≤R.pc∧R.pc≤1000000∧smS R.sx=true∧smS R.sy=true∧smS R.nx=true∧smS R.ny=true∧0≤R.tx.pr∧R.tx.pr≤1000000∧0≤R.ty.pr∧R.ty.pr≤1000000)
theorem yh {R:RZ} (h:okR R=true):0≤R.pc∧R.pc≤1000000∧smS R.sx=true∧smS R.sy=true∧smS R.nx=true∧smS R.ny=true∧0≤R.tx.pr∧R.tx.pr≤1000000∧0≤R.ty.pr∧R.ty.pr≤1000000:=of_decide_eq_true h
def XE (Q:QZ) (R:RZ):RZ×QZ :=
 if R.held=false∨R.sy.k≠(if R.way=1 then 1 else 2)∨(R.way=2∧ZK Q.c Q.d R.ty.nm (Yj Q.d R.ty.pr)≠R.sh) then (R,Q)
 else if (Zz R.sy (Zf R.tx R.ty R.sx.l R.sy.l).1 Q.f).2≠0 then ({ R with q:=(Zf R.tx R.ty R.sx.l R.sy.l).1,p:=(Zf R.tx R.ty R.sx.l R.sy.l).2 },Q)
 else if (ZO Q R.y R.sy (Zz R.sy (Zf R.tx R.ty R.sx.l R.sy.l).1 Q.f).1).1=false then ({ R with q:=(Zf R.tx R.ty R.sx.l R.sy.l).1,p:=(Zf R.tx R.ty R.sx.l R.sy.l).2 },(ZO Q R.y R.sy (Zz R.sy (Zf R.tx R.ty R.sx.l R.sy.l).1 Q.f).1).2)
 else ({ R with q:=(Zf R.tx R.ty R.sx.l R.sy.l).1,p:=(Zf R.tx R.ty R.sx.l R.sy.l).2,made:=true,ny:=(Zz R.sy (Zf R.tx R.ty R.sx.l R.sy.l).1 Q.f).1,ta:=Q.now },U5 (ZO Q R.y R.sy (Zz R.sy (Zf R.tx R.ty R.sx.l R.sy.l).1 Q.f).1).2 2 R.x R.sx.g R.y R.sy.g (Zf R.tx R.ty R.sx.l R.sy.l).1 (Zf R.tx R.ty R.sx.l R.sy.l).2 0)
def T7 (Q:QZ) (R:RZ):RZ×QZ :=
 if R.held=false∨R.free=true then (R,Q)
 else if (Zh R.sx (if R.made=true then R.q else 0) Q.f).2≠0 then (R,Q)
 else if (ZO Q R.x R.sx (Zh R.sx (if R.made=true then R.q else 0) Q.f).1).1=false then (R,(ZO Q R.x R.sx (Zh R.sx (if R.made=true then R.q else 0) Q.f).1).2)
 else ({ R with free:=true,nx:=(Zh R.sx (if R.made=true then R.q else 0) Q.f).1,en:=Q.now },if 5≤(Zh R.sx (if R.made=true then R.q else 0) Q.f).1.k then U5 (ZO Q R.x R.sx (Zh R.sx (if R.made=true then R.q else 0) Q.f).1).2 7 R.x (Zh R.sx (if R.made=true then R.q else 0) Q.f).1.g 0 0 0 0 (Zh R.sx (if R.made=true then R.q else 0) Q.f).1.k else (ZO Q R.x R.sx (Zh R.sx (if R.made=true then R.q else 0) Q.f).1).2)
theorem yZ {Q:QZ} (h:okQ Q=true) (R:RZ):okQ (XE Q R).2=true:=by
 unfold XE;generalize (if R.way=1 then (1:Int) else 2)=kd;split
 ·exact h
 ·split
  ·exact h
  ·split
   ·exact Ye h _ _ _
   ·exact XB (Ye h _ _ _) _ _ _ _ _ _ _ _
theorem yo {Q:QZ} (h:okQ Q=true) (R:RZ):okQ (T7 Q R).2=true:=by
 unfold T7;generalize (if R.made=true then R.q else 0)=qy;split
 ·exact h
 ·split
  ·exact h
  ·split
   ·exact Ye h _ _ _
   ·simp only
    split
    ·exact XB (Ye h _ _ _) _ _ _ _ _ _ _ _
    ·exact Ye h _ _ _
theorem YR {Q:QZ} (h:okQ Q=true) (φ:zw):Yy φ (qzC Q) (qzC Q):=by
 have q8:=(Zr h).2.2.2.2.2.2.2.1;simp[qzC,Z4,Z5,Z7,Z6,Z1,Z0,ZC q8,ZD q8]
def d47:List AV→Option Ans
 | [.op _ (.int .i64 sw :: .int .i64 sp :: r),.op _ q]=>(match Zje r,Zay q with
  | some R,some Q=>if okR R=true∧okQ Q=true∧smQ Q=true∧0≤R.x∧R.x<Q.a*Q.b∧0≤R.y∧R.y<Q.a*Q.b then some ⟨.tup [],[.cells 0 (.int .i64 sw :: .int .i64 sp :: rzC (XE Q R).1),.cells 0 (qzC (XE Q R).2)]⟩ else none
  | _,_=>none)
 | _=>none
theorem ok47:NOk [(45,true),(13,true)] d47:=by
 intro xs aa h;unfold d47 at h;split at h
 ·rename_i t1 sw sp r t2 q
  split at h
  ·rename_i R Q hR hQ
   split at h
   ·rename_i hc
    obtain rfl:=Yv hQ;obtain rfl:=Ux hR;injection h with h;subst h;have hok:=hc.2.1;have q8:=(Zr hok).2.2.2.2.2.2.2.1;have q82:=(Zr (yZ hok R)).2.2.2.2.2.2.2.1;refine ⟨Zp ?_,?_⟩
    ·simp[Y3 Q q8,YA Q q8,YA _ q82,X3,X6]
    ·simp
   ·cases h
  ·cases h
 ·cases h
theorem UC {Q:QZ} (h:smQ Q=true) (x:Int) (o s:StZ):Zhq (ZO Q x o s).2=true:=by
 obtain ⟨h1,h2⟩:=Xt h;unfold ZO;split<;>exact decide_eq_true ⟨by simp only;omega,h2⟩
theorem VB (Q:QZ) (x:Int) (o s:StZ):(ZO Q x o s).2.now=Q.now:=by
 unfold ZO;split<;>rfl
end Go.W
