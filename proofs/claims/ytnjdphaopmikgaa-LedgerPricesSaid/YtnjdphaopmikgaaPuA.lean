/- A part of the proofs about the pair's laws (PuA). -/
import Derived.Test.YtnjdphaopmikgaaPsI
import Derived.Test.YtnjdphaopmikgaaPsG
namespace Go.W
open Go.Proofs
set_option linter.unusedSimpArgs false
set_option linter.unusedVariables false
set_option maxHeartbeats 8000000
attribute [local irreducible] Wm
attribute [local simp] Yu lkp Ui prs Th prT ddL idL Yn U1 Ren Vz NObj.none ZZ
def d31:List AV→List NObj→Option AV
 | [.agg [.int .i64 a0,.int .i64 a1,.int .i64 a2,.int .i64 a3,.int .i64 a4],.agg [.int .i64 b0,.int .i64 b1,.int .i64 b2,.int .i64 b3,.int .i64 b4],.int .i64 l,.int .i64 o],[]=>if 0≤a2∧a2≤1000000∧0≤b2∧b2≤1000000 then some (.tup [.int .i64 (Zb ⟨a0,a1,a2,a3,a4⟩ ⟨b0,b1,b2,b3,b4⟩ l o).1,.int .i64 (Zb ⟨a0,a1,a2,a3,a4⟩ ⟨b0,b1,b2,b3,b4⟩ l o).2]) else none
 | _,_=>none
theorem ok31:ROk d31:=by
 intro xs os r h;unfold d31 at h
 (repeat' (split at h))<;>first|(cases h;done)|(injection h with h;subst h;simp)
theorem s31:Sound Try.prog 31 (rdS d31 ok31):=by
 refine Zn C31.a C31.b C31.c C31.d ok31 fun xs os r h vs ρ0 hvs=>⟨xs,?_,fun _ h=>h,fun w0 S hS=>?_⟩
 ·unfold d31 at h
  (repeat' (split at h))<;>first|(cases h;done)|exact Nat.le_of_ble_eq_true rfl
 unfold d31 at h;split at h
 ·split at h
  ·rename_i a0 a1 a2 a3 a4 b0 b1 b2 b3 b4 l o hcond
   injection h with h;subst h;have hE:Zd Try.prog (EL []):=Zf (by simp);obtain ⟨hp0,hp1,hp2,hp3⟩:=hcond;obtain ⟨mx,hm⟩:∃ mx,(if a3<b3 then b3 else a3)=mx:=⟨_,rfl⟩;by_cases h0:a1=1
   ·skip
    by_cases h1:b1≠0
    ·unfold m31
     repeat' with_reducible (first|refine ZR.h ?_|refine zI ?_|((first|refine zK hE ?_|refine zM hE ?_);intro K hK;simp[h1,h0,hm,Zb];(repeat' (first|refine hK _ _ ?_|apply And.intro|(intro hc;try subst hc)))<;>(try clear hK K))|(refine zJ (fun hc=>?_) (fun hc=>?_)<;>simp at hc<;>(try subst hc)))
     all_goals first|(simp;done)|(simp at *;omega)|((try simp[h1,h0,hm,Zb]);refine Imp.aut ?_ ?_<;>simp[NLe,h1,h0,hm,Zb])
    ·have h1':b1=0:=by omega
     by_cases h3:a0≠b0
     ·have hne:¬ b0=a0:=fun h=>h3 h.symm
      unfold m31
      repeat' with_reducible (first|refine ZR.h ?_|refine zI ?_|((first|refine zK hE ?_|refine zM hE ?_);intro K hK;simp[h1',h3,hne,h0,hm,Zb];(repeat' (first|refine hK _ _ ?_|apply And.intro|(intro hc;try subst hc)))<;>(try clear hK K))|(refine zJ (fun hc=>?_) (fun hc=>?_)<;>simp at hc<;>(try subst hc)))
      all_goals first|(simp;done)|(simp at *;omega)|((try simp[h1',h3,hne,h0,hm,Zb]);refine Imp.aut ?_ ?_<;>simp[NLe,h1',h3,hne,h0,hm,Zb])
     ·have h3':a0=b0:=by omega
      by_cases h4:b2<a2
      ·unfold m31
       repeat' with_reducible (first|refine ZR.h ?_|refine zI ?_|((first|refine zK hE ?_|refine zM hE ?_);intro K hK;simp[h1',h3',h4,h0,hm,Zb];(repeat' (first|refine hK _ _ ?_|apply And.intro|(intro hc;try subst hc)))<;>(try clear hK K))|(refine zJ (fun hc=>?_) (fun hc=>?_)<;>simp at hc<;>(try subst hc)))
       all_goals first|(simp;done)|(simp at *;omega)|((try simp[h1',h3',h4,h0,hm,Zb]);refine Imp.aut ?_ ?_<;>simp[NLe,h1',h3',h4,h0,hm,Zb])
      ·skip
       have hmx:(a3≤mx∧b3≤mx)∧(mx=a3∨mx=b3):=(by rw[← hm];split<;>omega);by_cases h5:l<o
       ·skip
        have hq:(if o<l then o else l)=l:=(by split<;>omega);by_cases h6:l<1
        ·unfold m31
         repeat' with_reducible (first|refine ZR.h ?_|refine zI ?_|((first|refine zK hE ?_|refine zM hE ?_);intro K hK;simp[h1',h3',h4,h5,hq,h6,h0,hm,Zb];(repeat' (first|refine hK _ _ ?_|apply And.intro|(intro hc;try subst hc)))<;>(try clear hK K))|(refine zJ (fun hc=>?_) (fun hc=>?_)<;>simp at hc<;>(try subst hc)))
         all_goals first|(simp;done)|(simp at *;omega)|((try simp[h1',h3',h4,h5,hq,h6,h0,hm,Zb]);refine Imp.aut ?_ ?_<;>simp[NLe,h1',h3',h4,h5,hq,h6,h0,hm,Zb])
        ·skip
         by_cases h7:l<b3
         ·have hx:l<mx:=by omega
          unfold m31
          repeat' with_reducible (first|refine ZR.h ?_|refine zI ?_|((first|refine zK hE ?_|refine zM hE ?_);intro K hK;simp[h1',h3',h4,h5,hq,h6,h7,hx,h0,hm,Zb];(repeat' (first|refine hK _ _ ?_|apply And.intro|(intro hc;try subst hc)))<;>(try clear hK K))|(refine zJ (fun hc=>?_) (fun hc=>?_)<;>simp at hc<;>(try subst hc)))
          all_goals first|(simp;done)|(simp at *;omega)|((try simp[h1',h3',h4,h5,hq,h6,h7,hx,h0,hm,Zb]);refine Imp.aut ?_ ?_<;>simp[NLe,h1',h3',h4,h5,hq,h6,h7,hx,h0,hm,Zb])
         ·skip
          by_cases h8:l<a3
          ·have hx:l<mx:=by omega
           unfold m31
           repeat' with_reducible (first|refine ZR.h ?_|refine zI ?_|((first|refine zK hE ?_|refine zM hE ?_);intro K hK;simp[h1',h3',h4,h5,hq,h6,h7,h8,hx,h0,hm,Zb];(repeat' (first|refine hK _ _ ?_|apply And.intro|(intro hc;try subst hc)))<;>(try clear hK K))|(refine zJ (fun hc=>?_) (fun hc=>?_)<;>simp at hc<;>(try subst hc)))
           all_goals first|(simp;done)|(simp at *;omega)|((try simp[h1',h3',h4,h5,hq,h6,h7,h8,hx,h0,hm,Zb]);refine Imp.aut ?_ ?_<;>simp[NLe,h1',h3',h4,h5,hq,h6,h7,h8,hx,h0,hm,Zb])
          ·have hx:¬ l<mx:=by omega
           have w1:IntKind.wrap .i64 (b2+a2)=b2+a2:=Zh (by omega) (by omega);have w2:IntKind.wrap .i64 ((b2+a2).tdiv 2)=(b2+a2) / 2:=VE (by omega) (by omega) (by omega);have w3:a2+(b2 - a2) / 2=(b2+a2) / 2:=(by omega);unfold m31
           repeat' with_reducible (first|refine ZR.h ?_|refine zI ?_|((first|refine zK hE ?_|refine zM hE ?_);intro K hK;simp[h1',h3',h4,h5,hq,h6,h7,h8,hx,w1,w2,w3,h0,hm,Zb];(repeat' (first|refine hK _ _ ?_|apply And.intro|(intro hc;try subst hc)))<;>(try clear hK K))|(refine zJ (fun hc=>?_) (fun hc=>?_)<;>simp at hc<;>(try subst hc)))
           all_goals first|(simp;done)|(simp at *;omega)|((try simp[h1',h3',h4,h5,hq,h6,h7,h8,hx,w1,w2,w3,h0,hm,Zb]);refine Imp.aut ?_ ?_<;>simp[NLe,h1',h3',h4,h5,hq,h6,h7,h8,hx,w1,w2,w3,h0,hm,Zb])
       ·skip
        have hq:(if o<l then o else l)=o:=(by split<;>omega);by_cases h6:o<1
        ·unfold m31
         repeat' with_reducible (first|refine ZR.h ?_|refine zI ?_|((first|refine zK hE ?_|refine zM hE ?_);intro K hK;simp[h1',h3',h4,h5,hq,h6,h0,hm,Zb];(repeat' (first|refine hK _ _ ?_|apply And.intro|(intro hc;try subst hc)))<;>(try clear hK K))|(refine zJ (fun hc=>?_) (fun hc=>?_)<;>simp at hc<;>(try subst hc)))
         all_goals first|(simp;done)|(simp at *;omega)|((try simp[h1',h3',h4,h5,hq,h6,h0,hm,Zb]);refine Imp.aut ?_ ?_<;>simp[NLe,h1',h3',h4,h5,hq,h6,h0,hm,Zb])
        ·skip
         by_cases h7:o<b3
         ·have hx:o<mx:=by omega
          unfold m31
          repeat' with_reducible (first|refine ZR.h ?_|refine zI ?_|((first|refine zK hE ?_|refine zM hE ?_);intro K hK;simp[h1',h3',h4,h5,hq,h6,h7,hx,h0,hm,Zb];(repeat' (first|refine hK _ _ ?_|apply And.intro|(intro hc;try subst hc)))<;>(try clear hK K))|(refine zJ (fun hc=>?_) (fun hc=>?_)<;>simp at hc<;>(try subst hc)))
          all_goals first|(simp;done)|(simp at *;omega)|((try simp[h1',h3',h4,h5,hq,h6,h7,hx,h0,hm,Zb]);refine Imp.aut ?_ ?_<;>simp[NLe,h1',h3',h4,h5,hq,h6,h7,hx,h0,hm,Zb])
         ·skip
          by_cases h8:o<a3
          ·have hx:o<mx:=by omega
           unfold m31
           repeat' with_reducible (first|refine ZR.h ?_|refine zI ?_|((first|refine zK hE ?_|refine zM hE ?_);intro K hK;simp[h1',h3',h4,h5,hq,h6,h7,h8,hx,h0,hm,Zb];(repeat' (first|refine hK _ _ ?_|apply And.intro|(intro hc;try subst hc)))<;>(try clear hK K))|(refine zJ (fun hc=>?_) (fun hc=>?_)<;>simp at hc<;>(try subst hc)))
           all_goals first|(simp;done)|(simp at *;omega)|((try simp[h1',h3',h4,h5,hq,h6,h7,h8,hx,h0,hm,Zb]);refine Imp.aut ?_ ?_<;>simp[NLe,h1',h3',h4,h5,hq,h6,h7,h8,hx,h0,hm,Zb])
          ·have hx:¬ o<mx:=by omega
           have w1:IntKind.wrap .i64 (b2+a2)=b2+a2:=Zh (by omega) (by omega);have w2:IntKind.wrap .i64 ((b2+a2).tdiv 2)=(b2+a2) / 2:=VE (by omega) (by omega) (by omega);have w3:a2+(b2 - a2) / 2=(b2+a2) / 2:=(by omega);unfold m31
           repeat' with_reducible (first|refine ZR.h ?_|refine zI ?_|((first|refine zK hE ?_|refine zM hE ?_);intro K hK;simp[h1',h3',h4,h5,hq,h6,h7,h8,hx,w1,w2,w3,h0,hm,Zb];(repeat' (first|refine hK _ _ ?_|apply And.intro|(intro hc;try subst hc)))<;>(try clear hK K))|(refine zJ (fun hc=>?_) (fun hc=>?_)<;>simp at hc<;>(try subst hc)))
           all_goals first|(simp;done)|(simp at *;omega)|((try simp[h1',h3',h4,h5,hq,h6,h7,h8,hx,w1,w2,w3,h0,hm,Zb]);refine Imp.aut ?_ ?_<;>simp[NLe,h1',h3',h4,h5,hq,h6,h7,h8,hx,w1,w2,w3,h0,hm,Zb])
   ·skip
    by_cases h1:a1≠0
    ·unfold m31
     repeat' with_reducible (first|refine ZR.h ?_|refine zI ?_|((first|refine zK hE ?_|refine zM hE ?_);intro K hK;simp[h1,h0,hm,Zb];(repeat' (first|refine hK _ _ ?_|apply And.intro|(intro hc;try subst hc)))<;>(try clear hK K))|(refine zJ (fun hc=>?_) (fun hc=>?_)<;>simp at hc<;>(try subst hc)))
     all_goals first|(simp;done)|(simp at *;omega)|((try simp[h1,h0,hm,Zb]);refine Imp.aut ?_ ?_<;>simp[NLe,h1,h0,hm,Zb])
    ·have h1':a1=0:=by omega
     by_cases h2:b1≠1
     ·unfold m31
      repeat' with_reducible (first|refine ZR.h ?_|refine zI ?_|((first|refine zK hE ?_|refine zM hE ?_);intro K hK;simp[h1',h2,h0,hm,Zb];(repeat' (first|refine hK _ _ ?_|apply And.intro|(intro hc;try subst hc)))<;>(try clear hK K))|(refine zJ (fun hc=>?_) (fun hc=>?_)<;>simp at hc<;>(try subst hc)))
      all_goals first|(simp;done)|(simp at *;omega)|((try simp[h1',h2,h0,hm,Zb]);refine Imp.aut ?_ ?_<;>simp[NLe,h1',h2,h0,hm,Zb])
     ·have h2':b1=1:=by omega
      by_cases h3:a0≠b0
      ·have hne:¬ b0=a0:=fun h=>h3 h.symm
       unfold m31
       repeat' with_reducible (first|refine ZR.h ?_|refine zI ?_|((first|refine zK hE ?_|refine zM hE ?_);intro K hK;simp[h1',h2',h3,hne,h0,hm,Zb];(repeat' (first|refine hK _ _ ?_|apply And.intro|(intro hc;try subst hc)))<;>(try clear hK K))|(refine zJ (fun hc=>?_) (fun hc=>?_)<;>simp at hc<;>(try subst hc)))
       all_goals first|(simp;done)|(simp at *;omega)|((try simp[h1',h2',h3,hne,h0,hm,Zb]);refine Imp.aut ?_ ?_<;>simp[NLe,h1',h2',h3,hne,h0,hm,Zb])
      ·have h3':a0=b0:=by omega
       by_cases h4:a2<b2
       ·unfold m31
        repeat' with_reducible (first|refine ZR.h ?_|refine zI ?_|((first|refine zK hE ?_|refine zM hE ?_);intro K hK;simp[h1',h2',h3',h4,h0,hm,Zb];(repeat' (first|refine hK _ _ ?_|apply And.intro|(intro hc;try subst hc)))<;>(try clear hK K))|(refine zJ (fun hc=>?_) (fun hc=>?_)<;>simp at hc<;>(try subst hc)))
        all_goals first|(simp;done)|(simp at *;omega)|((try simp[h1',h2',h3',h4,h0,hm,Zb]);refine Imp.aut ?_ ?_<;>simp[NLe,h1',h2',h3',h4,h0,hm,Zb])
       ·skip
        have hmx:(a3≤mx∧b3≤mx)∧(mx=a3∨mx=b3):=(by rw[← hm];split<;>omega);by_cases h5:o<l
        ·skip
         have hq:(if o<l then o else l)=o:=(by split<;>omega);by_cases h6:o<1
         ·unfold m31
          repeat' with_reducible (first|refine ZR.h ?_|refine zI ?_|((first|refine zK hE ?_|refine zM hE ?_);intro K hK;simp[h1',h2',h3',h4,h5,hq,h6,h0,hm,Zb];(repeat' (first|refine hK _ _ ?_|apply And.intro|(intro hc;try subst hc)))<;>(try clear hK K))|(refine zJ (fun hc=>?_) (fun hc=>?_)<;>simp at hc<;>(try subst hc)))
          all_goals first|(simp;done)|(simp at *;omega)|((try simp[h1',h2',h3',h4,h5,hq,h6,h0,hm,Zb]);refine Imp.aut ?_ ?_<;>simp[NLe,h1',h2',h3',h4,h5,hq,h6,h0,hm,Zb])
         ·skip
          by_cases h7:o<a3
          ·have hx:o<mx:=by omega
           unfold m31
           repeat' with_reducible (first|refine ZR.h ?_|refine zI ?_|((first|refine zK hE ?_|refine zM hE ?_);intro K hK;simp[h1',h2',h3',h4,h5,hq,h6,h7,hx,h0,hm,Zb];(repeat' (first|refine hK _ _ ?_|apply And.intro|(intro hc;try subst hc)))<;>(try clear hK K))|(refine zJ (fun hc=>?_) (fun hc=>?_)<;>simp at hc<;>(try subst hc)))
           all_goals first|(simp;done)|(simp at *;omega)|((try simp[h1',h2',h3',h4,h5,hq,h6,h7,hx,h0,hm,Zb]);refine Imp.aut ?_ ?_<;>simp[NLe,h1',h2',h3',h4,h5,hq,h6,h7,hx,h0,hm,Zb])
          ·skip
           by_cases h8:o<b3
           ·have hx:o<mx:=by omega
            unfold m31
            repeat' with_reducible (first|refine ZR.h ?_|refine zI ?_|((first|refine zK hE ?_|refine zM hE ?_);intro K hK;simp[h1',h2',h3',h4,h5,hq,h6,h7,h8,hx,h0,hm,Zb];(repeat' (first|refine hK _ _ ?_|apply And.intro|(intro hc;try subst hc)))<;>(try clear hK K))|(refine zJ (fun hc=>?_) (fun hc=>?_)<;>simp at hc<;>(try subst hc)))
            all_goals first|(simp;done)|(simp at *;omega)|((try simp[h1',h2',h3',h4,h5,hq,h6,h7,h8,hx,h0,hm,Zb]);refine Imp.aut ?_ ?_<;>simp[NLe,h1',h2',h3',h4,h5,hq,h6,h7,h8,hx,h0,hm,Zb])
           ·have hx:¬ o<mx:=by omega
            have w1:IntKind.wrap .i64 (a2+b2)=a2+b2:=Zh (by omega) (by omega);have w2:IntKind.wrap .i64 ((a2+b2).tdiv 2)=(a2+b2) / 2:=VE (by omega) (by omega) (by omega);have w3:b2+(a2 - b2) / 2=(a2+b2) / 2:=(by omega);unfold m31
            repeat' with_reducible (first|refine ZR.h ?_|refine zI ?_|((first|refine zK hE ?_|refine zM hE ?_);intro K hK;simp[h1',h2',h3',h4,h5,hq,h6,h7,h8,hx,w1,w2,w3,h0,hm,Zb];(repeat' (first|refine hK _ _ ?_|apply And.intro|(intro hc;try subst hc)))<;>(try clear hK K))|(refine zJ (fun hc=>?_) (fun hc=>?_)<;>simp at hc<;>(try subst hc)))
            all_goals first|(simp;done)|(simp at *;omega)|((try simp[h1',h2',h3',h4,h5,hq,h6,h7,h8,hx,w1,w2,w3,h0,hm,Zb]);refine Imp.aut ?_ ?_<;>simp[NLe,h1',h2',h3',h4,h5,hq,h6,h7,h8,hx,w1,w2,w3,h0,hm,Zb])
        ·skip
         have hq:(if o<l then o else l)=l:=(by split<;>omega);by_cases h6:l<1
         ·unfold m31
          repeat' with_reducible (first|refine ZR.h ?_|refine zI ?_|((first|refine zK hE ?_|refine zM hE ?_);intro K hK;simp[h1',h2',h3',h4,h5,hq,h6,h0,hm,Zb];(repeat' (first|refine hK _ _ ?_|apply And.intro|(intro hc;try subst hc)))<;>(try clear hK K))|(refine zJ (fun hc=>?_) (fun hc=>?_)<;>simp at hc<;>(try subst hc)))
          all_goals first|(simp;done)|(simp at *;omega)|((try simp[h1',h2',h3',h4,h5,hq,h6,h0,hm,Zb]);refine Imp.aut ?_ ?_<;>simp[NLe,h1',h2',h3',h4,h5,hq,h6,h0,hm,Zb])
         ·skip
          by_cases h7:l<a3
          ·have hx:l<mx:=by omega
           unfold m31
           repeat' with_reducible (first|refine ZR.h ?_|refine zI ?_|((first|refine zK hE ?_|refine zM hE ?_);intro K hK;simp[h1',h2',h3',h4,h5,hq,h6,h7,hx,h0,hm,Zb];(repeat' (first|refine hK _ _ ?_|apply And.intro|(intro hc;try subst hc)))<;>(try clear hK K))|(refine zJ (fun hc=>?_) (fun hc=>?_)<;>simp at hc<;>(try subst hc)))
           all_goals first|(simp;done)|(simp at *;omega)|((try simp[h1',h2',h3',h4,h5,hq,h6,h7,hx,h0,hm,Zb]);refine Imp.aut ?_ ?_<;>simp[NLe,h1',h2',h3',h4,h5,hq,h6,h7,hx,h0,hm,Zb])
          ·skip
           by_cases h8:l<b3
           ·have hx:l<mx:=by omega
            unfold m31
            repeat' with_reducible (first|refine ZR.h ?_|refine zI ?_|((first|refine zK hE ?_|refine zM hE ?_);intro K hK;simp[h1',h2',h3',h4,h5,hq,h6,h7,h8,hx,h0,hm,Zb];(repeat' (first|refine hK _ _ ?_|apply And.intro|(intro hc;try subst hc)))<;>(try clear hK K))|(refine zJ (fun hc=>?_) (fun hc=>?_)<;>simp at hc<;>(try subst hc)))
            all_goals first|(simp;done)|(simp at *;omega)|((try simp[h1',h2',h3',h4,h5,hq,h6,h7,h8,hx,h0,hm,Zb]);refine Imp.aut ?_ ?_<;>simp[NLe,h1',h2',h3',h4,h5,hq,h6,h7,h8,hx,h0,hm,Zb])
           ·have hx:¬ l<mx:=by omega
            have w1:IntKind.wrap .i64 (a2+b2)=a2+b2:=Zh (by omega) (by omega);have w2:IntKind.wrap .i64 ((a2+b2).tdiv 2)=(a2+b2) / 2:=VE (by omega) (by omega) (by omega);have w3:b2+(a2 - b2) / 2=(a2+b2) / 2:=(by omega);unfold m31
            repeat' with_reducible (first|refine ZR.h ?_|refine zI ?_|((first|refine zK hE ?_|refine zM hE ?_);intro K hK;simp[h1',h2',h3',h4,h5,hq,h6,h7,h8,hx,w1,w2,w3,h0,hm,Zb];(repeat' (first|refine hK _ _ ?_|apply And.intro|(intro hc;try subst hc)))<;>(try clear hK K))|(refine zJ (fun hc=>?_) (fun hc=>?_)<;>simp at hc<;>(try subst hc)))
            all_goals first|(simp;done)|(simp at *;omega)|((try simp[h1',h2',h3',h4,h5,hq,h6,h7,h8,hx,w1,w2,w3,h0,hm,Zb]);refine Imp.aut ?_ ?_<;>simp[NLe,h1',h2',h3',h4,h5,hq,h6,h7,h8,hx,w1,w2,w3,h0,hm,Zb])
  ·cases h
 ·cases h
end Go.W
