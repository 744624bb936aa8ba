/- A part of the proofs about the pair's laws (PuA). -/
import Derived.Test.YtidbbnkpglggdaaPsI
import Derived.Test.YtidbbnkpglggdaaPqC
namespace Go.W
open Go.Proofs
set_option linter.unusedSimpArgs false
set_option linter.unusedVariables false
set_option maxHeartbeats 8000000
attribute [local irreducible] Wm
attribute [local simp] nmap lkp mkPl prs prsL prT ddL idL CRenL CRen Ren RenL NObj.none CRenLL
def d18:List AV→List NObj→Option AV
 | [.agg [.int .i64 a0,.int .i64 a1,.int .i64 a2,.int .i64 a3,.int .i64 a4],.agg [.int .i64 b0,.int .i64 b1,.int .i64 b2,.int .i64 b3,.int .i64 b4],.int .i64 l,.int .i64 o],[]=>if 0≤a2∧a2≤1000000∧0≤b2∧b2≤1000000 then some (.tup [.int .i64 (matchZ ⟨a0,a1,a2,a3,a4⟩ ⟨b0,b1,b2,b3,b4⟩ l o).1,.int .i64 (matchZ ⟨a0,a1,a2,a3,a4⟩ ⟨b0,b1,b2,b3,b4⟩ l o).2]) else none
 | _,_=>none
theorem ok18:ROk d18:=by
 intro xs os r h
 unfold d18 at h
 (repeat' (split at h))<;>first|(cases h;done)|(injection h with h;subst h;simp)
theorem s18:Sound Try.prog 18 (rdS d18 ok18):=by
 refine rd_sound Try.func18 nm18 rc18 rv18 ok18 fun xs os r h vs ρ0 hvs=>⟨xs,?_,fun _ h=>h,fun w0 S hS=>?_⟩
 ·unfold d18 at h
  (repeat' (split at h))<;>first|(cases h;done)|exact Nat.le_of_ble_eq_true rfl
 unfold d18 at h
 split at h
 ·split at h
  ·rename_i a0 a1 a2 a3 a4 b0 b1 b2 b3 b4 l o hcond
   injection h with h
   subst h
   have hE:SoundAll Try.prog (EL []):=EL_sound (by simp)
   obtain ⟨hp0,hp1,hp2,hp3⟩:=hcond
   obtain ⟨mx,hm⟩:∃ mx,(if a3<b3 then b3 else a3)=mx:=⟨_,rfl⟩
   by_cases h0:a1=1
   ·skip
    by_cases h1:b1≠0
    ·unfold m18
     repeat' with_reducible (first
      | refine ZR.h ?_ | refine zI (by decide) ?_
      | ((first | refine zK hE ?_ | refine zL hE mixT ?_);intro K hK;simp[KR.ks,KD.ks,KD.cl,q18_0,q18_1,q18_2,q18_3,q18_4,q18_5,q18_6,q18_7,q18_8,q18_9,q18_10,q18_11,h1,h0,hm,matchZ];(repeat' (first | refine hK _ _ ?_ | refine And.intro ?_ ?_ | (intro hc;try subst hc)))<;>(try clear hK K))
      | (refine zJ (b:=_) (by with_unfolding_all rfl) (fun hc=>?_) (fun hc=>?_)<;>simp at hc<;>(try subst hc)))
     all_goals first|(simp;done)|(simp at *;omega)|((try simp[h1,h0,hm,matchZ]);refine Imp.auto (by kernel_rfl) ?_ ?_<;>simp[NLe,h1,h0,hm,matchZ])
    ·have h1':b1=0:=by omega
     by_cases h3:a0≠b0
     ·have hne:¬ b0=a0:=fun h=>h3 h.symm
      unfold m18
      repeat' with_reducible (first
       | refine ZR.h ?_ | refine zI (by decide) ?_
       | ((first | refine zK hE ?_ | refine zL hE mixT ?_);intro K hK;simp[KR.ks,KD.ks,KD.cl,q18_0,q18_1,q18_2,q18_3,q18_4,q18_5,q18_6,q18_7,q18_8,q18_9,q18_10,q18_11,h1',h3,hne,h0,hm,matchZ];(repeat' (first | refine hK _ _ ?_ | refine And.intro ?_ ?_ | (intro hc;try subst hc)))<;>(try clear hK K))
       | (refine zJ (b:=_) (by with_unfolding_all rfl) (fun hc=>?_) (fun hc=>?_)<;>simp at hc<;>(try subst hc)))
      all_goals first|(simp;done)|(simp at *;omega)|((try simp[h1',h3,hne,h0,hm,matchZ]);refine Imp.auto (by kernel_rfl) ?_ ?_<;>simp[NLe,h1',h3,hne,h0,hm,matchZ])
     ·have h3':a0=b0:=by omega
      by_cases h4:b2<a2
      ·unfold m18
       repeat' with_reducible (first
        | refine ZR.h ?_ | refine zI (by decide) ?_
        | ((first | refine zK hE ?_ | refine zL hE mixT ?_);intro K hK;simp[KR.ks,KD.ks,KD.cl,q18_0,q18_1,q18_2,q18_3,q18_4,q18_5,q18_6,q18_7,q18_8,q18_9,q18_10,q18_11,h1',h3',h4,h0,hm,matchZ];(repeat' (first | refine hK _ _ ?_ | refine And.intro ?_ ?_ | (intro hc;try subst hc)))<;>(try clear hK K))
        | (refine zJ (b:=_) (by with_unfolding_all rfl) (fun hc=>?_) (fun hc=>?_)<;>simp at hc<;>(try subst hc)))
       all_goals first|(simp;done)|(simp at *;omega)|((try simp[h1',h3',h4,h0,hm,matchZ]);refine Imp.auto (by kernel_rfl) ?_ ?_<;>simp[NLe,h1',h3',h4,h0,hm,matchZ])
      ·skip
       have hmx:(a3≤mx∧b3≤mx)∧(mx=a3∨mx=b3):=by rw[← hm];split<;>omega
       by_cases h5:l<o
       ·skip
        have hq:(if o<l then o else l)=l:=by split<;>omega
        by_cases h6:l<1
        ·unfold m18
         repeat' with_reducible (first
          | refine ZR.h ?_ | refine zI (by decide) ?_
          | ((first | refine zK hE ?_ | refine zL hE mixT ?_);intro K hK;simp[KR.ks,KD.ks,KD.cl,q18_0,q18_1,q18_2,q18_3,q18_4,q18_5,q18_6,q18_7,q18_8,q18_9,q18_10,q18_11,h1',h3',h4,h5,hq,h6,h0,hm,matchZ];(repeat' (first | refine hK _ _ ?_ | refine And.intro ?_ ?_ | (intro hc;try subst hc)))<;>(try clear hK K))
          | (refine zJ (b:=_) (by with_unfolding_all rfl) (fun hc=>?_) (fun hc=>?_)<;>simp at hc<;>(try subst hc)))
         all_goals first|(simp;done)|(simp at *;omega)|((try simp[h1',h3',h4,h5,hq,h6,h0,hm,matchZ]);refine Imp.auto (by kernel_rfl) ?_ ?_<;>simp[NLe,h1',h3',h4,h5,hq,h6,h0,hm,matchZ])
        ·skip
         by_cases h7:l<b3
         ·have hx:l<mx:=by omega
          unfold m18
          repeat' with_reducible (first
           | refine ZR.h ?_ | refine zI (by decide) ?_
           | ((first | refine zK hE ?_ | refine zL hE mixT ?_);intro K hK;simp[KR.ks,KD.ks,KD.cl,q18_0,q18_1,q18_2,q18_3,q18_4,q18_5,q18_6,q18_7,q18_8,q18_9,q18_10,q18_11,h1',h3',h4,h5,hq,h6,h7,hx,h0,hm,matchZ];(repeat' (first | refine hK _ _ ?_ | refine And.intro ?_ ?_ | (intro hc;try subst hc)))<;>(try clear hK K))
           | (refine zJ (b:=_) (by with_unfolding_all rfl) (fun hc=>?_) (fun hc=>?_)<;>simp at hc<;>(try subst hc)))
          all_goals first|(simp;done)|(simp at *;omega)|((try simp[h1',h3',h4,h5,hq,h6,h7,hx,h0,hm,matchZ]);refine Imp.auto (by kernel_rfl) ?_ ?_<;>simp[NLe,h1',h3',h4,h5,hq,h6,h7,hx,h0,hm,matchZ])
         ·skip
          by_cases h8:l<a3
          ·have hx:l<mx:=by omega
           unfold m18
           repeat' with_reducible (first
            | refine ZR.h ?_ | refine zI (by decide) ?_
            | ((first | refine zK hE ?_ | refine zL hE mixT ?_);intro K hK;simp[KR.ks,KD.ks,KD.cl,q18_0,q18_1,q18_2,q18_3,q18_4,q18_5,q18_6,q18_7,q18_8,q18_9,q18_10,q18_11,h1',h3',h4,h5,hq,h6,h7,h8,hx,h0,hm,matchZ];(repeat' (first | refine hK _ _ ?_ | refine And.intro ?_ ?_ | (intro hc;try subst hc)))<;>(try clear hK K))
            | (refine zJ (b:=_) (by with_unfolding_all rfl) (fun hc=>?_) (fun hc=>?_)<;>simp at hc<;>(try subst hc)))
           all_goals first|(simp;done)|(simp at *;omega)|((try simp[h1',h3',h4,h5,hq,h6,h7,h8,hx,h0,hm,matchZ]);refine Imp.auto (by kernel_rfl) ?_ ?_<;>simp[NLe,h1',h3',h4,h5,hq,h6,h7,h8,hx,h0,hm,matchZ])
          ·have hx:¬ l<mx:=by omega
           have w1:IntKind.wrap .i64 (b2+a2)=b2+a2:=wrap_in (by omega) (by omega)
           have w2:IntKind.wrap .i64 ((b2+a2).tdiv 2)=(b2+a2) / 2:=tdiv_in (by omega) (by omega) (by omega)
           have w3:a2+(b2 - a2) / 2=(b2+a2) / 2:=by omega
           unfold m18
           repeat' with_reducible (first
            | refine ZR.h ?_ | refine zI (by decide) ?_
            | ((first | refine zK hE ?_ | refine zL hE mixT ?_);intro K hK;simp[KR.ks,KD.ks,KD.cl,q18_0,q18_1,q18_2,q18_3,q18_4,q18_5,q18_6,q18_7,q18_8,q18_9,q18_10,q18_11,h1',h3',h4,h5,hq,h6,h7,h8,hx,w1,w2,w3,h0,hm,matchZ];(repeat' (first | refine hK _ _ ?_ | refine And.intro ?_ ?_ | (intro hc;try subst hc)))<;>(try clear hK K))
            | (refine zJ (b:=_) (by with_unfolding_all rfl) (fun hc=>?_) (fun hc=>?_)<;>simp at hc<;>(try subst hc)))
           all_goals first|(simp;done)|(simp at *;omega)|((try simp[h1',h3',h4,h5,hq,h6,h7,h8,hx,w1,w2,w3,h0,hm,matchZ]);refine Imp.auto (by kernel_rfl) ?_ ?_<;>simp[NLe,h1',h3',h4,h5,hq,h6,h7,h8,hx,w1,w2,w3,h0,hm,matchZ])
       ·skip
        have hq:(if o<l then o else l)=o:=by split<;>omega
        by_cases h6:o<1
        ·unfold m18
         repeat' with_reducible (first
          | refine ZR.h ?_ | refine zI (by decide) ?_
          | ((first | refine zK hE ?_ | refine zL hE mixT ?_);intro K hK;simp[KR.ks,KD.ks,KD.cl,q18_0,q18_1,q18_2,q18_3,q18_4,q18_5,q18_6,q18_7,q18_8,q18_9,q18_10,q18_11,h1',h3',h4,h5,hq,h6,h0,hm,matchZ];(repeat' (first | refine hK _ _ ?_ | refine And.intro ?_ ?_ | (intro hc;try subst hc)))<;>(try clear hK K))
          | (refine zJ (b:=_) (by with_unfolding_all rfl) (fun hc=>?_) (fun hc=>?_)<;>simp at hc<;>(try subst hc)))
         all_goals first|(simp;done)|(simp at *;omega)|((try simp[h1',h3',h4,h5,hq,h6,h0,hm,matchZ]);refine Imp.auto (by kernel_rfl) ?_ ?_<;>simp[NLe,h1',h3',h4,h5,hq,h6,h0,hm,matchZ])
        ·skip
         by_cases h7:o<b3
         ·have hx:o<mx:=by omega
          unfold m18
          repeat' with_reducible (first
           | refine ZR.h ?_ | refine zI (by decide) ?_
           | ((first | refine zK hE ?_ | refine zL hE mixT ?_);intro K hK;simp[KR.ks,KD.ks,KD.cl,q18_0,q18_1,q18_2,q18_3,q18_4,q18_5,q18_6,q18_7,q18_8,q18_9,q18_10,q18_11,h1',h3',h4,h5,hq,h6,h7,hx,h0,hm,matchZ];(repeat' (first | refine hK _ _ ?_ | refine And.intro ?_ ?_ | (intro hc;try subst hc)))<;>(try clear hK K))
           | (refine zJ (b:=_) (by with_unfolding_all rfl) (fun hc=>?_) (fun hc=>?_)<;>simp at hc<;>(try subst hc)))
          all_goals first|(simp;done)|(simp at *;omega)|((try simp[h1',h3',h4,h5,hq,h6,h7,hx,h0,hm,matchZ]);refine Imp.auto (by kernel_rfl) ?_ ?_<;>simp[NLe,h1',h3',h4,h5,hq,h6,h7,hx,h0,hm,matchZ])
         ·skip
          by_cases h8:o<a3
          ·have hx:o<mx:=by omega
           unfold m18
           repeat' with_reducible (first
            | refine ZR.h ?_ | refine zI (by decide) ?_
            | ((first | refine zK hE ?_ | refine zL hE mixT ?_);intro K hK;simp[KR.ks,KD.ks,KD.cl,q18_0,q18_1,q18_2,q18_3,q18_4,q18_5,q18_6,q18_7,q18_8,q18_9,q18_10,q18_11,h1',h3',h4,h5,hq,h6,h7,h8,hx,h0,hm,matchZ];(repeat' (first | refine hK _ _ ?_ | refine And.intro ?_ ?_ | (intro hc;try subst hc)))<;>(try clear hK K))
            | (refine zJ (b:=_) (by with_unfolding_all rfl) (fun hc=>?_) (fun hc=>?_)<;>simp at hc<;>(try subst hc)))
           all_goals first|(simp;done)|(simp at *;omega)|((try simp[h1',h3',h4,h5,hq,h6,h7,h8,hx,h0,hm,matchZ]);refine Imp.auto (by kernel_rfl) ?_ ?_<;>simp[NLe,h1',h3',h4,h5,hq,h6,h7,h8,hx,h0,hm,matchZ])
          ·have hx:¬ o<mx:=by omega
           have w1:IntKind.wrap .i64 (b2+a2)=b2+a2:=wrap_in (by omega) (by omega)
           have w2:IntKind.wrap .i64 ((b2+a2).tdiv 2)=(b2+a2) / 2:=tdiv_in (by omega) (by omega) (by omega)
           have w3:a2+(b2 - a2) / 2=(b2+a2) / 2:=by omega
           unfold m18
           repeat' with_reducible (first
            | refine ZR.h ?_ | refine zI (by decide) ?_
            | ((first | refine zK hE ?_ | refine zL hE mixT ?_);intro K hK;simp[KR.ks,KD.ks,KD.cl,q18_0,q18_1,q18_2,q18_3,q18_4,q18_5,q18_6,q18_7,q18_8,q18_9,q18_10,q18_11,h1',h3',h4,h5,hq,h6,h7,h8,hx,w1,w2,w3,h0,hm,matchZ];(repeat' (first | refine hK _ _ ?_ | refine And.intro ?_ ?_ | (intro hc;try subst hc)))<;>(try clear hK K))
            | (refine zJ (b:=_) (by with_unfolding_all rfl) (fun hc=>?_) (fun hc=>?_)<;>simp at hc<;>(try subst hc)))
           all_goals first|(simp;done)|(simp at *;omega)|((try simp[h1',h3',h4,h5,hq,h6,h7,h8,hx,w1,w2,w3,h0,hm,matchZ]);refine Imp.auto (by kernel_rfl) ?_ ?_<;>simp[NLe,h1',h3',h4,h5,hq,h6,h7,h8,hx,w1,w2,w3,h0,hm,matchZ])
   ·skip
    by_cases h1:a1≠0
    ·unfold m18
     repeat' with_reducible (first
      | refine ZR.h ?_ | refine zI (by decide) ?_
      | ((first | refine zK hE ?_ | refine zL hE mixT ?_);intro K hK;simp[KR.ks,KD.ks,KD.cl,q18_0,q18_1,q18_2,q18_3,q18_4,q18_5,q18_6,q18_7,q18_8,q18_9,q18_10,q18_11,h1,h0,hm,matchZ];(repeat' (first | refine hK _ _ ?_ | refine And.intro ?_ ?_ | (intro hc;try subst hc)))<;>(try clear hK K))
      | (refine zJ (b:=_) (by with_unfolding_all rfl) (fun hc=>?_) (fun hc=>?_)<;>simp at hc<;>(try subst hc)))
     all_goals first|(simp;done)|(simp at *;omega)|((try simp[h1,h0,hm,matchZ]);refine Imp.auto (by kernel_rfl) ?_ ?_<;>simp[NLe,h1,h0,hm,matchZ])
    ·have h1':a1=0:=by omega
     by_cases h2:b1≠1
     ·unfold m18
      repeat' with_reducible (first
       | refine ZR.h ?_ | refine zI (by decide) ?_
       | ((first | refine zK hE ?_ | refine zL hE mixT ?_);intro K hK;simp[KR.ks,KD.ks,KD.cl,q18_0,q18_1,q18_2,q18_3,q18_4,q18_5,q18_6,q18_7,q18_8,q18_9,q18_10,q18_11,h1',h2,h0,hm,matchZ];(repeat' (first | refine hK _ _ ?_ | refine And.intro ?_ ?_ | (intro hc;try subst hc)))<;>(try clear hK K))
       | (refine zJ (b:=_) (by with_unfolding_all rfl) (fun hc=>?_) (fun hc=>?_)<;>simp at hc<;>(try subst hc)))
      all_goals first|(simp;done)|(simp at *;omega)|((try simp[h1',h2,h0,hm,matchZ]);refine Imp.auto (by kernel_rfl) ?_ ?_<;>simp[NLe,h1',h2,h0,hm,matchZ])
     ·have h2':b1=1:=by omega
      by_cases h3:a0≠b0
      ·have hne:¬ b0=a0:=fun h=>h3 h.symm
       unfold m18
       repeat' with_reducible (first
        | refine ZR.h ?_ | refine zI (by decide) ?_
        | ((first | refine zK hE ?_ | refine zL hE mixT ?_);intro K hK;simp[KR.ks,KD.ks,KD.cl,q18_0,q18_1,q18_2,q18_3,q18_4,q18_5,q18_6,q18_7,q18_8,q18_9,q18_10,q18_11,h1',h2',h3,hne,h0,hm,matchZ];(repeat' (first | refine hK _ _ ?_ | refine And.intro ?_ ?_ | (intro hc;try subst hc)))<;>(try clear hK K))
        | (refine zJ (b:=_) (by with_unfolding_all rfl) (fun hc=>?_) (fun hc=>?_)<;>simp at hc<;>(try subst hc)))
       all_goals first|(simp;done)|(simp at *;omega)|((try simp[h1',h2',h3,hne,h0,hm,matchZ]);refine Imp.auto (by kernel_rfl) ?_ ?_<;>simp[NLe,h1',h2',h3,hne,h0,hm,matchZ])
      ·have h3':a0=b0:=by omega
       by_cases h4:a2<b2
       ·unfold m18
        repeat' with_reducible (first
         | refine ZR.h ?_ | refine zI (by decide) ?_
         | ((first | refine zK hE ?_ | refine zL hE mixT ?_);intro K hK;simp[KR.ks,KD.ks,KD.cl,q18_0,q18_1,q18_2,q18_3,q18_4,q18_5,q18_6,q18_7,q18_8,q18_9,q18_10,q18_11,h1',h2',h3',h4,h0,hm,matchZ];(repeat' (first | refine hK _ _ ?_ | refine And.intro ?_ ?_ | (intro hc;try subst hc)))<;>(try clear hK K))
         | (refine zJ (b:=_) (by with_unfolding_all rfl) (fun hc=>?_) (fun hc=>?_)<;>simp at hc<;>(try subst hc)))
        all_goals first|(simp;done)|(simp at *;omega)|((try simp[h1',h2',h3',h4,h0,hm,matchZ]);refine Imp.auto (by kernel_rfl) ?_ ?_<;>simp[NLe,h1',h2',h3',h4,h0,hm,matchZ])
       ·skip
        have hmx:(a3≤mx∧b3≤mx)∧(mx=a3∨mx=b3):=by rw[← hm];split<;>omega
        by_cases h5:o<l
        ·skip
         have hq:(if o<l then o else l)=o:=by split<;>omega
         by_cases h6:o<1
         ·unfold m18
          repeat' with_reducible (first
           | refine ZR.h ?_ | refine zI (by decide) ?_
           | ((first | refine zK hE ?_ | refine zL hE mixT ?_);intro K hK;simp[KR.ks,KD.ks,KD.cl,q18_0,q18_1,q18_2,q18_3,q18_4,q18_5,q18_6,q18_7,q18_8,q18_9,q18_10,q18_11,h1',h2',h3',h4,h5,hq,h6,h0,hm,matchZ];(repeat' (first | refine hK _ _ ?_ | refine And.intro ?_ ?_ | (intro hc;try subst hc)))<;>(try clear hK K))
           | (refine zJ (b:=_) (by with_unfolding_all rfl) (fun hc=>?_) (fun hc=>?_)<;>simp at hc<;>(try subst hc)))
          all_goals first|(simp;done)|(simp at *;omega)|((try simp[h1',h2',h3',h4,h5,hq,h6,h0,hm,matchZ]);refine Imp.auto (by kernel_rfl) ?_ ?_<;>simp[NLe,h1',h2',h3',h4,h5,hq,h6,h0,hm,matchZ])
         ·skip
          by_cases h7:o<a3
          ·have hx:o<mx:=by omega
           unfold m18
           repeat' with_reducible (first
            | refine ZR.h ?_ | refine zI (by decide) ?_
            | ((first | refine zK hE ?_ | refine zL hE mixT ?_);intro K hK;simp[KR.ks,KD.ks,KD.cl,q18_0,q18_1,q18_2,q18_3,q18_4,q18_5,q18_6,q18_7,q18_8,q18_9,q18_10,q18_11,h1',h2',h3',h4,h5,hq,h6,h7,hx,h0,hm,matchZ];(repeat' (first | refine hK _ _ ?_ | refine And.intro ?_ ?_ | (intro hc;try subst hc)))<;>(try clear hK K))
            | (refine zJ (b:=_) (by with_unfolding_all rfl) (fun hc=>?_) (fun hc=>?_)<;>simp at hc<;>(try subst hc)))
           all_goals first|(simp;done)|(simp at *;omega)|((try simp[h1',h2',h3',h4,h5,hq,h6,h7,hx,h0,hm,matchZ]);refine Imp.auto (by kernel_rfl) ?_ ?_<;>simp[NLe,h1',h2',h3',h4,h5,hq,h6,h7,hx,h0,hm,matchZ])
          ·skip
           by_cases h8:o<b3
           ·have hx:o<mx:=by omega
            unfold m18
            repeat' with_reducible (first
             | refine ZR.h ?_ | refine zI (by decide) ?_
             | ((first | refine zK hE ?_ | refine zL hE mixT ?_);intro K hK;simp[KR.ks,KD.ks,KD.cl,q18_0,q18_1,q18_2,q18_3,q18_4,q18_5,q18_6,q18_7,q18_8,q18_9,q18_10,q18_11,h1',h2',h3',h4,h5,hq,h6,h7,h8,hx,h0,hm,matchZ];(repeat' (first | refine hK _ _ ?_ | refine And.intro ?_ ?_ | (intro hc;try subst hc)))<;>(try clear hK K))
             | (refine zJ (b:=_) (by with_unfolding_all rfl) (fun hc=>?_) (fun hc=>?_)<;>simp at hc<;>(try subst hc)))
            all_goals first|(simp;done)|(simp at *;omega)|((try simp[h1',h2',h3',h4,h5,hq,h6,h7,h8,hx,h0,hm,matchZ]);refine Imp.auto (by kernel_rfl) ?_ ?_<;>simp[NLe,h1',h2',h3',h4,h5,hq,h6,h7,h8,hx,h0,hm,matchZ])
           ·have hx:¬ o<mx:=by omega
            have w1:IntKind.wrap .i64 (a2+b2)=a2+b2:=wrap_in (by omega) (by omega)
            have w2:IntKind.wrap .i64 ((a2+b2).tdiv 2)=(a2+b2) / 2:=tdiv_in (by omega) (by omega) (by omega)
            have w3:b2+(a2 - b2) / 2=(a2+b2) / 2:=by omega
            unfold m18
            repeat' with_reducible (first
             | refine ZR.h ?_ | refine zI (by decide) ?_
             | ((first | refine zK hE ?_ | refine zL hE mixT ?_);intro K hK;simp[KR.ks,KD.ks,KD.cl,q18_0,q18_1,q18_2,q18_3,q18_4,q18_5,q18_6,q18_7,q18_8,q18_9,q18_10,q18_11,h1',h2',h3',h4,h5,hq,h6,h7,h8,hx,w1,w2,w3,h0,hm,matchZ];(repeat' (first | refine hK _ _ ?_ | refine And.intro ?_ ?_ | (intro hc;try subst hc)))<;>(try clear hK K))
             | (refine zJ (b:=_) (by with_unfolding_all rfl) (fun hc=>?_) (fun hc=>?_)<;>simp at hc<;>(try subst hc)))
            all_goals first|(simp;done)|(simp at *;omega)|((try simp[h1',h2',h3',h4,h5,hq,h6,h7,h8,hx,w1,w2,w3,h0,hm,matchZ]);refine Imp.auto (by kernel_rfl) ?_ ?_<;>simp[NLe,h1',h2',h3',h4,h5,hq,h6,h7,h8,hx,w1,w2,w3,h0,hm,matchZ])
        ·skip
         have hq:(if o<l then o else l)=l:=by split<;>omega
         by_cases h6:l<1
         ·unfold m18
          repeat' with_reducible (first
           | refine ZR.h ?_ | refine zI (by decide) ?_
           | ((first | refine zK hE ?_ | refine zL hE mixT ?_);intro K hK;simp[KR.ks,KD.ks,KD.cl,q18_0,q18_1,q18_2,q18_3,q18_4,q18_5,q18_6,q18_7,q18_8,q18_9,q18_10,q18_11,h1',h2',h3',h4,h5,hq,h6,h0,hm,matchZ];(repeat' (first | refine hK _ _ ?_ | refine And.intro ?_ ?_ | (intro hc;try subst hc)))<;>(try clear hK K))
           | (refine zJ (b:=_) (by with_unfolding_all rfl) (fun hc=>?_) (fun hc=>?_)<;>simp at hc<;>(try subst hc)))
          all_goals first|(simp;done)|(simp at *;omega)|((try simp[h1',h2',h3',h4,h5,hq,h6,h0,hm,matchZ]);refine Imp.auto (by kernel_rfl) ?_ ?_<;>simp[NLe,h1',h2',h3',h4,h5,hq,h6,h0,hm,matchZ])
         ·skip
          by_cases h7:l<a3
          ·have hx:l<mx:=by omega
           unfold m18
           repeat' with_reducible (first
            | refine ZR.h ?_ | refine zI (by decide) ?_
            | ((first | refine zK hE ?_ | refine zL hE mixT ?_);intro K hK;simp[KR.ks,KD.ks,KD.cl,q18_0,q18_1,q18_2,q18_3,q18_4,q18_5,q18_6,q18_7,q18_8,q18_9,q18_10,q18_11,h1',h2',h3',h4,h5,hq,h6,h7,hx,h0,hm,matchZ];(repeat' (first | refine hK _ _ ?_ | refine And.intro ?_ ?_ | (intro hc;try subst hc)))<;>(try clear hK K))
            | (refine zJ (b:=_) (by with_unfolding_all rfl) (fun hc=>?_) (fun hc=>?_)<;>simp at hc<;>(try subst hc)))
           all_goals first|(simp;done)|(simp at *;omega)|((try simp[h1',h2',h3',h4,h5,hq,h6,h7,hx,h0,hm,matchZ]);refine Imp.auto (by kernel_rfl) ?_ ?_<;>simp[NLe,h1',h2',h3',h4,h5,hq,h6,h7,hx,h0,hm,matchZ])
          ·skip
           by_cases h8:l<b3
           ·have hx:l<mx:=by omega
            unfold m18
            repeat' with_reducible (first
             | refine ZR.h ?_ | refine zI (by decide) ?_
             | ((first | refine zK hE ?_ | refine zL hE mixT ?_);intro K hK;simp[KR.ks,KD.ks,KD.cl,q18_0,q18_1,q18_2,q18_3,q18_4,q18_5,q18_6,q18_7,q18_8,q18_9,q18_10,q18_11,h1',h2',h3',h4,h5,hq,h6,h7,h8,hx,h0,hm,matchZ];(repeat' (first | refine hK _ _ ?_ | refine And.intro ?_ ?_ | (intro hc;try subst hc)))<;>(try clear hK K))
             | (refine zJ (b:=_) (by with_unfolding_all rfl) (fun hc=>?_) (fun hc=>?_)<;>simp at hc<;>(try subst hc)))
            all_goals first|(simp;done)|(simp at *;omega)|((try simp[h1',h2',h3',h4,h5,hq,h6,h7,h8,hx,h0,hm,matchZ]);refine Imp.auto (by kernel_rfl) ?_ ?_<;>simp[NLe,h1',h2',h3',h4,h5,hq,h6,h7,h8,hx,h0,hm,matchZ])
           ·have hx:¬ l<mx:=by omega
            have w1:IntKind.wrap .i64 (a2+b2)=a2+b2:=wrap_in (by omega) (by omega)
            have w2:IntKind.wrap .i64 ((a2+b2).tdiv 2)=(a2+b2) / 2:=tdiv_in (by omega) (by omega) (by omega)
            have w3:b2+(a2 - b2) / 2=(a2+b2) / 2:=by omega
            unfold m18
            repeat' with_reducible (first
             | refine ZR.h ?_ | refine zI (by decide) ?_
             | ((first | refine zK hE ?_ | refine zL hE mixT ?_);intro K hK;simp[KR.ks,KD.ks,KD.cl,q18_0,q18_1,q18_2,q18_3,q18_4,q18_5,q18_6,q18_7,q18_8,q18_9,q18_10,q18_11,h1',h2',h3',h4,h5,hq,h6,h7,h8,hx,w1,w2,w3,h0,hm,matchZ];(repeat' (first | refine hK _ _ ?_ | refine And.intro ?_ ?_ | (intro hc;try subst hc)))<;>(try clear hK K))
             | (refine zJ (b:=_) (by with_unfolding_all rfl) (fun hc=>?_) (fun hc=>?_)<;>simp at hc<;>(try subst hc)))
            all_goals first|(simp;done)|(simp at *;omega)|((try simp[h1',h2',h3',h4,h5,hq,h6,h7,h8,hx,w1,w2,w3,h0,hm,matchZ]);refine Imp.auto (by kernel_rfl) ?_ ?_<;>simp[NLe,h1',h2',h3',h4,h5,hq,h6,h7,h8,hx,w1,w2,w3,h0,hm,matchZ])
  ·cases h
 ·cases h
end Go.W

