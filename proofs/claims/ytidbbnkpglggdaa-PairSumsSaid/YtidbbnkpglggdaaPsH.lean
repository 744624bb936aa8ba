/- A part of the proofs about the pair's laws (PsH). -/
import Derived.Test.YtidbbnkpglggdaaPsG
namespace Go.W
open Go.Proofs
set_option linter.unusedSimpArgs false
set_option linter.unusedVariables false
set_option maxHeartbeats 8000000
attribute [local irreducible] Wm
attribute [local simp] nmap lkp mkPl prs prsL prT ddL idL CRenL CRen Ren RenL NObj.none CRenLL
def wordS (s:StZ):Option Int:=if 8<s.k then none else packK [[.int .i64 4],[.int .i64 1],[.int .i64 8],[.int .i64 16],[.int .i64 8]] [[.int .i64 s.k],[.int .i64 (if s.fl=true then 1 else 0)],[.int .i64 s.g],[.int .i64 s.l],[.int .i64 s.f]] 5
def recW (r:RcZ):Option Int:=if 5<r.k then none else packK [[.int .i64 3],[.int .i64 16],[.int .i64 16],[.int .i64 20],[.int .i64 5],[.int .i64 4]] [[.int .i64 r.k],[.int .i64 r.q],[.int .i64 r.p],[.int .i64 r.t],[.int .i64 r.c],[.int .i64 r.g]] 6
def endS (s:StZ) (t:Int):RcZ×Bool:=if s.k=5 then (⟨2,s.l,s.f,t,0,0⟩,true) else if s.k=6 then (⟨3,s.l,s.f,t,0,0⟩,true) else if s.k=7 then (⟨4,s.l,s.f,t,0,0⟩,true) else if s.k=8 then (⟨5,s.l,s.f,t,0,0⟩,true) else (⟨0,0,0,0,0,0⟩,false)
def d62:List AV→List NObj→Option AV
 | [.agg [.int .i64 k,.bool fl,.int .i64 sg,.int .i64 sl,.int .i64 sf]],[]=>if -9223372036854775808≤k∧k≤9223372036854775807∧-9223372036854775808≤sg∧sg≤9223372036854775807∧-9223372036854775808≤sl∧sl≤9223372036854775807∧-9223372036854775808≤sf∧sf≤9223372036854775807 then some (packA (wordS ⟨k,fl,sg,sl,sf⟩)) else none
 | _,_=>none
theorem ok62:ROk d62:=by
 intro xs os r h
 unfold d62 at h
 (repeat' (split at h))<;>first|(cases h;done)|(injection h with h;subst h;unfold packA;split<;>simp)
theorem s62:Sound Try.prog 62 (rdS d62 ok62):=by
 refine rd_sound Try.func62 nm62 rc62 rv62 ok62 fun xs os r h vs ρ0 hvs=>⟨xs,?_,fun _ h=>h,fun w0 S hS=>?_⟩
 ·unfold d62 at h
  (repeat' (split at h))<;>first|(cases h;done)|exact Nat.le_of_ble_eq_true rfl
 unfold d62 at h
 split at h
 ·split at h
  ·rename_i k fl sg sl sf hcond
   injection h with h
   subst h
   have hE:SoundAll Try.prog (EL [(71,rdS d71 ok71),(82,nestS [] d82 ok82),(86,rdS d86 ok86)]):=EL_sound (by simp only[List.mem_cons,List.not_mem_nil,or_false,forall_eq_or_imp,forall_eq];exact ⟨s71,s82,s86⟩)
   by_cases h1:8<k
   ·unfold m62
    repeat' with_reducible (first
     | refine ZR.h ?_ | refine zI (by decide) ?_
     | ((first | refine zK hE ?_ | refine zL hE mixT ?_);intro K hK;simp[KR.ks,KD.ks,KD.cl,q62_0,q62_1,q62_2,q62_3,q62_4,q62_5,q62_6,h1,d71,d82,d86];(repeat' (first | refine hK _ _ ?_ | refine And.intro ?_ ?_ | (intro hc;try subst hc)))<;>(try clear hK K))
     | (refine zJ (b:=_) (by with_unfolding_all rfl) (fun hc=>?_) (fun hc=>?_)<;>simp at hc<;>(try subst hc)))
    all_goals first|(simp;done)|(simp at *;omega)|((try simp[h1,wordS,packA]);refine Imp.auto (by kernel_rfl) ?_ ?_<;>simp[NLe,h1,wordS,packA])
   ·cases fl
    ·obtain ⟨P,hP⟩:∃ P,packK [[.int .i64 4],[.int .i64 1],[.int .i64 8],[.int .i64 16],[.int .i64 8]] [[.int .i64 k],[.int .i64 0],[.int .i64 sg],[.int .i64 sl],[.int .i64 sf]] 5=P:=⟨_,rfl⟩
     cases P
     ·unfold m62
      repeat' with_reducible (first
       | refine ZR.h ?_ | refine zI (by decide) ?_
       | ((first | refine zK hE ?_ | refine zL hE mixT ?_);intro K hK;simp[KR.ks,KD.ks,KD.cl,q62_0,q62_1,q62_2,q62_3,q62_4,q62_5,q62_6,h1,isWd,isV,lowZ,cellI,hcond,hP,packA,d71,d82,d86];(repeat' (first | refine hK _ _ ?_ | refine And.intro ?_ ?_ | (intro hc;try subst hc)))<;>(try clear hK K))
       | (refine zJ (b:=_) (by with_unfolding_all rfl) (fun hc=>?_) (fun hc=>?_)<;>simp at hc<;>(try subst hc)))
      all_goals first|(simp;done)|(simp at *;omega)|((try simp[h1,wordS,hP,packA]);refine Imp.auto (by kernel_rfl) ?_ ?_<;>simp[NLe,h1,wordS,hP,packA])
     ·unfold m62
      repeat' with_reducible (first
       | refine ZR.h ?_ | refine zI (by decide) ?_
       | ((first | refine zK hE ?_ | refine zL hE mixT ?_);intro K hK;simp[KR.ks,KD.ks,KD.cl,q62_0,q62_1,q62_2,q62_3,q62_4,q62_5,q62_6,h1,isWd,isV,lowZ,cellI,hcond,hP,packA,d71,d82,d86];(repeat' (first | refine hK _ _ ?_ | refine And.intro ?_ ?_ | (intro hc;try subst hc)))<;>(try clear hK K))
       | (refine zJ (b:=_) (by with_unfolding_all rfl) (fun hc=>?_) (fun hc=>?_)<;>simp at hc<;>(try subst hc)))
      all_goals first|(simp;done)|(simp at *;omega)|((try simp[h1,wordS,hP,packA]);refine Imp.auto (by kernel_rfl) ?_ ?_<;>simp[NLe,h1,wordS,hP,packA])
    ·obtain ⟨P,hP⟩:∃ P,packK [[.int .i64 4],[.int .i64 1],[.int .i64 8],[.int .i64 16],[.int .i64 8]] [[.int .i64 k],[.int .i64 1],[.int .i64 sg],[.int .i64 sl],[.int .i64 sf]] 5=P:=⟨_,rfl⟩
     cases P
     ·unfold m62
      repeat' with_reducible (first
       | refine ZR.h ?_ | refine zI (by decide) ?_
       | ((first | refine zK hE ?_ | refine zL hE mixT ?_);intro K hK;simp[KR.ks,KD.ks,KD.cl,q62_0,q62_1,q62_2,q62_3,q62_4,q62_5,q62_6,h1,isWd,isV,lowZ,cellI,hcond,hP,packA,d71,d82,d86];(repeat' (first | refine hK _ _ ?_ | refine And.intro ?_ ?_ | (intro hc;try subst hc)))<;>(try clear hK K))
       | (refine zJ (b:=_) (by with_unfolding_all rfl) (fun hc=>?_) (fun hc=>?_)<;>simp at hc<;>(try subst hc)))
      all_goals first|(simp;done)|(simp at *;omega)|((try simp[h1,wordS,hP,packA]);refine Imp.auto (by kernel_rfl) ?_ ?_<;>simp[NLe,h1,wordS,hP,packA])
     ·unfold m62
      repeat' with_reducible (first
       | refine ZR.h ?_ | refine zI (by decide) ?_
       | ((first | refine zK hE ?_ | refine zL hE mixT ?_);intro K hK;simp[KR.ks,KD.ks,KD.cl,q62_0,q62_1,q62_2,q62_3,q62_4,q62_5,q62_6,h1,isWd,isV,lowZ,cellI,hcond,hP,packA,d71,d82,d86];(repeat' (first | refine hK _ _ ?_ | refine And.intro ?_ ?_ | (intro hc;try subst hc)))<;>(try clear hK K))
       | (refine zJ (b:=_) (by with_unfolding_all rfl) (fun hc=>?_) (fun hc=>?_)<;>simp at hc<;>(try subst hc)))
      all_goals first|(simp;done)|(simp at *;omega)|((try simp[h1,wordS,hP,packA]);refine Imp.auto (by kernel_rfl) ?_ ?_<;>simp[NLe,h1,wordS,hP,packA])
  ·cases h
 ·cases h
def d91:List AV→List NObj→Option AV
 | [.agg [.int .i64 k,.int .i64 q,.int .i64 p,.int .i64 t,.int .i64 c,.int .i64 g]],[]=>if -9223372036854775808≤k∧k≤9223372036854775807∧-9223372036854775808≤q∧q≤9223372036854775807∧-9223372036854775808≤p∧p≤9223372036854775807∧-9223372036854775808≤t∧t≤9223372036854775807∧-9223372036854775808≤c∧c≤9223372036854775807∧-9223372036854775808≤g∧g≤9223372036854775807 then some (packA (recW ⟨k,q,p,t,c,g⟩)) else none
 | _,_=>none
theorem ok91:ROk d91:=by
 intro xs os r h
 unfold d91 at h
 (repeat' (split at h))<;>first|(cases h;done)|(injection h with h;subst h;unfold packA;split<;>simp)
theorem s91:Sound Try.prog 91 (rdS d91 ok91):=by
 refine rd_sound Try.func91 nm91 rc91 rv91 ok91 fun xs os r h vs ρ0 hvs=>⟨xs,?_,fun _ h=>h,fun w0 S hS=>?_⟩
 ·unfold d91 at h
  (repeat' (split at h))<;>first|(cases h;done)|exact Nat.le_of_ble_eq_true rfl
 unfold d91 at h
 split at h
 ·split at h
  ·rename_i k q p t c g hcond
   injection h with h
   subst h
   have hE:SoundAll Try.prog (EL [(71,rdS d71 ok71),(60,nestS [] d60 ok60),(86,rdS d86 ok86)]):=EL_sound (by simp only[List.mem_cons,List.not_mem_nil,or_false,forall_eq_or_imp,forall_eq];exact ⟨s71,s60,s86⟩)
   by_cases h1:5<k
   ·unfold m91
    repeat' with_reducible (first
     | refine ZR.h ?_ | refine zI (by decide) ?_
     | ((first | refine zK hE ?_ | refine zL hE mixT ?_);intro K hK;simp[KR.ks,KD.ks,KD.cl,q91_0,q91_1,q91_2,q91_3,h1,d71,d60,d86];(repeat' (first | refine hK _ _ ?_ | refine And.intro ?_ ?_ | (intro hc;try subst hc)))<;>(try clear hK K))
     | (refine zJ (b:=_) (by with_unfolding_all rfl) (fun hc=>?_) (fun hc=>?_)<;>simp at hc<;>(try subst hc)))
    all_goals first|(simp;done)|(simp at *;omega)|((try simp[h1,recW,packA]);refine Imp.auto (by kernel_rfl) ?_ ?_<;>simp[NLe,h1,recW,packA])
   ·obtain ⟨P,hP⟩:∃ P,packK [[.int .i64 3],[.int .i64 16],[.int .i64 16],[.int .i64 20],[.int .i64 5],[.int .i64 4]] [[.int .i64 k],[.int .i64 q],[.int .i64 p],[.int .i64 t],[.int .i64 c],[.int .i64 g]] 6=P:=⟨_,rfl⟩
    cases P
    ·unfold m91
     repeat' with_reducible (first
      | refine ZR.h ?_ | refine zI (by decide) ?_
      | ((first | refine zK hE ?_ | refine zL hE mixT ?_);intro K hK;simp[KR.ks,KD.ks,KD.cl,q91_0,q91_1,q91_2,q91_3,h1,isWd,isV,lowZ,cellI,hcond,hP,packA,d71,d60,d86];(repeat' (first | refine hK _ _ ?_ | refine And.intro ?_ ?_ | (intro hc;try subst hc)))<;>(try clear hK K))
      | (refine zJ (b:=_) (by with_unfolding_all rfl) (fun hc=>?_) (fun hc=>?_)<;>simp at hc<;>(try subst hc)))
     all_goals first|(simp;done)|(simp at *;omega)|((try simp[h1,recW,hP,packA]);refine Imp.auto (by kernel_rfl) ?_ ?_<;>simp[NLe,h1,recW,hP,packA])
    ·unfold m91
     repeat' with_reducible (first
      | refine ZR.h ?_ | refine zI (by decide) ?_
      | ((first | refine zK hE ?_ | refine zL hE mixT ?_);intro K hK;simp[KR.ks,KD.ks,KD.cl,q91_0,q91_1,q91_2,q91_3,h1,isWd,isV,lowZ,cellI,hcond,hP,packA,d71,d60,d86];(repeat' (first | refine hK _ _ ?_ | refine And.intro ?_ ?_ | (intro hc;try subst hc)))<;>(try clear hK K))
      | (refine zJ (b:=_) (by with_unfolding_all rfl) (fun hc=>?_) (fun hc=>?_)<;>simp at hc<;>(try subst hc)))
     all_goals first|(simp;done)|(simp at *;omega)|((try simp[h1,recW,hP,packA]);refine Imp.auto (by kernel_rfl) ?_ ?_<;>simp[NLe,h1,recW,hP,packA])
  ·cases h
 ·cases h
def d67:List AV→List NObj→Option AV
 | [.agg [.int .i64 k,.bool fl,.int .i64 sg,.int .i64 sl,.int .i64 sf],.int .i64 t],[]=>some (.tup [rcA (endS ⟨k,fl,sg,sl,sf⟩ t).1,.bool (endS ⟨k,fl,sg,sl,sf⟩ t).2])
 | _,_=>none
theorem ok67:ROk d67:=by
 intro xs os r h
 unfold d67 at h
 (repeat' (split at h))<;>first|(cases h;done)|(injection h with h;subst h;simp[rcA])
theorem s67:Sound Try.prog 67 (rdS d67 ok67):=by
 refine rd_sound Try.func67 nm67 rc67 rv67 ok67 fun xs os r h vs ρ0 hvs=>⟨xs,?_,fun _ h=>h,fun w0 S hS=>?_⟩
 ·unfold d67 at h
  (repeat' (split at h))<;>first|(cases h;done)|exact Nat.le_of_ble_eq_true rfl
 unfold d67 at h
 split at h
 ·rename_i k fl sg sl sf t
  injection h with h
  subst h
  have hE:SoundAll Try.prog (EL []):=EL_sound (by simp)
  by_cases h1:k=5
  ·unfold m67
   repeat' with_reducible (first
    | refine ZR.h ?_ | refine zI (by decide) ?_
    | (refine zK hE ?_;intro K hK;simp[KR.ks,q67_0,q67_1,q67_2,q67_3,q67_4,q67_5,q67_6,q67_7,q67_8,q67_9,q67_10,q67_11,q67_12,h1,endS,rcA];(repeat' (first | refine hK _ _ ?_ | refine And.intro ?_ ?_ | (intro hc;try subst hc)))<;>(try clear hK K))
    | (refine zJ (b:=_) (by with_unfolding_all rfl) (fun hc=>?_) (fun hc=>?_)<;>simp at hc<;>(try subst hc)))
   all_goals first|(simp;done)|(simp at *;omega)|((try simp[h1,endS,rcA]);refine Imp.auto (by kernel_rfl) ?_ ?_<;>simp[NLe,h1,endS,rcA])
  ·by_cases h2:k=6
   ·unfold m67
    repeat' with_reducible (first
     | refine ZR.h ?_ | refine zI (by decide) ?_
     | (refine zK hE ?_;intro K hK;simp[KR.ks,q67_0,q67_1,q67_2,q67_3,q67_4,q67_5,q67_6,q67_7,q67_8,q67_9,q67_10,q67_11,q67_12,h1,h2,endS,rcA];(repeat' (first | refine hK _ _ ?_ | refine And.intro ?_ ?_ | (intro hc;try subst hc)))<;>(try clear hK K))
     | (refine zJ (b:=_) (by with_unfolding_all rfl) (fun hc=>?_) (fun hc=>?_)<;>simp at hc<;>(try subst hc)))
    all_goals first|(simp;done)|(simp at *;omega)|((try simp[h1,h2,endS,rcA]);refine Imp.auto (by kernel_rfl) ?_ ?_<;>simp[NLe,h1,h2,endS,rcA])
   ·by_cases h3:k=7
    ·unfold m67
     repeat' with_reducible (first
      | refine ZR.h ?_ | refine zI (by decide) ?_
      | (refine zK hE ?_;intro K hK;simp[KR.ks,q67_0,q67_1,q67_2,q67_3,q67_4,q67_5,q67_6,q67_7,q67_8,q67_9,q67_10,q67_11,q67_12,h1,h2,h3,endS,rcA];(repeat' (first | refine hK _ _ ?_ | refine And.intro ?_ ?_ | (intro hc;try subst hc)))<;>(try clear hK K))
      | (refine zJ (b:=_) (by with_unfolding_all rfl) (fun hc=>?_) (fun hc=>?_)<;>simp at hc<;>(try subst hc)))
     all_goals first|(simp;done)|(simp at *;omega)|((try simp[h1,h2,h3,endS,rcA]);refine Imp.auto (by kernel_rfl) ?_ ?_<;>simp[NLe,h1,h2,h3,endS,rcA])
    ·by_cases h4:k=8
     ·unfold m67
      repeat' with_reducible (first
       | refine ZR.h ?_ | refine zI (by decide) ?_
       | (refine zK hE ?_;intro K hK;simp[KR.ks,q67_0,q67_1,q67_2,q67_3,q67_4,q67_5,q67_6,q67_7,q67_8,q67_9,q67_10,q67_11,q67_12,h1,h2,h3,h4,endS,rcA];(repeat' (first | refine hK _ _ ?_ | refine And.intro ?_ ?_ | (intro hc;try subst hc)))<;>(try clear hK K))
       | (refine zJ (b:=_) (by with_unfolding_all rfl) (fun hc=>?_) (fun hc=>?_)<;>simp at hc<;>(try subst hc)))
      all_goals first|(simp;done)|(simp at *;omega)|((try simp[h1,h2,h3,h4,endS,rcA]);refine Imp.auto (by kernel_rfl) ?_ ?_<;>simp[NLe,h1,h2,h3,h4,endS,rcA])
     ·unfold m67
      repeat' with_reducible (first
       | refine ZR.h ?_ | refine zI (by decide) ?_
       | (refine zK hE ?_;intro K hK;simp[KR.ks,q67_0,q67_1,q67_2,q67_3,q67_4,q67_5,q67_6,q67_7,q67_8,q67_9,q67_10,q67_11,q67_12,h1,h2,h3,h4,endS,rcA];(repeat' (first | refine hK _ _ ?_ | refine And.intro ?_ ?_ | (intro hc;try subst hc)))<;>(try clear hK K))
       | (refine zJ (b:=_) (by with_unfolding_all rfl) (fun hc=>?_) (fun hc=>?_)<;>simp at hc<;>(try subst hc)))
      all_goals first|(simp;done)|(simp at *;omega)|((try simp[h1,h2,h3,h4,endS,rcA]);refine Imp.auto (by kernel_rfl) ?_ ?_<;>simp[NLe,h1,h2,h3,h4,endS,rcA])
 ·cases h
def d106:List AV→List NObj→Option AV
 | [.int .i64 a,.int .i64 b],[]=>if a≤b then some (.int .i64 0) else none
 | _,_=>none
theorem ok106:ROk d106:=by
 intro xs os r h
 unfold d106 at h
 (repeat' (split at h))<;>first|(cases h;done)|(injection h with h;subst h;simp)
theorem s106:Sound Try.prog 106 (rdS d106 ok106):=by
 refine rd_sound Try.func106 nm106 rc106 rv106 ok106 fun xs os r h vs ρ0 hvs=>⟨xs,?_,fun _ h=>h,fun w0 S hS=>?_⟩
 ·unfold d106 at h
  (repeat' (split at h))<;>first|(cases h;done)|exact Nat.le_of_ble_eq_true rfl
 unfold d106 at h
 split at h
 ·split at h
  ·rename_i a b hcond
   injection h with h
   subst h
   have hE:SoundAll Try.prog (EL []):=EL_sound (by simp)
   have h1:¬ b<a:=by omega
   unfold m106
   repeat' with_reducible (first
    | refine ZR.h ?_ | refine zI (by decide) ?_
    | (refine zK hE ?_;intro K hK;simp[KR.ks,q106_0,q106_1,q106_2,q106_3,h1];(repeat' (first | refine hK _ _ ?_ | refine And.intro ?_ ?_ | (intro hc;try subst hc)))<;>(try clear hK K))
    | (refine zJ (b:=_) (by with_unfolding_all rfl) (fun hc=>?_) (fun hc=>?_)<;>simp at hc<;>(try subst hc)))
   all_goals first|(simp;done)|(simp at *;omega)|((try simp);refine Imp.auto (by kernel_rfl) ?_ ?_<;>simp[NLe])
  ·cases h
 ·cases h
def d103:List AV→List NObj→Option AV
 | [.int .i64 a,.int .i64 b],[]=>if 0≤a∧a≤b∧b≤1000000 then some (.int .i64 (a+(b - a) / 2)) else none
 | _,_=>none
theorem ok103:ROk d103:=by
 intro xs os r h
 unfold d103 at h
 (repeat' (split at h))<;>first|(cases h;done)|(injection h with h;subst h;simp)
theorem s103:Sound Try.prog 103 (rdS d103 ok103):=by
 refine rd_sound Try.func103 nm103 rc103 rv103 ok103 fun xs os r h vs ρ0 hvs=>⟨xs,?_,fun _ h=>h,fun w0 S hS=>?_⟩
 ·unfold d103 at h
  (repeat' (split at h))<;>first|(cases h;done)|exact Nat.le_of_ble_eq_true rfl
 unfold d103 at h
 split at h
 ·split at h
  ·rename_i a b hcond
   injection h with h
   subst h
   have hE:SoundAll Try.prog (EL [(106,rdS d106 ok106)]):=EL_sound (by simp only[List.mem_cons,List.not_mem_nil,or_false,forall_eq_or_imp,forall_eq];exact s106)
   obtain ⟨h0,h1,h2⟩:=hcond
   have w1:IntKind.wrap .i64 (b - a)=b - a:=wrap_in (by omega) (by omega)
   have w2:IntKind.wrap .i64 ((b - a).tdiv 2)=(b - a) / 2:=tdiv_in (by omega) (by omega) (by omega)
   have w3:IntKind.wrap .i64 (a+(b - a) / 2)=a+(b - a) / 2:=wrap_in (by omega) (by omega)
   unfold m103
   repeat' with_reducible (first
    | refine ZR.h ?_ | refine zI (by decide) ?_
    | (refine zK hE ?_;intro K hK;simp[KR.ks,q103_0,q103_1,h1,w1,w2,w3,d106];(repeat' (first | refine hK _ _ ?_ | refine And.intro ?_ ?_ | (intro hc;try subst hc)))<;>(try clear hK K))
    | (refine zJ (b:=_) (by with_unfolding_all rfl) (fun hc=>?_) (fun hc=>?_)<;>simp at hc<;>(try subst hc)))
   all_goals first|(simp;done)|(simp at *;omega)|((try simp);refine Imp.auto (by kernel_rfl) ?_ ?_<;>simp[NLe])
  ·cases h
 ·cases h
def matchZ (a b:TmZ) (l o:Int):Int×Int :=
 if (if a.sd=1 then b.sd else a.sd)≠0 then (0,0) else if (if a.sd=1 then a.sd else b.sd)≠1 then (0,0) else if a.nm≠b.nm then (0,0)
 else if (if a.sd=1 then b.pr else a.pr)<(if a.sd=1 then a.pr else b.pr) then (0,0)
 else if (if o<l then o else l)<1 then (0,0) else if (if o<l then o else l)<(if a.le<b.le then b.le else a.le) then (0,0)
 else (if o<l then o else l,(if a.sd=1 then a.pr else b.pr)+((if a.sd=1 then b.pr else a.pr) - (if a.sd=1 then a.pr else b.pr)) / 2)
def d95:List AV→List NObj→Option AV
 | [.agg [.int .i64 a0,.int .i64 a1,.int .i64 a2,.int .i64 a3,.int .i64 a4],.agg [.int .i64 b0,.int .i64 b1,.int .i64 b2,.int .i64 b3,.int .i64 b4],.int .i64 l,.int .i64 o],[]=>if 0≤a2∧a2≤1000000∧0≤b2∧b2≤1000000 then some (.agg [.int .i64 (matchZ ⟨a0,a1,a2,a3,a4⟩ ⟨b0,b1,b2,b3,b4⟩ l o).1,.int .i64 (matchZ ⟨a0,a1,a2,a3,a4⟩ ⟨b0,b1,b2,b3,b4⟩ l o).2]) else none
 | _,_=>none
theorem ok95:ROk d95:=by
 intro xs os r h
 unfold d95 at h
 (repeat' (split at h))<;>first|(cases h;done)|(injection h with h;subst h;simp)
theorem s95:Sound Try.prog 95 (rdS d95 ok95):=by
 refine rd_sound Try.func95 nm95 rc95 rv95 ok95 fun xs os r h vs ρ0 hvs=>⟨xs,?_,fun _ h=>h,fun w0 S hS=>?_⟩
 ·unfold d95 at h
  (repeat' (split at h))<;>first|(cases h;done)|exact Nat.le_of_ble_eq_true rfl
 unfold d95 at h
 split at h
 ·split at h
  ·rename_i a0 a1 a2 a3 a4 b0 b1 b2 b3 b4 l o hcond
   injection h with h
   subst h
   have hE:SoundAll Try.prog (EL [(103,rdS d103 ok103)]):=EL_sound (by simp only[List.mem_cons,List.not_mem_nil,or_false,forall_eq_or_imp,forall_eq];exact s103)
   obtain ⟨hp0,hp1,hp2,hp3⟩:=hcond
   obtain ⟨q,hq⟩:∃ q,(if o<l then o else l)=q:=⟨_,rfl⟩
   obtain ⟨mx,hm⟩:∃ mx,(if a3<b3 then b3 else a3)=mx:=⟨_,rfl⟩
   by_cases h0:a1=1
   ·skip
    by_cases h1:b1≠0
    ·unfold m95
     repeat' with_reducible (first
      | refine ZR.h ?_ | refine zI (by decide) ?_
      | ((first | refine zK hE ?_ | refine zL hE mixT ?_);intro K hK;simp[KR.ks,KD.ks,KD.cl,q95_0,q95_1,q95_2,q95_3,q95_4,q95_5,q95_6,q95_7,q95_8,q95_9,h1,h0,hq,hm,matchZ,d103];(repeat' (first | refine hK _ _ ?_ | refine And.intro ?_ ?_ | (intro hc;try subst hc)))<;>(try clear hK K))
      | (refine zJ (b:=_) (by with_unfolding_all rfl) (fun hc=>?_) (fun hc=>?_)<;>simp at hc<;>(try subst hc)))
     all_goals first|(simp;done)|(simp at *;omega)|((try simp[h1,h0,hq,hm,matchZ]);refine Imp.auto (by kernel_rfl) ?_ ?_<;>simp[NLe,h1,h0,hq,hm,matchZ])
    ·have h1':b1=0:=by omega
     by_cases h3:a0≠b0
     ·unfold m95
      repeat' with_reducible (first
       | refine ZR.h ?_ | refine zI (by decide) ?_
       | ((first | refine zK hE ?_ | refine zL hE mixT ?_);intro K hK;simp[KR.ks,KD.ks,KD.cl,q95_0,q95_1,q95_2,q95_3,q95_4,q95_5,q95_6,q95_7,q95_8,q95_9,h1',h3,h0,hq,hm,matchZ,d103];(repeat' (first | refine hK _ _ ?_ | refine And.intro ?_ ?_ | (intro hc;try subst hc)))<;>(try clear hK K))
       | (refine zJ (b:=_) (by with_unfolding_all rfl) (fun hc=>?_) (fun hc=>?_)<;>simp at hc<;>(try subst hc)))
      all_goals first|(simp;done)|(simp at *;omega)|((try simp[h1',h3,h0,hq,hm,matchZ]);refine Imp.auto (by kernel_rfl) ?_ ?_<;>simp[NLe,h1',h3,h0,hq,hm,matchZ])
     ·have h3':a0=b0:=by omega
      by_cases h4:b2<a2
      ·unfold m95
       repeat' with_reducible (first
        | refine ZR.h ?_ | refine zI (by decide) ?_
        | ((first | refine zK hE ?_ | refine zL hE mixT ?_);intro K hK;simp[KR.ks,KD.ks,KD.cl,q95_0,q95_1,q95_2,q95_3,q95_4,q95_5,q95_6,q95_7,q95_8,q95_9,h1',h3',h4,h0,hq,hm,matchZ,d103];(repeat' (first | refine hK _ _ ?_ | refine And.intro ?_ ?_ | (intro hc;try subst hc)))<;>(try clear hK K))
        | (refine zJ (b:=_) (by with_unfolding_all rfl) (fun hc=>?_) (fun hc=>?_)<;>simp at hc<;>(try subst hc)))
       all_goals first|(simp;done)|(simp at *;omega)|((try simp[h1',h3',h4,h0,hq,hm,matchZ]);refine Imp.auto (by kernel_rfl) ?_ ?_<;>simp[NLe,h1',h3',h4,h0,hq,hm,matchZ])
      ·by_cases h5:q<1
       ·unfold m95
        repeat' with_reducible (first
         | refine ZR.h ?_ | refine zI (by decide) ?_
         | ((first | refine zK hE ?_ | refine zL hE mixT ?_);intro K hK;simp[KR.ks,KD.ks,KD.cl,q95_0,q95_1,q95_2,q95_3,q95_4,q95_5,q95_6,q95_7,q95_8,q95_9,h1',h3',h4,h5,h0,hq,hm,matchZ,d103];(repeat' (first | refine hK _ _ ?_ | refine And.intro ?_ ?_ | (intro hc;try subst hc)))<;>(try clear hK K))
         | (refine zJ (b:=_) (by with_unfolding_all rfl) (fun hc=>?_) (fun hc=>?_)<;>simp at hc<;>(try subst hc)))
        all_goals first|(simp;done)|(simp at *;omega)|((try simp[h1',h3',h4,h5,h0,hq,hm,matchZ]);refine Imp.auto (by kernel_rfl) ?_ ?_<;>simp[NLe,h1',h3',h4,h5,h0,hq,hm,matchZ])
       ·by_cases h6:q<mx
        ·unfold m95
         repeat' with_reducible (first
          | refine ZR.h ?_ | refine zI (by decide) ?_
          | ((first | refine zK hE ?_ | refine zL hE mixT ?_);intro K hK;simp[KR.ks,KD.ks,KD.cl,q95_0,q95_1,q95_2,q95_3,q95_4,q95_5,q95_6,q95_7,q95_8,q95_9,h1',h3',h4,h5,h6,h0,hq,hm,matchZ,d103];(repeat' (first | refine hK _ _ ?_ | refine And.intro ?_ ?_ | (intro hc;try subst hc)))<;>(try clear hK K))
          | (refine zJ (b:=_) (by with_unfolding_all rfl) (fun hc=>?_) (fun hc=>?_)<;>simp at hc<;>(try subst hc)))
         all_goals first|(simp;done)|(simp at *;omega)|((try simp[h1',h3',h4,h5,h6,h0,hq,hm,matchZ]);refine Imp.auto (by kernel_rfl) ?_ ?_<;>simp[NLe,h1',h3',h4,h5,h6,h0,hq,hm,matchZ])
        ·have hr1:0≤a2∧a2≤b2∧b2≤1000000:=by omega
         have hr2:a2≤b2:=by omega
         unfold m95
         repeat' with_reducible (first
          | refine ZR.h ?_ | refine zI (by decide) ?_
          | ((first | refine zK hE ?_ | refine zL hE mixT ?_);intro K hK;simp[KR.ks,KD.ks,KD.cl,q95_0,q95_1,q95_2,q95_3,q95_4,q95_5,q95_6,q95_7,q95_8,q95_9,h1',h3',h4,h5,h6,h0,hq,hm,matchZ,hr1,hr2,d103];(repeat' (first | refine hK _ _ ?_ | refine And.intro ?_ ?_ | (intro hc;try subst hc)))<;>(try clear hK K))
          | (refine zJ (b:=_) (by with_unfolding_all rfl) (fun hc=>?_) (fun hc=>?_)<;>simp at hc<;>(try subst hc)))
         all_goals first|(simp;done)|(simp at *;omega)|((try simp[h1',h3',h4,h5,h6,h0,hq,hm,matchZ,hr1,hr2]);refine Imp.auto (by kernel_rfl) ?_ ?_<;>simp[NLe,h1',h3',h4,h5,h6,h0,hq,hm,matchZ,hr1,hr2])
   ·skip
    by_cases h1:a1≠0
    ·unfold m95
     repeat' with_reducible (first
      | refine ZR.h ?_ | refine zI (by decide) ?_
      | ((first | refine zK hE ?_ | refine zL hE mixT ?_);intro K hK;simp[KR.ks,KD.ks,KD.cl,q95_0,q95_1,q95_2,q95_3,q95_4,q95_5,q95_6,q95_7,q95_8,q95_9,h1,h0,hq,hm,matchZ,d103];(repeat' (first | refine hK _ _ ?_ | refine And.intro ?_ ?_ | (intro hc;try subst hc)))<;>(try clear hK K))
      | (refine zJ (b:=_) (by with_unfolding_all rfl) (fun hc=>?_) (fun hc=>?_)<;>simp at hc<;>(try subst hc)))
     all_goals first|(simp;done)|(simp at *;omega)|((try simp[h1,h0,hq,hm,matchZ]);refine Imp.auto (by kernel_rfl) ?_ ?_<;>simp[NLe,h1,h0,hq,hm,matchZ])
    ·have h1':a1=0:=by omega
     by_cases h2:b1≠1
     ·unfold m95
      repeat' with_reducible (first
       | refine ZR.h ?_ | refine zI (by decide) ?_
       | ((first | refine zK hE ?_ | refine zL hE mixT ?_);intro K hK;simp[KR.ks,KD.ks,KD.cl,q95_0,q95_1,q95_2,q95_3,q95_4,q95_5,q95_6,q95_7,q95_8,q95_9,h1',h2,h0,hq,hm,matchZ,d103];(repeat' (first | refine hK _ _ ?_ | refine And.intro ?_ ?_ | (intro hc;try subst hc)))<;>(try clear hK K))
       | (refine zJ (b:=_) (by with_unfolding_all rfl) (fun hc=>?_) (fun hc=>?_)<;>simp at hc<;>(try subst hc)))
      all_goals first|(simp;done)|(simp at *;omega)|((try simp[h1',h2,h0,hq,hm,matchZ]);refine Imp.auto (by kernel_rfl) ?_ ?_<;>simp[NLe,h1',h2,h0,hq,hm,matchZ])
     ·have h2':b1=1:=by omega
      by_cases h3:a0≠b0
      ·unfold m95
       repeat' with_reducible (first
        | refine ZR.h ?_ | refine zI (by decide) ?_
        | ((first | refine zK hE ?_ | refine zL hE mixT ?_);intro K hK;simp[KR.ks,KD.ks,KD.cl,q95_0,q95_1,q95_2,q95_3,q95_4,q95_5,q95_6,q95_7,q95_8,q95_9,h1',h2',h3,h0,hq,hm,matchZ,d103];(repeat' (first | refine hK _ _ ?_ | refine And.intro ?_ ?_ | (intro hc;try subst hc)))<;>(try clear hK K))
        | (refine zJ (b:=_) (by with_unfolding_all rfl) (fun hc=>?_) (fun hc=>?_)<;>simp at hc<;>(try subst hc)))
       all_goals first|(simp;done)|(simp at *;omega)|((try simp[h1',h2',h3,h0,hq,hm,matchZ]);refine Imp.auto (by kernel_rfl) ?_ ?_<;>simp[NLe,h1',h2',h3,h0,hq,hm,matchZ])
      ·have h3':a0=b0:=by omega
       by_cases h4:a2<b2
       ·unfold m95
        repeat' with_reducible (first
         | refine ZR.h ?_ | refine zI (by decide) ?_
         | ((first | refine zK hE ?_ | refine zL hE mixT ?_);intro K hK;simp[KR.ks,KD.ks,KD.cl,q95_0,q95_1,q95_2,q95_3,q95_4,q95_5,q95_6,q95_7,q95_8,q95_9,h1',h2',h3',h4,h0,hq,hm,matchZ,d103];(repeat' (first | refine hK _ _ ?_ | refine And.intro ?_ ?_ | (intro hc;try subst hc)))<;>(try clear hK K))
         | (refine zJ (b:=_) (by with_unfolding_all rfl) (fun hc=>?_) (fun hc=>?_)<;>simp at hc<;>(try subst hc)))
        all_goals first|(simp;done)|(simp at *;omega)|((try simp[h1',h2',h3',h4,h0,hq,hm,matchZ]);refine Imp.auto (by kernel_rfl) ?_ ?_<;>simp[NLe,h1',h2',h3',h4,h0,hq,hm,matchZ])
       ·by_cases h5:q<1
        ·unfold m95
         repeat' with_reducible (first
          | refine ZR.h ?_ | refine zI (by decide) ?_
          | ((first | refine zK hE ?_ | refine zL hE mixT ?_);intro K hK;simp[KR.ks,KD.ks,KD.cl,q95_0,q95_1,q95_2,q95_3,q95_4,q95_5,q95_6,q95_7,q95_8,q95_9,h1',h2',h3',h4,h5,h0,hq,hm,matchZ,d103];(repeat' (first | refine hK _ _ ?_ | refine And.intro ?_ ?_ | (intro hc;try subst hc)))<;>(try clear hK K))
          | (refine zJ (b:=_) (by with_unfolding_all rfl) (fun hc=>?_) (fun hc=>?_)<;>simp at hc<;>(try subst hc)))
         all_goals first|(simp;done)|(simp at *;omega)|((try simp[h1',h2',h3',h4,h5,h0,hq,hm,matchZ]);refine Imp.auto (by kernel_rfl) ?_ ?_<;>simp[NLe,h1',h2',h3',h4,h5,h0,hq,hm,matchZ])
        ·by_cases h6:q<mx
         ·unfold m95
          repeat' with_reducible (first
           | refine ZR.h ?_ | refine zI (by decide) ?_
           | ((first | refine zK hE ?_ | refine zL hE mixT ?_);intro K hK;simp[KR.ks,KD.ks,KD.cl,q95_0,q95_1,q95_2,q95_3,q95_4,q95_5,q95_6,q95_7,q95_8,q95_9,h1',h2',h3',h4,h5,h6,h0,hq,hm,matchZ,d103];(repeat' (first | refine hK _ _ ?_ | refine And.intro ?_ ?_ | (intro hc;try subst hc)))<;>(try clear hK K))
           | (refine zJ (b:=_) (by with_unfolding_all rfl) (fun hc=>?_) (fun hc=>?_)<;>simp at hc<;>(try subst hc)))
          all_goals first|(simp;done)|(simp at *;omega)|((try simp[h1',h2',h3',h4,h5,h6,h0,hq,hm,matchZ]);refine Imp.auto (by kernel_rfl) ?_ ?_<;>simp[NLe,h1',h2',h3',h4,h5,h6,h0,hq,hm,matchZ])
         ·have hr1:0≤b2∧b2≤a2∧a2≤1000000:=by omega
          have hr2:b2≤a2:=by omega
          unfold m95
          repeat' with_reducible (first
           | refine ZR.h ?_ | refine zI (by decide) ?_
           | ((first | refine zK hE ?_ | refine zL hE mixT ?_);intro K hK;simp[KR.ks,KD.ks,KD.cl,q95_0,q95_1,q95_2,q95_3,q95_4,q95_5,q95_6,q95_7,q95_8,q95_9,h1',h2',h3',h4,h5,h6,h0,hq,hm,matchZ,hr1,hr2,d103];(repeat' (first | refine hK _ _ ?_ | refine And.intro ?_ ?_ | (intro hc;try subst hc)))<;>(try clear hK K))
           | (refine zJ (b:=_) (by with_unfolding_all rfl) (fun hc=>?_) (fun hc=>?_)<;>simp at hc<;>(try subst hc)))
          all_goals first|(simp;done)|(simp at *;omega)|((try simp[h1',h2',h3',h4,h5,h6,h0,hq,hm,matchZ,hr1,hr2]);refine Imp.auto (by kernel_rfl) ?_ ?_<;>simp[NLe,h1',h2',h3',h4,h5,h6,h0,hq,hm,matchZ,hr1,hr2])
  ·cases h
 ·cases h
end Go.W

