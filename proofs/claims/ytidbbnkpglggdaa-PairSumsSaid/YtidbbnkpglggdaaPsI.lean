/- A part of the proofs about the pair's laws (PsI). -/
import Derived.Test.YtidbbnkpglggdaaPsH
namespace Go.W
open Go.Proofs
set_option linter.unusedSimpArgs false
set_option linter.unusedVariables false
set_option maxHeartbeats 8000000
attribute [local irreducible] Wm
attribute [local simp] nmap lkp mkPl prs prsL prT ddL idL CRenL CRen Ren RenL NObj.none CRenLL
def d72:List AV→List NObj→Option AV
 | [.str _,.iface _ _],[]=>some (.iface 168 .bot)
 | _,_=>none
theorem ok72:ROk d72:=by
 intro xs os r h
 unfold d72 at h
 (repeat' (split at h))<;>first|(cases h;done)|(injection h with h;subst h;simp)
theorem s72:Sound Try.prog 72 (rdS d72 ok72):=by
 refine rd_sound Try.func72 nm72 rc72 rv72 ok72 fun xs os r h vs ρ0 hvs=>⟨xs,?_,fun _ h=>h,fun w0 S hS=>?_⟩
 ·unfold d72 at h
  (repeat' (split at h))<;>first|(cases h;done)|exact Nat.le_of_ble_eq_true rfl
 unfold d72 at h
 split at h
 ·skip
  injection h with h
  subst h
  have hE:SoundAll Try.prog (EL []):=EL_sound (by simp)
  unfold m72
  repeat' with_reducible (first
   | refine ZR.h ?_ | refine zI (by decide) ?_
   | (refine zK hE ?_;intro K hK;simp[KR.ks,q72_0,q72_1,q72_2,q72_3];(repeat' (first | refine hK _ _ ?_ | refine And.intro ?_ ?_ | (intro hc;try subst hc)))<;>(try clear hK K))
   | (refine zJ (b:=_) (by with_unfolding_all rfl) (fun hc=>?_) (fun hc=>?_)<;>simp at hc<;>(try subst hc)))
  all_goals first|(simp;done)|(simp at *;omega)|((try simp);refine Imp.auto (by kernel_rfl) ?_ ?_<;>simp[NLe])
 ·cases h
def d70:List AV→Option Ans
 | [.agg [.int .i64 a,.int .i64 b,.int .i64 c,.int .i64 d,.int .i64 e,.int .i64 f,.int .i64 g]]=>some ⟨.os 0 4 [[(.str (ByteArray.mk #[112,97,114,116,115])),.int .i64 a,.int .i64 1,.int .i64 6],[(.str (ByteArray.mk #[99,101,108,108,115])),.int .i64 b,.int .i64 1,.int .i64 4],[(.str (ByteArray.mk #[110,97,109,101,115])),.int .i64 c,.int .i64 1,.int .i64 3],[(.str (ByteArray.mk #[98,97,110,100,115])),.int .i64 d,.int .i64 1,.int .i64 4],[(.str (ByteArray.mk #[112,114,111,98,101,115])),.int .i64 e,.int .i64 0,.int .i64 4],[(.str (ByteArray.mk #[102,105,108,108,115])),.int .i64 f,.int .i64 1,.int .i64 4],[(.str (ByteArray.mk #[103,101,110,115])),.int .i64 g,.int .i64 1,.int .i64 15]],[]⟩
 | _=>none
theorem ok70:NOk [] d70:=by
 intro xs a h
 unfold d70 at h
 (repeat' (split at h))<;>first|(cases h;done)|(injection h with h;subst h;refine ⟨Ends_of ?_,?_⟩<;>simp)
theorem s70:Sound Try.prog 70 (nestS [] d70 ok70):=by
 refine nest_sound Try.func70 nm70 rc70 rv70 ok70 (fun xs a h=>?_) fun xs a h w0 S hS=>?_
 ·unfold d70 at h
  (repeat' (split at h))<;>first|(cases h;done)|exact Nat.le_of_ble_eq_true rfl
 unfold d70 at h
 split at h
 ·rename_i a b c d e f g
  injection h with h
  subst h
  have hE:SoundAll Try.prog (EL []):=EL_sound (by simp)
  unfold m70
  repeat' with_reducible (first
   | refine ZR.h ?_ | refine zI (by decide) ?_
   | (refine zK hE ?_;intro K hK;simp[KR.ks,q70_0,q70_1];(repeat' (first | refine hK _ _ ?_ | refine And.intro ?_ ?_ | (intro hc;try subst hc)))<;>(try clear hK K))
   | (refine zJ (b:=_) (by with_unfolding_all rfl) (fun hc=>?_) (fun hc=>?_)<;>simp at hc<;>(try subst hc)))
  all_goals first|(simp;done)|(simp at *;omega)|((try simp);refine Imp.auto (by kernel_rfl) ?_ ?_<;>simp[NLe])
 ·cases h
def checkZ (a b c d e f g:Int):Int :=
 if a<1∨6<a then 0 else if b<1∨4<b then 1 else if c<1∨3<c then 2 else if d<1∨4<d then 3 else if e<0∨4<e then 4 else if f<1∨4<f then 5 else if g<1∨15<g then 6 else -1
theorem check_cfg (a b c d e f g:Int):(checkZ a b c d e f g=-1)=(cfgB a b c d e f g=true):=by
 unfold checkZ cfgB
 rw[decide_eq_true_eq]
 apply propext
 repeat' split
 all_goals omega
theorem check_neg (a b c d e f g:Int):decide (checkZ a b c d e f g<0)=cfgB a b c d e f g:=by
 have h:=check_cfg a b c d e f g
 have h2:checkZ a b c d e f g=-1∨0≤checkZ a b c d e f g:=by
  unfold checkZ
  repeat' split
  all_goals omega
 cases hb:cfgB a b c d e f g
 ·rw[hb]at h
  have:¬ checkZ a b c d e f g=-1:=by rw[h];simp
  rw[decide_eq_false_iff_not];omega
 ·rw[hb]at h
  have:checkZ a b c d e f g=-1:=by rw[h]
  rw[decide_eq_true_iff];omega
def d64:List AV→Option Ans
 | [.agg [.int .i64 a,.int .i64 b,.int .i64 c,.int .i64 d,.int .i64 e,.int .i64 f,.int .i64 g]]=>some ⟨.int .i64 (checkZ a b c d e f g),[]⟩
 | _=>none
theorem ok64:NOk [] d64:=by
 intro xs a h
 unfold d64 at h
 (repeat' (split at h))<;>first|(cases h;done)|(injection h with h;subst h;refine ⟨Ends_of ?_,?_⟩<;>simp)
theorem s64:Sound Try.prog 64 (nestS [] d64 ok64):=by
 refine nest_sound Try.func64 nm64 rc64 rv64 ok64 (fun xs a h=>?_) fun xs a h w0 S hS=>?_
 ·unfold d64 at h
  (repeat' (split at h))<;>first|(cases h;done)|exact Nat.le_of_ble_eq_true rfl
 unfold d64 at h
 split at h
 ·rename_i a b c d e f g
  injection h with h
  subst h
  have hE:SoundAll Try.prog (EL []):=EL_sound (by simp)
  unfold m64
  repeat' with_reducible (first
   | refine ZR.h ?_ | refine zI (by decide) ?_
   | ((first | refine zK hE ?_ | refine zL hE mixT ?_);intro K hK;simp[KR.ks,KD.ks,KD.cl,q64_0,q64_1,q64_2,q64_3,q64_4,q64_5,q64_6,q64_7,q64_8,q64_9];(repeat' (first | refine hK _ _ ?_ | refine And.intro ?_ ?_ | (intro hc;try subst hc)))<;>(try clear hK K))
   | (refine zJ (b:=_) (by with_unfolding_all rfl) (fun hc=>?_) (fun hc=>?_)<;>simp at hc<;>(try subst hc)))
  all_goals refine Wm_unroll 8 ?_
  repeat' with_reducible (first
   | refine ZR.h ?_ | refine zI (by decide) ?_
   | ((first | refine zK hE ?_ | refine zL hE mixT ?_);intro K hK;simp[KR.ks,KD.ks,KD.cl,q64_0,q64_1,q64_2,q64_3,q64_4,q64_5,q64_6,q64_7,q64_8,q64_9,wrap_in];(repeat' (first | refine hK _ _ ?_ | refine And.intro ?_ ?_ | (intro hc;try subst hc)))<;>(try clear hK K))
   | (refine zJ (b:=_) (by with_unfolding_all rfl) (fun hc=>?_) (fun hc=>?_)<;>simp at hc<;>(try subst hc)))
  all_goals first|(simp;done)|((try simp[checkZ]);refine Imp.auto (by kernel_rfl) ?_ ?_<;>simp[NLe]<;>grind)
 ·cases h
def d42:List AV→Option Ans
 | [.agg [.int .i64 a,.int .i64 b,.int .i64 c,.int .i64 d,.int .i64 e,.int .i64 f,.int .i64 g]]=>some ⟨if checkZ a b c d e f g=-1 then .tup [.agg [.int .i64 a,.int .i64 b,.int .i64 c,.int .i64 d,.int .i64 e,.int .i64 f,.int .i64 g],.raw .nilIface] else .tup [.agg [.int .i64 0,.int .i64 0,.int .i64 0,.int .i64 0,.int .i64 0,.int .i64 0,.int .i64 0],.iface 165 .bot],[]⟩
 | _=>none
theorem ok42:NOk [] d42:=by
 intro xs a h
 unfold d42 at h
 split at h
 ·injection h with h;subst h
  split<;>refine ⟨Ends_of ?_,?_⟩<;>simp
 ·cases h
theorem s42:Sound Try.prog 42 (nestS [] d42 ok42):=by
 refine nest_sound Try.func42 nm42 rc42 rv42 ok42 (fun xs a h=>?_) fun xs a h w0 S hS=>?_
 ·unfold d42 at h
  (repeat' (split at h))<;>first|(cases h;done)|exact Nat.le_of_ble_eq_true rfl
 unfold d42 at h
 split at h
 ·rename_i a b c d e f g
  injection h with h
  subst h
  have hE:SoundAll Try.prog (EL [(70,nestS [] d70 ok70),(71,rdS d71 ok71),(72,rdS d72 ok72)]):=EL_sound (by simp only[List.mem_cons,List.not_mem_nil,or_false,forall_eq_or_imp,forall_eq];exact ⟨s70,s71,s72⟩)
  unfold m42
  repeat' with_reducible (first
   | refine ZR.h ?_ | refine zI (by decide) ?_
   | (refine zK hE ?_;intro K hK;simp[KR.ks,q42_0,q42_1,q42_2,q42_3,q42_4,q42_5,q42_6,q42_7,d70,d71,d72];(repeat' (first | refine hK _ _ ?_ | refine And.intro ?_ ?_ | (intro hc;try subst hc)))<;>(try clear hK K))
   | (refine zJ (b:=_) (by with_unfolding_all rfl) (fun hc=>?_) (fun hc=>?_)<;>simp at hc<;>(try subst hc)))
  all_goals refine Wm_unroll 8 ?_
  repeat' with_reducible (first
   | refine ZR.h ?_ | refine zI (by decide) ?_
   | (refine zK hE ?_;intro K hK;simp[KR.ks,q42_0,q42_1,q42_2,q42_3,q42_4,q42_5,q42_6,q42_7,wrap_in,d70,d71,d72];(repeat' (first | refine hK _ _ ?_ | refine And.intro ?_ ?_ | (intro hc;try subst hc)))<;>(try clear hK K))
   | (refine zJ (b:=_) (by with_unfolding_all rfl) (fun hc=>?_) (fun hc=>?_)<;>simp at hc<;>(try subst hc)))
  all_goals first|(simp;done)|(have hz:checkZ a b c d e f g=-1:=(by simp[checkZ];omega);simp[hz];refine Imp.auto (by kernel_rfl) ?_ ?_<;>simp[NLe];done)|(have hz:¬ checkZ a b c d e f g=-1:=(by simp[checkZ];(repeat' split)<;>omega);simp[hz];refine Imp.auto (by kernel_rfl) ?_ ?_<;>simp[NLe])
 ·cases h
def d27:List AV→Option Ans
 | [.agg [.int .i64 a,.int .i64 b,.int .i64 c,.int .i64 d,.int .i64 e,.int .i64 f,.int .i64 g]]=>some ⟨.bool (cfgB a b c d e f g),[]⟩
 | _=>none
theorem ok27:NOk [] d27:=by
 intro xs a h
 unfold d27 at h
 (repeat' (split at h))<;>first|(cases h;done)|(injection h with h;subst h;refine ⟨Ends_of ?_,?_⟩<;>simp)
theorem s27:Sound Try.prog 27 (nestS [] d27 ok27):=by
 refine nest_sound Try.func27 nm27 rc27 rv27 ok27 (fun xs a h=>?_) fun xs a h w0 S hS=>?_
 ·unfold d27 at h
  (repeat' (split at h))<;>first|(cases h;done)|exact Nat.le_of_ble_eq_true rfl
 unfold d27 at h
 split at h
 ·rename_i a b c d e f g
  injection h with h
  subst h
  have hE:SoundAll Try.prog (EL [(64,nestS [] d64 ok64)]):=EL_sound (by simp only[List.mem_cons,List.not_mem_nil,or_false,forall_eq_or_imp,forall_eq];exact s64)
  have hn:=check_neg a b c d e f g
  unfold m27
  repeat' with_reducible (first
   | refine ZR.h ?_ | refine zI (by decide) ?_
   | (refine zK hE ?_;intro K hK;simp[KR.ks,q27_0,q27_1,hn,d64];(repeat' (first | refine hK _ _ ?_ | refine And.intro ?_ ?_ | (intro hc;try subst hc)))<;>(try clear hK K))
   | (refine zJ (b:=_) (by with_unfolding_all rfl) (fun hc=>?_) (fun hc=>?_)<;>simp at hc<;>(try subst hc)))
  all_goals first|(simp;done)|(simp at *;omega)|((try simp);refine Imp.auto (by kernel_rfl) ?_ ?_<;>simp[NLe])
 ·cases h
def d47:List AV→List NObj→Option AV
 | [.int .i64 k],[]=>some (.bool (looseZ k))
 | _,_=>none
theorem ok47:ROk d47:=by
 intro xs os r h
 unfold d47 at h
 (repeat' (split at h))<;>first|(cases h;done)|(injection h with h;subst h;simp)
theorem s47:Sound Try.prog 47 (rdS d47 ok47):=by
 refine rd_sound Try.func47 nm47 rc47 rv47 ok47 fun xs os r h vs ρ0 hvs=>⟨xs,?_,fun _ h=>h,fun w0 S hS=>?_⟩
 ·unfold d47 at h
  (repeat' (split at h))<;>first|(cases h;done)|exact Nat.le_of_ble_eq_true rfl
 unfold d47 at h
 split at h
 ·rename_i k
  injection h with h
  subst h
  have hE:SoundAll Try.prog (EL []):=EL_sound (by simp)
  unfold m47
  repeat' with_reducible (first
   | refine ZR.h ?_ | refine zI (by decide) ?_
   | (refine zK hE ?_;intro K hK;simp[KR.ks,q47_0,q47_1];(repeat' (first | refine hK _ _ ?_ | refine And.intro ?_ ?_ | (intro hc;try subst hc)))<;>(try clear hK K))
   | (refine zJ (b:=_) (by with_unfolding_all rfl) (fun hc=>?_) (fun hc=>?_)<;>simp at hc<;>(try subst hc)))
  all_goals first|(simp;done)|((try simp[looseZ]);refine Imp.auto (by kernel_rfl) ?_ ?_<;>simp[NLe,looseZ]<;>grind)
 ·cases h
def chkT (c:Int) (t:TmZ) (q now:Int):Int:=if t.nm<0 then 22 else if c≤t.nm then 22 else if t.sd≠0∧t.sd≠1 then 1 else if q<1 then 23 else if 9999<q then 23 else if t.pr<1 then 24 else if 9999<t.pr then 24 else if t.le<1 then 25 else if q<t.le then 25 else if t.un≤now then 26 else if 1000000<t.un then 26 else 0
def d48:List AV→List NObj→Option AV
 | [.agg [.int .i64 a,.int .i64 b,.int .i64 c,.int .i64 d,.int .i64 e,.int .i64 f,.int .i64 g],.agg [.int .i64 n0,.int .i64 n1,.int .i64 n2,.int .i64 n3,.int .i64 n4],.int .i64 q,.int .i64 now],[]=>some (.int .i64 (chkT c ⟨n0,n1,n2,n3,n4⟩ q now))
 | _,_=>none
theorem ok48:ROk d48:=by
 intro xs os r h
 unfold d48 at h
 (repeat' (split at h))<;>first|(cases h;done)|(injection h with h;subst h;simp)
theorem s48:Sound Try.prog 48 (rdS d48 ok48):=by
 refine rd_sound Try.func48 nm48 rc48 rv48 ok48 fun xs os r h vs ρ0 hvs=>⟨xs,?_,fun _ h=>h,fun w0 S hS=>?_⟩
 ·unfold d48 at h
  (repeat' (split at h))<;>first|(cases h;done)|exact Nat.le_of_ble_eq_true rfl
 unfold d48 at h
 split at h
 ·rename_i a b c d e f g n0 n1 n2 n3 n4 q now
  injection h with h
  subst h
  have hE:SoundAll Try.prog (EL []):=EL_sound (by simp)
  by_cases h1:n0<0
  ·unfold m48
   repeat' with_reducible (first
    | refine ZR.h ?_ | refine zI (by decide) ?_
    | (refine zK hE ?_;intro K hK;simp[KR.ks,q48_0,q48_1,q48_2,q48_3,q48_4,q48_5,q48_6,q48_7,q48_8,q48_9,q48_10,q48_11,q48_12,q48_13,h1,chkT];(repeat' (first | refine hK _ _ ?_ | refine And.intro ?_ ?_ | (intro hc;try subst hc)))<;>(try clear hK K))
    | (refine zJ (b:=_) (by with_unfolding_all rfl) (fun hc=>?_) (fun hc=>?_)<;>simp at hc<;>(try subst hc)))
   all_goals first|(simp;done)|(simp at *;omega)|((try simp[h1,chkT]);refine Imp.auto (by kernel_rfl) ?_ ?_<;>simp[NLe,h1,chkT])
  ·by_cases h2:c≤n0
   ·unfold m48
    repeat' with_reducible (first
     | refine ZR.h ?_ | refine zI (by decide) ?_
     | (refine zK hE ?_;intro K hK;simp[KR.ks,q48_0,q48_1,q48_2,q48_3,q48_4,q48_5,q48_6,q48_7,q48_8,q48_9,q48_10,q48_11,q48_12,q48_13,h1,h2,chkT];(repeat' (first | refine hK _ _ ?_ | refine And.intro ?_ ?_ | (intro hc;try subst hc)))<;>(try clear hK K))
     | (refine zJ (b:=_) (by with_unfolding_all rfl) (fun hc=>?_) (fun hc=>?_)<;>simp at hc<;>(try subst hc)))
    all_goals first|(simp;done)|(simp at *;omega)|((try simp[h1,h2,chkT]);refine Imp.auto (by kernel_rfl) ?_ ?_<;>simp[NLe,h1,h2,chkT])
   ·by_cases h3:n1≠0∧n1≠1
    ·have h3a:¬ n1=0:=h3.1
     have h3b:¬ n1=1:=h3.2
     unfold m48
     repeat' with_reducible (first
      | refine ZR.h ?_ | refine zI (by decide) ?_
      | (refine zK hE ?_;intro K hK;simp[KR.ks,q48_0,q48_1,q48_2,q48_3,q48_4,q48_5,q48_6,q48_7,q48_8,q48_9,q48_10,q48_11,q48_12,q48_13,h1,h2,h3a,h3b,chkT];(repeat' (first | refine hK _ _ ?_ | refine And.intro ?_ ?_ | (intro hc;try subst hc)))<;>(try clear hK K))
      | (refine zJ (b:=_) (by with_unfolding_all rfl) (fun hc=>?_) (fun hc=>?_)<;>simp at hc<;>(try subst hc)))
     all_goals first|(simp;done)|(simp at *;omega)|((try simp[h1,h2,h3a,h3b,chkT]);refine Imp.auto (by kernel_rfl) ?_ ?_<;>simp[NLe,h1,h2,h3a,h3b,chkT])
    ·have hs:n1=0∨n1=1:=by omega
     rcases hs with hs|hs
     ·skip
      by_cases h4:q<1
      ·unfold m48
       repeat' with_reducible (first
        | refine ZR.h ?_ | refine zI (by decide) ?_
        | (refine zK hE ?_;intro K hK;simp[KR.ks,q48_0,q48_1,q48_2,q48_3,q48_4,q48_5,q48_6,q48_7,q48_8,q48_9,q48_10,q48_11,q48_12,q48_13,h4,h1,h2,hs,chkT];(repeat' (first | refine hK _ _ ?_ | refine And.intro ?_ ?_ | (intro hc;try subst hc)))<;>(try clear hK K))
        | (refine zJ (b:=_) (by with_unfolding_all rfl) (fun hc=>?_) (fun hc=>?_)<;>simp at hc<;>(try subst hc)))
       all_goals first|(simp;done)|(simp at *;omega)|((try simp[h4,h1,h2,hs,chkT]);refine Imp.auto (by kernel_rfl) ?_ ?_<;>simp[NLe,h4,h1,h2,hs,chkT])
      ·by_cases h5:9999<q
       ·unfold m48
        repeat' with_reducible (first
         | refine ZR.h ?_ | refine zI (by decide) ?_
         | (refine zK hE ?_;intro K hK;simp[KR.ks,q48_0,q48_1,q48_2,q48_3,q48_4,q48_5,q48_6,q48_7,q48_8,q48_9,q48_10,q48_11,q48_12,q48_13,h4,h5,h1,h2,hs,chkT];(repeat' (first | refine hK _ _ ?_ | refine And.intro ?_ ?_ | (intro hc;try subst hc)))<;>(try clear hK K))
         | (refine zJ (b:=_) (by with_unfolding_all rfl) (fun hc=>?_) (fun hc=>?_)<;>simp at hc<;>(try subst hc)))
        all_goals first|(simp;done)|(simp at *;omega)|((try simp[h4,h5,h1,h2,hs,chkT]);refine Imp.auto (by kernel_rfl) ?_ ?_<;>simp[NLe,h4,h5,h1,h2,hs,chkT])
       ·by_cases h6:n2<1
        ·unfold m48
         repeat' with_reducible (first
          | refine ZR.h ?_ | refine zI (by decide) ?_
          | (refine zK hE ?_;intro K hK;simp[KR.ks,q48_0,q48_1,q48_2,q48_3,q48_4,q48_5,q48_6,q48_7,q48_8,q48_9,q48_10,q48_11,q48_12,q48_13,h4,h5,h6,h1,h2,hs,chkT];(repeat' (first | refine hK _ _ ?_ | refine And.intro ?_ ?_ | (intro hc;try subst hc)))<;>(try clear hK K))
          | (refine zJ (b:=_) (by with_unfolding_all rfl) (fun hc=>?_) (fun hc=>?_)<;>simp at hc<;>(try subst hc)))
         all_goals first|(simp;done)|(simp at *;omega)|((try simp[h4,h5,h6,h1,h2,hs,chkT]);refine Imp.auto (by kernel_rfl) ?_ ?_<;>simp[NLe,h4,h5,h6,h1,h2,hs,chkT])
        ·by_cases h7:9999<n2
         ·unfold m48
          repeat' with_reducible (first
           | refine ZR.h ?_ | refine zI (by decide) ?_
           | (refine zK hE ?_;intro K hK;simp[KR.ks,q48_0,q48_1,q48_2,q48_3,q48_4,q48_5,q48_6,q48_7,q48_8,q48_9,q48_10,q48_11,q48_12,q48_13,h4,h5,h6,h7,h1,h2,hs,chkT];(repeat' (first | refine hK _ _ ?_ | refine And.intro ?_ ?_ | (intro hc;try subst hc)))<;>(try clear hK K))
           | (refine zJ (b:=_) (by with_unfolding_all rfl) (fun hc=>?_) (fun hc=>?_)<;>simp at hc<;>(try subst hc)))
          all_goals first|(simp;done)|(simp at *;omega)|((try simp[h4,h5,h6,h7,h1,h2,hs,chkT]);refine Imp.auto (by kernel_rfl) ?_ ?_<;>simp[NLe,h4,h5,h6,h7,h1,h2,hs,chkT])
         ·by_cases h8:n3<1
          ·unfold m48
           repeat' with_reducible (first
            | refine ZR.h ?_ | refine zI (by decide) ?_
            | (refine zK hE ?_;intro K hK;simp[KR.ks,q48_0,q48_1,q48_2,q48_3,q48_4,q48_5,q48_6,q48_7,q48_8,q48_9,q48_10,q48_11,q48_12,q48_13,h4,h5,h6,h7,h8,h1,h2,hs,chkT];(repeat' (first | refine hK _ _ ?_ | refine And.intro ?_ ?_ | (intro hc;try subst hc)))<;>(try clear hK K))
            | (refine zJ (b:=_) (by with_unfolding_all rfl) (fun hc=>?_) (fun hc=>?_)<;>simp at hc<;>(try subst hc)))
           all_goals first|(simp;done)|(simp at *;omega)|((try simp[h4,h5,h6,h7,h8,h1,h2,hs,chkT]);refine Imp.auto (by kernel_rfl) ?_ ?_<;>simp[NLe,h4,h5,h6,h7,h8,h1,h2,hs,chkT])
          ·by_cases h9:q<n3
           ·unfold m48
            repeat' with_reducible (first
             | refine ZR.h ?_ | refine zI (by decide) ?_
             | (refine zK hE ?_;intro K hK;simp[KR.ks,q48_0,q48_1,q48_2,q48_3,q48_4,q48_5,q48_6,q48_7,q48_8,q48_9,q48_10,q48_11,q48_12,q48_13,h4,h5,h6,h7,h8,h9,h1,h2,hs,chkT];(repeat' (first | refine hK _ _ ?_ | refine And.intro ?_ ?_ | (intro hc;try subst hc)))<;>(try clear hK K))
             | (refine zJ (b:=_) (by with_unfolding_all rfl) (fun hc=>?_) (fun hc=>?_)<;>simp at hc<;>(try subst hc)))
            all_goals first|(simp;done)|(simp at *;omega)|((try simp[h4,h5,h6,h7,h8,h9,h1,h2,hs,chkT]);refine Imp.auto (by kernel_rfl) ?_ ?_<;>simp[NLe,h4,h5,h6,h7,h8,h9,h1,h2,hs,chkT])
           ·by_cases h10:n4≤now
            ·unfold m48
             repeat' with_reducible (first
              | refine ZR.h ?_ | refine zI (by decide) ?_
              | (refine zK hE ?_;intro K hK;simp[KR.ks,q48_0,q48_1,q48_2,q48_3,q48_4,q48_5,q48_6,q48_7,q48_8,q48_9,q48_10,q48_11,q48_12,q48_13,h4,h5,h6,h7,h8,h9,h10,h1,h2,hs,chkT];(repeat' (first | refine hK _ _ ?_ | refine And.intro ?_ ?_ | (intro hc;try subst hc)))<;>(try clear hK K))
              | (refine zJ (b:=_) (by with_unfolding_all rfl) (fun hc=>?_) (fun hc=>?_)<;>simp at hc<;>(try subst hc)))
             all_goals first|(simp;done)|(simp at *;omega)|((try simp[h4,h5,h6,h7,h8,h9,h10,h1,h2,hs,chkT]);refine Imp.auto (by kernel_rfl) ?_ ?_<;>simp[NLe,h4,h5,h6,h7,h8,h9,h10,h1,h2,hs,chkT])
            ·by_cases h11:1000000<n4
             ·unfold m48
              repeat' with_reducible (first
               | refine ZR.h ?_ | refine zI (by decide) ?_
               | (refine zK hE ?_;intro K hK;simp[KR.ks,q48_0,q48_1,q48_2,q48_3,q48_4,q48_5,q48_6,q48_7,q48_8,q48_9,q48_10,q48_11,q48_12,q48_13,h4,h5,h6,h7,h8,h9,h10,h11,h1,h2,hs,chkT];(repeat' (first | refine hK _ _ ?_ | refine And.intro ?_ ?_ | (intro hc;try subst hc)))<;>(try clear hK K))
               | (refine zJ (b:=_) (by with_unfolding_all rfl) (fun hc=>?_) (fun hc=>?_)<;>simp at hc<;>(try subst hc)))
              all_goals first|(simp;done)|(simp at *;omega)|((try simp[h4,h5,h6,h7,h8,h9,h10,h11,h1,h2,hs,chkT]);refine Imp.auto (by kernel_rfl) ?_ ?_<;>simp[NLe,h4,h5,h6,h7,h8,h9,h10,h11,h1,h2,hs,chkT])
             ·unfold m48
              repeat' with_reducible (first
               | refine ZR.h ?_ | refine zI (by decide) ?_
               | (refine zK hE ?_;intro K hK;simp[KR.ks,q48_0,q48_1,q48_2,q48_3,q48_4,q48_5,q48_6,q48_7,q48_8,q48_9,q48_10,q48_11,q48_12,q48_13,h4,h5,h6,h7,h8,h9,h10,h11,h1,h2,hs,chkT];(repeat' (first | refine hK _ _ ?_ | refine And.intro ?_ ?_ | (intro hc;try subst hc)))<;>(try clear hK K))
               | (refine zJ (b:=_) (by with_unfolding_all rfl) (fun hc=>?_) (fun hc=>?_)<;>simp at hc<;>(try subst hc)))
              all_goals first|(simp;done)|(simp at *;omega)|((try simp[h4,h5,h6,h7,h8,h9,h10,h11,h1,h2,hs,chkT]);refine Imp.auto (by kernel_rfl) ?_ ?_<;>simp[NLe,h4,h5,h6,h7,h8,h9,h10,h11,h1,h2,hs,chkT])
     ·skip
      by_cases h4:q<1
      ·unfold m48
       repeat' with_reducible (first
        | refine ZR.h ?_ | refine zI (by decide) ?_
        | (refine zK hE ?_;intro K hK;simp[KR.ks,q48_0,q48_1,q48_2,q48_3,q48_4,q48_5,q48_6,q48_7,q48_8,q48_9,q48_10,q48_11,q48_12,q48_13,h4,h1,h2,hs,chkT];(repeat' (first | refine hK _ _ ?_ | refine And.intro ?_ ?_ | (intro hc;try subst hc)))<;>(try clear hK K))
        | (refine zJ (b:=_) (by with_unfolding_all rfl) (fun hc=>?_) (fun hc=>?_)<;>simp at hc<;>(try subst hc)))
       all_goals first|(simp;done)|(simp at *;omega)|((try simp[h4,h1,h2,hs,chkT]);refine Imp.auto (by kernel_rfl) ?_ ?_<;>simp[NLe,h4,h1,h2,hs,chkT])
      ·by_cases h5:9999<q
       ·unfold m48
        repeat' with_reducible (first
         | refine ZR.h ?_ | refine zI (by decide) ?_
         | (refine zK hE ?_;intro K hK;simp[KR.ks,q48_0,q48_1,q48_2,q48_3,q48_4,q48_5,q48_6,q48_7,q48_8,q48_9,q48_10,q48_11,q48_12,q48_13,h4,h5,h1,h2,hs,chkT];(repeat' (first | refine hK _ _ ?_ | refine And.intro ?_ ?_ | (intro hc;try subst hc)))<;>(try clear hK K))
         | (refine zJ (b:=_) (by with_unfolding_all rfl) (fun hc=>?_) (fun hc=>?_)<;>simp at hc<;>(try subst hc)))
        all_goals first|(simp;done)|(simp at *;omega)|((try simp[h4,h5,h1,h2,hs,chkT]);refine Imp.auto (by kernel_rfl) ?_ ?_<;>simp[NLe,h4,h5,h1,h2,hs,chkT])
       ·by_cases h6:n2<1
        ·unfold m48
         repeat' with_reducible (first
          | refine ZR.h ?_ | refine zI (by decide) ?_
          | (refine zK hE ?_;intro K hK;simp[KR.ks,q48_0,q48_1,q48_2,q48_3,q48_4,q48_5,q48_6,q48_7,q48_8,q48_9,q48_10,q48_11,q48_12,q48_13,h4,h5,h6,h1,h2,hs,chkT];(repeat' (first | refine hK _ _ ?_ | refine And.intro ?_ ?_ | (intro hc;try subst hc)))<;>(try clear hK K))
          | (refine zJ (b:=_) (by with_unfolding_all rfl) (fun hc=>?_) (fun hc=>?_)<;>simp at hc<;>(try subst hc)))
         all_goals first|(simp;done)|(simp at *;omega)|((try simp[h4,h5,h6,h1,h2,hs,chkT]);refine Imp.auto (by kernel_rfl) ?_ ?_<;>simp[NLe,h4,h5,h6,h1,h2,hs,chkT])
        ·by_cases h7:9999<n2
         ·unfold m48
          repeat' with_reducible (first
           | refine ZR.h ?_ | refine zI (by decide) ?_
           | (refine zK hE ?_;intro K hK;simp[KR.ks,q48_0,q48_1,q48_2,q48_3,q48_4,q48_5,q48_6,q48_7,q48_8,q48_9,q48_10,q48_11,q48_12,q48_13,h4,h5,h6,h7,h1,h2,hs,chkT];(repeat' (first | refine hK _ _ ?_ | refine And.intro ?_ ?_ | (intro hc;try subst hc)))<;>(try clear hK K))
           | (refine zJ (b:=_) (by with_unfolding_all rfl) (fun hc=>?_) (fun hc=>?_)<;>simp at hc<;>(try subst hc)))
          all_goals first|(simp;done)|(simp at *;omega)|((try simp[h4,h5,h6,h7,h1,h2,hs,chkT]);refine Imp.auto (by kernel_rfl) ?_ ?_<;>simp[NLe,h4,h5,h6,h7,h1,h2,hs,chkT])
         ·by_cases h8:n3<1
          ·unfold m48
           repeat' with_reducible (first
            | refine ZR.h ?_ | refine zI (by decide) ?_
            | (refine zK hE ?_;intro K hK;simp[KR.ks,q48_0,q48_1,q48_2,q48_3,q48_4,q48_5,q48_6,q48_7,q48_8,q48_9,q48_10,q48_11,q48_12,q48_13,h4,h5,h6,h7,h8,h1,h2,hs,chkT];(repeat' (first | refine hK _ _ ?_ | refine And.intro ?_ ?_ | (intro hc;try subst hc)))<;>(try clear hK K))
            | (refine zJ (b:=_) (by with_unfolding_all rfl) (fun hc=>?_) (fun hc=>?_)<;>simp at hc<;>(try subst hc)))
           all_goals first|(simp;done)|(simp at *;omega)|((try simp[h4,h5,h6,h7,h8,h1,h2,hs,chkT]);refine Imp.auto (by kernel_rfl) ?_ ?_<;>simp[NLe,h4,h5,h6,h7,h8,h1,h2,hs,chkT])
          ·by_cases h9:q<n3
           ·unfold m48
            repeat' with_reducible (first
             | refine ZR.h ?_ | refine zI (by decide) ?_
             | (refine zK hE ?_;intro K hK;simp[KR.ks,q48_0,q48_1,q48_2,q48_3,q48_4,q48_5,q48_6,q48_7,q48_8,q48_9,q48_10,q48_11,q48_12,q48_13,h4,h5,h6,h7,h8,h9,h1,h2,hs,chkT];(repeat' (first | refine hK _ _ ?_ | refine And.intro ?_ ?_ | (intro hc;try subst hc)))<;>(try clear hK K))
             | (refine zJ (b:=_) (by with_unfolding_all rfl) (fun hc=>?_) (fun hc=>?_)<;>simp at hc<;>(try subst hc)))
            all_goals first|(simp;done)|(simp at *;omega)|((try simp[h4,h5,h6,h7,h8,h9,h1,h2,hs,chkT]);refine Imp.auto (by kernel_rfl) ?_ ?_<;>simp[NLe,h4,h5,h6,h7,h8,h9,h1,h2,hs,chkT])
           ·by_cases h10:n4≤now
            ·unfold m48
             repeat' with_reducible (first
              | refine ZR.h ?_ | refine zI (by decide) ?_
              | (refine zK hE ?_;intro K hK;simp[KR.ks,q48_0,q48_1,q48_2,q48_3,q48_4,q48_5,q48_6,q48_7,q48_8,q48_9,q48_10,q48_11,q48_12,q48_13,h4,h5,h6,h7,h8,h9,h10,h1,h2,hs,chkT];(repeat' (first | refine hK _ _ ?_ | refine And.intro ?_ ?_ | (intro hc;try subst hc)))<;>(try clear hK K))
              | (refine zJ (b:=_) (by with_unfolding_all rfl) (fun hc=>?_) (fun hc=>?_)<;>simp at hc<;>(try subst hc)))
             all_goals first|(simp;done)|(simp at *;omega)|((try simp[h4,h5,h6,h7,h8,h9,h10,h1,h2,hs,chkT]);refine Imp.auto (by kernel_rfl) ?_ ?_<;>simp[NLe,h4,h5,h6,h7,h8,h9,h10,h1,h2,hs,chkT])
            ·by_cases h11:1000000<n4
             ·unfold m48
              repeat' with_reducible (first
               | refine ZR.h ?_ | refine zI (by decide) ?_
               | (refine zK hE ?_;intro K hK;simp[KR.ks,q48_0,q48_1,q48_2,q48_3,q48_4,q48_5,q48_6,q48_7,q48_8,q48_9,q48_10,q48_11,q48_12,q48_13,h4,h5,h6,h7,h8,h9,h10,h11,h1,h2,hs,chkT];(repeat' (first | refine hK _ _ ?_ | refine And.intro ?_ ?_ | (intro hc;try subst hc)))<;>(try clear hK K))
               | (refine zJ (b:=_) (by with_unfolding_all rfl) (fun hc=>?_) (fun hc=>?_)<;>simp at hc<;>(try subst hc)))
              all_goals first|(simp;done)|(simp at *;omega)|((try simp[h4,h5,h6,h7,h8,h9,h10,h11,h1,h2,hs,chkT]);refine Imp.auto (by kernel_rfl) ?_ ?_<;>simp[NLe,h4,h5,h6,h7,h8,h9,h10,h11,h1,h2,hs,chkT])
             ·unfold m48
              repeat' with_reducible (first
               | refine ZR.h ?_ | refine zI (by decide) ?_
               | (refine zK hE ?_;intro K hK;simp[KR.ks,q48_0,q48_1,q48_2,q48_3,q48_4,q48_5,q48_6,q48_7,q48_8,q48_9,q48_10,q48_11,q48_12,q48_13,h4,h5,h6,h7,h8,h9,h10,h11,h1,h2,hs,chkT];(repeat' (first | refine hK _ _ ?_ | refine And.intro ?_ ?_ | (intro hc;try subst hc)))<;>(try clear hK K))
               | (refine zJ (b:=_) (by with_unfolding_all rfl) (fun hc=>?_) (fun hc=>?_)<;>simp at hc<;>(try subst hc)))
              all_goals first|(simp;done)|(simp at *;omega)|((try simp[h4,h5,h6,h7,h8,h9,h10,h11,h1,h2,hs,chkT]);refine Imp.auto (by kernel_rfl) ?_ ?_<;>simp[NLe,h4,h5,h6,h7,h8,h9,h10,h11,h1,h2,hs,chkT])
 ·cases h
end Go.W

