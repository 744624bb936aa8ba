/- A part of the proofs about the pair's laws (PsA). -/
import Derived.Test.YtidbbnkpglggdaaWkC
import Derived.Test.YtidbbnkpglggdaaPqA
namespace Go.W
open Go.Proofs
set_option linter.unusedSimpArgs false
set_option linter.unusedVariables false
set_option maxHeartbeats 8000000
attribute [local irreducible] Wm
attribute [local simp] nmap lkp mkPl prs prsL prT ddL idL CRenL CRen Ren RenL NObj.none CRenLL
theorem mul_in {a b A B:Int} (h1:0≤a) (h2:a≤A) (h3:0≤b) (h4:b≤B):0≤a*b∧a*b≤A*B :=
 ⟨Int.mul_nonneg h1 h3,Int.mul_le_mul h2 h4 h3 (by omega)⟩
theorem tdiv_in {a b:Int} (h1:0≤a) (h2:a≤1000000000) (h3:1≤b):IntKind.wrap .i64 (a.tdiv b)=a / b:=by
 rw[Int.tdiv_eq_ediv_of_nonneg h1]
 have h4:=Int.ediv_nonneg h1 (show 0≤b by omega)
 have h5:=Int.ediv_le_self b h1
 exact wrap_in (by omega) (by omega)
def cfgB (a b c d e f g:Int):Bool:=decide (1≤a∧a≤6∧1≤b∧b≤4∧1≤c∧c≤3∧1≤d∧d≤4∧0≤e∧e≤4∧1≤f∧f≤4∧1≤g∧g≤15)
theorem cfg_ex {a b c d e f g:Int} (h:cfgB a b c d e f g=true):1≤a∧a≤6∧1≤b∧b≤4∧1≤c∧c≤3∧1≤d∧d≤4∧0≤e∧e≤4∧1≤f∧f≤4∧1≤g∧g≤15:=of_decide_eq_true h
theorem cfg_all {a b c d e f g:Int} (h:cfgB a b c d e f g=true):1≤a*b∧a*b≤24:=by
 obtain ⟨h1,h2,h3,h4,_⟩:=cfg_ex h
 have:=mul_in (show 0≤a by omega) h2 (show 0≤b by omega) h4
 have:=Int.mul_le_mul h1 h3 (by omega) (show 0≤a by omega)
 omega
def d59:List AV→List NObj→Option AV
 | [.agg [.int .i64 a,.int .i64 b,.int .i64 c,.int .i64 d,.int .i64 e,.int .i64 f,.int .i64 g]],[]=>if cfgB a b c d e f g=true then some (.int .i64 (a*b)) else none
 | _,_=>none
theorem ok59:ROk d59:=by
 intro xs os r h
 unfold d59 at h
 (repeat' (split at h))<;>first|(cases h;done)|(injection h with h;subst h;simp)
theorem s59:Sound Try.prog 59 (rdS d59 ok59):=by
 refine rd_sound Try.func59 nm59 rc59 rv59 ok59 fun xs os r h vs ρ0 hvs=>⟨xs,?_,fun _ h=>h,fun w0 S hS=>?_⟩
 ·unfold d59 at h
  (repeat' (split at h))<;>first|(cases h;done)|exact Nat.le_of_ble_eq_true rfl
 unfold d59 at h
 split at h
 ·split at h
  ·rename_i a b c d e f g hcond
   injection h with h
   subst h
   have hE:SoundAll Try.prog (EL []):=EL_sound (by simp)
   have hm:=cfg_all hcond
   have w1:IntKind.wrap .i64 (a*b)=a*b:=wrap_in (by omega) (by omega)
   unfold m59
   repeat' with_reducible (first
    | refine ZR.h ?_ | refine zI (by decide) ?_
    | (refine zK hE ?_;intro K hK;simp[KR.ks,q59_0,q59_1,w1];(repeat' (first | refine hK _ _ ?_ | refine And.intro ?_ ?_ | (intro hc;try subst hc)))<;>(try clear hK K))
    | (refine zJ (b:=_) (by with_unfolding_all rfl) (fun hc=>?_) (fun hc=>?_)<;>simp at hc<;>(try subst hc)))
   all_goals first|(simp;done)|(simp at *;omega)|((try simp);refine Imp.auto (by kernel_rfl) ?_ ?_<;>simp[NLe])
  ·cases h
 ·cases h
def d50:List AV→List NObj→Option AV
 | [.agg [.int .i64 a,.int .i64 b,.int .i64 c,.int .i64 d,.int .i64 e,.int .i64 f,.int .i64 g],.int .i64 x],[]=>if 0≤x∧x≤1000 then some (.int .i64 (2*x)) else none
 | _,_=>none
theorem ok50:ROk d50:=by
 intro xs os r h
 unfold d50 at h
 (repeat' (split at h))<;>first|(cases h;done)|(injection h with h;subst h;simp)
theorem s50:Sound Try.prog 50 (rdS d50 ok50):=by
 refine rd_sound Try.func50 nm50 rc50 rv50 ok50 fun xs os r h vs ρ0 hvs=>⟨xs,?_,fun _ h=>h,fun w0 S hS=>?_⟩
 ·unfold d50 at h
  (repeat' (split at h))<;>first|(cases h;done)|exact Nat.le_of_ble_eq_true rfl
 unfold d50 at h
 split at h
 ·split at h
  ·rename_i a b c d e f g x hcond
   injection h with h
   subst h
   have hE:SoundAll Try.prog (EL []):=EL_sound (by simp)
   have w1:IntKind.wrap .i64 (2*x)=2*x:=wrap_in (by omega) (by omega)
   unfold m50
   repeat' with_reducible (first
    | refine ZR.h ?_ | refine zI (by decide) ?_
    | (refine zK hE ?_;intro K hK;simp[KR.ks,q50_0,q50_1,w1];(repeat' (first | refine hK _ _ ?_ | refine And.intro ?_ ?_ | (intro hc;try subst hc)))<;>(try clear hK K))
    | (refine zJ (b:=_) (by with_unfolding_all rfl) (fun hc=>?_) (fun hc=>?_)<;>simp at hc<;>(try subst hc)))
   all_goals first|(simp;done)|(simp at *;omega)|((try simp);refine Imp.auto (by kernel_rfl) ?_ ?_<;>simp[NLe])
  ·cases h
 ·cases h
def d51:List AV→List NObj→Option AV
 | [.agg [.int .i64 a,.int .i64 b,.int .i64 c,.int .i64 d,.int .i64 e,.int .i64 f,.int .i64 g],.int .i64 x],[]=>if 0≤x∧x≤1000 then some (.int .i64 (2*x+1)) else none
 | _,_=>none
theorem ok51:ROk d51:=by
 intro xs os r h
 unfold d51 at h
 (repeat' (split at h))<;>first|(cases h;done)|(injection h with h;subst h;simp)
theorem s51:Sound Try.prog 51 (rdS d51 ok51):=by
 refine rd_sound Try.func51 nm51 rc51 rv51 ok51 fun xs os r h vs ρ0 hvs=>⟨xs,?_,fun _ h=>h,fun w0 S hS=>?_⟩
 ·unfold d51 at h
  (repeat' (split at h))<;>first|(cases h;done)|exact Nat.le_of_ble_eq_true rfl
 unfold d51 at h
 split at h
 ·split at h
  ·rename_i a b c d e f g x hcond
   injection h with h
   subst h
   have hE:SoundAll Try.prog (EL []):=EL_sound (by simp)
   have w1:IntKind.wrap .i64 (2*x)=2*x:=wrap_in (by omega) (by omega)
   have w2:IntKind.wrap .i64 (2*x+1)=2*x+1:=wrap_in (by omega) (by omega)
   unfold m51
   repeat' with_reducible (first
    | refine ZR.h ?_ | refine zI (by decide) ?_
    | (refine zK hE ?_;intro K hK;simp[KR.ks,q51_0,q51_1,w1,w2];(repeat' (first | refine hK _ _ ?_ | refine And.intro ?_ ?_ | (intro hc;try subst hc)))<;>(try clear hK K))
    | (refine zJ (b:=_) (by with_unfolding_all rfl) (fun hc=>?_) (fun hc=>?_)<;>simp at hc<;>(try subst hc)))
   all_goals first|(simp;done)|(simp at *;omega)|((try simp);refine Imp.auto (by kernel_rfl) ?_ ?_<;>simp[NLe])
  ·cases h
 ·cases h
def ownZ (a b x:Int):Int:=if x<0 then -1 else if x<a*b then x / b else -1
def d76:List AV→List NObj→Option AV
 | [.agg [.int .i64 a,.int .i64 b,.int .i64 c,.int .i64 d,.int .i64 e,.int .i64 f,.int .i64 g],.int .i64 x],[]=>if cfgB a b c d e f g=true then some (.int .i64 (ownZ a b x)) else none
 | _,_=>none
theorem ok76:ROk d76:=by
 intro xs os r h
 unfold d76 at h
 (repeat' (split at h))<;>first|(cases h;done)|(injection h with h;subst h;simp)
theorem s76:Sound Try.prog 76 (rdS d76 ok76):=by
 refine rd_sound Try.func76 nm76 rc76 rv76 ok76 fun xs os r h vs ρ0 hvs=>⟨xs,?_,fun _ h=>h,fun w0 S hS=>?_⟩
 ·unfold d76 at h
  (repeat' (split at h))<;>first|(cases h;done)|exact Nat.le_of_ble_eq_true rfl
 unfold d76 at h
 split at h
 ·split at h
  ·rename_i a b c d e f g x hcond
   injection h with h
   subst h
   have hE:SoundAll Try.prog (EL [(59,rdS d59 ok59)]):=EL_sound (by simp only[List.mem_cons,List.not_mem_nil,or_false,forall_eq_or_imp,forall_eq];exact s59)
   have hc:=cfg_ex hcond
   have hm:=cfg_all hcond
   by_cases h1:x<0
   ·unfold m76
    repeat' with_reducible (first
     | refine ZR.h ?_ | refine zI (by decide) ?_
     | (refine zK hE ?_;intro K hK;simp[KR.ks,q76_0,q76_1,q76_2,q76_3,h1,hcond,ownZ,d59];(repeat' (first | refine hK _ _ ?_ | refine And.intro ?_ ?_ | (intro hc;try subst hc)))<;>(try clear hK K))
     | (refine zJ (b:=_) (by with_unfolding_all rfl) (fun hc=>?_) (fun hc=>?_)<;>simp at hc<;>(try subst hc)))
    all_goals first|(simp;done)|(simp at *;omega)|((try simp[h1,ownZ]);refine Imp.auto (by kernel_rfl) ?_ ?_<;>simp[NLe,h1,ownZ])
   ·by_cases h2:x<a*b
    ·have h3:¬ a*b≤x:=by omega
     have hb0:¬ b=0:=by omega
     have w1:IntKind.wrap .i64 (x.tdiv b)=x / b:=tdiv_in (by omega) (by omega) (by omega)
     unfold m76
     repeat' with_reducible (first
      | refine ZR.h ?_ | refine zI (by decide) ?_
      | (refine zK hE ?_;intro K hK;simp[KR.ks,q76_0,q76_1,q76_2,q76_3,h1,h2,h3,hcond,w1,hb0,ownZ,d59];(repeat' (first | refine hK _ _ ?_ | refine And.intro ?_ ?_ | (intro hc;try subst hc)))<;>(try clear hK K))
      | (refine zJ (b:=_) (by with_unfolding_all rfl) (fun hc=>?_) (fun hc=>?_)<;>simp at hc<;>(try subst hc)))
     all_goals first|(simp;done)|(simp at *;omega)|((try simp[h1,h2,h3,ownZ]);refine Imp.auto (by kernel_rfl) ?_ ?_<;>simp[NLe,h1,h2,h3,ownZ])
    ·have h3:a*b≤x:=by omega
     unfold m76
     repeat' with_reducible (first
      | refine ZR.h ?_ | refine zI (by decide) ?_
      | (refine zK hE ?_;intro K hK;simp[KR.ks,q76_0,q76_1,q76_2,q76_3,h1,h2,h3,hcond,ownZ,d59];(repeat' (first | refine hK _ _ ?_ | refine And.intro ?_ ?_ | (intro hc;try subst hc)))<;>(try clear hK K))
      | (refine zJ (b:=_) (by with_unfolding_all rfl) (fun hc=>?_) (fun hc=>?_)<;>simp at hc<;>(try subst hc)))
     all_goals first|(simp;done)|(simp at *;omega)|((try simp[h1,h2,h3,ownZ]);refine Imp.auto (by kernel_rfl) ?_ ?_<;>simp[NLe,h1,h2,h3,ownZ])
  ·cases h
 ·cases h
def shardZ (c d n b:Int):Int:=if n<0∨c≤n∨b<0∨d≤b then -1 else n*d+b
def d101:List AV→List NObj→Option AV
 | [.agg [.int .i64 a,.int .i64 b,.int .i64 c,.int .i64 d,.int .i64 e,.int .i64 f,.int .i64 g],.int .i64 x,.int .i64 y],[]=>if cfgB a b c d e f g=true then some (.int .i64 (shardZ c d x y)) else none
 | _,_=>none
theorem ok101:ROk d101:=by
 intro xs os r h
 unfold d101 at h
 (repeat' (split at h))<;>first|(cases h;done)|(injection h with h;subst h;simp)
theorem s101:Sound Try.prog 101 (rdS d101 ok101):=by
 refine rd_sound Try.func101 nm101 rc101 rv101 ok101 fun xs os r h vs ρ0 hvs=>⟨xs,?_,fun _ h=>h,fun w0 S hS=>?_⟩
 ·unfold d101 at h
  (repeat' (split at h))<;>first|(cases h;done)|exact Nat.le_of_ble_eq_true rfl
 unfold d101 at h
 split at h
 ·split at h
  ·rename_i a b c d e f g x y hcond
   injection h with h
   subst h
   have hE:SoundAll Try.prog (EL []):=EL_sound (by simp)
   have hc:=cfg_ex hcond
   by_cases h1:x<0∨c≤x∨y<0∨d≤y
   ·have e1:shardZ c d x y=-1:=if_pos h1
    have hh:x<0∨(¬ x<0∧c≤x)∨(¬ x<0∧¬ c≤x∧y<0)∨(¬ x<0∧¬ c≤x∧¬ y<0∧d≤y):=by omega
    rcases hh with h2|⟨h2,h3⟩ | ⟨h2,h3,h4⟩ | ⟨h2,h3,h4,h5⟩
    ·unfold m101
     repeat' with_reducible (first
      | refine ZR.h ?_ | refine zI (by decide) ?_
      | (refine zK hE ?_;intro K hK;simp[KR.ks,q101_0,q101_1,q101_2,q101_3,h2];(repeat' (first | refine hK _ _ ?_ | refine And.intro ?_ ?_ | (intro hc;try subst hc)))<;>(try clear hK K))
      | (refine zJ (b:=_) (by with_unfolding_all rfl) (fun hc=>?_) (fun hc=>?_)<;>simp at hc<;>(try subst hc)))
     all_goals first|(simp;done)|(simp at *;omega)|((try simp[e1]);refine Imp.auto (by kernel_rfl) ?_ ?_<;>simp[NLe,e1])
    ·unfold m101
     repeat' with_reducible (first
      | refine ZR.h ?_ | refine zI (by decide) ?_
      | (refine zK hE ?_;intro K hK;simp[KR.ks,q101_0,q101_1,q101_2,q101_3,h2,h3];(repeat' (first | refine hK _ _ ?_ | refine And.intro ?_ ?_ | (intro hc;try subst hc)))<;>(try clear hK K))
      | (refine zJ (b:=_) (by with_unfolding_all rfl) (fun hc=>?_) (fun hc=>?_)<;>simp at hc<;>(try subst hc)))
     all_goals first|(simp;done)|(simp at *;omega)|((try simp[e1]);refine Imp.auto (by kernel_rfl) ?_ ?_<;>simp[NLe,e1])
    ·unfold m101
     repeat' with_reducible (first
      | refine ZR.h ?_ | refine zI (by decide) ?_
      | (refine zK hE ?_;intro K hK;simp[KR.ks,q101_0,q101_1,q101_2,q101_3,h2,h3,h4];(repeat' (first | refine hK _ _ ?_ | refine And.intro ?_ ?_ | (intro hc;try subst hc)))<;>(try clear hK K))
      | (refine zJ (b:=_) (by with_unfolding_all rfl) (fun hc=>?_) (fun hc=>?_)<;>simp at hc<;>(try subst hc)))
     all_goals first|(simp;done)|(simp at *;omega)|((try simp[e1]);refine Imp.auto (by kernel_rfl) ?_ ?_<;>simp[NLe,e1])
    ·unfold m101
     repeat' with_reducible (first
      | refine ZR.h ?_ | refine zI (by decide) ?_
      | (refine zK hE ?_;intro K hK;simp[KR.ks,q101_0,q101_1,q101_2,q101_3,h2,h3,h4,h5];(repeat' (first | refine hK _ _ ?_ | refine And.intro ?_ ?_ | (intro hc;try subst hc)))<;>(try clear hK K))
      | (refine zJ (b:=_) (by with_unfolding_all rfl) (fun hc=>?_) (fun hc=>?_)<;>simp at hc<;>(try subst hc)))
     all_goals first|(simp;done)|(simp at *;omega)|((try simp[e1]);refine Imp.auto (by kernel_rfl) ?_ ?_<;>simp[NLe,e1])
   ·have e1:shardZ c d x y=x*d+y:=if_neg h1
    have h2:¬ x<0:=by omega
    have h3:¬ c≤x:=by omega
    have h4:¬ y<0:=by omega
    have h5:¬ d≤y:=by omega
    have hm:=mul_in (show 0≤x by omega) (show x≤3 by omega) (show 0≤d by omega) (show d≤4 by omega)
    have w1:IntKind.wrap .i64 (x*d)=x*d:=wrap_in (by omega) (by omega)
    have w2:IntKind.wrap .i64 (x*d+y)=x*d+y:=wrap_in (by omega) (by omega)
    unfold m101
    repeat' with_reducible (first
     | refine ZR.h ?_ | refine zI (by decide) ?_
     | (refine zK hE ?_;intro K hK;simp[KR.ks,q101_0,q101_1,q101_2,q101_3,h2,h3,h4,h5,w1,w2];(repeat' (first | refine hK _ _ ?_ | refine And.intro ?_ ?_ | (intro hc;try subst hc)))<;>(try clear hK K))
     | (refine zJ (b:=_) (by with_unfolding_all rfl) (fun hc=>?_) (fun hc=>?_)<;>simp at hc<;>(try subst hc)))
    all_goals first|(simp;done)|(simp at *;omega)|((try simp[e1]);refine Imp.auto (by kernel_rfl) ?_ ?_<;>simp[NLe,e1])
  ·cases h
 ·cases h
def bandZ (d p:Int):Int:=if p<1∨9999<p then -1 else (p - 1)*d / 9999
def d102:List AV→List NObj→Option AV
 | [.agg [.int .i64 a,.int .i64 b,.int .i64 c,.int .i64 d,.int .i64 e,.int .i64 f,.int .i64 g],.int .i64 x],[]=>if cfgB a b c d e f g=true then some (.int .i64 (bandZ d x)) else none
 | _,_=>none
theorem ok102:ROk d102:=by
 intro xs os r h
 unfold d102 at h
 (repeat' (split at h))<;>first|(cases h;done)|(injection h with h;subst h;simp)
theorem s102:Sound Try.prog 102 (rdS d102 ok102):=by
 refine rd_sound Try.func102 nm102 rc102 rv102 ok102 fun xs os r h vs ρ0 hvs=>⟨xs,?_,fun _ h=>h,fun w0 S hS=>?_⟩
 ·unfold d102 at h
  (repeat' (split at h))<;>first|(cases h;done)|exact Nat.le_of_ble_eq_true rfl
 unfold d102 at h
 split at h
 ·split at h
  ·rename_i a b c d e f g x hcond
   injection h with h
   subst h
   have hE:SoundAll Try.prog (EL []):=EL_sound (by simp)
   have hc:=cfg_ex hcond
   by_cases h1:x<1∨9999<x
   ·have e1:bandZ d x=-1:=if_pos h1
    have hh:x<1∨(¬ x<1∧9999<x):=by omega
    rcases hh with h2|⟨h2,h3⟩
    ·unfold m102
     repeat' with_reducible (first
      | refine ZR.h ?_ | refine zI (by decide) ?_
      | (refine zK hE ?_;intro K hK;simp[KR.ks,q102_0,q102_1,q102_2,q102_3,h2];(repeat' (first | refine hK _ _ ?_ | refine And.intro ?_ ?_ | (intro hc;try subst hc)))<;>(try clear hK K))
      | (refine zJ (b:=_) (by with_unfolding_all rfl) (fun hc=>?_) (fun hc=>?_)<;>simp at hc<;>(try subst hc)))
     all_goals first|(simp;done)|(simp at *;omega)|((try simp[e1]);refine Imp.auto (by kernel_rfl) ?_ ?_<;>simp[NLe,e1])
    ·unfold m102
     repeat' with_reducible (first
      | refine ZR.h ?_ | refine zI (by decide) ?_
      | (refine zK hE ?_;intro K hK;simp[KR.ks,q102_0,q102_1,q102_2,q102_3,h2,h3];(repeat' (first | refine hK _ _ ?_ | refine And.intro ?_ ?_ | (intro hc;try subst hc)))<;>(try clear hK K))
      | (refine zJ (b:=_) (by with_unfolding_all rfl) (fun hc=>?_) (fun hc=>?_)<;>simp at hc<;>(try subst hc)))
     all_goals first|(simp;done)|(simp at *;omega)|((try simp[e1]);refine Imp.auto (by kernel_rfl) ?_ ?_<;>simp[NLe,e1])
   ·have e1:bandZ d x=(x - 1)*d / 9999:=if_neg h1
    have h2:¬ x<1:=by omega
    have h3:¬ 9999<x:=by omega
    have hm:=mul_in (show 0≤x - 1 by omega) (show x - 1≤9998 by omega) (show 0≤d by omega) (show d≤4 by omega)
    have w0:IntKind.wrap .i64 (x - 1)=x - 1:=wrap_in (by omega) (by omega)
    have w1:IntKind.wrap .i64 ((x - 1)*d)=(x - 1)*d:=wrap_in (by omega) (by omega)
    have w2:IntKind.wrap .i64 (((x - 1)*d).tdiv 9999)=(x - 1)*d / 9999:=tdiv_in (by omega) (by omega) (by omega)
    unfold m102
    repeat' with_reducible (first
     | refine ZR.h ?_ | refine zI (by decide) ?_
     | (refine zK hE ?_;intro K hK;simp[KR.ks,q102_0,q102_1,q102_2,q102_3,h2,h3,w0,w1,w2];(repeat' (first | refine hK _ _ ?_ | refine And.intro ?_ ?_ | (intro hc;try subst hc)))<;>(try clear hK K))
     | (refine zJ (b:=_) (by with_unfolding_all rfl) (fun hc=>?_) (fun hc=>?_)<;>simp at hc<;>(try subst hc)))
    all_goals first|(simp;done)|(simp at *;omega)|((try simp[e1]);refine Imp.auto (by kernel_rfl) ?_ ?_<;>simp[NLe,e1])
  ·cases h
 ·cases h
def heldZ (k:Int):Bool:=decide (k=3) || decide (k=4)
def d16:List AV→List NObj→Option AV
 | [.agg [.int .i64 k,.bool fl,.int .i64 sg,.int .i64 sl,.int .i64 sf]],[]=>some (.bool (heldZ k))
 | _,_=>none
theorem ok16:ROk d16:=by
 intro xs os r h
 unfold d16 at h
 (repeat' (split at h))<;>first|(cases h;done)|(injection h with h;subst h;simp)
theorem s16:Sound Try.prog 16 (rdS d16 ok16):=by
 refine rd_sound Try.func16 nm16 rc16 rv16 ok16 fun xs os r h vs ρ0 hvs=>⟨xs,?_,fun _ h=>h,fun w0 S hS=>?_⟩
 ·unfold d16 at h
  (repeat' (split at h))<;>first|(cases h;done)|exact Nat.le_of_ble_eq_true rfl
 unfold d16 at h
 split at h
 ·rename_i k fl sg sl sf
  injection h with h
  subst h
  have hE:SoundAll Try.prog (EL []):=EL_sound (by simp)
  unfold m16
  repeat' with_reducible (first
   | refine ZR.h ?_ | refine zI (by decide) ?_
   | (refine zK hE ?_;intro K hK;simp[KR.ks,q16_0,q16_1];(repeat' (first | refine hK _ _ ?_ | refine And.intro ?_ ?_ | (intro hc;try subst hc)))<;>(try clear hK K))
   | (refine zJ (b:=_) (by with_unfolding_all rfl) (fun hc=>?_) (fun hc=>?_)<;>simp at hc<;>(try subst hc)))
  all_goals first|(simp;done)|((try simp[heldZ]);refine Imp.auto (by kernel_rfl) ?_ ?_<;>simp[NLe,heldZ]<;>grind)
 ·cases h
def looseZ (k:Int):Bool:=decide (k=1) || decide (k=2)
def d41:List AV→List NObj→Option AV
 | [.agg [.int .i64 k,.bool fl,.int .i64 sg,.int .i64 sl,.int .i64 sf]],[]=>some (.bool (looseZ k))
 | _,_=>none
theorem ok41:ROk d41:=by
 intro xs os r h
 unfold d41 at h
 (repeat' (split at h))<;>first|(cases h;done)|(injection h with h;subst h;simp)
theorem s41:Sound Try.prog 41 (rdS d41 ok41):=by
 refine rd_sound Try.func41 nm41 rc41 rv41 ok41 fun xs os r h vs ρ0 hvs=>⟨xs,?_,fun _ h=>h,fun w0 S hS=>?_⟩
 ·unfold d41 at h
  (repeat' (split at h))<;>first|(cases h;done)|exact Nat.le_of_ble_eq_true rfl
 unfold d41 at h
 split at h
 ·rename_i k fl sg sl sf
  injection h with h
  subst h
  have hE:SoundAll Try.prog (EL []):=EL_sound (by simp)
  unfold m41
  repeat' with_reducible (first
   | refine ZR.h ?_ | refine zI (by decide) ?_
   | (refine zK hE ?_;intro K hK;simp[KR.ks,q41_0,q41_1];(repeat' (first | refine hK _ _ ?_ | refine And.intro ?_ ?_ | (intro hc;try subst hc)))<;>(try clear hK K))
   | (refine zJ (b:=_) (by with_unfolding_all rfl) (fun hc=>?_) (fun hc=>?_)<;>simp at hc<;>(try subst hc)))
  all_goals first|(simp;done)|((try simp[looseZ]);refine Imp.auto (by kernel_rfl) ?_ ?_<;>simp[NLe,looseZ]<;>grind)
 ·cases h
def overZ (k:Int):Bool:=decide (5≤k)&&decide (k≤8)
def d98:List AV→List NObj→Option AV
 | [.agg [.int .i64 k,.bool fl,.int .i64 sg,.int .i64 sl,.int .i64 sf]],[]=>some (.bool (overZ k))
 | _,_=>none
theorem ok98:ROk d98:=by
 intro xs os r h
 unfold d98 at h
 (repeat' (split at h))<;>first|(cases h;done)|(injection h with h;subst h;simp)
theorem s98:Sound Try.prog 98 (rdS d98 ok98):=by
 refine rd_sound Try.func98 nm98 rc98 rv98 ok98 fun xs os r h vs ρ0 hvs=>⟨xs,?_,fun _ h=>h,fun w0 S hS=>?_⟩
 ·unfold d98 at h
  (repeat' (split at h))<;>first|(cases h;done)|exact Nat.le_of_ble_eq_true rfl
 unfold d98 at h
 split at h
 ·rename_i k fl sg sl sf
  injection h with h
  subst h
  have hE:SoundAll Try.prog (EL []):=EL_sound (by simp)
  unfold m98
  repeat' with_reducible (first
   | refine ZR.h ?_ | refine zI (by decide) ?_
   | (refine zK hE ?_;intro K hK;simp[KR.ks,q98_0,q98_1];(repeat' (first | refine hK _ _ ?_ | refine And.intro ?_ ?_ | (intro hc;try subst hc)))<;>(try clear hK K))
   | (refine zJ (b:=_) (by with_unfolding_all rfl) (fun hc=>?_) (fun hc=>?_)<;>simp at hc<;>(try subst hc)))
  all_goals first|(simp;done)|((try simp[overZ]);refine Imp.auto (by kernel_rfl) ?_ ?_<;>simp[NLe,overZ]<;>grind)
 ·cases h
end Go.W

