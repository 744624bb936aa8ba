/- A part of the proofs about the pair's laws (PsA). -/
import Derived.Test.YtidbbnkpglggdaaGreatWkC
import Derived.Test.YtidbbnkpglggdaaGreatPqA
namespace Go.W
open Go.Proofs
set_option linter.unusedSimpArgs false
set_option linter.unusedVariables false
set_option maxHeartbeats 8000000
attribute [local irreducible] Wm
attribute [local simp] Y5 lkp VW prs Uv prT ddL idL YN Um Ren Vt NObj.none Z4
theorem Vf {a b A B:Int} (h1:0≤a) (h2:a≤A) (h3:0≤b) (h4:b≤B):0≤a*b∧a*b≤A*B :=
 ⟨Int.mul_nonneg h1 h3,Int.mul_le_mul h2 h4 h3 (by omega)⟩
theorem Vq {a b:Int} (h1:0≤a) (h2:a≤1000000000) (h3:1≤b):IntKind.wrap .i64 (a.tdiv b)=a / b:=by
 rw[Int.tdiv_eq_ediv_of_nonneg h1];have h4:=Int.ediv_nonneg h1 (show 0≤b by omega);have h5:=Int.ediv_le_self b h1;exact Zh (by omega) (by omega)
def XX (a b c d e f g:Int):Bool:=decide (1≤a∧a≤6∧1≤b∧b≤4∧1≤c∧c≤3∧1≤d∧d≤4∧0≤e∧e≤4∧1≤f∧f≤4∧1≤g∧g≤15)
theorem ZH {a b c d e f g:Int} (h:XX a b c d e f g=true):1≤a∧a≤6∧1≤b∧b≤4∧1≤c∧c≤3∧1≤d∧d≤4∧0≤e∧e≤4∧1≤f∧f≤4∧1≤g∧g≤15:=of_decide_eq_true h
theorem ZJ {a b c d e f g:Int} (h:XX a b c d e f g=true):1≤a*b∧a*b≤24:=by
 obtain ⟨h1,h2,h3,h4,_⟩:=ZH h;have:=Vf (show 0≤a by omega) h2 (show 0≤b by omega) h4;have:=Int.mul_le_mul h1 h3 (by omega) (show 0≤a by omega);omega
def d62:List AV→List NObj→Option AV
 | [.agg [.int .i64 a,.int .i64 b,.int .i64 c,.int .i64 d,.int .i64 e,.int .i64 f,.int .i64 g]],[]=>if XX a b c d e f g=true then some (.int .i64 (a*b)) else none
 | _,_=>none
theorem ok62:ROk d62:=by
 intro xs os r h;unfold d62 at h
 (repeat' (split at h))<;>first|(cases h;done)|(injection h with h;subst h;simp)
theorem s62:Sound Tryz.prog 62 (rdS d62 ok62):=by
 refine Zo C62.a C62.b C62.c C62.d ok62 fun xs os r h vs ρ0 hvs=>⟨xs,?_,fun _ h=>h,fun w0 S hS=>?_⟩
 ·unfold d62 at h
  (repeat' (split at h))<;>first|(cases h;done)|exact Nat.le_of_ble_eq_true rfl
 unfold d62 at h;split at h
 ·split at h
  ·rename_i a b c d e f g hcond
   injection h with h;subst h;have hE:Zb Tryz.prog (EL []):=Zd (by simp);have hm:=ZJ hcond;have w1:IntKind.wrap .i64 (a*b)=a*b:=Zh (by omega) (by omega);unfold m62
   repeat' with_reducible (first|refine ZR.h ?_|refine zI ?_|(refine zK hE ?_;intro K hK;simp[w1];(repeat' (first|refine hK _ _ ?_|apply And.intro|(intro hc;try subst hc)))<;>(try clear hK K))|(refine zJ (fun hc=>?_) (fun hc=>?_)<;>simp at hc<;>(try subst hc)))
   all_goals first|(simp;done)|(simp at *;omega)|((try simp);refine Imp.aut ?_ ?_<;>simp[NLe])
  ·cases h
 ·cases h
def d39:List AV→List NObj→Option AV
 | [.agg [.int .i64 a,.int .i64 b,.int .i64 c,.int .i64 d,.int .i64 e,.int .i64 f,.int .i64 g],.int .i64 x],[]=>if 0≤x∧x≤1000 then some (.int .i64 (2*x)) else none
 | _,_=>none
theorem ok39:ROk d39:=by
 intro xs os r h;unfold d39 at h
 (repeat' (split at h))<;>first|(cases h;done)|(injection h with h;subst h;simp)
theorem s39:Sound Tryz.prog 39 (rdS d39 ok39):=by
 refine Zo C39.a C39.b C39.c C39.d ok39 fun xs os r h vs ρ0 hvs=>⟨xs,?_,fun _ h=>h,fun w0 S hS=>?_⟩
 ·unfold d39 at h
  (repeat' (split at h))<;>first|(cases h;done)|exact Nat.le_of_ble_eq_true rfl
 unfold d39 at h;split at h
 ·split at h
  ·rename_i a b c d e f g x hcond
   injection h with h;subst h;have hE:Zb Tryz.prog (EL []):=Zd (by simp);have w1:IntKind.wrap .i64 (2*x)=2*x:=Zh (by omega) (by omega);unfold m39
   repeat' with_reducible (first|refine ZR.h ?_|refine zI ?_|(refine zK hE ?_;intro K hK;simp[w1];(repeat' (first|refine hK _ _ ?_|apply And.intro|(intro hc;try subst hc)))<;>(try clear hK K))|(refine zJ (fun hc=>?_) (fun hc=>?_)<;>simp at hc<;>(try subst hc)))
   all_goals first|(simp;done)|(simp at *;omega)|((try simp);refine Imp.aut ?_ ?_<;>simp[NLe])
  ·cases h
 ·cases h
def d40:List AV→List NObj→Option AV
 | [.agg [.int .i64 a,.int .i64 b,.int .i64 c,.int .i64 d,.int .i64 e,.int .i64 f,.int .i64 g],.int .i64 x],[]=>if 0≤x∧x≤1000 then some (.int .i64 (2*x+1)) else none
 | _,_=>none
theorem ok40:ROk d40:=by
 intro xs os r h;unfold d40 at h
 (repeat' (split at h))<;>first|(cases h;done)|(injection h with h;subst h;simp)
theorem s40:Sound Tryz.prog 40 (rdS d40 ok40):=by
 refine Zo C40.a C40.b C40.c C40.d ok40 fun xs os r h vs ρ0 hvs=>⟨xs,?_,fun _ h=>h,fun w0 S hS=>?_⟩
 ·unfold d40 at h
  (repeat' (split at h))<;>first|(cases h;done)|exact Nat.le_of_ble_eq_true rfl
 unfold d40 at h;split at h
 ·split at h
  ·rename_i a b c d e f g x hcond
   injection h with h;subst h;have hE:Zb Tryz.prog (EL []):=Zd (by simp);have w1:IntKind.wrap .i64 (2*x)=2*x:=Zh (by omega) (by omega);have w2:IntKind.wrap .i64 (2*x+1)=2*x+1:=Zh (by omega) (by omega);unfold m40
   repeat' with_reducible (first|refine ZR.h ?_|refine zI ?_|(refine zK hE ?_;intro K hK;simp[w1,w2];(repeat' (first|refine hK _ _ ?_|apply And.intro|(intro hc;try subst hc)))<;>(try clear hK K))|(refine zJ (fun hc=>?_) (fun hc=>?_)<;>simp at hc<;>(try subst hc)))
   all_goals first|(simp;done)|(simp at *;omega)|((try simp);refine Imp.aut ?_ ?_<;>simp[NLe])
  ·cases h
 ·cases h
def V6 (a b x:Int):Int:=if x<0 then -1 else if x<a*b then x / b else -1
def d78:List AV→List NObj→Option AV
 | [.agg [.int .i64 a,.int .i64 b,.int .i64 c,.int .i64 d,.int .i64 e,.int .i64 f,.int .i64 g],.int .i64 x],[]=>if XX a b c d e f g=true then some (.int .i64 (V6 a b x)) else none
 | _,_=>none
theorem ok78:ROk d78:=by
 intro xs os r h;unfold d78 at h
 (repeat' (split at h))<;>first|(cases h;done)|(injection h with h;subst h;simp)
theorem s78:Sound Tryz.prog 78 (rdS d78 ok78):=by
 refine Zo C78.a C78.b C78.c C78.d ok78 fun xs os r h vs ρ0 hvs=>⟨xs,?_,fun _ h=>h,fun w0 S hS=>?_⟩
 ·unfold d78 at h
  (repeat' (split at h))<;>first|(cases h;done)|exact Nat.le_of_ble_eq_true rfl
 unfold d78 at h;split at h
 ·split at h
  ·rename_i a b c d e f g x hcond
   injection h with h;subst h;have hE:Zb Tryz.prog (EL [(62,rdS d62 ok62)]):=Zd (by simp only[List.mem_cons,List.not_mem_nil,or_false,forall_eq_or_imp,forall_eq];exact s62);have hc:=ZH hcond;have hm:=ZJ hcond;by_cases h1:x<0
   ·unfold m78
    repeat' with_reducible (first|refine ZR.h ?_|refine zI ?_|(refine zK hE ?_;intro K hK;simp[h1,hcond,V6,d62];(repeat' (first|refine hK _ _ ?_|apply And.intro|(intro hc;try subst hc)))<;>(try clear hK K))|(refine zJ (fun hc=>?_) (fun hc=>?_)<;>simp at hc<;>(try subst hc)))
    all_goals first|(simp;done)|(simp at *;omega)|((try simp[h1,V6]);refine Imp.aut ?_ ?_<;>simp[NLe,h1,V6])
   ·by_cases h2:x<a*b
    ·have h3:¬ a*b≤x:=by omega
     have hb0:¬ b=0:=(by omega);have w1:IntKind.wrap .i64 (x.tdiv b)=x / b:=Vq (by omega) (by omega) (by omega);unfold m78
     repeat' with_reducible (first|refine ZR.h ?_|refine zI ?_|(refine zK hE ?_;intro K hK;simp[h1,h2,h3,hcond,w1,hb0,V6,d62];(repeat' (first|refine hK _ _ ?_|apply And.intro|(intro hc;try subst hc)))<;>(try clear hK K))|(refine zJ (fun hc=>?_) (fun hc=>?_)<;>simp at hc<;>(try subst hc)))
     all_goals first|(simp;done)|(simp at *;omega)|((try simp[h1,h2,h3,V6]);refine Imp.aut ?_ ?_<;>simp[NLe,h1,h2,h3,V6])
    ·have h3:a*b≤x:=by omega
     unfold m78
     repeat' with_reducible (first|refine ZR.h ?_|refine zI ?_|(refine zK hE ?_;intro K hK;simp[h1,h2,h3,hcond,V6,d62];(repeat' (first|refine hK _ _ ?_|apply And.intro|(intro hc;try subst hc)))<;>(try clear hK K))|(refine zJ (fun hc=>?_) (fun hc=>?_)<;>simp at hc<;>(try subst hc)))
     all_goals first|(simp;done)|(simp at *;omega)|((try simp[h1,h2,h3,V6]);refine Imp.aut ?_ ?_<;>simp[NLe,h1,h2,h3,V6])
  ·cases h
 ·cases h
def YG (c d n b:Int):Int:=if n<0∨c≤n∨b<0∨d≤b then -1 else n*d+b
def d116:List AV→List NObj→Option AV
 | [.agg [.int .i64 a,.int .i64 b,.int .i64 c,.int .i64 d,.int .i64 e,.int .i64 f,.int .i64 g],.int .i64 x,.int .i64 y],[]=>if XX a b c d e f g=true then some (.int .i64 (YG c d x y)) else none
 | _,_=>none
theorem ok116:ROk d116:=by
 intro xs os r h;unfold d116 at h
 (repeat' (split at h))<;>first|(cases h;done)|(injection h with h;subst h;simp)
theorem s116:Sound Tryz.prog 116 (rdS d116 ok116):=by
 refine Zo C116.a C116.b C116.c C116.d ok116 fun xs os r h vs ρ0 hvs=>⟨xs,?_,fun _ h=>h,fun w0 S hS=>?_⟩
 ·unfold d116 at h
  (repeat' (split at h))<;>first|(cases h;done)|exact Nat.le_of_ble_eq_true rfl
 unfold d116 at h;split at h
 ·split at h
  ·rename_i a b c d e f g x y hcond
   injection h with h;subst h;have hE:Zb Tryz.prog (EL []):=Zd (by simp);have hc:=ZH hcond;by_cases h1:x<0∨c≤x∨y<0∨d≤y
   ·have e1:YG c d x y=-1:=if_pos h1
    have hh:x<0∨(¬ x<0∧c≤x)∨(¬ x<0∧¬ c≤x∧y<0)∨(¬ x<0∧¬ c≤x∧¬ y<0∧d≤y):=(by omega);rcases hh with h2|⟨h2,h3⟩ | ⟨h2,h3,h4⟩ | ⟨h2,h3,h4,h5⟩
    ·unfold m116
     repeat' with_reducible (first|refine ZR.h ?_|refine zI ?_|(refine zK hE ?_;intro K hK;simp[h2];(repeat' (first|refine hK _ _ ?_|apply And.intro|(intro hc;try subst hc)))<;>(try clear hK K))|(refine zJ (fun hc=>?_) (fun hc=>?_)<;>simp at hc<;>(try subst hc)))
     all_goals first|(simp;done)|(simp at *;omega)|((try simp[e1]);refine Imp.aut ?_ ?_<;>simp[NLe,e1])
    ·unfold m116
     repeat' with_reducible (first|refine ZR.h ?_|refine zI ?_|(refine zK hE ?_;intro K hK;simp[h2,h3];(repeat' (first|refine hK _ _ ?_|apply And.intro|(intro hc;try subst hc)))<;>(try clear hK K))|(refine zJ (fun hc=>?_) (fun hc=>?_)<;>simp at hc<;>(try subst hc)))
     all_goals first|(simp;done)|(simp at *;omega)|((try simp[e1]);refine Imp.aut ?_ ?_<;>simp[NLe,e1])
    ·unfold m116
     repeat' with_reducible (first|refine ZR.h ?_|refine zI ?_|(refine zK hE ?_;intro K hK;simp[h2,h3,h4];(repeat' (first|refine hK _ _ ?_|apply And.intro|(intro hc;try subst hc)))<;>(try clear hK K))|(refine zJ (fun hc=>?_) (fun hc=>?_)<;>simp at hc<;>(try subst hc)))
     all_goals first|(simp;done)|(simp at *;omega)|((try simp[e1]);refine Imp.aut ?_ ?_<;>simp[NLe,e1])
    ·unfold m116
     repeat' with_reducible (first|refine ZR.h ?_|refine zI ?_|(refine zK hE ?_;intro K hK;simp[h2,h3,h4,h5];(repeat' (first|refine hK _ _ ?_|apply And.intro|(intro hc;try subst hc)))<;>(try clear hK K))|(refine zJ (fun hc=>?_) (fun hc=>?_)<;>simp at hc<;>(try subst hc)))
     all_goals first|(simp;done)|(simp at *;omega)|((try simp[e1]);refine Imp.aut ?_ ?_<;>simp[NLe,e1])
   ·have e1:YG c d x y=x*d+y:=if_neg h1
    have h2:¬ x<0:=(by omega);have h3:¬ c≤x:=(by omega);have h4:¬ y<0:=(by omega);have h5:¬ d≤y:=(by omega);have hm:=Vf (show 0≤x by omega) (show x≤3 by omega) (show 0≤d by omega) (show d≤4 by omega);have w1:IntKind.wrap .i64 (x*d)=x*d:=Zh (by omega) (by omega);have w2:IntKind.wrap .i64 (x*d+y)=x*d+y:=Zh (by omega) (by omega);unfold m116
    repeat' with_reducible (first|refine ZR.h ?_|refine zI ?_|(refine zK hE ?_;intro K hK;simp[h2,h3,h4,h5,w1,w2];(repeat' (first|refine hK _ _ ?_|apply And.intro|(intro hc;try subst hc)))<;>(try clear hK K))|(refine zJ (fun hc=>?_) (fun hc=>?_)<;>simp at hc<;>(try subst hc)))
    all_goals first|(simp;done)|(simp at *;omega)|((try simp[e1]);refine Imp.aut ?_ ?_<;>simp[NLe,e1])
  ·cases h
 ·cases h
def Y9 (d p:Int):Int:=if p<1∨9999<p then -1 else (p - 1)*d / 9999
def d117:List AV→List NObj→Option AV
 | [.agg [.int .i64 a,.int .i64 b,.int .i64 c,.int .i64 d,.int .i64 e,.int .i64 f,.int .i64 g],.int .i64 x],[]=>if XX a b c d e f g=true then some (.int .i64 (Y9 d x)) else none
 | _,_=>none
theorem ok117:ROk d117:=by
 intro xs os r h;unfold d117 at h
 (repeat' (split at h))<;>first|(cases h;done)|(injection h with h;subst h;simp)
theorem s117:Sound Tryz.prog 117 (rdS d117 ok117):=by
 refine Zo C117.a C117.b C117.c C117.d ok117 fun xs os r h vs ρ0 hvs=>⟨xs,?_,fun _ h=>h,fun w0 S hS=>?_⟩
 ·unfold d117 at h
  (repeat' (split at h))<;>first|(cases h;done)|exact Nat.le_of_ble_eq_true rfl
 unfold d117 at h;split at h
 ·split at h
  ·rename_i a b c d e f g x hcond
   injection h with h;subst h;have hE:Zb Tryz.prog (EL []):=Zd (by simp);have hc:=ZH hcond;by_cases h1:x<1∨9999<x
   ·have e1:Y9 d x=-1:=if_pos h1
    have hh:x<1∨(¬ x<1∧9999<x):=(by omega);rcases hh with h2|⟨h2,h3⟩
    ·unfold m117
     repeat' with_reducible (first|refine ZR.h ?_|refine zI ?_|(refine zK hE ?_;intro K hK;simp[h2];(repeat' (first|refine hK _ _ ?_|apply And.intro|(intro hc;try subst hc)))<;>(try clear hK K))|(refine zJ (fun hc=>?_) (fun hc=>?_)<;>simp at hc<;>(try subst hc)))
     all_goals first|(simp;done)|(simp at *;omega)|((try simp[e1]);refine Imp.aut ?_ ?_<;>simp[NLe,e1])
    ·unfold m117
     repeat' with_reducible (first|refine ZR.h ?_|refine zI ?_|(refine zK hE ?_;intro K hK;simp[h2,h3];(repeat' (first|refine hK _ _ ?_|apply And.intro|(intro hc;try subst hc)))<;>(try clear hK K))|(refine zJ (fun hc=>?_) (fun hc=>?_)<;>simp at hc<;>(try subst hc)))
     all_goals first|(simp;done)|(simp at *;omega)|((try simp[e1]);refine Imp.aut ?_ ?_<;>simp[NLe,e1])
   ·have e1:Y9 d x=(x - 1)*d / 9999:=if_neg h1
    have h2:¬ x<1:=(by omega);have h3:¬ 9999<x:=(by omega);have hm:=Vf (show 0≤x - 1 by omega) (show x - 1≤9998 by omega) (show 0≤d by omega) (show d≤4 by omega);have w0:IntKind.wrap .i64 (x - 1)=x - 1:=Zh (by omega) (by omega);have w1:IntKind.wrap .i64 ((x - 1)*d)=(x - 1)*d:=Zh (by omega) (by omega);have w2:IntKind.wrap .i64 (((x - 1)*d).tdiv 9999)=(x - 1)*d / 9999:=Vq (by omega) (by omega) (by omega);unfold m117
    repeat' with_reducible (first|refine ZR.h ?_|refine zI ?_|(refine zK hE ?_;intro K hK;simp[h2,h3,w0,w1,w2];(repeat' (first|refine hK _ _ ?_|apply And.intro|(intro hc;try subst hc)))<;>(try clear hK K))|(refine zJ (fun hc=>?_) (fun hc=>?_)<;>simp at hc<;>(try subst hc)))
    all_goals first|(simp;done)|(simp at *;omega)|((try simp[e1]);refine Imp.aut ?_ ?_<;>simp[NLe,e1])
  ·cases h
 ·cases h
def ZA (k:Int):Bool:=decide (k=3) || decide (k=4)
def d120:List AV→List NObj→Option AV
 | [.agg [.int .i64 k,.bool fl,.int .i64 sg,.int .i64 sl,.int .i64 sf]],[]=>some (.bool (ZA k))
 | _,_=>none
theorem ok120:ROk d120:=by
 intro xs os r h;unfold d120 at h
 (repeat' (split at h))<;>first|(cases h;done)|(injection h with h;subst h;simp)
theorem s120:Sound Tryz.prog 120 (rdS d120 ok120):=by
 refine Zo C120.a C120.b C120.c C120.d ok120 fun xs os r h vs ρ0 hvs=>⟨xs,?_,fun _ h=>h,fun w0 S hS=>?_⟩
 ·unfold d120 at h
  (repeat' (split at h))<;>first|(cases h;done)|exact Nat.le_of_ble_eq_true rfl
 unfold d120 at h;split at h
 ·rename_i k fl sg sl sf
  injection h with h;subst h;have hE:Zb Tryz.prog (EL []):=Zd (by simp);unfold m120
  repeat' with_reducible (first|refine ZR.h ?_|refine zI ?_|(refine zK hE ?_;intro K hK;simp;(repeat' (first|refine hK _ _ ?_|apply And.intro|(intro hc;try subst hc)))<;>(try clear hK K))|(refine zJ (fun hc=>?_) (fun hc=>?_)<;>simp at hc<;>(try subst hc)))
  all_goals first|(simp;done)|((try simp[ZA]);refine Imp.aut ?_ ?_<;>simp[NLe,ZA]<;>grind)
 ·cases h
def Zt (k:Int):Bool:=decide (k=1) || decide (k=2)
def d115:List AV→List NObj→Option AV
 | [.agg [.int .i64 k,.bool fl,.int .i64 sg,.int .i64 sl,.int .i64 sf]],[]=>some (.bool (Zt k))
 | _,_=>none
theorem ok115:ROk d115:=by
 intro xs os r h;unfold d115 at h
 (repeat' (split at h))<;>first|(cases h;done)|(injection h with h;subst h;simp)
theorem s115:Sound Tryz.prog 115 (rdS d115 ok115):=by
 refine Zo C115.a C115.b C115.c C115.d ok115 fun xs os r h vs ρ0 hvs=>⟨xs,?_,fun _ h=>h,fun w0 S hS=>?_⟩
 ·unfold d115 at h
  (repeat' (split at h))<;>first|(cases h;done)|exact Nat.le_of_ble_eq_true rfl
 unfold d115 at h;split at h
 ·rename_i k fl sg sl sf
  injection h with h;subst h;have hE:Zb Tryz.prog (EL []):=Zd (by simp);unfold m115
  repeat' with_reducible (first|refine ZR.h ?_|refine zI ?_|(refine zK hE ?_;intro K hK;simp;(repeat' (first|refine hK _ _ ?_|apply And.intro|(intro hc;try subst hc)))<;>(try clear hK K))|(refine zJ (fun hc=>?_) (fun hc=>?_)<;>simp at hc<;>(try subst hc)))
  all_goals first|(simp;done)|((try simp[Zt]);refine Imp.aut ?_ ?_<;>simp[NLe,Zt]<;>grind)
 ·cases h
def T8 (k:Int):Bool:=decide (5≤k)&&decide (k≤8)
def d108:List AV→List NObj→Option AV
 | [.agg [.int .i64 k,.bool fl,.int .i64 sg,.int .i64 sl,.int .i64 sf]],[]=>some (.bool (T8 k))
 | _,_=>none
theorem ok108:ROk d108:=by
 intro xs os r h;unfold d108 at h
 (repeat' (split at h))<;>first|(cases h;done)|(injection h with h;subst h;simp)
theorem s108:Sound Tryz.prog 108 (rdS d108 ok108):=by
 refine Zo C108.a C108.b C108.c C108.d ok108 fun xs os r h vs ρ0 hvs=>⟨xs,?_,fun _ h=>h,fun w0 S hS=>?_⟩
 ·unfold d108 at h
  (repeat' (split at h))<;>first|(cases h;done)|exact Nat.le_of_ble_eq_true rfl
 unfold d108 at h;split at h
 ·rename_i k fl sg sl sf
  injection h with h;subst h;have hE:Zb Tryz.prog (EL []):=Zd (by simp);unfold m108
  repeat' with_reducible (first|refine ZR.h ?_|refine zI ?_|(refine zK hE ?_;intro K hK;simp;(repeat' (first|refine hK _ _ ?_|apply And.intro|(intro hc;try subst hc)))<;>(try clear hK K))|(refine zJ (fun hc=>?_) (fun hc=>?_)<;>simp at hc<;>(try subst hc)))
  all_goals first|(simp;done)|((try simp[T8]);refine Imp.aut ?_ ?_<;>simp[NLe,T8]<;>grind)
 ·cases h
end Go.W
