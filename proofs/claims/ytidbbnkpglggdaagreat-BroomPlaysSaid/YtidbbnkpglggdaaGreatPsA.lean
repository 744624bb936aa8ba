/- A part of the proofs about the pair's laws (PsA). -/
import Derived.Test.YtidbbnkpglggdaaGreatWkC
import Derived.Test.YtidbbnkpglggdaaGreatPaA
namespace Go.W
open Go.Proofs
set_option linter.unusedSimpArgs false
set_option linter.unusedVariables false
set_option maxHeartbeats 8000000
set_option maxRecDepth 100000
attribute [local irreducible] Wm WmA
attribute [local simp] YP lkp Vq prs V9 prT ddL idL Yy Ue Ren Ve NObj.none ZT
theorem Xh {a b A B:Int} (h1:0≤a) (h2:a≤A) (h3:0≤b) (h4:b≤B):0≤a*b∧a*b≤A*B :=
 ⟨Int.mul_nonneg h1 h3,Int.mul_le_mul h2 h4 h3 (by omega)⟩
theorem Xq {a b:Int} (h1:0≤a) (h2:a≤1000000000) (h3:1≤b):IntKind.wrap .i64 (a.tdiv b)=a / b:=by
 rw[Int.tdiv_eq_ediv_of_nonneg h1];have h4:=Int.ediv_nonneg h1 (show 0≤b by omega);have h5:=Int.ediv_le_self b h1;exact Zg (by omega) (by omega)
def X7 (a b c d e f g:Int):Bool:=decide (1≤a∧a≤6∧1≤b∧b≤4∧1≤c∧c≤3∧1≤d∧d≤4∧0≤e∧e≤4∧1≤f∧f≤4∧1≤g∧g≤15)
theorem ZE {a b c d e f g:Int} (h:X7 a b c d e f g=true):1≤a∧a≤6∧1≤b∧b≤4∧1≤c∧c≤3∧1≤d∧d≤4∧0≤e∧e≤4∧1≤f∧f≤4∧1≤g∧g≤15:=of_decide_eq_true h
theorem ZB {a b c d e f g:Int} (h:X7 a b c d e f g=true):1≤a*b∧a*b≤24:=by
 obtain ⟨h1,h2,h3,h4,_⟩:=ZE h;have:=Xh (show 0≤a by omega) h2 (show 0≤b by omega) h4;have:=Int.mul_le_mul h1 h3 (by omega) (show 0≤a by omega);omega
def d62:List AV→List NObj→Option AV
 | [.agg [.int .i64 a,.int .i64 b,.int .i64 c,.int .i64 d,.int .i64 e,.int .i64 f,.int .i64 g]],[]=>if X7 a b c d e f g=true then some (.int .i64 (a*b)) else none
 | _,_=>none
theorem ok62:ROk d62:=by
 intro xs os r h;unfold d62 at h
 (repeat' (split at h))<;>first|(cases h;done)|(injection h with h;subst h;simp)
theorem s62:Sound Tryz.prog 62 (rdS d62 ok62):=by
 refine Zo (ac:=?ac) (res:=?res) Tryz.func62 (by kernel_rfl) (ha:=?ha) (hk:=?hk) (hok:=ok62) fun xs os r h vs ρ0 hvs=>?w
 case ha=>conv=>lhs;cbv
 case hk=>kernel_rfl
 refine ⟨xs,?_,fun _ h=>h,fun w0 S hS=>?_⟩
 ·unfold d62 at h
  (repeat' (split at h))<;>first|(cases h;done)|exact Nat.le_of_ble_eq_true rfl
 unfold d62 at h;split at h
 ·split at h
  ·rename_i a b c d e f g hcond
   injection h with h;subst h;have hE:Zd Tryz.prog (EL []):=Ze (by simp);have hm:=ZB hcond;have w1:IntKind.wrap .i64 (a*b)=a*b:=Zg (by omega) (by omega)
   repeat' with_reducible (first|refine ZR.h ?_|refine kI ?_|(refine kR hE ?_;intro K hK;simp[w1];(repeat' (first|refine hK _ _ ?_|apply And.intro|(intro hc;try subst hc)))<;>(try clear hK K))|(refine kT (fun hc=>?_) (fun hc=>?_)<;>simp at hc<;>(try subst hc)))
   all_goals first|(show Zb _ _=true;kernel_rfl)|(simp;done)|(simp at *;omega)|((try simp);refine Imp.aut ?_ ?_<;>simp[NLe])
  ·cases h
 ·cases h
def d17:List AV→List NObj→Option AV
 | [.agg [.int .i64 a,.int .i64 b,.int .i64 c,.int .i64 d,.int .i64 e,.int .i64 f,.int .i64 g]],[]=>if X7 a b c d e f g=true then some (.int .i64 (c*d)) else none
 | _,_=>none
theorem ok17:ROk d17:=by
 intro xs os r h;unfold d17 at h
 (repeat' (split at h))<;>first|(cases h;done)|(injection h with h;subst h;simp)
theorem s17:Sound Tryz.prog 17 (rdS d17 ok17):=by
 refine Zo (ac:=?ac) (res:=?res) Tryz.func17 (by kernel_rfl) (ha:=?ha) (hk:=?hk) (hok:=ok17) fun xs os r h vs ρ0 hvs=>?w
 case ha=>conv=>lhs;cbv
 case hk=>kernel_rfl
 refine ⟨xs,?_,fun _ h=>h,fun w0 S hS=>?_⟩
 ·unfold d17 at h
  (repeat' (split at h))<;>first|(cases h;done)|exact Nat.le_of_ble_eq_true rfl
 unfold d17 at h;split at h
 ·split at h
  ·rename_i a b c d e f g hcond
   injection h with h;subst h;have hE:Zd Tryz.prog (EL []):=Ze (by simp);have hc:=ZE hcond;have hm:=Xh (show 0≤c by omega) (show c≤3 by omega) (show 0≤d by omega) (show d≤4 by omega);have w1:IntKind.wrap .i64 (c*d)=c*d:=Zg (by omega) (by omega)
   repeat' with_reducible (first|refine ZR.h ?_|refine kI ?_|(refine kR hE ?_;intro K hK;simp[w1];(repeat' (first|refine hK _ _ ?_|apply And.intro|(intro hc;try subst hc)))<;>(try clear hK K))|(refine kT (fun hc=>?_) (fun hc=>?_)<;>simp at hc<;>(try subst hc)))
   all_goals first|(show Zb _ _=true;kernel_rfl)|(simp;done)|(simp at *;omega)|((try simp);refine Imp.aut ?_ ?_<;>simp[NLe])
  ·cases h
 ·cases h
def d39:List AV→List NObj→Option AV
 | [.agg [.int .i64 a,.int .i64 b,.int .i64 c,.int .i64 d,.int .i64 e,.int .i64 f,.int .i64 g],.int .i64 x],[]=>if 0≤x∧x≤1000 then some (.int .i64 (2*x)) else none
 | _,_=>none
theorem ok39:ROk d39:=by
 intro xs os r h;unfold d39 at h
 (repeat' (split at h))<;>first|(cases h;done)|(injection h with h;subst h;simp)
theorem s39:Sound Tryz.prog 39 (rdS d39 ok39):=by
 refine Zo (ac:=?ac) (res:=?res) Tryz.func39 (by kernel_rfl) (ha:=?ha) (hk:=?hk) (hok:=ok39) fun xs os r h vs ρ0 hvs=>?w
 case ha=>conv=>lhs;cbv
 case hk=>kernel_rfl
 refine ⟨xs,?_,fun _ h=>h,fun w0 S hS=>?_⟩
 ·unfold d39 at h
  (repeat' (split at h))<;>first|(cases h;done)|exact Nat.le_of_ble_eq_true rfl
 unfold d39 at h;split at h
 ·split at h
  ·rename_i a b c d e f g x hcond
   injection h with h;subst h;have hE:Zd Tryz.prog (EL []):=Ze (by simp);have w1:IntKind.wrap .i64 (2*x)=2*x:=Zg (by omega) (by omega)
   repeat' with_reducible (first|refine ZR.h ?_|refine kI ?_|(refine kR hE ?_;intro K hK;simp[w1];(repeat' (first|refine hK _ _ ?_|apply And.intro|(intro hc;try subst hc)))<;>(try clear hK K))|(refine kT (fun hc=>?_) (fun hc=>?_)<;>simp at hc<;>(try subst hc)))
   all_goals first|(show Zb _ _=true;kernel_rfl)|(simp;done)|(simp at *;omega)|((try simp);refine Imp.aut ?_ ?_<;>simp[NLe])
  ·cases h
 ·cases h
def d40:List AV→List NObj→Option AV
 | [.agg [.int .i64 a,.int .i64 b,.int .i64 c,.int .i64 d,.int .i64 e,.int .i64 f,.int .i64 g],.int .i64 x],[]=>if 0≤x∧x≤1000 then some (.int .i64 (2*x+1)) else none
 | _,_=>none
theorem ok40:ROk d40:=by
 intro xs os r h;unfold d40 at h
 (repeat' (split at h))<;>first|(cases h;done)|(injection h with h;subst h;simp)
theorem s40:Sound Tryz.prog 40 (rdS d40 ok40):=by
 refine Zo (ac:=?ac) (res:=?res) Tryz.func40 (by kernel_rfl) (ha:=?ha) (hk:=?hk) (hok:=ok40) fun xs os r h vs ρ0 hvs=>?w
 case ha=>conv=>lhs;cbv
 case hk=>kernel_rfl
 refine ⟨xs,?_,fun _ h=>h,fun w0 S hS=>?_⟩
 ·unfold d40 at h
  (repeat' (split at h))<;>first|(cases h;done)|exact Nat.le_of_ble_eq_true rfl
 unfold d40 at h;split at h
 ·split at h
  ·rename_i a b c d e f g x hcond
   injection h with h;subst h;have hE:Zd Tryz.prog (EL []):=Ze (by simp);have w1:IntKind.wrap .i64 (2*x)=2*x:=Zg (by omega) (by omega);have w2:IntKind.wrap .i64 (2*x+1)=2*x+1:=Zg (by omega) (by omega)
   repeat' with_reducible (first|refine ZR.h ?_|refine kI ?_|(refine kR hE ?_;intro K hK;simp[w1,w2];(repeat' (first|refine hK _ _ ?_|apply And.intro|(intro hc;try subst hc)))<;>(try clear hK K))|(refine kT (fun hc=>?_) (fun hc=>?_)<;>simp at hc<;>(try subst hc)))
   all_goals first|(show Zb _ _=true;kernel_rfl)|(simp;done)|(simp at *;omega)|((try simp);refine Imp.aut ?_ ?_<;>simp[NLe])
  ·cases h
 ·cases h
def UH (a b x:Int):Int:=if x<0 then -1 else if x<a*b then x / b else -1
def d78:List AV→List NObj→Option AV
 | [.agg [.int .i64 a,.int .i64 b,.int .i64 c,.int .i64 d,.int .i64 e,.int .i64 f,.int .i64 g],.int .i64 x],[]=>if X7 a b c d e f g=true then some (.int .i64 (UH a b x)) else none
 | _,_=>none
theorem ok78:ROk d78:=by
 intro xs os r h;unfold d78 at h
 (repeat' (split at h))<;>first|(cases h;done)|(injection h with h;subst h;simp)
theorem s78:Sound Tryz.prog 78 (rdS d78 ok78):=by
 refine Zo (ac:=?ac) (res:=?res) Tryz.func78 (by kernel_rfl) (ha:=?ha) (hk:=?hk) (hok:=ok78) fun xs os r h vs ρ0 hvs=>?w
 case ha=>conv=>lhs;cbv
 case hk=>kernel_rfl
 refine ⟨xs,?_,fun _ h=>h,fun w0 S hS=>?_⟩
 ·unfold d78 at h
  (repeat' (split at h))<;>first|(cases h;done)|exact Nat.le_of_ble_eq_true rfl
 unfold d78 at h;split at h
 ·split at h
  ·rename_i a b c d e f g x hcond
   injection h with h;subst h;have hE:Zd Tryz.prog (EL [(62,rdS d62 ok62)]):=Ze (by simp only[List.mem_cons,List.not_mem_nil,or_false,forall_eq_or_imp,forall_eq];exact s62);have hc:=ZE hcond;have hm:=ZB hcond;by_cases h1:x<0
   ·skip
    repeat' with_reducible (first|refine ZR.h ?_|refine kI ?_|(refine kR hE ?_;intro K hK;simp[h1,hcond,UH,d62];(repeat' (first|refine hK _ _ ?_|apply And.intro|(intro hc;try subst hc)))<;>(try clear hK K))|(refine kT (fun hc=>?_) (fun hc=>?_)<;>simp at hc<;>(try subst hc)))
    all_goals first|(show Zb _ _=true;kernel_rfl)|(simp;done)|(simp at *;omega)|((try simp[h1,UH]);refine Imp.aut ?_ ?_<;>simp[NLe,h1,UH])
   ·by_cases h2:x<a*b
    ·have h3:¬ a*b≤x:=by omega
     have hb0:¬ b=0:=(by omega);have w1:IntKind.wrap .i64 (x.tdiv b)=x / b:=Xq (by omega) (by omega) (by omega)
     repeat' with_reducible (first|refine ZR.h ?_|refine kI ?_|(refine kR hE ?_;intro K hK;simp[h1,h2,h3,hcond,w1,hb0,UH,d62];(repeat' (first|refine hK _ _ ?_|apply And.intro|(intro hc;try subst hc)))<;>(try clear hK K))|(refine kT (fun hc=>?_) (fun hc=>?_)<;>simp at hc<;>(try subst hc)))
     all_goals first|(show Zb _ _=true;kernel_rfl)|(simp;done)|(simp at *;omega)|((try simp[h1,h2,h3,UH]);refine Imp.aut ?_ ?_<;>simp[NLe,h1,h2,h3,UH])
    ·have h3:a*b≤x:=by omega
     repeat' with_reducible (first|refine ZR.h ?_|refine kI ?_|(refine kR hE ?_;intro K hK;simp[h1,h2,h3,hcond,UH,d62];(repeat' (first|refine hK _ _ ?_|apply And.intro|(intro hc;try subst hc)))<;>(try clear hK K))|(refine kT (fun hc=>?_) (fun hc=>?_)<;>simp at hc<;>(try subst hc)))
     all_goals first|(show Zb _ _=true;kernel_rfl)|(simp;done)|(simp at *;omega)|((try simp[h1,h2,h3,UH]);refine Imp.aut ?_ ?_<;>simp[NLe,h1,h2,h3,UH])
  ·cases h
 ·cases h
def ZK (c d n b:Int):Int:=if n<0∨c≤n∨b<0∨d≤b then -1 else n*d+b
def d116:List AV→List NObj→Option AV
 | [.agg [.int .i64 a,.int .i64 b,.int .i64 c,.int .i64 d,.int .i64 e,.int .i64 f,.int .i64 g],.int .i64 x,.int .i64 y],[]=>if X7 a b c d e f g=true then some (.int .i64 (ZK c d x y)) else none
 | _,_=>none
theorem ok116:ROk d116:=by
 intro xs os r h;unfold d116 at h
 (repeat' (split at h))<;>first|(cases h;done)|(injection h with h;subst h;simp)
theorem s116:Sound Tryz.prog 116 (rdS d116 ok116):=by
 refine Zo (ac:=?ac) (res:=?res) Tryz.func116 (by kernel_rfl) (ha:=?ha) (hk:=?hk) (hok:=ok116) fun xs os r h vs ρ0 hvs=>?w
 case ha=>conv=>lhs;cbv
 case hk=>kernel_rfl
 refine ⟨xs,?_,fun _ h=>h,fun w0 S hS=>?_⟩
 ·unfold d116 at h
  (repeat' (split at h))<;>first|(cases h;done)|exact Nat.le_of_ble_eq_true rfl
 unfold d116 at h;split at h
 ·split at h
  ·rename_i a b c d e f g x y hcond
   injection h with h;subst h;have hE:Zd Tryz.prog (EL []):=Ze (by simp);have hc:=ZE hcond;by_cases h1:x<0∨c≤x∨y<0∨d≤y
   ·have e1:ZK c d x y=-1:=if_pos h1
    have hh:x<0∨(¬ x<0∧c≤x)∨(¬ x<0∧¬ c≤x∧y<0)∨(¬ x<0∧¬ c≤x∧¬ y<0∧d≤y):=(by omega);rcases hh with h2|⟨h2,h3⟩ | ⟨h2,h3,h4⟩ | ⟨h2,h3,h4,h5⟩
    ·skip
     repeat' with_reducible (first|refine ZR.h ?_|refine kI ?_|(refine kR hE ?_;intro K hK;simp[h2];(repeat' (first|refine hK _ _ ?_|apply And.intro|(intro hc;try subst hc)))<;>(try clear hK K))|(refine kT (fun hc=>?_) (fun hc=>?_)<;>simp at hc<;>(try subst hc)))
     all_goals first|(show Zb _ _=true;kernel_rfl)|(simp;done)|(simp at *;omega)|((try simp[e1]);refine Imp.aut ?_ ?_<;>simp[NLe,e1])
    ·skip
     repeat' with_reducible (first|refine ZR.h ?_|refine kI ?_|(refine kR hE ?_;intro K hK;simp[h2,h3];(repeat' (first|refine hK _ _ ?_|apply And.intro|(intro hc;try subst hc)))<;>(try clear hK K))|(refine kT (fun hc=>?_) (fun hc=>?_)<;>simp at hc<;>(try subst hc)))
     all_goals first|(show Zb _ _=true;kernel_rfl)|(simp;done)|(simp at *;omega)|((try simp[e1]);refine Imp.aut ?_ ?_<;>simp[NLe,e1])
    ·skip
     repeat' with_reducible (first|refine ZR.h ?_|refine kI ?_|(refine kR hE ?_;intro K hK;simp[h2,h3,h4];(repeat' (first|refine hK _ _ ?_|apply And.intro|(intro hc;try subst hc)))<;>(try clear hK K))|(refine kT (fun hc=>?_) (fun hc=>?_)<;>simp at hc<;>(try subst hc)))
     all_goals first|(show Zb _ _=true;kernel_rfl)|(simp;done)|(simp at *;omega)|((try simp[e1]);refine Imp.aut ?_ ?_<;>simp[NLe,e1])
    ·skip
     repeat' with_reducible (first|refine ZR.h ?_|refine kI ?_|(refine kR hE ?_;intro K hK;simp[h2,h3,h4,h5];(repeat' (first|refine hK _ _ ?_|apply And.intro|(intro hc;try subst hc)))<;>(try clear hK K))|(refine kT (fun hc=>?_) (fun hc=>?_)<;>simp at hc<;>(try subst hc)))
     all_goals first|(show Zb _ _=true;kernel_rfl)|(simp;done)|(simp at *;omega)|((try simp[e1]);refine Imp.aut ?_ ?_<;>simp[NLe,e1])
   ·have e1:ZK c d x y=x*d+y:=if_neg h1
    have h2:¬ x<0:=(by omega);have h3:¬ c≤x:=(by omega);have h4:¬ y<0:=(by omega);have h5:¬ d≤y:=(by omega);have hm:=Xh (show 0≤x by omega) (show x≤3 by omega) (show 0≤d by omega) (show d≤4 by omega);have w1:IntKind.wrap .i64 (x*d)=x*d:=Zg (by omega) (by omega);have w2:IntKind.wrap .i64 (x*d+y)=x*d+y:=Zg (by omega) (by omega)
    repeat' with_reducible (first|refine ZR.h ?_|refine kI ?_|(refine kR hE ?_;intro K hK;simp[h2,h3,h4,h5,w1,w2];(repeat' (first|refine hK _ _ ?_|apply And.intro|(intro hc;try subst hc)))<;>(try clear hK K))|(refine kT (fun hc=>?_) (fun hc=>?_)<;>simp at hc<;>(try subst hc)))
    all_goals first|(show Zb _ _=true;kernel_rfl)|(simp;done)|(simp at *;omega)|((try simp[e1]);refine Imp.aut ?_ ?_<;>simp[NLe,e1])
  ·cases h
 ·cases h
def Yj (d p:Int):Int:=if p<1∨9999<p then -1 else (p - 1)*d / 9999
def d117:List AV→List NObj→Option AV
 | [.agg [.int .i64 a,.int .i64 b,.int .i64 c,.int .i64 d,.int .i64 e,.int .i64 f,.int .i64 g],.int .i64 x],[]=>if X7 a b c d e f g=true then some (.int .i64 (Yj d x)) else none
 | _,_=>none
theorem ok117:ROk d117:=by
 intro xs os r h;unfold d117 at h
 (repeat' (split at h))<;>first|(cases h;done)|(injection h with h;subst h;simp)
theorem s117:Sound Tryz.prog 117 (rdS d117 ok117):=by
 refine Zo (ac:=?ac) (res:=?res) Tryz.func117 (by kernel_rfl) (ha:=?ha) (hk:=?hk) (hok:=ok117) fun xs os r h vs ρ0 hvs=>?w
 case ha=>conv=>lhs;cbv
 case hk=>kernel_rfl
 refine ⟨xs,?_,fun _ h=>h,fun w0 S hS=>?_⟩
 ·unfold d117 at h
  (repeat' (split at h))<;>first|(cases h;done)|exact Nat.le_of_ble_eq_true rfl
 unfold d117 at h;split at h
 ·split at h
  ·rename_i a b c d e f g x hcond
   injection h with h;subst h;have hE:Zd Tryz.prog (EL []):=Ze (by simp);have hc:=ZE hcond;by_cases h1:x<1∨9999<x
   ·have e1:Yj d x=-1:=if_pos h1
    have hh:x<1∨(¬ x<1∧9999<x):=(by omega);rcases hh with h2|⟨h2,h3⟩
    ·skip
     repeat' with_reducible (first|refine ZR.h ?_|refine kI ?_|(refine kR hE ?_;intro K hK;simp[h2];(repeat' (first|refine hK _ _ ?_|apply And.intro|(intro hc;try subst hc)))<;>(try clear hK K))|(refine kT (fun hc=>?_) (fun hc=>?_)<;>simp at hc<;>(try subst hc)))
     all_goals first|(show Zb _ _=true;kernel_rfl)|(simp;done)|(simp at *;omega)|((try simp[e1]);refine Imp.aut ?_ ?_<;>simp[NLe,e1])
    ·skip
     repeat' with_reducible (first|refine ZR.h ?_|refine kI ?_|(refine kR hE ?_;intro K hK;simp[h2,h3];(repeat' (first|refine hK _ _ ?_|apply And.intro|(intro hc;try subst hc)))<;>(try clear hK K))|(refine kT (fun hc=>?_) (fun hc=>?_)<;>simp at hc<;>(try subst hc)))
     all_goals first|(show Zb _ _=true;kernel_rfl)|(simp;done)|(simp at *;omega)|((try simp[e1]);refine Imp.aut ?_ ?_<;>simp[NLe,e1])
   ·have e1:Yj d x=(x - 1)*d / 9999:=if_neg h1
    have h2:¬ x<1:=(by omega);have h3:¬ 9999<x:=(by omega);have hm:=Xh (show 0≤x - 1 by omega) (show x - 1≤9998 by omega) (show 0≤d by omega) (show d≤4 by omega);have w0:IntKind.wrap .i64 (x - 1)=x - 1:=Zg (by omega) (by omega);have w1:IntKind.wrap .i64 ((x - 1)*d)=(x - 1)*d:=Zg (by omega) (by omega);have w2:IntKind.wrap .i64 (((x - 1)*d).tdiv 9999)=(x - 1)*d / 9999:=Xq (by omega) (by omega) (by omega)
    repeat' with_reducible (first|refine ZR.h ?_|refine kI ?_|(refine kR hE ?_;intro K hK;simp[h2,h3,w0,w1,w2];(repeat' (first|refine hK _ _ ?_|apply And.intro|(intro hc;try subst hc)))<;>(try clear hK K))|(refine kT (fun hc=>?_) (fun hc=>?_)<;>simp at hc<;>(try subst hc)))
    all_goals first|(show Zb _ _=true;kernel_rfl)|(simp;done)|(simp at *;omega)|((try simp[e1]);refine Imp.aut ?_ ?_<;>simp[NLe,e1])
  ·cases h
 ·cases h
def Yb (k:Int):Bool:=decide (k=3) || decide (k=4)
def d120:List AV→List NObj→Option AV
 | [.agg [.int .i64 k,.bool fl,.int .i64 sg,.int .i64 sl,.int .i64 sf]],[]=>some (.bool (Yb k))
 | _,_=>none
theorem ok120:ROk d120:=by
 intro xs os r h;unfold d120 at h
 (repeat' (split at h))<;>first|(cases h;done)|(injection h with h;subst h;simp)
theorem s120:Sound Tryz.prog 120 (rdS d120 ok120):=by
 refine Zo (ac:=?ac) (res:=?res) Tryz.func120 (by kernel_rfl) (ha:=?ha) (hk:=?hk) (hok:=ok120) fun xs os r h vs ρ0 hvs=>?w
 case ha=>conv=>lhs;cbv
 case hk=>kernel_rfl
 refine ⟨xs,?_,fun _ h=>h,fun w0 S hS=>?_⟩
 ·unfold d120 at h
  (repeat' (split at h))<;>first|(cases h;done)|exact Nat.le_of_ble_eq_true rfl
 unfold d120 at h;split at h
 ·rename_i k fl sg sl sf
  injection h with h;subst h;have hE:Zd Tryz.prog (EL []):=Ze (by simp)
  repeat' with_reducible (first|refine ZR.h ?_|refine kI ?_|(refine kR hE ?_;intro K hK;simp[];(repeat' (first|refine hK _ _ ?_|apply And.intro|(intro hc;try subst hc)))<;>(try clear hK K))|(refine kT (fun hc=>?_) (fun hc=>?_)<;>simp at hc<;>(try subst hc)))
  all_goals first|(show Zb _ _=true;kernel_rfl)|(simp;done)|((try simp[Yb]);refine Imp.aut ?_ ?_<;>simp[NLe,Yb]<;>grind)
 ·cases h
def ZA (k:Int):Bool:=decide (k=1) || decide (k=2)
def d115:List AV→List NObj→Option AV
 | [.agg [.int .i64 k,.bool fl,.int .i64 sg,.int .i64 sl,.int .i64 sf]],[]=>some (.bool (ZA k))
 | _,_=>none
theorem ok115:ROk d115:=by
 intro xs os r h;unfold d115 at h
 (repeat' (split at h))<;>first|(cases h;done)|(injection h with h;subst h;simp)
theorem s115:Sound Tryz.prog 115 (rdS d115 ok115):=by
 refine Zo (ac:=?ac) (res:=?res) Tryz.func115 (by kernel_rfl) (ha:=?ha) (hk:=?hk) (hok:=ok115) fun xs os r h vs ρ0 hvs=>?w
 case ha=>conv=>lhs;cbv
 case hk=>kernel_rfl
 refine ⟨xs,?_,fun _ h=>h,fun w0 S hS=>?_⟩
 ·unfold d115 at h
  (repeat' (split at h))<;>first|(cases h;done)|exact Nat.le_of_ble_eq_true rfl
 unfold d115 at h;split at h
 ·rename_i k fl sg sl sf
  injection h with h;subst h;have hE:Zd Tryz.prog (EL []):=Ze (by simp)
  repeat' with_reducible (first|refine ZR.h ?_|refine kI ?_|(refine kR hE ?_;intro K hK;simp[];(repeat' (first|refine hK _ _ ?_|apply And.intro|(intro hc;try subst hc)))<;>(try clear hK K))|(refine kT (fun hc=>?_) (fun hc=>?_)<;>simp at hc<;>(try subst hc)))
  all_goals first|(show Zb _ _=true;kernel_rfl)|(simp;done)|((try simp[ZA]);refine Imp.aut ?_ ?_<;>simp[NLe,ZA]<;>grind)
 ·cases h
def zJ (k:Int):Bool:=decide (5≤k)&&decide (k≤8)
def d108:List AV→List NObj→Option AV
 | [.agg [.int .i64 k,.bool fl,.int .i64 sg,.int .i64 sl,.int .i64 sf]],[]=>some (.bool (zJ k))
 | _,_=>none
theorem ok108:ROk d108:=by
 intro xs os r h;unfold d108 at h
 (repeat' (split at h))<;>first|(cases h;done)|(injection h with h;subst h;simp)
theorem s108:Sound Tryz.prog 108 (rdS d108 ok108):=by
 refine Zo (ac:=?ac) (res:=?res) Tryz.func108 (by kernel_rfl) (ha:=?ha) (hk:=?hk) (hok:=ok108) fun xs os r h vs ρ0 hvs=>?w
 case ha=>conv=>lhs;cbv
 case hk=>kernel_rfl
 refine ⟨xs,?_,fun _ h=>h,fun w0 S hS=>?_⟩
 ·unfold d108 at h
  (repeat' (split at h))<;>first|(cases h;done)|exact Nat.le_of_ble_eq_true rfl
 unfold d108 at h;split at h
 ·rename_i k fl sg sl sf
  injection h with h;subst h;have hE:Zd Tryz.prog (EL []):=Ze (by simp)
  repeat' with_reducible (first|refine ZR.h ?_|refine kI ?_|(refine kR hE ?_;intro K hK;simp[];(repeat' (first|refine hK _ _ ?_|apply And.intro|(intro hc;try subst hc)))<;>(try clear hK K))|(refine kT (fun hc=>?_) (fun hc=>?_)<;>simp at hc<;>(try subst hc)))
  all_goals first|(show Zb _ _=true;kernel_rfl)|(simp;done)|((try simp[zJ]);refine Imp.aut ?_ ?_<;>simp[NLe,zJ]<;>grind)
 ·cases h
end Go.W
