/- A part of the proofs about the pair's laws (PsB, PsC). -/
import Derived.Test.YtidbbnkpglggdaaGreatPsA
namespace Go.W
open Go.Proofs
set_option linter.unusedSimpArgs false
set_option linter.unusedVariables false
set_option maxHeartbeats 8000000
set_option maxRecDepth 100000
attribute [local irreducible] Wm WmA
attribute [local simp] YP lkp Vq prs V9 prT ddL idL Yy Ue Ren Ve NObj.none ZT
theorem Yt {a b f g:Int} (h:0≤a*b) (h':a*b≤24) (hf:1≤f∧f≤4) (hg:1≤g∧g≤15):(0≤a*b*g∧a*b*g≤360)∧0≤a*b*g*(f+1)∧a*b*g*(f+1)≤1800:=by
 have h1:=Xh h h' (show 0≤g by omega) (show g≤15 by omega);have h2:=Xh h1.1 h1.2 (show 0≤f+1 by omega) (show f+1≤5 by omega);omega
def d73:List AV→List NObj→Option AV
 | [.agg [.int .i64 a,.int .i64 b,.int .i64 c,.int .i64 d,.int .i64 e,.int .i64 f,.int .i64 g]],[]=>if X7 a b c d e f g=true then some (.int .i64 (a*b*2+a*b*g*(f+1))) else none
 | _,_=>none
theorem ok73:ROk d73:=by
 intro xs os r h;unfold d73 at h
 (repeat' (split at h))<;>first|(cases h;done)|(injection h with h;subst h;simp)
theorem s73:Sound Tryz.prog 73 (rdS d73 ok73):=by
 refine Zo (ac:=?ac) (res:=?res) Tryz.func73 (by kernel_rfl) (ha:=?ha) (hk:=?hk) (hok:=ok73) fun xs os r h vs ρ0 hvs=>?w
 case ha=>conv=>lhs;cbv
 case hk=>kernel_rfl
 refine ⟨xs,?_,fun _ h=>h,fun w0 S hS=>?_⟩
 ·unfold d73 at h
  (repeat' (split at h))<;>first|(cases h;done)|exact Nat.le_of_ble_eq_true rfl
 unfold d73 at h;split at h
 ·split at h
  ·rename_i a b c d e f g hcond
   injection h with h;subst h;have hE:Zd Tryz.prog (EL [(62,rdS d62 ok62)]):=Ze (by simp only[List.mem_cons,List.not_mem_nil,or_false,forall_eq_or_imp,forall_eq];exact s62);have hc:=ZE hcond;have hm:=ZB hcond;have hw:=Yt (f:=f) (g:=g) (show 0≤a*b by omega) hm.2 (by omega) (by omega);have w1:IntKind.wrap .i64 (a*b*2)=a*b*2:=Zg (by omega) (by omega);have w2:IntKind.wrap .i64 (a*b*g)=a*b*g:=Zg (by omega) (by omega);have w3:IntKind.wrap .i64 (f+1)=f+1:=Zg (by omega) (by omega);have w4:IntKind.wrap .i64 (a*b*g*(f+1))=a*b*g*(f+1):=Zg (by omega) (by omega);have w5:IntKind.wrap .i64 (a*b*2+a*b*g*(f+1))=a*b*2+a*b*g*(f+1):=Zg (by omega) (by omega)
   repeat' with_reducible (first|refine ZR.h ?_|refine kI ?_|((first|refine kR hE ?_|refine kD hE Zq ?_);intro K hK;simp[hcond,w1,w2,w3,w4,w5,d62];(repeat' (first|refine hK _ _ ?_|apply And.intro|(intro hc;try subst hc)))<;>(try clear hK K))|(refine kT (fun hc=>?_) (fun hc=>?_)<;>simp at hc<;>(try subst hc)))
   all_goals first|(show Zb _ _=true;kernel_rfl)|(simp;done)|(simp at *;omega)|((try simp);refine Imp.aut ?_ ?_<;>simp[NLe])
  ·cases h
 ·cases h
def ZY (a b f g x gen n:Int):Int:=if x<0 then -1 else if a*b≤x then -1 else if gen<1 then -1 else if g<gen then -1 else if n<0 then -1 else if f<n then -1 else a*b*2+(x*g+gen - 1)*(f+1)+n
def d101:List AV→List NObj→Option AV
 | [.agg [.int .i64 a,.int .i64 b,.int .i64 c,.int .i64 d,.int .i64 e,.int .i64 f,.int .i64 g],.int .i64 x,.int .i64 y,.int .i64 z],[]=>if X7 a b c d e f g=true then some (.int .i64 (ZY a b f g x y z)) else none
 | _,_=>none
theorem ok101:ROk d101:=by
 intro xs os r h;unfold d101 at h
 (repeat' (split at h))<;>first|(cases h;done)|(injection h with h;subst h;simp)
theorem s101:Sound Tryz.prog 101 (rdS d101 ok101):=by
 refine Zo (ac:=?ac) (res:=?res) Tryz.func101 (by kernel_rfl) (ha:=?ha) (hk:=?hk) (hok:=ok101) fun xs os r h vs ρ0 hvs=>?w
 case ha=>conv=>lhs;cbv
 case hk=>kernel_rfl
 refine ⟨xs,?_,fun _ h=>h,fun w0 S hS=>?_⟩
 ·unfold d101 at h
  (repeat' (split at h))<;>first|(cases h;done)|exact Nat.le_of_ble_eq_true rfl
 unfold d101 at h;split at h
 ·split at h
  ·rename_i a b c d e f g x y z hcond
   injection h with h;subst h;have hE:Zd Tryz.prog (EL [(62,rdS d62 ok62)]):=Ze (by simp only[List.mem_cons,List.not_mem_nil,or_false,forall_eq_or_imp,forall_eq];exact s62);have hc:=ZE hcond;have hm:=ZB hcond;by_cases h1:x<0
   ·skip
    repeat' with_reducible (first|refine ZR.h ?_|refine kI ?_|((first|refine kR hE ?_|refine kD hE Zq ?_);intro K hK;simp[h1,hcond,ZY,d62];(repeat' (first|refine hK _ _ ?_|apply And.intro|(intro hc;try subst hc)))<;>(try clear hK K))|(refine kT (fun hc=>?_) (fun hc=>?_)<;>simp at hc<;>(try subst hc)))
    all_goals first|(show Zb _ _=true;kernel_rfl)|(simp;done)|(simp at *;omega)|((try simp[h1,hcond,ZY]);refine Imp.aut ?_ ?_<;>simp[NLe,h1,hcond,ZY])
   ·by_cases h2:a*b≤x
    ·skip
     repeat' with_reducible (first|refine ZR.h ?_|refine kI ?_|((first|refine kR hE ?_|refine kD hE Zq ?_);intro K hK;simp[h1,h2,hcond,ZY,d62];(repeat' (first|refine hK _ _ ?_|apply And.intro|(intro hc;try subst hc)))<;>(try clear hK K))|(refine kT (fun hc=>?_) (fun hc=>?_)<;>simp at hc<;>(try subst hc)))
     all_goals first|(show Zb _ _=true;kernel_rfl)|(simp;done)|(simp at *;omega)|((try simp[h1,h2,hcond,ZY]);refine Imp.aut ?_ ?_<;>simp[NLe,h1,h2,hcond,ZY])
    ·by_cases h3:y<1
     ·skip
      repeat' with_reducible (first|refine ZR.h ?_|refine kI ?_|((first|refine kR hE ?_|refine kD hE Zq ?_);intro K hK;simp[h1,h2,h3,hcond,ZY,d62];(repeat' (first|refine hK _ _ ?_|apply And.intro|(intro hc;try subst hc)))<;>(try clear hK K))|(refine kT (fun hc=>?_) (fun hc=>?_)<;>simp at hc<;>(try subst hc)))
      all_goals first|(show Zb _ _=true;kernel_rfl)|(simp;done)|(simp at *;omega)|((try simp[h1,h2,h3,hcond,ZY]);refine Imp.aut ?_ ?_<;>simp[NLe,h1,h2,h3,hcond,ZY])
     ·by_cases h4:g<y
      ·skip
       repeat' with_reducible (first|refine ZR.h ?_|refine kI ?_|((first|refine kR hE ?_|refine kD hE Zq ?_);intro K hK;simp[h1,h2,h3,h4,hcond,ZY,d62];(repeat' (first|refine hK _ _ ?_|apply And.intro|(intro hc;try subst hc)))<;>(try clear hK K))|(refine kT (fun hc=>?_) (fun hc=>?_)<;>simp at hc<;>(try subst hc)))
       all_goals first|(show Zb _ _=true;kernel_rfl)|(simp;done)|(simp at *;omega)|((try simp[h1,h2,h3,h4,hcond,ZY]);refine Imp.aut ?_ ?_<;>simp[NLe,h1,h2,h3,h4,hcond,ZY])
      ·by_cases h5:z<0
       ·skip
        repeat' with_reducible (first|refine ZR.h ?_|refine kI ?_|((first|refine kR hE ?_|refine kD hE Zq ?_);intro K hK;simp[h1,h2,h3,h4,h5,hcond,ZY,d62];(repeat' (first|refine hK _ _ ?_|apply And.intro|(intro hc;try subst hc)))<;>(try clear hK K))|(refine kT (fun hc=>?_) (fun hc=>?_)<;>simp at hc<;>(try subst hc)))
        all_goals first|(show Zb _ _=true;kernel_rfl)|(simp;done)|(simp at *;omega)|((try simp[h1,h2,h3,h4,h5,hcond,ZY]);refine Imp.aut ?_ ?_<;>simp[NLe,h1,h2,h3,h4,h5,hcond,ZY])
       ·by_cases h6:f<z
        ·skip
         repeat' with_reducible (first|refine ZR.h ?_|refine kI ?_|((first|refine kR hE ?_|refine kD hE Zq ?_);intro K hK;simp[h1,h2,h3,h4,h5,h6,hcond,ZY,d62];(repeat' (first|refine hK _ _ ?_|apply And.intro|(intro hc;try subst hc)))<;>(try clear hK K))|(refine kT (fun hc=>?_) (fun hc=>?_)<;>simp at hc<;>(try subst hc)))
         all_goals first|(show Zb _ _=true;kernel_rfl)|(simp;done)|(simp at *;omega)|((try simp[h1,h2,h3,h4,h5,h6,hcond,ZY]);refine Imp.aut ?_ ?_<;>simp[NLe,h1,h2,h3,h4,h5,h6,hcond,ZY])
        ·have k1:=Xh (show 0≤x by omega) (show x≤23 by omega) (show 0≤g by omega) (show g≤15 by omega)
         have k2:=Xh (show 0≤x*g+y - 1 by omega) (show x*g+y - 1≤360 by omega) (show 0≤f+1 by omega) (show f+1≤5 by omega);have w1:IntKind.wrap .i64 (a*b*2)=a*b*2:=Zg (by omega) (by omega);have w2:IntKind.wrap .i64 (x*g)=x*g:=Zg (by omega) (by omega);have w3:IntKind.wrap .i64 (x*g+y)=x*g+y:=Zg (by omega) (by omega);have w4:IntKind.wrap .i64 (x*g+y - 1)=x*g+y - 1:=Zg (by omega) (by omega);have w5:IntKind.wrap .i64 (f+1)=f+1:=Zg (by omega) (by omega);have w6:IntKind.wrap .i64 ((x*g+y - 1)*(f+1))=(x*g+y - 1)*(f+1):=Zg (by omega) (by omega);have w7:IntKind.wrap .i64 (a*b*2+(x*g+y - 1)*(f+1))=a*b*2+(x*g+y - 1)*(f+1):=Zg (by omega) (by omega);have w8:IntKind.wrap .i64 (a*b*2+(x*g+y - 1)*(f+1)+z)=a*b*2+(x*g+y - 1)*(f+1)+z:=Zg (by omega) (by omega)
         repeat' with_reducible (first|refine ZR.h ?_|refine kI ?_|((first|refine kR hE ?_|refine kD hE Zq ?_);intro K hK;simp[h1,h2,h3,h4,h5,h6,hcond,ZY,w1,w2,w3,w4,w5,w6,w7,w8,d62];(repeat' (first|refine hK _ _ ?_|apply And.intro|(intro hc;try subst hc)))<;>(try clear hK K))|(refine kT (fun hc=>?_) (fun hc=>?_)<;>simp at hc<;>(try subst hc)))
         all_goals first|(show Zb _ _=true;kernel_rfl)|(simp;done)|(simp at *;omega)|((try simp[h1,h2,h3,h4,h5,h6,hcond,ZY,w1,w2,w3,w4,w5,w6,w7,w8]);refine Imp.aut ?_ ?_<;>simp[NLe,h1,h2,h3,h4,h5,h6,hcond,ZY,w1,w2,w3,w4,w5,w6,w7,w8])
  ·cases h
 ·cases h
structure StZ where
 k:Int
 fl:Bool
 g:Int
 l:Int
 f:Int
 deriving DecidableEq,Inhabited
def stA (s:StZ):AV:=.agg [.int .i64 s.k,.bool s.fl,.int .i64 s.g,.int .i64 s.l,.int .i64 s.f]
def Zu:StZ:=⟨0,false,0,0,0⟩
def Xk (s:StZ) (e:Int):AV:=.tup [stA s,if e=0 then .raw .nilIface else .iface 161 (.int .i64 e)]
def YX (s:StZ):StZ:=if s.k=1 then { s with k:=3 } else if s.k=2 then { s with k:=4 } else s
def Z3 (s:StZ):StZ:=if s.k=3 then { s with k:=1 } else if s.k=4 then { s with k:=2 } else s
def Z2 (s:StZ) (fills:Int):StZ:=if s.l=0 then { s with k:=5,fl:=false } else if fills≤s.f then { s with k:=8,fl:=false } else s
def d103:List AV→List NObj→Option AV
 | [.agg [.int .i64 k,.bool fl,.int .i64 sg,.int .i64 sl,.int .i64 sf]],[]=>some (stA (YX ⟨k,fl,sg,sl,sf⟩))
 | _,_=>none
theorem ok103:ROk d103:=by
 intro xs os r h;unfold d103 at h
 (repeat' (split at h))<;>first|(cases h;done)|(injection h with h;subst h;unfold stA;simp)
theorem s103:Sound Tryz.prog 103 (rdS d103 ok103):=by
 refine Zo (ac:=?ac) (res:=?res) Tryz.func103 (by kernel_rfl) (ha:=?ha) (hk:=?hk) (hok:=ok103) fun xs os r h vs ρ0 hvs=>?w
 case ha=>conv=>lhs;cbv
 case hk=>kernel_rfl
 refine ⟨xs,?_,fun _ h=>h,fun w0 S hS=>?_⟩
 ·unfold d103 at h
  (repeat' (split at h))<;>first|(cases h;done)|exact Nat.le_of_ble_eq_true rfl
 unfold d103 at h;split at h
 ·rename_i k fl sg sl sf
  injection h with h;subst h;have hE:Zd Tryz.prog (EL []):=Ze (by simp);by_cases h1:k=1
  ·skip
   repeat' with_reducible (first|refine ZR.h ?_|refine kI ?_|(refine kR hE ?_;intro K hK;simp[h1,YX,stA];(repeat' (first|refine hK _ _ ?_|apply And.intro|(intro hc;try subst hc)))<;>(try clear hK K))|(refine kT (fun hc=>?_) (fun hc=>?_)<;>simp at hc<;>(try subst hc)))
   all_goals first|(show Zb _ _=true;kernel_rfl)|(simp;done)|(simp at *;omega)|((try simp[h1,YX,stA]);refine Imp.aut ?_ ?_<;>simp[NLe,h1,YX,stA])
  ·by_cases h2:k=2
   ·skip
    repeat' with_reducible (first|refine ZR.h ?_|refine kI ?_|(refine kR hE ?_;intro K hK;simp[h1,h2,YX,stA];(repeat' (first|refine hK _ _ ?_|apply And.intro|(intro hc;try subst hc)))<;>(try clear hK K))|(refine kT (fun hc=>?_) (fun hc=>?_)<;>simp at hc<;>(try subst hc)))
    all_goals first|(show Zb _ _=true;kernel_rfl)|(simp;done)|(simp at *;omega)|((try simp[h1,h2,YX,stA]);refine Imp.aut ?_ ?_<;>simp[NLe,h1,h2,YX,stA])
   ·skip
    repeat' with_reducible (first|refine ZR.h ?_|refine kI ?_|(refine kR hE ?_;intro K hK;simp[h1,h2,YX,stA];(repeat' (first|refine hK _ _ ?_|apply And.intro|(intro hc;try subst hc)))<;>(try clear hK K))|(refine kT (fun hc=>?_) (fun hc=>?_)<;>simp at hc<;>(try subst hc)))
    all_goals first|(show Zb _ _=true;kernel_rfl)|(simp;done)|(simp at *;omega)|((try simp[h1,h2,YX,stA]);refine Imp.aut ?_ ?_<;>simp[NLe,h1,h2,YX,stA])
 ·cases h
def d121:List AV→List NObj→Option AV
 | [.agg [.int .i64 k,.bool fl,.int .i64 sg,.int .i64 sl,.int .i64 sf]],[]=>some (stA (Z3 ⟨k,fl,sg,sl,sf⟩))
 | _,_=>none
theorem ok121:ROk d121:=by
 intro xs os r h;unfold d121 at h
 (repeat' (split at h))<;>first|(cases h;done)|(injection h with h;subst h;unfold stA;simp)
theorem s121:Sound Tryz.prog 121 (rdS d121 ok121):=by
 refine Zo (ac:=?ac) (res:=?res) Tryz.func121 (by kernel_rfl) (ha:=?ha) (hk:=?hk) (hok:=ok121) fun xs os r h vs ρ0 hvs=>?w
 case ha=>conv=>lhs;cbv
 case hk=>kernel_rfl
 refine ⟨xs,?_,fun _ h=>h,fun w0 S hS=>?_⟩
 ·unfold d121 at h
  (repeat' (split at h))<;>first|(cases h;done)|exact Nat.le_of_ble_eq_true rfl
 unfold d121 at h;split at h
 ·rename_i k fl sg sl sf
  injection h with h;subst h;have hE:Zd Tryz.prog (EL []):=Ze (by simp);by_cases h1:k=3
  ·skip
   repeat' with_reducible (first|refine ZR.h ?_|refine kI ?_|(refine kR hE ?_;intro K hK;simp[h1,Z3,stA];(repeat' (first|refine hK _ _ ?_|apply And.intro|(intro hc;try subst hc)))<;>(try clear hK K))|(refine kT (fun hc=>?_) (fun hc=>?_)<;>simp at hc<;>(try subst hc)))
   all_goals first|(show Zb _ _=true;kernel_rfl)|(simp;done)|(simp at *;omega)|((try simp[h1,Z3,stA]);refine Imp.aut ?_ ?_<;>simp[NLe,h1,Z3,stA])
  ·by_cases h2:k=4
   ·skip
    repeat' with_reducible (first|refine ZR.h ?_|refine kI ?_|(refine kR hE ?_;intro K hK;simp[h1,h2,Z3,stA];(repeat' (first|refine hK _ _ ?_|apply And.intro|(intro hc;try subst hc)))<;>(try clear hK K))|(refine kT (fun hc=>?_) (fun hc=>?_)<;>simp at hc<;>(try subst hc)))
    all_goals first|(show Zb _ _=true;kernel_rfl)|(simp;done)|(simp at *;omega)|((try simp[h1,h2,Z3,stA]);refine Imp.aut ?_ ?_<;>simp[NLe,h1,h2,Z3,stA])
   ·skip
    repeat' with_reducible (first|refine ZR.h ?_|refine kI ?_|(refine kR hE ?_;intro K hK;simp[h1,h2,Z3,stA];(repeat' (first|refine hK _ _ ?_|apply And.intro|(intro hc;try subst hc)))<;>(try clear hK K))|(refine kT (fun hc=>?_) (fun hc=>?_)<;>simp at hc<;>(try subst hc)))
    all_goals first|(show Zb _ _=true;kernel_rfl)|(simp;done)|(simp at *;omega)|((try simp[h1,h2,Z3,stA]);refine Imp.aut ?_ ?_<;>simp[NLe,h1,h2,Z3,stA])
 ·cases h
def d119:List AV→List NObj→Option AV
 | [.agg [.int .i64 k,.bool fl,.int .i64 sg,.int .i64 sl,.int .i64 sf],.int .i64 F],[]=>some (stA (Z2 ⟨k,fl,sg,sl,sf⟩ F))
 | _,_=>none
theorem ok119:ROk d119:=by
 intro xs os r h;unfold d119 at h
 (repeat' (split at h))<;>first|(cases h;done)|(injection h with h;subst h;unfold stA;simp)
theorem s119:Sound Tryz.prog 119 (rdS d119 ok119):=by
 refine Zo (ac:=?ac) (res:=?res) Tryz.func119 (by kernel_rfl) (ha:=?ha) (hk:=?hk) (hok:=ok119) fun xs os r h vs ρ0 hvs=>?w
 case ha=>conv=>lhs;cbv
 case hk=>kernel_rfl
 refine ⟨xs,?_,fun _ h=>h,fun w0 S hS=>?_⟩
 ·unfold d119 at h
  (repeat' (split at h))<;>first|(cases h;done)|exact Nat.le_of_ble_eq_true rfl
 unfold d119 at h;split at h
 ·rename_i k fl sg sl sf F
  injection h with h;subst h;have hE:Zd Tryz.prog (EL []):=Ze (by simp);by_cases h1:sl=0
  ·skip
   repeat' with_reducible (first|refine ZR.h ?_|refine kI ?_|(refine kR hE ?_;intro K hK;simp[h1,Z2,stA];(repeat' (first|refine hK _ _ ?_|apply And.intro|(intro hc;try subst hc)))<;>(try clear hK K))|(refine kT (fun hc=>?_) (fun hc=>?_)<;>simp at hc<;>(try subst hc)))
   all_goals first|(show Zb _ _=true;kernel_rfl)|(simp;done)|(simp at *;omega)|((try simp[h1,Z2,stA]);refine Imp.aut ?_ ?_<;>simp[NLe,h1,Z2,stA])
  ·by_cases h2:F≤sf
   ·skip
    repeat' with_reducible (first|refine ZR.h ?_|refine kI ?_|(refine kR hE ?_;intro K hK;simp[h1,h2,Z2,stA];(repeat' (first|refine hK _ _ ?_|apply And.intro|(intro hc;try subst hc)))<;>(try clear hK K))|(refine kT (fun hc=>?_) (fun hc=>?_)<;>simp at hc<;>(try subst hc)))
    all_goals first|(show Zb _ _=true;kernel_rfl)|(simp;done)|(simp at *;omega)|((try simp[h1,h2,Z2,stA]);refine Imp.aut ?_ ?_<;>simp[NLe,h1,h2,Z2,stA])
   ·skip
    repeat' with_reducible (first|refine ZR.h ?_|refine kI ?_|(refine kR hE ?_;intro K hK;simp[h1,h2,Z2,stA];(repeat' (first|refine hK _ _ ?_|apply And.intro|(intro hc;try subst hc)))<;>(try clear hK K))|(refine kT (fun hc=>?_) (fun hc=>?_)<;>simp at hc<;>(try subst hc)))
    all_goals first|(show Zb _ _=true;kernel_rfl)|(simp;done)|(simp at *;omega)|((try simp[h1,h2,Z2,stA]);refine Imp.aut ?_ ?_<;>simp[NLe,h1,h2,Z2,stA])
 ·cases h
def Zz (s:StZ) (q F:Int):StZ×Int:=if ZA s.k=false then (Zu,27) else if q<1 then (Zu,23) else if s.l<q then (Zu,23) else if F≤s.f then (Zu,4) else (Z2 { s with l:=s.l - q,f:=s.f+1 } F,0)
def Yz (s:StZ) (F:Int):StZ:=if (Z2 (Z3 s) F).fl=true then { Z2 (Z3 s) F with k:=6,fl:=false } else Z2 (Z3 s) F
def Zh (s:StZ) (q F:Int):StZ×Int:=if Yb s.k=false then (Zu,1) else if q<0 then (Zu,23) else if s.l<q then (Zu,23) else if 0<q then (if F≤s.f then (Zu,4) else (Yz { s with l:=s.l - q,f:=s.f+1 } F,0)) else (Yz s F,0)
def xG (s:StZ):StZ×Int:=if s.k=1 then ({ s with k:=6 },0) else if s.k=2 then ({ s with k:=6 },0) else if s.k=3 then ({ s with fl:=true },0) else if s.k=4 then ({ s with fl:=true },0) else (Zu,29)
def d106:List AV→List NObj→Option AV
 | [.agg [.int .i64 k,.bool fl,.int .i64 sg,.int .i64 sl,.int .i64 sf],.int .i64 q,.int .i64 F],[]=>if 0≤sl∧sl≤1000000∧0≤sf∧sf≤1000000 then some (Xk (Zz ⟨k,fl,sg,sl,sf⟩ q F).1 (Zz ⟨k,fl,sg,sl,sf⟩ q F).2) else none
 | _,_=>none
theorem ok106:ROk d106:=by
 intro xs os r h;unfold d106 at h
 (repeat' (split at h))<;>first|(cases h;done)|(injection h with h;subst h;unfold Xk stA;split<;>simp)
theorem s106:Sound Tryz.prog 106 (rdS d106 ok106):=by
 refine Zo (ac:=?ac) (res:=?res) Tryz.func106 (by kernel_rfl) (ha:=?ha) (hk:=?hk) (hok:=ok106) fun xs os r h vs ρ0 hvs=>?w
 case ha=>conv=>lhs;cbv
 case hk=>kernel_rfl
 refine ⟨xs,?_,fun _ h=>h,fun w0 S hS=>?_⟩
 ·unfold d106 at h
  (repeat' (split at h))<;>first|(cases h;done)|exact Nat.le_of_ble_eq_true rfl
 unfold d106 at h;split at h
 ·split at h
  ·rename_i k fl sg sl sf q F hcond
   injection h with h;subst h;have hE:Zd Tryz.prog (EL [(115,rdS d115 ok115),(119,rdS d119 ok119)]):=Ze (by simp only[List.mem_cons,List.not_mem_nil,or_false,forall_eq_or_imp,forall_eq];exact ⟨s115,s119⟩);by_cases h1:ZA k=false
   ·skip
    repeat' with_reducible (first|refine ZR.h ?_|refine kI ?_|(refine kR hE ?_;intro K hK;simp[h1,Zz,Xk,stA,Zu,d115,d119];(repeat' (first|refine hK _ _ ?_|apply And.intro|(intro hc;try subst hc)))<;>(try clear hK K))|(refine kT (fun hc=>?_) (fun hc=>?_)<;>simp at hc<;>(try subst hc)))
    all_goals first|(show Zb _ _=true;kernel_rfl)|(simp;done)|(simp at *;omega)|((try simp[h1,Zz,Xk,stA,Zu]);refine Imp.aut ?_ ?_<;>simp[NLe,h1,Zz,Xk,stA,Zu])
   ·by_cases h2:q<1
    ·skip
     repeat' with_reducible (first|refine ZR.h ?_|refine kI ?_|(refine kR hE ?_;intro K hK;simp[h1,h2,Zz,Xk,stA,Zu,d115,d119];(repeat' (first|refine hK _ _ ?_|apply And.intro|(intro hc;try subst hc)))<;>(try clear hK K))|(refine kT (fun hc=>?_) (fun hc=>?_)<;>simp at hc<;>(try subst hc)))
     all_goals first|(show Zb _ _=true;kernel_rfl)|(simp;done)|(simp at *;omega)|((try simp[h1,h2,Zz,Xk,stA,Zu]);refine Imp.aut ?_ ?_<;>simp[NLe,h1,h2,Zz,Xk,stA,Zu])
    ·by_cases h3:sl<q
     ·skip
      repeat' with_reducible (first|refine ZR.h ?_|refine kI ?_|(refine kR hE ?_;intro K hK;simp[h1,h2,h3,Zz,Xk,stA,Zu,d115,d119];(repeat' (first|refine hK _ _ ?_|apply And.intro|(intro hc;try subst hc)))<;>(try clear hK K))|(refine kT (fun hc=>?_) (fun hc=>?_)<;>simp at hc<;>(try subst hc)))
      all_goals first|(show Zb _ _=true;kernel_rfl)|(simp;done)|(simp at *;omega)|((try simp[h1,h2,h3,Zz,Xk,stA,Zu]);refine Imp.aut ?_ ?_<;>simp[NLe,h1,h2,h3,Zz,Xk,stA,Zu])
     ·by_cases h4:F≤sf
      ·skip
       repeat' with_reducible (first|refine ZR.h ?_|refine kI ?_|(refine kR hE ?_;intro K hK;simp[h1,h2,h3,h4,Zz,Xk,stA,Zu,d115,d119];(repeat' (first|refine hK _ _ ?_|apply And.intro|(intro hc;try subst hc)))<;>(try clear hK K))|(refine kT (fun hc=>?_) (fun hc=>?_)<;>simp at hc<;>(try subst hc)))
       all_goals first|(show Zb _ _=true;kernel_rfl)|(simp;done)|(simp at *;omega)|((try simp[h1,h2,h3,h4,Zz,Xk,stA,Zu]);refine Imp.aut ?_ ?_<;>simp[NLe,h1,h2,h3,h4,Zz,Xk,stA,Zu])
      ·have h1':ZA k=true:=by simpa using h1
       have w1:IntKind.wrap .i64 (sl - q)=sl - q:=Zg (by omega) (by omega);have w2:IntKind.wrap .i64 (sf+1)=sf+1:=Zg (by omega) (by omega)
       repeat' with_reducible (first|refine ZR.h ?_|refine kI ?_|(refine kR hE ?_;intro K hK;simp[h1,h2,h3,h4,Zz,Xk,stA,Zu,h1',w1,w2,d115,d119];(repeat' (first|refine hK _ _ ?_|apply And.intro|(intro hc;try subst hc)))<;>(try clear hK K))|(refine kT (fun hc=>?_) (fun hc=>?_)<;>simp at hc<;>(try subst hc)))
       all_goals first|(show Zb _ _=true;kernel_rfl)|(simp;done)|(simp at *;omega)|((try simp[h1,h2,h3,h4,Zz,Xk,stA,Zu,h1',w1,w2]);refine Imp.aut ?_ ?_<;>simp[NLe,h1,h2,h3,h4,Zz,Xk,stA,Zu,h1',w1,w2])
  ·cases h
 ·cases h
def d107:List AV→List NObj→Option AV
 | [.agg [.int .i64 k,.bool fl,.int .i64 sg,.int .i64 sl,.int .i64 sf],.int .i64 q,.int .i64 F],[]=>if 0≤sl∧sl≤1000000∧0≤sf∧sf≤1000000 then some (Xk (Zh ⟨k,fl,sg,sl,sf⟩ q F).1 (Zh ⟨k,fl,sg,sl,sf⟩ q F).2) else none
 | _,_=>none
theorem ok107:ROk d107:=by
 intro xs os r h;unfold d107 at h
 (repeat' (split at h))<;>first|(cases h;done)|(injection h with h;subst h;unfold Xk stA;split<;>simp)
theorem s107:Sound Tryz.prog 107 (rdS d107 ok107):=by
 refine Zo (ac:=?ac) (res:=?res) Tryz.func107 (by kernel_rfl) (ha:=?ha) (hk:=?hk) (hok:=ok107) fun xs os r h vs ρ0 hvs=>?w
 case ha=>conv=>lhs;cbv
 case hk=>kernel_rfl
 refine ⟨xs,?_,fun _ h=>h,fun w0 S hS=>?_⟩
 ·unfold d107 at h
  (repeat' (split at h))<;>first|(cases h;done)|exact Nat.le_of_ble_eq_true rfl
 unfold d107 at h;split at h
 ·split at h
  ·rename_i k fl sg sl sf q F hcond
   injection h with h;subst h;have hE:Zd Tryz.prog (EL [(120,rdS d120 ok120),(121,rdS d121 ok121),(119,rdS d119 ok119)]):=Ze (by simp only[List.mem_cons,List.not_mem_nil,or_false,forall_eq_or_imp,forall_eq];exact ⟨s120,s121,s119⟩);by_cases h1:Yb k=false
   ·skip
    repeat' with_reducible (first|refine ZR.h ?_|refine kI ?_|(refine kR hE ?_;intro K hK;simp[h1,Zh,Yz,Xk,stA,Zu,d120,d121,d119];(repeat' (first|refine hK _ _ ?_|apply And.intro|(intro hc;try subst hc)))<;>(try clear hK K))|(refine kT (fun hc=>?_) (fun hc=>?_)<;>simp at hc<;>(try subst hc)))
    all_goals first|(show Zb _ _=true;kernel_rfl)|(simp;done)|(simp at *;omega)|((try simp[h1,Zh,Yz,Xk,stA,Zu]);refine Imp.aut ?_ ?_<;>simp[NLe,h1,Zh,Yz,Xk,stA,Zu])
   ·have h1':Yb k=true:=by simpa using h1
    by_cases h2:q<0
    ·skip
     repeat' with_reducible (first|refine ZR.h ?_|refine kI ?_|(refine kR hE ?_;intro K hK;simp[h1',h2,Zh,Yz,Xk,stA,Zu,d120,d121,d119];(repeat' (first|refine hK _ _ ?_|apply And.intro|(intro hc;try subst hc)))<;>(try clear hK K))|(refine kT (fun hc=>?_) (fun hc=>?_)<;>simp at hc<;>(try subst hc)))
     all_goals first|(show Zb _ _=true;kernel_rfl)|(simp;done)|(simp at *;omega)|((try simp[h1,h1',h2,Zh,Yz,Xk,stA,Zu]);refine Imp.aut ?_ ?_<;>simp[NLe,h1,h1',h2,Zh,Yz,Xk,stA,Zu])
    ·by_cases h3:sl<q
     ·skip
      repeat' with_reducible (first|refine ZR.h ?_|refine kI ?_|(refine kR hE ?_;intro K hK;simp[h1',h2,h3,Zh,Yz,Xk,stA,Zu,d120,d121,d119];(repeat' (first|refine hK _ _ ?_|apply And.intro|(intro hc;try subst hc)))<;>(try clear hK K))|(refine kT (fun hc=>?_) (fun hc=>?_)<;>simp at hc<;>(try subst hc)))
      all_goals first|(show Zb _ _=true;kernel_rfl)|(simp;done)|(simp at *;omega)|((try simp[h1,h1',h2,h3,Zh,Yz,Xk,stA,Zu]);refine Imp.aut ?_ ?_<;>simp[NLe,h1,h1',h2,h3,Zh,Yz,Xk,stA,Zu])
     ·by_cases h4:0<q
      ·by_cases h5:F≤sf
       ·skip
        repeat' with_reducible (first|refine ZR.h ?_|refine kI ?_|(refine kR hE ?_;intro K hK;simp[h1',h2,h3,h4,h5,Zh,Yz,Xk,stA,Zu,d120,d121,d119];(repeat' (first|refine hK _ _ ?_|apply And.intro|(intro hc;try subst hc)))<;>(try clear hK K))|(refine kT (fun hc=>?_) (fun hc=>?_)<;>simp at hc<;>(try subst hc)))
        all_goals first|(show Zb _ _=true;kernel_rfl)|(simp;done)|(simp at *;omega)|((try simp[h1,h1',h2,h3,h4,h5,Zh,Yz,Xk,stA,Zu]);refine Imp.aut ?_ ?_<;>simp[NLe,h1,h1',h2,h3,h4,h5,Zh,Yz,Xk,stA,Zu])
       ·have w1:IntKind.wrap .i64 (sl - q)=sl - q:=Zg (by omega) (by omega)
        have w2:IntKind.wrap .i64 (sf+1)=sf+1:=Zg (by omega) (by omega);obtain ⟨s1,hs1⟩:∃ s1,Z3 ⟨k,fl,sg,sl - q,sf+1⟩=s1:=⟨_,rfl⟩;obtain ⟨s2,hs2⟩:∃ s2,Z2 s1 F=s2:=⟨_,rfl⟩;obtain ⟨k2,fl2,g2,l2,f2⟩:=s2;have e1:Z2 ⟨s1.k,s1.fl,s1.g,s1.l,s1.f⟩ F=⟨k2,fl2,g2,l2,f2⟩:=hs2;by_cases h9:fl2=true
        ·subst h9
         repeat' with_reducible (first|refine ZR.h ?_|refine kI ?_|(refine kR hE ?_;intro K hK;simp[hs1,hs2,e1,h1',h2,h3,h4,h5,w1,w2,Zh,Yz,Xk,stA,Zu,d120,d121,d119];(repeat' (first|refine hK _ _ ?_|apply And.intro|(intro hc;try subst hc)))<;>(try clear hK K))|(refine kT (fun hc=>?_) (fun hc=>?_)<;>simp at hc<;>(try subst hc)))
         all_goals first|(show Zb _ _=true;kernel_rfl)|(simp;done)|(simp at *;omega)|((try simp[hs1,hs2,e1,h1',h2,h3,h4,h5,w1,w2,Zh,Yz,Xk,stA,Zu]);refine Imp.aut ?_ ?_<;>simp[NLe,hs1,hs2,e1,h1',h2,h3,h4,h5,w1,w2,Zh,Yz,Xk,stA,Zu])
        ·have h9':fl2=false:=by simpa using h9
         subst h9'
         repeat' with_reducible (first|refine ZR.h ?_|refine kI ?_|(refine kR hE ?_;intro K hK;simp[hs1,hs2,e1,h1',h2,h3,h4,h5,w1,w2,Zh,Yz,Xk,stA,Zu,d120,d121,d119];(repeat' (first|refine hK _ _ ?_|apply And.intro|(intro hc;try subst hc)))<;>(try clear hK K))|(refine kT (fun hc=>?_) (fun hc=>?_)<;>simp at hc<;>(try subst hc)))
         all_goals first|(show Zb _ _=true;kernel_rfl)|(simp;done)|(simp at *;omega)|((try simp[hs1,hs2,e1,h1',h2,h3,h4,h5,w1,w2,Zh,Yz,Xk,stA,Zu]);refine Imp.aut ?_ ?_<;>simp[NLe,hs1,hs2,e1,h1',h2,h3,h4,h5,w1,w2,Zh,Yz,Xk,stA,Zu])
      ·skip
       obtain ⟨s1,hs1⟩:∃ s1,Z3 ⟨k,fl,sg,sl,sf⟩=s1:=⟨_,rfl⟩;obtain ⟨s2,hs2⟩:∃ s2,Z2 s1 F=s2:=⟨_,rfl⟩;obtain ⟨k2,fl2,g2,l2,f2⟩:=s2;have e1:Z2 ⟨s1.k,s1.fl,s1.g,s1.l,s1.f⟩ F=⟨k2,fl2,g2,l2,f2⟩:=hs2;by_cases h9:fl2=true
       ·subst h9
        repeat' with_reducible (first|refine ZR.h ?_|refine kI ?_|(refine kR hE ?_;intro K hK;simp[hs1,hs2,e1,h1',h2,h3,h4,Zh,Yz,Xk,stA,Zu,d120,d121,d119];(repeat' (first|refine hK _ _ ?_|apply And.intro|(intro hc;try subst hc)))<;>(try clear hK K))|(refine kT (fun hc=>?_) (fun hc=>?_)<;>simp at hc<;>(try subst hc)))
        all_goals first|(show Zb _ _=true;kernel_rfl)|(simp;done)|(simp at *;omega)|((try simp[hs1,hs2,e1,h1',h2,h3,h4,Zh,Yz,Xk,stA,Zu]);refine Imp.aut ?_ ?_<;>simp[NLe,hs1,hs2,e1,h1',h2,h3,h4,Zh,Yz,Xk,stA,Zu])
       ·have h9':fl2=false:=by simpa using h9
        subst h9'
        repeat' with_reducible (first|refine ZR.h ?_|refine kI ?_|(refine kR hE ?_;intro K hK;simp[hs1,hs2,e1,h1',h2,h3,h4,Zh,Yz,Xk,stA,Zu,d120,d121,d119];(repeat' (first|refine hK _ _ ?_|apply And.intro|(intro hc;try subst hc)))<;>(try clear hK K))|(refine kT (fun hc=>?_) (fun hc=>?_)<;>simp at hc<;>(try subst hc)))
        all_goals first|(show Zb _ _=true;kernel_rfl)|(simp;done)|(simp at *;omega)|((try simp[hs1,hs2,e1,h1',h2,h3,h4,Zh,Yz,Xk,stA,Zu]);refine Imp.aut ?_ ?_<;>simp[NLe,hs1,hs2,e1,h1',h2,h3,h4,Zh,Yz,Xk,stA,Zu])
  ·cases h
 ·cases h
def isW:List AV→Bool
 | [.int .u64 x]=>decide (0≤x)&&decide (x<18446744073709551616)
 | _=>false
def wAt (ws:List (List AV)) (i:Nat):Int:=match ws[i]? with
 | some [.int .u64 x]=>x
 | _=>0
theorem ZbI {c:List AV} (h:isW c=true):∃ x:Int,c=[.int .u64 x]∧0≤x∧x<18446744073709551616:=by
 unfold isW at h;split at h
 ·simp only[Bool.and_eq_true,decide_eq_true_eq]at h;exact ⟨_,rfl,h⟩
 ·cases h
theorem ZW:∀ {els:List (List AV)},els.all isW=true→Yo els=els
 | [],_=>rfl
 | c :: r,h=>by
  simp only[List.all_cons,Bool.and_eq_true]at h;obtain ⟨x,rfl,_⟩:=ZbI h.1;simp[Yo,t0L,AV.t0,ZW h.2]
theorem ZV:∀ {els:List (List AV)},els.all isW=true→Xr els=true
 | [],_=>rfl
 | c :: r,h=>by
  simp only[List.all_cons,Bool.and_eq_true]at h;obtain ⟨x,rfl,_⟩:=ZbI h.1;simp[Xr,clL,AV.cl,ZV h.2]
theorem Zg8 {els:List (List AV)} (h:els.all isW=true) {i:Nat} (hi:i<els.length):els[i]?=some [.int .u64 (wAt els i)]∧0≤wAt els i∧wAt els i<18446744073709551616:=by
 obtain ⟨x,hx,h1⟩:=ZbI (List.all_eq_true.1 h _ (List.getElem_mem hi));have e:els[i]?=some [.int .u64 x]:=by rw[List.getElem?_eq_getElem hi,hx]
 have e2:wAt els i=x:=by unfold wAt;rw[e]
 rw[e2];exact ⟨e,h1⟩
theorem TI {els:List (List AV)} (h:els.all isW=true) {x:Int} (h1:0≤x) (h2:x<18446744073709551616) (i:Nat):(els.set i [.int .u64 x]).all isW=true :=
 List.all_eq_true.2 fun c hc=>by
  rcases List.mem_or_eq_of_mem_set hc with h3|h3
  ·exact List.all_eq_true.1 h c h3
  ·rw[h3];simp[isW,h1,h2]
def d69:List AV→List NObj→Option AV
 | [.int .i64 _,.iface _ _],[]=>some (.iface 187 .bot)
 | _,_=>none
theorem ok69:ROk d69:=by
 intro xs os r h;unfold d69 at h
 (repeat' (split at h))<;>first|(cases h;done)|(injection h with h;subst h;simp)
theorem s69:Sound Tryz.prog 69 (rdS d69 ok69):=by
 refine Zo (ac:=?ac) (res:=?res) Tryz.func69 (by kernel_rfl) (ha:=?ha) (hk:=?hk) (hok:=ok69) fun xs os r h vs ρ0 hvs=>?w
 case ha=>conv=>lhs;cbv
 case hk=>kernel_rfl
 refine ⟨xs,?_,fun _ h=>h,fun w0 S hS=>?_⟩
 ·unfold d69 at h
  (repeat' (split at h))<;>first|(cases h;done)|exact Nat.le_of_ble_eq_true rfl
 unfold d69 at h;split at h
 ·skip
  injection h with h;subst h;have hE:Zd Tryz.prog (EL []):=Ze (by simp)
  repeat' with_reducible (first|refine ZR.h ?_|refine kI ?_|(refine kR hE ?_;intro K hK;simp[];(repeat' (first|refine hK _ _ ?_|apply And.intro|(intro hc;try subst hc)))<;>(try clear hK K))|(refine kT (fun hc=>?_) (fun hc=>?_)<;>simp at hc<;>(try subst hc)))
  all_goals first|(show Zb _ _=true;kernel_rfl)|(simp;done)|(simp at *;omega)|((try simp);refine Imp.aut ?_ ?_<;>simp[NLe])
 ·cases h
def d75:List AV→Option Ans
 | [.op _ [.os _ 1 ws,.int .i64 s,.bot,.bot,.bot,.bot,.bot],.int .i64 i]=>some ⟨if i<0 then .iface 187 .bot else if (ws.length:Int)≤i then .iface 187 .bot else .raw .nilIface,[.free]⟩
 | _=>none
theorem ok75:NOk [(7,false)] d75:=by
 intro xs a h;unfold d75 at h;split at h
 ·injection h with h;subst h
  refine ⟨Zp ?_,?_⟩<;>(repeat' split)<;>simp
 ·cases h
theorem s75:Sound Tryz.prog 75 (Zm [(7,false)] d75 ok75):=by
 refine Zi (ac:=?ac) (res:=?res) Tryz.func75 (by kernel_rfl) (ha:=?ha) (hk:=?hk) (hok:=ok75) (fun xs a h=>?_) fun xs a h w0 S hS=>?_
 case ha=>conv=>lhs;cbv
 case hk=>kernel_rfl
 ·unfold d75 at h
  (repeat' (split at h))<;>first|(cases h;done)|exact Nat.le_of_ble_eq_true rfl
 unfold d75 at h;split at h
 ·rename_i t1 t2 ws s i
  injection h with h;subst h;have hE:Zd Tryz.prog (EL [(69,rdS d69 ok69)]):=Ze (by simp only[List.mem_cons,List.not_mem_nil,or_false,forall_eq_or_imp,forall_eq];exact s69);by_cases h1:i<0
  ·skip
   repeat' with_reducible (first|refine ZR.h ?_|refine kI ?_|(refine kR hE ?_;intro K hK;simp[h1,d69];(repeat' (first|refine hK _ _ ?_|apply And.intro|(intro hc;try subst hc)))<;>(try clear hK K))|(refine kT (fun hc=>?_) (fun hc=>?_)<;>simp at hc<;>(try subst hc)))
   all_goals first|(show Zb _ _=true;kernel_rfl)|(simp;done)|(simp at *;omega)|((try simp[h1]);refine Imp.aut ?_ ?_<;>simp[NLe,h1])
  ·by_cases h2:(ws.length:Int)≤i
   ·skip
    repeat' with_reducible (first|refine ZR.h ?_|refine kI ?_|(refine kR hE ?_;intro K hK;simp[h1,h2,d69];(repeat' (first|refine hK _ _ ?_|apply And.intro|(intro hc;try subst hc)))<;>(try clear hK K))|(refine kT (fun hc=>?_) (fun hc=>?_)<;>simp at hc<;>(try subst hc)))
    all_goals first|(show Zb _ _=true;kernel_rfl)|(simp;done)|(simp at *;omega)|((try simp[h1,h2]);refine Imp.aut ?_ ?_<;>simp[NLe,h1,h2])
   ·skip
    repeat' with_reducible (first|refine ZR.h ?_|refine kI ?_|(refine kR hE ?_;intro K hK;simp[h1,h2,d69];(repeat' (first|refine hK _ _ ?_|apply And.intro|(intro hc;try subst hc)))<;>(try clear hK K))|(refine kT (fun hc=>?_) (fun hc=>?_)<;>simp at hc<;>(try subst hc)))
    all_goals first|(show Zb _ _=true;kernel_rfl)|(simp;done)|(simp at *;omega)|((try simp[h1,h2]);refine Imp.aut ?_ ?_<;>simp[NLe,h1,h2])
 ·cases h
def d76:List AV→Option Ans
 | [.op _ [.os _ 1 ws,.int .i64 s,.bot,.bot,.bot,.bot,.bot],.agg [.int .i64 _,.int .i64 _,.int .u64 _,.int .u64 _,.bool _]]=>if ws.all isW=true∧0≤s∧s≤1000000000 then some ⟨.tup [],[.cells 0 [.os 0 1 ws,.int .i64 (s+1),.bot,.bot,.bot,.bot,.bot]]⟩ else none
 | _=>none
theorem ok76:NOk [(7,true)] d76:=by
 intro xs a h;unfold d76 at h
 (repeat' (split at h))<;>first|(cases h;done)|(rename_i hc;have h1:=ZW hc.1;have h2:=ZV hc.1;injection h with h;subst h;refine ⟨Zp ?_,?_⟩<;>simp[h1,h2])
theorem s76:Sound Tryz.prog 76 (Zm [(7,true)] d76 ok76):=by
 refine Zi (ac:=?ac) (res:=?res) Tryz.func76 (by kernel_rfl) (ha:=?ha) (hk:=?hk) (hok:=ok76) (fun xs a h=>?_) fun xs a h w0 S hS=>?_
 case ha=>conv=>lhs;cbv
 case hk=>kernel_rfl
 ·unfold d76 at h
  (repeat' (split at h))<;>first|(cases h;done)|exact Nat.le_of_ble_eq_true rfl
 unfold d76 at h;split at h
 ·split at h
  ·rename_i t1 t2 ws s y1 y2 y3 y4 y5 hcond
   injection h with h;subst h;have hE:Zd Tryz.prog (EL []):=Ze (by simp);obtain ⟨hw,hs0,hs1⟩:=hcond;have hT:=ZW hw;have hC:=ZV hw;have w1:IntKind.wrap .i64 (s+1)=s+1:=Zg (by omega) (by omega)
   repeat' with_reducible (first|refine ZR.h ?_|refine kI ?_|(refine kR hE ?_;intro K hK;simp[w1,hT,hC];(repeat' (first|refine hK _ _ ?_|apply And.intro|(intro hc;try subst hc)))<;>(try clear hK K))|(refine kT (fun hc=>?_) (fun hc=>?_)<;>simp at hc<;>(try subst hc)))
   all_goals first|(show Zb _ _=true;kernel_rfl)|(simp;done)|(simp at *;omega)|((try simp[hT,hC]);refine Imp.aut ?_ ?_<;>simp[NLe,hT,hC])
  ·cases h
 ·cases h
end Go.W
