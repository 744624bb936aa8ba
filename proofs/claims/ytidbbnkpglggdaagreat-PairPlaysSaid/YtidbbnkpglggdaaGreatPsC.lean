/- A part of the proofs about the pair's laws (PsB, PsC). -/
import Derived.Test.YtidbbnkpglggdaaGreatPsA
namespace Go.W
open Go.Proofs
set_option linter.unusedSimpArgs false
set_option linter.unusedVariables false
set_option maxHeartbeats 8000000
attribute [local irreducible] Wm
attribute [local simp] Y5 lkp VW prs Uv prT ddL idL YN Um Ren Vt NObj.none Z4
theorem Yl {a b f g:Int} (h:0≤a*b) (h':a*b≤24) (hf:1≤f∧f≤4) (hg:1≤g∧g≤15):(0≤a*b*g∧a*b*g≤360)∧0≤a*b*g*(f+1)∧a*b*g*(f+1)≤1800:=by
 have h1:=Vf h h' (show 0≤g by omega) (show g≤15 by omega);have h2:=Vf h1.1 h1.2 (show 0≤f+1 by omega) (show f+1≤5 by omega);omega
def d73:List AV→List NObj→Option AV
 | [.agg [.int .i64 a,.int .i64 b,.int .i64 c,.int .i64 d,.int .i64 e,.int .i64 f,.int .i64 g]],[]=>if XX a b c d e f g=true then some (.int .i64 (a*b*2+a*b*g*(f+1))) else none
 | _,_=>none
theorem ok73:ROk d73:=by
 intro xs os r h;unfold d73 at h
 (repeat' (split at h))<;>first|(cases h;done)|(injection h with h;subst h;simp)
theorem s73:Sound Tryz.prog 73 (rdS d73 ok73):=by
 refine Zo C73.a C73.b C73.c C73.d ok73 fun xs os r h vs ρ0 hvs=>⟨xs,?_,fun _ h=>h,fun w0 S hS=>?_⟩
 ·unfold d73 at h
  (repeat' (split at h))<;>first|(cases h;done)|exact Nat.le_of_ble_eq_true rfl
 unfold d73 at h;split at h
 ·split at h
  ·rename_i a b c d e f g hcond
   injection h with h;subst h;have hE:Zb Tryz.prog (EL [(62,rdS d62 ok62)]):=Zd (by simp only[List.mem_cons,List.not_mem_nil,or_false,forall_eq_or_imp,forall_eq];exact s62);have hc:=ZH hcond;have hm:=ZJ hcond;have hw:=Yl (f:=f) (g:=g) (show 0≤a*b by omega) hm.2 (by omega) (by omega);have w1:IntKind.wrap .i64 (a*b*2)=a*b*2:=Zh (by omega) (by omega);have w2:IntKind.wrap .i64 (a*b*g)=a*b*g:=Zh (by omega) (by omega);have w3:IntKind.wrap .i64 (f+1)=f+1:=Zh (by omega) (by omega);have w4:IntKind.wrap .i64 (a*b*g*(f+1))=a*b*g*(f+1):=Zh (by omega) (by omega);have w5:IntKind.wrap .i64 (a*b*2+a*b*g*(f+1))=a*b*2+a*b*g*(f+1):=Zh (by omega) (by omega);unfold m73
   repeat' with_reducible (first|refine ZR.h ?_|refine zI ?_|((first|refine zK hE ?_|refine zM hE ?_);intro K hK;simp[hcond,w1,w2,w3,w4,w5,d62];(repeat' (first|refine hK _ _ ?_|apply And.intro|(intro hc;try subst hc)))<;>(try clear hK K))|(refine zJ (fun hc=>?_) (fun hc=>?_)<;>simp at hc<;>(try subst hc)))
   all_goals first|(simp;done)|(simp at *;omega)|((try simp);refine Imp.aut ?_ ?_<;>simp[NLe])
  ·cases h
 ·cases h
def ZT (a b f g x gen n:Int):Int:=if x<0 then -1 else if a*b≤x then -1 else if gen<1 then -1 else if g<gen then -1 else if n<0 then -1 else if f<n then -1 else a*b*2+(x*g+gen - 1)*(f+1)+n
def d101:List AV→List NObj→Option AV
 | [.agg [.int .i64 a,.int .i64 b,.int .i64 c,.int .i64 d,.int .i64 e,.int .i64 f,.int .i64 g],.int .i64 x,.int .i64 y,.int .i64 z],[]=>if XX a b c d e f g=true then some (.int .i64 (ZT a b f g x y z)) else none
 | _,_=>none
theorem ok101:ROk d101:=by
 intro xs os r h;unfold d101 at h
 (repeat' (split at h))<;>first|(cases h;done)|(injection h with h;subst h;simp)
theorem s101:Sound Tryz.prog 101 (rdS d101 ok101):=by
 refine Zo C101.a C101.b C101.c C101.d ok101 fun xs os r h vs ρ0 hvs=>⟨xs,?_,fun _ h=>h,fun w0 S hS=>?_⟩
 ·unfold d101 at h
  (repeat' (split at h))<;>first|(cases h;done)|exact Nat.le_of_ble_eq_true rfl
 unfold d101 at h;split at h
 ·split at h
  ·rename_i a b c d e f g x y z hcond
   injection h with h;subst h;have hE:Zb Tryz.prog (EL [(62,rdS d62 ok62)]):=Zd (by simp only[List.mem_cons,List.not_mem_nil,or_false,forall_eq_or_imp,forall_eq];exact s62);have hc:=ZH hcond;have hm:=ZJ hcond;by_cases h1:x<0
   ·unfold m101
    repeat' with_reducible (first|refine ZR.h ?_|refine zI ?_|((first|refine zK hE ?_|refine zM hE ?_);intro K hK;simp[h1,hcond,ZT,d62];(repeat' (first|refine hK _ _ ?_|apply And.intro|(intro hc;try subst hc)))<;>(try clear hK K))|(refine zJ (fun hc=>?_) (fun hc=>?_)<;>simp at hc<;>(try subst hc)))
    all_goals first|(simp;done)|(simp at *;omega)|((try simp[h1,hcond,ZT]);refine Imp.aut ?_ ?_<;>simp[NLe,h1,hcond,ZT])
   ·by_cases h2:a*b≤x
    ·unfold m101
     repeat' with_reducible (first|refine ZR.h ?_|refine zI ?_|((first|refine zK hE ?_|refine zM hE ?_);intro K hK;simp[h1,h2,hcond,ZT,d62];(repeat' (first|refine hK _ _ ?_|apply And.intro|(intro hc;try subst hc)))<;>(try clear hK K))|(refine zJ (fun hc=>?_) (fun hc=>?_)<;>simp at hc<;>(try subst hc)))
     all_goals first|(simp;done)|(simp at *;omega)|((try simp[h1,h2,hcond,ZT]);refine Imp.aut ?_ ?_<;>simp[NLe,h1,h2,hcond,ZT])
    ·by_cases h3:y<1
     ·unfold m101
      repeat' with_reducible (first|refine ZR.h ?_|refine zI ?_|((first|refine zK hE ?_|refine zM hE ?_);intro K hK;simp[h1,h2,h3,hcond,ZT,d62];(repeat' (first|refine hK _ _ ?_|apply And.intro|(intro hc;try subst hc)))<;>(try clear hK K))|(refine zJ (fun hc=>?_) (fun hc=>?_)<;>simp at hc<;>(try subst hc)))
      all_goals first|(simp;done)|(simp at *;omega)|((try simp[h1,h2,h3,hcond,ZT]);refine Imp.aut ?_ ?_<;>simp[NLe,h1,h2,h3,hcond,ZT])
     ·by_cases h4:g<y
      ·unfold m101
       repeat' with_reducible (first|refine ZR.h ?_|refine zI ?_|((first|refine zK hE ?_|refine zM hE ?_);intro K hK;simp[h1,h2,h3,h4,hcond,ZT,d62];(repeat' (first|refine hK _ _ ?_|apply And.intro|(intro hc;try subst hc)))<;>(try clear hK K))|(refine zJ (fun hc=>?_) (fun hc=>?_)<;>simp at hc<;>(try subst hc)))
       all_goals first|(simp;done)|(simp at *;omega)|((try simp[h1,h2,h3,h4,hcond,ZT]);refine Imp.aut ?_ ?_<;>simp[NLe,h1,h2,h3,h4,hcond,ZT])
      ·by_cases h5:z<0
       ·unfold m101
        repeat' with_reducible (first|refine ZR.h ?_|refine zI ?_|((first|refine zK hE ?_|refine zM hE ?_);intro K hK;simp[h1,h2,h3,h4,h5,hcond,ZT,d62];(repeat' (first|refine hK _ _ ?_|apply And.intro|(intro hc;try subst hc)))<;>(try clear hK K))|(refine zJ (fun hc=>?_) (fun hc=>?_)<;>simp at hc<;>(try subst hc)))
        all_goals first|(simp;done)|(simp at *;omega)|((try simp[h1,h2,h3,h4,h5,hcond,ZT]);refine Imp.aut ?_ ?_<;>simp[NLe,h1,h2,h3,h4,h5,hcond,ZT])
       ·by_cases h6:f<z
        ·unfold m101
         repeat' with_reducible (first|refine ZR.h ?_|refine zI ?_|((first|refine zK hE ?_|refine zM hE ?_);intro K hK;simp[h1,h2,h3,h4,h5,h6,hcond,ZT,d62];(repeat' (first|refine hK _ _ ?_|apply And.intro|(intro hc;try subst hc)))<;>(try clear hK K))|(refine zJ (fun hc=>?_) (fun hc=>?_)<;>simp at hc<;>(try subst hc)))
         all_goals first|(simp;done)|(simp at *;omega)|((try simp[h1,h2,h3,h4,h5,h6,hcond,ZT]);refine Imp.aut ?_ ?_<;>simp[NLe,h1,h2,h3,h4,h5,h6,hcond,ZT])
        ·have k1:=Vf (show 0≤x by omega) (show x≤23 by omega) (show 0≤g by omega) (show g≤15 by omega)
         have k2:=Vf (show 0≤x*g+y - 1 by omega) (show x*g+y - 1≤360 by omega) (show 0≤f+1 by omega) (show f+1≤5 by omega);have w1:IntKind.wrap .i64 (a*b*2)=a*b*2:=Zh (by omega) (by omega);have w2:IntKind.wrap .i64 (x*g)=x*g:=Zh (by omega) (by omega);have w3:IntKind.wrap .i64 (x*g+y)=x*g+y:=Zh (by omega) (by omega);have w4:IntKind.wrap .i64 (x*g+y - 1)=x*g+y - 1:=Zh (by omega) (by omega);have w5:IntKind.wrap .i64 (f+1)=f+1:=Zh (by omega) (by omega);have w6:IntKind.wrap .i64 ((x*g+y - 1)*(f+1))=(x*g+y - 1)*(f+1):=Zh (by omega) (by omega);have w7:IntKind.wrap .i64 (a*b*2+(x*g+y - 1)*(f+1))=a*b*2+(x*g+y - 1)*(f+1):=Zh (by omega) (by omega);have w8:IntKind.wrap .i64 (a*b*2+(x*g+y - 1)*(f+1)+z)=a*b*2+(x*g+y - 1)*(f+1)+z:=Zh (by omega) (by omega);unfold m101
         repeat' with_reducible (first|refine ZR.h ?_|refine zI ?_|((first|refine zK hE ?_|refine zM hE ?_);intro K hK;simp[h1,h2,h3,h4,h5,h6,hcond,ZT,w1,w2,w3,w4,w5,w6,w7,w8,d62];(repeat' (first|refine hK _ _ ?_|apply And.intro|(intro hc;try subst hc)))<;>(try clear hK K))|(refine zJ (fun hc=>?_) (fun hc=>?_)<;>simp at hc<;>(try subst hc)))
         all_goals first|(simp;done)|(simp at *;omega)|((try simp[h1,h2,h3,h4,h5,h6,hcond,ZT,w1,w2,w3,w4,w5,w6,w7,w8]);refine Imp.aut ?_ ?_<;>simp[NLe,h1,h2,h3,h4,h5,h6,hcond,ZT,w1,w2,w3,w4,w5,w6,w7,w8])
  ·cases h
 ·cases h
structure StZ where
 k:Int
 fl:Bool
 g:Int
 l:Int
 f:Int
 deriving DecidableEq,Inhabited
def stA (s:StZ):AV:=.agg [.int .i64 s.k,.bool s.fl,.int .i64 s.g,.int .i64 s.l,.int .i64 s.f]
def Zu:StZ:=⟨0,false,0,0,0⟩
def YR (s:StZ) (e:Int):AV:=.tup [stA s,if e=0 then .raw .nilIface else .iface 161 (.int .i64 e)]
def YY (s:StZ):StZ:=if s.k=1 then { s with k:=3 } else if s.k=2 then { s with k:=4 } else s
def ZV (s:StZ):StZ:=if s.k=3 then { s with k:=1 } else if s.k=4 then { s with k:=2 } else s
def ZU (s:StZ) (fills:Int):StZ:=if s.l=0 then { s with k:=5,fl:=false } else if fills≤s.f then { s with k:=8,fl:=false } else s
def d103:List AV→List NObj→Option AV
 | [.agg [.int .i64 k,.bool fl,.int .i64 sg,.int .i64 sl,.int .i64 sf]],[]=>some (stA (YY ⟨k,fl,sg,sl,sf⟩))
 | _,_=>none
theorem ok103:ROk d103:=by
 intro xs os r h;unfold d103 at h
 (repeat' (split at h))<;>first|(cases h;done)|(injection h with h;subst h;unfold stA;simp)
theorem s103:Sound Tryz.prog 103 (rdS d103 ok103):=by
 refine Zo C103.a C103.b C103.c C103.d ok103 fun xs os r h vs ρ0 hvs=>⟨xs,?_,fun _ h=>h,fun w0 S hS=>?_⟩
 ·unfold d103 at h
  (repeat' (split at h))<;>first|(cases h;done)|exact Nat.le_of_ble_eq_true rfl
 unfold d103 at h;split at h
 ·rename_i k fl sg sl sf
  injection h with h;subst h;have hE:Zb Tryz.prog (EL []):=Zd (by simp);by_cases h1:k=1
  ·unfold m103
   repeat' with_reducible (first|refine ZR.h ?_|refine zI ?_|(refine zK hE ?_;intro K hK;simp[h1,YY,stA];(repeat' (first|refine hK _ _ ?_|apply And.intro|(intro hc;try subst hc)))<;>(try clear hK K))|(refine zJ (fun hc=>?_) (fun hc=>?_)<;>simp at hc<;>(try subst hc)))
   all_goals first|(simp;done)|(simp at *;omega)|((try simp[h1,YY,stA]);refine Imp.aut ?_ ?_<;>simp[NLe,h1,YY,stA])
  ·by_cases h2:k=2
   ·unfold m103
    repeat' with_reducible (first|refine ZR.h ?_|refine zI ?_|(refine zK hE ?_;intro K hK;simp[h1,h2,YY,stA];(repeat' (first|refine hK _ _ ?_|apply And.intro|(intro hc;try subst hc)))<;>(try clear hK K))|(refine zJ (fun hc=>?_) (fun hc=>?_)<;>simp at hc<;>(try subst hc)))
    all_goals first|(simp;done)|(simp at *;omega)|((try simp[h1,h2,YY,stA]);refine Imp.aut ?_ ?_<;>simp[NLe,h1,h2,YY,stA])
   ·unfold m103
    repeat' with_reducible (first|refine ZR.h ?_|refine zI ?_|(refine zK hE ?_;intro K hK;simp[h1,h2,YY,stA];(repeat' (first|refine hK _ _ ?_|apply And.intro|(intro hc;try subst hc)))<;>(try clear hK K))|(refine zJ (fun hc=>?_) (fun hc=>?_)<;>simp at hc<;>(try subst hc)))
    all_goals first|(simp;done)|(simp at *;omega)|((try simp[h1,h2,YY,stA]);refine Imp.aut ?_ ?_<;>simp[NLe,h1,h2,YY,stA])
 ·cases h
def d121:List AV→List NObj→Option AV
 | [.agg [.int .i64 k,.bool fl,.int .i64 sg,.int .i64 sl,.int .i64 sf]],[]=>some (stA (ZV ⟨k,fl,sg,sl,sf⟩))
 | _,_=>none
theorem ok121:ROk d121:=by
 intro xs os r h;unfold d121 at h
 (repeat' (split at h))<;>first|(cases h;done)|(injection h with h;subst h;unfold stA;simp)
theorem s121:Sound Tryz.prog 121 (rdS d121 ok121):=by
 refine Zo C121.a C121.b C121.c C121.d ok121 fun xs os r h vs ρ0 hvs=>⟨xs,?_,fun _ h=>h,fun w0 S hS=>?_⟩
 ·unfold d121 at h
  (repeat' (split at h))<;>first|(cases h;done)|exact Nat.le_of_ble_eq_true rfl
 unfold d121 at h;split at h
 ·rename_i k fl sg sl sf
  injection h with h;subst h;have hE:Zb Tryz.prog (EL []):=Zd (by simp);by_cases h1:k=3
  ·unfold m121
   repeat' with_reducible (first|refine ZR.h ?_|refine zI ?_|(refine zK hE ?_;intro K hK;simp[h1,ZV,stA];(repeat' (first|refine hK _ _ ?_|apply And.intro|(intro hc;try subst hc)))<;>(try clear hK K))|(refine zJ (fun hc=>?_) (fun hc=>?_)<;>simp at hc<;>(try subst hc)))
   all_goals first|(simp;done)|(simp at *;omega)|((try simp[h1,ZV,stA]);refine Imp.aut ?_ ?_<;>simp[NLe,h1,ZV,stA])
  ·by_cases h2:k=4
   ·unfold m121
    repeat' with_reducible (first|refine ZR.h ?_|refine zI ?_|(refine zK hE ?_;intro K hK;simp[h1,h2,ZV,stA];(repeat' (first|refine hK _ _ ?_|apply And.intro|(intro hc;try subst hc)))<;>(try clear hK K))|(refine zJ (fun hc=>?_) (fun hc=>?_)<;>simp at hc<;>(try subst hc)))
    all_goals first|(simp;done)|(simp at *;omega)|((try simp[h1,h2,ZV,stA]);refine Imp.aut ?_ ?_<;>simp[NLe,h1,h2,ZV,stA])
   ·unfold m121
    repeat' with_reducible (first|refine ZR.h ?_|refine zI ?_|(refine zK hE ?_;intro K hK;simp[h1,h2,ZV,stA];(repeat' (first|refine hK _ _ ?_|apply And.intro|(intro hc;try subst hc)))<;>(try clear hK K))|(refine zJ (fun hc=>?_) (fun hc=>?_)<;>simp at hc<;>(try subst hc)))
    all_goals first|(simp;done)|(simp at *;omega)|((try simp[h1,h2,ZV,stA]);refine Imp.aut ?_ ?_<;>simp[NLe,h1,h2,ZV,stA])
 ·cases h
def d119:List AV→List NObj→Option AV
 | [.agg [.int .i64 k,.bool fl,.int .i64 sg,.int .i64 sl,.int .i64 sf],.int .i64 F],[]=>some (stA (ZU ⟨k,fl,sg,sl,sf⟩ F))
 | _,_=>none
theorem ok119:ROk d119:=by
 intro xs os r h;unfold d119 at h
 (repeat' (split at h))<;>first|(cases h;done)|(injection h with h;subst h;unfold stA;simp)
theorem s119:Sound Tryz.prog 119 (rdS d119 ok119):=by
 refine Zo C119.a C119.b C119.c C119.d ok119 fun xs os r h vs ρ0 hvs=>⟨xs,?_,fun _ h=>h,fun w0 S hS=>?_⟩
 ·unfold d119 at h
  (repeat' (split at h))<;>first|(cases h;done)|exact Nat.le_of_ble_eq_true rfl
 unfold d119 at h;split at h
 ·rename_i k fl sg sl sf F
  injection h with h;subst h;have hE:Zb Tryz.prog (EL []):=Zd (by simp);by_cases h1:sl=0
  ·unfold m119
   repeat' with_reducible (first|refine ZR.h ?_|refine zI ?_|(refine zK hE ?_;intro K hK;simp[h1,ZU,stA];(repeat' (first|refine hK _ _ ?_|apply And.intro|(intro hc;try subst hc)))<;>(try clear hK K))|(refine zJ (fun hc=>?_) (fun hc=>?_)<;>simp at hc<;>(try subst hc)))
   all_goals first|(simp;done)|(simp at *;omega)|((try simp[h1,ZU,stA]);refine Imp.aut ?_ ?_<;>simp[NLe,h1,ZU,stA])
  ·by_cases h2:F≤sf
   ·unfold m119
    repeat' with_reducible (first|refine ZR.h ?_|refine zI ?_|(refine zK hE ?_;intro K hK;simp[h1,h2,ZU,stA];(repeat' (first|refine hK _ _ ?_|apply And.intro|(intro hc;try subst hc)))<;>(try clear hK K))|(refine zJ (fun hc=>?_) (fun hc=>?_)<;>simp at hc<;>(try subst hc)))
    all_goals first|(simp;done)|(simp at *;omega)|((try simp[h1,h2,ZU,stA]);refine Imp.aut ?_ ?_<;>simp[NLe,h1,h2,ZU,stA])
   ·unfold m119
    repeat' with_reducible (first|refine ZR.h ?_|refine zI ?_|(refine zK hE ?_;intro K hK;simp[h1,h2,ZU,stA];(repeat' (first|refine hK _ _ ?_|apply And.intro|(intro hc;try subst hc)))<;>(try clear hK K))|(refine zJ (fun hc=>?_) (fun hc=>?_)<;>simp at hc<;>(try subst hc)))
    all_goals first|(simp;done)|(simp at *;omega)|((try simp[h1,h2,ZU,stA]);refine Imp.aut ?_ ?_<;>simp[NLe,h1,h2,ZU,stA])
 ·cases h
def Zw (s:StZ) (q F:Int):StZ×Int:=if Zt s.k=false then (Zu,27) else if q<1 then (Zu,23) else if s.l<q then (Zu,23) else if F≤s.f then (Zu,4) else (ZU { s with l:=s.l - q,f:=s.f+1 } F,0)
def Yo (s:StZ) (F:Int):StZ:=if (ZU (ZV s) F).fl=true then { ZU (ZV s) F with k:=6,fl:=false } else ZU (ZV s) F
def Zf (s:StZ) (q F:Int):StZ×Int:=if ZA s.k=false then (Zu,1) else if q<0 then (Zu,23) else if s.l<q then (Zu,23) else if 0<q then (if F≤s.f then (Zu,4) else (Yo { s with l:=s.l - q,f:=s.f+1 } F,0)) else (Yo s F,0)
def Zn (s:StZ):StZ×Int:=if s.k=1 then ({ s with k:=6 },0) else if s.k=2 then ({ s with k:=6 },0) else if s.k=3 then ({ s with fl:=true },0) else if s.k=4 then ({ s with fl:=true },0) else (Zu,29)
def d106:List AV→List NObj→Option AV
 | [.agg [.int .i64 k,.bool fl,.int .i64 sg,.int .i64 sl,.int .i64 sf],.int .i64 q,.int .i64 F],[]=>if 0≤sl∧sl≤1000000∧0≤sf∧sf≤1000000 then some (YR (Zw ⟨k,fl,sg,sl,sf⟩ q F).1 (Zw ⟨k,fl,sg,sl,sf⟩ q F).2) else none
 | _,_=>none
theorem ok106:ROk d106:=by
 intro xs os r h;unfold d106 at h
 (repeat' (split at h))<;>first|(cases h;done)|(injection h with h;subst h;unfold YR stA;split<;>simp)
theorem s106:Sound Tryz.prog 106 (rdS d106 ok106):=by
 refine Zo C106.a C106.b C106.c C106.d ok106 fun xs os r h vs ρ0 hvs=>⟨xs,?_,fun _ h=>h,fun w0 S hS=>?_⟩
 ·unfold d106 at h
  (repeat' (split at h))<;>first|(cases h;done)|exact Nat.le_of_ble_eq_true rfl
 unfold d106 at h;split at h
 ·split at h
  ·rename_i k fl sg sl sf q F hcond
   injection h with h;subst h;have hE:Zb Tryz.prog (EL [(115,rdS d115 ok115),(119,rdS d119 ok119)]):=Zd (by simp only[List.mem_cons,List.not_mem_nil,or_false,forall_eq_or_imp,forall_eq];exact ⟨s115,s119⟩);by_cases h1:Zt k=false
   ·unfold m106
    repeat' with_reducible (first|refine ZR.h ?_|refine zI ?_|(refine zK hE ?_;intro K hK;simp[h1,Zw,YR,stA,Zu,d115,d119];(repeat' (first|refine hK _ _ ?_|apply And.intro|(intro hc;try subst hc)))<;>(try clear hK K))|(refine zJ (fun hc=>?_) (fun hc=>?_)<;>simp at hc<;>(try subst hc)))
    all_goals first|(simp;done)|(simp at *;omega)|((try simp[h1,Zw,YR,stA,Zu]);refine Imp.aut ?_ ?_<;>simp[NLe,h1,Zw,YR,stA,Zu])
   ·by_cases h2:q<1
    ·unfold m106
     repeat' with_reducible (first|refine ZR.h ?_|refine zI ?_|(refine zK hE ?_;intro K hK;simp[h1,h2,Zw,YR,stA,Zu,d115,d119];(repeat' (first|refine hK _ _ ?_|apply And.intro|(intro hc;try subst hc)))<;>(try clear hK K))|(refine zJ (fun hc=>?_) (fun hc=>?_)<;>simp at hc<;>(try subst hc)))
     all_goals first|(simp;done)|(simp at *;omega)|((try simp[h1,h2,Zw,YR,stA,Zu]);refine Imp.aut ?_ ?_<;>simp[NLe,h1,h2,Zw,YR,stA,Zu])
    ·by_cases h3:sl<q
     ·unfold m106
      repeat' with_reducible (first|refine ZR.h ?_|refine zI ?_|(refine zK hE ?_;intro K hK;simp[h1,h2,h3,Zw,YR,stA,Zu,d115,d119];(repeat' (first|refine hK _ _ ?_|apply And.intro|(intro hc;try subst hc)))<;>(try clear hK K))|(refine zJ (fun hc=>?_) (fun hc=>?_)<;>simp at hc<;>(try subst hc)))
      all_goals first|(simp;done)|(simp at *;omega)|((try simp[h1,h2,h3,Zw,YR,stA,Zu]);refine Imp.aut ?_ ?_<;>simp[NLe,h1,h2,h3,Zw,YR,stA,Zu])
     ·by_cases h4:F≤sf
      ·unfold m106
       repeat' with_reducible (first|refine ZR.h ?_|refine zI ?_|(refine zK hE ?_;intro K hK;simp[h1,h2,h3,h4,Zw,YR,stA,Zu,d115,d119];(repeat' (first|refine hK _ _ ?_|apply And.intro|(intro hc;try subst hc)))<;>(try clear hK K))|(refine zJ (fun hc=>?_) (fun hc=>?_)<;>simp at hc<;>(try subst hc)))
       all_goals first|(simp;done)|(simp at *;omega)|((try simp[h1,h2,h3,h4,Zw,YR,stA,Zu]);refine Imp.aut ?_ ?_<;>simp[NLe,h1,h2,h3,h4,Zw,YR,stA,Zu])
      ·have h1':Zt k=true:=by simpa using h1
       have w1:IntKind.wrap .i64 (sl - q)=sl - q:=Zh (by omega) (by omega);have w2:IntKind.wrap .i64 (sf+1)=sf+1:=Zh (by omega) (by omega);unfold m106
       repeat' with_reducible (first|refine ZR.h ?_|refine zI ?_|(refine zK hE ?_;intro K hK;simp[h1,h2,h3,h4,Zw,YR,stA,Zu,h1',w1,w2,d115,d119];(repeat' (first|refine hK _ _ ?_|apply And.intro|(intro hc;try subst hc)))<;>(try clear hK K))|(refine zJ (fun hc=>?_) (fun hc=>?_)<;>simp at hc<;>(try subst hc)))
       all_goals first|(simp;done)|(simp at *;omega)|((try simp[h1,h2,h3,h4,Zw,YR,stA,Zu,h1',w1,w2]);refine Imp.aut ?_ ?_<;>simp[NLe,h1,h2,h3,h4,Zw,YR,stA,Zu,h1',w1,w2])
  ·cases h
 ·cases h
def d107:List AV→List NObj→Option AV
 | [.agg [.int .i64 k,.bool fl,.int .i64 sg,.int .i64 sl,.int .i64 sf],.int .i64 q,.int .i64 F],[]=>if 0≤sl∧sl≤1000000∧0≤sf∧sf≤1000000 then some (YR (Zf ⟨k,fl,sg,sl,sf⟩ q F).1 (Zf ⟨k,fl,sg,sl,sf⟩ q F).2) else none
 | _,_=>none
theorem ok107:ROk d107:=by
 intro xs os r h;unfold d107 at h
 (repeat' (split at h))<;>first|(cases h;done)|(injection h with h;subst h;unfold YR stA;split<;>simp)
theorem s107:Sound Tryz.prog 107 (rdS d107 ok107):=by
 refine Zo C107.a C107.b C107.c C107.d ok107 fun xs os r h vs ρ0 hvs=>⟨xs,?_,fun _ h=>h,fun w0 S hS=>?_⟩
 ·unfold d107 at h
  (repeat' (split at h))<;>first|(cases h;done)|exact Nat.le_of_ble_eq_true rfl
 unfold d107 at h;split at h
 ·split at h
  ·rename_i k fl sg sl sf q F hcond
   injection h with h;subst h;have hE:Zb Tryz.prog (EL [(120,rdS d120 ok120),(121,rdS d121 ok121),(119,rdS d119 ok119)]):=Zd (by simp only[List.mem_cons,List.not_mem_nil,or_false,forall_eq_or_imp,forall_eq];exact ⟨s120,s121,s119⟩);by_cases h1:ZA k=false
   ·unfold m107
    repeat' with_reducible (first|refine ZR.h ?_|refine zI ?_|(refine zK hE ?_;intro K hK;simp[h1,Zf,Yo,YR,stA,Zu,d120,d121,d119];(repeat' (first|refine hK _ _ ?_|apply And.intro|(intro hc;try subst hc)))<;>(try clear hK K))|(refine zJ (fun hc=>?_) (fun hc=>?_)<;>simp at hc<;>(try subst hc)))
    all_goals first|(simp;done)|(simp at *;omega)|((try simp[h1,Zf,Yo,YR,stA,Zu]);refine Imp.aut ?_ ?_<;>simp[NLe,h1,Zf,Yo,YR,stA,Zu])
   ·have h1':ZA k=true:=by simpa using h1
    by_cases h2:q<0
    ·unfold m107
     repeat' with_reducible (first|refine ZR.h ?_|refine zI ?_|(refine zK hE ?_;intro K hK;simp[h1',h2,Zf,Yo,YR,stA,Zu,d120,d121,d119];(repeat' (first|refine hK _ _ ?_|apply And.intro|(intro hc;try subst hc)))<;>(try clear hK K))|(refine zJ (fun hc=>?_) (fun hc=>?_)<;>simp at hc<;>(try subst hc)))
     all_goals first|(simp;done)|(simp at *;omega)|((try simp[h1,h1',h2,Zf,Yo,YR,stA,Zu]);refine Imp.aut ?_ ?_<;>simp[NLe,h1,h1',h2,Zf,Yo,YR,stA,Zu])
    ·by_cases h3:sl<q
     ·unfold m107
      repeat' with_reducible (first|refine ZR.h ?_|refine zI ?_|(refine zK hE ?_;intro K hK;simp[h1',h2,h3,Zf,Yo,YR,stA,Zu,d120,d121,d119];(repeat' (first|refine hK _ _ ?_|apply And.intro|(intro hc;try subst hc)))<;>(try clear hK K))|(refine zJ (fun hc=>?_) (fun hc=>?_)<;>simp at hc<;>(try subst hc)))
      all_goals first|(simp;done)|(simp at *;omega)|((try simp[h1,h1',h2,h3,Zf,Yo,YR,stA,Zu]);refine Imp.aut ?_ ?_<;>simp[NLe,h1,h1',h2,h3,Zf,Yo,YR,stA,Zu])
     ·by_cases h4:0<q
      ·by_cases h5:F≤sf
       ·unfold m107
        repeat' with_reducible (first|refine ZR.h ?_|refine zI ?_|(refine zK hE ?_;intro K hK;simp[h1',h2,h3,h4,h5,Zf,Yo,YR,stA,Zu,d120,d121,d119];(repeat' (first|refine hK _ _ ?_|apply And.intro|(intro hc;try subst hc)))<;>(try clear hK K))|(refine zJ (fun hc=>?_) (fun hc=>?_)<;>simp at hc<;>(try subst hc)))
        all_goals first|(simp;done)|(simp at *;omega)|((try simp[h1,h1',h2,h3,h4,h5,Zf,Yo,YR,stA,Zu]);refine Imp.aut ?_ ?_<;>simp[NLe,h1,h1',h2,h3,h4,h5,Zf,Yo,YR,stA,Zu])
       ·have w1:IntKind.wrap .i64 (sl - q)=sl - q:=Zh (by omega) (by omega)
        have w2:IntKind.wrap .i64 (sf+1)=sf+1:=Zh (by omega) (by omega);obtain ⟨s1,hs1⟩:∃ s1,ZV ⟨k,fl,sg,sl - q,sf+1⟩=s1:=⟨_,rfl⟩;obtain ⟨s2,hs2⟩:∃ s2,ZU s1 F=s2:=⟨_,rfl⟩;obtain ⟨k2,fl2,g2,l2,f2⟩:=s2;have e1:ZU ⟨s1.k,s1.fl,s1.g,s1.l,s1.f⟩ F=⟨k2,fl2,g2,l2,f2⟩:=hs2;by_cases h9:fl2=true
        ·subst h9
         unfold m107
         repeat' with_reducible (first|refine ZR.h ?_|refine zI ?_|(refine zK hE ?_;intro K hK;simp[hs1,hs2,e1,h1',h2,h3,h4,h5,w1,w2,Zf,Yo,YR,stA,Zu,d120,d121,d119];(repeat' (first|refine hK _ _ ?_|apply And.intro|(intro hc;try subst hc)))<;>(try clear hK K))|(refine zJ (fun hc=>?_) (fun hc=>?_)<;>simp at hc<;>(try subst hc)))
         all_goals first|(simp;done)|(simp at *;omega)|((try simp[hs1,hs2,e1,h1',h2,h3,h4,h5,w1,w2,Zf,Yo,YR,stA,Zu]);refine Imp.aut ?_ ?_<;>simp[NLe,hs1,hs2,e1,h1',h2,h3,h4,h5,w1,w2,Zf,Yo,YR,stA,Zu])
        ·have h9':fl2=false:=by simpa using h9
         subst h9';unfold m107
         repeat' with_reducible (first|refine ZR.h ?_|refine zI ?_|(refine zK hE ?_;intro K hK;simp[hs1,hs2,e1,h1',h2,h3,h4,h5,w1,w2,Zf,Yo,YR,stA,Zu,d120,d121,d119];(repeat' (first|refine hK _ _ ?_|apply And.intro|(intro hc;try subst hc)))<;>(try clear hK K))|(refine zJ (fun hc=>?_) (fun hc=>?_)<;>simp at hc<;>(try subst hc)))
         all_goals first|(simp;done)|(simp at *;omega)|((try simp[hs1,hs2,e1,h1',h2,h3,h4,h5,w1,w2,Zf,Yo,YR,stA,Zu]);refine Imp.aut ?_ ?_<;>simp[NLe,hs1,hs2,e1,h1',h2,h3,h4,h5,w1,w2,Zf,Yo,YR,stA,Zu])
      ·skip
       obtain ⟨s1,hs1⟩:∃ s1,ZV ⟨k,fl,sg,sl,sf⟩=s1:=⟨_,rfl⟩;obtain ⟨s2,hs2⟩:∃ s2,ZU s1 F=s2:=⟨_,rfl⟩;obtain ⟨k2,fl2,g2,l2,f2⟩:=s2;have e1:ZU ⟨s1.k,s1.fl,s1.g,s1.l,s1.f⟩ F=⟨k2,fl2,g2,l2,f2⟩:=hs2;by_cases h9:fl2=true
       ·subst h9
        unfold m107
        repeat' with_reducible (first|refine ZR.h ?_|refine zI ?_|(refine zK hE ?_;intro K hK;simp[hs1,hs2,e1,h1',h2,h3,h4,Zf,Yo,YR,stA,Zu,d120,d121,d119];(repeat' (first|refine hK _ _ ?_|apply And.intro|(intro hc;try subst hc)))<;>(try clear hK K))|(refine zJ (fun hc=>?_) (fun hc=>?_)<;>simp at hc<;>(try subst hc)))
        all_goals first|(simp;done)|(simp at *;omega)|((try simp[hs1,hs2,e1,h1',h2,h3,h4,Zf,Yo,YR,stA,Zu]);refine Imp.aut ?_ ?_<;>simp[NLe,hs1,hs2,e1,h1',h2,h3,h4,Zf,Yo,YR,stA,Zu])
       ·have h9':fl2=false:=by simpa using h9
        subst h9';unfold m107
        repeat' with_reducible (first|refine ZR.h ?_|refine zI ?_|(refine zK hE ?_;intro K hK;simp[hs1,hs2,e1,h1',h2,h3,h4,Zf,Yo,YR,stA,Zu,d120,d121,d119];(repeat' (first|refine hK _ _ ?_|apply And.intro|(intro hc;try subst hc)))<;>(try clear hK K))|(refine zJ (fun hc=>?_) (fun hc=>?_)<;>simp at hc<;>(try subst hc)))
        all_goals first|(simp;done)|(simp at *;omega)|((try simp[hs1,hs2,e1,h1',h2,h3,h4,Zf,Yo,YR,stA,Zu]);refine Imp.aut ?_ ?_<;>simp[NLe,hs1,hs2,e1,h1',h2,h3,h4,Zf,Yo,YR,stA,Zu])
  ·cases h
 ·cases h
def d52:List AV→List NObj→Option AV
 | [.agg [.int .i64 k,.bool fl,.int .i64 sg,.int .i64 sl,.int .i64 sf]],[]=>some (YR (Zn ⟨k,fl,sg,sl,sf⟩).1 (Zn ⟨k,fl,sg,sl,sf⟩).2)
 | _,_=>none
theorem ok52:ROk d52:=by
 intro xs os r h;unfold d52 at h
 (repeat' (split at h))<;>first|(cases h;done)|(injection h with h;subst h;unfold YR stA;split<;>simp)
theorem s52:Sound Tryz.prog 52 (rdS d52 ok52):=by
 refine Zo C52.a C52.b C52.c C52.d ok52 fun xs os r h vs ρ0 hvs=>⟨xs,?_,fun _ h=>h,fun w0 S hS=>?_⟩
 ·unfold d52 at h
  (repeat' (split at h))<;>first|(cases h;done)|exact Nat.le_of_ble_eq_true rfl
 unfold d52 at h;split at h
 ·rename_i k fl sg sl sf
  injection h with h;subst h;have hE:Zb Tryz.prog (EL []):=Zd (by simp);by_cases h1:k=1
  ·unfold m52
   repeat' with_reducible (first|refine ZR.h ?_|refine zI ?_|(refine zK hE ?_;intro K hK;simp[h1,Zn,YR,stA,Zu];(repeat' (first|refine hK _ _ ?_|apply And.intro|(intro hc;try subst hc)))<;>(try clear hK K))|(refine zJ (fun hc=>?_) (fun hc=>?_)<;>simp at hc<;>(try subst hc)))
   all_goals first|(simp;done)|(simp at *;omega)|((try simp[h1,Zn,YR,stA,Zu]);refine Imp.aut ?_ ?_<;>simp[NLe,h1,Zn,YR,stA,Zu])
  ·by_cases h2:k=2
   ·unfold m52
    repeat' with_reducible (first|refine ZR.h ?_|refine zI ?_|(refine zK hE ?_;intro K hK;simp[h1,h2,Zn,YR,stA,Zu];(repeat' (first|refine hK _ _ ?_|apply And.intro|(intro hc;try subst hc)))<;>(try clear hK K))|(refine zJ (fun hc=>?_) (fun hc=>?_)<;>simp at hc<;>(try subst hc)))
    all_goals first|(simp;done)|(simp at *;omega)|((try simp[h1,h2,Zn,YR,stA,Zu]);refine Imp.aut ?_ ?_<;>simp[NLe,h1,h2,Zn,YR,stA,Zu])
   ·by_cases h3:k=3
    ·unfold m52
     repeat' with_reducible (first|refine ZR.h ?_|refine zI ?_|(refine zK hE ?_;intro K hK;simp[h1,h2,h3,Zn,YR,stA,Zu];(repeat' (first|refine hK _ _ ?_|apply And.intro|(intro hc;try subst hc)))<;>(try clear hK K))|(refine zJ (fun hc=>?_) (fun hc=>?_)<;>simp at hc<;>(try subst hc)))
     all_goals first|(simp;done)|(simp at *;omega)|((try simp[h1,h2,h3,Zn,YR,stA,Zu]);refine Imp.aut ?_ ?_<;>simp[NLe,h1,h2,h3,Zn,YR,stA,Zu])
    ·by_cases h4:k=4
     ·unfold m52
      repeat' with_reducible (first|refine ZR.h ?_|refine zI ?_|(refine zK hE ?_;intro K hK;simp[h1,h2,h3,h4,Zn,YR,stA,Zu];(repeat' (first|refine hK _ _ ?_|apply And.intro|(intro hc;try subst hc)))<;>(try clear hK K))|(refine zJ (fun hc=>?_) (fun hc=>?_)<;>simp at hc<;>(try subst hc)))
      all_goals first|(simp;done)|(simp at *;omega)|((try simp[h1,h2,h3,h4,Zn,YR,stA,Zu]);refine Imp.aut ?_ ?_<;>simp[NLe,h1,h2,h3,h4,Zn,YR,stA,Zu])
     ·unfold m52
      repeat' with_reducible (first|refine ZR.h ?_|refine zI ?_|(refine zK hE ?_;intro K hK;simp[h1,h2,h3,h4,Zn,YR,stA,Zu];(repeat' (first|refine hK _ _ ?_|apply And.intro|(intro hc;try subst hc)))<;>(try clear hK K))|(refine zJ (fun hc=>?_) (fun hc=>?_)<;>simp at hc<;>(try subst hc)))
      all_goals first|(simp;done)|(simp at *;omega)|((try simp[h1,h2,h3,h4,Zn,YR,stA,Zu]);refine Imp.aut ?_ ?_<;>simp[NLe,h1,h2,h3,h4,Zn,YR,stA,Zu])
 ·cases h
def isW:List AV→Bool
 | [.int .u64 x]=>decide (0≤x)&&decide (x<18446744073709551616)
 | _=>false
def wAt (ws:List (List AV)) (i:Nat):Int:=match ws[i]? with
 | some [.int .u64 x]=>x
 | _=>0
theorem ZaT {c:List AV} (h:isW c=true):∃ x:Int,c=[.int .u64 x]∧0≤x∧x<18446744073709551616:=by
 unfold isW at h;split at h
 ·simp only[Bool.and_eq_true,decide_eq_true_eq]at h;exact ⟨_,rfl,h⟩
 ·cases h
theorem ZZ:∀ {els:List (List AV)},els.all isW=true→ZG els=els
 | [],_=>rfl
 | c :: r,h=>by
  simp only[List.all_cons,Bool.and_eq_true]at h;obtain ⟨x,rfl,_⟩:=ZaT h.1;simp[ZG,t0L,AV.t0,ZZ h.2]
theorem Z0:∀ {els:List (List AV)},els.all isW=true→Yp els=true
 | [],_=>rfl
 | c :: r,h=>by
  simp only[List.all_cons,Bool.and_eq_true]at h;obtain ⟨x,rfl,_⟩:=ZaT h.1;simp[Yp,clL,AV.cl,Z0 h.2]
theorem ZfU {els:List (List AV)} (h:els.all isW=true) {i:Nat} (hi:i<els.length):els[i]?=some [.int .u64 (wAt els i)]∧0≤wAt els i∧wAt els i<18446744073709551616:=by
 obtain ⟨x,hx,h1⟩:=ZaT (List.all_eq_true.1 h _ (List.getElem_mem hi));have e:els[i]?=some [.int .u64 x]:=by rw[List.getElem?_eq_getElem hi,hx]
 have e2:wAt els i=x:=by unfold wAt;rw[e]
 rw[e2];exact ⟨e,h1⟩
theorem Tl {els:List (List AV)} (h:els.all isW=true) {x:Int} (h1:0≤x) (h2:x<18446744073709551616) (i:Nat):(els.set i [.int .u64 x]).all isW=true :=
 List.all_eq_true.2 fun c hc=>by
  rcases List.mem_or_eq_of_mem_set hc with h3|h3
  ·exact List.all_eq_true.1 h c h3
  ·rw[h3];simp[isW,h1,h2]
def d69:List AV→List NObj→Option AV
 | [.int .i64 _,.iface _ _],[]=>some (.iface 187 .bot)
 | _,_=>none
theorem ok69:ROk d69:=by
 intro xs os r h;unfold d69 at h
 (repeat' (split at h))<;>first|(cases h;done)|(injection h with h;subst h;simp)
theorem s69:Sound Tryz.prog 69 (rdS d69 ok69):=by
 refine Zo C69.a C69.b C69.c C69.d ok69 fun xs os r h vs ρ0 hvs=>⟨xs,?_,fun _ h=>h,fun w0 S hS=>?_⟩
 ·unfold d69 at h
  (repeat' (split at h))<;>first|(cases h;done)|exact Nat.le_of_ble_eq_true rfl
 unfold d69 at h;split at h
 ·skip
  injection h with h;subst h;have hE:Zb Tryz.prog (EL []):=Zd (by simp);unfold m69
  repeat' with_reducible (first|refine ZR.h ?_|refine zI ?_|(refine zK hE ?_;intro K hK;simp;(repeat' (first|refine hK _ _ ?_|apply And.intro|(intro hc;try subst hc)))<;>(try clear hK K))|(refine zJ (fun hc=>?_) (fun hc=>?_)<;>simp at hc<;>(try subst hc)))
  all_goals first|(simp;done)|(simp at *;omega)|((try simp);refine Imp.aut ?_ ?_<;>simp[NLe])
 ·cases h
def d75:List AV→Option Ans
 | [.op _ [.os _ 1 ws,.int .i64 s,.bot,.bot,.bot,.bot,.bot],.int .i64 i]=>some ⟨if i<0 then .iface 187 .bot else if (ws.length:Int)≤i then .iface 187 .bot else .raw .nilIface,[.free]⟩
 | _=>none
theorem ok75:NOk [(7,false)] d75:=by
 intro xs a h;unfold d75 at h;split at h
 ·injection h with h;subst h
  refine ⟨Zq ?_,?_⟩<;>(repeat' split)<;>simp
 ·cases h
theorem s75:Sound Tryz.prog 75 (Zi [(7,false)] d75 ok75):=by
 refine Zj C75.a C75.b C75.c C75.d ok75 (fun xs a h=>?_) fun xs a h w0 S hS=>?_
 ·unfold d75 at h
  (repeat' (split at h))<;>first|(cases h;done)|exact Nat.le_of_ble_eq_true rfl
 unfold d75 at h;split at h
 ·rename_i t1 t2 ws s i
  injection h with h;subst h;have hE:Zb Tryz.prog (EL [(69,rdS d69 ok69)]):=Zd (by simp only[List.mem_cons,List.not_mem_nil,or_false,forall_eq_or_imp,forall_eq];exact s69);by_cases h1:i<0
  ·unfold m75
   repeat' with_reducible (first|refine ZR.h ?_|refine zI ?_|(refine zK hE ?_;intro K hK;simp[h1,d69];(repeat' (first|refine hK _ _ ?_|apply And.intro|(intro hc;try subst hc)))<;>(try clear hK K))|(refine zJ (fun hc=>?_) (fun hc=>?_)<;>simp at hc<;>(try subst hc)))
   all_goals first|(simp;done)|(simp at *;omega)|((try simp[h1]);refine Imp.aut ?_ ?_<;>simp[NLe,h1])
  ·by_cases h2:(ws.length:Int)≤i
   ·unfold m75
    repeat' with_reducible (first|refine ZR.h ?_|refine zI ?_|(refine zK hE ?_;intro K hK;simp[h1,h2,d69];(repeat' (first|refine hK _ _ ?_|apply And.intro|(intro hc;try subst hc)))<;>(try clear hK K))|(refine zJ (fun hc=>?_) (fun hc=>?_)<;>simp at hc<;>(try subst hc)))
    all_goals first|(simp;done)|(simp at *;omega)|((try simp[h1,h2]);refine Imp.aut ?_ ?_<;>simp[NLe,h1,h2])
   ·unfold m75
    repeat' with_reducible (first|refine ZR.h ?_|refine zI ?_|(refine zK hE ?_;intro K hK;simp[h1,h2,d69];(repeat' (first|refine hK _ _ ?_|apply And.intro|(intro hc;try subst hc)))<;>(try clear hK K))|(refine zJ (fun hc=>?_) (fun hc=>?_)<;>simp at hc<;>(try subst hc)))
    all_goals first|(simp;done)|(simp at *;omega)|((try simp[h1,h2]);refine Imp.aut ?_ ?_<;>simp[NLe,h1,h2])
 ·cases h
def d76:List AV→Option Ans
 | [.op _ [.os _ 1 ws,.int .i64 s,.bot,.bot,.bot,.bot,.bot],.agg [.int .i64 _,.int .i64 _,.int .u64 _,.int .u64 _,.bool _]]=>if ws.all isW=true∧0≤s∧s≤1000000000 then some ⟨.tup [],[.cells 0 [.os 0 1 ws,.int .i64 (s+1),.bot,.bot,.bot,.bot,.bot]]⟩ else none
 | _=>none
theorem ok76:NOk [(7,true)] d76:=by
 intro xs a h;unfold d76 at h
 (repeat' (split at h))<;>first|(cases h;done)|(rename_i hc;have h1:=ZZ hc.1;have h2:=Z0 hc.1;injection h with h;subst h;refine ⟨Zq ?_,?_⟩<;>simp[h1,h2])
theorem s76:Sound Tryz.prog 76 (Zi [(7,true)] d76 ok76):=by
 refine Zj C76.a C76.b C76.c C76.d ok76 (fun xs a h=>?_) fun xs a h w0 S hS=>?_
 ·unfold d76 at h
  (repeat' (split at h))<;>first|(cases h;done)|exact Nat.le_of_ble_eq_true rfl
 unfold d76 at h;split at h
 ·split at h
  ·rename_i t1 t2 ws s y1 y2 y3 y4 y5 hcond
   injection h with h;subst h;have hE:Zb Tryz.prog (EL []):=Zd (by simp);obtain ⟨hw,hs0,hs1⟩:=hcond;have hT:=ZZ hw;have hC:=Z0 hw;have w1:IntKind.wrap .i64 (s+1)=s+1:=Zh (by omega) (by omega);unfold m76
   repeat' with_reducible (first|refine ZR.h ?_|refine zI ?_|(refine zK hE ?_;intro K hK;simp[w1,hT,hC];(repeat' (first|refine hK _ _ ?_|apply And.intro|(intro hc;try subst hc)))<;>(try clear hK K))|(refine zJ (fun hc=>?_) (fun hc=>?_)<;>simp at hc<;>(try subst hc)))
   all_goals first|(simp;done)|(simp at *;omega)|((try simp[hT,hC]);refine Imp.aut ?_ ?_<;>simp[NLe,hT,hC])
  ·cases h
 ·cases h
end Go.W
