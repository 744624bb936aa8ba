/- Cancelling, and the clock: both worlds alike. Tries that mix: the lists that a walk meets. Where both worlds begin. -/
import Derived.Test.YtidbbnkpglggdaaGreatPsQ
import Derived.Test.YtidbbnkpglggdaaGreatPaA
import Derived.Test.YtidbbnkpglggdaaGreatRaN
import Derived.Test.YtidbbnkpglggdaaGreatPyI
namespace Go.W
open Go.Proofs
set_option linter.unusedSimpArgs false
set_option linter.unusedVariables false
set_option maxHeartbeats 8000000
set_option maxRecDepth 100000
attribute [local irreducible] Wm WmA
attribute [local simp] YP lkp Vq prs V9 prT ddL idL Yy Ue Ren Ve NObj.none ZT
def Vk (s:StZ):StZ×Int:=if ZA s.k=false then (Zu,27) else ({ s with k:=7 },0)
def d96:List AV→List NObj→Option AV
 | [.agg [.int .i64 k,.bool fl,.int .i64 sg,.int .i64 sl,.int .i64 sf]],[]=>some (Xk (Vk ⟨k,fl,sg,sl,sf⟩).1 (Vk ⟨k,fl,sg,sl,sf⟩).2)
 | _,_=>none
theorem ok96:ROk d96:=by
 intro xs os r h;unfold d96 at h
 (repeat' (split at h))<;>first|(cases h;done)|(injection h with h;subst h;unfold Xk stA;split<;>simp)
theorem s96:Sound Tryz.prog 96 (rdS d96 ok96):=by
 refine Zo (ac:=?ac) (res:=?res) Tryz.func96 (by kernel_rfl) (ha:=?ha) (hk:=?hk) (hok:=ok96) fun xs os r h vs ρ0 hvs=>?w
 case ha=>conv=>lhs;cbv
 case hk=>kernel_rfl
 refine ⟨xs,?_,fun _ h=>h,fun w0 S hS=>?_⟩
 ·unfold d96 at h
  (repeat' (split at h))<;>first|(cases h;done)|exact Nat.le_of_ble_eq_true rfl
 unfold d96 at h;split at h
 ·rename_i k fl sg sl sf
  injection h with h;subst h;have hE:Zd Tryz.prog (EL [(115,rdS d115 ok115)]):=Ze (by simp only[List.mem_cons,List.not_mem_nil,or_false,forall_eq_or_imp,forall_eq];exact s115);by_cases h1:ZA k=false
  ·skip
   repeat' with_reducible (first|refine ZR.h ?_|refine kI ?_|(refine kR hE ?_;intro K hK;simp[h1,Vk,Xk,stA,Zu,d115];(repeat' (first|refine hK _ _ ?_|apply And.intro|(intro hc;try subst hc)))<;>(try clear hK K))|(refine kT (fun hc=>?_) (fun hc=>?_)<;>simp at hc<;>(try subst hc)))
   all_goals first|(show Zb _ _=true;kernel_rfl)|(simp;done)|(simp at *;omega)|((try simp[h1,Vk,Xk,stA,Zu]);refine Imp.aut ?_ ?_<;>simp[NLe,h1,Vk,Xk,stA,Zu])
  ·have h1':ZA k=true:=by simpa using h1
   repeat' with_reducible (first|refine ZR.h ?_|refine kI ?_|(refine kR hE ?_;intro K hK;simp[h1',Vk,Xk,stA,Zu,d115];(repeat' (first|refine hK _ _ ?_|apply And.intro|(intro hc;try subst hc)))<;>(try clear hK K))|(refine kT (fun hc=>?_) (fun hc=>?_)<;>simp at hc<;>(try subst hc)))
   all_goals first|(show Zb _ _=true;kernel_rfl)|(simp;done)|(simp at *;omega)|((try simp[h1',Vk,Xk,stA,Zu]);refine Imp.aut ?_ ?_<;>simp[NLe,h1',Vk,Xk,stA,Zu])
 ·cases h
def d98:List AV→Option Ans
 | [.op _ [.int .u64 t],.int .i64 u]=>if 0≤t∧t≤1000000 then some ⟨.bool (decide (u≤t)),[.free]⟩ else none
 | _=>none
theorem ok98:NOk [(1,false)] d98:=by
 intro xs a h;unfold d98 at h
 (repeat' (split at h))<;>first|(cases h;done)|(injection h with h;subst h;refine ⟨Zp ?_,?_⟩<;>simp)
theorem s98:Sound Tryz.prog 98 (Zm [(1,false)] d98 ok98):=by
 refine Zi (ac:=?ac) (res:=?res) Tryz.func98 (by kernel_rfl) (ha:=?ha) (hk:=?hk) (hok:=ok98) (fun xs a h=>?_) fun xs a h w0 S hS=>?_
 case ha=>conv=>lhs;cbv
 case hk=>kernel_rfl
 ·unfold d98 at h
  (repeat' (split at h))<;>first|(cases h;done)|exact Nat.le_of_ble_eq_true rfl
 unfold d98 at h;split at h
 ·split at h
  ·rename_i u0 t u hcond
   injection h with h;subst h;have hE:Zd Tryz.prog (EL [(57,Zm [(1,false)] d57 ok57)]):=Ze (by simp only[List.mem_cons,List.not_mem_nil,or_false,forall_eq_or_imp,forall_eq];exact s57)
   repeat' with_reducible (first|refine ZR.h ?_|refine kI ?_|(refine kR hE ?_;intro K hK;simp[hcond,d57];(repeat' (first|refine hK _ _ ?_|apply And.intro|(intro hc;try subst hc)))<;>(try clear hK K))|(refine kT (fun hc=>?_) (fun hc=>?_)<;>simp at hc<;>(try subst hc)))
   all_goals first|(show Zb _ _=true;kernel_rfl)|(simp;done)|(simp at *;omega)|((try simp);refine Imp.aut ?_ ?_<;>simp[NLe])
  ·cases h
 ·cases h
def Zam (m a b:Int):Int:=if m<a then m else if m<b then m else if m - b<a then m else a+b
def d51:List AV→List NObj→Option AV
 | [.int .u64 m,.sl (.top 0) 0 2],[.view 0 1 [[.int .u64 a],[.int .u64 b]]]=>if 0≤m∧m≤1000000∧0≤a∧a≤1000000∧0≤b∧b≤9223372036854775807 then some (.int .u64 (Zam m a b)) else none
 | _,_=>none
theorem ok51:ROk d51:=by
 intro xs os r h;unfold d51 at h
 (repeat' (split at h))<;>first|(cases h;done)|(injection h with h;subst h;simp)
theorem s51:Sound Tryz.prog 51 (rdS d51 ok51):=by
 refine Zo (ac:=?ac) (res:=?res) Tryz.func51 (by kernel_rfl) (ha:=?ha) (hk:=?hk) (hok:=ok51) fun xs os r h vs ρ0 hvs=>?w
 case ha=>conv=>lhs;cbv
 case hk=>kernel_rfl
 refine ⟨xs,?_,fun _ h=>h,fun w0 S hS=>?_⟩
 ·unfold d51 at h
  (repeat' (split at h))<;>first|(cases h;done)|exact Nat.le_of_ble_eq_true rfl
 unfold d51 at h;split at h
 ·split at h
  ·rename_i m a b hcond
   injection h with h;subst h;have hE:Zd Tryz.prog (EL []):=Ze (by simp);obtain ⟨m0,m1,a0,a1,b0,b1⟩:=hcond;have wk1:IntKind.wrap .i64 1=1:=(by rfl);have wk2:IntKind.wrap .i64 2=2:=(by rfl);have w0:IntKind.wrap .u64 m=m:=YK (by omega) (by omega);have wa:IntKind.wrap .u64 a=a:=YK (by omega) (by omega);have q1:¬ (m<0):=(by omega);by_cases h1:m<a
   ·have e1:Zam m a b=m:=if_pos h1
    repeat' with_reducible (first|refine ZR.h ?_|refine kI ?_|(refine kR hE ?_;intro K hK;simp[wk1,wk2,h1,e1,w0];(repeat' (first|refine hK _ _ ?_|apply And.intro|(intro hc;try subst hc)))<;>(try clear hK K))|(refine kT (fun hc=>?_) (fun hc=>?_)<;>simp at hc<;>(try subst hc)))
    all_goals (try refine Yk 3 ?_)
    repeat' with_reducible (first|refine ZR.h ?_|refine kI ?_|(refine kR hE ?_;intro K hK;simp[wk1,wk2,h1,e1,w0];(repeat' (first|refine hK _ _ ?_|apply And.intro|(intro hc;try subst hc)))<;>(try clear hK K))|(refine kT (fun hc=>?_) (fun hc=>?_)<;>simp at hc<;>(try subst hc)))
    all_goals first|(show Zb _ _=true;kernel_rfl)|(simp;done)|(simp at *;omega)|((try simp[e1]);refine Imp.aut ?_ ?_<;>simp[NLe,e1])
   ·have ws:IntKind.wrap .u64 (m - a)=m - a:=YK (by omega) (by omega)
    have q2:¬ (m - a<0):=(by omega);by_cases h2:m<b
    ·have e1:Zam m a b=m:=by unfold Zam;rw[if_neg h1,if_pos h2]
     repeat' with_reducible (first|refine ZR.h ?_|refine kI ?_|(refine kR hE ?_;intro K hK;simp[wk1,wk2,h1,h2,e1,w0,wa,ws,q1,q2];(repeat' (first|refine hK _ _ ?_|apply And.intro|(intro hc;try subst hc)))<;>(try clear hK K))|(refine kT (fun hc=>?_) (fun hc=>?_)<;>simp at hc<;>(try subst hc)))
     all_goals (try refine Yk 3 ?_)
     repeat' with_reducible (first|refine ZR.h ?_|refine kI ?_|(refine kR hE ?_;intro K hK;simp[wk1,wk2,h1,h2,e1,w0,wa,ws,q1,q2];(repeat' (first|refine hK _ _ ?_|apply And.intro|(intro hc;try subst hc)))<;>(try clear hK K))|(refine kT (fun hc=>?_) (fun hc=>?_)<;>simp at hc<;>(try subst hc)))
     all_goals first|(show Zb _ _=true;kernel_rfl)|(simp;done)|(simp at *;omega)|((try simp[e1]);refine Imp.aut ?_ ?_<;>simp[NLe,e1])
    ·have wb:IntKind.wrap .u64 (m - b)=m - b:=YK (by omega) (by omega)
     by_cases h3:m - b<a
     ·have e1:Zam m a b=m:=by unfold Zam;rw[if_neg h1,if_neg h2,if_pos h3]
      repeat' with_reducible (first|refine ZR.h ?_|refine kI ?_|(refine kR hE ?_;intro K hK;simp[wk1,wk2,h1,h2,h3,e1,w0,wa,ws,wb,q1,q2];(repeat' (first|refine hK _ _ ?_|apply And.intro|(intro hc;try subst hc)))<;>(try clear hK K))|(refine kT (fun hc=>?_) (fun hc=>?_)<;>simp at hc<;>(try subst hc)))
      all_goals (try refine Yk 3 ?_)
      repeat' with_reducible (first|refine ZR.h ?_|refine kI ?_|(refine kR hE ?_;intro K hK;simp[wk1,wk2,h1,h2,h3,e1,w0,wa,ws,wb,q1,q2];(repeat' (first|refine hK _ _ ?_|apply And.intro|(intro hc;try subst hc)))<;>(try clear hK K))|(refine kT (fun hc=>?_) (fun hc=>?_)<;>simp at hc<;>(try subst hc)))
      all_goals first|(show Zb _ _=true;kernel_rfl)|(simp;done)|(simp at *;omega)|((try simp[e1]);refine Imp.aut ?_ ?_<;>simp[NLe,e1])
     ·have e1:Zam m a b=a+b:=by unfold Zam;rw[if_neg h1,if_neg h2,if_neg h3]
      have wab:IntKind.wrap .u64 (a+b)=a+b:=YK (by omega) (by omega);have h4:¬ m<a+b:=by omega
      repeat' with_reducible (first|refine ZR.h ?_|refine kI ?_|(refine kR hE ?_;intro K hK;simp[wk1,wk2,h1,h2,h3,h4,e1,w0,wa,ws,wb,wab,q1,q2];(repeat' (first|refine hK _ _ ?_|apply And.intro|(intro hc;try subst hc)))<;>(try clear hK K))|(refine kT (fun hc=>?_) (fun hc=>?_)<;>simp at hc<;>(try subst hc)))
      all_goals (try refine Yk 3 ?_)
      repeat' with_reducible (first|refine ZR.h ?_|refine kI ?_|(refine kR hE ?_;intro K hK;simp[wk1,wk2,h1,h2,h3,h4,e1,w0,wa,ws,wb,wab,q1,q2];(repeat' (first|refine hK _ _ ?_|apply And.intro|(intro hc;try subst hc)))<;>(try clear hK K))|(refine kT (fun hc=>?_) (fun hc=>?_)<;>simp at hc<;>(try subst hc)))
      all_goals first|(show Zb _ _=true;kernel_rfl)|(simp;done)|(simp at *;omega)|((try simp[e1]);refine Imp.aut ?_ ?_<;>simp[NLe,e1])
  ·cases h
 ·cases h
def goZ (t n:Int):Int:=if 0<n then Zam 1000000 t n else t
def d13:List AV→Option Ans
  | [.op _ [.int .u64 t],.os _ 1 [[.int .i64 n]]]=>if 0≤t∧t≤1000000∧n≤9223372036854775807 then some ⟨.int .i64 (goZ t n),[.cells 0 [.int .u64 (goZ t n)],.free]⟩ else none
  | _=>none
theorem ZhP {a b:Int} (h0:0≤a) (h1:a≤1000000) (h2:0≤b) (h3:b≤9223372036854775807):0≤Zam 1000000 a b∧Zam 1000000 a b≤1000000:=by
  unfold Zam;repeat' split
  all_goals omega
theorem ZdA {t n:Int} (h0:0≤t) (h1:t≤1000000) (h3:n≤9223372036854775807):0≤goZ t n∧goZ t n≤1000000:=by
  unfold goZ;split
  · exact ZhP h0 h1 (by omega) h3
  · exact ⟨h0,h1⟩
theorem ok13:NOk [(1,true),(1,false)] d13:=by
  intro xs a h;unfold d13 at h
  (repeat' (split at h))<;>first|(cases h;done)|(injection h with h;subst h;refine ⟨Zp ?_,?_⟩<;>simp)
theorem s13:Sound Tryz.prog 13 (Zm [(1,true),(1,false)] d13 ok13):=by
  refine Zi (ac:=?ac) (res:=?res) Tryz.func13 (by kernel_rfl) (ha:=?ha) (hk:=?hk) (hok:=ok13) (fun xs a h=>?_) fun xs a h w0 S hS=>?_
  case ha=>conv=>lhs;cbv
  case hk=>kernel_rfl
  · unfold d13 at h
    (repeat' (split at h))<;>first|(cases h;done)|exact Nat.le_of_ble_eq_true rfl
  unfold d13 at h;split at h
  · split at h
    · rename_i u0 t u1 n hcond
      injection h with h
      subst h
      have hE:Zd Tryz.prog (EL [(51,rdS d51 ok51)]):=Ze (by simp only[List.mem_cons,List.not_mem_nil,or_false,forall_eq_or_imp,forall_eq];exact s51)
      obtain ⟨t0,t1,n1⟩:=hcond
      have hg:=ZdA t0 t1 n1
      have wk1:IntKind.wrap .i64 1=1:=by rfl
      have wg:IntKind.wrap .i64 (goZ t n)=goZ t n:=Zg (by omega) (by omega)
      by_cases h1:0<n
      · have e1:goZ t n=Zam 1000000 t n:=if_pos h1
        have wn:IntKind.wrap .u64 n=n:=YK (by omega) (by omega)
        have h69:d51 [.int .u64 1000000,.sl (.top 0) 0 2] [.view 0 1 [[.int .u64 t],[.int .u64 n]]]=some (.int .u64 (Zam 1000000 t n)):=by simp only[d51];rw[if_pos ⟨by omega,by omega,t0,t1,by omega,n1⟩]
        rw[e1]at wg hg⊢
        obtain ⟨z,hz⟩:∃ z,Zam 1000000 t n=z:=⟨_,rfl⟩
        rw[hz]at wg h69 hg⊢
        repeat' with_reducible (first|refine ZR.h ?_|refine kI ?_|(refine kR hE ?_;intro K hK;simp[wk1,wg,wn,h1,h69];(repeat' (first|refine hK _ _ ?_|apply And.intro|(intro hc;try subst hc)))<;>(try clear hK K))|(refine kT (fun hc=>?_) (fun hc=>?_)<;>simp at hc<;>(try subst hc)))
        all_goals (try refine Yk 2 ?_)
        repeat' with_reducible (first|refine ZR.h ?_|refine kI ?_|(refine kR hE ?_;intro K hK;simp[wk1,wg,wn,h1,h69];(repeat' (first|refine hK _ _ ?_|apply And.intro|(intro hc;try subst hc)))<;>(try clear hK K))|(refine kT (fun hc=>?_) (fun hc=>?_)<;>simp at hc<;>(try subst hc)))
        all_goals first|(show Zb _ _=true;kernel_rfl)|(simp;done)|(simp at *;omega)|((try simp);refine Imp.aut ?_ ?_<;>simp[NLe])
      · have e1:goZ t n=t:=if_neg h1
        rw[e1]at wg hg⊢
        repeat' with_reducible (first|refine ZR.h ?_|refine kI ?_|(refine kR hE ?_;intro K hK;simp[wk1,wg,h1];(repeat' (first|refine hK _ _ ?_|apply And.intro|(intro hc;try subst hc)))<;>(try clear hK K))|(refine kT (fun hc=>?_) (fun hc=>?_)<;>simp at hc<;>(try subst hc)))
        all_goals (try refine Yk 2 ?_)
        repeat' with_reducible (first|refine ZR.h ?_|refine kI ?_|(refine kR hE ?_;intro K hK;simp[wk1,wg,h1];(repeat' (first|refine hK _ _ ?_|apply And.intro|(intro hc;try subst hc)))<;>(try clear hK K))|(refine kT (fun hc=>?_) (fun hc=>?_)<;>simp at hc<;>(try subst hc)))
        all_goals first|(show Zb _ _=true;kernel_rfl)|(simp;done)|(simp at *;omega)|((try simp);refine Imp.aut ?_ ?_<;>simp[NLe])
    · cases h
  · cases h
structure RpZ where
  sh:Int
  pc:Int
  ps:Int
  wd:Int
  st:StZ
  tm:TmZ
  dn:Bool
  ta:Int
def rpC (R:RpZ):List AV:=[.int .i64 R.sh,.int .i64 R.pc,.int .i64 R.ps,.int .u64 R.wd,.int .i64 R.st.k,.bool R.st.fl,.int .i64 R.st.g,.int .i64 R.st.l,.int .i64 R.st.f,.int .i64 R.tm.nm,.int .i64 R.tm.sd,.int .i64 R.tm.pr,.int .i64 R.tm.le,.int .i64 R.tm.un,.bool R.dn,.int .i64 R.ta]
def Zji:List AV→Option RpZ
  | [.int .i64 a,.int .i64 b,.int .i64 c,.int .u64 d,.int .i64 e,.bool f,.int .i64 g,.int .i64 h,.int .i64 i,.int .i64 j,.int .i64 k,.int .i64 l,.int .i64 m,.int .i64 n,.bool o,.int .i64 p]=>some ⟨a,b,c,d,⟨e,f,g,h,i⟩,⟨j,k,l,m,n⟩,o,p⟩
  | _=>none
theorem Zbe (R:RpZ):Zji (rpC R)=some R:=rfl
theorem xm {c:List AV} {R:RpZ} (h:Zji c=some R):c=rpC R:=by
  unfold Zji at h;split at h
  · injection h with h;subst h;rfl
  · cases h
def Zjo (R:RpZ):Bool:=decide (0≤R.pc∧R.pc≤1000∧0≤R.ps∧R.ps≤1000000∧0≤R.wd∧R.wd<18446744073709551616∧okS R.st=true∧0≤R.ta∧R.ta≤1000000)
theorem ZcN {R:RpZ} (h:Zjo R=true):0≤R.pc∧R.pc≤1000∧0≤R.ps∧R.ps≤1000000∧0≤R.wd∧R.wd<18446744073709551616∧okS R.st=true∧0≤R.ta∧R.ta≤1000000:=of_decide_eq_true h
def Tp (W:WZ) (R:RpZ) (c:Int):RpZ×WZ :=
  if ZA R.st.k=false then (R,W)
  else if ZK W.c W.d R.tm.nm (Yj W.d R.tm.pr)≠R.sh then (R,W)
  else if R.tm.un≤W.t then
    (if (Zs W c R.wd { R.st with k:=7 }).1=true then ({ R with dn:=true,st:={ R.st with k:=7 },ta:=W.t },Vz (Zs W c R.wd { R.st with k:=7 }).2 5 c R.st.g 0 0 0 0 0)
     else ({ R with dn:=false },(Zs W c R.wd { R.st with k:=7 }).2))
  else (R,W)
theorem Zan {W:WZ} (h:okW W=true) (R:RpZ) (c:Int):okW (Tp W R c).2=true:=by
  unfold Tp
  repeat' split
  all_goals first|exact h|exact Vl (Yi h _ _ _) _ _ _ _ _ _ _ _|exact Yi h _ _ _
theorem Zkr {s:StZ} (h:okS s=true):okS { s with k:=7 }=true:=by
  have:=UP h;exact decide_eq_true (by simp only;omega)
def d64:List AV→Option Ans
  | [.op _ rc,.op _ wc,.int .i64 c]=>(match Zji rc,yF wc with
    | some R,some W=>if Zjo R=true∧okW W=true∧smW W=true∧0≤c∧c<W.a*W.b then some (⟨.tup [],[.cells 0 (rpC (Tp W R c).1),.cells 0 (wzC (Tp W R c).2)]⟩) else none
    | _,_=>none)
  | _=>none
theorem ok64:NOk [(16,true),(10,true)] d64:=by
  intro xs aa h;unfold d64 at h;split at h
  · rename_i t1 rc t2 wc c
    split at h
    · rename_i R W hRc hWc
      split at h
      · rename_i hc
        obtain ⟨u1,u2,u3,u4,rfl⟩:=ZN hWc
        obtain rfl:=xm hRc
        injection h with h;subst h
        have hW:=hc.2.1
        obtain ⟨hcf,hw,hwl,hs0,ht0,ht1,hlg⟩:=Zk (hW)
        have hT:=ZW hw
        have hC:=ZV hw
        have hTl:=ZC hlg
        have hCl:=ZD hlg
        have hW2:=Zan hW R c
        obtain ⟨hcf2,hw2,hwl2,hs02,ht02,ht12,hlg2⟩:=Zk (hW2)
        have hT2:=ZW hw2
        have hC2:=ZV hw2
        have hTl2:=ZC hlg2
        have hCl2:=ZD hlg2
        refine ⟨Zp ?_,?_⟩<;>simp[rpC,wzL,wzC,hT,hC,hTl,hCl,hT2,hC2,hTl2,hCl2]
      · cases h
    · cases h
  · cases h
theorem s64:Sound Tryz.prog 64 (Zm [(16,true),(10,true)] d64 ok64):=by
  refine Zi (ac:=?ac) (res:=?res) Tryz.func64 (by kernel_rfl) (ha:=?ha) (hk:=?hk) (hok:=ok64) (fun xs a h=>?_) fun xs a h w0 S hS=>?_
  case ha=>conv=>lhs;cbv
  case hk=>kernel_rfl
  · unfold d64 at h
    (repeat' (split at h))<;>first|(cases h;done)|exact Nat.le_of_ble_eq_true rfl
  unfold d64 at h;split at h
  · rename_i t1 rc t2 wc c
    split at h
    · rename_i R W hRc hWc
      split at h
      · rename_i hcond
        obtain ⟨u1,u2,u3,u4,rfl⟩:=ZN hWc
        obtain rfl:=xm hRc
        injection h with h
        subst h
        clear hRc hWc
        have hE:Zd Tryz.prog (EL [(96,rdS d96 ok96),(97,rdS d97 ok97),(98,Zm [(1,false)] d98 ok98),(53,Zm [(10,true)] d53 ok53),(57,Zm [(1,false)] d57 ok57),(99,Zm [(10,true)] d99 ok99)]):=Ze (by simp only[List.mem_cons,List.not_mem_nil,or_false,forall_eq_or_imp,forall_eq];exact ⟨s96,s97,s98,s53,s57,s99⟩)
        obtain ⟨hR,hW,hsm,hc0,hc1⟩:=hcond
        obtain ⟨p0,p1,q0,q1,w0',w1',hst0,ta0,ta1⟩:=ZcN hR
        obtain ⟨hcf,hw,hwl,hs0,ht0,ht1,hlg⟩:=Zk (hW)
        have hT:=ZW hw
        have hC:=ZV hw
        have hTl:=ZC hlg
        have hCl:=ZD hlg
        have hlo:=U8 hsm
        have h89:d97 [.agg [.int .i64 W.a,.int .i64 W.b,.int .i64 W.c,.int .i64 W.d,.int .i64 W.e,.int .i64 W.f,.int .i64 W.g],.agg [.int .i64 R.tm.nm,.int .i64 R.tm.sd,.int .i64 R.tm.pr,.int .i64 R.tm.le,.int .i64 R.tm.un]] []=some (.int .i64 (ZK W.c W.d R.tm.nm (Yj W.d R.tm.pr))):=by simp only[d97];rw[if_pos hcf]
        have h90:∀ u,d98 [.op u [.int .u64 W.t],.int .i64 R.tm.un]=some ⟨.bool (decide (R.tm.un≤W.t)),[.free]⟩:=fun u=>by simp only[d98];rw[if_pos ⟨ht0,ht1⟩]
        obtain ⟨S1,hS1⟩:∃ z,ZK W.c W.d R.tm.nm (Yj W.d R.tm.pr)=z:=⟨_,rfl⟩
        rw[hS1]at h89
        by_cases h1:ZA R.st.k=false
        · have hh:Tp W R c=(R,W):=by unfold Tp;rw[if_pos h1]
          rw[hh]
          have h88:d96 [.agg [.int .i64 R.st.k,.bool R.st.fl,.int .i64 R.st.g,.int .i64 R.st.l,.int .i64 R.st.f]] []=some (Xk Zu 27):=by simp[d96,Vk,h1]
          simp only[Xk,stA,Zu]at h88
          simp only[rpC,wzL,wzC]at hS⊢
          repeat' with_reducible (first|refine ZR.h ?_|refine kI ?_|((first|refine kR hE ?_|refine kD hE Zq ?_);intro K hK;simp[hT,hC,hTl,hCl,h88];(repeat' (first|refine hK _ _ ?_|apply And.intro|(intro hc;try subst hc)))<;>(try clear hK K))|(refine kT (fun hc=>?_) (fun hc=>?_)<;>simp at hc<;>(try subst hc)))
          all_goals first|(show Zb _ _=true;kernel_rfl)|(simp;done)|(simp at *;omega)|((try simp[hT,hC,hTl,hCl]);refine Imp.aut ?_ ?_<;>simp[NLe,hT,hC,hTl,hCl])
        have h1':ZA R.st.k=true:=by simpa using h1
        have h88:d96 [.agg [.int .i64 R.st.k,.bool R.st.fl,.int .i64 R.st.g,.int .i64 R.st.l,.int .i64 R.st.f]] []=some (Xk { R.st with k:=7 } 0):=by simp[d96,Vk,h1']
        simp only[Xk,stA,if_true]at h88
        by_cases h2:S1=R.sh
        case neg =>
          have hh:Tp W R c=(R,W):=(by unfold Tp;rw[if_neg h1,hS1,if_pos h2]);rw[hh];simp only[rpC,wzL,wzC]at hS⊢
          repeat' with_reducible (first|refine ZR.h ?_|refine kI ?_|((first|refine kR hE ?_|refine kD hE Zq ?_);intro K hK;simp[hT,hC,hTl,hCl,h88,h89,h2];(repeat' (first|refine hK _ _ ?_|apply And.intro|(intro hc;try subst hc)))<;>(try clear hK K))|(refine kT (fun hc=>?_) (fun hc=>?_)<;>simp at hc<;>(try subst hc)))
          all_goals first|(show Zb _ _=true;kernel_rfl)|(simp;done)|(simp at *;omega)|((try simp[hT,hC,hTl,hCl]);refine Imp.aut ?_ ?_<;>simp[NLe,hT,hC,hTl,hCl])
        by_cases h3:R.tm.un≤W.t
        case neg =>
          have hh:Tp W R c=(R,W):=(by unfold Tp;rw[if_neg h1,hS1,if_neg (by simpa using h2),if_neg h3]);rw[hh];simp only[rpC,wzL,wzC]at hS h90⊢
          repeat' with_reducible (first|refine ZR.h ?_|refine kI ?_|((first|refine kR hE ?_|refine kD hE Zq ?_);intro K hK;simp[hT,hC,hTl,hCl,h88,h89,h2,h90,h3];(repeat' (first|refine hK _ _ ?_|apply And.intro|(intro hc;try subst hc)))<;>(try clear hK K))|(refine kT (fun hc=>?_) (fun hc=>?_)<;>simp at hc<;>(try subst hc)))
          all_goals first|(show Zb _ _=true;kernel_rfl)|(simp;done)|(simp at *;omega)|((try simp[hT,hC,hTl,hCl]);refine Imp.aut ?_ ?_<;>simp[NLe,hT,hC,hTl,hCl])
        have hh:Tp W R c=if (Zs W c R.wd { R.st with k:=7 }).1=true then ({ R with dn:=true,st:={ R.st with k:=7 },ta:=W.t },Vz (Zs W c R.wd { R.st with k:=7 }).2 5 c R.st.g 0 0 0 0 0) else ({ R with dn:=false },(Zs W c R.wd { R.st with k:=7 }).2):=by
          unfold Tp;rw[if_neg h1,hS1,if_neg (by simpa using h2),if_pos h3]
        rw[hh]
        have h26:=e53 hW hlo hc0 hc1 R.wd (Zkr hst0)
        have hW2:=Yi hW c R.wd { R.st with k:=7 }
        have hfr:=Xw W c R.wd { R.st with k:=7 }
        obtain ⟨⟨b,V⟩,hV⟩:∃ r,Zs W c R.wd { R.st with k:=7 }=r:=⟨_,rfl⟩
        rw[hV]at h26 hW2 hfr⊢
        simp only at h26 hW2 hfr⊢
        obtain ⟨hcf2,hw2,hwl2,hs02,ht02,ht12,hlg2⟩:=Zk (hW2)
        have hT2:=ZW hw2
        have hC2:=ZV hw2
        have hTl2:=ZC hlg2
        have hCl2:=ZD hlg2
        cases b
        · simp only[Bool.false_eq_true,if_false]
          simp only[rpC,wzL,wzC,stA]at hS h90 h26⊢
          repeat' with_reducible (first|refine ZR.h ?_|refine kI ?_|((first|refine kR hE ?_|refine kD hE Zq ?_);intro K hK;simp[hT,hC,hTl,hCl,hT2,hC2,hTl2,hCl2,h88,h89,h2,h90,h3,h26];(repeat' (first|refine hK _ _ ?_|apply And.intro|(intro hc;try subst hc)))<;>(try clear hK K))|(refine kT (fun hc=>?_) (fun hc=>?_)<;>simp at hc<;>(try subst hc)))
          all_goals first|(show Zb _ _=true;kernel_rfl)|(simp;done)|(simp at *;omega)|((try simp[hT,hC,hTl,hCl,hT2,hC2,hTl2,hCl2]);refine Imp.aut ?_ ?_<;>simp[NLe,hT,hC,hTl,hCl,hT2,hC2,hTl2,hCl2])
        · have hsq:=TD hsm
          have hlo2:loW V=true:=decide_eq_true (by rw[hfr.2.1];omega)
          have h23:=e99 hW2 hlo2 5 c R.st.g 0 0 0 0 0 0
          have hW3:=Vl hW2 5 c R.st.g 0 0 0 0 0
          have h24:∀ u,d57 [.op u [.int .u64 V.t]]=some ⟨.int .i64 W.t,[.free]⟩:=fun u=>by simp only[d57];rw[if_pos ⟨ht02,ht12⟩,hfr.2.2.1]
          obtain ⟨X,hX⟩:∃ z,Vz V 5 c R.st.g 0 0 0 0 0=z:=⟨_,rfl⟩
          rw[hX]at h23 hW3
          simp only[if_true]
          rw[hX]
          obtain ⟨hcf3,hw3,hwl3,hs03,ht03,ht13,hlg3⟩:=Zk (hW3)
          have hT3:=ZW hw3
          have hC3:=ZV hw3
          have hTl3:=ZC hlg3
          have hCl3:=ZD hlg3
          simp only[rpC,wzL,wzC,stA,evC]at hS h90 h26 h23 h24⊢
          repeat' with_reducible (first|refine ZR.h ?_|refine kI ?_|((first|refine kR hE ?_|refine kD hE Zq ?_);intro K hK;simp[hT,hC,hTl,hCl,hT2,hC2,hTl2,hCl2,hT3,hC3,hTl3,hCl3,h88,h89,h2,h90,h3,h26,h24,h23];(repeat' (first|refine hK _ _ ?_|apply And.intro|(intro hc;try subst hc)))<;>(try clear hK K))|(refine kT (fun hc=>?_) (fun hc=>?_)<;>simp at hc<;>(try subst hc)))
          all_goals first|(show Zb _ _=true;kernel_rfl)|(simp;done)|(simp at *;omega)|((try simp[hT,hC,hTl,hCl,hT2,hC2,hTl2,hCl2,hT3,hC3,hTl3,hCl3]);refine Imp.aut ?_ ?_<;>simp[NLe,hT,hC,hTl,hCl,hT2,hC2,hTl2,hCl2,hT3,hC3,hTl3,hCl3])
      · cases h
    · cases h
  · cases h
theorem e64 {W:WZ} {R:RpZ} (hR:Zjo R=true) (hW:okW W=true) (hm:smW W=true) {c:Int} (h0:0≤c) (h1:c<W.a*W.b) (u v u1 u2 u3 u4:Nat):d64 [.op u (rpC R),.op v (wzL W u1 u2 u3 u4),.int .i64 c]=some ⟨.tup [],[.cells 0 (rpC (Tp W R c).1),.cells 0 (wzC (Tp W R c).2)]⟩:=by
  simp only[d64,Zbe,VC];rw[if_pos ⟨hR,hW,hm,h0,h1⟩]
end Go.W
namespace Go.W
open Go.Proofs
set_option linter.unusedSimpArgs false
set_option linter.unusedVariables false
set_option maxHeartbeats 8000000
set_option maxRecDepth 100000
section
variable {B:WZ} {was:Int→Int} {W:WZ} {Ts:List TZ}
def goW (W:WZ) (n:Int):WZ:={ W with t:=goZ W.t n }
def goQ (Q:QZ) (n:Int):QZ:={ Q with now:=goZ Q.now n }
theorem Zhf (h:okW W=true) {n:Int} (hn:n≤9223372036854775807):okW (goW W n)=true:=by
 obtain ⟨h1,h2,h3,h4,h5,h6,h7⟩:=Zk h;have:=ZdA h5 h6 hn;exact decide_eq_true ⟨h1,h2,h3,h4,this.1,this.2,h7⟩
theorem Zjz {Q:QZ} (h:Sim W Q) {n:Int} (hn:n≤9223372036854775807):Sim (goW W n) (goQ Q n):=by
 have h1:=Zhf h.okw hn;obtain ⟨k1,k2,k3,k4,k5,k6,k7,k8,k9⟩:=Zr h.okq;have:=ZdA k6 k7 hn;obtain ⟨g1,g2,g3,g4,g5,g6,g7,g8⟩:=h;exact ⟨h1,decide_eq_true ⟨k1,k2,k3,k4,k5,this.1,this.2,k8,k9⟩,g3,g4,g5,g6,by show goZ Q.now n=goZ W.t n;rw[g7],g8⟩
end
theorem ZbM {s:StZ} (h:okS s=true):smS s=true:=by
 have:=UP h;exact decide_eq_true ⟨by omega,by omega,by omega,by omega,by omega,by omega⟩
theorem Zj4 {T:TZ} (hT:okT T=true):okR (rOf T)=true:=by
 obtain ⟨p0,p1,x0,x1,y0,y1,a0,a1,b0,b1,_,_,_,_,_,_,_,_,nx,ny⟩:=XQ hT;exact decide_eq_true ⟨p0,p1,ZbM (XJ _),ZbM (XJ _),ZbM nx,ZbM ny,a0,a1,b0,b1⟩
theorem Zhv {W:WZ} {Q:QZ} {T:TZ} (h:Sim W Q) (ht:Za8 W.g W.f T) (hl:Zen T):ZfC Q (rOf T)=true:=by
 obtain ⟨pa,pb,pc,pd,pf,pg⟩:=h.par;obtain ⟨t1,t2,t3,t4,t5,t6,t7⟩:=ht;rw[← pf,← pg]at t6 t7;refine ZiB fun _=>⟨fun k m=>?_,fun k m=>?_,fun k m _=>?_,fun k m _=>?_⟩
 ·replace k:T.pc=10:=k
  obtain ⟨f1,f2,f3⟩:=t7 ((hl.1 (by omega)).1 m);have f4:=f1.2.2.2.2.2.2.2.2 f2;have f5:=f3 m;exact ⟨f4.1,f4.2.1,by show 0≤T.nx.f - 1;omega,by show T.nx.f - 1≤Q.f;omega⟩
 ·obtain ⟨n1,n2,n3,_⟩:=t6 m
  have n4:=n1.2.2.2.2.2.2.2.2 n2;exact ⟨n4.1,n4.2.1,by show 0≤T.ny.f - 1;omega,by show T.ny.f - 1≤Q.f;omega⟩
 ·obtain ⟨n1,n2,n3,_⟩:=t6 m
  have n4:=n1.2.2.2.2.2.2.2.2 n2;exact ⟨n4.1,n4.2.1⟩
 ·replace k:T.pc=13:=k
  obtain ⟨f1,f2,f3⟩:=t7 ((hl.1 (by omega)).2 m);have f4:=f1.2.2.2.2.2.2.2.2 f2;exact ⟨f4.1,f4.2.1⟩
def vy (W:WZ) (Q:QZ) (Ts:List TZ):Prop:=(∃ B was,Vr B was W Ts)∧Sim W Q∧yR W∧(∀ T,T∈Ts→Za8 W.g W.f T)∧∀ T,T∈Ts→okT T=true
theorem Zhn {W:WZ} {Q:QZ} {Ts:List TZ} (h:vy W Q Ts) {T:TZ} (hT:T∈Ts):Zen T∧((T.pc≤5→T.made=false)∧(T.pc≤7→T.free=false)∧T.pc≤14)∧0≤T.pc:=by
 obtain ⟨⟨B,was,hJ⟩,_⟩:=h;have hj:=hJ.2.2.2.2 T hT;refine ⟨Zi0 hj,?_,hj.1⟩;obtain ⟨h0,h1,h2,h3,h4,h5,h6⟩:=hj;exact ⟨h4,h5,h1⟩
theorem zB {α:Type} {l:List α} {k:Nat} {a:α} {p:α→Prop} (h:∀ x,x∈l→p x) (ha:p a):∀ x,x∈l.set k a→p x:=fun x hx=>by
 rcases List.mem_or_eq_of_mem_set hx with h3|h3
 ·exact h x h3
 ·rw[h3];exact ha
theorem Zfo {W:WZ} {Q:QZ} {Ts:List TZ} (h:vy W Q Ts) {k:Nat} {T:TZ} (hk:Ts[k]?=some T):∃ Q',ZG Q (rOf T)=(rOf (Zw W T).1,Q')∧vy (Zw W T).2 Q' (Ts.set k (Zw W T).1)∧(Zw W T).2.s - W.s=Q'.u - Q.u:=by
 have hm:=List.mem_of_getElem? hk;obtain ⟨e1,e2,e3⟩:=Zhn h hm;obtain ⟨⟨B,was,hJ⟩,hs,hg,hgt,hok⟩:=h;obtain ⟨Q',s1,s2,s3,s4,s5⟩:=Zf7 hs hg (hgt T hm) (hok T hm) e1 e2;have hJ2:=ZgH hJ hk;have hp:=Xd (hJ2.2.1.trans hJ.2.1.symm);refine ⟨Q',s1,⟨⟨B,was,hJ2⟩,s2,s4,?_,zB hok (Zja (hok T hm) hs.okw)⟩,s3⟩;rw[hp.2.2.2.2.1,hp.2.2.2.2.2.1];exact zB hgt s5
theorem Zjx {W:WZ} {Q:QZ} {Ts:List TZ} (h:vy W Q Ts) {n:Int} (hn:n≤9223372036854775807):vy (goW W n) (goQ Q n) Ts:=by
 obtain ⟨⟨B,was,hJ⟩,hs,hg,hgt,hok⟩:=h;refine ⟨⟨goW B n,was,?_⟩,Zjz hs hn,hg,hgt,hok⟩;obtain ⟨j1,j2,j3,j4,j5⟩:=hJ;have p:=Xd j2;refine ⟨Zhf j1 hn,?_,j3,j4,j5⟩;simp only[X5,Prod.mk.injEq]at j2⊢;obtain ⟨k1,k2,k3,k4,k5,k6,k7,k8⟩:=j2;exact ⟨k1,k2,k3,k4,k5,k6,k7,by show goZ W.t n=goZ B.t n;rw[k8]⟩
def Zh1:List AV→Bool
 | [.int .i64 k,.int .i64 n]=>true
 | _=>false
theorem Zew {r:List AV} (h:Zh1 r=true):∃ k n:Int,r=[.int .i64 k,.int .i64 n]:=by
 unfold Zh1 at h;split at h
 ·exact ⟨_,_,rfl⟩
 ·cases h
def dn (m:Nat) (F:Int→Int):List (List AV):=(List.range m).map fun j:Nat=>[.int .i64 (IntKind.wrap .i64 (F (j:Int)))]
theorem ZaS (f:List AV→Bool) (hf:∀ r,f r=true→t0L r=r):∀ {l:List (List AV)},l.all f=true→Yo l=l
 | [],_=>rfl
 | a :: l,h=>by
  simp only[List.all_cons,Bool.and_eq_true]at h;show t0L a :: Yo l=_;rw[hf a h.1,ZaS f hf h.2]
theorem Zbw (f:List AV→Bool) (hf:∀ r,f r=true→clL r=true):∀ {l:List (List AV)},l.all f=true→Xr l=true
 | [],_=>rfl
 | a :: l,h=>by
  simp only[List.all_cons,Bool.and_eq_true]at h;show (clL a&&Xr l)=true;rw[hf a h.1,Zbw f hf h.2];rfl
theorem Zko {l:List (List AV)} (h:l.all Zh1=true):Yo l=l:=ZaS Zh1 (fun r hr=>by obtain ⟨k,n,rfl⟩:=Zew hr;simp[t0L,AV.t0]) h
theorem Zj3 {l:List (List AV)} (h:l.all Zh1=true):Xr l=true:=Zbw Zh1 (fun r hr=>by obtain ⟨k,n,rfl⟩:=Zew hr;simp[clL,AV.cl]) h
theorem ZhK {f:List AV→Bool} {l:List (List AV)} (h:l.all f=true) {k:Nat} (hk:k<l.length):∃ r,l[k]?=some r∧f r=true :=
 ⟨l[k],List.getElem?_eq_getElem hk,List.all_eq_true.1 h _ (List.getElem_mem hk)⟩
def Q0 (B:WZ):QZ:=⟨B.a,B.b,B.c,B.d,B.e,B.f,B.g,(List.range (B.a*B.b).toNat).map (fun i:Nat=>stW B i),(List.range (B.a*B.b).toNat).map (fun i:Nat=>tmW B i),List.replicate (B.a*B.b).toNat (List.replicate (B.g*(B.f+1)).toNat ⟨0,0,0,0,0,0⟩),0,[],0⟩
section
variable {a b c d e f g:Int} {els:List (List AV)}
theorem Za9 (hcf:X7 a b c d e f g=true) (he:els.all zh=true):∀ (k:Nat) (ws S T:List (List AV)),k≤els.length→YF a b c d e f g els k=some (ws,S,T)→∀ j:Nat,a*b*2≤(j:Int)→wAt ws j=0
 | 0,ws,S,T,_,h,j,hj=>by
  simp only[YF,Option.some.injEq,Prod.mk.injEq]at h;obtain ⟨rfl,rfl,rfl⟩:=h;exact yl _ _
 | k+1,ws,S,T,hk,h,j,hj=>by
  simp only[YF]at h;split at h
  ·cases h
  ·rename_i ws0 S0 T0 h0
   split at h
   ·cases h
   ·rename_i v u hO
    simp only[Option.some.injEq,Prod.mk.injEq]at h;obtain ⟨rfl,rfl,rfl⟩:=h;have hkl:k<els.length:=(by omega);have hrow:zh (els.getD k [])=true:=by
     rw[List.getD_eq_getElem?_getD,List.getElem?_eq_getElem hkl];exact List.all_eq_true.1 he _ (List.getElem_mem hkl)
    have hkn:=(Zaf hrow hO).1;rw[XD (by omega),XD (by omega)];exact Za9 hcf he k ws0 S0 T0 (by omega) h0 j hj
theorem Zbc (hcf:X7 a b c d e f g=true) (he:els.all zh=true):∀ (k:Nat) (ws S T:List (List AV)),k≤els.length→YF a b c d e f g els k=some (ws,S,T)→∀ i:Nat,(i:Int)<a*b→ZfZ g f (wAt ws (2*i))
 | 0,ws,S,T,_,h,i,hi=>by
  simp only[YF,Option.some.injEq,Prod.mk.injEq]at h;obtain ⟨rfl,rfl,rfl⟩:=h;rw[show wAt (W0 a b c d e f g).ws (2*i)=0 from yl _ _];exact ZfU g f
 | k+1,ws,S,T,hk,h,i,hi=>by
  simp only[YF]at h;split at h
  ·cases h
  ·rename_i ws0 S0 T0 h0
   split at h
   ·cases h
   ·rename_i v u hO
    simp only[Option.some.injEq,Prod.mk.injEq]at h;obtain ⟨rfl,rfl,rfl⟩:=h;have hkl:k<els.length:=(by omega);have hrow:zh (els.getD k [])=true:=by
     rw[List.getD_eq_getElem?_getD,List.getElem?_eq_getElem hkl];exact List.all_eq_true.1 he _ (List.getElem_mem hkl)
    have hkn:=(Zaf hrow hO).1;obtain ⟨i1,i2,i3,i4,i5⟩:=XR hcf he k ws0 S0 T0 (by omega) h0;have ih:=Zbc hcf he k ws0 S0 T0 (by omega) h0 i hi;obtain ⟨kd,fl,sg,sl,sf,nm,sd,pr,le,un,hoe,_⟩:=Uj hrow;rw[hoe]at hO;obtain ⟨hv,hu,g1,g2,g3,g4,g5⟩:=ZaP hO;have hc:=ZE hcf;have hall:=ZB hcf;have hwd:=Yt (f:=f) (g:=g) (show 0≤a*b by omega) hall.2 (by omega) (by omega);by_cases hik:i=k
    ·subst hik
     rw[XD (by omega),yH (by omega)];exact ZjY hv fun _=>⟨g1,g2,by simp only;omega⟩
    ·rw[XD (by omega),XD (by omega)]
     exact ih
theorem q0_eq {ws SS TT:List (List AV)} (hcf:X7 a b c d e f g=true) (he:els.all zh=true) (h:YF a b c d e f g els els.length=some (ws,SS,TT)):qC a b c d e f g SS TT=qzC (Q0 (bW a b c d e f g els ws)):=by
 obtain ⟨_,_,_,⟨hSl,_,_,_⟩,⟨hTl,_,_,_⟩⟩:=XR hcf he _ _ _ _ (Nat.le_refl _) h;have hcell:=vC hcf he _ _ _ _ (Nat.le_refl _) h;have hall:=ZB hcf;have e1:SS=sLL (Q0 (bW a b c d e f g els ws)).S:=by
  refine List.ext_getElem? fun i=>?_;by_cases hi:i<(a*b).toNat
  ·rw[(hcell i (by omega)).1]
   have:(Q0 (bW a b c d e f g els ws)).S[i]?=some (stW (bW a b c d e f g els ws) i):=by
    show ((List.range (a*b).toNat).map _)[i]?=_;rw[List.getElem?_map,List.getElem?_range hi];rfl
   rw[T9 this];show some (stL (Zc (wAt ws (2*i))))=some (stL (Zc (wAt ws (2*(i:Int)).toNat)));rw[show (2*(i:Int)).toNat=2*i by omega]
  ·rw[List.getElem?_eq_none (by omega),List.getElem?_eq_none]
   rw[Uk];show ((List.range (a*b).toNat).map _).length≤i;rw[List.length_map,List.length_range];omega
 have e2:TT=tLL (Q0 (bW a b c d e f g els ws)).T:=by
  refine List.ext_getElem? fun i=>?_;by_cases hi:i<(a*b).toNat
  ·rw[(hcell i (by omega)).2.1]
   have:(Q0 (bW a b c d e f g els ws)).T[i]?=some (tmW (bW a b c d e f g els ws) i):=by
    show ((List.range (a*b).toNat).map _)[i]?=_;rw[List.getElem?_map,List.getElem?_range hi];rfl
   rw[vL this];show some (tmC (Yc (wAt ws (2*i+1))))=some (tmC (Yc (wAt ws (2*(i:Int)+1).toNat)));rw[show (2*(i:Int)+1).toNat=2*i+1 by omega]
  ·rw[List.getElem?_eq_none (by omega),List.getElem?_eq_none]
   rw[vu];show ((List.range (a*b).toNat).map _).length≤i;rw[List.length_map,List.length_range];omega
 have e3:jzL (a*b).toNat (g*(f+1)).toNat=jLL (Q0 (bW a b c d e f g els ws)).J:=by
  show List.replicate _ (jzR _)=(List.replicate (a*b).toNat (List.replicate (g*(f+1)).toNat (⟨0,0,0,0,0,0⟩:RcZ))).map jrL;rw[List.map_replicate]
  congr 1
  show jzR _=[.os 0 6 ((List.replicate (g*(f+1)).toNat (⟨0,0,0,0,0,0⟩:RcZ)).map rcL)];rw[List.map_replicate];rfl
 unfold qC;rw[e1,e2,e3];rfl
theorem ZcA (G F w x gn y s:Int):Za8 G F (tz0 w x gn y s):=⟨ZfU G F,ZfU G F,⟨by simp[tz0],by simp[tz0]⟩,⟨by simp[tz0],by simp[tz0]⟩,fun h=>by simp[tz0]at h,fun h=>by simp[tz0]at h,fun h=>by simp[tz0]at h⟩
theorem Ze4 {ws SS TT:List (List AV)} (hcf:X7 a b c d e f g=true) (he:els.all zh=true) (h:YF a b c d e f g els els.length=some (ws,SS,TT)) {Ts:List TZ} (hT:∀ T,T∈Ts→∃ w x g y s,T=tz0 w x g y s):vy (bW a b c d e f g els ws) (Q0 (bW a b c d e f g els ws)) Ts:=by
 obtain ⟨hW0,hWs,hel⟩:=ZgS hcf he h;have hcell3:=yN hcf he _ _ _ _ (Nat.le_refl _) h;have hrec:=Za9 hcf he _ _ _ _ (Nat.le_refl _) h;have hgen:=Zbc hcf he _ _ _ _ (Nat.le_refl _) h;have hall:=ZB hcf;have hc:=ZE hcf;have eX:∀ i:Nat,sAt (bW a b c d e f g els ws) (i:Int)=wAt ws (2*i):=fun i=>by
  unfold sAt;rw[show (2*(i:Int)).toNat=2*i by omega];rfl
 have hgW:yR (bW a b c d e f g els ws):=fun i i0 i1=>by
  obtain ⟨X,rfl⟩:=Int.eq_ofNat_of_zero_le i0;rw[eX];exact hgen X i1
 have m0:0≤g*(f+1):=Int.mul_nonneg (by omega) (by omega);refine ⟨⟨_,_,Zd0 hW0 (fun i i0 i1=>?_) rfl hT⟩,⟨hW0,?_,⟨rfl,rfl,rfl,rfl,rfl,rfl⟩,fun i i0 i1=>?_,fun i i0 i1=>?_,fun i gn n i0 i1 g0 g1 n0 n1=>?_,rfl,rfl⟩,hgW,fun T hm=>?_,fun T hm=>?_⟩
 ·obtain ⟨X,rfl⟩:=Int.eq_ofNat_of_zero_le i0
  unfold stW;rw[eX];exact hcell3 X i1
 ·refine decide_eq_true ⟨hcf,?_,?_,?_,fun l hl=>?_,by simp[Q0],by simp[Q0],rfl,by simp[Q0]⟩
  ·show (((List.range (a*b).toNat).map _).length:Int)=a*b
   rw[List.length_map,List.length_range];omega
  ·show (((List.range (a*b).toNat).map _).length:Int)=a*b
   rw[List.length_map,List.length_range];omega
  ·show ((List.replicate (a*b).toNat _).length:Int)=a*b
   rw[List.length_replicate];omega
  ·rw[List.eq_of_mem_replicate hl,List.length_replicate]
   show ((g*(f+1)).toNat:Int)=g*(f+1);omega
 ·replace i1:i<a*b:=i1
  show ((List.range (a*b).toNat).map _)[i.toNat]?=_;rw[List.getElem?_map,List.getElem?_range (by omega)];show some (stW _ (i.toNat:Int))=_;rw[show (i.toNat:Int)=i by omega]
 ·replace i1:i<a*b:=i1
  show ((List.range (a*b).toNat).map _)[i.toNat]?=_;rw[List.getElem?_map,List.getElem?_range (by omega)];show some (tmW _ (i.toNat:Int))=_;rw[show (i.toNat:Int)=i by omega]
 ·replace i1:i<a*b:=i1
  replace g1:gn≤g:=g1;replace n1:n≤f:=n1;refine ⟨List.replicate (g*(f+1)).toNat ⟨0,0,0,0,0,0⟩,?_,?_⟩
  ·show (List.replicate (a*b).toNat _)[i.toNat]?=_
   rw[List.getElem?_replicate,if_pos (by omega)]
   rfl
  ·have k1:0≤(gn - 1)*(f+1):=Int.mul_nonneg (by omega) (by omega)
   have k2:(gn - 1+1)*(f+1)≤g*(f+1):=Int.mul_le_mul_of_nonneg_right (by omega) (by omega);rw[Int.add_mul,Int.one_mul]at k2;have hlo:=(xv i0 i1 g0 g1 n0 n1).1;have hz:wAt ws (ZY a b f g i gn n).toNat=0:=hrec _ (by omega);show (List.replicate (g*(f+1)).toNat _)[((gn - 1)*(f+1)+n).toNat]?=some (Vn (wAt ws (ZY a b f g i gn n).toNat));rw[hz,List.getElem?_replicate,if_pos (by omega)]
   rfl
 ·obtain ⟨w,x,gn,y,s,rfl⟩:=hT T hm
  exact ZcA _ _ _ _ _ _ _
 ·obtain ⟨w,x,gn,y,s,rfl⟩:=hT T hm
  exact ZgT _ _ _ _ _
end
end Go.W
