/- A part of the proofs about the pair's laws (PsM, PsN). -/
import Derived.Test.YtidbbnkpglggdaaGreatPsL
import Derived.Test.YtidbbnkpglggdaaGreatPaA
namespace Go.W
open Go.Proofs
set_option linter.unusedSimpArgs false
set_option linter.unusedVariables false
set_option maxHeartbeats 8000000
set_option maxRecDepth 100000
attribute [local irreducible] Wm WmA
attribute [local simp] YP lkp Vq prs V9 prT ddL idL Yy Ue Ren Ve NObj.none ZT
def d102:List AV→Option Ans
 | [.op _ tc,.op _ wc,.agg [.int .i64 k,.bool fl,.int .i64 sg,.int .i64 sl,.int .i64 sf]]=>(match ve tc,yF wc with
  | some T,some W=>if okW W=true then some (⟨.bool (Z9 W T ⟨k,fl,sg,sl,sf⟩),[.free,.free]⟩) else none
  | _,_=>none)
 | _=>none
theorem ok102:NOk [(35,false),(10,false)] d102:=by
 intro xs aa h;unfold d102 at h;split at h
 ·rename_i t1 tc t2 wc k fl sg sl sf
  split at h
  ·rename_i T W hTc hWc
   split at h
   ·rename_i hc
    obtain ⟨u1,u2,u3,u4,rfl⟩:=ZN hWc;obtain rfl:=ZL hTc;injection h with h;subst h;obtain ⟨hcf,hw,hwl,hs0,ht0,ht1,hlg⟩:=Zk hc;have hT:=ZW hw;have hC:=ZV hw;have hTl:=ZC hlg;have hCl:=ZD hlg;refine ⟨Zp ?_,?_⟩<;>simp[tzC,wzL,hT,hC,hTl,hCl]
   ·cases h
  ·cases h
 ·cases h
theorem s102:Sound Tryz.prog 102 (Zm [(35,false),(10,false)] d102 ok102):=by
 refine Zi (ac:=?ac) (res:=?res) Tryz.func102 (by kernel_rfl) (ha:=?ha) (hk:=?hk) (hok:=ok102) (fun xs a h=>?_) fun xs a h w0 S hS=>?_
 case ha=>conv=>lhs;cbv
 case hk=>kernel_rfl
 ·unfold d102 at h
  (repeat' (split at h))<;>first|(cases h;done)|exact Nat.le_of_ble_eq_true rfl
 unfold d102 at h;split at h
 ·rename_i t1 tc t2 wc k fl sg sl sf
  split at h
  ·rename_i T W hTc hWc
   split at h
   ·rename_i hcond
    obtain ⟨u1,u2,u3,u4,rfl⟩:=ZN hWc;obtain rfl:=ZL hTc;injection h with h;subst h;clear hTc hWc;have hE:Zd Tryz.prog (EL [(97,rdS d97 ok97)]):=Ze (by simp only[List.mem_cons,List.not_mem_nil,or_false,forall_eq_or_imp,forall_eq];exact s97);obtain ⟨hcf,hw,hwl,hs0,ht0,ht1,hlg⟩:=Zk hcond;have hT:=ZW hw;have hC:=ZV hw;have hTl:=ZC hlg;have hCl:=ZD hlg;simp only[tzC,wzL]at hS⊢;by_cases h1:T.way=1
    ·by_cases h5:k=1
     ·by_cases h6:sg=T.gn
      ·have hi:Z9 W T ⟨k,fl,sg,sl,sf⟩=true:=by simp[Z9,h1,h5,h6]
       rw[hi]
       repeat' with_reducible (first|refine ZR.h ?_|refine kI ?_|((first|refine kR hE ?_|refine kD hE Zq ?_);intro K hK;simp[hT,hC,hTl,hCl,hcf,h1,h5,h6,d97];(repeat' (first|refine hK _ _ ?_|apply And.intro|(intro hc;try subst hc)))<;>(try clear hK K))|(refine kT (fun hc=>?_) (fun hc=>?_)<;>simp at hc<;>(try subst hc)))
       all_goals first|(show Zb _ _=true;kernel_rfl)|(simp;done)|(simp at *;omega)|((try simp[hT,hC,hTl,hCl]);refine Imp.aut ?_ ?_<;>simp[NLe,hT,hC,hTl,hCl])
      ·have hi:Z9 W T ⟨k,fl,sg,sl,sf⟩=false:=by simp[Z9,h1,h5,h6]
       rw[hi]
       repeat' with_reducible (first|refine ZR.h ?_|refine kI ?_|((first|refine kR hE ?_|refine kD hE Zq ?_);intro K hK;simp[hT,hC,hTl,hCl,hcf,h1,h5,h6,d97];(repeat' (first|refine hK _ _ ?_|apply And.intro|(intro hc;try subst hc)))<;>(try clear hK K))|(refine kT (fun hc=>?_) (fun hc=>?_)<;>simp at hc<;>(try subst hc)))
       all_goals first|(show Zb _ _=true;kernel_rfl)|(simp;done)|(simp at *;omega)|((try simp[hT,hC,hTl,hCl]);refine Imp.aut ?_ ?_<;>simp[NLe,hT,hC,hTl,hCl])
     ·have hi:Z9 W T ⟨k,fl,sg,sl,sf⟩=false:=by simp[Z9,h1,h5]
      rw[hi]
      repeat' with_reducible (first|refine ZR.h ?_|refine kI ?_|((first|refine kR hE ?_|refine kD hE Zq ?_);intro K hK;simp[hT,hC,hTl,hCl,hcf,h1,h5,d97];(repeat' (first|refine hK _ _ ?_|apply And.intro|(intro hc;try subst hc)))<;>(try clear hK K))|(refine kT (fun hc=>?_) (fun hc=>?_)<;>simp at hc<;>(try subst hc)))
      all_goals first|(show Zb _ _=true;kernel_rfl)|(simp;done)|(simp at *;omega)|((try simp[hT,hC,hTl,hCl]);refine Imp.aut ?_ ?_<;>simp[NLe,hT,hC,hTl,hCl])
    ·by_cases h2:T.way=2
     ·by_cases h5:k=1
      ·by_cases h6:sg=T.gn
       ·have hi:Z9 W T ⟨k,fl,sg,sl,sf⟩=true:=by simp[Z9,h1,h2,h5,h6]
        rw[hi]
        repeat' with_reducible (first|refine ZR.h ?_|refine kI ?_|((first|refine kR hE ?_|refine kD hE Zq ?_);intro K hK;simp[hT,hC,hTl,hCl,hcf,h1,h2,h5,h6,d97];(repeat' (first|refine hK _ _ ?_|apply And.intro|(intro hc;try subst hc)))<;>(try clear hK K))|(refine kT (fun hc=>?_) (fun hc=>?_)<;>simp at hc<;>(try subst hc)))
        all_goals first|(show Zb _ _=true;kernel_rfl)|(simp;done)|(simp at *;omega)|((try simp[hT,hC,hTl,hCl]);refine Imp.aut ?_ ?_<;>simp[NLe,hT,hC,hTl,hCl])
       ·have hi:Z9 W T ⟨k,fl,sg,sl,sf⟩=false:=by simp[Z9,h1,h2,h5,h6]
        rw[hi]
        repeat' with_reducible (first|refine ZR.h ?_|refine kI ?_|((first|refine kR hE ?_|refine kD hE Zq ?_);intro K hK;simp[hT,hC,hTl,hCl,hcf,h1,h2,h5,h6,d97];(repeat' (first|refine hK _ _ ?_|apply And.intro|(intro hc;try subst hc)))<;>(try clear hK K))|(refine kT (fun hc=>?_) (fun hc=>?_)<;>simp at hc<;>(try subst hc)))
        all_goals first|(show Zb _ _=true;kernel_rfl)|(simp;done)|(simp at *;omega)|((try simp[hT,hC,hTl,hCl]);refine Imp.aut ?_ ?_<;>simp[NLe,hT,hC,hTl,hCl])
      ·have hi:Z9 W T ⟨k,fl,sg,sl,sf⟩=false:=by simp[Z9,h1,h2,h5]
       rw[hi]
       repeat' with_reducible (first|refine ZR.h ?_|refine kI ?_|((first|refine kR hE ?_|refine kD hE Zq ?_);intro K hK;simp[hT,hC,hTl,hCl,hcf,h1,h2,h5,d97];(repeat' (first|refine hK _ _ ?_|apply And.intro|(intro hc;try subst hc)))<;>(try clear hK K))|(refine kT (fun hc=>?_) (fun hc=>?_)<;>simp at hc<;>(try subst hc)))
       all_goals first|(show Zb _ _=true;kernel_rfl)|(simp;done)|(simp at *;omega)|((try simp[hT,hC,hTl,hCl]);refine Imp.aut ?_ ?_<;>simp[NLe,hT,hC,hTl,hCl])
     ·by_cases h3:T.way=3
      ·by_cases h5:k=2
       ·by_cases h6:T.tx.sd=0
        ·by_cases h7:ZK W.c W.d T.tx.nm (Yj W.d T.tx.pr)=T.sh
         ·have hi:Z9 W T ⟨k,fl,sg,sl,sf⟩=true:=by simp[Z9,h1,h2,h3,h5,h6,h7]
          rw[hi]
          repeat' with_reducible (first|refine ZR.h ?_|refine kI ?_|((first|refine kR hE ?_|refine kD hE Zq ?_);intro K hK;simp[hT,hC,hTl,hCl,hcf,h1,h2,h3,h5,h6,h7,d97];(repeat' (first|refine hK _ _ ?_|apply And.intro|(intro hc;try subst hc)))<;>(try clear hK K))|(refine kT (fun hc=>?_) (fun hc=>?_)<;>simp at hc<;>(try subst hc)))
          all_goals first|(show Zb _ _=true;kernel_rfl)|(simp;done)|(simp at *;omega)|((try simp[hT,hC,hTl,hCl]);refine Imp.aut ?_ ?_<;>simp[NLe,hT,hC,hTl,hCl])
         ·have hi:Z9 W T ⟨k,fl,sg,sl,sf⟩=false:=by simp[Z9,h1,h2,h3,h5,h6,h7]
          rw[hi]
          repeat' with_reducible (first|refine ZR.h ?_|refine kI ?_|((first|refine kR hE ?_|refine kD hE Zq ?_);intro K hK;simp[hT,hC,hTl,hCl,hcf,h1,h2,h3,h5,h6,h7,d97];(repeat' (first|refine hK _ _ ?_|apply And.intro|(intro hc;try subst hc)))<;>(try clear hK K))|(refine kT (fun hc=>?_) (fun hc=>?_)<;>simp at hc<;>(try subst hc)))
          all_goals first|(show Zb _ _=true;kernel_rfl)|(simp;done)|(simp at *;omega)|((try simp[hT,hC,hTl,hCl]);refine Imp.aut ?_ ?_<;>simp[NLe,hT,hC,hTl,hCl])
        ·have hi:Z9 W T ⟨k,fl,sg,sl,sf⟩=false:=by simp[Z9,h1,h2,h3,h5,h6]
         rw[hi]
         repeat' with_reducible (first|refine ZR.h ?_|refine kI ?_|((first|refine kR hE ?_|refine kD hE Zq ?_);intro K hK;simp[hT,hC,hTl,hCl,hcf,h1,h2,h3,h5,h6,d97];(repeat' (first|refine hK _ _ ?_|apply And.intro|(intro hc;try subst hc)))<;>(try clear hK K))|(refine kT (fun hc=>?_) (fun hc=>?_)<;>simp at hc<;>(try subst hc)))
         all_goals first|(show Zb _ _=true;kernel_rfl)|(simp;done)|(simp at *;omega)|((try simp[hT,hC,hTl,hCl]);refine Imp.aut ?_ ?_<;>simp[NLe,hT,hC,hTl,hCl])
       ·have hi:Z9 W T ⟨k,fl,sg,sl,sf⟩=false:=by simp[Z9,h1,h2,h3,h5]
        rw[hi]
        repeat' with_reducible (first|refine ZR.h ?_|refine kI ?_|((first|refine kR hE ?_|refine kD hE Zq ?_);intro K hK;simp[hT,hC,hTl,hCl,hcf,h1,h2,h3,h5,d97];(repeat' (first|refine hK _ _ ?_|apply And.intro|(intro hc;try subst hc)))<;>(try clear hK K))|(refine kT (fun hc=>?_) (fun hc=>?_)<;>simp at hc<;>(try subst hc)))
        all_goals first|(show Zb _ _=true;kernel_rfl)|(simp;done)|(simp at *;omega)|((try simp[hT,hC,hTl,hCl]);refine Imp.aut ?_ ?_<;>simp[NLe,hT,hC,hTl,hCl])
      ·have hi:Z9 W T ⟨k,fl,sg,sl,sf⟩=false:=by simp[Z9,h1,h2,h3]
       rw[hi]
       repeat' with_reducible (first|refine ZR.h ?_|refine kI ?_|((first|refine kR hE ?_|refine kD hE Zq ?_);intro K hK;simp[hT,hC,hTl,hCl,hcf,h1,h2,h3,d97];(repeat' (first|refine hK _ _ ?_|apply And.intro|(intro hc;try subst hc)))<;>(try clear hK K))|(refine kT (fun hc=>?_) (fun hc=>?_)<;>simp at hc<;>(try subst hc)))
       all_goals first|(show Zb _ _=true;kernel_rfl)|(simp;done)|(simp at *;omega)|((try simp[hT,hC,hTl,hCl]);refine Imp.aut ?_ ?_<;>simp[NLe,hT,hC,hTl,hCl])
   ·cases h
  ·cases h
 ·cases h
def d104:List AV→Option Ans
 | [.op _ tc,.op _ wc,.agg [.int .i64 k,.bool fl,.int .i64 sg,.int .i64 sl,.int .i64 sf]]=>(match ve tc,yF wc with
  | some T,some W=>if okW W=true then some (⟨.bool (YG W T ⟨k,fl,sg,sl,sf⟩),[.free,.free]⟩) else none
  | _,_=>none)
 | _=>none
theorem ok104:NOk [(35,false),(10,false)] d104:=by
 intro xs aa h;unfold d104 at h;split at h
 ·rename_i t1 tc t2 wc k fl sg sl sf
  split at h
  ·rename_i T W hTc hWc
   split at h
   ·rename_i hc
    obtain ⟨u1,u2,u3,u4,rfl⟩:=ZN hWc;obtain rfl:=ZL hTc;injection h with h;subst h;obtain ⟨hcf,hw,hwl,hs0,ht0,ht1,hlg⟩:=Zk hc;have hT:=ZW hw;have hC:=ZV hw;have hTl:=ZC hlg;have hCl:=ZD hlg;refine ⟨Zp ?_,?_⟩<;>simp[tzC,wzL,hT,hC,hTl,hCl]
   ·cases h
  ·cases h
 ·cases h
theorem s104:Sound Tryz.prog 104 (Zm [(35,false),(10,false)] d104 ok104):=by
 refine Zi (ac:=?ac) (res:=?res) Tryz.func104 (by kernel_rfl) (ha:=?ha) (hk:=?hk) (hok:=ok104) (fun xs a h=>?_) fun xs a h w0 S hS=>?_
 case ha=>conv=>lhs;cbv
 case hk=>kernel_rfl
 ·unfold d104 at h
  (repeat' (split at h))<;>first|(cases h;done)|exact Nat.le_of_ble_eq_true rfl
 unfold d104 at h;split at h
 ·rename_i t1 tc t2 wc k fl sg sl sf
  split at h
  ·rename_i T W hTc hWc
   split at h
   ·rename_i hcond
    obtain ⟨u1,u2,u3,u4,rfl⟩:=ZN hWc;obtain rfl:=ZL hTc;injection h with h;subst h;clear hTc hWc;have hE:Zd Tryz.prog (EL [(97,rdS d97 ok97)]):=Ze (by simp only[List.mem_cons,List.not_mem_nil,or_false,forall_eq_or_imp,forall_eq];exact s97);obtain ⟨hcf,hw,hwl,hs0,ht0,ht1,hlg⟩:=Zk hcond;have hT:=ZW hw;have hC:=ZV hw;have hTl:=ZC hlg;have hCl:=ZD hlg;simp only[tzC,wzL]at hS⊢;by_cases h1:T.way=1
    ·by_cases h5:k=1
     ·have hi:YG W T ⟨k,fl,sg,sl,sf⟩=true:=by simp[YG,h1,h5]
      rw[hi]
      repeat' with_reducible (first|refine ZR.h ?_|refine kI ?_|((first|refine kR hE ?_|refine kD hE Zq ?_);intro K hK;simp[hT,hC,hTl,hCl,hcf,h1,h5,d97];(repeat' (first|refine hK _ _ ?_|apply And.intro|(intro hc;try subst hc)))<;>(try clear hK K))|(refine kT (fun hc=>?_) (fun hc=>?_)<;>simp at hc<;>(try subst hc)))
      all_goals first|(show Zb _ _=true;kernel_rfl)|(simp;done)|(simp at *;omega)|((try simp[hT,hC,hTl,hCl]);refine Imp.aut ?_ ?_<;>simp[NLe,hT,hC,hTl,hCl])
     ·have hi:YG W T ⟨k,fl,sg,sl,sf⟩=false:=by simp[YG,h1,h5]
      rw[hi]
      repeat' with_reducible (first|refine ZR.h ?_|refine kI ?_|((first|refine kR hE ?_|refine kD hE Zq ?_);intro K hK;simp[hT,hC,hTl,hCl,hcf,h1,h5,d97];(repeat' (first|refine hK _ _ ?_|apply And.intro|(intro hc;try subst hc)))<;>(try clear hK K))|(refine kT (fun hc=>?_) (fun hc=>?_)<;>simp at hc<;>(try subst hc)))
      all_goals first|(show Zb _ _=true;kernel_rfl)|(simp;done)|(simp at *;omega)|((try simp[hT,hC,hTl,hCl]);refine Imp.aut ?_ ?_<;>simp[NLe,hT,hC,hTl,hCl])
    ·by_cases h2:T.way=2
     ·by_cases h7:ZK W.c W.d T.ty.nm (Yj W.d T.ty.pr)=T.sh
      ·by_cases h5:k=2
       ·have hi:YG W T ⟨k,fl,sg,sl,sf⟩=true:=by simp[YG,h1,h2,h7,h5]
        rw[hi]
        repeat' with_reducible (first|refine ZR.h ?_|refine kI ?_|((first|refine kR hE ?_|refine kD hE Zq ?_);intro K hK;simp[hT,hC,hTl,hCl,hcf,h1,h2,h7,h5,d97];(repeat' (first|refine hK _ _ ?_|apply And.intro|(intro hc;try subst hc)))<;>(try clear hK K))|(refine kT (fun hc=>?_) (fun hc=>?_)<;>simp at hc<;>(try subst hc)))
        all_goals first|(show Zb _ _=true;kernel_rfl)|(simp;done)|(simp at *;omega)|((try simp[hT,hC,hTl,hCl]);refine Imp.aut ?_ ?_<;>simp[NLe,hT,hC,hTl,hCl])
       ·have hi:YG W T ⟨k,fl,sg,sl,sf⟩=false:=by simp[YG,h1,h2,h7,h5]
        rw[hi]
        repeat' with_reducible (first|refine ZR.h ?_|refine kI ?_|((first|refine kR hE ?_|refine kD hE Zq ?_);intro K hK;simp[hT,hC,hTl,hCl,hcf,h1,h2,h7,h5,d97];(repeat' (first|refine hK _ _ ?_|apply And.intro|(intro hc;try subst hc)))<;>(try clear hK K))|(refine kT (fun hc=>?_) (fun hc=>?_)<;>simp at hc<;>(try subst hc)))
        all_goals first|(show Zb _ _=true;kernel_rfl)|(simp;done)|(simp at *;omega)|((try simp[hT,hC,hTl,hCl]);refine Imp.aut ?_ ?_<;>simp[NLe,hT,hC,hTl,hCl])
      ·have hi:YG W T ⟨k,fl,sg,sl,sf⟩=false:=by simp[YG,h1,h2,h7]
       rw[hi]
       repeat' with_reducible (first|refine ZR.h ?_|refine kI ?_|((first|refine kR hE ?_|refine kD hE Zq ?_);intro K hK;simp[hT,hC,hTl,hCl,hcf,h1,h2,h7,d97];(repeat' (first|refine hK _ _ ?_|apply And.intro|(intro hc;try subst hc)))<;>(try clear hK K))|(refine kT (fun hc=>?_) (fun hc=>?_)<;>simp at hc<;>(try subst hc)))
       all_goals first|(show Zb _ _=true;kernel_rfl)|(simp;done)|(simp at *;omega)|((try simp[hT,hC,hTl,hCl]);refine Imp.aut ?_ ?_<;>simp[NLe,hT,hC,hTl,hCl])
     ·by_cases h3:T.way=3
      ·by_cases h5:k=2
       ·have hi:YG W T ⟨k,fl,sg,sl,sf⟩=true:=by simp[YG,h1,h2,h3,h5]
        rw[hi]
        repeat' with_reducible (first|refine ZR.h ?_|refine kI ?_|((first|refine kR hE ?_|refine kD hE Zq ?_);intro K hK;simp[hT,hC,hTl,hCl,hcf,h1,h2,h3,h5,d97];(repeat' (first|refine hK _ _ ?_|apply And.intro|(intro hc;try subst hc)))<;>(try clear hK K))|(refine kT (fun hc=>?_) (fun hc=>?_)<;>simp at hc<;>(try subst hc)))
        all_goals first|(show Zb _ _=true;kernel_rfl)|(simp;done)|(simp at *;omega)|((try simp[hT,hC,hTl,hCl]);refine Imp.aut ?_ ?_<;>simp[NLe,hT,hC,hTl,hCl])
       ·have hi:YG W T ⟨k,fl,sg,sl,sf⟩=false:=by simp[YG,h1,h2,h3,h5]
        rw[hi]
        repeat' with_reducible (first|refine ZR.h ?_|refine kI ?_|((first|refine kR hE ?_|refine kD hE Zq ?_);intro K hK;simp[hT,hC,hTl,hCl,hcf,h1,h2,h3,h5,d97];(repeat' (first|refine hK _ _ ?_|apply And.intro|(intro hc;try subst hc)))<;>(try clear hK K))|(refine kT (fun hc=>?_) (fun hc=>?_)<;>simp at hc<;>(try subst hc)))
        all_goals first|(show Zb _ _=true;kernel_rfl)|(simp;done)|(simp at *;omega)|((try simp[hT,hC,hTl,hCl]);refine Imp.aut ?_ ?_<;>simp[NLe,hT,hC,hTl,hCl])
      ·have hi:YG W T ⟨k,fl,sg,sl,sf⟩=false:=by simp[YG,h1,h2,h3]
       rw[hi]
       repeat' with_reducible (first|refine ZR.h ?_|refine kI ?_|((first|refine kR hE ?_|refine kD hE Zq ?_);intro K hK;simp[hT,hC,hTl,hCl,hcf,h1,h2,h3,d97];(repeat' (first|refine hK _ _ ?_|apply And.intro|(intro hc;try subst hc)))<;>(try clear hK K))|(refine kT (fun hc=>?_) (fun hc=>?_)<;>simp at hc<;>(try subst hc)))
       all_goals first|(show Zb _ _=true;kernel_rfl)|(simp;done)|(simp at *;omega)|((try simp[hT,hC,hTl,hCl]);refine Imp.aut ?_ ?_<;>simp[NLe,hT,hC,hTl,hCl])
   ·cases h
  ·cases h
 ·cases h
def d109:List AV→Option Ans
 | [.op _ tc,.int .i64 c,.int .i64 g]=>(match ve tc with
  | some T=>some (⟨rcA ⟨1,T.q,T.p,T.ta,c,g⟩,[.free]⟩)
  | _=>none)
 | _=>none
theorem ok109:NOk [(35,false)] d109:=by
 intro xs aa h;unfold d109 at h;split at h
 ·rename_i t1 tc c g
  split at h
  ·rename_i T hTc
   obtain rfl:=ZL hTc;injection h with h;subst h;refine ⟨Zp ?_,?_⟩<;>simp[tzC,rcA]
  ·cases h
 ·cases h
theorem s109:Sound Tryz.prog 109 (Zm [(35,false)] d109 ok109):=by
 refine Zi (ac:=?ac) (res:=?res) Tryz.func109 (by kernel_rfl) (ha:=?ha) (hk:=?hk) (hok:=ok109) (fun xs a h=>?_) fun xs a h w0 S hS=>?_
 case ha=>conv=>lhs;cbv
 case hk=>kernel_rfl
 ·unfold d109 at h
  (repeat' (split at h))<;>first|(cases h;done)|exact Nat.le_of_ble_eq_true rfl
 unfold d109 at h;split at h
 ·rename_i t1 tc c g
  split at h
  ·rename_i T hTc
   obtain rfl:=ZL hTc;injection h with h;subst h;clear hTc;simp only[tzC]at hS⊢;have hE:Zd Tryz.prog (EL []):=Ze (by simp)
   repeat' with_reducible (first|refine ZR.h ?_|refine kI ?_|((first|refine kR hE ?_|refine kD hE Zq ?_);intro K hK;simp[rcA];(repeat' (first|refine hK _ _ ?_|apply And.intro|(intro hc;try subst hc)))<;>(try clear hK K))|(refine kT (fun hc=>?_) (fun hc=>?_)<;>simp at hc<;>(try subst hc)))
   all_goals first|(show Zb _ _=true;kernel_rfl)|(simp;done)|(simp at *;omega)|((try simp[rcA]);refine Imp.aut ?_ ?_<;>simp[NLe,rcA])
  ·cases h
 ·cases h
def d11:List AV→Option Ans
 | [.op _ tc]=>(match ve tc with
  | some T=>some (⟨.bool (decide (14≤T.pc)),[.free]⟩)
  | _=>none)
 | _=>none
theorem ok11:NOk [(35,false)] d11:=by
 intro xs aa h;unfold d11 at h;split at h
 ·rename_i t1 tc
  split at h
  ·rename_i T hTc
   obtain rfl:=ZL hTc;injection h with h;subst h;refine ⟨Zp ?_,?_⟩<;>simp[tzC]
  ·cases h
 ·cases h
theorem s11:Sound Tryz.prog 11 (Zm [(35,false)] d11 ok11):=by
 refine Zi (ac:=?ac) (res:=?res) Tryz.func11 (by kernel_rfl) (ha:=?ha) (hk:=?hk) (hok:=ok11) (fun xs a h=>?_) fun xs a h w0 S hS=>?_
 case ha=>conv=>lhs;cbv
 case hk=>kernel_rfl
 ·unfold d11 at h
  (repeat' (split at h))<;>first|(cases h;done)|exact Nat.le_of_ble_eq_true rfl
 unfold d11 at h;split at h
 ·rename_i t1 tc
  split at h
  ·rename_i T hTc
   obtain rfl:=ZL hTc;injection h with h;subst h;clear hTc;simp only[tzC]at hS⊢;have hE:Zd Tryz.prog (EL []):=Ze (by simp);by_cases h1:14≤T.pc
   ·skip
    repeat' with_reducible (first|refine ZR.h ?_|refine kI ?_|(refine kR hE ?_;intro K hK;simp[h1];(repeat' (first|refine hK _ _ ?_|apply And.intro|(intro hc;try subst hc)))<;>(try clear hK K))|(refine kT (fun hc=>?_) (fun hc=>?_)<;>simp at hc<;>(try subst hc)))
    all_goals first|(show Zb _ _=true;kernel_rfl)|(simp;done)|(simp at *;omega)|((try simp[h1]);refine Imp.aut ?_ ?_<;>simp[NLe,h1])
   ·skip
    repeat' with_reducible (first|refine ZR.h ?_|refine kI ?_|(refine kR hE ?_;intro K hK;simp[h1];(repeat' (first|refine hK _ _ ?_|apply And.intro|(intro hc;try subst hc)))<;>(try clear hK K))|(refine kT (fun hc=>?_) (fun hc=>?_)<;>simp at hc<;>(try subst hc)))
    all_goals first|(show Zb _ _=true;kernel_rfl)|(simp;done)|(simp at *;omega)|((try simp[h1]);refine Imp.aut ?_ ?_<;>simp[NLe,h1])
  ·cases h
 ·cases h
def tz0 (w x g y s:Int):TZ:=⟨w,x,g,y,s,0,0,0,⟨0,0,0,0,0⟩,⟨0,0,0,0,0⟩,false,false,false,0,0,0,0,Zu,Zu⟩
def d7:List AV→Option Ans
 | [.agg [.int .i64 w,.int .i64 x,.int .i64 g,.int .i64 y,.int .i64 s]]=>some ⟨.op 0 (tzC (tz0 w x g y s)),[]⟩
 | _=>none
theorem ok7:NOk [] d7:=by
 intro xs a h;unfold d7 at h
 (repeat' (split at h))<;>first|(cases h;done)|(injection h with h;subst h;refine ⟨Zp ?_,?_⟩<;>simp[tzC,tz0,Zu])
theorem s7:Sound Tryz.prog 7 (Zm [] d7 ok7):=by
 refine Zi (ac:=?ac) (res:=?res) Tryz.func7 (by kernel_rfl) (ha:=?ha) (hk:=?hk) (hok:=ok7) (fun xs a h=>?_) fun xs a h w0 S hS=>?_
 case ha=>conv=>lhs;cbv
 case hk=>kernel_rfl
 ·unfold d7 at h
  (repeat' (split at h))<;>first|(cases h;done)|exact Nat.le_of_ble_eq_true rfl
 unfold d7 at h;split at h
 ·rename_i w x g y s
  injection h with h;subst h;have hE:Zd Tryz.prog (EL []):=Ze (by simp)
  repeat' with_reducible (first|refine ZR.h ?_|refine kI ?_|(refine kR hE ?_;intro K hK;simp[tzC,tz0,Zu];(repeat' (first|refine hK _ _ ?_|apply And.intro|(intro hc;try subst hc)))<;>(try clear hK K))|(refine kT (fun hc=>?_) (fun hc=>?_)<;>simp at hc<;>(try subst hc)))
  all_goals first|(show Zb _ _=true;kernel_rfl)|(simp;done)|(simp at *;omega)|((try simp[tzC,tz0,Zu]);refine Imp.aut ?_ ?_<;>simp[NLe,tzC,tz0,Zu])
 ·cases h
def loW (W:WZ):Bool:=decide (W.s≤100000000∧W.lg.length≤100000)
theorem vv {W:WZ} (h:loW W=true):W.s≤100000000∧W.lg.length≤100000:=of_decide_eq_true h
def smW (W:WZ):Bool:=decide (W.s≤1000000∧W.lg.length≤50000)
theorem TD {W:WZ} (h:smW W=true):W.s≤1000000∧W.lg.length≤50000:=of_decide_eq_true h
theorem U8 {W:WZ} (h:smW W=true):loW W=true:=by
 have:=TD h;exact decide_eq_true (by omega)
def Yn (W:WZ):WZ:={ W with s:=W.s+1 }
def Zbk (W:WZ) (i:Nat) (v:Int):WZ:={ W with ws:=W.ws.set i [.int .u64 v],s:=W.s+1 }
def sAt (W:WZ) (x:Int):Int:=wAt W.ws (2*x).toNat
def tAt (W:WZ) (x:Int):Int:=wAt W.ws (2*x+1).toNat
def Zs (W:WZ) (x old:Int) (s:StZ):Bool×WZ :=
 match ZX s with
 | none=>(false,W)
 | some v=>if sAt W x=old then (true,Zbk W (2*x).toNat v) else (false,Yn W)
def ZH (W:WZ) (x g n:Int) (r:RcZ):WZ :=
 match zK r with
 | none=>W
 | some v=>if ZY W.a W.b W.f W.g x g n<0 then W else if (W.ws.length:Int)≤ZY W.a W.b W.f W.g x g n then W else Zbk W (ZY W.a W.b W.f W.g x g n).toNat v
def evC (k c g o w q p t e:Int):List AV:=[.int .i64 k,.int .i64 c,.int .i64 g,.int .i64 o,.int .i64 w,.int .i64 0,.int .i64 0,.int .i64 0,.int .i64 0,.int .i64 0,.int .i64 q,.int .i64 p,.int .i64 t,.int .i64 e]
def Vz (W:WZ) (k c g o w q p e:Int):WZ:={ W with lg:=W.lg++[evC k c g o w q p W.t e] }
theorem X2 {W:WZ} (h:okW W=true):okW (Yn W)=true:=by
 obtain ⟨h1,h2,h3,h4,h5,h6,h7⟩:=Zk h;exact decide_eq_true ⟨h1,h2,h3,by simp only[Yn];omega,h5,h6,h7⟩
theorem Zhr {W:WZ} (h:okW W=true) (i:Nat) {v:Int} (v0:0≤v) (v1:v<18446744073709551616):okW (Zbk W i v)=true:=by
 obtain ⟨h1,h2,h3,h4,h5,h6,h7⟩:=Zk h;exact decide_eq_true ⟨h1,TI h2 v0 v1 i,by simp only[Zbk,List.length_set];exact h3,by simp only[Zbk];omega,h5,h6,h7⟩
theorem Yi {W:WZ} (h:okW W=true) (x old:Int) (s:StZ):okW (Zs W x old s).2=true:=by
 unfold Zs;cases hv:ZX s with
 | none=>exact h
 | some v =>
  obtain ⟨v0,v1⟩:=U6 hv;simp only;split
  ·exact Zhr h _ v0 v1
  ·exact X2 h
theorem VX {W:WZ} (h:okW W=true) (x g n:Int) (r:RcZ):okW (ZH W x g n r)=true:=by
 unfold ZH;cases hv:zK r with
 | none=>exact h
 | some v =>
  obtain ⟨v0,v1⟩:=ZaM hv;simp only;split
  ·exact h
  ·split
   ·exact h
   ·exact Zhr h _ v0 v1
theorem Vl {W:WZ} (h:okW W=true) (k c g o w q p e:Int):okW (Vz W k c g o w q p e)=true:=by
 obtain ⟨h1,h2,h3,h4,h5,h6,h7⟩:=Zk h;refine decide_eq_true ⟨h1,h2,h3,h4,h5,h6,?_⟩;simp only[Vz,List.all_append,h7]
 rfl
theorem Xw (W:WZ) (x old:Int) (s:StZ):((Zs W x old s).2.s=W.s∨(Zs W x old s).2.s=W.s+1)∧(Zs W x old s).2.lg=W.lg∧(Zs W x old s).2.t=W.t∧(Zs W x old s).2.a=W.a∧(Zs W x old s).2.b=W.b:=by
 unfold Zs;split
 ·simp
 ·split<;>simp[Zbk,Yn]
theorem xB (W:WZ) (x g n:Int) (r:RcZ):((ZH W x g n r).s=W.s∨(ZH W x g n r).s=W.s+1)∧(ZH W x g n r).lg=W.lg∧(ZH W x g n r).t=W.t:=by
 unfold ZH;split
 ·simp
 ·split
  ·simp
  ·split<;>simp[Zbk]
theorem Zeb {W:WZ} (h:okW W=true) {x:Int} (h0:0≤x) (h1:x<W.a*W.b):0≤sAt W x∧sAt W x<18446744073709551616:=by
 obtain ⟨hcf,hw,hwl,_⟩:=Zk h;have hc:=ZE hcf;have hall:=ZB hcf;have hwd:=Yt (f:=W.f) (g:=W.g) (show 0≤W.a*W.b by omega) hall.2 (by omega) (by omega);exact (Zg8 hw (show (2*x).toNat<W.ws.length by omega)).2
theorem XJ (x:Int):okS (Zc x)=true:=by
 have h1:=XM x 0 4;have h2:=XM x 5 8;have h3:=XM x 13 16;have h4:=XM x 29 8;refine decide_eq_true ?_;simp only[Zc];omega
theorem vT (x:Int):0≤(Yc x).pr∧(Yc x).pr≤1000000:=by
 have h3:=XM x 5 16;simp only[Yc];omega
theorem Zhd {W:WZ} (h:okW W=true):t0L (wzC W)=wzC W:=by
 obtain ⟨hcf,hw,hwl,hs0,ht0,ht1,hlg⟩:=Zk h;simp[wzC,t0L,AV.t0,ZW hw,ZC hlg]
theorem Zd2 {W:WZ} (h:okW W=true):clL (wzC W)=true:=by
 obtain ⟨hcf,hw,hwl,hs0,ht0,ht1,hlg⟩:=Zk h;simp[wzC,clL,AV.cl,ZV hw,ZD hlg]
theorem e42 {W:WZ} (h:okW W=true) (hl:loW W=true) {x:Int} (h0:0≤x) (h1:x<W.a*W.b) (u u1 u2 u3 u4:Nat) :
  d42 [.op u (wzL W u1 u2 u3 u4),.int .i64 x]=some ⟨.tup [.int .u64 (sAt W x),stA (Zc (sAt W x))],[.cells 0 (wzC (Yn W))]⟩:=by
 obtain ⟨hcf,hw,hwl,hs0,ht0,ht1,hlg⟩:=Zk h
 obtain ⟨hs1,hlgl⟩:=vv hl
 simp only[wzL,d42]
 rw[if_pos ⟨hcf,hw,hwl,hs0,hs1,ht0,ht1,hlg,hlgl,h0,h1⟩]
 rfl
theorem e63 {W:WZ} (h:okW W=true) (hl:loW W=true) {x:Int} (h0:0≤x) (h1:x<W.a*W.b) (u u1 u2 u3 u4:Nat) :
  d63 [.op u (wzL W u1 u2 u3 u4),.int .i64 x]=some ⟨tmA (Yc (tAt W x)),[.cells 0 (wzC (Yn W))]⟩:=by
 obtain ⟨hcf,hw,hwl,hs0,ht0,ht1,hlg⟩:=Zk h
 obtain ⟨hs1,hlgl⟩:=vv hl
 simp only[wzL,d63]
 rw[if_pos ⟨hcf,hw,hwl,hs0,hs1,ht0,ht1,hlg,hlgl,h0,h1⟩]
 rfl
theorem e53 {W:WZ} (h:okW W=true) (hl:loW W=true) {x:Int} (h0:0≤x) (h1:x<W.a*W.b) (old:Int) {s:StZ} (hs:okS s=true) (u u1 u2 u3 u4:Nat) :
  d53 [.op u (wzL W u1 u2 u3 u4),.int .i64 x,.int .u64 old,stA s]=some ⟨.bool (Zs W x old s).1,[.cells 0 (wzC (Zs W x old s).2)]⟩:=by
 obtain ⟨hcf,hw,hwl,hs0,ht0,ht1,hlg⟩:=Zk h
 obtain ⟨hs1,hlgl⟩:=vv hl
 obtain ⟨k0,k1,g0,g1,l0,l1,f0,f1⟩:=UP hs
 simp only[wzL,d53,stA]
 rw[if_pos ⟨hcf,hw,hwl,hs0,hs1,ht0,ht1,hlg,hlgl,h0,h1,by omega,by omega,by omega,by omega,by omega,by omega,by omega,by omega⟩]
 unfold Zs sAt
 cases hv:ZX s with
 | none =>
  rfl
 | some v =>
  simp only;split<;>rfl
theorem e66 {W:WZ} (h:okW W=true) (hl:loW W=true) (x g n:Int) {r:RcZ} (hr:-9223372036854775808≤r.k∧r.k≤9223372036854775807∧-9223372036854775808≤r.q∧r.q≤9223372036854775807∧-9223372036854775808≤r.p∧r.p≤9223372036854775807∧-9223372036854775808≤r.t∧r.t≤9223372036854775807∧-9223372036854775808≤r.c∧r.c≤9223372036854775807∧-9223372036854775808≤r.g∧r.g≤9223372036854775807) (u u1 u2 u3 u4:Nat) :
  d66 [.op u (wzL W u1 u2 u3 u4),.int .i64 x,.int .i64 g,.int .i64 n,rcA r]=some ⟨.tup [],[.cells 0 (wzC (ZH W x g n r))]⟩:=by
 obtain ⟨hcf,hw,hwl,hs0,ht0,ht1,hlg⟩:=Zk h
 obtain ⟨hs1,hlgl⟩:=vv hl
 simp only[wzL,d66,rcA]
 rw[if_pos ⟨hcf,hw,hwl,hs0,hs1,ht0,ht1,hlg,hlgl,hr⟩]
 unfold ZH
 cases hv:zK r with
 | none =>
  rfl
 | some v =>
  simp only;split
  ·rfl
  ·split<;>rfl
theorem e99 {W:WZ} (h:okW W=true) (hl:loW W=true) (k c g o w q p t0 e:Int) (u u1 u2 u3 u4:Nat) :
  d99 [.op u (wzL W u1 u2 u3 u4),.agg (evC k c g o w q p t0 e)]=some ⟨.tup [],[.cells 0 (wzC (Vz W k c g o w q p e))]⟩:=by
 obtain ⟨hcf,hw,hwl,hs0,ht0,ht1,hlg⟩:=Zk h
 obtain ⟨hs1,hlgl⟩:=vv hl
 simp only[wzL,d99,evC]
 rw[if_pos ⟨hcf,hw,hwl,hs0,hs1,ht0,ht1,hlg,hlgl⟩]
 rfl
theorem e43 {W:WZ} (h:okW W=true) (T:TZ) (u v u1 u2 u3 u4:Nat):d43 [.op u (tzC T),.op v (wzL W u1 u2 u3 u4)]=some ⟨.bool (YI W T),[.free,.free]⟩:=by
 simp only[d43,Vv,VC];rw[if_pos h]
theorem e102 {W:WZ} (h:okW W=true) (T:TZ) (s:StZ) (u v u1 u2 u3 u4:Nat):d102 [.op u (tzC T),.op v (wzL W u1 u2 u3 u4),stA s]=some ⟨.bool (Z9 W T s),[.free,.free]⟩:=by
 simp only[d102,stA,Vv,VC];rw[if_pos h]
theorem e104 {W:WZ} (h:okW W=true) (T:TZ) (s:StZ) (u v u1 u2 u3 u4:Nat):d104 [.op u (tzC T),.op v (wzL W u1 u2 u3 u4),stA s]=some ⟨.bool (YG W T s),[.free,.free]⟩:=by
 simp only[d104,stA,Vv,VC];rw[if_pos h]
theorem e109 (T:TZ) (c g:Int) (u:Nat):d109 [.op u (tzC T),.int .i64 c,.int .i64 g]=some ⟨rcA ⟨1,T.q,T.p,T.ta,c,g⟩,[.free]⟩:=by
 simp only[d109,Vv]
theorem e11 (T:TZ) (u:Nat):d11 [.op u (tzC T)]=some ⟨.bool (decide (14≤T.pc)),[.free]⟩:=by
 simp only[d11,Vv]
end Go.W
