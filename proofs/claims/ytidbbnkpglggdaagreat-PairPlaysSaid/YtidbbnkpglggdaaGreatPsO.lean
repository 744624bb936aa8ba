/- A part of the proofs about the pair's laws (PsM, PsN, PsO). -/
import Derived.Test.YtidbbnkpglggdaaGreatPsL
import Derived.Test.YtidbbnkpglggdaaGreatPqB
namespace Go.W
open Go.Proofs
set_option linter.unusedSimpArgs false
set_option linter.unusedVariables false
set_option maxHeartbeats 8000000
attribute [local irreducible] Wm
attribute [local simp] Y5 lkp VW prs Uv prT ddL idL YN Um Ren Vt NObj.none Z4
def d102:List AV→Option Ans
 | [.op _ tc,.op _ wc,.agg [.int .i64 k,.bool fl,.int .i64 sg,.int .i64 sl,.int .i64 sf]]=>(match vg tc,xM wc with
  | some T,some W=>if okW W=true then some (⟨.bool (Z5 W T ⟨k,fl,sg,sl,sf⟩),[.free,.free]⟩) else none
  | _,_=>none)
 | _=>none
theorem ok102:NOk [(35,false),(10,false)] d102:=by
 intro xs aa h;unfold d102 at h;split at h
 ·rename_i t1 tc t2 wc k fl sg sl sf
  split at h
  ·rename_i T W hTc hWc
   split at h
   ·rename_i hc
    obtain ⟨u1,u2,u3,u4,rfl⟩:=Z1 hWc;obtain rfl:=ZS hTc;injection h with h;subst h;obtain ⟨hcf,hw,hwl,hs0,ht0,ht1,hlg⟩:=Zl hc;have hT:=ZZ hw;have hC:=Z0 hw;have hTl:=ZF hlg;have hCl:=ZE hlg;refine ⟨Zq ?_,?_⟩<;>simp[tzC,wzL,hT,hC,hTl,hCl]
   ·cases h
  ·cases h
 ·cases h
theorem s102:Sound Tryz.prog 102 (Zi [(35,false),(10,false)] d102 ok102):=by
 refine Zj C102.a C102.b C102.c C102.d ok102 (fun xs a h=>?_) fun xs a h w0 S hS=>?_
 ·unfold d102 at h
  (repeat' (split at h))<;>first|(cases h;done)|exact Nat.le_of_ble_eq_true rfl
 unfold d102 at h;split at h
 ·rename_i t1 tc t2 wc k fl sg sl sf
  split at h
  ·rename_i T W hTc hWc
   split at h
   ·rename_i hcond
    obtain ⟨u1,u2,u3,u4,rfl⟩:=Z1 hWc;obtain rfl:=ZS hTc;injection h with h;subst h;clear hTc hWc;have hE:Zb Tryz.prog (EL [(97,rdS d97 ok97)]):=Zd (by simp only[List.mem_cons,List.not_mem_nil,or_false,forall_eq_or_imp,forall_eq];exact s97);obtain ⟨hcf,hw,hwl,hs0,ht0,ht1,hlg⟩:=Zl hcond;have hT:=ZZ hw;have hC:=Z0 hw;have hTl:=ZF hlg;have hCl:=ZE hlg;simp only[tzC,wzL]at hS⊢;by_cases h1:T.way=1
    ·by_cases h5:k=1
     ·by_cases h6:sg=T.gn
      ·have hi:Z5 W T ⟨k,fl,sg,sl,sf⟩=true:=by simp[Z5,h1,h5,h6]
       rw[hi];unfold m102
       repeat' with_reducible (first|refine ZR.h ?_|refine zI ?_|((first|refine zK hE ?_|refine zM hE ?_);intro K hK;simp[hT,hC,hTl,hCl,hcf,h1,h5,h6,d97];(repeat' (first|refine hK _ _ ?_|apply And.intro|(intro hc;try subst hc)))<;>(try clear hK K))|(refine zJ (fun hc=>?_) (fun hc=>?_)<;>simp at hc<;>(try subst hc)))
       all_goals first|(simp;done)|(simp at *;omega)|((try simp[hT,hC,hTl,hCl]);refine Imp.aut ?_ ?_<;>simp[NLe,hT,hC,hTl,hCl])
      ·have hi:Z5 W T ⟨k,fl,sg,sl,sf⟩=false:=by simp[Z5,h1,h5,h6]
       rw[hi];unfold m102
       repeat' with_reducible (first|refine ZR.h ?_|refine zI ?_|((first|refine zK hE ?_|refine zM hE ?_);intro K hK;simp[hT,hC,hTl,hCl,hcf,h1,h5,h6,d97];(repeat' (first|refine hK _ _ ?_|apply And.intro|(intro hc;try subst hc)))<;>(try clear hK K))|(refine zJ (fun hc=>?_) (fun hc=>?_)<;>simp at hc<;>(try subst hc)))
       all_goals first|(simp;done)|(simp at *;omega)|((try simp[hT,hC,hTl,hCl]);refine Imp.aut ?_ ?_<;>simp[NLe,hT,hC,hTl,hCl])
     ·have hi:Z5 W T ⟨k,fl,sg,sl,sf⟩=false:=by simp[Z5,h1,h5]
      rw[hi];unfold m102
      repeat' with_reducible (first|refine ZR.h ?_|refine zI ?_|((first|refine zK hE ?_|refine zM hE ?_);intro K hK;simp[hT,hC,hTl,hCl,hcf,h1,h5,d97];(repeat' (first|refine hK _ _ ?_|apply And.intro|(intro hc;try subst hc)))<;>(try clear hK K))|(refine zJ (fun hc=>?_) (fun hc=>?_)<;>simp at hc<;>(try subst hc)))
      all_goals first|(simp;done)|(simp at *;omega)|((try simp[hT,hC,hTl,hCl]);refine Imp.aut ?_ ?_<;>simp[NLe,hT,hC,hTl,hCl])
    ·by_cases h2:T.way=2
     ·by_cases h5:k=1
      ·by_cases h6:sg=T.gn
       ·have hi:Z5 W T ⟨k,fl,sg,sl,sf⟩=true:=by simp[Z5,h1,h2,h5,h6]
        rw[hi];unfold m102
        repeat' with_reducible (first|refine ZR.h ?_|refine zI ?_|((first|refine zK hE ?_|refine zM hE ?_);intro K hK;simp[hT,hC,hTl,hCl,hcf,h1,h2,h5,h6,d97];(repeat' (first|refine hK _ _ ?_|apply And.intro|(intro hc;try subst hc)))<;>(try clear hK K))|(refine zJ (fun hc=>?_) (fun hc=>?_)<;>simp at hc<;>(try subst hc)))
        all_goals first|(simp;done)|(simp at *;omega)|((try simp[hT,hC,hTl,hCl]);refine Imp.aut ?_ ?_<;>simp[NLe,hT,hC,hTl,hCl])
       ·have hi:Z5 W T ⟨k,fl,sg,sl,sf⟩=false:=by simp[Z5,h1,h2,h5,h6]
        rw[hi];unfold m102
        repeat' with_reducible (first|refine ZR.h ?_|refine zI ?_|((first|refine zK hE ?_|refine zM hE ?_);intro K hK;simp[hT,hC,hTl,hCl,hcf,h1,h2,h5,h6,d97];(repeat' (first|refine hK _ _ ?_|apply And.intro|(intro hc;try subst hc)))<;>(try clear hK K))|(refine zJ (fun hc=>?_) (fun hc=>?_)<;>simp at hc<;>(try subst hc)))
        all_goals first|(simp;done)|(simp at *;omega)|((try simp[hT,hC,hTl,hCl]);refine Imp.aut ?_ ?_<;>simp[NLe,hT,hC,hTl,hCl])
      ·have hi:Z5 W T ⟨k,fl,sg,sl,sf⟩=false:=by simp[Z5,h1,h2,h5]
       rw[hi];unfold m102
       repeat' with_reducible (first|refine ZR.h ?_|refine zI ?_|((first|refine zK hE ?_|refine zM hE ?_);intro K hK;simp[hT,hC,hTl,hCl,hcf,h1,h2,h5,d97];(repeat' (first|refine hK _ _ ?_|apply And.intro|(intro hc;try subst hc)))<;>(try clear hK K))|(refine zJ (fun hc=>?_) (fun hc=>?_)<;>simp at hc<;>(try subst hc)))
       all_goals first|(simp;done)|(simp at *;omega)|((try simp[hT,hC,hTl,hCl]);refine Imp.aut ?_ ?_<;>simp[NLe,hT,hC,hTl,hCl])
     ·by_cases h3:T.way=3
      ·by_cases h5:k=2
       ·by_cases h6:T.tx.sd=0
        ·by_cases h7:YG W.c W.d T.tx.nm (Y9 W.d T.tx.pr)=T.sh
         ·have hi:Z5 W T ⟨k,fl,sg,sl,sf⟩=true:=by simp[Z5,h1,h2,h3,h5,h6,h7]
          rw[hi];unfold m102
          repeat' with_reducible (first|refine ZR.h ?_|refine zI ?_|((first|refine zK hE ?_|refine zM hE ?_);intro K hK;simp[hT,hC,hTl,hCl,hcf,h1,h2,h3,h5,h6,h7,d97];(repeat' (first|refine hK _ _ ?_|apply And.intro|(intro hc;try subst hc)))<;>(try clear hK K))|(refine zJ (fun hc=>?_) (fun hc=>?_)<;>simp at hc<;>(try subst hc)))
          all_goals first|(simp;done)|(simp at *;omega)|((try simp[hT,hC,hTl,hCl]);refine Imp.aut ?_ ?_<;>simp[NLe,hT,hC,hTl,hCl])
         ·have hi:Z5 W T ⟨k,fl,sg,sl,sf⟩=false:=by simp[Z5,h1,h2,h3,h5,h6,h7]
          rw[hi];unfold m102
          repeat' with_reducible (first|refine ZR.h ?_|refine zI ?_|((first|refine zK hE ?_|refine zM hE ?_);intro K hK;simp[hT,hC,hTl,hCl,hcf,h1,h2,h3,h5,h6,h7,d97];(repeat' (first|refine hK _ _ ?_|apply And.intro|(intro hc;try subst hc)))<;>(try clear hK K))|(refine zJ (fun hc=>?_) (fun hc=>?_)<;>simp at hc<;>(try subst hc)))
          all_goals first|(simp;done)|(simp at *;omega)|((try simp[hT,hC,hTl,hCl]);refine Imp.aut ?_ ?_<;>simp[NLe,hT,hC,hTl,hCl])
        ·have hi:Z5 W T ⟨k,fl,sg,sl,sf⟩=false:=by simp[Z5,h1,h2,h3,h5,h6]
         rw[hi];unfold m102
         repeat' with_reducible (first|refine ZR.h ?_|refine zI ?_|((first|refine zK hE ?_|refine zM hE ?_);intro K hK;simp[hT,hC,hTl,hCl,hcf,h1,h2,h3,h5,h6,d97];(repeat' (first|refine hK _ _ ?_|apply And.intro|(intro hc;try subst hc)))<;>(try clear hK K))|(refine zJ (fun hc=>?_) (fun hc=>?_)<;>simp at hc<;>(try subst hc)))
         all_goals first|(simp;done)|(simp at *;omega)|((try simp[hT,hC,hTl,hCl]);refine Imp.aut ?_ ?_<;>simp[NLe,hT,hC,hTl,hCl])
       ·have hi:Z5 W T ⟨k,fl,sg,sl,sf⟩=false:=by simp[Z5,h1,h2,h3,h5]
        rw[hi];unfold m102
        repeat' with_reducible (first|refine ZR.h ?_|refine zI ?_|((first|refine zK hE ?_|refine zM hE ?_);intro K hK;simp[hT,hC,hTl,hCl,hcf,h1,h2,h3,h5,d97];(repeat' (first|refine hK _ _ ?_|apply And.intro|(intro hc;try subst hc)))<;>(try clear hK K))|(refine zJ (fun hc=>?_) (fun hc=>?_)<;>simp at hc<;>(try subst hc)))
        all_goals first|(simp;done)|(simp at *;omega)|((try simp[hT,hC,hTl,hCl]);refine Imp.aut ?_ ?_<;>simp[NLe,hT,hC,hTl,hCl])
      ·have hi:Z5 W T ⟨k,fl,sg,sl,sf⟩=false:=by simp[Z5,h1,h2,h3]
       rw[hi];unfold m102
       repeat' with_reducible (first|refine ZR.h ?_|refine zI ?_|((first|refine zK hE ?_|refine zM hE ?_);intro K hK;simp[hT,hC,hTl,hCl,hcf,h1,h2,h3,d97];(repeat' (first|refine hK _ _ ?_|apply And.intro|(intro hc;try subst hc)))<;>(try clear hK K))|(refine zJ (fun hc=>?_) (fun hc=>?_)<;>simp at hc<;>(try subst hc)))
       all_goals first|(simp;done)|(simp at *;omega)|((try simp[hT,hC,hTl,hCl]);refine Imp.aut ?_ ?_<;>simp[NLe,hT,hC,hTl,hCl])
   ·cases h
  ·cases h
 ·cases h
def d104:List AV→Option Ans
 | [.op _ tc,.op _ wc,.agg [.int .i64 k,.bool fl,.int .i64 sg,.int .i64 sl,.int .i64 sf]]=>(match vg tc,xM wc with
  | some T,some W=>if okW W=true then some (⟨.bool (YC W T ⟨k,fl,sg,sl,sf⟩),[.free,.free]⟩) else none
  | _,_=>none)
 | _=>none
theorem ok104:NOk [(35,false),(10,false)] d104:=by
 intro xs aa h;unfold d104 at h;split at h
 ·rename_i t1 tc t2 wc k fl sg sl sf
  split at h
  ·rename_i T W hTc hWc
   split at h
   ·rename_i hc
    obtain ⟨u1,u2,u3,u4,rfl⟩:=Z1 hWc;obtain rfl:=ZS hTc;injection h with h;subst h;obtain ⟨hcf,hw,hwl,hs0,ht0,ht1,hlg⟩:=Zl hc;have hT:=ZZ hw;have hC:=Z0 hw;have hTl:=ZF hlg;have hCl:=ZE hlg;refine ⟨Zq ?_,?_⟩<;>simp[tzC,wzL,hT,hC,hTl,hCl]
   ·cases h
  ·cases h
 ·cases h
theorem s104:Sound Tryz.prog 104 (Zi [(35,false),(10,false)] d104 ok104):=by
 refine Zj C104.a C104.b C104.c C104.d ok104 (fun xs a h=>?_) fun xs a h w0 S hS=>?_
 ·unfold d104 at h
  (repeat' (split at h))<;>first|(cases h;done)|exact Nat.le_of_ble_eq_true rfl
 unfold d104 at h;split at h
 ·rename_i t1 tc t2 wc k fl sg sl sf
  split at h
  ·rename_i T W hTc hWc
   split at h
   ·rename_i hcond
    obtain ⟨u1,u2,u3,u4,rfl⟩:=Z1 hWc;obtain rfl:=ZS hTc;injection h with h;subst h;clear hTc hWc;have hE:Zb Tryz.prog (EL [(97,rdS d97 ok97)]):=Zd (by simp only[List.mem_cons,List.not_mem_nil,or_false,forall_eq_or_imp,forall_eq];exact s97);obtain ⟨hcf,hw,hwl,hs0,ht0,ht1,hlg⟩:=Zl hcond;have hT:=ZZ hw;have hC:=Z0 hw;have hTl:=ZF hlg;have hCl:=ZE hlg;simp only[tzC,wzL]at hS⊢;by_cases h1:T.way=1
    ·by_cases h5:k=1
     ·have hi:YC W T ⟨k,fl,sg,sl,sf⟩=true:=by simp[YC,h1,h5]
      rw[hi];unfold m104
      repeat' with_reducible (first|refine ZR.h ?_|refine zI ?_|((first|refine zK hE ?_|refine zM hE ?_);intro K hK;simp[hT,hC,hTl,hCl,hcf,h1,h5,d97];(repeat' (first|refine hK _ _ ?_|apply And.intro|(intro hc;try subst hc)))<;>(try clear hK K))|(refine zJ (fun hc=>?_) (fun hc=>?_)<;>simp at hc<;>(try subst hc)))
      all_goals first|(simp;done)|(simp at *;omega)|((try simp[hT,hC,hTl,hCl]);refine Imp.aut ?_ ?_<;>simp[NLe,hT,hC,hTl,hCl])
     ·have hi:YC W T ⟨k,fl,sg,sl,sf⟩=false:=by simp[YC,h1,h5]
      rw[hi];unfold m104
      repeat' with_reducible (first|refine ZR.h ?_|refine zI ?_|((first|refine zK hE ?_|refine zM hE ?_);intro K hK;simp[hT,hC,hTl,hCl,hcf,h1,h5,d97];(repeat' (first|refine hK _ _ ?_|apply And.intro|(intro hc;try subst hc)))<;>(try clear hK K))|(refine zJ (fun hc=>?_) (fun hc=>?_)<;>simp at hc<;>(try subst hc)))
      all_goals first|(simp;done)|(simp at *;omega)|((try simp[hT,hC,hTl,hCl]);refine Imp.aut ?_ ?_<;>simp[NLe,hT,hC,hTl,hCl])
    ·by_cases h2:T.way=2
     ·by_cases h7:YG W.c W.d T.ty.nm (Y9 W.d T.ty.pr)=T.sh
      ·by_cases h5:k=2
       ·have hi:YC W T ⟨k,fl,sg,sl,sf⟩=true:=by simp[YC,h1,h2,h7,h5]
        rw[hi];unfold m104
        repeat' with_reducible (first|refine ZR.h ?_|refine zI ?_|((first|refine zK hE ?_|refine zM hE ?_);intro K hK;simp[hT,hC,hTl,hCl,hcf,h1,h2,h7,h5,d97];(repeat' (first|refine hK _ _ ?_|apply And.intro|(intro hc;try subst hc)))<;>(try clear hK K))|(refine zJ (fun hc=>?_) (fun hc=>?_)<;>simp at hc<;>(try subst hc)))
        all_goals first|(simp;done)|(simp at *;omega)|((try simp[hT,hC,hTl,hCl]);refine Imp.aut ?_ ?_<;>simp[NLe,hT,hC,hTl,hCl])
       ·have hi:YC W T ⟨k,fl,sg,sl,sf⟩=false:=by simp[YC,h1,h2,h7,h5]
        rw[hi];unfold m104
        repeat' with_reducible (first|refine ZR.h ?_|refine zI ?_|((first|refine zK hE ?_|refine zM hE ?_);intro K hK;simp[hT,hC,hTl,hCl,hcf,h1,h2,h7,h5,d97];(repeat' (first|refine hK _ _ ?_|apply And.intro|(intro hc;try subst hc)))<;>(try clear hK K))|(refine zJ (fun hc=>?_) (fun hc=>?_)<;>simp at hc<;>(try subst hc)))
        all_goals first|(simp;done)|(simp at *;omega)|((try simp[hT,hC,hTl,hCl]);refine Imp.aut ?_ ?_<;>simp[NLe,hT,hC,hTl,hCl])
      ·have hi:YC W T ⟨k,fl,sg,sl,sf⟩=false:=by simp[YC,h1,h2,h7]
       rw[hi];unfold m104
       repeat' with_reducible (first|refine ZR.h ?_|refine zI ?_|((first|refine zK hE ?_|refine zM hE ?_);intro K hK;simp[hT,hC,hTl,hCl,hcf,h1,h2,h7,d97];(repeat' (first|refine hK _ _ ?_|apply And.intro|(intro hc;try subst hc)))<;>(try clear hK K))|(refine zJ (fun hc=>?_) (fun hc=>?_)<;>simp at hc<;>(try subst hc)))
       all_goals first|(simp;done)|(simp at *;omega)|((try simp[hT,hC,hTl,hCl]);refine Imp.aut ?_ ?_<;>simp[NLe,hT,hC,hTl,hCl])
     ·by_cases h3:T.way=3
      ·by_cases h5:k=2
       ·have hi:YC W T ⟨k,fl,sg,sl,sf⟩=true:=by simp[YC,h1,h2,h3,h5]
        rw[hi];unfold m104
        repeat' with_reducible (first|refine ZR.h ?_|refine zI ?_|((first|refine zK hE ?_|refine zM hE ?_);intro K hK;simp[hT,hC,hTl,hCl,hcf,h1,h2,h3,h5,d97];(repeat' (first|refine hK _ _ ?_|apply And.intro|(intro hc;try subst hc)))<;>(try clear hK K))|(refine zJ (fun hc=>?_) (fun hc=>?_)<;>simp at hc<;>(try subst hc)))
        all_goals first|(simp;done)|(simp at *;omega)|((try simp[hT,hC,hTl,hCl]);refine Imp.aut ?_ ?_<;>simp[NLe,hT,hC,hTl,hCl])
       ·have hi:YC W T ⟨k,fl,sg,sl,sf⟩=false:=by simp[YC,h1,h2,h3,h5]
        rw[hi];unfold m104
        repeat' with_reducible (first|refine ZR.h ?_|refine zI ?_|((first|refine zK hE ?_|refine zM hE ?_);intro K hK;simp[hT,hC,hTl,hCl,hcf,h1,h2,h3,h5,d97];(repeat' (first|refine hK _ _ ?_|apply And.intro|(intro hc;try subst hc)))<;>(try clear hK K))|(refine zJ (fun hc=>?_) (fun hc=>?_)<;>simp at hc<;>(try subst hc)))
        all_goals first|(simp;done)|(simp at *;omega)|((try simp[hT,hC,hTl,hCl]);refine Imp.aut ?_ ?_<;>simp[NLe,hT,hC,hTl,hCl])
      ·have hi:YC W T ⟨k,fl,sg,sl,sf⟩=false:=by simp[YC,h1,h2,h3]
       rw[hi];unfold m104
       repeat' with_reducible (first|refine ZR.h ?_|refine zI ?_|((first|refine zK hE ?_|refine zM hE ?_);intro K hK;simp[hT,hC,hTl,hCl,hcf,h1,h2,h3,d97];(repeat' (first|refine hK _ _ ?_|apply And.intro|(intro hc;try subst hc)))<;>(try clear hK K))|(refine zJ (fun hc=>?_) (fun hc=>?_)<;>simp at hc<;>(try subst hc)))
       all_goals first|(simp;done)|(simp at *;omega)|((try simp[hT,hC,hTl,hCl]);refine Imp.aut ?_ ?_<;>simp[NLe,hT,hC,hTl,hCl])
   ·cases h
  ·cases h
 ·cases h
def d109:List AV→Option Ans
 | [.op _ tc,.int .i64 c,.int .i64 g]=>(match vg tc with
  | some T=>some (⟨rcA ⟨1,T.q,T.p,T.ta,c,g⟩,[.free]⟩)
  | _=>none)
 | _=>none
theorem ok109:NOk [(35,false)] d109:=by
 intro xs aa h;unfold d109 at h;split at h
 ·rename_i t1 tc c g
  split at h
  ·rename_i T hTc
   obtain rfl:=ZS hTc;injection h with h;subst h;refine ⟨Zq ?_,?_⟩<;>simp[tzC,rcA]
  ·cases h
 ·cases h
theorem s109:Sound Tryz.prog 109 (Zi [(35,false)] d109 ok109):=by
 refine Zj C109.a C109.b C109.c C109.d ok109 (fun xs a h=>?_) fun xs a h w0 S hS=>?_
 ·unfold d109 at h
  (repeat' (split at h))<;>first|(cases h;done)|exact Nat.le_of_ble_eq_true rfl
 unfold d109 at h;split at h
 ·rename_i t1 tc c g
  split at h
  ·rename_i T hTc
   obtain rfl:=ZS hTc;injection h with h;subst h;clear hTc;simp only[tzC]at hS⊢;have hE:Zb Tryz.prog (EL []):=Zd (by simp);unfold m109
   repeat' with_reducible (first|refine ZR.h ?_|refine zI ?_|((first|refine zK hE ?_|refine zM hE ?_);intro K hK;simp[rcA];(repeat' (first|refine hK _ _ ?_|apply And.intro|(intro hc;try subst hc)))<;>(try clear hK K))|(refine zJ (fun hc=>?_) (fun hc=>?_)<;>simp at hc<;>(try subst hc)))
   all_goals first|(simp;done)|(simp at *;omega)|((try simp[rcA]);refine Imp.aut ?_ ?_<;>simp[NLe,rcA])
  ·cases h
 ·cases h
def d12:List AV→Option Ans
 | [.op _ tc]=>(match vg tc with
  | some T=>some (⟨.bool T.made,[.free]⟩)
  | _=>none)
 | _=>none
theorem ok12:NOk [(35,false)] d12:=by
 intro xs aa h;unfold d12 at h;split at h
 ·rename_i t1 tc
  split at h
  ·rename_i T hTc
   obtain rfl:=ZS hTc;injection h with h;subst h;refine ⟨Zq ?_,?_⟩<;>simp[tzC]
  ·cases h
 ·cases h
theorem s12:Sound Tryz.prog 12 (Zi [(35,false)] d12 ok12):=by
 refine Zj C12.a C12.b C12.c C12.d ok12 (fun xs a h=>?_) fun xs a h w0 S hS=>?_
 ·unfold d12 at h
  (repeat' (split at h))<;>first|(cases h;done)|exact Nat.le_of_ble_eq_true rfl
 unfold d12 at h;split at h
 ·rename_i t1 tc
  split at h
  ·rename_i T hTc
   obtain rfl:=ZS hTc;injection h with h;subst h;clear hTc;simp only[tzC]at hS⊢;have hE:Zb Tryz.prog (EL []):=Zd (by simp);unfold m12
   repeat' with_reducible (first|refine ZR.h ?_|refine zI ?_|(refine zK hE ?_;intro K hK;simp;(repeat' (first|refine hK _ _ ?_|apply And.intro|(intro hc;try subst hc)))<;>(try clear hK K))|(refine zJ (fun hc=>?_) (fun hc=>?_)<;>simp at hc<;>(try subst hc)))
   all_goals first|(simp;done)|(simp at *;omega)|((try simp);refine Imp.aut ?_ ?_<;>simp[NLe])
  ·cases h
 ·cases h
def d11:List AV→Option Ans
 | [.op _ tc]=>(match vg tc with
  | some T=>some (⟨.bool (decide (14≤T.pc)),[.free]⟩)
  | _=>none)
 | _=>none
theorem ok11:NOk [(35,false)] d11:=by
 intro xs aa h;unfold d11 at h;split at h
 ·rename_i t1 tc
  split at h
  ·rename_i T hTc
   obtain rfl:=ZS hTc;injection h with h;subst h;refine ⟨Zq ?_,?_⟩<;>simp[tzC]
  ·cases h
 ·cases h
theorem s11:Sound Tryz.prog 11 (Zi [(35,false)] d11 ok11):=by
 refine Zj C11.a C11.b C11.c C11.d ok11 (fun xs a h=>?_) fun xs a h w0 S hS=>?_
 ·unfold d11 at h
  (repeat' (split at h))<;>first|(cases h;done)|exact Nat.le_of_ble_eq_true rfl
 unfold d11 at h;split at h
 ·rename_i t1 tc
  split at h
  ·rename_i T hTc
   obtain rfl:=ZS hTc;injection h with h;subst h;clear hTc;simp only[tzC]at hS⊢;have hE:Zb Tryz.prog (EL []):=Zd (by simp);by_cases h1:14≤T.pc
   ·unfold m11
    repeat' with_reducible (first|refine ZR.h ?_|refine zI ?_|(refine zK hE ?_;intro K hK;simp[h1];(repeat' (first|refine hK _ _ ?_|apply And.intro|(intro hc;try subst hc)))<;>(try clear hK K))|(refine zJ (fun hc=>?_) (fun hc=>?_)<;>simp at hc<;>(try subst hc)))
    all_goals first|(simp;done)|(simp at *;omega)|((try simp[h1]);refine Imp.aut ?_ ?_<;>simp[NLe,h1])
   ·unfold m11
    repeat' with_reducible (first|refine ZR.h ?_|refine zI ?_|(refine zK hE ?_;intro K hK;simp[h1];(repeat' (first|refine hK _ _ ?_|apply And.intro|(intro hc;try subst hc)))<;>(try clear hK K))|(refine zJ (fun hc=>?_) (fun hc=>?_)<;>simp at hc<;>(try subst hc)))
    all_goals first|(simp;done)|(simp at *;omega)|((try simp[h1]);refine Imp.aut ?_ ?_<;>simp[NLe,h1])
  ·cases h
 ·cases h
def tz0 (w x g y s:Int):TZ:=⟨w,x,g,y,s,0,0,0,⟨0,0,0,0,0⟩,⟨0,0,0,0,0⟩,false,false,false,0,0,0,0,Zu,Zu⟩
def d7:List AV→Option Ans
 | [.agg [.int .i64 w,.int .i64 x,.int .i64 g,.int .i64 y,.int .i64 s]]=>some ⟨.op 0 (tzC (tz0 w x g y s)),[]⟩
 | _=>none
theorem ok7:NOk [] d7:=by
 intro xs a h;unfold d7 at h
 (repeat' (split at h))<;>first|(cases h;done)|(injection h with h;subst h;refine ⟨Zq ?_,?_⟩<;>simp[tzC,tz0,Zu])
theorem s7:Sound Tryz.prog 7 (Zi [] d7 ok7):=by
 refine Zj C7.a C7.b C7.c C7.d ok7 (fun xs a h=>?_) fun xs a h w0 S hS=>?_
 ·unfold d7 at h
  (repeat' (split at h))<;>first|(cases h;done)|exact Nat.le_of_ble_eq_true rfl
 unfold d7 at h;split at h
 ·rename_i w x g y s
  injection h with h;subst h;have hE:Zb Tryz.prog (EL []):=Zd (by simp);unfold m7
  repeat' with_reducible (first|refine ZR.h ?_|refine zI ?_|(refine zK hE ?_;intro K hK;simp[tzC,tz0,Zu];(repeat' (first|refine hK _ _ ?_|apply And.intro|(intro hc;try subst hc)))<;>(try clear hK K))|(refine zJ (fun hc=>?_) (fun hc=>?_)<;>simp at hc<;>(try subst hc)))
  all_goals first|(simp;done)|(simp at *;omega)|((try simp[tzC,tz0,Zu]);refine Imp.aut ?_ ?_<;>simp[NLe,tzC,tz0,Zu])
 ·cases h
def loW (W:WZ):Bool:=decide (W.s≤100000000∧W.lg.length≤100000)
theorem xB {W:WZ} (h:loW W=true):W.s≤100000000∧W.lg.length≤100000:=of_decide_eq_true h
def smW (W:WZ):Bool:=decide (W.s≤1000000∧W.lg.length≤50000)
theorem Tu {W:WZ} (h:smW W=true):W.s≤1000000∧W.lg.length≤50000:=of_decide_eq_true h
theorem Tw {W:WZ} (h:smW W=true):loW W=true:=by
 have:=Tu h;exact decide_eq_true (by omega)
def ZO (W:WZ):WZ:={ W with s:=W.s+1 }
def Zao (W:WZ) (i:Nat) (v:Int):WZ:={ W with ws:=W.ws.set i [.int .u64 v],s:=W.s+1 }
def sAt (W:WZ) (x:Int):Int:=wAt W.ws (2*x).toNat
def tAt (W:WZ) (x:Int):Int:=wAt W.ws (2*x+1).toNat
def Zs (W:WZ) (x old:Int) (s:StZ):Bool×WZ :=
 match ZN s with
 | none=>(false,W)
 | some v=>if sAt W x=old then (true,Zao W (2*x).toNat v) else (false,ZO W)
def Z2 (W:WZ) (x g n:Int) (r:RcZ):WZ :=
 match zm r with
 | none=>W
 | some v=>if ZT W.a W.b W.f W.g x g n<0 then W else if (W.ws.length:Int)≤ZT W.a W.b W.f W.g x g n then W else Zao W (ZT W.a W.b W.f W.g x g n).toNat v
def evC (k c g o w q p t e:Int):List AV:=[.int .i64 k,.int .i64 c,.int .i64 g,.int .i64 o,.int .i64 w,.int .i64 0,.int .i64 0,.int .i64 0,.int .i64 0,.int .i64 0,.int .i64 q,.int .i64 p,.int .i64 t,.int .i64 e]
def Uk (W:WZ) (k c g o w q p e:Int):WZ:={ W with lg:=W.lg++[evC k c g o w q p W.t e] }
theorem Y8 {W:WZ} (h:okW W=true):okW (ZO W)=true:=by
 obtain ⟨h1,h2,h3,h4,h5,h6,h7⟩:=Zl h;exact decide_eq_true ⟨h1,h2,h3,by simp only[ZO];omega,h5,h6,h7⟩
theorem Ze5 {W:WZ} (h:okW W=true) (i:Nat) {v:Int} (v0:0≤v) (v1:v<18446744073709551616):okW (Zao W i v)=true:=by
 obtain ⟨h1,h2,h3,h4,h5,h6,h7⟩:=Zl h;exact decide_eq_true ⟨h1,Tl h2 v0 v1 i,by simp only[Zao,List.length_set];exact h3,by simp only[Zao];omega,h5,h6,h7⟩
theorem Yi {W:WZ} (h:okW W=true) (x old:Int) (s:StZ):okW (Zs W x old s).2=true:=by
 unfold Zs;cases hv:ZN s with
 | none=>exact h
 | some v =>
  obtain ⟨v0,v1⟩:=UQ hv;simp only;split
  ·exact Ze5 h _ v0 v1
  ·exact Y8 h
theorem Ta {W:WZ} (h:okW W=true) (x g n:Int) (r:RcZ):okW (Z2 W x g n r)=true:=by
 unfold Z2;cases hv:zm r with
 | none=>exact h
 | some v =>
  obtain ⟨v0,v1⟩:=vN hv;simp only;split
  ·exact h
  ·split
   ·exact h
   ·exact Ze5 h _ v0 v1
theorem Ut {W:WZ} (h:okW W=true) (k c g o w q p e:Int):okW (Uk W k c g o w q p e)=true:=by
 obtain ⟨h1,h2,h3,h4,h5,h6,h7⟩:=Zl h;refine decide_eq_true ⟨h1,h2,h3,h4,h5,h6,?_⟩;simp only[Uk,List.all_append,h7]
 rfl
theorem Xo (W:WZ) (x old:Int) (s:StZ):((Zs W x old s).2.s=W.s∨(Zs W x old s).2.s=W.s+1)∧(Zs W x old s).2.lg=W.lg∧(Zs W x old s).2.t=W.t∧(Zs W x old s).2.a=W.a∧(Zs W x old s).2.b=W.b:=by
 unfold Zs;split
 ·simp
 ·split<;>simp[Zao,ZO]
theorem Zcv (W:WZ) (x g n:Int) (r:RcZ):((Z2 W x g n r).s=W.s∨(Z2 W x g n r).s=W.s+1)∧(Z2 W x g n r).lg=W.lg∧(Z2 W x g n r).t=W.t:=by
 unfold Z2;split
 ·simp
 ·split
  ·simp
  ·split<;>simp[Zao]
theorem ZcY {W:WZ} (h:okW W=true) {x:Int} (h0:0≤x) (h1:x<W.a*W.b):0≤sAt W x∧sAt W x<18446744073709551616:=by
 obtain ⟨hcf,hw,hwl,_⟩:=Zl h;have hc:=ZH hcf;have hall:=ZJ hcf;have hwd:=Yl (f:=W.f) (g:=W.g) (show 0≤W.a*W.b by omega) hall.2 (by omega) (by omega);exact (ZfU hw (show (2*x).toNat<W.ws.length by omega)).2
theorem Xz (x:Int):okS (Za x)=true:=by
 have h1:=XI x 0 4;have h2:=XI x 5 8;have h3:=XI x 13 16;have h4:=XI x 29 8;refine decide_eq_true ?_;simp only[Za];omega
theorem xX (x:Int):0≤(Yg x).pr∧(Yg x).pr≤1000000:=by
 have h3:=XI x 5 16;simp only[Yg];omega
theorem Zas {W:WZ} (h:okW W=true):t0L (wzC W)=wzC W:=by
 obtain ⟨hcf,hw,hwl,hs0,ht0,ht1,hlg⟩:=Zl h;simp[wzC,t0L,AV.t0,ZZ hw,ZF hlg]
theorem ym {W:WZ} (h:okW W=true):clL (wzC W)=true:=by
 obtain ⟨hcf,hw,hwl,hs0,ht0,ht1,hlg⟩:=Zl h;simp[wzC,clL,AV.cl,Z0 hw,ZE hlg]
theorem e42 {W:WZ} (h:okW W=true) (hl:loW W=true) {x:Int} (h0:0≤x) (h1:x<W.a*W.b) (u u1 u2 u3 u4:Nat) :
  d42 [.op u (wzL W u1 u2 u3 u4),.int .i64 x]=some ⟨.tup [.int .u64 (sAt W x),stA (Za (sAt W x))],[.cells 0 (wzC (ZO W))]⟩:=by
 obtain ⟨hcf,hw,hwl,hs0,ht0,ht1,hlg⟩:=Zl h
 obtain ⟨hs1,hlgl⟩:=xB hl
 simp only[wzL,d42]
 rw[if_pos ⟨hcf,hw,hwl,hs0,hs1,ht0,ht1,hlg,hlgl,h0,h1⟩]
 rfl
theorem e63 {W:WZ} (h:okW W=true) (hl:loW W=true) {x:Int} (h0:0≤x) (h1:x<W.a*W.b) (u u1 u2 u3 u4:Nat) :
  d63 [.op u (wzL W u1 u2 u3 u4),.int .i64 x]=some ⟨tmA (Yg (tAt W x)),[.cells 0 (wzC (ZO W))]⟩:=by
 obtain ⟨hcf,hw,hwl,hs0,ht0,ht1,hlg⟩:=Zl h
 obtain ⟨hs1,hlgl⟩:=xB hl
 simp only[wzL,d63]
 rw[if_pos ⟨hcf,hw,hwl,hs0,hs1,ht0,ht1,hlg,hlgl,h0,h1⟩]
 rfl
theorem e53 {W:WZ} (h:okW W=true) (hl:loW W=true) {x:Int} (h0:0≤x) (h1:x<W.a*W.b) (old:Int) {s:StZ} (hs:okS s=true) (u u1 u2 u3 u4:Nat) :
  d53 [.op u (wzL W u1 u2 u3 u4),.int .i64 x,.int .u64 old,stA s]=some ⟨.bool (Zs W x old s).1,[.cells 0 (wzC (Zs W x old s).2)]⟩:=by
 obtain ⟨hcf,hw,hwl,hs0,ht0,ht1,hlg⟩:=Zl h
 obtain ⟨hs1,hlgl⟩:=xB hl
 obtain ⟨k0,k1,g0,g1,l0,l1,f0,f1⟩:=Un hs
 simp only[wzL,d53,stA]
 rw[if_pos ⟨hcf,hw,hwl,hs0,hs1,ht0,ht1,hlg,hlgl,h0,h1,by omega,by omega,by omega,by omega,by omega,by omega,by omega,by omega⟩]
 unfold Zs sAt
 cases hv:ZN s with
 | none =>
  rfl
 | some v =>
  simp only;split<;>rfl
theorem e66 {W:WZ} (h:okW W=true) (hl:loW W=true) (x g n:Int) {r:RcZ} (hr:-9223372036854775808≤r.k∧r.k≤9223372036854775807∧-9223372036854775808≤r.q∧r.q≤9223372036854775807∧-9223372036854775808≤r.p∧r.p≤9223372036854775807∧-9223372036854775808≤r.t∧r.t≤9223372036854775807∧-9223372036854775808≤r.c∧r.c≤9223372036854775807∧-9223372036854775808≤r.g∧r.g≤9223372036854775807) (u u1 u2 u3 u4:Nat) :
  d66 [.op u (wzL W u1 u2 u3 u4),.int .i64 x,.int .i64 g,.int .i64 n,rcA r]=some ⟨.tup [],[.cells 0 (wzC (Z2 W x g n r))]⟩:=by
 obtain ⟨hcf,hw,hwl,hs0,ht0,ht1,hlg⟩:=Zl h
 obtain ⟨hs1,hlgl⟩:=xB hl
 simp only[wzL,d66,rcA]
 rw[if_pos ⟨hcf,hw,hwl,hs0,hs1,ht0,ht1,hlg,hlgl,hr⟩]
 unfold Z2
 cases hv:zm r with
 | none =>
  rfl
 | some v =>
  simp only;split
  ·rfl
  ·split<;>rfl
theorem e99 {W:WZ} (h:okW W=true) (hl:loW W=true) (k c g o w q p t0 e:Int) (u u1 u2 u3 u4:Nat) :
  d99 [.op u (wzL W u1 u2 u3 u4),.agg (evC k c g o w q p t0 e)]=some ⟨.tup [],[.cells 0 (wzC (Uk W k c g o w q p e))]⟩:=by
 obtain ⟨hcf,hw,hwl,hs0,ht0,ht1,hlg⟩:=Zl h
 obtain ⟨hs1,hlgl⟩:=xB hl
 simp only[wzL,d99,evC]
 rw[if_pos ⟨hcf,hw,hwl,hs0,hs1,ht0,ht1,hlg,hlgl⟩]
 rfl
theorem e43 {W:WZ} (h:okW W=true) (T:TZ) (u v u1 u2 u3 u4:Nat):d43 [.op u (tzC T),.op v (wzL W u1 u2 u3 u4)]=some ⟨.bool (YD W T),[.free,.free]⟩:=by
 simp only[d43,Vb,Ul];rw[if_pos h]
theorem e102 {W:WZ} (h:okW W=true) (T:TZ) (s:StZ) (u v u1 u2 u3 u4:Nat):d102 [.op u (tzC T),.op v (wzL W u1 u2 u3 u4),stA s]=some ⟨.bool (Z5 W T s),[.free,.free]⟩:=by
 simp only[d102,stA,Vb,Ul];rw[if_pos h]
theorem e104 {W:WZ} (h:okW W=true) (T:TZ) (s:StZ) (u v u1 u2 u3 u4:Nat):d104 [.op u (tzC T),.op v (wzL W u1 u2 u3 u4),stA s]=some ⟨.bool (YC W T s),[.free,.free]⟩:=by
 simp only[d104,stA,Vb,Ul];rw[if_pos h]
theorem e109 (T:TZ) (c g:Int) (u:Nat):d109 [.op u (tzC T),.int .i64 c,.int .i64 g]=some ⟨rcA ⟨1,T.q,T.p,T.ta,c,g⟩,[.free]⟩:=by
 simp only[d109,Vb]
theorem e11 (T:TZ) (u:Nat):d11 [.op u (tzC T)]=some ⟨.bool (decide (14≤T.pc)),[.free]⟩:=by
 simp only[d11,Vb]
theorem stR (x:Int):0≤(Za x).k∧(Za x).k<16∧0≤(Za x).g∧(Za x).g<256∧0≤(Za x).l∧(Za x).l<65536∧0≤(Za x).f∧(Za x).f<256:=by
 have h1:=XI x 0 4;have h2:=XI x 5 8;have h3:=XI x 13 16;have h4:=XI x 29 8;simp only[Za];omega
theorem Zd6 {s:StZ} (h:okS s=true):okS (YY s)=true:=by
 have:=Un h;unfold YY
 repeat' split
 all_goals exact decide_eq_true (by first|omega|(simp only;omega))
theorem xQ {s:StZ} (h:okS s=true) (F:Int):okS (ZU s F)=true:=by
 have:=Un h;unfold ZU
 repeat' split
 all_goals exact decide_eq_true (by first|omega|(simp only;omega))
theorem Zbn {s:StZ} (h:okS s=true):okS (ZV s)=true:=by
 have:=Un h;unfold ZV
 repeat' split
 all_goals exact decide_eq_true (by first|omega|(simp only;omega))
theorem Zay (x q F:Int):okS (Zw (Za x) q F).1=true:=by
 have:=stR x;unfold Zw
 repeat' split
 all_goals first|(exact rfl)|skip
 exact xQ (decide_eq_true (by simp only;omega)) F
theorem ZaV {s:StZ} (h:okS s=true) (F:Int):okS (Yo s F)=true:=by
 have h1:=xQ (Zbn h) F;have:=Un h1;unfold Yo;split
 ·exact decide_eq_true (by simp only;omega)
 ·exact h1
theorem ZcR (x q F:Int):okS (Zf (Za x) q F).1=true:=by
 have:=stR x;unfold Zf
 repeat' split
 all_goals first|(exact rfl)|skip
 ·exact ZaV (decide_eq_true (by simp only;omega)) F
 ·exact ZaV (Xz x) F
theorem ZaC {a b:TmZ} (h1:0≤a.pr) (h2:a.pr≤1000000) (h3:0≤b.pr) (h4:b.pr≤1000000) {l o:Int} (hl:l≤1000000) (ho:o≤1000000):0≤(Zc a b l o).1∧(Zc a b l o).1≤1000000∧0≤(Zc a b l o).2∧(Zc a b l o).2≤1000000:=by
 unfold Zc;obtain ⟨hi,e1⟩:∃ x,(if a.sd=1 then b.pr else a.pr)=x:=⟨_,rfl⟩;obtain ⟨lo,e2⟩:∃ x,(if a.sd=1 then a.pr else b.pr)=x:=⟨_,rfl⟩;obtain ⟨m,e3⟩:∃ x,(if o<l then o else l)=x:=⟨_,rfl⟩;have b1:0≤hi∧hi≤1000000:=by rw[← e1];split<;>omega
 have b2:0≤lo∧lo≤1000000:=by rw[← e2];split<;>omega
 have b3:m≤1000000:=by rw[← e3];split<;>omega
 rw[e1,e2,e3];clear e1 e2 e3
 repeat' split
 all_goals first|(simp;done)|(simp only;omega)
theorem Ze4 {s:StZ} (h:okS s=true) {t:Int} (h0:0≤t) (h1:t≤1000000):-9223372036854775808≤(ZW s t).1.k∧(ZW s t).1.k≤9223372036854775807∧-9223372036854775808≤(ZW s t).1.q∧(ZW s t).1.q≤9223372036854775807∧-9223372036854775808≤(ZW s t).1.p∧(ZW s t).1.p≤9223372036854775807∧-9223372036854775808≤(ZW s t).1.t∧(ZW s t).1.t≤9223372036854775807∧-9223372036854775808≤(ZW s t).1.c∧(ZW s t).1.c≤9223372036854775807∧-9223372036854775808≤(ZW s t).1.g∧(ZW s t).1.g≤9223372036854775807:=by
 have:=Un h;unfold ZW
 repeat' split
 all_goals (simp only;omega)
theorem Y6 {W:WZ} {T:TZ} (hW:okW W=true) (h:YD W T=false):0≤T.x∧T.x<W.a*W.b∧0≤T.y∧T.y<W.a*W.b∧W.a*W.b≤24:=by
 have hall:=ZJ (Zl hW).1;have h':=of_decide_eq_false h;unfold V6 at h';refine ⟨?_,?_,?_,?_,hall.2⟩<;>(by_cases a1:T.x<0<;>by_cases a2:T.x<W.a*W.b<;>by_cases a3:T.y<0<;>by_cases a4:T.y<W.a*W.b<;>simp[a1,a2,a3,a4]at h'⊢<;>omega)
def Xk (W:WZ) (T:TZ):TZ×WZ:=if Z5 W T (Za T.wx)=true then ({ T with held:=(Zs W T.x T.wx (YY (Za T.wx))).1 },(Zs W T.x T.wx (YY (Za T.wx))).2) else (T,W)
def YH (W:WZ) (T:TZ):TZ×WZ:=if T.held=true∧T.free=false then ({ T with wx:=sAt W T.x },ZO W) else (T,W)
def Xb (W:WZ) (T:TZ):TZ×WZ :=
 if T.held=true∧YC W T (Za T.wy)=true then
  if (Zw (Za T.wy) (Zc T.tx T.ty (Za T.wx).l (Za T.wy).l).1 W.f).2=0 then
   if (Zs W T.y T.wy (Zw (Za T.wy) (Zc T.tx T.ty (Za T.wx).l (Za T.wy).l).1 W.f).1).1=true then
    ({ T with q:=(Zc T.tx T.ty (Za T.wx).l (Za T.wy).l).1,p:=(Zc T.tx T.ty (Za T.wx).l (Za T.wy).l).2,made:=true,ny:=(Zw (Za T.wy) (Zc T.tx T.ty (Za T.wx).l (Za T.wy).l).1 W.f).1,ta:=W.t },Uk (Zs W T.y T.wy (Zw (Za T.wy) (Zc T.tx T.ty (Za T.wx).l (Za T.wy).l).1 W.f).1).2 2 T.x (Za T.wx).g T.y (Za T.wy).g (Zc T.tx T.ty (Za T.wx).l (Za T.wy).l).1 (Zc T.tx T.ty (Za T.wx).l (Za T.wy).l).2 0)
   else ({ T with q:=(Zc T.tx T.ty (Za T.wx).l (Za T.wy).l).1,p:=(Zc T.tx T.ty (Za T.wx).l (Za T.wy).l).2 },(Zs W T.y T.wy (Zw (Za T.wy) (Zc T.tx T.ty (Za T.wx).l (Za T.wy).l).1 W.f).1).2)
  else ({ T with q:=(Zc T.tx T.ty (Za T.wx).l (Za T.wy).l).1,p:=(Zc T.tx T.ty (Za T.wx).l (Za T.wy).l).2 },W)
 else (T,W)
def XF (T:TZ):Int:=if T.made=true then T.q else 0
def Uh (W:WZ) (T:TZ):TZ×WZ :=
 if T.held=true∧T.free=false then
  if (Zf (Za T.wx) (XF T) W.f).2=0 then
   if (Zs W T.x T.wx (Zf (Za T.wx) (XF T) W.f).1).1=true then
    ({ T with free:=true,nx:=(Zf (Za T.wx) (XF T) W.f).1,en:=W.t },if T8 (Zf (Za T.wx) (XF T) W.f).1.k=true then Uk (Zs W T.x T.wx (Zf (Za T.wx) (XF T) W.f).1).2 7 T.x (Zf (Za T.wx) (XF T) W.f).1.g 0 0 0 0 (Zf (Za T.wx) (XF T) W.f).1.k else (Zs W T.x T.wx (Zf (Za T.wx) (XF T) W.f).1).2)
   else (T,(Zs W T.x T.wx (Zf (Za T.wx) (XF T) W.f).1).2)
  else (T,W)
 else (T,W)
def VI (T:TZ) (c g:Int):RcZ:=⟨1,T.q,T.p,T.ta,c,g⟩
def Yw (W:WZ) (T:TZ):WZ :=
 if T.pc=10∧T.made=true then Z2 W T.x T.nx.g (T.nx.f - 1) (VI T T.y T.ny.g)
 else if T.pc=11∧T.made=true then Z2 W T.y T.ny.g (T.ny.f - 1) (VI T T.x T.nx.g)
 else if T.pc=12∧T.made=true then (if (ZW T.ny T.ta).2=true then Z2 W T.y T.ny.g W.f (ZW T.ny T.ta).1 else W)
 else if T.pc=13∧T.held=true then (if (ZW T.nx T.en).2=true then Z2 W T.x T.nx.g W.f (ZW T.nx T.en).1 else W)
 else W
def ZP (W:WZ) (T:TZ):TZ×WZ :=
 if T.pc=0 then ({ T with wx:=sAt W T.x },ZO W)
 else if T.pc=1 then ({ T with tx:=Yg (tAt W T.x) },ZO W)
 else if T.pc=2 then Xk W T
 else if T.pc=3 then ({ T with wy:=sAt W T.y },ZO W)
 else if T.pc=4 then ({ T with ty:=Yg (tAt W T.y) },ZO W)
 else if T.pc=5 then Xb W T
 else if T.pc=6∨T.pc=8 then YH W T
 else if T.pc=7∨T.pc=9 then Uh W T
 else (T,Yw W T)
def ZC (W:WZ) (T:TZ):TZ×WZ :=
 if 14≤T.pc then (T,W)
 else if YD W T=true then ({ T with pc:=T.pc+1 },W)
 else ({ (ZP W T).1 with pc:=T.pc+1 },(ZP W T).2)
theorem vB {W:WZ} (h:okW W=true) (T:TZ):okW (Xk W T).2=true:=by
 unfold Xk;split
 ·exact Yi h _ _ _
 ·exact h
theorem yu {W:WZ} (h:okW W=true) (T:TZ):okW (YH W T).2=true:=by
 unfold YH;split
 ·exact Y8 h
 ·exact h
theorem vG {W:WZ} (h:okW W=true) (T:TZ):okW (Xb W T).2=true:=by
 unfold Xb
 repeat' split
 ·exact Ut (Yi h _ _ _) _ _ _ _ _ _ _ _
 ·exact Yi h _ _ _
 ·exact h
 ·exact h
theorem Zad {W:WZ} (h:okW W=true) (T:TZ):okW (Uh W T).2=true:=by
 unfold Uh
 repeat' split
 ·exact Ut (Yi h _ _ _) _ _ _ _ _ _ _ _
 ·exact Yi h _ _ _
 ·exact Yi h _ _ _
 ·exact h
 ·exact h
theorem TY {W:WZ} (h:okW W=true) (T:TZ):okW (Yw W T)=true:=by
 unfold Yw
 repeat' split
 all_goals first|exact h|exact Ta h _ _ _ _
theorem yH {W:WZ} (h:okW W=true) (T:TZ):okW (ZP W T).2=true:=by
 unfold ZP
 repeat' split
 all_goals first|exact Y8 h|exact vB h T|exact vG h T|exact yu h T|exact Zad h T|exact TY h T
theorem ZaO {W:WZ} (h:okW W=true) (T:TZ):okW (ZC W T).2=true:=by
 unfold ZC
 repeat' split
 all_goals first|exact h|exact yH h T
end Go.W
