/- A part of the proofs about the pair's laws (PsM). -/
import Derived.Test.YtidbbnkpglggdaaPsL
import Derived.Test.YtidbbnkpglggdaaPqB
namespace Go.W
open Go.Proofs
set_option linter.unusedSimpArgs false
set_option linter.unusedVariables false
set_option maxHeartbeats 8000000
attribute [local irreducible] Wm
attribute [local simp] nmap lkp mkPl prs prsL prT ddL idL CRenL CRen Ren RenL NObj.none CRenLL
def d92:List AV→Option Ans
 | [.op _ tc,.op _ wc,.agg [.int .i64 k,.bool fl,.int .i64 sg,.int .i64 sl,.int .i64 sf]]=>(match tzOf tc,wzOf wc with
  | some T,some W=>if okW W=true then some (⟨.bool (wantsT W T ⟨k,fl,sg,sl,sf⟩),[.free,.free]⟩) else none
  | _,_=>none)
 | _=>none
theorem ok92:NOk [(35,false),(10,false)] d92:=by
 intro xs aa h
 unfold d92 at h
 split at h
 ·rename_i t1 tc t2 wc k fl sg sl sf
  split at h
  ·rename_i T W hTc hWc
   split at h
   ·rename_i hc
    obtain ⟨u1,u2,u3,u4,rfl⟩:=wzOf_ex hWc
    obtain rfl:=tzOf_ex hTc
    injection h with h;subst h
    obtain ⟨hcf,hw,hwl,hs0,ht0,ht1,hlg⟩:=okW_ex hc
    have hT:=w_t0 hw
    have hC:=w_cl hw
    have hTl:=l_t0 hlg
    have hCl:=l_cl hlg
    refine ⟨Ends_of ?_,?_⟩<;>simp[tzC,wzL,hT,hC,hTl,hCl]
   ·cases h
  ·cases h
 ·cases h
theorem s92:Sound Try.prog 92 (nestS [(35,false),(10,false)] d92 ok92):=by
 refine nest_sound Try.func92 nm92 rc92 rv92 ok92 (fun xs a h=>?_) fun xs a h w0 S hS=>?_
 ·unfold d92 at h
  (repeat' (split at h))<;>first|(cases h;done)|exact Nat.le_of_ble_eq_true rfl
 unfold d92 at h
 split at h
 ·rename_i t1 tc t2 wc k fl sg sl sf
  split at h
  ·rename_i T W hTc hWc
   split at h
   ·rename_i hcond
    obtain ⟨u1,u2,u3,u4,rfl⟩:=wzOf_ex hWc
    obtain rfl:=tzOf_ex hTc
    injection h with h
    subst h
    clear hTc hWc
    have hE:SoundAll Try.prog (EL [(89,rdS d89 ok89)]):=EL_sound (by simp only[List.mem_cons,List.not_mem_nil,or_false,forall_eq_or_imp,forall_eq];exact s89)
    obtain ⟨hcf,hw,hwl,hs0,ht0,ht1,hlg⟩:=okW_ex hcond
    have hT:=w_t0 hw
    have hC:=w_cl hw
    have hTl:=l_t0 hlg
    have hCl:=l_cl hlg
    simp only[tzC,wzL]at hS⊢
    by_cases h1:T.way=1
    ·by_cases h5:k=1
     ·by_cases h6:sg=T.gn
      ·have hi:wantsT W T ⟨k,fl,sg,sl,sf⟩=true:=by simp[wantsT,h1,h5,h6]
       rw[hi]
       unfold m92
       repeat' with_reducible (first
        | refine ZR.h ?_ | refine zI (by decide) ?_
        | ((first | refine zK hE ?_ | refine zL hE mixT ?_);intro K hK;simp[KR.ks,KD.ks,KD.cl,q92_0,q92_1,q92_2,q92_3,q92_4,q92_5,q92_6,q92_7,hT,hC,hTl,hCl,hcf,h1,h5,h6,d89];(repeat' (first | refine hK _ _ ?_ | refine And.intro ?_ ?_ | (intro hc;try subst hc)))<;>(try clear hK K))
        | (refine zJ (b:=_) (by with_unfolding_all rfl) (fun hc=>?_) (fun hc=>?_)<;>simp at hc<;>(try subst hc)))
       all_goals first|(simp;done)|(simp at *;omega)|((try simp[hT,hC,hTl,hCl]);refine Imp.auto (by kernel_rfl) ?_ ?_<;>simp[NLe,hT,hC,hTl,hCl])
      ·have hi:wantsT W T ⟨k,fl,sg,sl,sf⟩=false:=by simp[wantsT,h1,h5,h6]
       rw[hi]
       unfold m92
       repeat' with_reducible (first
        | refine ZR.h ?_ | refine zI (by decide) ?_
        | ((first | refine zK hE ?_ | refine zL hE mixT ?_);intro K hK;simp[KR.ks,KD.ks,KD.cl,q92_0,q92_1,q92_2,q92_3,q92_4,q92_5,q92_6,q92_7,hT,hC,hTl,hCl,hcf,h1,h5,h6,d89];(repeat' (first | refine hK _ _ ?_ | refine And.intro ?_ ?_ | (intro hc;try subst hc)))<;>(try clear hK K))
        | (refine zJ (b:=_) (by with_unfolding_all rfl) (fun hc=>?_) (fun hc=>?_)<;>simp at hc<;>(try subst hc)))
       all_goals first|(simp;done)|(simp at *;omega)|((try simp[hT,hC,hTl,hCl]);refine Imp.auto (by kernel_rfl) ?_ ?_<;>simp[NLe,hT,hC,hTl,hCl])
     ·have hi:wantsT W T ⟨k,fl,sg,sl,sf⟩=false:=by simp[wantsT,h1,h5]
      rw[hi]
      unfold m92
      repeat' with_reducible (first
       | refine ZR.h ?_ | refine zI (by decide) ?_
       | ((first | refine zK hE ?_ | refine zL hE mixT ?_);intro K hK;simp[KR.ks,KD.ks,KD.cl,q92_0,q92_1,q92_2,q92_3,q92_4,q92_5,q92_6,q92_7,hT,hC,hTl,hCl,hcf,h1,h5,d89];(repeat' (first | refine hK _ _ ?_ | refine And.intro ?_ ?_ | (intro hc;try subst hc)))<;>(try clear hK K))
       | (refine zJ (b:=_) (by with_unfolding_all rfl) (fun hc=>?_) (fun hc=>?_)<;>simp at hc<;>(try subst hc)))
      all_goals first|(simp;done)|(simp at *;omega)|((try simp[hT,hC,hTl,hCl]);refine Imp.auto (by kernel_rfl) ?_ ?_<;>simp[NLe,hT,hC,hTl,hCl])
    ·by_cases h2:T.way=2
     ·by_cases h5:k=1
      ·by_cases h6:sg=T.gn
       ·have hi:wantsT W T ⟨k,fl,sg,sl,sf⟩=true:=by simp[wantsT,h1,h2,h5,h6]
        rw[hi]
        unfold m92
        repeat' with_reducible (first
         | refine ZR.h ?_ | refine zI (by decide) ?_
         | ((first | refine zK hE ?_ | refine zL hE mixT ?_);intro K hK;simp[KR.ks,KD.ks,KD.cl,q92_0,q92_1,q92_2,q92_3,q92_4,q92_5,q92_6,q92_7,hT,hC,hTl,hCl,hcf,h1,h2,h5,h6,d89];(repeat' (first | refine hK _ _ ?_ | refine And.intro ?_ ?_ | (intro hc;try subst hc)))<;>(try clear hK K))
         | (refine zJ (b:=_) (by with_unfolding_all rfl) (fun hc=>?_) (fun hc=>?_)<;>simp at hc<;>(try subst hc)))
        all_goals first|(simp;done)|(simp at *;omega)|((try simp[hT,hC,hTl,hCl]);refine Imp.auto (by kernel_rfl) ?_ ?_<;>simp[NLe,hT,hC,hTl,hCl])
       ·have hi:wantsT W T ⟨k,fl,sg,sl,sf⟩=false:=by simp[wantsT,h1,h2,h5,h6]
        rw[hi]
        unfold m92
        repeat' with_reducible (first
         | refine ZR.h ?_ | refine zI (by decide) ?_
         | ((first | refine zK hE ?_ | refine zL hE mixT ?_);intro K hK;simp[KR.ks,KD.ks,KD.cl,q92_0,q92_1,q92_2,q92_3,q92_4,q92_5,q92_6,q92_7,hT,hC,hTl,hCl,hcf,h1,h2,h5,h6,d89];(repeat' (first | refine hK _ _ ?_ | refine And.intro ?_ ?_ | (intro hc;try subst hc)))<;>(try clear hK K))
         | (refine zJ (b:=_) (by with_unfolding_all rfl) (fun hc=>?_) (fun hc=>?_)<;>simp at hc<;>(try subst hc)))
        all_goals first|(simp;done)|(simp at *;omega)|((try simp[hT,hC,hTl,hCl]);refine Imp.auto (by kernel_rfl) ?_ ?_<;>simp[NLe,hT,hC,hTl,hCl])
      ·have hi:wantsT W T ⟨k,fl,sg,sl,sf⟩=false:=by simp[wantsT,h1,h2,h5]
       rw[hi]
       unfold m92
       repeat' with_reducible (first
        | refine ZR.h ?_ | refine zI (by decide) ?_
        | ((first | refine zK hE ?_ | refine zL hE mixT ?_);intro K hK;simp[KR.ks,KD.ks,KD.cl,q92_0,q92_1,q92_2,q92_3,q92_4,q92_5,q92_6,q92_7,hT,hC,hTl,hCl,hcf,h1,h2,h5,d89];(repeat' (first | refine hK _ _ ?_ | refine And.intro ?_ ?_ | (intro hc;try subst hc)))<;>(try clear hK K))
        | (refine zJ (b:=_) (by with_unfolding_all rfl) (fun hc=>?_) (fun hc=>?_)<;>simp at hc<;>(try subst hc)))
       all_goals first|(simp;done)|(simp at *;omega)|((try simp[hT,hC,hTl,hCl]);refine Imp.auto (by kernel_rfl) ?_ ?_<;>simp[NLe,hT,hC,hTl,hCl])
     ·by_cases h3:T.way=3
      ·by_cases h5:k=2
       ·by_cases h6:T.tx.sd=0
        ·by_cases h7:shardZ W.c W.d T.tx.nm (bandZ W.d T.tx.pr)=T.sh
         ·have hi:wantsT W T ⟨k,fl,sg,sl,sf⟩=true:=by simp[wantsT,h1,h2,h3,h5,h6,h7]
          rw[hi]
          unfold m92
          repeat' with_reducible (first
           | refine ZR.h ?_ | refine zI (by decide) ?_
           | ((first | refine zK hE ?_ | refine zL hE mixT ?_);intro K hK;simp[KR.ks,KD.ks,KD.cl,q92_0,q92_1,q92_2,q92_3,q92_4,q92_5,q92_6,q92_7,hT,hC,hTl,hCl,hcf,h1,h2,h3,h5,h6,h7,d89];(repeat' (first | refine hK _ _ ?_ | refine And.intro ?_ ?_ | (intro hc;try subst hc)))<;>(try clear hK K))
           | (refine zJ (b:=_) (by with_unfolding_all rfl) (fun hc=>?_) (fun hc=>?_)<;>simp at hc<;>(try subst hc)))
          all_goals first|(simp;done)|(simp at *;omega)|((try simp[hT,hC,hTl,hCl]);refine Imp.auto (by kernel_rfl) ?_ ?_<;>simp[NLe,hT,hC,hTl,hCl])
         ·have hi:wantsT W T ⟨k,fl,sg,sl,sf⟩=false:=by simp[wantsT,h1,h2,h3,h5,h6,h7]
          rw[hi]
          unfold m92
          repeat' with_reducible (first
           | refine ZR.h ?_ | refine zI (by decide) ?_
           | ((first | refine zK hE ?_ | refine zL hE mixT ?_);intro K hK;simp[KR.ks,KD.ks,KD.cl,q92_0,q92_1,q92_2,q92_3,q92_4,q92_5,q92_6,q92_7,hT,hC,hTl,hCl,hcf,h1,h2,h3,h5,h6,h7,d89];(repeat' (first | refine hK _ _ ?_ | refine And.intro ?_ ?_ | (intro hc;try subst hc)))<;>(try clear hK K))
           | (refine zJ (b:=_) (by with_unfolding_all rfl) (fun hc=>?_) (fun hc=>?_)<;>simp at hc<;>(try subst hc)))
          all_goals first|(simp;done)|(simp at *;omega)|((try simp[hT,hC,hTl,hCl]);refine Imp.auto (by kernel_rfl) ?_ ?_<;>simp[NLe,hT,hC,hTl,hCl])
        ·have hi:wantsT W T ⟨k,fl,sg,sl,sf⟩=false:=by simp[wantsT,h1,h2,h3,h5,h6]
         rw[hi]
         unfold m92
         repeat' with_reducible (first
          | refine ZR.h ?_ | refine zI (by decide) ?_
          | ((first | refine zK hE ?_ | refine zL hE mixT ?_);intro K hK;simp[KR.ks,KD.ks,KD.cl,q92_0,q92_1,q92_2,q92_3,q92_4,q92_5,q92_6,q92_7,hT,hC,hTl,hCl,hcf,h1,h2,h3,h5,h6,d89];(repeat' (first | refine hK _ _ ?_ | refine And.intro ?_ ?_ | (intro hc;try subst hc)))<;>(try clear hK K))
          | (refine zJ (b:=_) (by with_unfolding_all rfl) (fun hc=>?_) (fun hc=>?_)<;>simp at hc<;>(try subst hc)))
         all_goals first|(simp;done)|(simp at *;omega)|((try simp[hT,hC,hTl,hCl]);refine Imp.auto (by kernel_rfl) ?_ ?_<;>simp[NLe,hT,hC,hTl,hCl])
       ·have hi:wantsT W T ⟨k,fl,sg,sl,sf⟩=false:=by simp[wantsT,h1,h2,h3,h5]
        rw[hi]
        unfold m92
        repeat' with_reducible (first
         | refine ZR.h ?_ | refine zI (by decide) ?_
         | ((first | refine zK hE ?_ | refine zL hE mixT ?_);intro K hK;simp[KR.ks,KD.ks,KD.cl,q92_0,q92_1,q92_2,q92_3,q92_4,q92_5,q92_6,q92_7,hT,hC,hTl,hCl,hcf,h1,h2,h3,h5,d89];(repeat' (first | refine hK _ _ ?_ | refine And.intro ?_ ?_ | (intro hc;try subst hc)))<;>(try clear hK K))
         | (refine zJ (b:=_) (by with_unfolding_all rfl) (fun hc=>?_) (fun hc=>?_)<;>simp at hc<;>(try subst hc)))
        all_goals first|(simp;done)|(simp at *;omega)|((try simp[hT,hC,hTl,hCl]);refine Imp.auto (by kernel_rfl) ?_ ?_<;>simp[NLe,hT,hC,hTl,hCl])
      ·have hi:wantsT W T ⟨k,fl,sg,sl,sf⟩=false:=by simp[wantsT,h1,h2,h3]
       rw[hi]
       unfold m92
       repeat' with_reducible (first
        | refine ZR.h ?_ | refine zI (by decide) ?_
        | ((first | refine zK hE ?_ | refine zL hE mixT ?_);intro K hK;simp[KR.ks,KD.ks,KD.cl,q92_0,q92_1,q92_2,q92_3,q92_4,q92_5,q92_6,q92_7,hT,hC,hTl,hCl,hcf,h1,h2,h3,d89];(repeat' (first | refine hK _ _ ?_ | refine And.intro ?_ ?_ | (intro hc;try subst hc)))<;>(try clear hK K))
        | (refine zJ (b:=_) (by with_unfolding_all rfl) (fun hc=>?_) (fun hc=>?_)<;>simp at hc<;>(try subst hc)))
       all_goals first|(simp;done)|(simp at *;omega)|((try simp[hT,hC,hTl,hCl]);refine Imp.auto (by kernel_rfl) ?_ ?_<;>simp[NLe,hT,hC,hTl,hCl])
   ·cases h
  ·cases h
 ·cases h
def d94:List AV→Option Ans
 | [.op _ tc,.op _ wc,.agg [.int .i64 k,.bool fl,.int .i64 sg,.int .i64 sl,.int .i64 sf]]=>(match tzOf tc,wzOf wc with
  | some T,some W=>if okW W=true then some (⟨.bool (findsT W T ⟨k,fl,sg,sl,sf⟩),[.free,.free]⟩) else none
  | _,_=>none)
 | _=>none
theorem ok94:NOk [(35,false),(10,false)] d94:=by
 intro xs aa h
 unfold d94 at h
 split at h
 ·rename_i t1 tc t2 wc k fl sg sl sf
  split at h
  ·rename_i T W hTc hWc
   split at h
   ·rename_i hc
    obtain ⟨u1,u2,u3,u4,rfl⟩:=wzOf_ex hWc
    obtain rfl:=tzOf_ex hTc
    injection h with h;subst h
    obtain ⟨hcf,hw,hwl,hs0,ht0,ht1,hlg⟩:=okW_ex hc
    have hT:=w_t0 hw
    have hC:=w_cl hw
    have hTl:=l_t0 hlg
    have hCl:=l_cl hlg
    refine ⟨Ends_of ?_,?_⟩<;>simp[tzC,wzL,hT,hC,hTl,hCl]
   ·cases h
  ·cases h
 ·cases h
theorem s94:Sound Try.prog 94 (nestS [(35,false),(10,false)] d94 ok94):=by
 refine nest_sound Try.func94 nm94 rc94 rv94 ok94 (fun xs a h=>?_) fun xs a h w0 S hS=>?_
 ·unfold d94 at h
  (repeat' (split at h))<;>first|(cases h;done)|exact Nat.le_of_ble_eq_true rfl
 unfold d94 at h
 split at h
 ·rename_i t1 tc t2 wc k fl sg sl sf
  split at h
  ·rename_i T W hTc hWc
   split at h
   ·rename_i hcond
    obtain ⟨u1,u2,u3,u4,rfl⟩:=wzOf_ex hWc
    obtain rfl:=tzOf_ex hTc
    injection h with h
    subst h
    clear hTc hWc
    have hE:SoundAll Try.prog (EL [(89,rdS d89 ok89)]):=EL_sound (by simp only[List.mem_cons,List.not_mem_nil,or_false,forall_eq_or_imp,forall_eq];exact s89)
    obtain ⟨hcf,hw,hwl,hs0,ht0,ht1,hlg⟩:=okW_ex hcond
    have hT:=w_t0 hw
    have hC:=w_cl hw
    have hTl:=l_t0 hlg
    have hCl:=l_cl hlg
    simp only[tzC,wzL]at hS⊢
    by_cases h1:T.way=1
    ·by_cases h5:k=1
     ·have hi:findsT W T ⟨k,fl,sg,sl,sf⟩=true:=by simp[findsT,h1,h5]
      rw[hi]
      unfold m94
      repeat' with_reducible (first
       | refine ZR.h ?_ | refine zI (by decide) ?_
       | ((first | refine zK hE ?_ | refine zL hE mixT ?_);intro K hK;simp[KR.ks,KD.ks,KD.cl,q94_0,q94_1,q94_2,q94_3,q94_4,q94_5,q94_6,q94_7,q94_8,q94_9,hT,hC,hTl,hCl,hcf,h1,h5,d89];(repeat' (first | refine hK _ _ ?_ | refine And.intro ?_ ?_ | (intro hc;try subst hc)))<;>(try clear hK K))
       | (refine zJ (b:=_) (by with_unfolding_all rfl) (fun hc=>?_) (fun hc=>?_)<;>simp at hc<;>(try subst hc)))
      all_goals first|(simp;done)|(simp at *;omega)|((try simp[hT,hC,hTl,hCl]);refine Imp.auto (by kernel_rfl) ?_ ?_<;>simp[NLe,hT,hC,hTl,hCl])
     ·have hi:findsT W T ⟨k,fl,sg,sl,sf⟩=false:=by simp[findsT,h1,h5]
      rw[hi]
      unfold m94
      repeat' with_reducible (first
       | refine ZR.h ?_ | refine zI (by decide) ?_
       | ((first | refine zK hE ?_ | refine zL hE mixT ?_);intro K hK;simp[KR.ks,KD.ks,KD.cl,q94_0,q94_1,q94_2,q94_3,q94_4,q94_5,q94_6,q94_7,q94_8,q94_9,hT,hC,hTl,hCl,hcf,h1,h5,d89];(repeat' (first | refine hK _ _ ?_ | refine And.intro ?_ ?_ | (intro hc;try subst hc)))<;>(try clear hK K))
       | (refine zJ (b:=_) (by with_unfolding_all rfl) (fun hc=>?_) (fun hc=>?_)<;>simp at hc<;>(try subst hc)))
      all_goals first|(simp;done)|(simp at *;omega)|((try simp[hT,hC,hTl,hCl]);refine Imp.auto (by kernel_rfl) ?_ ?_<;>simp[NLe,hT,hC,hTl,hCl])
    ·by_cases h2:T.way=2
     ·by_cases h7:shardZ W.c W.d T.ty.nm (bandZ W.d T.ty.pr)=T.sh
      ·by_cases h5:k=2
       ·have hi:findsT W T ⟨k,fl,sg,sl,sf⟩=true:=by simp[findsT,h1,h2,h7,h5]
        rw[hi]
        unfold m94
        repeat' with_reducible (first
         | refine ZR.h ?_ | refine zI (by decide) ?_
         | ((first | refine zK hE ?_ | refine zL hE mixT ?_);intro K hK;simp[KR.ks,KD.ks,KD.cl,q94_0,q94_1,q94_2,q94_3,q94_4,q94_5,q94_6,q94_7,q94_8,q94_9,hT,hC,hTl,hCl,hcf,h1,h2,h7,h5,d89];(repeat' (first | refine hK _ _ ?_ | refine And.intro ?_ ?_ | (intro hc;try subst hc)))<;>(try clear hK K))
         | (refine zJ (b:=_) (by with_unfolding_all rfl) (fun hc=>?_) (fun hc=>?_)<;>simp at hc<;>(try subst hc)))
        all_goals first|(simp;done)|(simp at *;omega)|((try simp[hT,hC,hTl,hCl]);refine Imp.auto (by kernel_rfl) ?_ ?_<;>simp[NLe,hT,hC,hTl,hCl])
       ·have hi:findsT W T ⟨k,fl,sg,sl,sf⟩=false:=by simp[findsT,h1,h2,h7,h5]
        rw[hi]
        unfold m94
        repeat' with_reducible (first
         | refine ZR.h ?_ | refine zI (by decide) ?_
         | ((first | refine zK hE ?_ | refine zL hE mixT ?_);intro K hK;simp[KR.ks,KD.ks,KD.cl,q94_0,q94_1,q94_2,q94_3,q94_4,q94_5,q94_6,q94_7,q94_8,q94_9,hT,hC,hTl,hCl,hcf,h1,h2,h7,h5,d89];(repeat' (first | refine hK _ _ ?_ | refine And.intro ?_ ?_ | (intro hc;try subst hc)))<;>(try clear hK K))
         | (refine zJ (b:=_) (by with_unfolding_all rfl) (fun hc=>?_) (fun hc=>?_)<;>simp at hc<;>(try subst hc)))
        all_goals first|(simp;done)|(simp at *;omega)|((try simp[hT,hC,hTl,hCl]);refine Imp.auto (by kernel_rfl) ?_ ?_<;>simp[NLe,hT,hC,hTl,hCl])
      ·have hi:findsT W T ⟨k,fl,sg,sl,sf⟩=false:=by simp[findsT,h1,h2,h7]
       rw[hi]
       unfold m94
       repeat' with_reducible (first
        | refine ZR.h ?_ | refine zI (by decide) ?_
        | ((first | refine zK hE ?_ | refine zL hE mixT ?_);intro K hK;simp[KR.ks,KD.ks,KD.cl,q94_0,q94_1,q94_2,q94_3,q94_4,q94_5,q94_6,q94_7,q94_8,q94_9,hT,hC,hTl,hCl,hcf,h1,h2,h7,d89];(repeat' (first | refine hK _ _ ?_ | refine And.intro ?_ ?_ | (intro hc;try subst hc)))<;>(try clear hK K))
        | (refine zJ (b:=_) (by with_unfolding_all rfl) (fun hc=>?_) (fun hc=>?_)<;>simp at hc<;>(try subst hc)))
       all_goals first|(simp;done)|(simp at *;omega)|((try simp[hT,hC,hTl,hCl]);refine Imp.auto (by kernel_rfl) ?_ ?_<;>simp[NLe,hT,hC,hTl,hCl])
     ·by_cases h3:T.way=3
      ·by_cases h5:k=2
       ·have hi:findsT W T ⟨k,fl,sg,sl,sf⟩=true:=by simp[findsT,h1,h2,h3,h5]
        rw[hi]
        unfold m94
        repeat' with_reducible (first
         | refine ZR.h ?_ | refine zI (by decide) ?_
         | ((first | refine zK hE ?_ | refine zL hE mixT ?_);intro K hK;simp[KR.ks,KD.ks,KD.cl,q94_0,q94_1,q94_2,q94_3,q94_4,q94_5,q94_6,q94_7,q94_8,q94_9,hT,hC,hTl,hCl,hcf,h1,h2,h3,h5,d89];(repeat' (first | refine hK _ _ ?_ | refine And.intro ?_ ?_ | (intro hc;try subst hc)))<;>(try clear hK K))
         | (refine zJ (b:=_) (by with_unfolding_all rfl) (fun hc=>?_) (fun hc=>?_)<;>simp at hc<;>(try subst hc)))
        all_goals first|(simp;done)|(simp at *;omega)|((try simp[hT,hC,hTl,hCl]);refine Imp.auto (by kernel_rfl) ?_ ?_<;>simp[NLe,hT,hC,hTl,hCl])
       ·have hi:findsT W T ⟨k,fl,sg,sl,sf⟩=false:=by simp[findsT,h1,h2,h3,h5]
        rw[hi]
        unfold m94
        repeat' with_reducible (first
         | refine ZR.h ?_ | refine zI (by decide) ?_
         | ((first | refine zK hE ?_ | refine zL hE mixT ?_);intro K hK;simp[KR.ks,KD.ks,KD.cl,q94_0,q94_1,q94_2,q94_3,q94_4,q94_5,q94_6,q94_7,q94_8,q94_9,hT,hC,hTl,hCl,hcf,h1,h2,h3,h5,d89];(repeat' (first | refine hK _ _ ?_ | refine And.intro ?_ ?_ | (intro hc;try subst hc)))<;>(try clear hK K))
         | (refine zJ (b:=_) (by with_unfolding_all rfl) (fun hc=>?_) (fun hc=>?_)<;>simp at hc<;>(try subst hc)))
        all_goals first|(simp;done)|(simp at *;omega)|((try simp[hT,hC,hTl,hCl]);refine Imp.auto (by kernel_rfl) ?_ ?_<;>simp[NLe,hT,hC,hTl,hCl])
      ·have hi:findsT W T ⟨k,fl,sg,sl,sf⟩=false:=by simp[findsT,h1,h2,h3]
       rw[hi]
       unfold m94
       repeat' with_reducible (first
        | refine ZR.h ?_ | refine zI (by decide) ?_
        | ((first | refine zK hE ?_ | refine zL hE mixT ?_);intro K hK;simp[KR.ks,KD.ks,KD.cl,q94_0,q94_1,q94_2,q94_3,q94_4,q94_5,q94_6,q94_7,q94_8,q94_9,hT,hC,hTl,hCl,hcf,h1,h2,h3,d89];(repeat' (first | refine hK _ _ ?_ | refine And.intro ?_ ?_ | (intro hc;try subst hc)))<;>(try clear hK K))
        | (refine zJ (b:=_) (by with_unfolding_all rfl) (fun hc=>?_) (fun hc=>?_)<;>simp at hc<;>(try subst hc)))
       all_goals first|(simp;done)|(simp at *;omega)|((try simp[hT,hC,hTl,hCl]);refine Imp.auto (by kernel_rfl) ?_ ?_<;>simp[NLe,hT,hC,hTl,hCl])
   ·cases h
  ·cases h
 ·cases h
def d99:List AV→Option Ans
 | [.op _ tc,.int .i64 c,.int .i64 g]=>(match tzOf tc with
  | some T=>some (⟨rcA ⟨1,T.q,T.p,T.ta,c,g⟩,[.free]⟩)
  | _=>none)
 | _=>none
theorem ok99:NOk [(35,false)] d99:=by
 intro xs aa h
 unfold d99 at h
 split at h
 ·rename_i t1 tc c g
  split at h
  ·rename_i T hTc
   obtain rfl:=tzOf_ex hTc
   injection h with h;subst h
   refine ⟨Ends_of ?_,?_⟩<;>simp[tzC,rcA]
  ·cases h
 ·cases h
theorem s99:Sound Try.prog 99 (nestS [(35,false)] d99 ok99):=by
 refine nest_sound Try.func99 nm99 rc99 rv99 ok99 (fun xs a h=>?_) fun xs a h w0 S hS=>?_
 ·unfold d99 at h
  (repeat' (split at h))<;>first|(cases h;done)|exact Nat.le_of_ble_eq_true rfl
 unfold d99 at h
 split at h
 ·rename_i t1 tc c g
  split at h
  ·rename_i T hTc
   obtain rfl:=tzOf_ex hTc
   injection h with h
   subst h
   clear hTc
   simp only[tzC]at hS⊢
   have hE:SoundAll Try.prog (EL []):=EL_sound (by simp)
   unfold m99
   repeat' with_reducible (first
    | refine ZR.h ?_ | refine zI (by decide) ?_
    | ((first | refine zK hE ?_ | refine zL hE mixT ?_);intro K hK;simp[KR.ks,KD.ks,KD.cl,q99_0,q99_1,rcA];(repeat' (first | refine hK _ _ ?_ | refine And.intro ?_ ?_ | (intro hc;try subst hc)))<;>(try clear hK K))
    | (refine zJ (b:=_) (by with_unfolding_all rfl) (fun hc=>?_) (fun hc=>?_)<;>simp at hc<;>(try subst hc)))
   all_goals first|(simp;done)|(simp at *;omega)|((try simp[rcA]);refine Imp.auto (by kernel_rfl) ?_ ?_<;>simp[NLe,rcA])
  ·cases h
 ·cases h
def d15:List AV→Option Ans
 | [.op _ tc]=>(match tzOf tc with
  | some T=>some (⟨.bool T.made,[.free]⟩)
  | _=>none)
 | _=>none
theorem ok15:NOk [(35,false)] d15:=by
 intro xs aa h
 unfold d15 at h
 split at h
 ·rename_i t1 tc
  split at h
  ·rename_i T hTc
   obtain rfl:=tzOf_ex hTc
   injection h with h;subst h
   refine ⟨Ends_of ?_,?_⟩<;>simp[tzC]
  ·cases h
 ·cases h
theorem s15:Sound Try.prog 15 (nestS [(35,false)] d15 ok15):=by
 refine nest_sound Try.func15 nm15 rc15 rv15 ok15 (fun xs a h=>?_) fun xs a h w0 S hS=>?_
 ·unfold d15 at h
  (repeat' (split at h))<;>first|(cases h;done)|exact Nat.le_of_ble_eq_true rfl
 unfold d15 at h
 split at h
 ·rename_i t1 tc
  split at h
  ·rename_i T hTc
   obtain rfl:=tzOf_ex hTc
   injection h with h
   subst h
   clear hTc
   simp only[tzC]at hS⊢
   have hE:SoundAll Try.prog (EL []):=EL_sound (by simp)
   unfold m15
   repeat' with_reducible (first
    | refine ZR.h ?_ | refine zI (by decide) ?_
    | (refine zK hE ?_;intro K hK;simp[KR.ks,q15_0,q15_1];(repeat' (first | refine hK _ _ ?_ | refine And.intro ?_ ?_ | (intro hc;try subst hc)))<;>(try clear hK K))
    | (refine zJ (b:=_) (by with_unfolding_all rfl) (fun hc=>?_) (fun hc=>?_)<;>simp at hc<;>(try subst hc)))
   all_goals first|(simp;done)|(simp at *;omega)|((try simp);refine Imp.auto (by kernel_rfl) ?_ ?_<;>simp[NLe])
  ·cases h
 ·cases h
def d13:List AV→Option Ans
 | [.op _ tc]=>(match tzOf tc with
  | some T=>some (⟨.bool (decide (14≤T.pc)),[.free]⟩)
  | _=>none)
 | _=>none
theorem ok13:NOk [(35,false)] d13:=by
 intro xs aa h
 unfold d13 at h
 split at h
 ·rename_i t1 tc
  split at h
  ·rename_i T hTc
   obtain rfl:=tzOf_ex hTc
   injection h with h;subst h
   refine ⟨Ends_of ?_,?_⟩<;>simp[tzC]
  ·cases h
 ·cases h
theorem s13:Sound Try.prog 13 (nestS [(35,false)] d13 ok13):=by
 refine nest_sound Try.func13 nm13 rc13 rv13 ok13 (fun xs a h=>?_) fun xs a h w0 S hS=>?_
 ·unfold d13 at h
  (repeat' (split at h))<;>first|(cases h;done)|exact Nat.le_of_ble_eq_true rfl
 unfold d13 at h
 split at h
 ·rename_i t1 tc
  split at h
  ·rename_i T hTc
   obtain rfl:=tzOf_ex hTc
   injection h with h
   subst h
   clear hTc
   simp only[tzC]at hS⊢
   have hE:SoundAll Try.prog (EL []):=EL_sound (by simp)
   by_cases h1:14≤T.pc
   ·unfold m13
    repeat' with_reducible (first
     | refine ZR.h ?_ | refine zI (by decide) ?_
     | (refine zK hE ?_;intro K hK;simp[KR.ks,q13_0,q13_1,h1];(repeat' (first | refine hK _ _ ?_ | refine And.intro ?_ ?_ | (intro hc;try subst hc)))<;>(try clear hK K))
     | (refine zJ (b:=_) (by with_unfolding_all rfl) (fun hc=>?_) (fun hc=>?_)<;>simp at hc<;>(try subst hc)))
    all_goals first|(simp;done)|(simp at *;omega)|((try simp[h1]);refine Imp.auto (by kernel_rfl) ?_ ?_<;>simp[NLe,h1])
   ·unfold m13
    repeat' with_reducible (first
     | refine ZR.h ?_ | refine zI (by decide) ?_
     | (refine zK hE ?_;intro K hK;simp[KR.ks,q13_0,q13_1,h1];(repeat' (first | refine hK _ _ ?_ | refine And.intro ?_ ?_ | (intro hc;try subst hc)))<;>(try clear hK K))
     | (refine zJ (b:=_) (by with_unfolding_all rfl) (fun hc=>?_) (fun hc=>?_)<;>simp at hc<;>(try subst hc)))
    all_goals first|(simp;done)|(simp at *;omega)|((try simp[h1]);refine Imp.auto (by kernel_rfl) ?_ ?_<;>simp[NLe,h1])
  ·cases h
 ·cases h
def tz0 (w x g y s:Int):TZ:=⟨w,x,g,y,s,0,0,0,⟨0,0,0,0,0⟩,⟨0,0,0,0,0⟩,false,false,false,0,0,0,0,zeroS,zeroS⟩
def d11:List AV→Option Ans
 | [.agg [.int .i64 w,.int .i64 x,.int .i64 g,.int .i64 y,.int .i64 s]]=>some ⟨.op 0 (tzC (tz0 w x g y s)),[]⟩
 | _=>none
theorem ok11:NOk [] d11:=by
 intro xs a h
 unfold d11 at h
 (repeat' (split at h))<;>first|(cases h;done)|(injection h with h;subst h;refine ⟨Ends_of ?_,?_⟩<;>simp[tzC,tz0,zeroS])
theorem s11:Sound Try.prog 11 (nestS [] d11 ok11):=by
 refine nest_sound Try.func11 nm11 rc11 rv11 ok11 (fun xs a h=>?_) fun xs a h w0 S hS=>?_
 ·unfold d11 at h
  (repeat' (split at h))<;>first|(cases h;done)|exact Nat.le_of_ble_eq_true rfl
 unfold d11 at h
 split at h
 ·rename_i w x g y s
  injection h with h
  subst h
  have hE:SoundAll Try.prog (EL []):=EL_sound (by simp)
  unfold m11
  repeat' with_reducible (first
   | refine ZR.h ?_ | refine zI (by decide) ?_
   | (refine zK hE ?_;intro K hK;simp[KR.ks,q11_0,q11_1,tzC,tz0,zeroS];(repeat' (first | refine hK _ _ ?_ | refine And.intro ?_ ?_ | (intro hc;try subst hc)))<;>(try clear hK K))
   | (refine zJ (b:=_) (by with_unfolding_all rfl) (fun hc=>?_) (fun hc=>?_)<;>simp at hc<;>(try subst hc)))
  all_goals first|(simp;done)|(simp at *;omega)|((try simp[tzC,tz0,zeroS]);refine Imp.auto (by kernel_rfl) ?_ ?_<;>simp[NLe,tzC,tz0,zeroS])
 ·cases h
end Go.W

