/- A part of the proofs about the pair's laws (PsP5, PsX). -/
import Derived.Test.YtidbbnkpglggdaaPsP2
import Derived.Test.YtidbbnkpglggdaaPsP4
import Derived.Test.YtidbbnkpglggdaaPsV0
import Derived.Test.YtidbbnkpglggdaaPqB
namespace Go.W
open Go.Proofs
set_option linter.unusedSimpArgs false
set_option linter.unusedVariables false
set_option maxHeartbeats 8000000
attribute [local irreducible] Wm
attribute [local simp] nmap lkp mkPl prs prsL prT ddL idL CRenL CRen Ren RenL NObj.none CRenLL
theorem hold_pc (W:WZ) (T:TZ):(holdT W T).1.pc=T.pc:=by unfold holdT;split<;>rfl
theorem look_pc (W:WZ) (T:TZ):(lookT W T).1.pc=T.pc:=by unfold lookT;split<;>rfl
theorem take_pc (W:WZ) (T:TZ):(takeT W T).1.pc=T.pc:=by unfold takeT;(repeat' split)<;>rfl
theorem let_pc (W:WZ) (T:TZ):(letT W T).1.pc=T.pc:=by
 unfold letT
 split
 ·split
  ·split<;>rfl
  ·rfl
 ·rfl
theorem stepT_pc (W:WZ) (T:TZ):(stepT W T).1.pc=T.pc:=by
 unfold stepT
 repeat' split
 all_goals first|exact hold_pc W T|exact look_pc W T|exact take_pc W T|exact let_pc W T|rfl
theorem e77 {W:WZ} {T:TZ} (hT:okT T=true) (hW:okW W=true) (hs:smW W=true) (hi:idleT W T=false) (u v u1 u2 u3 u4:Nat):d77 [.op u (tzC T),.op v (wzL W u1 u2 u3 u4)]=some ⟨.tup [],[.cells 0 (tzC (holdT W T).1),.cells 0 (wzC (holdT W T).2)]⟩:=by
 simp only[d77,tzOf_C,wzOf_C]
 rw[if_pos ⟨hT,hW,hs,hi⟩]
theorem e78 {W:WZ} {T:TZ} (hT:okT T=true) (hW:okW W=true) (hs:smW W=true) (hi:idleT W T=false) (u v u1 u2 u3 u4:Nat):d78 [.op u (tzC T),.op v (wzL W u1 u2 u3 u4)]=some ⟨.tup [],[.cells 0 (tzC (takeT W T).1),.cells 0 (wzC (takeT W T).2)]⟩:=by
 simp only[d78,tzOf_C,wzOf_C]
 rw[if_pos ⟨hT,hW,hs,hi⟩]
theorem e79 {W:WZ} {T:TZ} (hT:okT T=true) (hW:okW W=true) (hs:smW W=true) (hi:idleT W T=false) (u v u1 u2 u3 u4:Nat):d79 [.op u (tzC T),.op v (wzL W u1 u2 u3 u4)]=some ⟨.tup [],[.cells 0 (tzC (lookT W T).1),.cells 0 (wzC (lookT W T).2)]⟩:=by
 simp only[d79,tzOf_C,wzOf_C]
 rw[if_pos ⟨hT,hW,hs,hi⟩]
theorem e80 {W:WZ} {T:TZ} (hT:okT T=true) (hW:okW W=true) (hs:smW W=true) (hi:idleT W T=false) (u v u1 u2 u3 u4:Nat):d80 [.op u (tzC T),.op v (wzL W u1 u2 u3 u4)]=some ⟨.tup [],[.cells 0 (tzC (letT W T).1),.cells 0 (wzC (letT W T).2)]⟩:=by
 simp only[d80,tzOf_C,wzOf_C]
 rw[if_pos ⟨hT,hW,hs,hi⟩]
theorem e81 {W:WZ} {T:TZ} (hT:okT T=true) (hW:okW W=true) (hs:smW W=true) (hi:idleT W T=false) (u v u1 u2 u3 u4:Nat):d81 [.op u (tzC T),.op v (wzL W u1 u2 u3 u4)]=some ⟨.tup [],[.cells 0 (tzC T),.cells 0 (wzC (noteT W T))]⟩:=by
 simp only[d81,tzOf_C,wzOf_C]
 rw[if_pos ⟨hT,hW,hs,hi⟩]
def d54:List AV→Option Ans
 | [.op _ tc,.op _ wc]=>(match tzOf tc,wzOf wc with
  | some T,some W=>if okT T=true∧okW W=true∧smW W=true∧idleT W T=false then some (⟨.tup [],[.cells 0 (tzC (stepT W T).1),.cells 0 (wzC (stepT W T).2)]⟩) else none
  | _,_=>none)
 | _=>none
theorem ok54:NOk [(35,true),(10,true)] d54:=by
 intro xs aa h
 unfold d54 at h
 split at h
 ·rename_i t1 tc t2 wc
  split at h
  ·rename_i T W hTc hWc
   split at h
   ·rename_i hc
    obtain ⟨u1,u2,u3,u4,rfl⟩:=wzOf_ex hWc
    obtain rfl:=tzOf_ex hTc
    injection h with h;subst h
    have hW:=hc.2.1
    obtain ⟨hcf,hw,hwl,hs0,ht0,ht1,hlg⟩:=okW_ex hW
    have hT:=w_t0 hw
    have hC:=w_cl hw
    have hTl:=l_t0 hlg
    have hCl:=l_cl hlg
    have hW2:=stepT_ok hW T
    obtain ⟨hcf2,hw2,hwl2,hs02,ht02,ht12,hlg2⟩:=okW_ex hW2
    have hT2:=w_t0 hw2
    have hC2:=w_cl hw2
    have hTl2:=l_t0 hlg2
    have hCl2:=l_cl hlg2
    refine ⟨Ends_of ?_,?_⟩<;>simp[tzC,wzL,wzC,hT,hC,hTl,hCl,hT2,hC2,hTl2,hCl2]
   ·cases h
  ·cases h
 ·cases h
theorem s54:Sound Try.prog 54 (nestS [(35,true),(10,true)] d54 ok54):=by
 refine nest_sound Try.func54 nm54 rc54 rv54 ok54 (fun xs a h=>?_) fun xs a h w0 S hS=>?_
 ·unfold d54 at h
  (repeat' (split at h))<;>first|(cases h;done)|exact Nat.le_of_ble_eq_true rfl
 unfold d54 at h
 split at h
 ·rename_i t1 tc t2 wc
  split at h
  ·rename_i T W hTc hWc
   split at h
   ·rename_i hcond
    obtain ⟨u1,u2,u3,u4,rfl⟩:=wzOf_ex hWc
    obtain rfl:=tzOf_ex hTc
    injection h with h
    subst h
    clear hTc hWc
    have hE:SoundAll Try.prog (EL [(14,nestS [(10,true)] d14 ok14),(65,nestS [(10,true)] d65 ok65),(77,nestS [(35,true),(10,true)] d77 ok77),(78,nestS [(35,true),(10,true)] d78 ok78),(79,nestS [(35,true),(10,true)] d79 ok79),(80,nestS [(35,true),(10,true)] d80 ok80),(81,nestS [(35,true),(10,true)] d81 ok81)]):=EL_sound (by simp only[List.mem_cons,List.not_mem_nil,or_false,forall_eq_or_imp,forall_eq];exact ⟨s14,s65,s77,s78,s79,s80,s81⟩)
    obtain ⟨hokT,hW,hsm,hid⟩:=hcond
    obtain ⟨hpc0,hpc1,hx0,hx1,hy0,hy1,htx0,htx1,hty0,hty1,hq0,hq1,hp0,hp1,hta0,hta1,hen0,hen1,hnx,hny⟩:=okT_ex hokT
    obtain ⟨hcf,hw,hwl,hs0,ht0,ht1,hlg⟩:=okW_ex hW
    have hlo:=smW_lo hsm
    obtain ⟨hsm1,hsm2⟩:=smW_ex hsm
    obtain ⟨hX0,hX1,hY0,hY1,hAB⟩:=idle_in hW hid
    have hT:=w_t0 hw
    have hC:=w_cl hw
    have hTl:=l_t0 hlg
    have hCl:=l_cl hlg
    by_cases h1:T.pc=0
    ·have hh:stepT W T=({ T with wx:=sAt W T.x },tickW W):=by simp[stepT,h1]
     have hk:=e14 hW hlo hX0 hX1
     rw[hh]
     simp only[tzC,wzL,wzC,tickW,stA,tmA,tmC]at hS hk⊢
     unfold m54
     repeat' with_reducible (first
      | refine ZR.h ?_ | refine zI (by decide) ?_
      | (refine zK hE ?_;intro K hK;simp[KR.ks,q54_0,q54_1,q54_2,q54_3,q54_4,q54_5,q54_6,q54_7,q54_8,q54_9,q54_10,q54_11,q54_12,q54_13,q54_14,q54_15,q54_16,q54_17,q54_18,q54_19,hT,hC,hTl,hCl,h1,hk];(repeat' (first | refine hK _ _ ?_ | refine And.intro ?_ ?_ | (intro hc;try subst hc)))<;>(try clear hK K))
      | (refine zJ (b:=_) (by with_unfolding_all rfl) (fun hc=>?_) (fun hc=>?_)<;>simp at hc<;>(try subst hc)))
     all_goals first|(simp;done)|(simp at *;omega)|((try simp[hT,hC,hTl,hCl,h1]);refine Imp.auto (by kernel_rfl) ?_ ?_<;>simp[NLe,hT,hC,hTl,hCl,h1])
    ·have g0:=h1
     clear h1
     by_cases h1:T.pc=1
     ·have hh:stepT W T=({ T with tx:=termsZ (tAt W T.x) },tickW W):=by simp[stepT,h1]
      have hk:=e65 hW hlo hX0 hX1
      rw[hh]
      simp only[tzC,wzL,wzC,tickW,stA,tmA,tmC]at hS hk⊢
      unfold m54
      repeat' with_reducible (first
       | refine ZR.h ?_ | refine zI (by decide) ?_
       | (refine zK hE ?_;intro K hK;simp[KR.ks,q54_0,q54_1,q54_2,q54_3,q54_4,q54_5,q54_6,q54_7,q54_8,q54_9,q54_10,q54_11,q54_12,q54_13,q54_14,q54_15,q54_16,q54_17,q54_18,q54_19,hT,hC,hTl,hCl,h1,hk];(repeat' (first | refine hK _ _ ?_ | refine And.intro ?_ ?_ | (intro hc;try subst hc)))<;>(try clear hK K))
       | (refine zJ (b:=_) (by with_unfolding_all rfl) (fun hc=>?_) (fun hc=>?_)<;>simp at hc<;>(try subst hc)))
      all_goals first|(simp;done)|(simp at *;omega)|((try simp[hT,hC,hTl,hCl,h1]);refine Imp.auto (by kernel_rfl) ?_ ?_<;>simp[NLe,hT,hC,hTl,hCl,h1])
     ·have g1:=h1
      clear h1
      by_cases h1:T.pc=2
      ·have hh:stepT W T=holdT W T:=by simp[stepT,h1]
       have hk:=e77 hokT hW hsm hid
       have hW2:=hold_ok hW T
       obtain ⟨r,hr⟩:∃ r,holdT W T=r:=⟨_,rfl⟩
       rw[hh,hr]
       rw[hr]at hk hW2
       obtain ⟨hcf2,hw2,hwl2,hs02,ht02,ht12,hlg2⟩:=okW_ex hW2
       have hT2:=w_t0 hw2
       have hC2:=w_cl hw2
       have hTl2:=l_t0 hlg2
       have hCl2:=l_cl hlg2
       simp only[tzC,wzL,wzC]at hS hk⊢
       simp only[h1]at hk
       unfold m54
       repeat' with_reducible (first
        | refine ZR.h ?_ | refine zI (by decide) ?_
        | (refine zK hE ?_;intro K hK;simp[KR.ks,q54_0,q54_1,q54_2,q54_3,q54_4,q54_5,q54_6,q54_7,q54_8,q54_9,q54_10,q54_11,q54_12,q54_13,q54_14,q54_15,q54_16,q54_17,q54_18,q54_19,hT,hC,hTl,hCl,hT2,hC2,hTl2,hCl2,h1,hk];(repeat' (first | refine hK _ _ ?_ | refine And.intro ?_ ?_ | (intro hc;try subst hc)))<;>(try clear hK K))
        | (refine zJ (b:=_) (by with_unfolding_all rfl) (fun hc=>?_) (fun hc=>?_)<;>simp at hc<;>(try subst hc)))
       all_goals first|(simp;done)|(simp at *;omega)|((try simp[hT,hC,hTl,hCl,hT2,hC2,hTl2,hCl2,h1]);refine Imp.auto (by kernel_rfl) ?_ ?_<;>simp[NLe,hT,hC,hTl,hCl,hT2,hC2,hTl2,hCl2,h1])
      ·have g2:=h1
       clear h1
       by_cases h1:T.pc=3
       ·have hh:stepT W T=({ T with wy:=sAt W T.y },tickW W):=by simp[stepT,h1]
        have hk:=e14 hW hlo hY0 hY1
        rw[hh]
        simp only[tzC,wzL,wzC,tickW,stA,tmA,tmC]at hS hk⊢
        unfold m54
        repeat' with_reducible (first
         | refine ZR.h ?_ | refine zI (by decide) ?_
         | (refine zK hE ?_;intro K hK;simp[KR.ks,q54_0,q54_1,q54_2,q54_3,q54_4,q54_5,q54_6,q54_7,q54_8,q54_9,q54_10,q54_11,q54_12,q54_13,q54_14,q54_15,q54_16,q54_17,q54_18,q54_19,hT,hC,hTl,hCl,h1,hk];(repeat' (first | refine hK _ _ ?_ | refine And.intro ?_ ?_ | (intro hc;try subst hc)))<;>(try clear hK K))
         | (refine zJ (b:=_) (by with_unfolding_all rfl) (fun hc=>?_) (fun hc=>?_)<;>simp at hc<;>(try subst hc)))
        all_goals first|(simp;done)|(simp at *;omega)|((try simp[hT,hC,hTl,hCl,h1]);refine Imp.auto (by kernel_rfl) ?_ ?_<;>simp[NLe,hT,hC,hTl,hCl,h1])
       ·have g3:=h1
        clear h1
        by_cases h1:T.pc=4
        ·have hh:stepT W T=({ T with ty:=termsZ (tAt W T.y) },tickW W):=by simp[stepT,h1]
         have hk:=e65 hW hlo hY0 hY1
         rw[hh]
         simp only[tzC,wzL,wzC,tickW,stA,tmA,tmC]at hS hk⊢
         unfold m54
         repeat' with_reducible (first
          | refine ZR.h ?_ | refine zI (by decide) ?_
          | (refine zK hE ?_;intro K hK;simp[KR.ks,q54_0,q54_1,q54_2,q54_3,q54_4,q54_5,q54_6,q54_7,q54_8,q54_9,q54_10,q54_11,q54_12,q54_13,q54_14,q54_15,q54_16,q54_17,q54_18,q54_19,hT,hC,hTl,hCl,h1,hk];(repeat' (first | refine hK _ _ ?_ | refine And.intro ?_ ?_ | (intro hc;try subst hc)))<;>(try clear hK K))
          | (refine zJ (b:=_) (by with_unfolding_all rfl) (fun hc=>?_) (fun hc=>?_)<;>simp at hc<;>(try subst hc)))
         all_goals first|(simp;done)|(simp at *;omega)|((try simp[hT,hC,hTl,hCl,h1]);refine Imp.auto (by kernel_rfl) ?_ ?_<;>simp[NLe,hT,hC,hTl,hCl,h1])
        ·have g4:=h1
         clear h1
         by_cases h1:T.pc=5
         ·have hh:stepT W T=takeT W T:=by simp[stepT,h1]
          have hk:=e78 hokT hW hsm hid
          have hW2:=take_ok hW T
          obtain ⟨r,hr⟩:∃ r,takeT W T=r:=⟨_,rfl⟩
          rw[hh,hr]
          rw[hr]at hk hW2
          obtain ⟨hcf2,hw2,hwl2,hs02,ht02,ht12,hlg2⟩:=okW_ex hW2
          have hT2:=w_t0 hw2
          have hC2:=w_cl hw2
          have hTl2:=l_t0 hlg2
          have hCl2:=l_cl hlg2
          simp only[tzC,wzL,wzC]at hS hk⊢
          simp only[h1]at hk
          unfold m54
          repeat' with_reducible (first
           | refine ZR.h ?_ | refine zI (by decide) ?_
           | (refine zK hE ?_;intro K hK;simp[KR.ks,q54_0,q54_1,q54_2,q54_3,q54_4,q54_5,q54_6,q54_7,q54_8,q54_9,q54_10,q54_11,q54_12,q54_13,q54_14,q54_15,q54_16,q54_17,q54_18,q54_19,hT,hC,hTl,hCl,hT2,hC2,hTl2,hCl2,h1,hk];(repeat' (first | refine hK _ _ ?_ | refine And.intro ?_ ?_ | (intro hc;try subst hc)))<;>(try clear hK K))
           | (refine zJ (b:=_) (by with_unfolding_all rfl) (fun hc=>?_) (fun hc=>?_)<;>simp at hc<;>(try subst hc)))
          all_goals first|(simp;done)|(simp at *;omega)|((try simp[hT,hC,hTl,hCl,hT2,hC2,hTl2,hCl2,h1]);refine Imp.auto (by kernel_rfl) ?_ ?_<;>simp[NLe,hT,hC,hTl,hCl,hT2,hC2,hTl2,hCl2,h1])
         ·have g5:=h1
          clear h1
          by_cases h1:T.pc=6
          ·have hh:stepT W T=lookT W T:=by simp[stepT,h1]
           have hk:=e79 hokT hW hsm hid
           have hW2:=look_ok hW T
           obtain ⟨r,hr⟩:∃ r,lookT W T=r:=⟨_,rfl⟩
           rw[hh,hr]
           rw[hr]at hk hW2
           obtain ⟨hcf2,hw2,hwl2,hs02,ht02,ht12,hlg2⟩:=okW_ex hW2
           have hT2:=w_t0 hw2
           have hC2:=w_cl hw2
           have hTl2:=l_t0 hlg2
           have hCl2:=l_cl hlg2
           simp only[tzC,wzL,wzC]at hS hk⊢
           simp only[h1]at hk
           unfold m54
           repeat' with_reducible (first
            | refine ZR.h ?_ | refine zI (by decide) ?_
            | (refine zK hE ?_;intro K hK;simp[KR.ks,q54_0,q54_1,q54_2,q54_3,q54_4,q54_5,q54_6,q54_7,q54_8,q54_9,q54_10,q54_11,q54_12,q54_13,q54_14,q54_15,q54_16,q54_17,q54_18,q54_19,hT,hC,hTl,hCl,hT2,hC2,hTl2,hCl2,h1,hk];(repeat' (first | refine hK _ _ ?_ | refine And.intro ?_ ?_ | (intro hc;try subst hc)))<;>(try clear hK K))
            | (refine zJ (b:=_) (by with_unfolding_all rfl) (fun hc=>?_) (fun hc=>?_)<;>simp at hc<;>(try subst hc)))
           all_goals first|(simp;done)|(simp at *;omega)|((try simp[hT,hC,hTl,hCl,hT2,hC2,hTl2,hCl2,h1]);refine Imp.auto (by kernel_rfl) ?_ ?_<;>simp[NLe,hT,hC,hTl,hCl,hT2,hC2,hTl2,hCl2,h1])
          ·have g6:=h1
           clear h1
           by_cases h1:T.pc=7
           ·have hh:stepT W T=letT W T:=by simp[stepT,h1]
            have hk:=e80 hokT hW hsm hid
            have hW2:=let_ok hW T
            obtain ⟨r,hr⟩:∃ r,letT W T=r:=⟨_,rfl⟩
            rw[hh,hr]
            rw[hr]at hk hW2
            obtain ⟨hcf2,hw2,hwl2,hs02,ht02,ht12,hlg2⟩:=okW_ex hW2
            have hT2:=w_t0 hw2
            have hC2:=w_cl hw2
            have hTl2:=l_t0 hlg2
            have hCl2:=l_cl hlg2
            simp only[tzC,wzL,wzC]at hS hk⊢
            simp only[h1]at hk
            unfold m54
            repeat' with_reducible (first
             | refine ZR.h ?_ | refine zI (by decide) ?_
             | (refine zK hE ?_;intro K hK;simp[KR.ks,q54_0,q54_1,q54_2,q54_3,q54_4,q54_5,q54_6,q54_7,q54_8,q54_9,q54_10,q54_11,q54_12,q54_13,q54_14,q54_15,q54_16,q54_17,q54_18,q54_19,hT,hC,hTl,hCl,hT2,hC2,hTl2,hCl2,h1,hk];(repeat' (first | refine hK _ _ ?_ | refine And.intro ?_ ?_ | (intro hc;try subst hc)))<;>(try clear hK K))
             | (refine zJ (b:=_) (by with_unfolding_all rfl) (fun hc=>?_) (fun hc=>?_)<;>simp at hc<;>(try subst hc)))
            all_goals first|(simp;done)|(simp at *;omega)|((try simp[hT,hC,hTl,hCl,hT2,hC2,hTl2,hCl2,h1]);refine Imp.auto (by kernel_rfl) ?_ ?_<;>simp[NLe,hT,hC,hTl,hCl,hT2,hC2,hTl2,hCl2,h1])
           ·have g7:=h1
            clear h1
            by_cases h1:T.pc=8
            ·have hh:stepT W T=lookT W T:=by simp[stepT,h1]
             have hk:=e79 hokT hW hsm hid
             have hW2:=look_ok hW T
             obtain ⟨r,hr⟩:∃ r,lookT W T=r:=⟨_,rfl⟩
             rw[hh,hr]
             rw[hr]at hk hW2
             obtain ⟨hcf2,hw2,hwl2,hs02,ht02,ht12,hlg2⟩:=okW_ex hW2
             have hT2:=w_t0 hw2
             have hC2:=w_cl hw2
             have hTl2:=l_t0 hlg2
             have hCl2:=l_cl hlg2
             simp only[tzC,wzL,wzC]at hS hk⊢
             simp only[h1]at hk
             unfold m54
             repeat' with_reducible (first
              | refine ZR.h ?_ | refine zI (by decide) ?_
              | (refine zK hE ?_;intro K hK;simp[KR.ks,q54_0,q54_1,q54_2,q54_3,q54_4,q54_5,q54_6,q54_7,q54_8,q54_9,q54_10,q54_11,q54_12,q54_13,q54_14,q54_15,q54_16,q54_17,q54_18,q54_19,hT,hC,hTl,hCl,hT2,hC2,hTl2,hCl2,h1,hk];(repeat' (first | refine hK _ _ ?_ | refine And.intro ?_ ?_ | (intro hc;try subst hc)))<;>(try clear hK K))
              | (refine zJ (b:=_) (by with_unfolding_all rfl) (fun hc=>?_) (fun hc=>?_)<;>simp at hc<;>(try subst hc)))
             all_goals first|(simp;done)|(simp at *;omega)|((try simp[hT,hC,hTl,hCl,hT2,hC2,hTl2,hCl2,h1]);refine Imp.auto (by kernel_rfl) ?_ ?_<;>simp[NLe,hT,hC,hTl,hCl,hT2,hC2,hTl2,hCl2,h1])
            ·have g8:=h1
             clear h1
             by_cases h1:T.pc=9
             ·have hh:stepT W T=letT W T:=by simp[stepT,h1]
              have hk:=e80 hokT hW hsm hid
              have hW2:=let_ok hW T
              obtain ⟨r,hr⟩:∃ r,letT W T=r:=⟨_,rfl⟩
              rw[hh,hr]
              rw[hr]at hk hW2
              obtain ⟨hcf2,hw2,hwl2,hs02,ht02,ht12,hlg2⟩:=okW_ex hW2
              have hT2:=w_t0 hw2
              have hC2:=w_cl hw2
              have hTl2:=l_t0 hlg2
              have hCl2:=l_cl hlg2
              simp only[tzC,wzL,wzC]at hS hk⊢
              simp only[h1]at hk
              unfold m54
              repeat' with_reducible (first
               | refine ZR.h ?_ | refine zI (by decide) ?_
               | (refine zK hE ?_;intro K hK;simp[KR.ks,q54_0,q54_1,q54_2,q54_3,q54_4,q54_5,q54_6,q54_7,q54_8,q54_9,q54_10,q54_11,q54_12,q54_13,q54_14,q54_15,q54_16,q54_17,q54_18,q54_19,hT,hC,hTl,hCl,hT2,hC2,hTl2,hCl2,h1,hk];(repeat' (first | refine hK _ _ ?_ | refine And.intro ?_ ?_ | (intro hc;try subst hc)))<;>(try clear hK K))
               | (refine zJ (b:=_) (by with_unfolding_all rfl) (fun hc=>?_) (fun hc=>?_)<;>simp at hc<;>(try subst hc)))
              all_goals first|(simp;done)|(simp at *;omega)|((try simp[hT,hC,hTl,hCl,hT2,hC2,hTl2,hCl2,h1]);refine Imp.auto (by kernel_rfl) ?_ ?_<;>simp[NLe,hT,hC,hTl,hCl,hT2,hC2,hTl2,hCl2,h1])
             ·have g9:=h1
              clear h1
              have hh:stepT W T=(T,noteT W T):=by simp[stepT,g0,g1,g2,g3,g4,g5,g6,g7,g8,g9]
              have hk:=e81 hokT hW hsm hid
              have hW2:=noteT_ok hW T
              obtain ⟨W2,hr⟩:∃ r,noteT W T=r:=⟨_,rfl⟩
              rw[hh,hr]
              rw[hr]at hk hW2
              obtain ⟨hcf2,hw2,hwl2,hs02,ht02,ht12,hlg2⟩:=okW_ex hW2
              have hT2:=w_t0 hw2
              have hC2:=w_cl hw2
              have hTl2:=l_t0 hlg2
              have hCl2:=l_cl hlg2
              simp only[tzC,wzL,wzC]at hS hk⊢
              unfold m54
              repeat' with_reducible (first
               | refine ZR.h ?_ | refine zI (by decide) ?_
               | (refine zK hE ?_;intro K hK;simp[KR.ks,q54_0,q54_1,q54_2,q54_3,q54_4,q54_5,q54_6,q54_7,q54_8,q54_9,q54_10,q54_11,q54_12,q54_13,q54_14,q54_15,q54_16,q54_17,q54_18,q54_19,hT,hC,hTl,hCl,hT2,hC2,hTl2,hCl2,g0,g1,g2,g3,g4,g5,g6,g7,g8,g9,hk];(repeat' (first | refine hK _ _ ?_ | refine And.intro ?_ ?_ | (intro hc;try subst hc)))<;>(try clear hK K))
               | (refine zJ (b:=_) (by with_unfolding_all rfl) (fun hc=>?_) (fun hc=>?_)<;>simp at hc<;>(try subst hc)))
              all_goals first|(simp;done)|(simp at *;omega)|((try simp[hT,hC,hTl,hCl,hT2,hC2,hTl2,hCl2]);refine Imp.auto (by kernel_rfl) ?_ ?_<;>simp[NLe,hT,hC,hTl,hCl,hT2,hC2,hTl2,hCl2])
   ·cases h
  ·cases h
 ·cases h
theorem e54 {W:WZ} {T:TZ} (hT:okT T=true) (hW:okW W=true) (hs:smW W=true) (hi:idleT W T=false) (u v u1 u2 u3 u4:Nat):d54 [.op u (tzC T),.op v (wzL W u1 u2 u3 u4)]=some ⟨.tup [],[.cells 0 (tzC (stepT W T).1),.cells 0 (wzC (stepT W T).2)]⟩:=by
 simp only[d54,tzOf_C,wzOf_C]
 rw[if_pos ⟨hT,hW,hs,hi⟩]
def d12:List AV→Option Ans
 | [.op _ tc,.op _ wc]=>(match tzOf tc,wzOf wc with
  | some T,some W=>if okT T=true∧okW W=true∧smW W=true then some (⟨.tup [],[.cells 0 (tzC (StepT W T).1),.cells 0 (wzC (StepT W T).2)]⟩) else none
  | _,_=>none)
 | _=>none
theorem ok12:NOk [(35,true),(10,true)] d12:=by
 intro xs aa h
 unfold d12 at h
 split at h
 ·rename_i t1 tc t2 wc
  split at h
  ·rename_i T W hTc hWc
   split at h
   ·rename_i hc
    obtain ⟨u1,u2,u3,u4,rfl⟩:=wzOf_ex hWc
    obtain rfl:=tzOf_ex hTc
    injection h with h;subst h
    have hW:=hc.2.1
    obtain ⟨hcf,hw,hwl,hs0,ht0,ht1,hlg⟩:=okW_ex hW
    have hT:=w_t0 hw
    have hC:=w_cl hw
    have hTl:=l_t0 hlg
    have hCl:=l_cl hlg
    have hW2:=StepT_ok hW T
    obtain ⟨hcf2,hw2,hwl2,hs02,ht02,ht12,hlg2⟩:=okW_ex hW2
    have hT2:=w_t0 hw2
    have hC2:=w_cl hw2
    have hTl2:=l_t0 hlg2
    have hCl2:=l_cl hlg2
    refine ⟨Ends_of ?_,?_⟩<;>simp[tzC,wzL,wzC,hT,hC,hTl,hCl,hT2,hC2,hTl2,hCl2]
   ·cases h
  ·cases h
 ·cases h
theorem s12:Sound Try.prog 12 (nestS [(35,true),(10,true)] d12 ok12):=by
 refine nest_sound Try.func12 nm12 rc12 rv12 ok12 (fun xs a h=>?_) fun xs a h w0 S hS=>?_
 ·unfold d12 at h
  (repeat' (split at h))<;>first|(cases h;done)|exact Nat.le_of_ble_eq_true rfl
 unfold d12 at h
 split at h
 ·rename_i t1 tc t2 wc
  split at h
  ·rename_i T W hTc hWc
   split at h
   ·rename_i hcond
    obtain ⟨u1,u2,u3,u4,rfl⟩:=wzOf_ex hWc
    obtain rfl:=tzOf_ex hTc
    injection h with h
    subst h
    clear hTc hWc
    have hE:SoundAll Try.prog (EL [(13,nestS [(35,false)] d13 ok13),(53,nestS [(35,false),(10,false)] d53 ok53),(54,nestS [(35,true),(10,true)] d54 ok54)]):=EL_sound (by simp only[List.mem_cons,List.not_mem_nil,or_false,forall_eq_or_imp,forall_eq];exact ⟨s13,s53,s54⟩)
    obtain ⟨hokT,hW,hsm⟩:=hcond
    obtain ⟨hpc0,hpc1,hx0,hx1,hy0,hy1,htx0,htx1,hty0,hty1,hq0,hq1,hp0,hp1,hta0,hta1,hen0,hen1,hnx,hny⟩:=okT_ex hokT
    obtain ⟨hcf,hw,hwl,hs0,ht0,ht1,hlg⟩:=okW_ex hW
    have hlo:=smW_lo hsm
    obtain ⟨hsm1,hsm2⟩:=smW_ex hsm
    have hT:=w_t0 hw
    have hC:=w_cl hw
    have hTl:=l_t0 hlg
    have hCl:=l_cl hlg
    have h13:=e13 T
    have h53:=e53 hW T
    by_cases h1:14≤T.pc
    ·have hh:StepT W T=(T,W):=by unfold StepT;rw[if_pos h1]
     rw[decide_eq_true h1]at h13
     rw[hh]
     simp only[tzC,wzL,wzC]at hS h13⊢
     unfold m12
     repeat' with_reducible (first
      | refine ZR.h ?_ | refine zI (by decide) ?_
      | (refine zK hE ?_;intro K hK;simp[KR.ks,q12_0,q12_1,q12_2,q12_3,hT,hC,hTl,hCl,h13];(repeat' (first | refine hK _ _ ?_ | refine And.intro ?_ ?_ | (intro hc;try subst hc)))<;>(try clear hK K))
      | (refine zJ (b:=_) (by with_unfolding_all rfl) (fun hc=>?_) (fun hc=>?_)<;>simp at hc<;>(try subst hc)))
     all_goals first|(simp;done)|(simp at *;omega)|((try simp[hT,hC,hTl,hCl]);refine Imp.auto (by kernel_rfl) ?_ ?_<;>simp[NLe,hT,hC,hTl,hCl])
    ·rw[decide_eq_false h1]at h13
     by_cases h2:idleT W T=true
     ·have hh:StepT W T=({ T with pc:=T.pc+1 },W):=by unfold StepT;rw[if_neg h1,if_pos h2]
      rw[h2]at h53
      have ww:IntKind.wrap .i64 (T.pc+1)=T.pc+1:=wrap_in (by omega) (by omega)
      rw[hh]
      simp only[tzC,wzL,wzC]at hS h13 h53⊢
      unfold m12
      repeat' with_reducible (first
       | refine ZR.h ?_ | refine zI (by decide) ?_
       | (refine zK hE ?_;intro K hK;simp[KR.ks,q12_0,q12_1,q12_2,q12_3,hT,hC,hTl,hCl,h13,h53,ww];(repeat' (first | refine hK _ _ ?_ | refine And.intro ?_ ?_ | (intro hc;try subst hc)))<;>(try clear hK K))
       | (refine zJ (b:=_) (by with_unfolding_all rfl) (fun hc=>?_) (fun hc=>?_)<;>simp at hc<;>(try subst hc)))
      all_goals first|(simp;done)|(simp at *;omega)|((try simp[hT,hC,hTl,hCl]);refine Imp.auto (by kernel_rfl) ?_ ?_<;>simp[NLe,hT,hC,hTl,hCl])
     ·have hh:StepT W T=({ (stepT W T).1 with pc:=T.pc+1 },(stepT W T).2):=by unfold StepT;rw[if_neg h1,if_neg h2]
      have hid:idleT W T=false:=by simpa using h2
      rw[hid]at h53
      have hk:=e54 hokT hW hsm hid
      have hpc:=stepT_pc W T
      have hW2:=stepT_ok hW T
      obtain ⟨r,hr⟩:∃ r,stepT W T=r:=⟨_,rfl⟩
      rw[hr]at hk hW2 hh hpc
      have ww:IntKind.wrap .i64 (T.pc+1)=T.pc+1:=wrap_in (by omega) (by omega)
      obtain ⟨hcf2,hw2,hwl2,hs02,ht02,ht12,hlg2⟩:=okW_ex hW2
      have hT2:=w_t0 hw2
      have hC2:=w_cl hw2
      have hTl2:=l_t0 hlg2
      have hCl2:=l_cl hlg2
      rw[hh]
      simp only[tzC,wzL,wzC]at hS h13 h53 hk⊢
      simp only[hpc]at hk
      unfold m12
      repeat' with_reducible (first
       | refine ZR.h ?_ | refine zI (by decide) ?_
       | (refine zK hE ?_;intro K hK;simp[KR.ks,q12_0,q12_1,q12_2,q12_3,hT,hC,hTl,hCl,hT2,hC2,hTl2,hCl2,h13,h53,hk,ww];(repeat' (first | refine hK _ _ ?_ | refine And.intro ?_ ?_ | (intro hc;try subst hc)))<;>(try clear hK K))
       | (refine zJ (b:=_) (by with_unfolding_all rfl) (fun hc=>?_) (fun hc=>?_)<;>simp at hc<;>(try subst hc)))
      all_goals first|(simp;done)|(simp at *;omega)|((try simp[hT,hC,hTl,hCl,hT2,hC2,hTl2,hCl2]);refine Imp.auto (by kernel_rfl) ?_ ?_<;>simp[NLe,hT,hC,hTl,hCl,hT2,hC2,hTl2,hCl2])
   ·cases h
  ·cases h
 ·cases h
end Go.W

namespace Go.W
open Go.Proofs
set_option linter.unusedSimpArgs false
set_option linter.unusedVariables false
set_option maxHeartbeats 8000000
attribute [local irreducible] Wm
attribute [local simp] nmap lkp mkPl prs prsL prT ddL idL CRenL CRen Ren RenL NObj.none CRenLL
def ifS (c:List AV→Bool) (s1 s2:Spec):Spec where
 fn:=fun args G nb=>if c args=true then s1.fn args G nb else s2.fn args G nb
 loc:=fun args G G' nb r h hG=>by
  by_cases hc:c args=true
  ·simp only[hc,if_true]at h⊢;exact s1.loc args G G' nb r h hG
  ·simp only[hc,if_false]at h⊢;exact s2.loc args G G' nb r h hG
 nm:=fun args G nb r h=>by
  by_cases hc:c args=true
  ·simp only[hc,if_true]at h;exact s1.nm args G nb r h
  ·simp only[hc,if_false]at h;exact s2.nm args G nb r h
 nw:=fun args G nb r h=>by
  by_cases hc:c args=true
  ·simp only[hc,if_true]at h;exact s1.nw args G nb r h
  ·simp only[hc,if_false]at h;exact s2.nw args G nb r h
theorem ifS_fn (c:List AV→Bool) (s1 s2:Spec) (args:List AV) (G:NH) (nb:Nat):(ifS c s1 s2).fn args G nb=if c args=true then s1.fn args G nb else s2.fn args G nb:=rfl
theorem ifS_sound {P:Program} {f:FuncId} {c:List AV→Bool} {s1 s2:Spec} (h1:Sound P f s1) (h2:Sound P f s2):Sound P f (ifS c s1 s2):=by
 refine ⟨h1.fn,fun w0 S Es U H w avs vs nb r=>?_⟩
 by_cases hc:c avs=true
 ·simp only[ifS_fn,hc,if_true];exact h1.calls w0 S Es U H w avs vs nb r
 ·simp only[ifS_fn,hc];exact h2.calls w0 S Es U H w avs vs nb r
def nil1:List AV→Bool
 | .raw (.pointer none) :: _=>true
 | _=>false
def nil2:List AV→Bool
 | _ :: .raw (.pointer none) :: _=>true
 | _=>false
def d13n:List AV→Option Ans
 | [.raw (.pointer none)]=>some ⟨.bool true,[]⟩
 | _=>none
theorem ok13n:NOk [] d13n:=by
 intro xs a h
 unfold d13n at h
 (repeat' (split at h))<;>first|(cases h;done)|(injection h with h;subst h;refine ⟨Ends_of ?_,?_⟩<;>simp)
theorem s13n:Sound Try.prog 13 (nestS [] d13n ok13n):=by
 refine nest_sound Try.func13 nm13 rc13 rv13 ok13n (fun xs a h=>?_) fun xs a h w0 S hS=>?_
 ·unfold d13n at h
  (repeat' (split at h))<;>first|(cases h;done)|exact Nat.le_of_ble_eq_true rfl
 unfold d13n at h
 split at h
 ·skip
  injection h with h
  subst h
  have hE:SoundAll Try.prog (EL []):=EL_sound (by simp)
  unfold m13
  repeat' with_reducible (first
   | refine ZR.h ?_ | refine zI (by decide) ?_
   | (refine zK hE ?_;intro K hK;simp[KR.ks,q13_0,q13_1];(repeat' (first | refine hK _ _ ?_ | refine And.intro ?_ ?_ | (intro hc;try subst hc)))<;>(try clear hK K))
   | (refine zJ (b:=_) (by with_unfolding_all rfl) (fun hc=>?_) (fun hc=>?_)<;>simp at hc<;>(try subst hc)))
  all_goals first|(simp;done)|(simp at *;omega)|((try simp);refine Imp.auto (by kernel_rfl) ?_ ?_<;>simp[NLe])
 ·cases h
def d15n:List AV→Option Ans
 | [.raw (.pointer none)]=>some ⟨.bool false,[]⟩
 | _=>none
theorem ok15n:NOk [] d15n:=by
 intro xs a h
 unfold d15n at h
 (repeat' (split at h))<;>first|(cases h;done)|(injection h with h;subst h;refine ⟨Ends_of ?_,?_⟩<;>simp)
theorem s15n:Sound Try.prog 15 (nestS [] d15n ok15n):=by
 refine nest_sound Try.func15 nm15 rc15 rv15 ok15n (fun xs a h=>?_) fun xs a h w0 S hS=>?_
 ·unfold d15n at h
  (repeat' (split at h))<;>first|(cases h;done)|exact Nat.le_of_ble_eq_true rfl
 unfold d15n at h
 split at h
 ·skip
  injection h with h
  subst h
  have hE:SoundAll Try.prog (EL []):=EL_sound (by simp)
  unfold m15
  repeat' with_reducible (first
   | refine ZR.h ?_ | refine zI (by decide) ?_
   | (refine zK hE ?_;intro K hK;simp[KR.ks,q15_0,q15_1];(repeat' (first | refine hK _ _ ?_ | refine And.intro ?_ ?_ | (intro hc;try subst hc)))<;>(try clear hK K))
   | (refine zJ (b:=_) (by with_unfolding_all rfl) (fun hc=>?_) (fun hc=>?_)<;>simp at hc<;>(try subst hc)))
  all_goals first|(simp;done)|(simp at *;omega)|((try simp);refine Imp.auto (by kernel_rfl) ?_ ?_<;>simp[NLe])
 ·cases h
def d12n:List AV→Option Ans
 | [.raw (.pointer none),.op _ wc]=>(match wzOf wc with
  | some W=>if okW W=true then some ⟨.tup [],[.free]⟩ else none
  | _=>none)
 | _=>none
theorem ok12n:NOk [(10,false)] d12n:=by
 intro xs aa h
 unfold d12n at h
 split at h
 ·rename_i u wc
  split at h
  ·rename_i W hWc
   split at h
   ·rename_i hc
    obtain ⟨u1,u2,u3,u4,rfl⟩:=wzOf_ex hWc
    injection h with h;subst h
    obtain ⟨hcf,hw,hwl,hs0,ht0,ht1,hlg⟩:=okW_ex hc
    have hT:=w_t0 hw
    have hC:=w_cl hw
    have hTl:=l_t0 hlg
    have hCl:=l_cl hlg
    refine ⟨Ends_of ?_,?_⟩<;>simp[tzC,wzL,hT,hC,hTl,hCl]
   ·cases h
  ·cases h
 ·cases h
theorem s12n:Sound Try.prog 12 (nestS [(10,false)] d12n ok12n):=by
 refine nest_sound Try.func12 nm12 rc12 rv12 ok12n (fun xs a h=>?_) fun xs a h w0 S hS=>?_
 ·unfold d12n at h
  (repeat' (split at h))<;>first|(cases h;done)|exact Nat.le_of_ble_eq_true rfl
 unfold d12n at h
 split at h
 ·rename_i u wc
  split at h
  ·rename_i W hWc
   split at h
   ·rename_i hcond
    obtain ⟨u1,u2,u3,u4,rfl⟩:=wzOf_ex hWc
    injection h with h
    subst h
    clear hWc
    have hE:SoundAll Try.prog (EL [(13,nestS [] d13n ok13n)]):=EL_sound (by simp only[List.mem_cons,List.not_mem_nil,or_false,forall_eq_or_imp,forall_eq];exact s13n)
    obtain ⟨hcf,hw,hwl,hs0,ht0,ht1,hlg⟩:=okW_ex hcond
    have hT:=w_t0 hw
    have hC:=w_cl hw
    have hTl:=l_t0 hlg
    have hCl:=l_cl hlg
    simp only[wzL]at hS⊢
    unfold m12
    repeat' with_reducible (first
     | refine ZR.h ?_ | refine zI (by decide) ?_
     | (refine zK hE ?_;intro K hK;simp[KR.ks,q12_0,q12_1,q12_2,q12_3,hT,hC,hTl,hCl,d13n];(repeat' (first | refine hK _ _ ?_ | refine And.intro ?_ ?_ | (intro hc;try subst hc)))<;>(try clear hK K))
     | (refine zJ (b:=_) (by with_unfolding_all rfl) (fun hc=>?_) (fun hc=>?_)<;>simp at hc<;>(try subst hc)))
    all_goals first|(simp;done)|(simp at *;omega)|((try simp[hT,hC,hTl,hCl]);refine Imp.auto (by kernel_rfl) ?_ ?_<;>simp[NLe,hT,hC,hTl,hCl])
   ·cases h
  ·cases h
 ·cases h
def d12w:List AV→Option Ans
 | [.op _ tc,.raw (.pointer none)]=>(match tzOf tc with
  | some T=>some ⟨.tup [],[.free]⟩
  | _=>none)
 | _=>none
theorem ok12w:NOk [(35,false)] d12w:=by
 intro xs aa h
 unfold d12w at h
 split at h
 ·rename_i u tc
  split at h
  ·rename_i T hTc
   obtain rfl:=tzOf_ex hTc
   injection h with h;subst h
   refine ⟨Ends_of ?_,?_⟩<;>simp[tzC]
  ·cases h
 ·cases h
theorem s12w:Sound Try.prog 12 (nestS [(35,false)] d12w ok12w):=by
 refine nest_sound Try.func12 nm12 rc12 rv12 ok12w (fun xs a h=>?_) fun xs a h w0 S hS=>?_
 ·unfold d12w at h
  (repeat' (split at h))<;>first|(cases h;done)|exact Nat.le_of_ble_eq_true rfl
 unfold d12w at h
 split at h
 ·rename_i u tc
  split at h
  ·rename_i T hTc
   obtain rfl:=tzOf_ex hTc
   injection h with h
   subst h
   clear hTc
   have hE:SoundAll Try.prog (EL [(13,nestS [(35,false)] d13 ok13)]):=EL_sound (by simp only[List.mem_cons,List.not_mem_nil,or_false,forall_eq_or_imp,forall_eq];exact s13)
   have h13:=e13 T
   by_cases h1:14≤T.pc
   ·rw[decide_eq_true h1]at h13
    simp only[tzC]at hS h13⊢
    unfold m12
    repeat' with_reducible (first
     | refine ZR.h ?_ | refine zI (by decide) ?_
     | (refine zK hE ?_;intro K hK;simp[KR.ks,q12_0,q12_1,q12_2,q12_3,h13];(repeat' (first | refine hK _ _ ?_ | refine And.intro ?_ ?_ | (intro hc;try subst hc)))<;>(try clear hK K))
     | (refine zJ (b:=_) (by with_unfolding_all rfl) (fun hc=>?_) (fun hc=>?_)<;>simp at hc<;>(try subst hc)))
    all_goals first|(simp;done)|(simp at *;omega)|((try simp);refine Imp.auto (by kernel_rfl) ?_ ?_<;>simp[NLe])
   ·rw[decide_eq_false h1]at h13
    simp only[tzC]at hS h13⊢
    unfold m12
    repeat' with_reducible (first
     | refine ZR.h ?_ | refine zI (by decide) ?_
     | (refine zK hE ?_;intro K hK;simp[KR.ks,q12_0,q12_1,q12_2,q12_3,h13];(repeat' (first | refine hK _ _ ?_ | refine And.intro ?_ ?_ | (intro hc;try subst hc)))<;>(try clear hK K))
     | (refine zJ (b:=_) (by with_unfolding_all rfl) (fun hc=>?_) (fun hc=>?_)<;>simp at hc<;>(try subst hc)))
    all_goals first|(simp;done)|(simp at *;omega)|((try simp);refine Imp.auto (by kernel_rfl) ?_ ?_<;>simp[NLe])
  ·cases h
 ·cases h
def stepS:Spec:=ifS nil1 (nestS [(10,false)] d12n ok12n) (ifS nil2 (nestS [(35,false)] d12w ok12w) (nestS [(35,true),(10,true)] d12 ok12))
def doneS:Spec:=ifS nil1 (nestS [] d13n ok13n) (nestS [(35,false)] d13 ok13)
def madeS:Spec:=ifS nil1 (nestS [] d15n ok15n) (nestS [(35,false)] d15 ok15)
theorem stepS_ok:Sound Try.prog 12 stepS:=ifS_sound s12n (ifS_sound s12w s12)
theorem doneS_ok:Sound Try.prog 13 doneS:=ifS_sound s13n s13
theorem madeS_ok:Sound Try.prog 15 madeS:=ifS_sound s15n s15
end Go.W

