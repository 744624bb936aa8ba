/- A part of the proofs about the pair's laws (PsP3, PsP4). -/
import Derived.Test.YtidbbnkpglggdaaPsU
import Derived.Test.YtidbbnkpglggdaaPqB
namespace Go.W
open Go.Proofs
set_option linter.unusedSimpArgs false
set_option linter.unusedVariables false
set_option maxHeartbeats 8000000
attribute [local irreducible] Wm
attribute [local simp] nmap lkp mkPl prs prsL prT ddL idL CRenL CRen Ren RenL NObj.none CRenLL
def d80:List AV→Option Ans
 | [.op _ tc,.op _ wc]=>(match tzOf tc,wzOf wc with
  | some T,some W=>if okT T=true∧okW W=true∧smW W=true∧idleT W T=false then some (⟨.tup [],[.cells 0 (tzC (letT W T).1),.cells 0 (wzC (letT W T).2)]⟩) else none
  | _,_=>none)
 | _=>none
theorem ok80:NOk [(35,true),(10,true)] d80:=by
 intro xs aa h
 unfold d80 at h
 split at h
 ·rename_i t1 tc t2 wc
  split at h
  ·rename_i T W hTc hWc
   split at h
   ·rename_i hc
    obtain ⟨u1,u2,u3,u4,rfl⟩:=wzOf_ex hWc
    obtain rfl:=tzOf_ex hTc
    injection h with h;subst h
    have hW:=hc.2.1
    obtain ⟨hcf,hw,hwl,hs0,ht0,ht1,hlg⟩:=okW_ex hW
    have hT:=w_t0 hw
    have hC:=w_cl hw
    have hTl:=l_t0 hlg
    have hCl:=l_cl hlg
    have hW2:=let_ok hW T
    obtain ⟨hcf2,hw2,hwl2,hs02,ht02,ht12,hlg2⟩:=okW_ex hW2
    have hT2:=w_t0 hw2
    have hC2:=w_cl hw2
    have hTl2:=l_t0 hlg2
    have hCl2:=l_cl hlg2
    refine ⟨Ends_of ?_,?_⟩<;>simp[tzC,wzL,wzC,hT,hC,hTl,hCl,hT2,hC2,hTl2,hCl2]
   ·cases h
  ·cases h
 ·cases h
theorem s80:Sound Try.prog 80 (nestS [(35,true),(10,true)] d80 ok80):=by
 refine nest_sound Try.func80 nm80 rc80 rv80 ok80 (fun xs a h=>?_) fun xs a h w0 S hS=>?_
 ·unfold d80 at h
  (repeat' (split at h))<;>first|(cases h;done)|exact Nat.le_of_ble_eq_true rfl
 unfold d80 at h
 split at h
 ·rename_i t1 tc t2 wc
  split at h
  ·rename_i T W hTc hWc
   split at h
   ·rename_i hcond
    obtain ⟨u1,u2,u3,u4,rfl⟩:=wzOf_ex hWc
    obtain rfl:=tzOf_ex hTc
    injection h with h
    subst h
    clear hTc hWc
    have hE:SoundAll Try.prog (EL [(55,rdS d55 ok55),(97,rdS d97 ok97),(26,nestS [(10,true)] d26 ok26),(24,nestS [(1,false)] d24 ok24),(23,nestS [(10,true)] d23 ok23),(98,rdS d98 ok98)]):=EL_sound (by simp only[List.mem_cons,List.not_mem_nil,or_false,forall_eq_or_imp,forall_eq];exact ⟨s55,s97,s26,s24,s23,s98⟩)
    obtain ⟨hokT,hW,hsm,hid⟩:=hcond
    obtain ⟨hpc0,hpc1,hx0,hx1,hy0,hy1,htx0,htx1,hty0,hty1,hq0,hq1,hp0,hp1,hta0,hta1,hen0,hen1,hnx,hny⟩:=okT_ex hokT
    obtain ⟨hcf,hw,hwl,hs0,ht0,ht1,hlg⟩:=okW_ex hW
    have hlo:=smW_lo hsm
    obtain ⟨hsm1,hsm2⟩:=smW_ex hsm
    obtain ⟨hX0,hX1,hY0,hY1,hAB⟩:=idle_in hW hid
    have hT:=w_t0 hw
    have hC:=w_cl hw
    have hTl:=l_t0 hlg
    have hCl:=l_cl hlg
    have hsx:=stateZ_ok T.wx
    have h55:d55 [.int .u64 T.wx] []=some (stA (stateZ T.wx)):=by simp only[d55];rw[if_pos ⟨hx0,hx1⟩]
    have hrx:=stR T.wx
    have hnk:=rel_okS T.wx (qtyT T) W.f
    have hh:letT W T=letT W T:=rfl
    conv at hh=>rhs;unfold letT
    obtain ⟨sx,hsxe⟩:∃ z,stateZ T.wx=z:=⟨_,rfl⟩
    rw[hsxe]at hsx h55 hrx hnk hh
    by_cases h1:T.held=true
    ·by_cases h2:T.free=false
     ·rw[if_pos ⟨h1,h2⟩]at hh
      have h97:d97 [stA sx,.int .i64 (qtyT T),.int .i64 W.f] []=some (errA (releaseS sx (qtyT T) W.f).1 (releaseS sx (qtyT T) W.f).2):=by
       simp only[stA,d97];rw[if_pos ⟨by omega,by omega,by omega,by omega⟩]
      obtain ⟨nx,e,hr⟩:∃ a b,releaseS sx (qtyT T) W.f=(a,b):=⟨_,_,rfl⟩
      rw[hr]at h97 hnk hh
      simp only at h97 hnk hh
      by_cases h3:e=0
      ·rw[if_pos h3]at hh
       subst h3
       simp only[errA,if_true]at h97
       have h26:=e26 hW hlo hX0 hX1 T.wx hnk
       have hfr:=turn_fr W T.x T.wx nx
       have hW2:=turn_ok hW T.x T.wx nx
       obtain ⟨r,hrr⟩:∃ r,turnW W T.x T.wx nx=r:=⟨_,rfl⟩
       rw[hrr]at h26 hW2 hh hfr
       obtain ⟨tb,W2⟩:=r
       simp only at h26 hW2 hh hfr
       by_cases h4:tb=true
       ·rw[if_pos h4]at hh
        subst h4
        have hlo2:loW W2=true:=decide_eq_true (by rw[hfr.2.1];rcases hfr.1 with h|h<;>rw[h]<;>omega)
        have htt:W2.t=W.t:=hfr.2.2.1
        have h24:∀ u,d24 [.op u [.int .u64 W2.t]]=some ⟨.int .i64 W.t,[.free]⟩:=fun u=>by simp only[d24,htt];rw[if_pos ⟨ht0,ht1⟩]
        have h98:d98 [stA nx] []=some (.bool (overZ nx.k)):=rfl
        obtain ⟨hcf2,hw2,hwl2,hs02,ht02,ht12,hlg2⟩:=okW_ex hW2
        have hT2:=w_t0 hw2
        have hC2:=w_cl hw2
        have hTl2:=l_t0 hlg2
        have hCl2:=l_cl hlg2
        by_cases h5:overZ nx.k=true
        ·rw[if_pos h5]at hh
         rw[h5]at h98
         have h23:=e23 hW2 hlo2 7 T.x nx.g 0 0 0 0 0 nx.k
         have hW3:=tell_ok hW2 7 T.x nx.g 0 0 0 0 nx.k
         obtain ⟨W3,hw3e⟩:∃ z,tellW W2 7 T.x nx.g 0 0 0 0 nx.k=z:=⟨_,rfl⟩
         rw[hw3e]at h23 hW3 hh
         obtain ⟨hcf3,hw3,hwl3,hs03,ht03,ht13,hlg3⟩:=okW_ex hW3
         have hT3:=w_t0 hw3
         have hC3:=w_cl hw3
         have hTl3:=l_t0 hlg3
         have hCl3:=l_cl hlg3
         rw[hh]
         simp only[tzC,wzL,wzC,stA,evC]at hS h55 h97 h26 h23 h98⊢
         by_cases h6:T.made=true
         ·have h7:qtyT T=T.q:=by simp[qtyT,h6]
          rw[h7]at h97
          unfold m80
          repeat' with_reducible (first
           | refine ZR.h ?_ | refine zI (by decide) ?_
           | ((first | refine zK hE ?_ | refine zL hE mixT ?_);intro K hK;simp[KR.ks,KD.ks,KD.cl,q80_0,q80_1,q80_2,q80_3,q80_4,q80_5,q80_6,q80_7,q80_8,hT,hC,hTl,hCl,hT2,hC2,hTl2,hCl2,hT3,hC3,hTl3,hCl3,h1,h2,h6,h55,h97,h26,h23,h24,h98];(repeat' (first | refine hK _ _ ?_ | refine And.intro ?_ ?_ | (intro hc;try subst hc)))<;>(try clear hK K))
           | (refine zJ (b:=_) (by with_unfolding_all rfl) (fun hc=>?_) (fun hc=>?_)<;>simp at hc<;>(try subst hc)))
          all_goals first|(simp;done)|(simp at *;omega)|((try simp[hT,hC,hTl,hCl,hT2,hC2,hTl2,hCl2,hT3,hC3,hTl3,hCl3,h1,h2,h6]);refine Imp.auto (by kernel_rfl) ?_ ?_<;>simp[NLe,hT,hC,hTl,hCl,hT2,hC2,hTl2,hCl2,hT3,hC3,hTl3,hCl3,h1,h2,h6])
         ·have h6:T.made=false:=by simpa using h6
          have h7:qtyT T=0:=by simp[qtyT,h6]
          rw[h7]at h97
          unfold m80
          repeat' with_reducible (first
           | refine ZR.h ?_ | refine zI (by decide) ?_
           | ((first | refine zK hE ?_ | refine zL hE mixT ?_);intro K hK;simp[KR.ks,KD.ks,KD.cl,q80_0,q80_1,q80_2,q80_3,q80_4,q80_5,q80_6,q80_7,q80_8,hT,hC,hTl,hCl,hT2,hC2,hTl2,hCl2,hT3,hC3,hTl3,hCl3,h1,h2,h6,h55,h97,h26,h23,h24,h98];(repeat' (first | refine hK _ _ ?_ | refine And.intro ?_ ?_ | (intro hc;try subst hc)))<;>(try clear hK K))
           | (refine zJ (b:=_) (by with_unfolding_all rfl) (fun hc=>?_) (fun hc=>?_)<;>simp at hc<;>(try subst hc)))
          all_goals first|(simp;done)|(simp at *;omega)|((try simp[hT,hC,hTl,hCl,hT2,hC2,hTl2,hCl2,hT3,hC3,hTl3,hCl3,h1,h2,h6]);refine Imp.auto (by kernel_rfl) ?_ ?_<;>simp[NLe,hT,hC,hTl,hCl,hT2,hC2,hTl2,hCl2,hT3,hC3,hTl3,hCl3,h1,h2,h6])
        ·rw[if_neg h5]at hh
         have h5:overZ nx.k=false:=by simpa using h5
         rw[h5]at h98
         rw[hh]
         simp only[tzC,wzL,wzC,stA]at hS h55 h97 h26 h98⊢
         by_cases h6:T.made=true
         ·have h7:qtyT T=T.q:=by simp[qtyT,h6]
          rw[h7]at h97
          unfold m80
          repeat' with_reducible (first
           | refine ZR.h ?_ | refine zI (by decide) ?_
           | ((first | refine zK hE ?_ | refine zL hE mixT ?_);intro K hK;simp[KR.ks,KD.ks,KD.cl,q80_0,q80_1,q80_2,q80_3,q80_4,q80_5,q80_6,q80_7,q80_8,hT,hC,hTl,hCl,hT2,hC2,hTl2,hCl2,h1,h2,h6,h55,h97,h26,h24,h98];(repeat' (first | refine hK _ _ ?_ | refine And.intro ?_ ?_ | (intro hc;try subst hc)))<;>(try clear hK K))
           | (refine zJ (b:=_) (by with_unfolding_all rfl) (fun hc=>?_) (fun hc=>?_)<;>simp at hc<;>(try subst hc)))
          all_goals first|(simp;done)|(simp at *;omega)|((try simp[hT,hC,hTl,hCl,hT2,hC2,hTl2,hCl2,h1,h2,h6]);refine Imp.auto (by kernel_rfl) ?_ ?_<;>simp[NLe,hT,hC,hTl,hCl,hT2,hC2,hTl2,hCl2,h1,h2,h6])
         ·have h6:T.made=false:=by simpa using h6
          have h7:qtyT T=0:=by simp[qtyT,h6]
          rw[h7]at h97
          unfold m80
          repeat' with_reducible (first
           | refine ZR.h ?_ | refine zI (by decide) ?_
           | ((first | refine zK hE ?_ | refine zL hE mixT ?_);intro K hK;simp[KR.ks,KD.ks,KD.cl,q80_0,q80_1,q80_2,q80_3,q80_4,q80_5,q80_6,q80_7,q80_8,hT,hC,hTl,hCl,hT2,hC2,hTl2,hCl2,h1,h2,h6,h55,h97,h26,h24,h98];(repeat' (first | refine hK _ _ ?_ | refine And.intro ?_ ?_ | (intro hc;try subst hc)))<;>(try clear hK K))
           | (refine zJ (b:=_) (by with_unfolding_all rfl) (fun hc=>?_) (fun hc=>?_)<;>simp at hc<;>(try subst hc)))
          all_goals first|(simp;done)|(simp at *;omega)|((try simp[hT,hC,hTl,hCl,hT2,hC2,hTl2,hCl2,h1,h2,h6]);refine Imp.auto (by kernel_rfl) ?_ ?_<;>simp[NLe,hT,hC,hTl,hCl,hT2,hC2,hTl2,hCl2,h1,h2,h6])
       ·rw[if_neg h4]at hh
        have h4:tb=false:=by simpa using h4
        subst h4
        obtain ⟨hcf2,hw2,hwl2,hs02,ht02,ht12,hlg2⟩:=okW_ex hW2
        have hT2:=w_t0 hw2
        have hC2:=w_cl hw2
        have hTl2:=l_t0 hlg2
        have hCl2:=l_cl hlg2
        rw[hh]
        simp only[tzC,wzL,wzC,stA]at hS h55 h97 h26⊢
        by_cases h6:T.made=true
        ·have h7:qtyT T=T.q:=by simp[qtyT,h6]
         rw[h7]at h97
         unfold m80
         repeat' with_reducible (first
          | refine ZR.h ?_ | refine zI (by decide) ?_
          | ((first | refine zK hE ?_ | refine zL hE mixT ?_);intro K hK;simp[KR.ks,KD.ks,KD.cl,q80_0,q80_1,q80_2,q80_3,q80_4,q80_5,q80_6,q80_7,q80_8,hT,hC,hTl,hCl,hT2,hC2,hTl2,hCl2,h1,h2,h6,h55,h97,h26];(repeat' (first | refine hK _ _ ?_ | refine And.intro ?_ ?_ | (intro hc;try subst hc)))<;>(try clear hK K))
          | (refine zJ (b:=_) (by with_unfolding_all rfl) (fun hc=>?_) (fun hc=>?_)<;>simp at hc<;>(try subst hc)))
         all_goals first|(simp;done)|(simp at *;omega)|((try simp[hT,hC,hTl,hCl,hT2,hC2,hTl2,hCl2,h1,h2,h6]);refine Imp.auto (by kernel_rfl) ?_ ?_<;>simp[NLe,hT,hC,hTl,hCl,hT2,hC2,hTl2,hCl2,h1,h2,h6])
        ·have h6:T.made=false:=by simpa using h6
         have h7:qtyT T=0:=by simp[qtyT,h6]
         rw[h7]at h97
         unfold m80
         repeat' with_reducible (first
          | refine ZR.h ?_ | refine zI (by decide) ?_
          | ((first | refine zK hE ?_ | refine zL hE mixT ?_);intro K hK;simp[KR.ks,KD.ks,KD.cl,q80_0,q80_1,q80_2,q80_3,q80_4,q80_5,q80_6,q80_7,q80_8,hT,hC,hTl,hCl,hT2,hC2,hTl2,hCl2,h1,h2,h6,h55,h97,h26];(repeat' (first | refine hK _ _ ?_ | refine And.intro ?_ ?_ | (intro hc;try subst hc)))<;>(try clear hK K))
          | (refine zJ (b:=_) (by with_unfolding_all rfl) (fun hc=>?_) (fun hc=>?_)<;>simp at hc<;>(try subst hc)))
         all_goals first|(simp;done)|(simp at *;omega)|((try simp[hT,hC,hTl,hCl,hT2,hC2,hTl2,hCl2,h1,h2,h6]);refine Imp.auto (by kernel_rfl) ?_ ?_<;>simp[NLe,hT,hC,hTl,hCl,hT2,hC2,hTl2,hCl2,h1,h2,h6])
      ·rw[if_neg h3]at hh
       simp only[errA,if_neg h3]at h97
       rw[hh]
       simp only[tzC,wzL,wzC,stA]at hS h55 h97⊢
       by_cases h6:T.made=true
       ·have h7:qtyT T=T.q:=by simp[qtyT,h6]
        rw[h7]at h97
        unfold m80
        repeat' with_reducible (first
         | refine ZR.h ?_ | refine zI (by decide) ?_
         | ((first | refine zK hE ?_ | refine zL hE mixT ?_);intro K hK;simp[KR.ks,KD.ks,KD.cl,q80_0,q80_1,q80_2,q80_3,q80_4,q80_5,q80_6,q80_7,q80_8,hT,hC,hTl,hCl,h1,h2,h6,h55,h97];(repeat' (first | refine hK _ _ ?_ | refine And.intro ?_ ?_ | (intro hc;try subst hc)))<;>(try clear hK K))
         | (refine zJ (b:=_) (by with_unfolding_all rfl) (fun hc=>?_) (fun hc=>?_)<;>simp at hc<;>(try subst hc)))
        all_goals first|(simp;done)|(simp at *;omega)|((try simp[hT,hC,hTl,hCl,h1,h2,h6]);refine Imp.auto (by kernel_rfl) ?_ ?_<;>simp[NLe,hT,hC,hTl,hCl,h1,h2,h6])
       ·have h6:T.made=false:=by simpa using h6
        have h7:qtyT T=0:=by simp[qtyT,h6]
        rw[h7]at h97
        unfold m80
        repeat' with_reducible (first
         | refine ZR.h ?_ | refine zI (by decide) ?_
         | ((first | refine zK hE ?_ | refine zL hE mixT ?_);intro K hK;simp[KR.ks,KD.ks,KD.cl,q80_0,q80_1,q80_2,q80_3,q80_4,q80_5,q80_6,q80_7,q80_8,hT,hC,hTl,hCl,h1,h2,h6,h55,h97];(repeat' (first | refine hK _ _ ?_ | refine And.intro ?_ ?_ | (intro hc;try subst hc)))<;>(try clear hK K))
         | (refine zJ (b:=_) (by with_unfolding_all rfl) (fun hc=>?_) (fun hc=>?_)<;>simp at hc<;>(try subst hc)))
        all_goals first|(simp;done)|(simp at *;omega)|((try simp[hT,hC,hTl,hCl,h1,h2,h6]);refine Imp.auto (by kernel_rfl) ?_ ?_<;>simp[NLe,hT,hC,hTl,hCl,h1,h2,h6])
     ·rw[if_neg (by simp[h2])]at hh
      have h2:T.free=true:=by simpa using h2
      rw[hh]
      simp only[tzC,wzL,wzC]at hS⊢
      unfold m80
      repeat' with_reducible (first
       | refine ZR.h ?_ | refine zI (by decide) ?_
       | ((first | refine zK hE ?_ | refine zL hE mixT ?_);intro K hK;simp[KR.ks,KD.ks,KD.cl,q80_0,q80_1,q80_2,q80_3,q80_4,q80_5,q80_6,q80_7,q80_8,hT,hC,hTl,hCl,h1,h2];(repeat' (first | refine hK _ _ ?_ | refine And.intro ?_ ?_ | (intro hc;try subst hc)))<;>(try clear hK K))
       | (refine zJ (b:=_) (by with_unfolding_all rfl) (fun hc=>?_) (fun hc=>?_)<;>simp at hc<;>(try subst hc)))
      all_goals first|(simp;done)|(simp at *;omega)|((try simp[hT,hC,hTl,hCl,h1,h2]);refine Imp.auto (by kernel_rfl) ?_ ?_<;>simp[NLe,hT,hC,hTl,hCl,h1,h2])
    ·rw[if_neg (by simp[h1])]at hh
     have h1:T.held=false:=by simpa using h1
     rw[hh]
     simp only[tzC,wzL,wzC]at hS⊢
     unfold m80
     repeat' with_reducible (first
      | refine ZR.h ?_ | refine zI (by decide) ?_
      | ((first | refine zK hE ?_ | refine zL hE mixT ?_);intro K hK;simp[KR.ks,KD.ks,KD.cl,q80_0,q80_1,q80_2,q80_3,q80_4,q80_5,q80_6,q80_7,q80_8,hT,hC,hTl,hCl,h1];(repeat' (first | refine hK _ _ ?_ | refine And.intro ?_ ?_ | (intro hc;try subst hc)))<;>(try clear hK K))
      | (refine zJ (b:=_) (by with_unfolding_all rfl) (fun hc=>?_) (fun hc=>?_)<;>simp at hc<;>(try subst hc)))
     all_goals first|(simp;done)|(simp at *;omega)|((try simp[hT,hC,hTl,hCl,h1]);refine Imp.auto (by kernel_rfl) ?_ ?_<;>simp[NLe,hT,hC,hTl,hCl,h1])
   ·cases h
  ·cases h
 ·cases h
end Go.W

namespace Go.W
open Go.Proofs
set_option linter.unusedSimpArgs false
set_option linter.unusedVariables false
set_option maxHeartbeats 8000000
attribute [local irreducible] Wm
attribute [local simp] nmap lkp mkPl prs prsL prT ddL idL CRenL CRen Ren RenL NObj.none CRenLL
def d81:List AV→Option Ans
 | [.op _ tc,.op _ wc]=>(match tzOf tc,wzOf wc with
  | some T,some W=>if okT T=true∧okW W=true∧smW W=true∧idleT W T=false then some (⟨.tup [],[.cells 0 (tzC T),.cells 0 (wzC (noteT W T))]⟩) else none
  | _,_=>none)
 | _=>none
theorem ok81:NOk [(35,true),(10,true)] d81:=by
 intro xs aa h
 unfold d81 at h
 split at h
 ·rename_i t1 tc t2 wc
  split at h
  ·rename_i T W hTc hWc
   split at h
   ·rename_i hc
    obtain ⟨u1,u2,u3,u4,rfl⟩:=wzOf_ex hWc
    obtain rfl:=tzOf_ex hTc
    injection h with h;subst h
    have hW:=hc.2.1
    obtain ⟨hcf,hw,hwl,hs0,ht0,ht1,hlg⟩:=okW_ex hW
    have hT:=w_t0 hw
    have hC:=w_cl hw
    have hTl:=l_t0 hlg
    have hCl:=l_cl hlg
    have hW2:=noteT_ok hW T
    obtain ⟨hcf2,hw2,hwl2,hs02,ht02,ht12,hlg2⟩:=okW_ex hW2
    have hT2:=w_t0 hw2
    have hC2:=w_cl hw2
    have hTl2:=l_t0 hlg2
    have hCl2:=l_cl hlg2
    refine ⟨Ends_of ?_,?_⟩<;>simp[tzC,wzL,wzC,hT,hC,hTl,hCl,hT2,hC2,hTl2,hCl2]
   ·cases h
  ·cases h
 ·cases h
theorem s81:Sound Try.prog 81 (nestS [(35,true),(10,true)] d81 ok81):=by
 refine nest_sound Try.func81 nm81 rc81 rv81 ok81 (fun xs a h=>?_) fun xs a h w0 S hS=>?_
 ·unfold d81 at h
  (repeat' (split at h))<;>first|(cases h;done)|exact Nat.le_of_ble_eq_true rfl
 unfold d81 at h
 split at h
 ·rename_i t1 tc t2 wc
  split at h
  ·rename_i T W hTc hWc
   split at h
   ·rename_i hcond
    obtain ⟨u1,u2,u3,u4,rfl⟩:=wzOf_ex hWc
    obtain rfl:=tzOf_ex hTc
    injection h with h
    subst h
    clear hTc hWc
    have hE:SoundAll Try.prog (EL [(99,nestS [(35,false)] d99 ok99),(68,nestS [(10,true)] d68 ok68),(67,rdS d67 ok67)]):=EL_sound (by simp only[List.mem_cons,List.not_mem_nil,or_false,forall_eq_or_imp,forall_eq];exact ⟨s99,s68,s67⟩)
    obtain ⟨hokT,hW,hsm,hid⟩:=hcond
    obtain ⟨hpc0,hpc1,hx0,hx1,hy0,hy1,htx0,htx1,hty0,hty1,hq0,hq1,hp0,hp1,hta0,hta1,hen0,hen1,hnx,hny⟩:=okT_ex hokT
    obtain ⟨hcf,hw,hwl,hs0,ht0,ht1,hlg⟩:=okW_ex hW
    have hlo:=smW_lo hsm
    obtain ⟨hsm1,hsm2⟩:=smW_ex hsm
    obtain ⟨hX0,hX1,hY0,hY1,hAB⟩:=idle_in hW hid
    have hT:=w_t0 hw
    have hC:=w_cl hw
    have hTl:=l_t0 hlg
    have hCl:=l_cl hlg
    obtain ⟨nxk0,nxk1,nxg0,nxg1,nxl0,nxl1,nxf0,nxf1⟩:=okS_ex hnx
    obtain ⟨nyk0,nyk1,nyg0,nyg1,nyl0,nyl1,nyf0,nyf1⟩:=okS_ex hny
    by_cases h1:T.pc=10
    ·by_cases hm:T.made=true
     ·have hh:noteT W T=noteW W T.x T.nx.g (T.nx.f - 1) (fillR T T.y T.ny.g):=by simp[noteT,h1,hm]
      have h99:=e99 T T.y T.ny.g
      have ww:IntKind.wrap .i64 (T.nx.f - 1)=T.nx.f - 1:=wrap_in (by omega) (by omega)
      have h68:=e68 hW hlo T.x T.nx.g (T.nx.f - 1) (r:=fillR T T.y T.ny.g) (by simp only[fillR];omega)
      have hW2:=note_ok hW (T.x) (T.nx.g) (T.nx.f - 1) (fillR T T.y T.ny.g)
      obtain ⟨W2,hw2e⟩:∃ z,noteW W (T.x) (T.nx.g) (T.nx.f - 1) (fillR T T.y T.ny.g)=z:=⟨_,rfl⟩
      rw[hw2e]at h68 hW2 hh
      obtain ⟨hcf2,hw2,hwl2,hs02,ht02,ht12,hlg2⟩:=okW_ex hW2
      have hT2:=w_t0 hw2
      have hC2:=w_cl hw2
      have hTl2:=l_t0 hlg2
      have hCl2:=l_cl hlg2
      rw[hh]
      simp only[tzC,wzL,wzC,rcA,stA,fillR]at hS h68 h99⊢
      simp only[h1,hm]at h99
      unfold m81
      repeat' with_reducible (first
       | refine ZR.h ?_ | refine zI (by decide) ?_
       | ((first | refine zK hE ?_ | refine zL hE mixT ?_);intro K hK;simp[KR.ks,KD.ks,KD.cl,q81_0,q81_1,q81_2,q81_3,q81_4,q81_5,q81_6,q81_7,q81_8,q81_9,q81_10,q81_11,hT,hC,hTl,hCl,hT2,hC2,hTl2,hCl2,h1,hm,h99,h68,ww];(repeat' (first | refine hK _ _ ?_ | refine And.intro ?_ ?_ | (intro hc;try subst hc)))<;>(try clear hK K))
       | (refine zJ (b:=_) (by with_unfolding_all rfl) (fun hc=>?_) (fun hc=>?_)<;>simp at hc<;>(try subst hc)))
      all_goals first|(simp;done)|(simp at *;omega)|((try simp[hT,hC,hTl,hCl,hT2,hC2,hTl2,hCl2,h1,hm]);refine Imp.auto (by kernel_rfl) ?_ ?_<;>simp[NLe,hT,hC,hTl,hCl,hT2,hC2,hTl2,hCl2,h1,hm])
     ·have hm:T.made=false:=by simpa using hm
      have hh:noteT W T=W:=by simp[noteT,h1,hm]
      rw[hh]
      simp only[tzC,wzL,wzC]at hS⊢
      unfold m81
      repeat' with_reducible (first
       | refine ZR.h ?_ | refine zI (by decide) ?_
       | ((first | refine zK hE ?_ | refine zL hE mixT ?_);intro K hK;simp[KR.ks,KD.ks,KD.cl,q81_0,q81_1,q81_2,q81_3,q81_4,q81_5,q81_6,q81_7,q81_8,q81_9,q81_10,q81_11,hT,hC,hTl,hCl,h1,hm];(repeat' (first | refine hK _ _ ?_ | refine And.intro ?_ ?_ | (intro hc;try subst hc)))<;>(try clear hK K))
       | (refine zJ (b:=_) (by with_unfolding_all rfl) (fun hc=>?_) (fun hc=>?_)<;>simp at hc<;>(try subst hc)))
      all_goals first|(simp;done)|(simp at *;omega)|((try simp[hT,hC,hTl,hCl,h1,hm]);refine Imp.auto (by kernel_rfl) ?_ ?_<;>simp[NLe,hT,hC,hTl,hCl,h1,hm])
    ·have g10:=h1
     clear h1
     by_cases h1:T.pc=11
     ·by_cases hm:T.made=true
      ·have hh:noteT W T=noteW W T.y T.ny.g (T.ny.f - 1) (fillR T T.x T.nx.g):=by simp[noteT,h1,hm]
       have h99:=e99 T T.x T.nx.g
       have ww:IntKind.wrap .i64 (T.ny.f - 1)=T.ny.f - 1:=wrap_in (by omega) (by omega)
       have h68:=e68 hW hlo T.y T.ny.g (T.ny.f - 1) (r:=fillR T T.x T.nx.g) (by simp only[fillR];omega)
       have hW2:=note_ok hW (T.y) (T.ny.g) (T.ny.f - 1) (fillR T T.x T.nx.g)
       obtain ⟨W2,hw2e⟩:∃ z,noteW W (T.y) (T.ny.g) (T.ny.f - 1) (fillR T T.x T.nx.g)=z:=⟨_,rfl⟩
       rw[hw2e]at h68 hW2 hh
       obtain ⟨hcf2,hw2,hwl2,hs02,ht02,ht12,hlg2⟩:=okW_ex hW2
       have hT2:=w_t0 hw2
       have hC2:=w_cl hw2
       have hTl2:=l_t0 hlg2
       have hCl2:=l_cl hlg2
       rw[hh]
       simp only[tzC,wzL,wzC,rcA,stA,fillR]at hS h68 h99⊢
       simp only[h1,hm]at h99
       unfold m81
       repeat' with_reducible (first
        | refine ZR.h ?_ | refine zI (by decide) ?_
        | ((first | refine zK hE ?_ | refine zL hE mixT ?_);intro K hK;simp[KR.ks,KD.ks,KD.cl,q81_0,q81_1,q81_2,q81_3,q81_4,q81_5,q81_6,q81_7,q81_8,q81_9,q81_10,q81_11,hT,hC,hTl,hCl,hT2,hC2,hTl2,hCl2,h1,hm,h99,h68,ww];(repeat' (first | refine hK _ _ ?_ | refine And.intro ?_ ?_ | (intro hc;try subst hc)))<;>(try clear hK K))
        | (refine zJ (b:=_) (by with_unfolding_all rfl) (fun hc=>?_) (fun hc=>?_)<;>simp at hc<;>(try subst hc)))
       all_goals first|(simp;done)|(simp at *;omega)|((try simp[hT,hC,hTl,hCl,hT2,hC2,hTl2,hCl2,h1,hm]);refine Imp.auto (by kernel_rfl) ?_ ?_<;>simp[NLe,hT,hC,hTl,hCl,hT2,hC2,hTl2,hCl2,h1,hm])
      ·have hm:T.made=false:=by simpa using hm
       have hh:noteT W T=W:=by simp[noteT,h1,hm]
       rw[hh]
       simp only[tzC,wzL,wzC]at hS⊢
       unfold m81
       repeat' with_reducible (first
        | refine ZR.h ?_ | refine zI (by decide) ?_
        | ((first | refine zK hE ?_ | refine zL hE mixT ?_);intro K hK;simp[KR.ks,KD.ks,KD.cl,q81_0,q81_1,q81_2,q81_3,q81_4,q81_5,q81_6,q81_7,q81_8,q81_9,q81_10,q81_11,hT,hC,hTl,hCl,h1,hm];(repeat' (first | refine hK _ _ ?_ | refine And.intro ?_ ?_ | (intro hc;try subst hc)))<;>(try clear hK K))
        | (refine zJ (b:=_) (by with_unfolding_all rfl) (fun hc=>?_) (fun hc=>?_)<;>simp at hc<;>(try subst hc)))
       all_goals first|(simp;done)|(simp at *;omega)|((try simp[hT,hC,hTl,hCl,h1,hm]);refine Imp.auto (by kernel_rfl) ?_ ?_<;>simp[NLe,hT,hC,hTl,hCl,h1,hm])
     ·have g11:=h1
      clear h1
      by_cases h1:T.pc=12
      ·by_cases hm:T.made=true
       ·have h67:d67 [stA T.ny,.int .i64 T.ta] []=some (.tup [rcA (endS T.ny T.ta).1,.bool (endS T.ny T.ta).2]):=rfl
        have hin:=end_in hny (t:=T.ta) (by omega) (by omega)
        by_cases h2:(endS T.ny T.ta).2=true
        ·have hh:noteT W T=noteW W T.y T.ny.g W.f (endS T.ny T.ta).1:=by simp[noteT,h1,hm,h2]
         rw[h2]at h67
         have h68:=e68 hW hlo T.y T.ny.g W.f hin
         have hW2:=note_ok hW (T.y) (T.ny.g) (W.f) ((endS T.ny T.ta).1)
         obtain ⟨W2,hw2e⟩:∃ z,noteW W (T.y) (T.ny.g) (W.f) ((endS T.ny T.ta).1)=z:=⟨_,rfl⟩
         rw[hw2e]at h68 hW2 hh
         obtain ⟨hcf2,hw2,hwl2,hs02,ht02,ht12,hlg2⟩:=okW_ex hW2
         have hT2:=w_t0 hw2
         have hC2:=w_cl hw2
         have hTl2:=l_t0 hlg2
         have hCl2:=l_cl hlg2
         rw[hh]
         simp only[tzC,wzL,wzC,rcA,stA,fillR]at hS h68 h67⊢
         unfold m81
         repeat' with_reducible (first
          | refine ZR.h ?_ | refine zI (by decide) ?_
          | ((first | refine zK hE ?_ | refine zL hE mixT ?_);intro K hK;simp[KR.ks,KD.ks,KD.cl,q81_0,q81_1,q81_2,q81_3,q81_4,q81_5,q81_6,q81_7,q81_8,q81_9,q81_10,q81_11,hT,hC,hTl,hCl,hT2,hC2,hTl2,hCl2,h1,hm,h67,h68];(repeat' (first | refine hK _ _ ?_ | refine And.intro ?_ ?_ | (intro hc;try subst hc)))<;>(try clear hK K))
          | (refine zJ (b:=_) (by with_unfolding_all rfl) (fun hc=>?_) (fun hc=>?_)<;>simp at hc<;>(try subst hc)))
         all_goals first|(simp;done)|(simp at *;omega)|((try simp[hT,hC,hTl,hCl,hT2,hC2,hTl2,hCl2,h1,hm]);refine Imp.auto (by kernel_rfl) ?_ ?_<;>simp[NLe,hT,hC,hTl,hCl,hT2,hC2,hTl2,hCl2,h1,hm])
        ·have hh:noteT W T=W:=by simp[noteT,h1,hm,h2]
         have h2:(endS T.ny T.ta).2=false:=by simpa using h2
         rw[h2]at h67
         rw[hh]
         simp only[tzC,wzL,wzC,rcA,stA]at hS h67⊢
         unfold m81
         repeat' with_reducible (first
          | refine ZR.h ?_ | refine zI (by decide) ?_
          | ((first | refine zK hE ?_ | refine zL hE mixT ?_);intro K hK;simp[KR.ks,KD.ks,KD.cl,q81_0,q81_1,q81_2,q81_3,q81_4,q81_5,q81_6,q81_7,q81_8,q81_9,q81_10,q81_11,hT,hC,hTl,hCl,h1,hm,h67];(repeat' (first | refine hK _ _ ?_ | refine And.intro ?_ ?_ | (intro hc;try subst hc)))<;>(try clear hK K))
          | (refine zJ (b:=_) (by with_unfolding_all rfl) (fun hc=>?_) (fun hc=>?_)<;>simp at hc<;>(try subst hc)))
         all_goals first|(simp;done)|(simp at *;omega)|((try simp[hT,hC,hTl,hCl,h1,hm]);refine Imp.auto (by kernel_rfl) ?_ ?_<;>simp[NLe,hT,hC,hTl,hCl,h1,hm])
       ·have hm:T.made=false:=by simpa using hm
        have hh:noteT W T=W:=by simp[noteT,h1,hm]
        rw[hh]
        simp only[tzC,wzL,wzC]at hS⊢
        unfold m81
        repeat' with_reducible (first
         | refine ZR.h ?_ | refine zI (by decide) ?_
         | ((first | refine zK hE ?_ | refine zL hE mixT ?_);intro K hK;simp[KR.ks,KD.ks,KD.cl,q81_0,q81_1,q81_2,q81_3,q81_4,q81_5,q81_6,q81_7,q81_8,q81_9,q81_10,q81_11,hT,hC,hTl,hCl,h1,hm];(repeat' (first | refine hK _ _ ?_ | refine And.intro ?_ ?_ | (intro hc;try subst hc)))<;>(try clear hK K))
         | (refine zJ (b:=_) (by with_unfolding_all rfl) (fun hc=>?_) (fun hc=>?_)<;>simp at hc<;>(try subst hc)))
        all_goals first|(simp;done)|(simp at *;omega)|((try simp[hT,hC,hTl,hCl,h1,hm]);refine Imp.auto (by kernel_rfl) ?_ ?_<;>simp[NLe,hT,hC,hTl,hCl,h1,hm])
      ·have g12:=h1
       clear h1
       by_cases h1:T.pc=13
       ·by_cases hd:T.held=true
        ·have h67:d67 [stA T.nx,.int .i64 T.en] []=some (.tup [rcA (endS T.nx T.en).1,.bool (endS T.nx T.en).2]):=rfl
         have hin:=end_in hnx (t:=T.en) (by omega) (by omega)
         by_cases h2:(endS T.nx T.en).2=true
         ·have hh:noteT W T=noteW W T.x T.nx.g W.f (endS T.nx T.en).1:=by simp[noteT,h1,hd,h2]
          rw[h2]at h67
          have h68:=e68 hW hlo T.x T.nx.g W.f hin
          have hW2:=note_ok hW (T.x) (T.nx.g) (W.f) ((endS T.nx T.en).1)
          obtain ⟨W2,hw2e⟩:∃ z,noteW W (T.x) (T.nx.g) (W.f) ((endS T.nx T.en).1)=z:=⟨_,rfl⟩
          rw[hw2e]at h68 hW2 hh
          obtain ⟨hcf2,hw2,hwl2,hs02,ht02,ht12,hlg2⟩:=okW_ex hW2
          have hT2:=w_t0 hw2
          have hC2:=w_cl hw2
          have hTl2:=l_t0 hlg2
          have hCl2:=l_cl hlg2
          rw[hh]
          simp only[tzC,wzL,wzC,rcA,stA,fillR]at hS h68 h67⊢
          unfold m81
          repeat' with_reducible (first
           | refine ZR.h ?_ | refine zI (by decide) ?_
           | ((first | refine zK hE ?_ | refine zL hE mixT ?_);intro K hK;simp[KR.ks,KD.ks,KD.cl,q81_0,q81_1,q81_2,q81_3,q81_4,q81_5,q81_6,q81_7,q81_8,q81_9,q81_10,q81_11,hT,hC,hTl,hCl,hT2,hC2,hTl2,hCl2,h1,hd,h67,h68];(repeat' (first | refine hK _ _ ?_ | refine And.intro ?_ ?_ | (intro hc;try subst hc)))<;>(try clear hK K))
           | (refine zJ (b:=_) (by with_unfolding_all rfl) (fun hc=>?_) (fun hc=>?_)<;>simp at hc<;>(try subst hc)))
          all_goals first|(simp;done)|(simp at *;omega)|((try simp[hT,hC,hTl,hCl,hT2,hC2,hTl2,hCl2,h1,hd]);refine Imp.auto (by kernel_rfl) ?_ ?_<;>simp[NLe,hT,hC,hTl,hCl,hT2,hC2,hTl2,hCl2,h1,hd])
         ·have hh:noteT W T=W:=by simp[noteT,h1,hd,h2]
          have h2:(endS T.nx T.en).2=false:=by simpa using h2
          rw[h2]at h67
          rw[hh]
          simp only[tzC,wzL,wzC,rcA,stA]at hS h67⊢
          unfold m81
          repeat' with_reducible (first
           | refine ZR.h ?_ | refine zI (by decide) ?_
           | ((first | refine zK hE ?_ | refine zL hE mixT ?_);intro K hK;simp[KR.ks,KD.ks,KD.cl,q81_0,q81_1,q81_2,q81_3,q81_4,q81_5,q81_6,q81_7,q81_8,q81_9,q81_10,q81_11,hT,hC,hTl,hCl,h1,hd,h67];(repeat' (first | refine hK _ _ ?_ | refine And.intro ?_ ?_ | (intro hc;try subst hc)))<;>(try clear hK K))
           | (refine zJ (b:=_) (by with_unfolding_all rfl) (fun hc=>?_) (fun hc=>?_)<;>simp at hc<;>(try subst hc)))
          all_goals first|(simp;done)|(simp at *;omega)|((try simp[hT,hC,hTl,hCl,h1,hd]);refine Imp.auto (by kernel_rfl) ?_ ?_<;>simp[NLe,hT,hC,hTl,hCl,h1,hd])
        ·have hd:T.held=false:=by simpa using hd
         have hh:noteT W T=W:=by simp[noteT,h1,hd]
         rw[hh]
         simp only[tzC,wzL,wzC]at hS⊢
         unfold m81
         repeat' with_reducible (first
          | refine ZR.h ?_ | refine zI (by decide) ?_
          | ((first | refine zK hE ?_ | refine zL hE mixT ?_);intro K hK;simp[KR.ks,KD.ks,KD.cl,q81_0,q81_1,q81_2,q81_3,q81_4,q81_5,q81_6,q81_7,q81_8,q81_9,q81_10,q81_11,hT,hC,hTl,hCl,h1,hd];(repeat' (first | refine hK _ _ ?_ | refine And.intro ?_ ?_ | (intro hc;try subst hc)))<;>(try clear hK K))
          | (refine zJ (b:=_) (by with_unfolding_all rfl) (fun hc=>?_) (fun hc=>?_)<;>simp at hc<;>(try subst hc)))
         all_goals first|(simp;done)|(simp at *;omega)|((try simp[hT,hC,hTl,hCl,h1,hd]);refine Imp.auto (by kernel_rfl) ?_ ?_<;>simp[NLe,hT,hC,hTl,hCl,h1,hd])
       ·have g13:=h1
        clear h1
        have hh:noteT W T=W:=by simp[noteT,g10,g11,g12,g13]
        rw[hh]
        simp only[tzC,wzL,wzC]at hS⊢
        unfold m81
        repeat' with_reducible (first
         | refine ZR.h ?_ | refine zI (by decide) ?_
         | ((first | refine zK hE ?_ | refine zL hE mixT ?_);intro K hK;simp[KR.ks,KD.ks,KD.cl,q81_0,q81_1,q81_2,q81_3,q81_4,q81_5,q81_6,q81_7,q81_8,q81_9,q81_10,q81_11,hT,hC,hTl,hCl,g10,g11,g12,g13];(repeat' (first | refine hK _ _ ?_ | refine And.intro ?_ ?_ | (intro hc;try subst hc)))<;>(try clear hK K))
         | (refine zJ (b:=_) (by with_unfolding_all rfl) (fun hc=>?_) (fun hc=>?_)<;>simp at hc<;>(try subst hc)))
        all_goals first|(simp;done)|(simp at *;omega)|((try simp[hT,hC,hTl,hCl]);refine Imp.auto (by kernel_rfl) ?_ ?_<;>simp[NLe,hT,hC,hTl,hCl])
   ·cases h
  ·cases h
 ·cases h
end Go.W

