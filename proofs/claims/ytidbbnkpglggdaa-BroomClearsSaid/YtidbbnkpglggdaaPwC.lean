/- A part of the proofs about the pair's laws (PwB, PwC). -/
import Derived.Test.YtidbbnkpglggdaaPwA
import Derived.Test.YtidbbnkpglggdaaPxB
namespace Go.W
open Go.Proofs
set_option linter.unusedSimpArgs false
set_option linter.unusedVariables false
set_option maxHeartbeats 8000000
attribute [local irreducible] Wm
attribute [local simp] nmap lkp mkPl prs prsL prT ddL idL CRenL CRen Ren RenL NObj.none CRenLL
def goZ (t n:Int):Int:=if 0<n then addZ 1000000 t n else t
def d37:List AV→Option Ans
  | [.op _ [.int .u64 t],.os _ 1 [[.int .i64 n]]]=>if 0≤t∧t≤1000000∧n≤1000000 then some ⟨.int .i64 (goZ t n),[.cells 0 [.int .u64 (goZ t n)],.free]⟩ else none
  | _=>none
theorem addZ_in {a b:Int} (h0:0≤a) (h1:a≤1000000) (h2:0≤b) (h3:b≤1000000):0≤addZ 1000000 a b∧addZ 1000000 a b≤1000000:=by
  unfold addZ;repeat' split
  all_goals omega
theorem goZ_in {t n:Int} (h0:0≤t) (h1:t≤1000000) (h3:n≤1000000):0≤goZ t n∧goZ t n≤1000000:=by
  unfold goZ;split
  · exact addZ_in h0 h1 (by omega) h3
  · exact ⟨h0,h1⟩
theorem ok37:NOk [(1,true),(1,false)] d37:=by
  intro xs a h
  unfold d37 at h
  (repeat' (split at h))<;>first|(cases h;done)|(injection h with h;subst h;refine ⟨Ends_of ?_,?_⟩<;>simp)
theorem s37:Sound Try.prog 37 (nestS [(1,true),(1,false)] d37 ok37):=by
  refine nest_sound Try.func37 nm37 rc37 rv37 ok37 (fun xs a h=>?_) fun xs a h w0 S hS=>?_
  · unfold d37 at h
    (repeat' (split at h))<;>first|(cases h;done)|exact Nat.le_of_ble_eq_true rfl
  unfold d37 at h
  split at h
  · split at h
    · rename_i u0 t u1 n hcond
      injection h with h
      subst h
      have hE:SoundAll Try.prog (EL [(69,rdS d69 ok69)]):=EL_sound (by simp only[List.mem_cons,List.not_mem_nil,or_false,forall_eq_or_imp,forall_eq];exact s69)
      obtain ⟨t0,t1,n1⟩:=hcond
      have hg:=goZ_in t0 t1 n1
      have wk1:IntKind.wrap .i64 1=1:=by rfl
      have wg:IntKind.wrap .i64 (goZ t n)=goZ t n:=wrap_in (by omega) (by omega)
      by_cases h1:0<n
      · have e1:goZ t n=addZ 1000000 t n:=if_pos h1
        have wn:IntKind.wrap .u64 n=n:=u64_wrap (by omega) (by omega)
        have h69:d69 [.int .u64 1000000,.sl (.top 0) 0 2] [.view 0 1 [[.int .u64 t],[.int .u64 n]]]=some (.int .u64 (addZ 1000000 t n)):=by simp only[d69];rw[if_pos ⟨by omega,by omega,t0,t1,by omega,n1⟩]
        rw[e1]at wg hg⊢
        obtain ⟨z,hz⟩:∃ z,addZ 1000000 t n=z:=⟨_,rfl⟩
        rw[hz]at wg h69 hg⊢
        unfold m37
        repeat' with_reducible (first
          | refine ZR.h ?_ | refine zI (by decide) ?_
          | (refine zK hE ?_;intro K hK;simp[KR.ks,q37_0,q37_1,q37_2,q37_3,q37_4,q37_5,q37_6,q37_7,q37_8,q37_9,wk1,wg,wn,h1,h69];(repeat' (first | refine hK _ _ ?_ | refine And.intro ?_ ?_ | (intro hc;try subst hc)))<;>(try clear hK K))
          | (refine zJ (b:=_) (by with_unfolding_all rfl) (fun hc=>?_) (fun hc=>?_)<;>simp at hc<;>(try subst hc)))
        all_goals (try refine Wm_unroll 2 ?_)
        repeat' with_reducible (first
          | refine ZR.h ?_ | refine zI (by decide) ?_
          | (refine zK hE ?_;intro K hK;simp[KR.ks,q37_0,q37_1,q37_2,q37_3,q37_4,q37_5,q37_6,q37_7,q37_8,q37_9,wk1,wg,wn,h1,h69];(repeat' (first | refine hK _ _ ?_ | refine And.intro ?_ ?_ | (intro hc;try subst hc)))<;>(try clear hK K))
          | (refine zJ (b:=_) (by with_unfolding_all rfl) (fun hc=>?_) (fun hc=>?_)<;>simp at hc<;>(try subst hc)))
        all_goals first|(simp;done)|(simp at *;omega)|((try simp);refine Imp.auto (by kernel_rfl) ?_ ?_<;>simp[NLe])
      · have e1:goZ t n=t:=if_neg h1
        rw[e1]at wg hg⊢
        unfold m37
        repeat' with_reducible (first
          | refine ZR.h ?_ | refine zI (by decide) ?_
          | (refine zK hE ?_;intro K hK;simp[KR.ks,q37_0,q37_1,q37_2,q37_3,q37_4,q37_5,q37_6,q37_7,q37_8,q37_9,wk1,wg,h1];(repeat' (first | refine hK _ _ ?_ | refine And.intro ?_ ?_ | (intro hc;try subst hc)))<;>(try clear hK K))
          | (refine zJ (b:=_) (by with_unfolding_all rfl) (fun hc=>?_) (fun hc=>?_)<;>simp at hc<;>(try subst hc)))
        all_goals (try refine Wm_unroll 2 ?_)
        repeat' with_reducible (first
          | refine ZR.h ?_ | refine zI (by decide) ?_
          | (refine zK hE ?_;intro K hK;simp[KR.ks,q37_0,q37_1,q37_2,q37_3,q37_4,q37_5,q37_6,q37_7,q37_8,q37_9,wk1,wg,h1];(repeat' (first | refine hK _ _ ?_ | refine And.intro ?_ ?_ | (intro hc;try subst hc)))<;>(try clear hK K))
          | (refine zJ (b:=_) (by with_unfolding_all rfl) (fun hc=>?_) (fun hc=>?_)<;>simp at hc<;>(try subst hc)))
        all_goals first|(simp;done)|(simp at *;omega)|((try simp);refine Imp.auto (by kernel_rfl) ?_ ?_<;>simp[NLe])
    · cases h
  · cases h
structure RpZ where
  sh:Int
  pc:Int
  ps:Int
  wd:Int
  st:StZ
  tm:TmZ
  dn:Bool
  ta:Int
def rpC (R:RpZ):List AV:=[.int .i64 R.sh,.int .i64 R.pc,.int .i64 R.ps,.int .u64 R.wd,.int .i64 R.st.k,.bool R.st.fl,.int .i64 R.st.g,.int .i64 R.st.l,.int .i64 R.st.f,.int .i64 R.tm.nm,.int .i64 R.tm.sd,.int .i64 R.tm.pr,.int .i64 R.tm.le,.int .i64 R.tm.un,.bool R.dn,.int .i64 R.ta]
def rpOf:List AV→Option RpZ
  | [.int .i64 a,.int .i64 b,.int .i64 c,.int .u64 d,.int .i64 e,.bool f,.int .i64 g,.int .i64 h,.int .i64 i,.int .i64 j,.int .i64 k,.int .i64 l,.int .i64 m,.int .i64 n,.bool o,.int .i64 p]=>some ⟨a,b,c,d,⟨e,f,g,h,i⟩,⟨j,k,l,m,n⟩,o,p⟩
  | _=>none
theorem rpOf_C (R:RpZ):rpOf (rpC R)=some R:=rfl
theorem rpOf_ex {c:List AV} {R:RpZ} (h:rpOf c=some R):c=rpC R:=by
  unfold rpOf at h
  split at h
  · injection h with h;subst h;rfl
  · cases h
def okR (R:RpZ):Bool:=decide (0≤R.pc∧R.pc≤1000∧0≤R.ps∧R.ps≤1000000∧0≤R.wd∧R.wd<18446744073709551616∧okS R.st=true∧0≤R.ta∧R.ta≤1000000)
theorem okR_ex {R:RpZ} (h:okR R=true):0≤R.pc∧R.pc≤1000∧0≤R.ps∧R.ps≤1000000∧0≤R.wd∧R.wd<18446744073709551616∧okS R.st=true∧0≤R.ta∧R.ta≤1000000:=of_decide_eq_true h
def endR (W:WZ) (R:RpZ) (c:Int):RpZ×WZ :=
  if looseZ R.st.k=false then (R,W)
  else if shardZ W.c W.d R.tm.nm (bandZ W.d R.tm.pr)≠R.sh then (R,W)
  else if R.tm.un≤W.t then
    (if (turnW W c R.wd { R.st with k:=7 }).1=true then ({ R with dn:=true,st:={ R.st with k:=7 },ta:=W.t },tellW (turnW W c R.wd { R.st with k:=7 }).2 5 c R.st.g 0 0 0 0 0)
     else ({ R with dn:=false },(turnW W c R.wd { R.st with k:=7 }).2))
  else (R,W)
theorem endR_ok {W:WZ} (h:okW W=true) (R:RpZ) (c:Int):okW (endR W R c).2=true:=by
  unfold endR
  repeat' split
  all_goals first|exact h|exact tell_ok (turn_ok h _ _ _) _ _ _ _ _ _ _ _|exact turn_ok h _ _ _
theorem okS_7 {s:StZ} (h:okS s=true):okS { s with k:=7 }=true:=by
  have:=okS_ex h
  exact decide_eq_true (by simp only;omega)
def d66:List AV→Option Ans
  | [.op _ rc,.op _ wc,.int .i64 c]=>(match rpOf rc,wzOf wc with
    | some R,some W=>if okR R=true∧okW W=true∧smW W=true∧0≤c∧c<W.a*W.b then some (⟨.tup [],[.cells 0 (rpC (endR W R c).1),.cells 0 (wzC (endR W R c).2)]⟩) else none
    | _,_=>none)
  | _=>none
theorem ok66:NOk [(16,true),(10,true)] d66:=by
  intro xs aa h
  unfold d66 at h
  split at h
  · rename_i t1 rc t2 wc c
    split at h
    · rename_i R W hRc hWc
      split at h
      · rename_i hc
        obtain ⟨u1,u2,u3,u4,rfl⟩:=wzOf_ex hWc
        obtain rfl:=rpOf_ex hRc
        injection h with h;subst h
        have hW:=hc.2.1
        obtain ⟨hcf,hw,hwl,hs0,ht0,ht1,hlg⟩:=okW_ex (hW)
        have hT:=w_t0 hw
        have hC:=w_cl hw
        have hTl:=l_t0 hlg
        have hCl:=l_cl hlg
        have hW2:=endR_ok hW R c
        obtain ⟨hcf2,hw2,hwl2,hs02,ht02,ht12,hlg2⟩:=okW_ex (hW2)
        have hT2:=w_t0 hw2
        have hC2:=w_cl hw2
        have hTl2:=l_t0 hlg2
        have hCl2:=l_cl hlg2
        refine ⟨Ends_of ?_,?_⟩<;>simp[rpC,wzL,wzC,hT,hC,hTl,hCl,hT2,hC2,hTl2,hCl2]
      · cases h
    · cases h
  · cases h
theorem s66:Sound Try.prog 66 (nestS [(16,true),(10,true)] d66 ok66):=by
  refine nest_sound Try.func66 nm66 rc66 rv66 ok66 (fun xs a h=>?_) fun xs a h w0 S hS=>?_
  · unfold d66 at h
    (repeat' (split at h))<;>first|(cases h;done)|exact Nat.le_of_ble_eq_true rfl
  unfold d66 at h
  split at h
  · rename_i t1 rc t2 wc c
    split at h
    · rename_i R W hRc hWc
      split at h
      · rename_i hcond
        obtain ⟨u1,u2,u3,u4,rfl⟩:=wzOf_ex hWc
        obtain rfl:=rpOf_ex hRc
        injection h with h
        subst h
        clear hRc hWc
        have hE:SoundAll Try.prog (EL [(88,rdS d88 ok88),(89,rdS d89 ok89),(90,nestS [(1,false)] d90 ok90),(26,nestS [(10,true)] d26 ok26),(24,nestS [(1,false)] d24 ok24),(23,nestS [(10,true)] d23 ok23)]):=EL_sound (by simp only[List.mem_cons,List.not_mem_nil,or_false,forall_eq_or_imp,forall_eq];exact ⟨s88,s89,s90,s26,s24,s23⟩)
        obtain ⟨hR,hW,hsm,hc0,hc1⟩:=hcond
        obtain ⟨p0,p1,q0,q1,w0',w1',hst0,ta0,ta1⟩:=okR_ex hR
        obtain ⟨hcf,hw,hwl,hs0,ht0,ht1,hlg⟩:=okW_ex (hW)
        have hT:=w_t0 hw
        have hC:=w_cl hw
        have hTl:=l_t0 hlg
        have hCl:=l_cl hlg
        have hlo:=smW_lo hsm
        have h89:d89 [.agg [.int .i64 W.a,.int .i64 W.b,.int .i64 W.c,.int .i64 W.d,.int .i64 W.e,.int .i64 W.f,.int .i64 W.g],.agg [.int .i64 R.tm.nm,.int .i64 R.tm.sd,.int .i64 R.tm.pr,.int .i64 R.tm.le,.int .i64 R.tm.un]] []=some (.int .i64 (shardZ W.c W.d R.tm.nm (bandZ W.d R.tm.pr))):=by simp only[d89];rw[if_pos hcf]
        have h90:∀ u,d90 [.op u [.int .u64 W.t],.int .i64 R.tm.un]=some ⟨.bool (decide (R.tm.un≤W.t)),[.free]⟩:=fun u=>by simp only[d90];rw[if_pos ⟨ht0,ht1⟩]
        obtain ⟨S1,hS1⟩:∃ z,shardZ W.c W.d R.tm.nm (bandZ W.d R.tm.pr)=z:=⟨_,rfl⟩
        rw[hS1]at h89
        by_cases h1:looseZ R.st.k=false
        · have hh:endR W R c=(R,W):=by unfold endR;rw[if_pos h1]
          rw[hh]
          have h88:d88 [.agg [.int .i64 R.st.k,.bool R.st.fl,.int .i64 R.st.g,.int .i64 R.st.l,.int .i64 R.st.f]] []=some (errA zeroS 27):=by simp[d88,expireS,h1]
          simp only[errA,stA,zeroS]at h88
          simp only[rpC,wzL,wzC]at hS⊢
          unfold m66
          repeat' with_reducible (first
            | refine ZR.h ?_ | refine zI (by decide) ?_
            | ((first | refine zK hE ?_ | refine zL hE mixT ?_);intro K hK;simp[KR.ks,KD.ks,KD.cl,q66_0,q66_1,q66_2,q66_3,q66_4,q66_5,q66_6,hT,hC,hTl,hCl,h88];(repeat' (first | refine hK _ _ ?_ | refine And.intro ?_ ?_ | (intro hc;try subst hc)))<;>(try clear hK K))
            | (refine zJ (b:=_) (by with_unfolding_all rfl) (fun hc=>?_) (fun hc=>?_)<;>simp at hc<;>(try subst hc)))
          all_goals first|(simp;done)|(simp at *;omega)|((try simp[hT,hC,hTl,hCl]);refine Imp.auto (by kernel_rfl) ?_ ?_<;>simp[NLe,hT,hC,hTl,hCl])
        have h1':looseZ R.st.k=true:=by simpa using h1
        have h88:d88 [.agg [.int .i64 R.st.k,.bool R.st.fl,.int .i64 R.st.g,.int .i64 R.st.l,.int .i64 R.st.f]] []=some (errA { R.st with k:=7 } 0):=by simp[d88,expireS,h1']
        simp only[errA,stA,if_true]at h88
        by_cases h2:S1=R.sh
        case neg =>
          have hh:endR W R c=(R,W):=by unfold endR;rw[if_neg h1,hS1,if_pos h2]
          rw[hh]
          simp only[rpC,wzL,wzC]at hS⊢
          unfold m66
          repeat' with_reducible (first
            | refine ZR.h ?_ | refine zI (by decide) ?_
            | ((first | refine zK hE ?_ | refine zL hE mixT ?_);intro K hK;simp[KR.ks,KD.ks,KD.cl,q66_0,q66_1,q66_2,q66_3,q66_4,q66_5,q66_6,hT,hC,hTl,hCl,h88,h89,h2];(repeat' (first | refine hK _ _ ?_ | refine And.intro ?_ ?_ | (intro hc;try subst hc)))<;>(try clear hK K))
            | (refine zJ (b:=_) (by with_unfolding_all rfl) (fun hc=>?_) (fun hc=>?_)<;>simp at hc<;>(try subst hc)))
          all_goals first|(simp;done)|(simp at *;omega)|((try simp[hT,hC,hTl,hCl]);refine Imp.auto (by kernel_rfl) ?_ ?_<;>simp[NLe,hT,hC,hTl,hCl])
        by_cases h3:R.tm.un≤W.t
        case neg =>
          have hh:endR W R c=(R,W):=by unfold endR;rw[if_neg h1,hS1,if_neg (by simpa using h2),if_neg h3]
          rw[hh]
          simp only[rpC,wzL,wzC]at hS h90⊢
          unfold m66
          repeat' with_reducible (first
            | refine ZR.h ?_ | refine zI (by decide) ?_
            | ((first | refine zK hE ?_ | refine zL hE mixT ?_);intro K hK;simp[KR.ks,KD.ks,KD.cl,q66_0,q66_1,q66_2,q66_3,q66_4,q66_5,q66_6,hT,hC,hTl,hCl,h88,h89,h2,h90,h3];(repeat' (first | refine hK _ _ ?_ | refine And.intro ?_ ?_ | (intro hc;try subst hc)))<;>(try clear hK K))
            | (refine zJ (b:=_) (by with_unfolding_all rfl) (fun hc=>?_) (fun hc=>?_)<;>simp at hc<;>(try subst hc)))
          all_goals first|(simp;done)|(simp at *;omega)|((try simp[hT,hC,hTl,hCl]);refine Imp.auto (by kernel_rfl) ?_ ?_<;>simp[NLe,hT,hC,hTl,hCl])
        have hh:endR W R c=if (turnW W c R.wd { R.st with k:=7 }).1=true then ({ R with dn:=true,st:={ R.st with k:=7 },ta:=W.t },tellW (turnW W c R.wd { R.st with k:=7 }).2 5 c R.st.g 0 0 0 0 0) else ({ R with dn:=false },(turnW W c R.wd { R.st with k:=7 }).2):=by
          unfold endR;rw[if_neg h1,hS1,if_neg (by simpa using h2),if_pos h3]
        rw[hh]
        have h26:=e26 hW hlo hc0 hc1 R.wd (okS_7 hst0)
        have hW2:=turn_ok hW c R.wd { R.st with k:=7 }
        have hfr:=turn_fr W c R.wd { R.st with k:=7 }
        obtain ⟨⟨b,V⟩,hV⟩:∃ r,turnW W c R.wd { R.st with k:=7 }=r:=⟨_,rfl⟩
        rw[hV]at h26 hW2 hfr⊢
        simp only at h26 hW2 hfr⊢
        obtain ⟨hcf2,hw2,hwl2,hs02,ht02,ht12,hlg2⟩:=okW_ex (hW2)
        have hT2:=w_t0 hw2
        have hC2:=w_cl hw2
        have hTl2:=l_t0 hlg2
        have hCl2:=l_cl hlg2
        cases b
        · simp only[Bool.false_eq_true,if_false]
          simp only[rpC,wzL,wzC,stA]at hS h90 h26⊢
          unfold m66
          repeat' with_reducible (first
            | refine ZR.h ?_ | refine zI (by decide) ?_
            | ((first | refine zK hE ?_ | refine zL hE mixT ?_);intro K hK;simp[KR.ks,KD.ks,KD.cl,q66_0,q66_1,q66_2,q66_3,q66_4,q66_5,q66_6,hT,hC,hTl,hCl,hT2,hC2,hTl2,hCl2,h88,h89,h2,h90,h3,h26];(repeat' (first | refine hK _ _ ?_ | refine And.intro ?_ ?_ | (intro hc;try subst hc)))<;>(try clear hK K))
            | (refine zJ (b:=_) (by with_unfolding_all rfl) (fun hc=>?_) (fun hc=>?_)<;>simp at hc<;>(try subst hc)))
          all_goals first|(simp;done)|(simp at *;omega)|((try simp[hT,hC,hTl,hCl,hT2,hC2,hTl2,hCl2]);refine Imp.auto (by kernel_rfl) ?_ ?_<;>simp[NLe,hT,hC,hTl,hCl,hT2,hC2,hTl2,hCl2])
        · have hsq:=smW_ex hsm
          have hlo2:loW V=true:=decide_eq_true (by rw[hfr.2.1];omega)
          have h23:=e23 hW2 hlo2 5 c R.st.g 0 0 0 0 0 0
          have hW3:=tell_ok hW2 5 c R.st.g 0 0 0 0 0
          have h24:∀ u,d24 [.op u [.int .u64 V.t]]=some ⟨.int .i64 W.t,[.free]⟩:=fun u=>by simp only[d24];rw[if_pos ⟨ht02,ht12⟩,hfr.2.2.1]
          obtain ⟨X,hX⟩:∃ z,tellW V 5 c R.st.g 0 0 0 0 0=z:=⟨_,rfl⟩
          rw[hX]at h23 hW3
          simp only[if_true]
          rw[hX]
          obtain ⟨hcf3,hw3,hwl3,hs03,ht03,ht13,hlg3⟩:=okW_ex (hW3)
          have hT3:=w_t0 hw3
          have hC3:=w_cl hw3
          have hTl3:=l_t0 hlg3
          have hCl3:=l_cl hlg3
          simp only[rpC,wzL,wzC,stA,evC]at hS h90 h26 h23 h24⊢
          unfold m66
          repeat' with_reducible (first
            | refine ZR.h ?_ | refine zI (by decide) ?_
            | ((first | refine zK hE ?_ | refine zL hE mixT ?_);intro K hK;simp[KR.ks,KD.ks,KD.cl,q66_0,q66_1,q66_2,q66_3,q66_4,q66_5,q66_6,hT,hC,hTl,hCl,hT2,hC2,hTl2,hCl2,hT3,hC3,hTl3,hCl3,h88,h89,h2,h90,h3,h26,h24,h23];(repeat' (first | refine hK _ _ ?_ | refine And.intro ?_ ?_ | (intro hc;try subst hc)))<;>(try clear hK K))
            | (refine zJ (b:=_) (by with_unfolding_all rfl) (fun hc=>?_) (fun hc=>?_)<;>simp at hc<;>(try subst hc)))
          all_goals first|(simp;done)|(simp at *;omega)|((try simp[hT,hC,hTl,hCl,hT2,hC2,hTl2,hCl2,hT3,hC3,hTl3,hCl3]);refine Imp.auto (by kernel_rfl) ?_ ?_<;>simp[NLe,hT,hC,hTl,hCl,hT2,hC2,hTl2,hCl2,hT3,hC3,hTl3,hCl3])
      · cases h
    · cases h
  · cases h
theorem e66 {W:WZ} {R:RpZ} (hR:okR R=true) (hW:okW W=true) (hm:smW W=true) {c:Int} (h0:0≤c) (h1:c<W.a*W.b) (u v u1 u2 u3 u4:Nat):d66 [.op u (rpC R),.op v (wzL W u1 u2 u3 u4),.int .i64 c]=some ⟨.tup [],[.cells 0 (rpC (endR W R c).1),.cells 0 (wzC (endR W R c).2)]⟩:=by
  simp only[d66,rpOf_C,wzOf_C]
  rw[if_pos ⟨hR,hW,hm,h0,h1⟩]
end Go.W

namespace Go.W
open Go.Proofs
set_option linter.unusedSimpArgs false
set_option linter.unusedVariables false
set_option maxHeartbeats 8000000
attribute [local irreducible] Wm
attribute [local simp] nmap lkp mkPl prs prsL prT ddL idL CRenL CRen Ren RenL NObj.none CRenLL
theorem note_fr2' (W:WZ) (x g n:Int) (r:RcZ):(noteW W x g n r).a=W.a∧(noteW W x g n r).b=W.b∧(noteW W x g n r).c=W.c∧(noteW W x g n r).d=W.d∧(noteW W x g n r).e=W.e∧(noteW W x g n r).f=W.f∧(noteW W x g n r).g=W.g:=by
 unfold noteW
 split
 ·exact ⟨rfl,rfl,rfl,rfl,rfl,rfl,rfl⟩
 ·split
  ·exact ⟨rfl,rfl,rfl,rfl,rfl,rfl,rfl⟩
  ·split<;>exact ⟨rfl,rfl,rfl,rfl,rfl,rfl,rfl⟩
def coreR (W:WZ) (R:RpZ):RpZ×WZ :=
 if R.pc % 4=0 then ({ R with dn:=false,wd:=sAt W (R.pc / 4),st:=stateZ (sAt W (R.pc / 4)) },tickW W)
 else if R.pc % 4=1 then ({ R with tm:=termsZ (tAt W (R.pc / 4)) },tickW W)
 else if R.pc % 4=2 then endR W R (R.pc / 4)
 else if (endS R.st R.ta).2=true∧R.dn=true then (R,noteW W (R.pc / 4) R.st.g W.f (endS R.st R.ta).1)
 else (R,W)
def nextR (m:Int) (R:RpZ):RpZ:=if R.pc+1=m then { R with pc:=0,ps:=R.ps+1 } else { R with pc:=R.pc+1 }
def rpStep (W:WZ) (R:RpZ):RpZ×WZ:=(nextR (4*(W.a*W.b)) (coreR W R).1,(coreR W R).2)
theorem coreR_ok {W:WZ} (h:okW W=true) (R:RpZ):okW (coreR W R).2=true:=by
 unfold coreR
 repeat' split
 all_goals first|exact h|exact tick_ok h|exact endR_ok h R _|exact note_ok h _ _ _ _
def d30:List AV→Option Ans
 | [.op _ rc,.op _ wc]=>(match rpOf rc,wzOf wc with
  | some R,some W=>if okR R=true∧okW W=true∧smW W=true∧R.pc<4*(W.a*W.b) then some (⟨.tup [],[.cells 0 (rpC (rpStep W R).1),.cells 0 (wzC (rpStep W R).2)]⟩) else none
  | _,_=>none)
 | _=>none
theorem ok30:NOk [(16,true),(10,true)] d30:=by
 intro xs aa h
 unfold d30 at h
 split at h
 ·rename_i t1 rc t2 wc
  split at h
  ·rename_i R W hRc hWc
   split at h
   ·rename_i hc
    obtain ⟨u1,u2,u3,u4,rfl⟩:=wzOf_ex hWc
    obtain rfl:=rpOf_ex hRc
    injection h with h;subst h
    have hW:=hc.2.1
    obtain ⟨hcf,hw,hwl,hs0,ht0,ht1,hlg⟩:=okW_ex (hW)
    have hT:=w_t0 hw
    have hC:=w_cl hw
    have hTl:=l_t0 hlg
    have hCl:=l_cl hlg
    have hW2:okW (rpStep W R).2=true:=coreR_ok hW R
    obtain ⟨hcf2,hw2,hwl2,hs02,ht02,ht12,hlg2⟩:=okW_ex (hW2)
    have hT2:=w_t0 hw2
    have hC2:=w_cl hw2
    have hTl2:=l_t0 hlg2
    have hCl2:=l_cl hlg2
    refine ⟨Ends_of ?_,?_⟩<;>simp[rpC,wzL,wzC,hT,hC,hTl,hCl,hT2,hC2,hTl2,hCl2]
   ·cases h
  ·cases h
 ·cases h
theorem s30:Sound Try.prog 30 (nestS [(16,true),(10,true)] d30 ok30):=by
 refine nest_sound Try.func30 nm30 rc30 rv30 ok30 (fun xs a h=>?_) fun xs a h w0 S hS=>?_
 ·unfold d30 at h
  (repeat' (split at h))<;>first|(cases h;done)|exact Nat.le_of_ble_eq_true rfl
 unfold d30 at h
 split at h
 ·rename_i t1 rc t2 wc
  split at h
  ·rename_i R W hRc hWc
   split at h
   ·rename_i hcond
    obtain ⟨u1,u2,u3,u4,rfl⟩:=wzOf_ex hWc
    obtain rfl:=rpOf_ex hRc
    injection h with h
    subst h
    clear hRc hWc
    have hE:SoundAll Try.prog (EL [(14,nestS [(10,true)] d14 ok14),(39,nestS [] d39 ok39),(65,nestS [(10,true)] d65 ok65),(66,nestS [(16,true),(10,true)] d66 ok66),(67,rdS d67 ok67),(68,nestS [(10,true)] d68 ok68)]):=EL_sound (by simp only[List.mem_cons,List.not_mem_nil,or_false,forall_eq_or_imp,forall_eq];exact ⟨s14,s39,s65,s66,s67,s68⟩)
    obtain ⟨hR,hW,hsm,hpm⟩:=hcond
    obtain ⟨p0,p1,q0,q1,w0',w1',hst0,ta0,ta1⟩:=okR_ex hR
    obtain ⟨hcf,hw,hwl,hs0,ht0,ht1,hlg⟩:=okW_ex (hW)
    have hT:=w_t0 hw
    have hC:=w_cl hw
    have hTl:=l_t0 hlg
    have hCl:=l_cl hlg
    have hlo:=smW_lo hsm
    have hall:=cfg_all hcf
    have h39:d39 [.agg [.int .i64 W.a,.int .i64 W.b,.int .i64 W.c,.int .i64 W.d,.int .i64 W.e,.int .i64 W.f,.int .i64 W.g]]=some ⟨.int .i64 (4*(W.a*W.b)),[]⟩:=by simp only[d39];rw[if_pos hcf]
    have tq:IntKind.wrap .i64 (R.pc.tdiv 4)=R.pc / 4:=tdiv_in (by omega) (by omega) (by omega)
    have tr:R.pc.tmod 4=R.pc % 4:=Int.tmod_eq_emod_of_nonneg p0
    have w1:IntKind.wrap .i64 (R.pc+1)=R.pc+1:=wrap_in (by omega) (by omega)
    have w2:IntKind.wrap .i64 (R.ps+1)=R.ps+1:=wrap_in (by omega) (by omega)
    have hx0:0≤R.pc / 4:=by omega
    have hx1:R.pc / 4<W.a*W.b:=by omega
    obtain ⟨M,hM⟩:∃ z,4*(W.a*W.b)=z:=⟨_,rfl⟩
    rw[hM]at h39
    have wM:IntKind.wrap .i64 M=M:=wrap_in (by omega) (by omega)
    rcases (show R.pc % 4=0∨R.pc % 4=1∨R.pc % 4=2∨R.pc % 4=3 by omega) with hm|hm|hm|hm
    ·have h14:=e14 hW hlo hx0 hx1
     have hco:coreR W R=({ R with dn:=false,wd:=sAt W (R.pc / 4),st:=stateZ (sAt W (R.pc / 4)) },tickW W):=by unfold coreR;rw[if_pos hm]
     simp only[rpStep,hco,nextR,hM]
     by_cases hN:R.pc+1=M
     ·rw[if_pos hN]
      simp only[rpC,wzL,wzC,tickW,stA,tmA,tmC]at h14 hS h39⊢
      unfold m30
      repeat' with_reducible (first
       | refine ZR.h ?_ | refine zI (by decide) ?_
       | ((first | refine zK hE ?_ | refine zL hE mixT ?_);intro K hK;simp[KR.ks,KD.ks,KD.cl,q30_0,q30_1,q30_2,q30_3,q30_4,q30_5,q30_6,q30_7,q30_8,q30_9,q30_10,q30_11,q30_12,q30_13,q30_14,q30_15,q30_16,hT,hC,hTl,hCl,tq,tr,w1,w2,hm,h39,hN,wM,h14];(repeat' (first | refine hK _ _ ?_ | refine And.intro ?_ ?_ | (intro hc;try subst hc)))<;>(try clear hK K))
       | (refine zJ (b:=_) (by with_unfolding_all rfl) (fun hc=>?_) (fun hc=>?_)<;>simp at hc<;>(try subst hc)))
      all_goals first|(simp;done)|(simp at *;omega)|((try simp[hT,hC,hTl,hCl]);refine Imp.auto (by kernel_rfl) ?_ ?_<;>simp[NLe,hT,hC,hTl,hCl])
     ·rw[if_neg hN]
      simp only[rpC,wzL,wzC,tickW,stA,tmA,tmC]at h14 hS h39⊢
      unfold m30
      repeat' with_reducible (first
       | refine ZR.h ?_ | refine zI (by decide) ?_
       | ((first | refine zK hE ?_ | refine zL hE mixT ?_);intro K hK;simp[KR.ks,KD.ks,KD.cl,q30_0,q30_1,q30_2,q30_3,q30_4,q30_5,q30_6,q30_7,q30_8,q30_9,q30_10,q30_11,q30_12,q30_13,q30_14,q30_15,q30_16,hT,hC,hTl,hCl,tq,tr,w1,w2,hm,h39,hN,wM,h14];(repeat' (first | refine hK _ _ ?_ | refine And.intro ?_ ?_ | (intro hc;try subst hc)))<;>(try clear hK K))
       | (refine zJ (b:=_) (by with_unfolding_all rfl) (fun hc=>?_) (fun hc=>?_)<;>simp at hc<;>(try subst hc)))
      all_goals first|(simp;done)|(simp at *;omega)|((try simp[hT,hC,hTl,hCl]);refine Imp.auto (by kernel_rfl) ?_ ?_<;>simp[NLe,hT,hC,hTl,hCl])
    ·have h65:=e65 hW hlo hx0 hx1
     have hco:coreR W R=({ R with tm:=termsZ (tAt W (R.pc / 4)) },tickW W):=by unfold coreR;rw[if_neg (by omega),if_pos hm]
     simp only[rpStep,hco,nextR,hM]
     by_cases hN:R.pc+1=M
     ·rw[if_pos hN]
      simp only[rpC,wzL,wzC,tickW,stA,tmA,tmC]at h65 hS h39⊢
      unfold m30
      repeat' with_reducible (first
       | refine ZR.h ?_ | refine zI (by decide) ?_
       | ((first | refine zK hE ?_ | refine zL hE mixT ?_);intro K hK;simp[KR.ks,KD.ks,KD.cl,q30_0,q30_1,q30_2,q30_3,q30_4,q30_5,q30_6,q30_7,q30_8,q30_9,q30_10,q30_11,q30_12,q30_13,q30_14,q30_15,q30_16,hT,hC,hTl,hCl,tq,tr,w1,w2,hm,h39,hN,wM,h65];(repeat' (first | refine hK _ _ ?_ | refine And.intro ?_ ?_ | (intro hc;try subst hc)))<;>(try clear hK K))
       | (refine zJ (b:=_) (by with_unfolding_all rfl) (fun hc=>?_) (fun hc=>?_)<;>simp at hc<;>(try subst hc)))
      all_goals first|(simp;done)|(simp at *;omega)|((try simp[hT,hC,hTl,hCl]);refine Imp.auto (by kernel_rfl) ?_ ?_<;>simp[NLe,hT,hC,hTl,hCl])
     ·rw[if_neg hN]
      simp only[rpC,wzL,wzC,tickW,stA,tmA,tmC]at h65 hS h39⊢
      unfold m30
      repeat' with_reducible (first
       | refine ZR.h ?_ | refine zI (by decide) ?_
       | ((first | refine zK hE ?_ | refine zL hE mixT ?_);intro K hK;simp[KR.ks,KD.ks,KD.cl,q30_0,q30_1,q30_2,q30_3,q30_4,q30_5,q30_6,q30_7,q30_8,q30_9,q30_10,q30_11,q30_12,q30_13,q30_14,q30_15,q30_16,hT,hC,hTl,hCl,tq,tr,w1,w2,hm,h39,hN,wM,h65];(repeat' (first | refine hK _ _ ?_ | refine And.intro ?_ ?_ | (intro hc;try subst hc)))<;>(try clear hK K))
       | (refine zJ (b:=_) (by with_unfolding_all rfl) (fun hc=>?_) (fun hc=>?_)<;>simp at hc<;>(try subst hc)))
      all_goals first|(simp;done)|(simp at *;omega)|((try simp[hT,hC,hTl,hCl]);refine Imp.auto (by kernel_rfl) ?_ ?_<;>simp[NLe,hT,hC,hTl,hCl])
    ·have h66:=e66 hR hW hsm hx0 hx1
     have hW2:=endR_ok hW R (R.pc / 4)
     have hpc2:(endR W R (R.pc / 4)).1.pc=R.pc∧(endR W R (R.pc / 4)).1.ps=R.ps:=by
      unfold endR;repeat' split
      all_goals exact ⟨rfl,rfl⟩
     have hpar:(endR W R (R.pc / 4)).2.a=W.a∧(endR W R (R.pc / 4)).2.b=W.b∧(endR W R (R.pc / 4)).2.c=W.c∧(endR W R (R.pc / 4)).2.d=W.d∧(endR W R (R.pc / 4)).2.e=W.e∧(endR W R (R.pc / 4)).2.f=W.f∧(endR W R (R.pc / 4)).2.g=W.g:=by
      have ht:∀ x old s,(turnW W x old s).2.a=W.a∧(turnW W x old s).2.b=W.b∧(turnW W x old s).2.c=W.c∧(turnW W x old s).2.d=W.d∧(turnW W x old s).2.e=W.e∧(turnW W x old s).2.f=W.f∧(turnW W x old s).2.g=W.g:=fun x old s=>by
       unfold turnW
       split
       ·exact ⟨rfl,rfl,rfl,rfl,rfl,rfl,rfl⟩
       ·split<;>exact ⟨rfl,rfl,rfl,rfl,rfl,rfl,rfl⟩
      unfold endR
      split
      ·exact ⟨rfl,rfl,rfl,rfl,rfl,rfl,rfl⟩
      ·split
       ·exact ⟨rfl,rfl,rfl,rfl,rfl,rfl,rfl⟩
       ·split
        ·split
         ·exact ht _ _ _
         ·exact ht _ _ _
        ·exact ⟨rfl,rfl,rfl,rfl,rfl,rfl,rfl⟩
     have hco:coreR W R=endR W R (R.pc / 4):=by unfold coreR;rw[if_neg (by omega),if_neg (by omega),if_pos hm]
     simp only[rpStep,hco,nextR,hM]
     obtain ⟨⟨Q,V⟩,hV⟩:∃ r,endR W R (R.pc / 4)=r:=⟨_,rfl⟩
     rw[hV]at h66 hW2 hpc2 hpar⊢
     simp only at h66 hW2 hpc2 hpar⊢
     obtain ⟨z1,z2⟩:=hpc2
     obtain ⟨y1,y2,y3,y4,y5,y6,y7⟩:=hpar
     obtain ⟨hcf2,hw2,hwl2,hs02,ht02,ht12,hlg2⟩:=okW_ex (hW2)
     have hT2:=w_t0 hw2
     have hC2:=w_cl hw2
     have hTl2:=l_t0 hlg2
     have hCl2:=l_cl hlg2
     rw[← y1,← y2,← y3,← y4,← y5,← y6,← y7]at h39
     rw[z1,z2]
     by_cases hN:R.pc+1=M
     ·rw[if_pos hN]
      simp only[rpC,wzL,wzC,z1,z2]at h66 hS h39⊢
      unfold m30
      repeat' with_reducible (first
       | refine ZR.h ?_ | refine zI (by decide) ?_
       | ((first | refine zK hE ?_ | refine zL hE mixT ?_);intro K hK;simp[KR.ks,KD.ks,KD.cl,q30_0,q30_1,q30_2,q30_3,q30_4,q30_5,q30_6,q30_7,q30_8,q30_9,q30_10,q30_11,q30_12,q30_13,q30_14,q30_15,q30_16,hT,hC,hTl,hCl,hT2,hC2,hTl2,hCl2,tq,tr,w1,w2,hm,h39,hN,wM,h66];(repeat' (first | refine hK _ _ ?_ | refine And.intro ?_ ?_ | (intro hc;try subst hc)))<;>(try clear hK K))
       | (refine zJ (b:=_) (by with_unfolding_all rfl) (fun hc=>?_) (fun hc=>?_)<;>simp at hc<;>(try subst hc)))
      all_goals first|(simp;done)|(simp at *;omega)|((try simp[hT,hC,hTl,hCl,hT2,hC2,hTl2,hCl2]);refine Imp.auto (by kernel_rfl) ?_ ?_<;>simp[NLe,hT,hC,hTl,hCl,hT2,hC2,hTl2,hCl2])
     ·rw[if_neg hN]
      simp only[rpC,wzL,wzC,z1,z2]at h66 hS h39⊢
      unfold m30
      repeat' with_reducible (first
       | refine ZR.h ?_ | refine zI (by decide) ?_
       | ((first | refine zK hE ?_ | refine zL hE mixT ?_);intro K hK;simp[KR.ks,KD.ks,KD.cl,q30_0,q30_1,q30_2,q30_3,q30_4,q30_5,q30_6,q30_7,q30_8,q30_9,q30_10,q30_11,q30_12,q30_13,q30_14,q30_15,q30_16,hT,hC,hTl,hCl,hT2,hC2,hTl2,hCl2,tq,tr,w1,w2,hm,h39,hN,wM,h66];(repeat' (first | refine hK _ _ ?_ | refine And.intro ?_ ?_ | (intro hc;try subst hc)))<;>(try clear hK K))
       | (refine zJ (b:=_) (by with_unfolding_all rfl) (fun hc=>?_) (fun hc=>?_)<;>simp at hc<;>(try subst hc)))
      all_goals first|(simp;done)|(simp at *;omega)|((try simp[hT,hC,hTl,hCl,hT2,hC2,hTl2,hCl2]);refine Imp.auto (by kernel_rfl) ?_ ?_<;>simp[NLe,hT,hC,hTl,hCl,hT2,hC2,hTl2,hCl2])
    ·have h67:d67 [.agg [.int .i64 R.st.k,.bool R.st.fl,.int .i64 R.st.g,.int .i64 R.st.l,.int .i64 R.st.f],.int .i64 R.ta] []=some (.tup [rcA (endS R.st R.ta).1,.bool (endS R.st R.ta).2]):=rfl
     have hin:=end_in hst0 ta0 ta1
     have h68:=e68 hW hlo (R.pc / 4) R.st.g W.f hin
     have hW2:=note_ok hW (R.pc / 4) R.st.g W.f (endS R.st R.ta).1
     obtain ⟨⟨E,b⟩,hE2⟩:∃ r,endS R.st R.ta=r:=⟨_,rfl⟩
     rw[hE2]at h67 h68 hW2
     simp only at h67 h68 hW2
     by_cases hb:b=true∧R.dn=true
     ·have hco:coreR W R=(R,noteW W (R.pc / 4) R.st.g W.f E):=by unfold coreR;rw[if_neg (by omega),if_neg (by omega),if_neg (by omega),hE2,if_pos hb]
      obtain ⟨hb1,hb2⟩:=hb
      subst hb1
      have np:=note_fr2' W (R.pc / 4) R.st.g W.f E
      simp only[rpStep,hco,nextR,hM]
      obtain ⟨V,hV⟩:∃ r,noteW W (R.pc / 4) R.st.g W.f E=r:=⟨_,rfl⟩
      rw[hV]at h68 hW2 np⊢
      obtain ⟨y1,y2,y3,y4,y5,y6,y7⟩:=np
      rw[← y1,← y2,← y3,← y4,← y5,← y6,← y7]at h39
      obtain ⟨hcf2,hw2,hwl2,hs02,ht02,ht12,hlg2⟩:=okW_ex (hW2)
      have hT2:=w_t0 hw2
      have hC2:=w_cl hw2
      have hTl2:=l_t0 hlg2
      have hCl2:=l_cl hlg2
      by_cases hN:R.pc+1=M
      ·rw[if_pos hN]
       simp only[rpC,wzL,wzC,rcA,hb2]at h67 h68 hS h39⊢
       unfold m30
       repeat' with_reducible (first
        | refine ZR.h ?_ | refine zI (by decide) ?_
        | ((first | refine zK hE ?_ | refine zL hE mixT ?_);intro K hK;simp[KR.ks,KD.ks,KD.cl,q30_0,q30_1,q30_2,q30_3,q30_4,q30_5,q30_6,q30_7,q30_8,q30_9,q30_10,q30_11,q30_12,q30_13,q30_14,q30_15,q30_16,hT,hC,hTl,hCl,hT2,hC2,hTl2,hCl2,tq,tr,w1,w2,hm,h39,hN,wM,h67,h68];(repeat' (first | refine hK _ _ ?_ | refine And.intro ?_ ?_ | (intro hc;try subst hc)))<;>(try clear hK K))
        | (refine zJ (b:=_) (by with_unfolding_all rfl) (fun hc=>?_) (fun hc=>?_)<;>simp at hc<;>(try subst hc)))
       all_goals first|(simp;done)|(simp at *;omega)|((try simp[hT,hC,hTl,hCl,hT2,hC2,hTl2,hCl2]);refine Imp.auto (by kernel_rfl) ?_ ?_<;>simp[NLe,hT,hC,hTl,hCl,hT2,hC2,hTl2,hCl2])
      ·rw[if_neg hN]
       simp only[rpC,wzL,wzC,rcA,hb2]at h67 h68 hS h39⊢
       unfold m30
       repeat' with_reducible (first
        | refine ZR.h ?_ | refine zI (by decide) ?_
        | ((first | refine zK hE ?_ | refine zL hE mixT ?_);intro K hK;simp[KR.ks,KD.ks,KD.cl,q30_0,q30_1,q30_2,q30_3,q30_4,q30_5,q30_6,q30_7,q30_8,q30_9,q30_10,q30_11,q30_12,q30_13,q30_14,q30_15,q30_16,hT,hC,hTl,hCl,hT2,hC2,hTl2,hCl2,tq,tr,w1,w2,hm,h39,hN,wM,h67,h68];(repeat' (first | refine hK _ _ ?_ | refine And.intro ?_ ?_ | (intro hc;try subst hc)))<;>(try clear hK K))
        | (refine zJ (b:=_) (by with_unfolding_all rfl) (fun hc=>?_) (fun hc=>?_)<;>simp at hc<;>(try subst hc)))
       all_goals first|(simp;done)|(simp at *;omega)|((try simp[hT,hC,hTl,hCl,hT2,hC2,hTl2,hCl2]);refine Imp.auto (by kernel_rfl) ?_ ?_<;>simp[NLe,hT,hC,hTl,hCl,hT2,hC2,hTl2,hCl2])
     ·have hco:coreR W R=(R,W):=by unfold coreR;rw[if_neg (by omega),if_neg (by omega),if_neg (by omega),hE2,if_neg hb]
      simp only[rpStep,hco,nextR,hM]
      have hb2:b=false∨(b=true∧R.dn=false):=by
       cases b
       ·exact .inl rfl
       ·exact .inr ⟨rfl,by simpa using hb⟩
      by_cases hN:R.pc+1=M
      ·rw[if_pos hN]
       rcases hb2 with rfl|⟨rfl,hdn⟩
       ·simp only[rpC,wzL,wzC,rcA]at h67 hS h39⊢
        unfold m30
        repeat' with_reducible (first
         | refine ZR.h ?_ | refine zI (by decide) ?_
         | ((first | refine zK hE ?_ | refine zL hE mixT ?_);intro K hK;simp[KR.ks,KD.ks,KD.cl,q30_0,q30_1,q30_2,q30_3,q30_4,q30_5,q30_6,q30_7,q30_8,q30_9,q30_10,q30_11,q30_12,q30_13,q30_14,q30_15,q30_16,hT,hC,hTl,hCl,tq,tr,w1,w2,hm,h39,hN,wM,h67];(repeat' (first | refine hK _ _ ?_ | refine And.intro ?_ ?_ | (intro hc;try subst hc)))<;>(try clear hK K))
         | (refine zJ (b:=_) (by with_unfolding_all rfl) (fun hc=>?_) (fun hc=>?_)<;>simp at hc<;>(try subst hc)))
        all_goals first|(simp;done)|(simp at *;omega)|((try simp[hT,hC,hTl,hCl]);refine Imp.auto (by kernel_rfl) ?_ ?_<;>simp[NLe,hT,hC,hTl,hCl])
       ·simp only[rpC,wzL,wzC,rcA,hdn]at h67 hS h39⊢
        unfold m30
        repeat' with_reducible (first
         | refine ZR.h ?_ | refine zI (by decide) ?_
         | ((first | refine zK hE ?_ | refine zL hE mixT ?_);intro K hK;simp[KR.ks,KD.ks,KD.cl,q30_0,q30_1,q30_2,q30_3,q30_4,q30_5,q30_6,q30_7,q30_8,q30_9,q30_10,q30_11,q30_12,q30_13,q30_14,q30_15,q30_16,hT,hC,hTl,hCl,tq,tr,w1,w2,hm,h39,hN,wM,h67];(repeat' (first | refine hK _ _ ?_ | refine And.intro ?_ ?_ | (intro hc;try subst hc)))<;>(try clear hK K))
         | (refine zJ (b:=_) (by with_unfolding_all rfl) (fun hc=>?_) (fun hc=>?_)<;>simp at hc<;>(try subst hc)))
        all_goals first|(simp;done)|(simp at *;omega)|((try simp[hT,hC,hTl,hCl]);refine Imp.auto (by kernel_rfl) ?_ ?_<;>simp[NLe,hT,hC,hTl,hCl])
      ·rw[if_neg hN]
       rcases hb2 with rfl|⟨rfl,hdn⟩
       ·simp only[rpC,wzL,wzC,rcA]at h67 hS h39⊢
        unfold m30
        repeat' with_reducible (first
         | refine ZR.h ?_ | refine zI (by decide) ?_
         | ((first | refine zK hE ?_ | refine zL hE mixT ?_);intro K hK;simp[KR.ks,KD.ks,KD.cl,q30_0,q30_1,q30_2,q30_3,q30_4,q30_5,q30_6,q30_7,q30_8,q30_9,q30_10,q30_11,q30_12,q30_13,q30_14,q30_15,q30_16,hT,hC,hTl,hCl,tq,tr,w1,w2,hm,h39,hN,wM,h67];(repeat' (first | refine hK _ _ ?_ | refine And.intro ?_ ?_ | (intro hc;try subst hc)))<;>(try clear hK K))
         | (refine zJ (b:=_) (by with_unfolding_all rfl) (fun hc=>?_) (fun hc=>?_)<;>simp at hc<;>(try subst hc)))
        all_goals first|(simp;done)|(simp at *;omega)|((try simp[hT,hC,hTl,hCl]);refine Imp.auto (by kernel_rfl) ?_ ?_<;>simp[NLe,hT,hC,hTl,hCl])
       ·simp only[rpC,wzL,wzC,rcA,hdn]at h67 hS h39⊢
        unfold m30
        repeat' with_reducible (first
         | refine ZR.h ?_ | refine zI (by decide) ?_
         | ((first | refine zK hE ?_ | refine zL hE mixT ?_);intro K hK;simp[KR.ks,KD.ks,KD.cl,q30_0,q30_1,q30_2,q30_3,q30_4,q30_5,q30_6,q30_7,q30_8,q30_9,q30_10,q30_11,q30_12,q30_13,q30_14,q30_15,q30_16,hT,hC,hTl,hCl,tq,tr,w1,w2,hm,h39,hN,wM,h67];(repeat' (first | refine hK _ _ ?_ | refine And.intro ?_ ?_ | (intro hc;try subst hc)))<;>(try clear hK K))
         | (refine zJ (b:=_) (by with_unfolding_all rfl) (fun hc=>?_) (fun hc=>?_)<;>simp at hc<;>(try subst hc)))
        all_goals first|(simp;done)|(simp at *;omega)|((try simp[hT,hC,hTl,hCl]);refine Imp.auto (by kernel_rfl) ?_ ?_<;>simp[NLe,hT,hC,hTl,hCl])
   ·cases h
  ·cases h
 ·cases h
theorem e30 {W:WZ} {R:RpZ} (hR:okR R=true) (hW:okW W=true) (hm:smW W=true) (hp:R.pc<4*(W.a*W.b)) (u v u1 u2 u3 u4:Nat):d30 [.op u (rpC R),.op v (wzL W u1 u2 u3 u4)]=some ⟨.tup [],[.cells 0 (rpC (rpStep W R).1),.cells 0 (wzC (rpStep W R).2)]⟩:=by
 simp only[d30,rpOf_C,wzOf_C]
 rw[if_pos ⟨hR,hW,hm,hp⟩]
end Go.W

