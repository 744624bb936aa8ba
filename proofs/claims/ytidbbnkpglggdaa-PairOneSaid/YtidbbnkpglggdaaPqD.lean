/- Two tries of one world, step by step in any order: all that can come, as a grid. What two tries of one world can come to, for each quantity that is asked of. The resolved code of the functions, by a program. -/
import Derived.Test.YtidbbnkpglggdaaPsP2
import Derived.Test.YtidbbnkpglggdaaPsX
import Derived.Test.YtidbbnkpglggdaaPqB
import Derived.Test.YtidbbnkpglggdaaPqA
namespace Go.W
open Go.Proofs
set_option linter.unusedSimpArgs false
set_option linter.unusedVariables false
set_option maxHeartbeats 8000000
attribute [local irreducible] Wm
attribute [local simp] nmap lkp mkPl prs prsL prT ddL idL CRenL CRen Ren RenL NObj.none CRenLL
def d52 : List AV→Option Ans
 | []=>some ⟨.tup [.agg [.int .i64 2,.int .i64 1,.int .i64 1,.int .i64 1,.int .i64 0,.int .i64 2,.int .i64 1],.os 0 10 [[.int .i64 2,.bool false,.int .i64 1,.int .i64 5,.int .i64 0,.int .i64 0,.int .i64 0,.int .i64 10,.int .i64 1,.int .i64 9],[.int .i64 2,.bool false,.int .i64 1,.int .i64 3,.int .i64 0,.int .i64 0,.int .i64 1,.int .i64 8,.int .i64 1,.int .i64 9]]],[]⟩
 | _=>none
theorem ok52 : NOk [] d52:=by
 intro xs a h
 unfold d52 at h
 (repeat' (split at h))<;>first|(cases h;done)|(injection h with h;subst h;refine ⟨Ends_of ?_,?_⟩<;>simp)
theorem s52 : Sound Try.prog 52 (nestS [] d52 ok52):=by
 refine nest_sound Try.func52 nm52 rc52 rv52 ok52 (fun xs a h=>?_) fun xs a h w0 S hS=>?_
 ·unfold d52 at h
  (repeat' (split at h))<;>first|(cases h;done)|exact Nat.le_of_ble_eq_true rfl
 unfold d52 at h
 split at h
 ·skip
  injection h with h
  subst h
  have hE : SoundAll Try.prog (EL []):=EL_sound (by simp)
  unfold m52
  repeat' with_reducible (first
   | refine ZR.h ?_ | refine zI (by decide) ?_
   | ((first | refine zK hE ?_ | refine zL hE mixT ?_);intro K hK;simp[KR.ks,KD.ks,KD.cl,q52_0,q52_1,q52_2,q52_3,q52_4];(repeat' (first | refine hK _ _ ?_ | refine And.intro ?_ ?_ | (intro hc;try subst hc)))<;>(try clear hK K))
   | (refine zJ (b:=_) (by with_unfolding_all rfl) (fun hc=>?_) (fun hc=>?_)<;>simp at hc<;>(try subst hc)))
  all_goals first|(simp;done)|(simp at *;omega)|((try simp);refine Imp.auto (by kernel_rfl) ?_ ?_<;>simp[NLe])
 ·cases h
theorem e12 {W : WZ} {T : TZ} (hT : okT T = true) (hW : okW W = true) (hs : smW W = true) (u v u1 u2 u3 u4 : Nat) : d12 [.op u (tzC T),.op v (wzL W u1 u2 u3 u4)] = some ⟨.tup [],[.cells 0 (tzC (StepT W T).1),.cells 0 (wzC (StepT W T).2)]⟩:=by
 simp only[d12,tzOf_C,wzOf_C]
 rw[if_pos ⟨hT,hW,hs⟩]
def runT (W : WZ) (T : TZ) : Nat→TZ × WZ
 | 0=>(T,W)
 | k + 1=>StepT (runT W T k).2 (runT W T k).1
theorem run_ok {W : WZ} {T : TZ} (hT : okT T = true) (hW : okW W = true) : ∀ k,okT (runT W T k).1 = true∧okW (runT W T k).2 = true∧(runT W T k).2.s≤W.s + k∧(runT W T k).2.lg.length≤W.lg.length + k
 | 0=>⟨hT,hW,by simp[runT],by simp[runT]⟩
 | k + 1=>by
  obtain ⟨h1,h2,h3,h4⟩:=run_ok hT hW k
  have h5:=StepT_fr (runT W T k).2 (runT W T k).1
  refine ⟨StepT_T h1 h2,StepT_ok h2 _,?_,?_⟩
  ·show (StepT (runT W T k).2 (runT W T k).1).2.s≤_
   omega
  ·show (StepT (runT W T k).2 (runT W T k).1).2.lg.length≤_
   omega
def awW : List (List AV):=match bothZ 2 1 1 1 0 2 1 [[.int .i64 2,.bool false,.int .i64 1,.int .i64 5,.int .i64 0,.int .i64 0,.int .i64 0,.int .i64 10,.int .i64 1,.int .i64 9],[.int .i64 2,.bool false,.int .i64 1,.int .i64 3,.int .i64 0,.int .i64 0,.int .i64 1,.int .i64 8,.int .i64 1,.int .i64 9]] 2 with
 | some (ws,_,_)=>ws
 | none=>[]
def awS : List (List AV):=match bothZ 2 1 1 1 0 2 1 [[.int .i64 2,.bool false,.int .i64 1,.int .i64 5,.int .i64 0,.int .i64 0,.int .i64 0,.int .i64 10,.int .i64 1,.int .i64 9],[.int .i64 2,.bool false,.int .i64 1,.int .i64 3,.int .i64 0,.int .i64 0,.int .i64 1,.int .i64 8,.int .i64 1,.int .i64 9]] 2 with
 | some (_,S,_)=>S
 | none=>[]
def awT : List (List AV):=match bothZ 2 1 1 1 0 2 1 [[.int .i64 2,.bool false,.int .i64 1,.int .i64 5,.int .i64 0,.int .i64 0,.int .i64 0,.int .i64 10,.int .i64 1,.int .i64 9],[.int .i64 2,.bool false,.int .i64 1,.int .i64 3,.int .i64 0,.int .i64 0,.int .i64 1,.int .i64 8,.int .i64 1,.int .i64 9]] 2 with
 | some (_,_,T)=>T
 | none=>[]
theorem aw_both : bothZ 2 1 1 1 0 2 1 [[.int .i64 2,.bool false,.int .i64 1,.int .i64 5,.int .i64 0,.int .i64 0,.int .i64 0,.int .i64 10,.int .i64 1,.int .i64 9],[.int .i64 2,.bool false,.int .i64 1,.int .i64 3,.int .i64 0,.int .i64 0,.int .i64 1,.int .i64 8,.int .i64 1,.int .i64 9]] 2 = some (awW,awS,awT):=by kernel_rfl
def aw0 : WZ:=⟨2,1,1,1,0,2,1,awW,4,0,[]⟩
theorem aw_ok : okW aw0 = true:=by kernel_rfl
theorem aw_T : okT (tz0 3 0 0 1 0) = true:=by kernel_rfl
theorem aw_end : (runT aw0 (tz0 3 0 0 1 0) 14).1.made = true∧(runT aw0 (tz0 3 0 0 1 0) 14).1.pc = 14∧(stateZ (sAt (runT aw0 (tz0 3 0 0 1 0) 14).2 1)).k = 5∧(runT aw0 (tz0 3 0 0 1 0) 14).2.a = 2∧(runT aw0 (tz0 3 0 0 1 0) 14).2.b = 1:=by
 refine ⟨?_,?_,?_,?_,?_⟩<;>kernel_rfl
theorem aw_log : (runT aw0 (tz0 3 0 0 1 0) 14).2.lg = [evC 2 0 1 1 1 3 9 0 0]:=by kernel_rfl
def d10 : List AV→Option Ans
 | []=>some ⟨.bool true,[]⟩
 | _=>none
def I10 (T : TZ) (W : WZ) (k : Nat) : St:=⟨[(3,.ptr (.top 0) 0 0),(6,.ptr (.top 1) 0 0),(24,.int .i64 k)],[(0,.cells 0 (wzC W)),(1,.cells 0 (tzC T))],2⟩
theorem ok10 : NOk [] d10:=by
 intro xs a h
 unfold d10 at h
 (repeat' (split at h))<;>first|(cases h;done)|(injection h with h;subst h;refine ⟨Ends_of ?_,?_⟩<;>simp)
theorem s10 : Sound Try.prog 10 (nestS [] d10 ok10):=by
 refine nest_sound Try.func10 nm10 rc10 rv10 ok10 (fun xs a h=>?_) fun xs a h w0 S hS=>?_
 ·unfold d10 at h
  (repeat' (split at h))<;>first|(cases h;done)|exact Nat.le_of_ble_eq_true rfl
 unfold d10 at h
 split at h
 ·skip
  injection h with h
  subst h
  have hE : SoundAll Try.prog (EL [(52,nestS [] d52 ok52),(9,nestS [(10,false)] d9 ok9),(11,nestS [] d11 ok11),(12,nestS [(35,true),(10,true)] d12 ok12),(14,nestS [(10,true)] d14 ok14),(15,nestS [(35,false)] d15 ok15),(13,nestS [(35,false)] d13 ok13)]):=EL_sound (by simp only[List.mem_cons,List.not_mem_nil,or_false,forall_eq_or_imp,forall_eq];exact ⟨s52,s9,s11,s12,s14,s15,s13⟩)
  obtain ⟨aT,aW,hr⟩ : ∃ a b,(tz0 3 0 0 1 0) = a∧aw0 = b:=⟨_,_,rfl,rfl⟩
  have hb : d9 [.agg [.int .i64 2,.int .i64 1,.int .i64 1,.int .i64 1,.int .i64 0,.int .i64 2,.int .i64 1],.os 0 10 [[.int .i64 2,.bool false,.int .i64 1,.int .i64 5,.int .i64 0,.int .i64 0,.int .i64 0,.int .i64 10,.int .i64 1,.int .i64 9],[.int .i64 2,.bool false,.int .i64 1,.int .i64 3,.int .i64 0,.int .i64 0,.int .i64 1,.int .i64 8,.int .i64 1,.int .i64 9]]] = some ⟨.tup [.op 0 (wzC aw0),.op 0 (qC 2 1 1 1 0 2 1 awS awT),.bool true],[.free]⟩:=by
   simp only[d9]
   rw[if_pos (by kernel_rfl),if_pos (by kernel_rfl)]
   simp only[bothA,List.length_cons,List.length_nil]
   rw[aw_both]
   rfl
  obtain ⟨hcf0,hw0,hwl0,hs00,ht00,ht10,hlg0⟩:=okW_ex aw_ok
  have hT0:=w_t0 hw0
  have hC0:=w_cl hw0
  have hTl0:=l_t0 hlg0
  have hCl0:=l_cl hlg0
  have hqS : t0LL awS = awS:=by kernel_rfl
  have hqS2 : clLL awS = true:=by kernel_rfl
  have hqT : t0LL awT = awT:=by kernel_rfl
  have hqT2 : clLL awT = true:=by kernel_rfl
  have hrun:=run_ok aw_T aw_ok
  have hend:=aw_end
  have hlog:=aw_log
  obtain ⟨A0,hA0⟩ : ∃ z,aw0 = z:=⟨_,rfl⟩
  obtain ⟨qS,hqSe⟩ : ∃ z,awS = z:=⟨_,rfl⟩
  obtain ⟨qT,hqTe⟩ : ∃ z,awT = z:=⟨_,rfl⟩
  have hs4 : A0.s = 4:=by rw[← hA0];rfl
  have hl0 : A0.lg.length = 0:=by rw[← hA0];rfl
  rw[hA0]at hb hT0 hC0 hTl0 hCl0 hrun hend hlog
  rw[hqSe]at hb hqS hqS2
  rw[hqTe]at hb hqT hqT2
  clear hw0 hwl0 hs00 ht00 ht10 hlg0 hcf0 hr aT aW
  have hwzs : ∀ T0,tzC T0 = tzC T0:=fun _=>rfl
  simp only[wzC,qC]at hb
  unfold m10
  repeat' with_reducible (first
   | refine ZR.h ?_ | refine zI (by decide) ?_
   | (refine zK hE ?_;intro K hK;simp[KR.ks,q10_0,q10_1,q10_2,q10_3,q10_4,q10_5,q10_6,q10_7,q10_8,q10_9,q10_10,q10_11,hb,hT0,hC0,hTl0,hCl0,hqS,hqS2,hqT,hqT2,tzC,tz0,zeroS,d52,d11];(repeat' (first | refine hK _ _ ?_ | refine And.intro ?_ ?_ | (intro hc;try subst hc)))<;>(try clear hK K))
   | (refine zJ (b:=_) (by with_unfolding_all rfl) (fun hc=>?_) (fun hc=>?_)<;>simp at hc<;>(try subst hc)))
  all_goals (refine Wm_loop (fun k=>I10 (runT A0 (tz0 3 0 0 1 0) k).1 (runT A0 (tz0 3 0 0 1 0) k).2 k) (fun k=>k≤14) (fun k=>14 - k) 0 (Nat.zero_le _) ?_ ?_)
  ·simp only[I10,runT,wzC,tzC,tz0,zeroS]
   rw[hS]
   refine Imp.auto (by kernel_rfl) ?_ ?_<;>simp[NLe,mkPlX,hT0,hC0,hTl0,hCl0,hqS,hqS2,hqT,hqT2]
  ·intro k hk
   replace hk : k≤14:=hk
   obtain ⟨kT,kW,ks,kl⟩:=hrun k
   have hsm : smW (runT A0 (tz0 3 0 0 1 0) k).2 = true:=decide_eq_true (by omega)
   have hst:=e12 kT kW hsm
   have hsucc : runT A0 (tz0 3 0 0 1 0) (k + 1) = StepT (runT A0 (tz0 3 0 0 1 0) k).2 (runT A0 (tz0 3 0 0 1 0) k).1:=rfl
   have kW2:=(hrun (k + 1)).2.1
   by_cases hk14 : k < 14
   ·obtain ⟨r,hr⟩ : ∃ r,runT A0 (tz0 3 0 0 1 0) k = r:=⟨_,rfl⟩
    obtain ⟨r2,hr2⟩ : ∃ r,runT A0 (tz0 3 0 0 1 0) (k + 1) = r:=⟨_,rfl⟩
    rw[hr]at kT kW hst hsucc
    rw[hr2]at hsucc kW2
    rw[← hsucc]at hst
    rw[hr]
    obtain ⟨hcf,hw,hwl,hs0,ht0,ht1,hlg⟩:=okW_ex kW
    have hT:=w_t0 hw
    have hC:=w_cl hw
    have hTl:=l_t0 hlg
    have hCl:=l_cl hlg
    obtain ⟨hcf2,hw2,hwl2,hs02,ht02,ht12,hlg2⟩:=okW_ex kW2
    have hT2:=w_t0 hw2
    have hC2:=w_cl hw2
    have hTl2:=l_t0 hlg2
    have hCl2:=l_cl hlg2
    have hkI : (k : Int) < 14:=by omega
    have ww : IntKind.wrap .i64 ((k : Int) + 1) = (k : Int) + 1:=wrap_in (by omega) (by omega)
    simp only[I10,tzC,wzC,wzL]at hst ⊢
    repeat' with_reducible (first
     | refine ZR.h ?_ | refine zI (by decide) ?_
     | (refine zK hE ?_;intro K hK;simp[KR.ks,q10_0,q10_1,q10_2,q10_3,q10_4,q10_5,q10_6,q10_7,q10_8,q10_9,q10_10,q10_11,hT,hC,hTl,hCl,hT2,hC2,hTl2,hCl2,hkI,hst,ww,d52,d11];(repeat' (first | refine hK _ _ ?_ | refine And.intro ?_ ?_ | (intro hc;try subst hc)))<;>(try clear hK K))
     | (refine zJ (b:=_) (by with_unfolding_all rfl) (fun hc=>?_) (fun hc=>?_)<;>simp at hc<;>(try subst hc)))
    all_goals refine ⟨k + 1,hk14,Nat.sub_lt_sub_left hk14 (Nat.lt_succ_self k),?_⟩
    all_goals simp only[hr2]
    all_goals rw[hS]
    all_goals (refine Imp.auto (by kernel_rfl) ?_ ?_<;>simp[NLe,mkPlX,hT,hC,hTl,hCl,hT2,hC2,hTl2,hCl2])
   ·have hke : k = 14:=by omega
    subst hke
    clear hst hsucc kW2
    obtain ⟨hm,hpc,hk5,ha2,hb1⟩:=hend
    have hlo:=smW_lo hsm
    have h14:=e14 kW hlo (x:=1) (by omega) (by rw[ha2,hb1];omega)
    obtain ⟨r,hr⟩ : ∃ r,runT A0 (tz0 3 0 0 1 0) 14 = r:=⟨_,rfl⟩
    rw[hr]at kT kW hm hpc hk5 ha2 hb1 h14 hlog
    rw[hr]
    obtain ⟨hcf,hw,hwl,hs0,ht0,ht1,hlg⟩:=okW_ex kW
    have hT:=w_t0 hw
    have hC:=w_cl hw
    have h13:=e13 r.1
    rw[hpc]at h13
    simp only[show decide ((14 : Int)≤14) = true from rfl]at h13
    have h15 : ∀ u,d15 [.op u (tzC r.1)] = some ⟨.bool true,[.free]⟩:=fun u=>by simp only[d15,tzOf_C,hm]
    obtain ⟨st,hst⟩ : ∃ z,stateZ (sAt r.2 1) = z:=⟨_,rfl⟩
    rw[hst]at h14 hk5
    simp only[I10,tzC,wzC,wzL,tickW,stA,hlog,evC]at h14 h13 h15 ⊢
    repeat' with_reducible (first
     | refine ZR.h ?_ | refine zI (by decide) ?_
     | (refine zK hE ?_;intro K hK;simp[KR.ks,q10_0,q10_1,q10_2,q10_3,q10_4,q10_5,q10_6,q10_7,q10_8,q10_9,q10_10,q10_11,hT,hC,h14,h13,h15,hk5,d52,d11];(repeat' (first | refine hK _ _ ?_ | refine And.intro ?_ ?_ | (intro hc;try subst hc)))<;>(try clear hK K))
     | (refine zJ (b:=_) (by with_unfolding_all rfl) (fun hc=>?_) (fun hc=>?_)<;>simp at hc<;>(try subst hc)))
    all_goals first|(simp;done)|(simp at *;omega)|((try simp[hT,hC]);refine Imp.auto (by kernel_rfl) ?_ ?_<;>simp[NLe,hT,hC])
 ·cases h
end Go.W
namespace Go.W
open Go.Proofs
set_option linter.unusedSimpArgs false
set_option linter.unusedVariables false
set_option maxHeartbeats 8000000
set_option maxRecDepth 100000
structure S2 where
 a : TZ
 b : TZ
 w : WZ
def stA2 (s : S2) : S2:=⟨(StepT s.w s.a).1,s.b,(StepT s.w s.a).2⟩
def stB2 (s : S2) : S2:=⟨s.a,(StepT s.w s.b).1,(StepT s.w s.b).2⟩
def eqIK : IntKind→IntKind→Bool
 | .i64,.i64=>true
 | .u64,.u64=>true
 | _,_=>false
theorem eqIK_ok {a b : IntKind} (h : eqIK a b = true) : a = b:=by
 cases a<;>cases b<;>first|rfl|(simp[eqIK]at h)
def eqAV : AV→AV→Bool
 | .int k a,.int l b=>eqIK k l && decide (a = b)
 | .bool a,.bool b=>a == b
 | _,_=>false
theorem eqAV_ok {a b : AV} (h : eqAV a b = true) : a = b:=by
 unfold eqAV at h
 split at h
 ·simp only[Bool.and_eq_true,decide_eq_true_eq]at h
  rw[eqIK_ok h.1,h.2]
 ·rw[eq_of_beq h]
 ·cases h
def eqVL : List AV→List AV→Bool
 | [],[]=>true
 | a :: r,b :: q=>eqAV a b && eqVL r q
 | _,_=>false
theorem eqVL_ok : ∀ {a b : List AV},eqVL a b = true→a = b
 | [],[],_=>rfl
 | a :: r,b :: q,h=>by
  simp only[eqVL,Bool.and_eq_true]at h
  rw[eqAV_ok h.1,eqVL_ok h.2]
 | [],_ :: _,h=>by cases h
 | _ :: _,[],h=>by cases h
def eqVLL : List (List AV)→List (List AV)→Bool
 | [],[]=>true
 | a :: r,b :: q=>eqVL a b && eqVLL r q
 | _,_=>false
theorem eqVLL_ok : ∀ {a b : List (List AV)},eqVLL a b = true→a = b
 | [],[],_=>rfl
 | a :: r,b :: q,h=>by
  simp only[eqVLL,Bool.and_eq_true]at h
  rw[eqVL_ok h.1,eqVLL_ok h.2]
 | [],_ :: _,h=>by cases h
 | _ :: _,[],h=>by cases h
def wzI (W : WZ) : List AV:=[.int .i64 W.s,.int .i64 W.a,.int .i64 W.b,.int .i64 W.c,.int .i64 W.d,.int .i64 W.e,.int .i64 W.f,.int .i64 W.g,.int .i64 W.t]
def eqS2 (x y : S2) : Bool:=eqVL (wzI x.w) (wzI y.w) && eqVL (tzC x.a) (tzC y.a) && eqVL (tzC x.b) (tzC y.b) && eqVLL x.w.ws y.w.ws && eqVLL x.w.lg y.w.lg
theorem eqS2_ok {x y : S2} (h : eqS2 x y = true) : x = y:=by
 simp only[eqS2,Bool.and_eq_true]at h
 obtain ⟨⟨⟨⟨h1,h2⟩,h3⟩,h4⟩,h5⟩:=h
 have e1:=eqVL_ok h1
 have e2 : x.a = y.a:=by
  have:=congrArg tzOf (eqVL_ok h2)
  rw[tzOf_C,tzOf_C]at this
  exact Option.some.inj this
 have e3 : x.b = y.b:=by
  have:=congrArg tzOf (eqVL_ok h3)
  rw[tzOf_C,tzOf_C]at this
  exact Option.some.inj this
 have e4:=eqVLL_ok h4
 have e5:=eqVLL_ok h5
 obtain ⟨xa,xb,⟨a,b,c,d,e,f,g,ws,s,t,lg⟩⟩:=x
 obtain ⟨ya,yb,⟨a',b',c',d',e',f',g',ws',s',t',lg'⟩⟩:=y
 simp only[wzI,List.cons.injEq,AV.int.injEq,true_and,and_true]at e1
 obtain ⟨rfl,rfl,rfl,rfl,rfl,rfl,rfl,rfl,rfl⟩:=e1
 simp only at e2 e3 e4 e5
 subst e2;subst e3;subst e4;subst e5
 rfl
def insS (s : S2) (L : List S2) : List S2:=if L.any (eqS2 s) = true then L else s :: L
def insL : List S2→List S2
 | []=>[]
 | s :: r=>insS s (insL r)
theorem insS_mem {s x : S2} {L : List S2} (h : x = s∨x ∈ L) : x ∈ insS s L:=by
 unfold insS
 split
 ·rename_i hc
  rcases h with rfl|h
  ·obtain ⟨y,hy,he⟩:=List.any_eq_true.1 hc
   rw[eqS2_ok he];exact hy
  ·exact h
 ·rcases h with rfl|h
  ·exact List.mem_cons_self ..
  ·exact List.mem_cons_of_mem _ h
theorem insL_mem {x : S2} : ∀ (L : List S2),x ∈ L→x ∈ insL L
 | [],h=>h
 | s :: r,h=>by
  show x ∈ insS s (insL r)
  rcases List.mem_cons.1 h with h|h
  ·exact insS_mem (.inl h)
  ·exact insS_mem (.inr (insL_mem r h))
def cellF (u l : List S2) : List S2:=insL (u.map stA2 ++ l.map stB2)
def rowF : List S2→List (List S2)→List (List S2)
 | _,[]=>[]
 | l,u :: r=>cellF u l :: rowF (cellF u l) r
def gridF (s : S2) : Nat→List (List S2)
 | 0=>[s] :: rowF [s] (List.replicate 14 [])
 | i + 1=>rowF [] (gridF s i)
theorem rowF_len : ∀ (U : List (List S2)) (l : List S2),(rowF l U).length = U.length
 | [],_=>rfl
 | u :: r,l=>by simp only[rowF,List.length_cons,rowF_len r]
theorem grid_len (s : S2) : ∀ i,(gridF s i).length = 15
 | 0=>by simp only[gridF,List.length_cons,rowF_len,List.length_replicate]
 | i + 1=>by simp only[gridF,rowF_len,grid_len s i]
theorem row_up : ∀ (U : List (List S2)) (l : List S2) (j : Nat) (u : List S2),U[j]? = some u→∃ l',(rowF l U)[j]? = some (cellF u l')
 | [],_,_,_,h=>by simp at h
 | v :: r,l,0,u,h=>by
  simp only[List.getElem?_cons_zero,Option.some.injEq]at h
  subst h
  exact ⟨l,rfl⟩
 | v :: r,l,j + 1,u,h=>by
  simp only[List.getElem?_cons_succ]at h
  simpa [rowF] using row_up r (cellF v l) j u h
theorem row_left : ∀ (U : List (List S2)) (l : List S2) (j : Nat) (c u : List S2),(rowF l U)[j]? = some c→U[j + 1]? = some u→(rowF l U)[j + 1]? = some (cellF u c)
 | [],_,_,_,_,h,_=>by simp[rowF]at h
 | v :: r,l,0,c,u,h,h2=>by
  simp only[rowF,List.getElem?_cons_zero,Option.some.injEq]at h
  subst h
  cases r with
  | nil=>simp at h2
  | cons w r =>
   simp only[List.getElem?_cons_succ,List.getElem?_cons_zero,Option.some.injEq]at h2
   subst h2
   simp[rowF]
 | v :: r,l,j + 1,c,u,h,h2=>by
  simp only[rowF,List.getElem?_cons_succ]at h h2 ⊢
  exact row_left r _ j c u h h2
def InG (s0 : S2) (i j : Nat) (s : S2) : Prop:=∃ c,(gridF s0 i)[j]? = some c∧s ∈ c
theorem InG_0 (s : S2) : InG s 0 0 s:=⟨[s],rfl,List.mem_singleton.2 rfl⟩
theorem InG_A {s0 : S2} {i j : Nat} {s : S2} (h : InG s0 i j s) : InG s0 (i + 1) j (stA2 s):=by
 obtain ⟨c,h1,h2⟩:=h
 obtain ⟨l,hl⟩:=row_up (gridF s0 i) [] j c h1
 exact ⟨_,hl,insL_mem _ (List.mem_append.2 (.inl (List.mem_map.2 ⟨s,h2,rfl⟩)))⟩
theorem InG_B {s0 : S2} {i j : Nat} {s : S2} (hj : j < 14) (h : InG s0 i j s) : InG s0 i (j + 1) (stB2 s):=by
 obtain ⟨c,h1,h2⟩:=h
 have hm : ∀ u,stB2 s ∈ cellF u c:=fun u=>insL_mem _ (List.mem_append.2 (.inr (List.mem_map.2 ⟨s,h2,rfl⟩)))
 cases i with
 | zero =>
  cases j with
  | zero =>
   simp only[gridF,List.getElem?_cons_zero,Option.some.injEq]at h1
   subst h1
   exact ⟨_,rfl,hm []⟩
  | succ j =>
   simp only[gridF,List.getElem?_cons_succ]at h1
   refine ⟨cellF [] c,?_,hm []⟩
   simp only[gridF,List.getElem?_cons_succ]
   exact row_left _ _ _ _ _ h1 (by rw[List.getElem?_replicate];simp;omega)
 | succ i =>
  obtain ⟨u,hu⟩ : ∃ u,(gridF s0 i)[j + 1]? = some u:=by
   cases hq : (gridF s0 i)[j + 1]? with
   | none=>rw[List.getElem?_eq_none_iff,grid_len]at hq;omega
   | some u=>exact ⟨u,rfl⟩
  exact ⟨_,row_left _ _ _ _ _ h1 hu,hm u⟩
def o1L (n : Int) : List (List AV):=[[.int .i64 2,.bool false,.int .i64 1,.int .i64 n,.int .i64 0,.int .i64 0,.int .i64 0,.int .i64 9,.int .i64 1,.int .i64 9],[.int .i64 2,.bool false,.int .i64 1,.int .i64 n,.int .i64 0,.int .i64 0,.int .i64 0,.int .i64 9,.int .i64 1,.int .i64 9],[.int .i64 2,.bool false,.int .i64 1,.int .i64 n,.int .i64 0,.int .i64 0,.int .i64 1,.int .i64 9,.int .i64 1,.int .i64 9]]
def o1W (n : Int) : List (List AV):=match bothZ 3 1 1 1 0 4 1 (o1L n) 3 with
 | some (ws,_,_)=>ws
 | none=>[]
def o1S (n : Int) : List (List AV):=match bothZ 3 1 1 1 0 4 1 (o1L n) 3 with
 | some (_,S,_)=>S
 | none=>[]
def o1T (n : Int) : List (List AV):=match bothZ 3 1 1 1 0 4 1 (o1L n) 3 with
 | some (_,_,T)=>T
 | none=>[]
def o1w (n : Int) : WZ:=⟨3,1,1,1,0,4,1,o1W n,6,0,[]⟩
def o1i (n : Int) : S2:=⟨tz0 3 0 0 2 0,tz0 3 1 0 2 0,o1w n⟩
def o1P (n : Int) (s : S2) : Bool:=(s.a.made != s.b.made) && decide ((stateZ (sAt s.w 2)).k = 5) && decide ((stateZ (sAt s.w 0)).l + (stateZ (sAt s.w 1)).l = n) && !heldZ (stateZ (sAt s.w 0)).k && !heldZ (stateZ (sAt s.w 1)).k && decide (s.w.a = 3) && decide (s.w.b = 1)
def o1C (n : Int) : Bool:=match (gridF (o1i n) 14)[14]? with
 | some c=>c.all (o1P n)
 | none=>false
end Go.W
namespace Go.W
open Go.Proofs
set_option linter.unusedSimpArgs false
set_option linter.unusedVariables false
set_option maxHeartbeats 8000000
set_option maxRecDepth 100000
theorem o1_1 : o1C 1 = true:=by kernel_rfl
theorem o1_2 : o1C 2 = true:=by kernel_rfl
theorem o1_3 : o1C 3 = true:=by kernel_rfl
theorem o1_4 : o1C 4 = true:=by kernel_rfl
theorem o1_5 : o1C 5 = true:=by kernel_rfl
theorem o1_6 : o1C 6 = true:=by kernel_rfl
theorem o1_7 : o1C 7 = true:=by kernel_rfl
theorem o1_8 : o1C 8 = true:=by kernel_rfl
theorem o1_9 : o1C 9 = true:=by kernel_rfl
def o1F (n : Int) : Prop:=bothZ 3 1 1 1 0 4 1 (o1L n) 3 = some (o1W n,o1S n,o1T n)∧okW (o1w n) = true∧o1C n = true∧t0LL (o1S n) = o1S n∧clLL (o1S n) = true∧t0LL (o1T n) = o1T n∧clLL (o1T n) = true∧(o1L n).all ordB = true
theorem o1_all (n : Int) (h1 : 1≤n) (h2 : n≤9) : o1F n:=by
 have h : n = 1∨n = 2∨n = 3∨n = 4∨n = 5∨n = 6∨n = 7∨n = 8∨n = 9:=by omega
 rcases h with rfl|rfl|rfl|rfl|rfl|rfl|rfl|rfl|rfl
 ·exact ⟨by kernel_rfl,by kernel_rfl,o1_1,by kernel_rfl,by kernel_rfl,by kernel_rfl,by kernel_rfl,by kernel_rfl⟩
 ·exact ⟨by kernel_rfl,by kernel_rfl,o1_2,by kernel_rfl,by kernel_rfl,by kernel_rfl,by kernel_rfl,by kernel_rfl⟩
 ·exact ⟨by kernel_rfl,by kernel_rfl,o1_3,by kernel_rfl,by kernel_rfl,by kernel_rfl,by kernel_rfl,by kernel_rfl⟩
 ·exact ⟨by kernel_rfl,by kernel_rfl,o1_4,by kernel_rfl,by kernel_rfl,by kernel_rfl,by kernel_rfl,by kernel_rfl⟩
 ·exact ⟨by kernel_rfl,by kernel_rfl,o1_5,by kernel_rfl,by kernel_rfl,by kernel_rfl,by kernel_rfl,by kernel_rfl⟩
 ·exact ⟨by kernel_rfl,by kernel_rfl,o1_6,by kernel_rfl,by kernel_rfl,by kernel_rfl,by kernel_rfl,by kernel_rfl⟩
 ·exact ⟨by kernel_rfl,by kernel_rfl,o1_7,by kernel_rfl,by kernel_rfl,by kernel_rfl,by kernel_rfl,by kernel_rfl⟩
 ·exact ⟨by kernel_rfl,by kernel_rfl,o1_8,by kernel_rfl,by kernel_rfl,by kernel_rfl,by kernel_rfl,by kernel_rfl⟩
 ·exact ⟨by kernel_rfl,by kernel_rfl,o1_9,by kernel_rfl,by kernel_rfl,by kernel_rfl,by kernel_rfl,by kernel_rfl⟩
end Go.W
namespace Go.W
open Go.Proofs
set_option maxRecDepth 100000
def q3_0 : List MO:=[Ma 4 (.mv (.c (.bool false)))]
@[simp] theorem l3_0 : q3_0.length = 1:=rfl
instance : KR Try.f3.ntmps q3_0:=⟨[0,1],by kernel_rfl⟩
def q3_1 : List MO:=[Ma 23 (.build [(.int .i64 0),(.int .i64 0),(.int .i64 0),(.int .i64 0),(.int .i64 0),(.int .i64 0),(.int .i64 0)] [(0,(1,(.c (.int .i64 3)))),(1,(1,(.c (.int .i64 1)))),(2,(1,(.c (.int .i64 1)))),(3,(1,(.c (.int .i64 1)))),(5,(1,(.c (.int .i64 4)))),(6,(1,(.c (.int .i64 1))))]),Ma 5 (.alloc [(.int .i64 0),(.int .i64 0),(.int .i64 0),(.int .i64 0),(.int .i64 0),(.int .i64 0),(.int .i64 0)]),Mb (.store 7 (.t 5) (.t 23))]
@[simp] theorem l3_1 : q3_1.length = 3:=rfl
instance : KR Try.f3.ntmps q3_1:=⟨[0,1,5],by kernel_rfl⟩
def q3_2 : List MO:=[Ma 24 (.mv (.t 1)),Ma 25 (.bin .rem (.t 24) (.c (.int .u8 9))),Ma 26 (.conv .i64 (.t 25)),Ma 27 (.bin .add (.c (.int .i64 1)) (.t 26)),Ma 6 (.mv (.t 27))]
@[simp] theorem l3_2 : q3_2.length = 5:=rfl
instance : KR Try.f3.ntmps q3_2:=⟨[0,5,6],by kernel_rfl⟩
def q3_3 : List MO:=[Ma 7 (.mv (.c .nsl))]
@[simp] theorem l3_3 : q3_3.length = 1:=rfl
instance : KR Try.f3.ntmps q3_3:=⟨[0,5,6,7],by kernel_rfl⟩
def q3_4 : List MO:=[Ma 28 (.mv (.c (.int .i64 0)))]
@[simp] theorem l3_4 : q3_4.length = 1:=rfl
instance : KR Try.f3.ntmps q3_4:=⟨[0,5,6,7,28],by kernel_rfl⟩
def q3_5 : List MO:=[Ma 29 (.bin .lss (.t 28) (.c (.int .i64 3)))]
@[simp] theorem l3_5 : q3_5.length = 1:=rfl
instance : KR Try.f3.ntmps q3_5:=⟨[0,5,6,7,28,29],by kernel_rfl⟩
def q3_6 : List MO:=[Ma 30 (.mv (.t 28)),Ma 8 (.mv (.t 30))]
@[simp] theorem l3_6 : q3_6.length = 2:=rfl
instance : KR Try.f3.ntmps q3_6:=⟨[0,5,6,7,8,28],by kernel_rfl⟩
def q3_7 : List MO:=[Ma 9 (.mv (.c (.int .i64 0)))]
@[simp] theorem l3_7 : q3_7.length = 1:=rfl
instance : KR Try.f3.ntmps q3_7:=⟨[0,5,6,7,8,9,28],by kernel_rfl⟩
def q3_8 : List MO:=[Ma 31 (.mv (.t 8)),Ma 32 (.bin .eql (.t 31) (.c (.int .i64 2)))]
@[simp] theorem l3_8 : q3_8.length = 2:=rfl
instance : KR Try.f3.ntmps q3_8:=⟨[0,5,6,7,9,28,32],by kernel_rfl⟩
def q3_9 : List MO:=[Ma 9 (.mv (.c (.int .i64 1)))]
@[simp] theorem l3_9 : q3_9.length = 1:=rfl
instance : KR Try.f3.ntmps q3_9:=⟨[0,5,6,7,9,28],by kernel_rfl⟩
def q3_10 : List MO:=[Ma 33 (.mv (.t 7)),Ma 34 (.mv (.t 6)),Ma 35 (.build [(.int .i64 0),(.bool false),(.int .i64 0),(.int .i64 0),(.int .i64 0)] [(0,(1,(.c (.int .i64 2)))),(2,(1,(.c (.int .i64 1)))),(3,(1,(.t 34)))]),Ma 36 (.mv (.t 9)),Ma 37 (.build [(.int .i64 0),(.int .i64 0),(.int .i64 0),(.int .i64 0),(.int .i64 0)] [(1,(1,(.t 36))),(2,(1,(.c (.int .i64 9)))),(3,(1,(.c (.int .i64 1)))),(4,(1,(.c (.int .i64 9))))]),Ma 38 (.build [(.int .i64 0),(.bool false),(.int .i64 0),(.int .i64 0),(.int .i64 0),(.int .i64 0),(.int .i64 0),(.int .i64 0),(.int .i64 0),(.int .i64 0)] [(0,(5,(.t 35))),(5,(5,(.t 37)))]),Ma 39 (.bsl 10 1 [(.int .i64 0),(.bool false),(.int .i64 0),(.int .i64 0),(.int .i64 0),(.int .i64 0),(.int .i64 0),(.int .i64 0),(.int .i64 0),(.int .i64 0)] [(0,(10,(.t 38)))]),Ma 40 (.app 10 80 (.t 33) (.t 39)),Ma 7 (.mv (.t 40))]
@[simp] theorem l3_10 : q3_10.length = 9:=rfl
instance : KR Try.f3.ntmps q3_10:=⟨[0,5,6,7,28],by kernel_rfl⟩
def q3_11 : List MO:=[Ma 41 (.bin .add (.t 28) (.c (.int .i64 1))),Ma 28 (.mv (.t 41))]
@[simp] theorem l3_11 : q3_11.length = 2:=rfl
instance : KR Try.f3.ntmps q3_11:=⟨[0,5,6,7,28],by kernel_rfl⟩
def q3_12 : List MO:=[Ma 43 (.load true 7 (.t 5)),Ma 44 (.mv (.t 7)),Ma 45 (.call (.c (.fn 9 [])) [(.t 43),(.t 44)]),Ma 42 (.mv (.t 45)),Ma 46 (.ext (.t 42) 0),Ma 47 (.ext (.t 42) 1),Ma 48 (.ext (.t 42) 2),Ma 10 (.mv (.t 46)),Ma 11 (.mv (.t 47)),Ma 12 (.mv (.t 48))]
@[simp] theorem l3_12 : q3_12.length = 10:=rfl
instance : KR Try.f3.ntmps q3_12:=⟨[0,6,10,12],by kernel_rfl⟩
def q3_13 : List MO:=[Ma 49 (.mv (.t 12)),Ma 50 (.un .not (.t 49)),Ma 51 (.mv (.t 50)),Mg 52 (.mv (.t 0)) 51 false,Mg 53 (.len (.t 52)) 51 false,Mg 54 (.bin .gtr (.t 53) (.c (.int .i64 100))) 51 false,Ma 55 (.pick (.t 51) (.c (.bool true)) (.t 54))]
@[simp] theorem l3_13 : q3_13.length = 7:=rfl
instance : KR Try.f3.ntmps q3_13:=⟨[0,6,10,12,55],by kernel_rfl⟩
def q3_14 : List MO:=[Ma 56 (.mv (.t 12)),Ma 57 (.mv (.t 56)),Mg 58 (.call (.c (.fn 10 [])) []) 57 true,Ma 59 (.pick (.t 57) (.t 58) (.c (.bool false))),Ma 4 (.mv (.t 59))]
@[simp] theorem l3_14 : q3_14.length = 5:=rfl
instance : KR Try.f3.ntmps q3_14:=⟨[4],by kernel_rfl⟩
def q3_15 : List MO:=[Ma 60 (.build [(.int .i64 0),(.int .i64 0),(.int .i64 0),(.int .i64 0),(.int .i64 0)] [(0,(1,(.c (.int .i64 3)))),(1,(1,(.c (.int .i64 0)))),(3,(1,(.c (.int .i64 2))))]),Ma 61 (.call (.c (.fn 11 [])) [(.t 60)]),Ma 62 (.build [(.int .i64 0),(.int .i64 0),(.int .i64 0),(.int .i64 0),(.int .i64 0)] [(0,(1,(.c (.int .i64 3)))),(1,(1,(.c (.int .i64 1)))),(3,(1,(.c (.int .i64 2))))]),Ma 63 (.call (.c (.fn 11 [])) [(.t 62)]),Ma 13 (.mv (.t 61)),Ma 14 (.mv (.t 63))]
@[simp] theorem l3_15 : q3_15.length = 6:=rfl
instance : KR Try.f3.ntmps q3_15:=⟨[0,6,10,13,14],by kernel_rfl⟩
def q3_16 : List MO:=[Ma 64 (.mv (.t 0)),Ma 65 (.len (.t 64)),Ma 66 (.mv (.c (.int .i64 0)))]
@[simp] theorem l3_16 : q3_16.length = 3:=rfl
instance : KR Try.f3.ntmps q3_16:=⟨[6,10,13,14,64,65,66],by kernel_rfl⟩
def q3_17 : List MO:=[Ma 67 (.bin .lss (.t 66) (.t 65))]
@[simp] theorem l3_17 : q3_17.length = 1:=rfl
instance : KR Try.f3.ntmps q3_17:=⟨[6,10,13,14,64,65,66,67],by kernel_rfl⟩
def q3_18 : List MO:=[Ma 68 (.iaddr 1 (.t 64) (.t 66)),Ma 69 (.load false 1 (.t 68)),Ma 16 (.mv (.t 69))]
@[simp] theorem l3_18 : q3_18.length = 3:=rfl
instance : KR Try.f3.ntmps q3_18:=⟨[6,10,13,14,16,64,65,66],by kernel_rfl⟩
def q3_19 : List MO:=[Ma 70 (.mv (.t 16))]
@[simp] theorem l3_19 : q3_19.length = 1:=rfl
instance : KR Try.f3.ntmps q3_19:=⟨[6,10,13,14,64,65,66,70],by kernel_rfl⟩
def q3_20 : List MO:=[Ma 71 (.mv (.t 13)),Ma 72 (.mv (.t 10)),Ma 73 (.call (.c (.fn 12 [])) [(.t 71),(.t 72)])]
@[simp] theorem l3_20 : q3_20.length = 3:=rfl
instance : KR Try.f3.ntmps q3_20:=⟨[6,10,13,14,64,65,66],by kernel_rfl⟩
def q3_21 : List MO:=[Ma 74 (.mv (.t 14)),Ma 75 (.mv (.t 10)),Ma 76 (.call (.c (.fn 12 [])) [(.t 74),(.t 75)])]
@[simp] theorem l3_21 : q3_21.length = 3:=rfl
instance : KR Try.f3.ntmps q3_21:=⟨[6,10,13,14,64,65,66],by kernel_rfl⟩
def q3_22 : List MO:=[Ma 77 (.bin .add (.t 66) (.c (.int .i64 1))),Ma 66 (.mv (.t 77))]
@[simp] theorem l3_22 : q3_22.length = 2:=rfl
instance : KR Try.f3.ntmps q3_22:=⟨[6,10,13,14,64,65,66],by kernel_rfl⟩
def q3_23 : List MO:=[Ma 78 (.mv (.t 13)),Ma 79 (.call (.c (.fn 13 [])) [(.t 78)]),Ma 80 (.un .not (.t 79))]
@[simp] theorem l3_23 : q3_23.length = 3:=rfl
instance : KR Try.f3.ntmps q3_23:=⟨[6,10,13,14,80],by kernel_rfl⟩
def q3_24 : List MO:=[Ma 81 (.mv (.t 13)),Ma 82 (.mv (.t 10)),Ma 83 (.call (.c (.fn 12 [])) [(.t 81),(.t 82)])]
@[simp] theorem l3_24 : q3_24.length = 3:=rfl
instance : KR Try.f3.ntmps q3_24:=⟨[6,10,13,14],by kernel_rfl⟩
def q3_25 : List MO:=[Ma 84 (.mv (.t 14)),Ma 85 (.call (.c (.fn 13 [])) [(.t 84)]),Ma 86 (.un .not (.t 85))]
@[simp] theorem l3_25 : q3_25.length = 3:=rfl
instance : KR Try.f3.ntmps q3_25:=⟨[6,10,13,14,86],by kernel_rfl⟩
def q3_26 : List MO:=[Ma 87 (.mv (.t 14)),Ma 88 (.mv (.t 10)),Ma 89 (.call (.c (.fn 12 [])) [(.t 87),(.t 88)])]
@[simp] theorem l3_26 : q3_26.length = 3:=rfl
instance : KR Try.f3.ntmps q3_26:=⟨[6,10,13,14],by kernel_rfl⟩
def q3_27 : List MO:=[Ma 91 (.mv (.t 10)),Ma 92 (.call (.c (.fn 14 [])) [(.t 91),(.c (.int .i64 2))]),Ma 90 (.mv (.t 92)),Ma 93 (.ext (.t 90) 0),Ma 94 (.ext (.t 90) 1),Ma 18 (.alloc [(.int .i64 0),(.bool false),(.int .i64 0),(.int .i64 0),(.int .i64 0)]),Ma 17 (.mv (.t 93)),Mb (.store 5 (.t 18) (.t 94))]
@[simp] theorem l3_27 : q3_27.length = 8:=rfl
instance : KR Try.f3.ntmps q3_27:=⟨[6,10,13,14,18],by kernel_rfl⟩
def q3_28 : List MO:=[Ma 96 (.mv (.t 10)),Ma 97 (.call (.c (.fn 14 [])) [(.t 96),(.c (.int .i64 0))]),Ma 95 (.mv (.t 97)),Ma 98 (.ext (.t 95) 0),Ma 99 (.ext (.t 95) 1),Ma 20 (.alloc [(.int .i64 0),(.bool false),(.int .i64 0),(.int .i64 0),(.int .i64 0)]),Ma 19 (.mv (.t 98)),Mb (.store 5 (.t 20) (.t 99))]
@[simp] theorem l3_28 : q3_28.length = 8:=rfl
instance : KR Try.f3.ntmps q3_28:=⟨[6,10,13,14,18,20],by kernel_rfl⟩
def q3_29 : List MO:=[Ma 101 (.mv (.t 10)),Ma 102 (.call (.c (.fn 14 [])) [(.t 101),(.c (.int .i64 1))]),Ma 100 (.mv (.t 102)),Ma 103 (.ext (.t 100) 0),Ma 104 (.ext (.t 100) 1),Ma 22 (.alloc [(.int .i64 0),(.bool false),(.int .i64 0),(.int .i64 0),(.int .i64 0)]),Ma 21 (.mv (.t 103)),Mb (.store 5 (.t 22) (.t 104))]
@[simp] theorem l3_29 : q3_29.length = 8:=rfl
instance : KR Try.f3.ntmps q3_29:=⟨[6,13,14,18,20,22],by kernel_rfl⟩
def q3_30 : List MO:=[Ma 105 (.call (.c (.fn 10 [])) []),Ma 106 (.mv (.t 105)),Mg 107 (.mv (.t 13)) 106 true,Mg 108 (.call (.c (.fn 15 [])) [(.t 107)]) 106 true,Mg 109 (.mv (.t 14)) 106 true,Mg 110 (.call (.c (.fn 15 [])) [(.t 109)]) 106 true,Mg 111 (.eq true .bool (.t 108) (.t 110)) 106 true,Ma 112 (.pick (.t 106) (.t 111) (.c (.bool false))),Ma 113 (.mv (.t 112)),Mg 114 (.faddr 0 (.t 18)) 113 true,Mg 115 (.load false 1 (.t 114)) 113 true,Mg 116 (.bin .eql (.t 115) (.c (.int .i64 5))) 113 true,Ma 117 (.pick (.t 113) (.t 116) (.c (.bool false))),Ma 118 (.mv (.t 117)),Mg 119 (.faddr 3 (.t 20)) 118 true,Mg 120 (.load false 1 (.t 119)) 118 true,Mg 121 (.faddr 3 (.t 22)) 118 true,Mg 122 (.load false 1 (.t 121)) 118 true,Mg 123 (.bin .add (.t 120) (.t 122)) 118 true,Mg 124 (.mv (.t 6)) 118 true,Mg 125 (.bin .eql (.t 123) (.t 124)) 118 true,Ma 126 (.pick (.t 118) (.t 125) (.c (.bool false))),Ma 127 (.mv (.t 126)),Mg 128 (.load true 5 (.t 20)) 127 true,Mg 129 (.call (.c (.fn 16 [])) [(.t 128)]) 127 true,Mg 130 (.un .not (.t 129)) 127 true,Ma 131 (.pick (.t 127) (.t 130) (.c (.bool false))),Ma 132 (.mv (.t 131)),Mg 133 (.load true 5 (.t 22)) 132 true,Mg 134 (.call (.c (.fn 16 [])) [(.t 133)]) 132 true,Mg 135 (.un .not (.t 134)) 132 true,Ma 136 (.pick (.t 132) (.t 135) (.c (.bool false))),Ma 4 (.mv (.t 136))]
@[simp] theorem l3_30 : q3_30.length = 33:=rfl
instance : KR Try.f3.ntmps q3_30:=⟨[4],by kernel_rfl⟩
def m3 : MCode:=.seq (.reg q3_0) (.seq (.reg q3_1) (.seq (.reg q3_2) (.seq (.reg q3_3) (.seq (.seq (.reg q3_4) (.block 0 (.loop (.seq (.reg q3_5) (.seq (.cond (.t 29) .skip (.exit 0)) (.seq (.block 1 (.seq (.reg q3_6) (.seq (.reg q3_7) (.seq (.seq (.reg q3_8) (.cond (.t 32) (.reg q3_9) .skip)) (.reg q3_10))))) (.reg q3_11))))))) (.seq (.reg q3_12) (.seq (.seq (.reg q3_13) (.cond (.t 55) (.seq (.reg q3_14) .ret) .skip)) (.seq (.reg q3_15) (.seq (.seq (.reg q3_16) (.block 2 (.loop (.seq (.reg q3_17) (.seq (.cond (.t 67) .skip (.exit 2)) (.seq (.block 3 (.seq (.reg q3_18) (.seq (.reg q3_19) (.cond (.t 70) (.reg q3_20) (.reg q3_21))))) (.reg q3_22))))))) (.seq (.block 4 (.loop (.seq (.seq (.reg q3_23) (.cond (.t 80) .skip (.exit 4))) (.block 5 (.reg q3_24))))) (.seq (.block 6 (.loop (.seq (.seq (.reg q3_25) (.cond (.t 86) .skip (.exit 6))) (.block 7 (.reg q3_26))))) (.seq (.reg q3_27) (.seq (.reg q3_28) (.seq (.reg q3_29) (.seq (.reg q3_30) .ret))))))))))))))
theorem rc3 : rcOf Try.prog Try.f3 = some m3:=by kernel_rfl
theorem rv3 : rRVs Try.prog Try.f3.results.toList = some [(.t 4)]:=by kernel_rfl
theorem nm3 : (Try.f3.name == "runtime.NumGoroutine") = false:=by kernel_rfl
end Go.W
