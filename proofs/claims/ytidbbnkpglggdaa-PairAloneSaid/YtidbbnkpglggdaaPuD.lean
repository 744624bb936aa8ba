/- A try that is alone: what its fourteen steps come to. A try that is alone: its steps, one by one. A try that is alone: what it comes to. -/
import Derived.Test.YtidbbnkpglggdaaPsP2
import Derived.Test.YtidbbnkpglggdaaPsX
import Derived.Test.YtidbbnkpglggdaaPqB
namespace Go.W
open Go.Proofs
set_option linter.unusedSimpArgs false
set_option linter.unusedVariables false
set_option maxHeartbeats 8000000
attribute [local irreducible] Wm
attribute [local simp] nmap lkp mkPl prs prsL prT ddL idL CRenL CRen Ren RenL NObj.none CRenLL
def d52 : List AV→Option Ans
 | []=>some ⟨.tup [.agg [.int .i64 2,.int .i64 1,.int .i64 1,.int .i64 1,.int .i64 0,.int .i64 2,.int .i64 1],.os 0 10 [[.int .i64 2,.bool false,.int .i64 1,.int .i64 5,.int .i64 0,.int .i64 0,.int .i64 0,.int .i64 10,.int .i64 1,.int .i64 9],[.int .i64 2,.bool false,.int .i64 1,.int .i64 3,.int .i64 0,.int .i64 0,.int .i64 1,.int .i64 8,.int .i64 1,.int .i64 9]]],[]⟩
 | _=>none
theorem ok52 : NOk [] d52:=by
 intro xs a h
 unfold d52 at h
 (repeat' (split at h))<;>first|(cases h;done)|(injection h with h;subst h;refine ⟨Ends_of ?_,?_⟩<;>simp)
theorem s52 : Sound Try.prog 52 (nestS [] d52 ok52):=by
 refine nest_sound Try.func52 nm52 rc52 rv52 ok52 (fun xs a h=>?_) fun xs a h w0 S hS=>?_
 ·unfold d52 at h
  (repeat' (split at h))<;>first|(cases h;done)|exact Nat.le_of_ble_eq_true rfl
 unfold d52 at h
 split at h
 ·skip
  injection h with h
  subst h
  have hE : SoundAll Try.prog (EL []):=EL_sound (by simp)
  unfold m52
  repeat' with_reducible (first
   | refine ZR.h ?_ | refine zI (by decide) ?_
   | ((first | refine zK hE ?_ | refine zL hE mixT ?_);intro K hK;simp[KR.ks,KD.ks,KD.cl,q52_0,q52_1,q52_2,q52_3,q52_4];(repeat' (first | refine hK _ _ ?_ | refine And.intro ?_ ?_ | (intro hc;try subst hc)))<;>(try clear hK K))
   | (refine zJ (b:=_) (by with_unfolding_all rfl) (fun hc=>?_) (fun hc=>?_)<;>simp at hc<;>(try subst hc)))
  all_goals first|(simp;done)|(simp at *;omega)|((try simp);refine Imp.auto (by kernel_rfl) ?_ ?_<;>simp[NLe])
 ·cases h
theorem e12 {W : WZ} {T : TZ} (hT : okT T = true) (hW : okW W = true) (hs : smW W = true) (u v u1 u2 u3 u4 : Nat) : d12 [.op u (tzC T),.op v (wzL W u1 u2 u3 u4)] = some ⟨.tup [],[.cells 0 (tzC (StepT W T).1),.cells 0 (wzC (StepT W T).2)]⟩:=by
 simp only[d12,tzOf_C,wzOf_C]
 rw[if_pos ⟨hT,hW,hs⟩]
def runT (W : WZ) (T : TZ) : Nat→TZ × WZ
 | 0=>(T,W)
 | k + 1=>StepT (runT W T k).2 (runT W T k).1
theorem run_ok {W : WZ} {T : TZ} (hT : okT T = true) (hW : okW W = true) : ∀ k,okT (runT W T k).1 = true∧okW (runT W T k).2 = true∧(runT W T k).2.s≤W.s + k∧(runT W T k).2.lg.length≤W.lg.length + k
 | 0=>⟨hT,hW,by simp[runT],by simp[runT]⟩
 | k + 1=>by
  obtain ⟨h1,h2,h3,h4⟩:=run_ok hT hW k
  have h5:=StepT_fr (runT W T k).2 (runT W T k).1
  refine ⟨StepT_T h1 h2,StepT_ok h2 _,?_,?_⟩
  ·show (StepT (runT W T k).2 (runT W T k).1).2.s≤_
   omega
  ·show (StepT (runT W T k).2 (runT W T k).1).2.lg.length≤_
   omega
def awW : List (List AV):=match bothZ 2 1 1 1 0 2 1 [[.int .i64 2,.bool false,.int .i64 1,.int .i64 5,.int .i64 0,.int .i64 0,.int .i64 0,.int .i64 10,.int .i64 1,.int .i64 9],[.int .i64 2,.bool false,.int .i64 1,.int .i64 3,.int .i64 0,.int .i64 0,.int .i64 1,.int .i64 8,.int .i64 1,.int .i64 9]] 2 with
 | some (ws,_,_)=>ws
 | none=>[]
def awS : List (List AV):=match bothZ 2 1 1 1 0 2 1 [[.int .i64 2,.bool false,.int .i64 1,.int .i64 5,.int .i64 0,.int .i64 0,.int .i64 0,.int .i64 10,.int .i64 1,.int .i64 9],[.int .i64 2,.bool false,.int .i64 1,.int .i64 3,.int .i64 0,.int .i64 0,.int .i64 1,.int .i64 8,.int .i64 1,.int .i64 9]] 2 with
 | some (_,S,_)=>S
 | none=>[]
def awT : List (List AV):=match bothZ 2 1 1 1 0 2 1 [[.int .i64 2,.bool false,.int .i64 1,.int .i64 5,.int .i64 0,.int .i64 0,.int .i64 0,.int .i64 10,.int .i64 1,.int .i64 9],[.int .i64 2,.bool false,.int .i64 1,.int .i64 3,.int .i64 0,.int .i64 0,.int .i64 1,.int .i64 8,.int .i64 1,.int .i64 9]] 2 with
 | some (_,_,T)=>T
 | none=>[]
theorem aw_both : bothZ 2 1 1 1 0 2 1 [[.int .i64 2,.bool false,.int .i64 1,.int .i64 5,.int .i64 0,.int .i64 0,.int .i64 0,.int .i64 10,.int .i64 1,.int .i64 9],[.int .i64 2,.bool false,.int .i64 1,.int .i64 3,.int .i64 0,.int .i64 0,.int .i64 1,.int .i64 8,.int .i64 1,.int .i64 9]] 2 = some (awW,awS,awT):=by kernel_rfl
def aw0 : WZ:=⟨2,1,1,1,0,2,1,awW,4,0,[]⟩
theorem aw_ok : okW aw0 = true:=by kernel_rfl
theorem aw_T : okT (tz0 3 0 0 1 0) = true:=by kernel_rfl
theorem aw_end : (runT aw0 (tz0 3 0 0 1 0) 14).1.made = true∧(runT aw0 (tz0 3 0 0 1 0) 14).1.pc = 14∧(stateZ (sAt (runT aw0 (tz0 3 0 0 1 0) 14).2 1)).k = 5∧(runT aw0 (tz0 3 0 0 1 0) 14).2.a = 2∧(runT aw0 (tz0 3 0 0 1 0) 14).2.b = 1:=by
 refine ⟨?_,?_,?_,?_,?_⟩<;>kernel_rfl
theorem aw_log : (runT aw0 (tz0 3 0 0 1 0) 14).2.lg = [evC 2 0 1 1 1 3 9 0 0]:=by kernel_rfl
def d10 : List AV→Option Ans
 | []=>some ⟨.bool true,[]⟩
 | _=>none
def I10 (T : TZ) (W : WZ) (k : Nat) : St:=⟨[(3,.ptr (.top 0) 0 0),(6,.ptr (.top 1) 0 0),(24,.int .i64 k)],[(0,.cells 0 (wzC W)),(1,.cells 0 (tzC T))],2⟩
theorem ok10 : NOk [] d10:=by
 intro xs a h
 unfold d10 at h
 (repeat' (split at h))<;>first|(cases h;done)|(injection h with h;subst h;refine ⟨Ends_of ?_,?_⟩<;>simp)
theorem s10 : Sound Try.prog 10 (nestS [] d10 ok10):=by
 refine nest_sound Try.func10 nm10 rc10 rv10 ok10 (fun xs a h=>?_) fun xs a h w0 S hS=>?_
 ·unfold d10 at h
  (repeat' (split at h))<;>first|(cases h;done)|exact Nat.le_of_ble_eq_true rfl
 unfold d10 at h
 split at h
 ·skip
  injection h with h
  subst h
  have hE : SoundAll Try.prog (EL [(52,nestS [] d52 ok52),(9,nestS [(10,false)] d9 ok9),(11,nestS [] d11 ok11),(12,nestS [(35,true),(10,true)] d12 ok12),(14,nestS [(10,true)] d14 ok14),(15,nestS [(35,false)] d15 ok15),(13,nestS [(35,false)] d13 ok13)]):=EL_sound (by simp only[List.mem_cons,List.not_mem_nil,or_false,forall_eq_or_imp,forall_eq];exact ⟨s52,s9,s11,s12,s14,s15,s13⟩)
  obtain ⟨aT,aW,hr⟩ : ∃ a b,(tz0 3 0 0 1 0) = a∧aw0 = b:=⟨_,_,rfl,rfl⟩
  have hb : d9 [.agg [.int .i64 2,.int .i64 1,.int .i64 1,.int .i64 1,.int .i64 0,.int .i64 2,.int .i64 1],.os 0 10 [[.int .i64 2,.bool false,.int .i64 1,.int .i64 5,.int .i64 0,.int .i64 0,.int .i64 0,.int .i64 10,.int .i64 1,.int .i64 9],[.int .i64 2,.bool false,.int .i64 1,.int .i64 3,.int .i64 0,.int .i64 0,.int .i64 1,.int .i64 8,.int .i64 1,.int .i64 9]]] = some ⟨.tup [.op 0 (wzC aw0),.op 0 (qC 2 1 1 1 0 2 1 awS awT),.bool true],[.free]⟩:=by
   simp only[d9]
   rw[if_pos (by kernel_rfl),if_pos (by kernel_rfl)]
   simp only[bothA,List.length_cons,List.length_nil]
   rw[aw_both]
   rfl
  obtain ⟨hcf0,hw0,hwl0,hs00,ht00,ht10,hlg0⟩:=okW_ex aw_ok
  have hT0:=w_t0 hw0
  have hC0:=w_cl hw0
  have hTl0:=l_t0 hlg0
  have hCl0:=l_cl hlg0
  have hqS : t0LL awS = awS:=by kernel_rfl
  have hqS2 : clLL awS = true:=by kernel_rfl
  have hqT : t0LL awT = awT:=by kernel_rfl
  have hqT2 : clLL awT = true:=by kernel_rfl
  have hrun:=run_ok aw_T aw_ok
  have hend:=aw_end
  have hlog:=aw_log
  obtain ⟨A0,hA0⟩ : ∃ z,aw0 = z:=⟨_,rfl⟩
  obtain ⟨qS,hqSe⟩ : ∃ z,awS = z:=⟨_,rfl⟩
  obtain ⟨qT,hqTe⟩ : ∃ z,awT = z:=⟨_,rfl⟩
  have hs4 : A0.s = 4:=by rw[← hA0];rfl
  have hl0 : A0.lg.length = 0:=by rw[← hA0];rfl
  rw[hA0]at hb hT0 hC0 hTl0 hCl0 hrun hend hlog
  rw[hqSe]at hb hqS hqS2
  rw[hqTe]at hb hqT hqT2
  clear hw0 hwl0 hs00 ht00 ht10 hlg0 hcf0 hr aT aW
  have hwzs : ∀ T0,tzC T0 = tzC T0:=fun _=>rfl
  simp only[wzC,qC]at hb
  unfold m10
  repeat' with_reducible (first
   | refine ZR.h ?_ | refine zI (by decide) ?_
   | (refine zK hE ?_;intro K hK;simp[KR.ks,q10_0,q10_1,q10_2,q10_3,q10_4,q10_5,q10_6,q10_7,q10_8,q10_9,q10_10,q10_11,hb,hT0,hC0,hTl0,hCl0,hqS,hqS2,hqT,hqT2,tzC,tz0,zeroS,d52,d11];(repeat' (first | refine hK _ _ ?_ | refine And.intro ?_ ?_ | (intro hc;try subst hc)))<;>(try clear hK K))
   | (refine zJ (b:=_) (by with_unfolding_all rfl) (fun hc=>?_) (fun hc=>?_)<;>simp at hc<;>(try subst hc)))
  all_goals (refine Wm_loop (fun k=>I10 (runT A0 (tz0 3 0 0 1 0) k).1 (runT A0 (tz0 3 0 0 1 0) k).2 k) (fun k=>k≤14) (fun k=>14 - k) 0 (Nat.zero_le _) ?_ ?_)
  ·simp only[I10,runT,wzC,tzC,tz0,zeroS]
   rw[hS]
   refine Imp.auto (by kernel_rfl) ?_ ?_<;>simp[NLe,mkPlX,hT0,hC0,hTl0,hCl0,hqS,hqS2,hqT,hqT2]
  ·intro k hk
   replace hk : k≤14:=hk
   obtain ⟨kT,kW,ks,kl⟩:=hrun k
   have hsm : smW (runT A0 (tz0 3 0 0 1 0) k).2 = true:=decide_eq_true (by omega)
   have hst:=e12 kT kW hsm
   have hsucc : runT A0 (tz0 3 0 0 1 0) (k + 1) = StepT (runT A0 (tz0 3 0 0 1 0) k).2 (runT A0 (tz0 3 0 0 1 0) k).1:=rfl
   have kW2:=(hrun (k + 1)).2.1
   by_cases hk14 : k < 14
   ·obtain ⟨r,hr⟩ : ∃ r,runT A0 (tz0 3 0 0 1 0) k = r:=⟨_,rfl⟩
    obtain ⟨r2,hr2⟩ : ∃ r,runT A0 (tz0 3 0 0 1 0) (k + 1) = r:=⟨_,rfl⟩
    rw[hr]at kT kW hst hsucc
    rw[hr2]at hsucc kW2
    rw[← hsucc]at hst
    rw[hr]
    obtain ⟨hcf,hw,hwl,hs0,ht0,ht1,hlg⟩:=okW_ex kW
    have hT:=w_t0 hw
    have hC:=w_cl hw
    have hTl:=l_t0 hlg
    have hCl:=l_cl hlg
    obtain ⟨hcf2,hw2,hwl2,hs02,ht02,ht12,hlg2⟩:=okW_ex kW2
    have hT2:=w_t0 hw2
    have hC2:=w_cl hw2
    have hTl2:=l_t0 hlg2
    have hCl2:=l_cl hlg2
    have hkI : (k : Int) < 14:=by omega
    have ww : IntKind.wrap .i64 ((k : Int) + 1) = (k : Int) + 1:=wrap_in (by omega) (by omega)
    simp only[I10,tzC,wzC,wzL]at hst ⊢
    repeat' with_reducible (first
     | refine ZR.h ?_ | refine zI (by decide) ?_
     | (refine zK hE ?_;intro K hK;simp[KR.ks,q10_0,q10_1,q10_2,q10_3,q10_4,q10_5,q10_6,q10_7,q10_8,q10_9,q10_10,q10_11,hT,hC,hTl,hCl,hT2,hC2,hTl2,hCl2,hkI,hst,ww,d52,d11];(repeat' (first | refine hK _ _ ?_ | refine And.intro ?_ ?_ | (intro hc;try subst hc)))<;>(try clear hK K))
     | (refine zJ (b:=_) (by with_unfolding_all rfl) (fun hc=>?_) (fun hc=>?_)<;>simp at hc<;>(try subst hc)))
    all_goals refine ⟨k + 1,hk14,Nat.sub_lt_sub_left hk14 (Nat.lt_succ_self k),?_⟩
    all_goals simp only[hr2]
    all_goals rw[hS]
    all_goals (refine Imp.auto (by kernel_rfl) ?_ ?_<;>simp[NLe,mkPlX,hT,hC,hTl,hCl,hT2,hC2,hTl2,hCl2])
   ·have hke : k = 14:=by omega
    subst hke
    clear hst hsucc kW2
    obtain ⟨hm,hpc,hk5,ha2,hb1⟩:=hend
    have hlo:=smW_lo hsm
    have h14:=e14 kW hlo (x:=1) (by omega) (by rw[ha2,hb1];omega)
    obtain ⟨r,hr⟩ : ∃ r,runT A0 (tz0 3 0 0 1 0) 14 = r:=⟨_,rfl⟩
    rw[hr]at kT kW hm hpc hk5 ha2 hb1 h14 hlog
    rw[hr]
    obtain ⟨hcf,hw,hwl,hs0,ht0,ht1,hlg⟩:=okW_ex kW
    have hT:=w_t0 hw
    have hC:=w_cl hw
    have h13:=e13 r.1
    rw[hpc]at h13
    simp only[show decide ((14 : Int)≤14) = true from rfl]at h13
    have h15 : ∀ u,d15 [.op u (tzC r.1)] = some ⟨.bool true,[.free]⟩:=fun u=>by simp only[d15,tzOf_C,hm]
    obtain ⟨st,hst⟩ : ∃ z,stateZ (sAt r.2 1) = z:=⟨_,rfl⟩
    rw[hst]at h14 hk5
    simp only[I10,tzC,wzC,wzL,tickW,stA,hlog,evC]at h14 h13 h15 ⊢
    repeat' with_reducible (first
     | refine ZR.h ?_ | refine zI (by decide) ?_
     | (refine zK hE ?_;intro K hK;simp[KR.ks,q10_0,q10_1,q10_2,q10_3,q10_4,q10_5,q10_6,q10_7,q10_8,q10_9,q10_10,q10_11,hT,hC,h14,h13,h15,hk5,d52,d11];(repeat' (first | refine hK _ _ ?_ | refine And.intro ?_ ?_ | (intro hc;try subst hc)))<;>(try clear hK K))
     | (refine zJ (b:=_) (by with_unfolding_all rfl) (fun hc=>?_) (fun hc=>?_)<;>simp at hc<;>(try subst hc)))
    all_goals first|(simp;done)|(simp at *;omega)|((try simp[hT,hC]);refine Imp.auto (by kernel_rfl) ?_ ?_<;>simp[NLe,hT,hC])
 ·cases h
end Go.W
namespace Go.W
open Go.Proofs
set_option linter.unusedSimpArgs false
set_option linter.unusedVariables false
set_option maxHeartbeats 8000000
theorem packK_1 {els vs : List (List AV)} {k : Nat} {v : Int} (h : packK els vs (k + 1) = some v) : ∃ x,packK els vs k = some x∧0≤cellI (vs.getD k [])∧cellI (vs.getD k [])≤2 ^ (cellI (els.getD k [])).toNat - 1∧v = x + cellI (vs.getD k []) * 2 ^ (lowZ els k).toNat:=by
 simp only[packK]at h
 cases hx : packK els vs k with
 | none=>rw[hx]at h;cases h
 | some x =>
  rw[hx]at h
  simp only at h
  by_cases h1 : cellI (vs.getD k []) < 0
  ·rw[if_pos h1]at h;cases h
  ·rw[if_neg h1]at h
   by_cases h2 : 2 ^ (cellI (els.getD k [])).toNat - 1 < cellI (vs.getD k [])
   ·rw[if_pos h2]at h;cases h
   ·rw[if_neg h2]at h
    injection h with h
    exact ⟨x,rfl,by omega,by omega,h.symm⟩
theorem packK_2 {els vs : List (List AV)} {k : Nat} {x : Int} (hx : packK els vs k = some x) (h1 : 0≤cellI (vs.getD k [])) (h2 : cellI (vs.getD k [])≤2 ^ (cellI (els.getD k [])).toNat - 1) : packK els vs (k + 1) = some (x + cellI (vs.getD k []) * 2 ^ (lowZ els k).toNat):=by
 simp only[packK,hx]
 rw[if_neg (by omega),if_neg (by omega)]
theorem wordS_rt {s : StZ} {v : Int} (h : wordS s = some v) : stateZ v = s∧0≤s.k∧s.k≤8∧0≤s.g∧s.g≤255∧0≤s.l∧s.l≤65535∧0≤s.f∧s.f≤255:=by
 unfold wordS at h
 by_cases hk : 8 < s.k
 ·rw[if_pos hk]at h;cases h
 rw[if_neg hk]at h
 obtain ⟨x4,h4,a4,b4,e4⟩:=packK_1 h
 obtain ⟨x3,h3,a3,b3,e3⟩:=packK_1 h4
 obtain ⟨x2,h2,a2,b2,e2⟩:=packK_1 h3
 obtain ⟨x1,h1,a1,b1,e1⟩:=packK_1 h2
 obtain ⟨x0,h0,a0,b0,e0⟩:=packK_1 h1
 simp only[packK,Option.some.injEq]at h0
 subst h0 e0 e1 e2 e3 e4
 simp[cellI,lowZ]at a0 b0 a1 b1 a2 b2 a3 b3 a4 b4 ⊢
 obtain ⟨k,fl,g,l,f⟩:=s
 simp only at hk a0 b0 a1 b1 a2 b2 a3 b3 a4 b4 ⊢
 refine ⟨?_,a0,by omega,a2,b2,a3,b3,a4,b4⟩
 cases fl
 ·simp[stateZ,getZ]
  omega
 ·simp[stateZ,getZ]
  omega
theorem wordS_mk {s : StZ} (h0 : 0≤s.k) (h1 : s.k≤8) (h2 : 0≤s.g) (h3 : s.g≤255) (h4 : 0≤s.l) (h5 : s.l≤65535) (h6 : 0≤s.f) (h7 : s.f≤255) : ∃ v,wordS s = some v:=by
 unfold wordS
 rw[if_neg (by omega)]
 obtain ⟨k,fl,g,l,f⟩:=s
 simp only at h0 h1 h2 h3 h4 h5 h6 h7 ⊢
 refine ⟨_,packK_2 (packK_2 (packK_2 (packK_2 (packK_2 rfl ?_ ?_) ?_ ?_) ?_ ?_) ?_ ?_) ?_ ?_⟩<;>cases fl<;>simp[cellI]<;>omega
theorem wordT_rt {t : TmZ} {v : Int} (h : wordT t = some v) : termsZ v = t:=by
 unfold wordT at h
 obtain ⟨x4,h4,a4,b4,e4⟩:=packK_1 h
 obtain ⟨x3,h3,a3,b3,e3⟩:=packK_1 h4
 obtain ⟨x2,h2,a2,b2,e2⟩:=packK_1 h3
 obtain ⟨x1,h1,a1,b1,e1⟩:=packK_1 h2
 obtain ⟨x0,h0,a0,b0,e0⟩:=packK_1 h1
 simp only[packK,Option.some.injEq]at h0
 subst h0 e0 e1 e2 e3 e4
 simp[cellI,lowZ]at a0 b0 a1 b1 a2 b2 a3 b3 a4 b4 ⊢
 obtain ⟨n,s,p,l,u⟩:=t
 simp only at a0 b0 a1 b1 a2 b2 a3 b3 a4 b4 ⊢
 simp[termsZ,getZ]
 omega
theorem recW_rt {r : RcZ} {v : Int} (h : recW r = some v) : recordZ v = r:=by
 unfold recW at h
 by_cases hk : 5 < r.k
 ·rw[if_pos hk]at h;cases h
 rw[if_neg hk]at h
 obtain ⟨x5,h5,a5,b5,e5⟩:=packK_1 h
 obtain ⟨x4,h4,a4,b4,e4⟩:=packK_1 h5
 obtain ⟨x3,h3,a3,b3,e3⟩:=packK_1 h4
 obtain ⟨x2,h2,a2,b2,e2⟩:=packK_1 h3
 obtain ⟨x1,h1,a1,b1,e1⟩:=packK_1 h2
 obtain ⟨x0,h0,a0,b0,e0⟩:=packK_1 h1
 simp only[packK,Option.some.injEq]at h0
 subst h0 e0 e1 e2 e3 e4 e5
 simp[cellI,lowZ]at a0 b0 a1 b1 a2 b2 a3 b3 a4 b4 a5 b5 ⊢
 obtain ⟨k,q,p,t,c,g⟩:=r
 simp only at a0 b0 a1 b1 a2 b2 a3 b3 a4 b4 a5 b5 hk ⊢
 simp[recordZ,getZ]
 omega
theorem recW_mk {r : RcZ} (h0 : 0≤r.k) (h1 : r.k≤5) (h2 : 0≤r.q) (h3 : r.q≤65535) (h4 : 0≤r.p) (h5 : r.p≤65535) (h6 : 0≤r.t) (h7 : r.t≤1000000) (h8 : 0≤r.c) (h9 : r.c≤31) (h10 : 0≤r.g) (h11 : r.g≤15) : ∃ v,recW r = some v:=by
 unfold recW
 rw[if_neg (by omega)]
 obtain ⟨k,q,p,t,c,g⟩:=r
 simp only at h0 h1 h2 h3 h4 h5 h6 h7 h8 h9 h10 h11 ⊢
 refine ⟨_,packK_2 (packK_2 (packK_2 (packK_2 (packK_2 (packK_2 rfl ?_ ?_) ?_ ?_) ?_ ?_) ?_ ?_) ?_ ?_) ?_ ?_⟩<;>simp[cellI]<;>omega
end Go.W
namespace Go.W
open Go.Proofs
set_option linter.unusedSimpArgs false
set_option linter.unusedVariables false
set_option maxHeartbeats 8000000
theorem wAt_eq {ws : List (List AV)} {i : Nat} {v : Int} (h : i < ws.length) : wAt (ws.set i [.int .u64 v]) i = v:=by
 unfold wAt;rw[List.getElem?_set_self h]
theorem wAt_ne {ws : List (List AV)} {i j : Nat} {c : List AV} (h : i ≠ j) : wAt (ws.set i c) j = wAt ws j:=by
 unfold wAt;rw[List.getElem?_set_ne h]
def idl (a b x y : Int) : Bool:=decide (ownZ a b x < 0∨ownZ a b y < 0∨ownZ a b x = ownZ a b y)
theorem idle_eq (W : WZ) (T : TZ) : idleT W T = idl W.a W.b T.x T.y:=rfl
theorem sAt_tick (W : WZ) (x : Int) : sAt (tickW W) x = sAt W x:=rfl
theorem tAt_tick (W : WZ) (x : Int) : tAt (tickW W) x = tAt W x:=rfl
theorem sAt_tell (W : WZ) (k c g o w q p e x : Int) : sAt (tellW W k c g o w q p e) x = sAt W x:=rfl
theorem sAt_put {W : WZ} {x : Int} {v : Int} (h : (2 * x).toNat < W.ws.length) : sAt (putW W (2 * x).toNat v) x = v:=wAt_eq h
theorem sAt_putn {W : WZ} {x y : Int} {v : Int} (h : (2 * y).toNat ≠ (2 * x).toNat) : sAt (putW W (2 * y).toNat v) x = sAt W x:=wAt_ne h
theorem tAt_puts {W : WZ} {x y : Int} {v : Int} (h : (2 * y).toNat ≠ (2 * x + 1).toNat) : tAt (putW W (2 * y).toNat v) x = tAt W x:=wAt_ne h
theorem end_g (s : StZ) (F : Int) : (endedS s F).g = s.g∧(endedS s F).l = s.l∧(endedS s F).f = s.f∧heldZ (endedS s F).k = (if s.l = 0 then false else if F≤s.f then false else heldZ s.k):=by
 unfold endedS
 repeat' split
 all_goals simp[heldZ]
section
variable {W : WZ} {x y sh wx wy q p ta en : Int} {tx ty : TmZ} {held made free : Bool} {nx ny : StZ}
theorem q0 (hi : idl W.a W.b x y = false) : StepT W ⟨3,x,0,y,sh,0,wx,wy,tx,ty,held,made,free,q,p,ta,en,nx,ny⟩ = (⟨3,x,0,y,sh,1,sAt W x,wy,tx,ty,held,made,free,q,p,ta,en,nx,ny⟩,tickW W):=by
 simp[StepT,stepT,idle_eq,hi]
theorem q1 (hi : idl W.a W.b x y = false) : StepT W ⟨3,x,0,y,sh,1,wx,wy,tx,ty,held,made,free,q,p,ta,en,nx,ny⟩ = (⟨3,x,0,y,sh,2,wx,wy,termsZ (tAt W x),ty,held,made,free,q,p,ta,en,nx,ny⟩,tickW W):=by
 simp[StepT,stepT,idle_eq,hi]
def wantZ (c d sh : Int) (s : StZ) (t : TmZ) : Bool:=decide (s.k = 2∧t.sd = 0∧shardZ c d t.nm (bandZ d t.pr) = sh)
theorem q2n (hi : idl W.a W.b x y = false) (hw : wantZ W.c W.d sh (stateZ wx) tx = false) : StepT W ⟨3,x,0,y,sh,2,wx,wy,tx,ty,held,made,free,q,p,ta,en,nx,ny⟩ = (⟨3,x,0,y,sh,3,wx,wy,tx,ty,held,made,free,q,p,ta,en,nx,ny⟩,W):=by
 have h : wantsT W ⟨3,x,0,y,sh,2,wx,wy,tx,ty,held,made,free,q,p,ta,en,nx,ny⟩ (stateZ wx) = false:=by
  rw[← hw];simp[wantsT,wantZ]
 simp[StepT,stepT,idle_eq,hi,holdT,h]
theorem q2y {v : Int} (hi : idl W.a W.b x y = false) (hw : wantZ W.c W.d sh (stateZ wx) tx = true) (hv : wordS (holdS (stateZ wx)) = some v) (hs : sAt W x = wx) : StepT W ⟨3,x,0,y,sh,2,wx,wy,tx,ty,held,made,free,q,p,ta,en,nx,ny⟩ = (⟨3,x,0,y,sh,3,wx,wy,tx,ty,true,made,free,q,p,ta,en,nx,ny⟩,putW W (2 * x).toNat v):=by
 have h : wantsT W ⟨3,x,0,y,sh,2,wx,wy,tx,ty,held,made,free,q,p,ta,en,nx,ny⟩ (stateZ wx) = true:=by
  rw[← hw];simp[wantsT,wantZ]
 simp[StepT,stepT,idle_eq,hi,holdT,h,turnW,hv,hs]
theorem q3 (hi : idl W.a W.b x y = false) : StepT W ⟨3,x,0,y,sh,3,wx,wy,tx,ty,held,made,free,q,p,ta,en,nx,ny⟩ = (⟨3,x,0,y,sh,4,wx,sAt W y,tx,ty,held,made,free,q,p,ta,en,nx,ny⟩,tickW W):=by
 simp[StepT,stepT,idle_eq,hi]
theorem q4 (hi : idl W.a W.b x y = false) : StepT W ⟨3,x,0,y,sh,4,wx,wy,tx,ty,held,made,free,q,p,ta,en,nx,ny⟩ = (⟨3,x,0,y,sh,5,wx,wy,tx,termsZ (tAt W y),held,made,free,q,p,ta,en,nx,ny⟩,tickW W):=by
 simp[StepT,stepT,idle_eq,hi]
theorem q5n (hi : idl W.a W.b x y = false) (hk : ¬ (stateZ wy).k = 2) : StepT W ⟨3,x,0,y,sh,5,wx,wy,tx,ty,held,made,free,q,p,ta,en,nx,ny⟩ = (⟨3,x,0,y,sh,6,wx,wy,tx,ty,held,made,free,q,p,ta,en,nx,ny⟩,W):=by
 simp[StepT,stepT,idle_eq,hi,takeT,findsT,hk]
theorem q5z (hi : idl W.a W.b x y = false) (hk : (stateZ wy).k = 2) (hq : (matchZ tx ty (stateZ wx).l (stateZ wy).l).1 = 0) : ∃ p',StepT W ⟨3,x,0,y,sh,5,wx,wy,tx,ty,true,made,free,q,p,ta,en,nx,ny⟩ = (⟨3,x,0,y,sh,6,wx,wy,tx,ty,true,made,free,0,p',ta,en,nx,ny⟩,W):=by
 refine ⟨(matchZ tx ty (stateZ wx).l (stateZ wy).l).2,?_⟩
 have ht : (takeS (stateZ wy) 0 W.f).2 = 23:=by simp[takeS,looseZ,hk]
 simp[StepT,stepT,idle_eq,hi,takeT,findsT,hk,hq,ht]
theorem q5y {v : Int} {n2 : StZ} {q' p' : Int} (hi : idl W.a W.b x y = false) (hk : (stateZ wy).k = 2) (hq : matchZ tx ty (stateZ wx).l (stateZ wy).l = (q',p')) (ht : takeS (stateZ wy) q' W.f = (n2,0)) (hv : wordS n2 = some v) (hs : sAt W y = wy) : StepT W ⟨3,x,0,y,sh,5,wx,wy,tx,ty,true,made,free,q,p,ta,en,nx,ny⟩ = (⟨3,x,0,y,sh,6,wx,wy,tx,ty,true,true,free,q',p',W.t,en,nx,n2⟩,tellW (putW W (2 * y).toNat v) 2 x (stateZ wx).g y (stateZ wy).g q' p' 0):=by
 simp[StepT,stepT,idle_eq,hi,takeT,findsT,hk,hq,ht,turnW,hv,hs]
theorem q6 (hi : idl W.a W.b x y = false) : StepT W ⟨3,x,0,y,sh,6,wx,wy,tx,ty,true,made,false,q,p,ta,en,nx,ny⟩ = (⟨3,x,0,y,sh,7,sAt W x,wy,tx,ty,true,made,false,q,p,ta,en,nx,ny⟩,tickW W):=by
 simp[StepT,stepT,idle_eq,hi,lookT]
theorem q7 {v : Int} {n2 : StZ} (hi : idl W.a W.b x y = false) (hr : releaseS (stateZ wx) (if made = true then q else 0) W.f = (n2,0)) (hv : wordS n2 = some v) (hs : sAt W x = wx) : StepT W ⟨3,x,0,y,sh,7,wx,wy,tx,ty,true,made,false,q,p,ta,en,nx,ny⟩ = (⟨3,x,0,y,sh,8,wx,wy,tx,ty,true,made,true,q,p,ta,W.t,n2,ny⟩,if overZ n2.k = true then tellW (putW W (2 * x).toNat v) 7 x n2.g 0 0 0 0 n2.k else putW W (2 * x).toNat v):=by
 simp[StepT,stepT,idle_eq,hi,letT,qtyT,hr,turnW,hv,hs]
theorem q8 (hi : idl W.a W.b x y = false) : StepT W ⟨3,x,0,y,sh,8,wx,wy,tx,ty,held,made,true,q,p,ta,en,nx,ny⟩ = (⟨3,x,0,y,sh,9,wx,wy,tx,ty,held,made,true,q,p,ta,en,nx,ny⟩,W):=by
 simp[StepT,stepT,idle_eq,hi,lookT]
theorem q9 (hi : idl W.a W.b x y = false) : StepT W ⟨3,x,0,y,sh,9,wx,wy,tx,ty,held,made,true,q,p,ta,en,nx,ny⟩ = (⟨3,x,0,y,sh,10,wx,wy,tx,ty,held,made,true,q,p,ta,en,nx,ny⟩,W):=by
 simp[StepT,stepT,idle_eq,hi,letT]
theorem q10 (hi : idl W.a W.b x y = false) : StepT W ⟨3,x,0,y,sh,10,wx,wy,tx,ty,held,true,free,q,p,ta,en,nx,ny⟩ = (⟨3,x,0,y,sh,11,wx,wy,tx,ty,held,true,free,q,p,ta,en,nx,ny⟩,noteW W x nx.g (nx.f - 1) ⟨1,q,p,ta,y,ny.g⟩):=by
 simp[StepT,stepT,idle_eq,hi,noteT,fillR]
theorem q11 (hi : idl W.a W.b x y = false) : StepT W ⟨3,x,0,y,sh,11,wx,wy,tx,ty,held,true,free,q,p,ta,en,nx,ny⟩ = (⟨3,x,0,y,sh,12,wx,wy,tx,ty,held,true,free,q,p,ta,en,nx,ny⟩,noteW W y ny.g (ny.f - 1) ⟨1,q,p,ta,x,nx.g⟩):=by
 simp[StepT,stepT,idle_eq,hi,noteT,fillR]
theorem q12 (hi : idl W.a W.b x y = false) : StepT W ⟨3,x,0,y,sh,12,wx,wy,tx,ty,held,true,free,q,p,ta,en,nx,ny⟩ = (⟨3,x,0,y,sh,13,wx,wy,tx,ty,held,true,free,q,p,ta,en,nx,ny⟩,if (endS ny ta).2 = true then noteW W y ny.g W.f (endS ny ta).1 else W):=by
 simp[StepT,stepT,idle_eq,hi,noteT]
theorem q13 (hi : idl W.a W.b x y = false) : StepT W ⟨3,x,0,y,sh,13,wx,wy,tx,ty,true,made,free,q,p,ta,en,nx,ny⟩ = (⟨3,x,0,y,sh,14,wx,wy,tx,ty,true,made,free,q,p,ta,en,nx,ny⟩,if (endS nx en).2 = true then noteW W x nx.g W.f (endS nx en).1 else W):=by
 simp[StepT,stepT,idle_eq,hi,noteT]
theorem qn {pc : Int} (h3 : 10≤pc) (h14 : pc < 13) (hi : idl W.a W.b x y = false) : StepT W ⟨3,x,0,y,sh,pc,wx,wy,tx,ty,held,false,free,q,p,ta,en,nx,ny⟩ = (⟨3,x,0,y,sh,pc + 1,wx,wy,tx,ty,held,false,free,q,p,ta,en,nx,ny⟩,W):=by
 have e : ¬ 14≤pc:=by omega
 have e0 : ¬ pc = 0:=by omega
 have e1 : ¬ pc = 1:=by omega
 have e2 : ¬ pc = 2:=by omega
 have e3 : ¬ pc = 3:=by omega
 have e4 : ¬ pc = 4:=by omega
 have e5 : ¬ pc = 5:=by omega
 have e6 : ¬ pc = 6:=by omega
 have e7 : ¬ pc = 7:=by omega
 have e8 : ¬ pc = 8:=by omega
 have e9 : ¬ pc = 9:=by omega
 have e13 : ¬ pc = 13:=by omega
 simp[StepT,stepT,idle_eq,hi,noteT,e,e0,e1,e2,e3,e4,e5,e6,e7,e8,e9,e13]
end
theorem quiet {W : WZ} {T : TZ} (hh : T.held = false) (hm : T.made = false) (hp : 3≤T.pc) : (StepT W T).1.held = false∧(StepT W T).1.made = false∧3≤(StepT W T).1.pc∧(StepT W T).2.ws = W.ws∧(StepT W T).2.lg = W.lg:=by
 have e0 : ¬ T.pc = 0:=by omega
 have e1 : ¬ T.pc = 1:=by omega
 have e2 : ¬ T.pc = 2:=by omega
 unfold StepT
 split
 ·exact ⟨hh,hm,hp,rfl,rfl⟩
 ·split
  ·exact ⟨hh,hm,by show 3≤T.pc + 1;omega,rfl,rfl⟩
  ·refine ⟨?_,?_,by show 3≤T.pc + 1;omega,?_,?_⟩<;>simp only[stepT,if_neg e0,if_neg e1,if_neg e2,takeT,lookT,letT,noteT,hh,hm]<;>simp_all [tickW]<;>(repeat' split)<;>first|rfl|assumption|simp_all
theorem quiet_run {W : WZ} {T : TZ} (hh : T.held = false) (hm : T.made = false) (hp : 3≤T.pc) : ∀ j,(runT W T j).1.held = false∧(runT W T j).1.made = false∧3≤(runT W T j).1.pc∧(runT W T j).2.ws = W.ws∧(runT W T j).2.lg = W.lg
 | 0=>⟨hh,hm,hp,rfl,rfl⟩
 | j + 1=>by
  obtain ⟨h1,h2,h3,h4,h5⟩:=quiet_run hh hm hp j
  obtain ⟨k1,k2,k3,k4,k5⟩:=quiet (W:=(runT W T j).2) h1 h2 h3
  exact ⟨k1,k2,k3,k4.trans h4,k5.trans h5⟩
theorem run_split (W : WZ) (T : TZ) (k : Nat) : ∀ j,runT W T (k + j) = runT (runT W T k).2 (runT W T k).1 j
 | 0=>rfl
 | j + 1=>by
  show StepT (runT W T (k + j)).2 (runT W T (k + j)).1 = _
  rw[run_split W T k j];rfl
theorem run_next {W W' : WZ} {T T' : TZ} {k : Nat} {r : TZ × WZ} (h : runT W T k = (T',W')) (hs : StepT W' T' = r) : runT W T (k + 1) = r:=by
 show StepT (runT W T k).2 (runT W T k).1 = r
 rw[h];exact hs
end Go.W
namespace Go.W
open Go.Proofs
set_option linter.unusedSimpArgs false
set_option linter.unusedVariables false
set_option maxHeartbeats 8000000
theorem muls {u v m r s : Int} (h : u * m + r = v * m + s) (h0 : 0≤r) (h1 : r < m) (h2 : 0≤s) (h3 : s < m) : u = v∧r = s:=by
 have hm : 0≤m:=by omega
 by_cases a1 : u < v
 ·have:=Int.mul_le_mul_of_nonneg_right (show u + 1≤v by omega) hm
  rw[Int.add_mul,Int.one_mul]at this
  omega
 ·by_cases a2 : v < u
  ·have:=Int.mul_le_mul_of_nonneg_right (show v + 1≤u by omega) hm
   rw[Int.add_mul,Int.one_mul]at this
   omega
  ·have e : u = v:=by omega
   subst e
   exact ⟨rfl,by omega⟩
section
variable {a b f g x gen n : Int}
theorem slot_val (h0 : 0≤x) (h1 : x < a * b) (h2 : 1≤gen) (h3 : gen≤g) (h4 : 0≤n) (h5 : n≤f) : slotZ a b f g x gen n = a * b * 2 + (x * g + gen - 1) * (f + 1) + n:=by
 unfold slotZ
 rw[if_neg (by omega),if_neg (by omega),if_neg (by omega),if_neg (by omega),if_neg (by omega),if_neg (by omega)]
theorem slot_lo (hg : 0≤g) (hf : 0≤f) : slotZ a b f g x gen n < 0∨a * b * 2≤slotZ a b f g x gen n:=by
 unfold slotZ
 repeat' split
 all_goals first|(left;omega)|skip
 right
 have h1:=Int.mul_nonneg (show 0≤x by omega) hg
 have h2:=Int.mul_nonneg (show 0≤x * g + gen - 1 by omega) (show 0≤f + 1 by omega)
 omega
theorem slot_hi (h0 : 0≤x) (h1 : x < a * b) (h2 : 1≤gen) (h3 : gen≤g) (h4 : 0≤n) (h5 : n≤f) : a * b * 2≤slotZ a b f g x gen n∧slotZ a b f g x gen n < a * b * 2 + a * b * g * (f + 1):=by
 rw[slot_val h0 h1 h2 h3 h4 h5]
 have k1:=Int.mul_nonneg h0 (show 0≤g by omega)
 have k2:=Int.mul_nonneg (show 0≤x * g + gen - 1 by omega) (show 0≤f + 1 by omega)
 have k3:=Int.mul_le_mul_of_nonneg_right (show x + 1≤a * b by omega) (show 0≤g by omega)
 rw[Int.add_mul,Int.one_mul]at k3
 have k4:=Int.mul_le_mul_of_nonneg_right (show x * g + gen - 1 + 1≤a * b * g by omega) (show 0≤f + 1 by omega)
 rw[Int.add_mul,Int.one_mul]at k4
 omega
theorem slot_inj {x' gen' n' : Int} (h0 : 0≤x) (h1 : x < a * b) (h2 : 1≤gen) (h3 : gen≤g) (h4 : 0≤n) (h5 : n≤f) (k0 : 0≤x') (k1 : x' < a * b) (k2 : 1≤gen') (k3 : gen'≤g) (k4 : 0≤n') (k5 : n'≤f) (h : slotZ a b f g x gen n = slotZ a b f g x' gen' n') : x = x'∧gen = gen'∧n = n':=by
 rw[slot_val h0 h1 h2 h3 h4 h5,slot_val k0 k1 k2 k3 k4 k5]at h
 obtain ⟨e1,e2⟩:=muls (m:=f + 1) (u:=x * g + gen - 1) (v:=x' * g + gen' - 1) (r:=n) (s:=n') (by omega) h4 (by omega) k4 (by omega)
 obtain ⟨e3,e4⟩:=muls (m:=g) (u:=x) (v:=x') (r:=gen - 1) (s:=gen' - 1) (by omega) (by omega) (by omega) (by omega) (by omega)
 exact ⟨e3,by omega,e2⟩
end
theorem note_fr2 (W : WZ) (x g n : Int) (r : RcZ) : (noteW W x g n r).a = W.a∧(noteW W x g n r).b = W.b∧(noteW W x g n r).f = W.f∧(noteW W x g n r).g = W.g∧(noteW W x g n r).lg = W.lg∧(noteW W x g n r).ws.length = W.ws.length∧∀ i : Nat,(slotZ W.a W.b W.f W.g x g n < 0∨slotZ W.a W.b W.f W.g x g n ≠ i)→wAt (noteW W x g n r).ws i = wAt W.ws i:=by
 unfold noteW
 split
 ·exact ⟨rfl,rfl,rfl,rfl,rfl,rfl,fun _ _=>rfl⟩
 ·split
  ·exact ⟨rfl,rfl,rfl,rfl,rfl,rfl,fun _ _=>rfl⟩
  ·split
   ·exact ⟨rfl,rfl,rfl,rfl,rfl,rfl,fun _ _=>rfl⟩
   ·exact ⟨rfl,rfl,rfl,rfl,rfl,List.length_set ..,fun i hi=>wAt_ne (by omega)⟩
theorem note_rd {W : WZ} {x g n : Int} {r : RcZ} {v : Int} (hv : recW r = some v) (h0 : 0≤slotZ W.a W.b W.f W.g x g n) (h1 : slotZ W.a W.b W.f W.g x g n < W.ws.length) : wAt (noteW W x g n r).ws (slotZ W.a W.b W.f W.g x g n).toNat = v:=by
 unfold noteW
 rw[hv]
 simp only
 rw[if_neg (by omega),if_neg (by omega)]
 exact wAt_eq (by omega)
def goodZ (F G : Int) (s : StZ) : Prop:=s.k = 2∧s.fl = false∧1≤s.g∧s.g≤G∧1≤s.l∧s.l≤65535∧0≤s.f∧s.f < F
theorem good_rel {F G : Int} {s : StZ} (h : goodZ F G s) : releaseS (holdS s) 0 F = (s,0):=by
 obtain ⟨k,fl,g,l,f⟩:=s
 obtain ⟨h1,h2,h3,h4,h5,h6,h7,h8⟩:=h
 simp only at h1 h2 h3 h4 h5 h6 h7 h8
 subst h1;subst h2
 have e1 : ¬ l < 0:=by omega
 have e2 : ¬ l = 0:=by omega
 have e3 : ¬ F≤f:=by omega
 simp[releaseS,holdS,heldZ,relS1,loosenS,endedS,e1,e2,e3]
theorem end_fl {s : StZ} {F : Int} (h : s.fl = false) : (endedS s F).fl = false:=by
 unfold endedS
 repeat' split
 all_goals first|rfl|exact h
theorem good_rely {F G : Int} {s : StZ} (h : goodZ F G s) {q : Int} (h0 : 1≤q) (h1 : q≤s.l) : releaseS (holdS s) q F = (endedS { s with l:=s.l - q,f:=s.f + 1 } F,0):=by
 obtain ⟨k,fl,g,l,f⟩:=s
 obtain ⟨k1,k2,h3,h4,h5,h6,h7,h8⟩:=h
 simp only at k1 k2 h3 h4 h5 h6 h7 h8 h1
 subst k1;subst k2
 have e0 : ¬ q < 0:=by omega
 have e1 : ¬ l < q:=by omega
 have e2 : 0 < q:=by omega
 have e3 : ¬ F≤f:=by omega
 have e4 : (endedS ⟨2,false,g,l - q,f + 1⟩ F).fl = false:=end_fl rfl
 simp[releaseS,holdS,heldZ,relS1,loosenS,e0,e1,e2,e3,e4]
theorem good_take {F G : Int} {s : StZ} (h : goodZ F G s) {q : Int} (h0 : 1≤q) (h1 : q≤s.l) : takeS s q F = (endedS { s with l:=s.l - q,f:=s.f + 1 } F,0):=by
 obtain ⟨k,fl,g,l,f⟩:=s
 obtain ⟨k1,k2,h3,h4,h5,h6,h7,h8⟩:=h
 simp only at k1 k2 h3 h4 h5 h6 h7 h8 h1
 subst k1;subst k2
 have e0 : ¬ q < 1:=by omega
 have e1 : ¬ l < q:=by omega
 have e3 : ¬ F≤f:=by omega
 simp[takeS,looseZ,e0,e1,e3]
theorem ended_in {s : StZ} {F : Int} (h0 : 0≤s.k) (h1 : s.k≤8) : 0≤(endedS s F).k∧(endedS s F).k≤8:=by
 unfold endedS
 repeat' split
 all_goals first|(simp;done)|exact ⟨h0,h1⟩
theorem idl_ne {a b x y : Int} (hx0 : 0≤x) (hx : x < a * b) (hi : idl a b x y = false) : x ≠ y:=by
 intro e
 subst e
 unfold idl at hi
 simp at hi
section
variable {W : WZ} {x y sh : Int}
theorem alone_hold {v : Int} (hi : idl W.a W.b x y = false) (hx0 : 0≤x) (hxl : 2 * x + 1 < W.ws.length) (hne : x ≠ y) (hy0 : 0≤y) (hw : wantZ W.c W.d sh (stateZ (sAt W x)) (termsZ (tAt W x)) = true) (hv : wordS (holdS (stateZ (sAt W x))) = some v) :
  runT W (tz0 3 x 0 y sh) 5 = (⟨3,x,0,y,sh,5,sAt W x,sAt W y,termsZ (tAt W x),termsZ (tAt W y),true,false,false,0,0,0,0,zeroS,zeroS⟩,tickW (tickW (putW (tickW (tickW W)) (2 * x).toNat v))):=by
 have r0 : runT W (tz0 3 x 0 y sh) 0 = (⟨3,x,0,y,sh,0,0,0,⟨0,0,0,0,0⟩,⟨0,0,0,0,0⟩,false,false,false,0,0,0,0,zeroS,zeroS⟩,W):=rfl
 have r1:=run_next r0 (q0 hi)
 have r2:=run_next r1 (q1 hi)
 have r3:=run_next r2 (q2y (v:=v) hi hw hv rfl)
 have r4:=run_next r3 (q3 hi)
 have r5:=run_next r4 (q4 hi)
 simp only[tAt_tick,sAt_tick]at r5
 rw[tAt_puts (by omega),sAt_putn (by omega)]at r5
 exact r5
theorem alone_tailN {v v1 wx wy q p ta en : Int} {tx ty : TmZ} {nx ny s : StZ} (hi : idl W.a W.b x y = false) (hs : sAt W x = v) (hst : stateZ v = holdS s) (hg : goodZ W.f W.g s) (hv : wordS s = some v1) :
  ∃ T' W',runT W ⟨3,x,0,y,sh,6,wx,wy,tx,ty,true,false,false,q,p,ta,en,nx,ny⟩ 8 = (T',W')∧T'.made = false∧W'.ws = W.ws.set (2 * x).toNat [.int .u64 v1]∧W'.lg = W.lg:=by
 have r0 : runT W ⟨3,x,0,y,sh,6,wx,wy,tx,ty,true,false,false,q,p,ta,en,nx,ny⟩ 0 = _:=rfl
 have r1:=run_next r0 (q6 hi)
 have r2:=run_next r1 (q7 (v:=v1) (n2:=s) hi (by rw[hs,hst];exact good_rel hg) hv rfl)
 have ho : overZ s.k = false:=by rw[hg.1];rfl
 rw[ho]at r2
 have r3:=run_next r2 (q8 hi)
 have r4:=run_next r3 (q9 hi)
 have r5:=run_next r4 (qn (by omega) (by omega) hi)
 have r6:=run_next r5 (qn (by omega) (by omega) hi)
 have r7:=run_next r6 (qn (by omega) (by omega) hi)
 have r8:=run_next r7 (q13 hi)
 have he : (endS s (tickW W).t).2 = false:=by unfold endS;rw[hg.1];rfl
 rw[he]at r8
 exact ⟨_,_,r8,rfl,rfl,rfl⟩
theorem alone_tailM {v v2 wx wy q p ta en : Int} {tx ty : TmZ} {nx ny n2 : StZ} (hi : idl W.a W.b x y = false) (hs : sAt W x = v) (hr : releaseS (stateZ v) q W.f = (n2,0)) (hv : wordS n2 = some v2)
  (hA : W.a * W.b≤24) (hF : 1≤W.f) (hG : W.g≤15) (hl : W.ws.length = (W.a * W.b * 2 + W.a * W.b * W.g * (W.f + 1)).toNat) (hx0 : 0≤x) (hx : x < W.a * W.b) (hy0 : 0≤y) (hy : y < W.a * W.b) (hne : x ≠ y) (g1 : 1≤n2.g) (g2 : n2.g≤W.g) (f1 : 1≤n2.f) (f2 : n2.f≤W.f) (k1 : 1≤ny.g) (k2 : ny.g≤W.g) (l1 : 1≤ny.f) (l2 : ny.f≤W.f)
  (q0 : 0≤q) (q1 : q≤65535) (p0 : 0≤p) (p1 : p≤65535) (t0 : 0≤ta) (t1 : ta≤1000000) :
  ∃ T' W',runT W ⟨3,x,0,y,sh,6,wx,wy,tx,ty,true,true,false,q,p,ta,en,nx,ny⟩ 8 = (T',W')∧T'.made = true∧sAt W' x = v2∧sAt W' y = sAt W y∧(∃ r,W'.lg = W.lg ++ r)
   ∧ recordZ (wAt W'.ws (slotZ W.a W.b W.f W.g x n2.g (n2.f - 1)).toNat) = ⟨1,q,p,ta,y,ny.g⟩∧recordZ (wAt W'.ws (slotZ W.a W.b W.f W.g y ny.g (ny.f - 1)).toNat) = ⟨1,q,p,ta,x,n2.g⟩:=by
 have r0 : runT W ⟨3,x,0,y,sh,6,wx,wy,tx,ty,true,true,false,q,p,ta,en,nx,ny⟩ 0 = _:=rfl
 have r1:=run_next r0 (q6 hi)
 have r2:=run_next r1 (q7 (v:=v2) (n2:=n2) hi (by rw[hs];exact hr) hv rfl)
 have hsl:=slot_hi (f:=W.f) hx0 hx g1 g2 (show 0≤n2.f - 1 by omega) (by omega)
 have hsl2:=slot_hi (f:=W.f) hy0 hy k1 k2 (show 0≤ny.f - 1 by omega) (by omega)
 have hpos : 0≤W.a * W.b * 2 + W.a * W.b * W.g * (W.f + 1):=by omega
 obtain ⟨V,hV⟩ : ∃ V,(if overZ n2.k = true then tellW (putW (tickW W) (2 * x).toNat v2) 7 x n2.g 0 0 0 0 n2.k else putW (tickW W) (2 * x).toNat v2) = V:=⟨_,rfl⟩
 rw[hV]at r2
 have vf : V.a = W.a∧V.b = W.b∧V.f = W.f∧V.g = W.g∧V.ws = W.ws.set (2 * x).toNat [.int .u64 v2]∧∃ r,V.lg = W.lg ++ r:=by
  rw[← hV]
  split
  ·exact ⟨rfl,rfl,rfl,rfl,rfl,_,rfl⟩
  ·exact ⟨rfl,rfl,rfl,rfl,rfl,[],(List.append_nil _).symm⟩
 obtain ⟨va,vb,vf,vg,vw,vr,vl⟩:=vf
 have vlen : V.ws.length = W.ws.length:=by rw[vw,List.length_set]
 have hi' : idl V.a V.b x y = false:=by rw[va,vb];exact hi
 have r3:=run_next r2 (q8 hi')
 have r4:=run_next r3 (q9 hi')
 have r5:=run_next r4 (q10 hi')
 obtain ⟨A,hA'⟩ : ∃ A,noteW V x n2.g (n2.f - 1) ⟨1,q,p,ta,y,ny.g⟩ = A:=⟨_,rfl⟩
 rw[hA']at r5
 obtain ⟨aa,ab,af,ag,al,an,aw⟩:=note_fr2 V x n2.g (n2.f - 1) ⟨1,q,p,ta,y,ny.g⟩
 rw[hA']at aa ab af ag al an aw
 rw[va,vb,vf,vg]at aw
 have r6:=run_next r5 (q11 (by rw[aa,ab];exact hi'))
 obtain ⟨B,hB⟩ : ∃ B,noteW A y ny.g (ny.f - 1) ⟨1,q,p,ta,x,n2.g⟩ = B:=⟨_,rfl⟩
 rw[hB]at r6
 obtain ⟨ba,bb,bf,bg,bl,bn,bw⟩:=note_fr2 A y ny.g (ny.f - 1) ⟨1,q,p,ta,x,n2.g⟩
 rw[hB]at ba bb bf bg bl bn bw
 rw[aa,ab,af,ag,va,vb,vf,vg]at bw
 have r7:=run_next r6 (q12 (by rw[ba,bb,aa,ab];exact hi'))
 obtain ⟨C,hC⟩ : ∃ C,(if (endS ny ta).2 = true then noteW B y ny.g B.f (endS ny ta).1 else B) = C:=⟨_,rfl⟩
 rw[hC]at r7
 have cf : C.a = W.a∧C.b = W.b∧C.f = W.f∧C.g = W.g∧C.lg = B.lg∧∀ i : Nat,(slotZ W.a W.b W.f W.g y ny.g W.f < 0∨slotZ W.a W.b W.f W.g y ny.g W.f ≠ i)→wAt C.ws i = wAt B.ws i:=by
  rw[← hC]
  split
  ·obtain ⟨c1,c2,c3,c4,c5,c6,c7⟩:=note_fr2 B y ny.g B.f (endS ny ta).1
   rw[ba,bb,bf,bg,aa,ab,af,ag,va,vb,vf,vg]at c7
   rw[bf,af,vf]at c1 c2 c3 c4 c5 ⊢
   exact ⟨by rw[c1,ba,aa,va],by rw[c2,bb,ab,vb],c3,by rw[c4,bg,ag,vg],c5,c7⟩
  ·exact ⟨by rw[ba,aa,va],by rw[bb,ab,vb],by rw[bf,af,vf],by rw[bg,ag,vg],rfl,fun _ _=>rfl⟩
 obtain ⟨ca,cb,cf,cg,cl,cw⟩:=cf
 have r8:=run_next r7 (q13 (by rw[ca,cb];exact hi))
 obtain ⟨D,hD⟩ : ∃ D,(if (endS n2 (tickW W).t).2 = true then noteW C x n2.g C.f (endS n2 (tickW W).t).1 else C) = D:=⟨_,rfl⟩
 rw[hD]at r8
 have df : D.lg = C.lg∧∀ i : Nat,(slotZ W.a W.b W.f W.g x n2.g W.f < 0∨slotZ W.a W.b W.f W.g x n2.g W.f ≠ i)→wAt D.ws i = wAt C.ws i:=by
  rw[← hD]
  split
  ·obtain ⟨c1,c2,c3,c4,c5,c6,c7⟩:=note_fr2 C x n2.g C.f (endS n2 (tickW W).t).1
   rw[ca,cb,cf,cg]at c7
   rw[cf]at c5 ⊢
   exact ⟨c5,c7⟩
  ·exact ⟨rfl,fun _ _=>rfl⟩
 obtain ⟨dl,dw⟩:=df
 have s1:=slot_lo (a:=W.a) (b:=W.b) (f:=W.f) (g:=W.g) (x:=x) (gen:=n2.g) (n:=W.f) (by omega) (by omega)
 have s2:=slot_lo (a:=W.a) (b:=W.b) (f:=W.f) (g:=W.g) (x:=y) (gen:=ny.g) (n:=W.f) (by omega) (by omega)
 have low : ∀ i : Nat,(i : Int) < W.a * W.b * 2→wAt D.ws i = wAt V.ws i:=fun i hi=>by
  rw[dw i (by omega),cw i (by omega),bw i (by omega),aw i (by omega)]
 have nx1 : slotZ W.a W.b W.f W.g x n2.g W.f ≠ slotZ W.a W.b W.f W.g x n2.g (n2.f - 1):=fun h=>by
  have:=slot_inj hx0 hx g1 g2 (by omega) (by omega) hx0 hx g1 g2 (by omega) (by omega) h
  omega
 have nx2 : slotZ W.a W.b W.f W.g y ny.g W.f ≠ slotZ W.a W.b W.f W.g x n2.g (n2.f - 1):=fun h=>by
  have:=slot_inj hy0 hy k1 k2 (by omega) (by omega) hx0 hx g1 g2 (by omega) (by omega) h
  omega
 have nx3 : slotZ W.a W.b W.f W.g y ny.g (ny.f - 1) ≠ slotZ W.a W.b W.f W.g x n2.g (n2.f - 1):=fun h=>by
  have:=slot_inj hy0 hy k1 k2 (by omega) (by omega) hx0 hx g1 g2 (by omega) (by omega) h
  omega
 have ny1 : slotZ W.a W.b W.f W.g x n2.g W.f ≠ slotZ W.a W.b W.f W.g y ny.g (ny.f - 1):=fun h=>by
  have:=slot_inj hx0 hx g1 g2 (by omega) (by omega) hy0 hy k1 k2 (by omega) (by omega) h
  omega
 have ny2 : slotZ W.a W.b W.f W.g y ny.g W.f ≠ slotZ W.a W.b W.f W.g y ny.g (ny.f - 1):=fun h=>by
  have:=slot_inj hy0 hy k1 k2 (by omega) (by omega) hy0 hy k1 k2 (by omega) (by omega) h
  omega
 obtain ⟨vx,hvx⟩:=recW_mk (r:=⟨1,q,p,ta,y,ny.g⟩) (by simp) (by simp) q0 q1 p0 p1 t0 t1 hy0 (by simp only;omega) (by simp only;omega) (by simp only;omega)
 obtain ⟨vy,hvy⟩:=recW_mk (r:=⟨1,q,p,ta,x,n2.g⟩) (by simp) (by simp) q0 q1 p0 p1 t0 t1 hx0 (by simp only;omega) (by simp only;omega) (by simp only;omega)
 have wx1:=note_rd (W:=V) (x:=x) (g:=n2.g) (n:=n2.f - 1) hvx (by rw[va,vb,vf,vg];omega) (by rw[va,vb,vf,vg,vlen,hl];omega)
 rw[hA',va,vb,vf,vg]at wx1
 have wy1:=note_rd (W:=A) (x:=y) (g:=ny.g) (n:=ny.f - 1) hvy (by rw[aa,ab,af,ag,va,vb,vf,vg];omega) (by rw[aa,ab,af,ag,va,vb,vf,vg,an,vlen,hl];omega)
 rw[hB,aa,ab,af,ag,va,vb,vf,vg]at wy1
 refine ⟨_,_,r8,rfl,?_,?_,?_,?_,?_⟩
 ·show wAt D.ws (2 * x).toNat = v2
  rw[low _ (by omega),vw]
  exact wAt_eq (by omega)
 ·show wAt D.ws (2 * y).toNat = wAt W.ws (2 * y).toNat
  rw[low _ (by omega),vw]
  exact wAt_ne (by omega)
 ·exact ⟨vr,by rw[dl,cl,bl,al,vl]⟩
 ·rw[dw _ (by omega),cw _ (by omega),bw _ (by omega),wx1]
  exact recW_rt hvx
 ·rw[dw _ (by omega),cw _ (by omega),wy1]
  exact recW_rt hvy
end
end Go.W
