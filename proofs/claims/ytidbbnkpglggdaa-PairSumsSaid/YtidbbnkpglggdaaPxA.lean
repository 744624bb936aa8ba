/- A try that is alone: what its fourteen steps come to. A try that is alone: its steps, one by one. A try that is alone: what it comes to. A try that is alone: what it comes to, in one law. What a lone try does to all cells, and what it leaves as it was. -/
import Derived.Test.YtidbbnkpglggdaaPsP2
import Derived.Test.YtidbbnkpglggdaaPsX
import Derived.Test.YtidbbnkpglggdaaPqB
namespace Go.W
open Go.Proofs
set_option linter.unusedSimpArgs false
set_option linter.unusedVariables false
set_option maxHeartbeats 8000000
attribute [local irreducible] Wm
attribute [local simp] nmap lkp mkPl prs prsL prT ddL idL CRenL CRen Ren RenL NObj.none CRenLL
def d52:List AV→Option Ans
 | []=>some ⟨.tup [.agg [.int .i64 2,.int .i64 1,.int .i64 1,.int .i64 1,.int .i64 0,.int .i64 2,.int .i64 1],.os 0 10 [[.int .i64 2,.bool false,.int .i64 1,.int .i64 5,.int .i64 0,.int .i64 0,.int .i64 0,.int .i64 10,.int .i64 1,.int .i64 9],[.int .i64 2,.bool false,.int .i64 1,.int .i64 3,.int .i64 0,.int .i64 0,.int .i64 1,.int .i64 8,.int .i64 1,.int .i64 9]]],[]⟩
 | _=>none
theorem ok52:NOk [] d52:=by
 intro xs a h
 unfold d52 at h
 (repeat' (split at h))<;>first|(cases h;done)|(injection h with h;subst h;refine ⟨Ends_of ?_,?_⟩<;>simp)
theorem s52:Sound Try.prog 52 (nestS [] d52 ok52):=by
 refine nest_sound Try.func52 nm52 rc52 rv52 ok52 (fun xs a h=>?_) fun xs a h w0 S hS=>?_
 ·unfold d52 at h
  (repeat' (split at h))<;>first|(cases h;done)|exact Nat.le_of_ble_eq_true rfl
 unfold d52 at h
 split at h
 ·skip
  injection h with h
  subst h
  have hE:SoundAll Try.prog (EL []):=EL_sound (by simp)
  unfold m52
  repeat' with_reducible (first
   | refine ZR.h ?_ | refine zI (by decide) ?_
   | ((first | refine zK hE ?_ | refine zL hE mixT ?_);intro K hK;simp[KR.ks,KD.ks,KD.cl,q52_0,q52_1,q52_2,q52_3,q52_4];(repeat' (first | refine hK _ _ ?_ | refine And.intro ?_ ?_ | (intro hc;try subst hc)))<;>(try clear hK K))
   | (refine zJ (b:=_) (by with_unfolding_all rfl) (fun hc=>?_) (fun hc=>?_)<;>simp at hc<;>(try subst hc)))
  all_goals first|(simp;done)|(simp at *;omega)|((try simp);refine Imp.auto (by kernel_rfl) ?_ ?_<;>simp[NLe])
 ·cases h
theorem e12 {W:WZ} {T:TZ} (hT:okT T=true) (hW:okW W=true) (hs:smW W=true) (u v u1 u2 u3 u4:Nat):d12 [.op u (tzC T),.op v (wzL W u1 u2 u3 u4)]=some ⟨.tup [],[.cells 0 (tzC (StepT W T).1),.cells 0 (wzC (StepT W T).2)]⟩:=by
 simp only[d12,tzOf_C,wzOf_C]
 rw[if_pos ⟨hT,hW,hs⟩]
def runT (W:WZ) (T:TZ):Nat→TZ×WZ
 | 0=>(T,W)
 | k+1=>StepT (runT W T k).2 (runT W T k).1
theorem run_ok {W:WZ} {T:TZ} (hT:okT T=true) (hW:okW W=true):∀ k,okT (runT W T k).1=true∧okW (runT W T k).2=true∧(runT W T k).2.s≤W.s+k∧(runT W T k).2.lg.length≤W.lg.length+k
 | 0=>⟨hT,hW,by simp[runT],by simp[runT]⟩
 | k+1=>by
  obtain ⟨h1,h2,h3,h4⟩:=run_ok hT hW k
  have h5:=StepT_fr (runT W T k).2 (runT W T k).1
  refine ⟨StepT_T h1 h2,StepT_ok h2 _,?_,?_⟩
  ·show (StepT (runT W T k).2 (runT W T k).1).2.s≤_
   omega
  ·show (StepT (runT W T k).2 (runT W T k).1).2.lg.length≤_
   omega
def awW:List (List AV):=match bothZ 2 1 1 1 0 2 1 [[.int .i64 2,.bool false,.int .i64 1,.int .i64 5,.int .i64 0,.int .i64 0,.int .i64 0,.int .i64 10,.int .i64 1,.int .i64 9],[.int .i64 2,.bool false,.int .i64 1,.int .i64 3,.int .i64 0,.int .i64 0,.int .i64 1,.int .i64 8,.int .i64 1,.int .i64 9]] 2 with
 | some (ws,_,_)=>ws
 | none=>[]
def awS:List (List AV):=match bothZ 2 1 1 1 0 2 1 [[.int .i64 2,.bool false,.int .i64 1,.int .i64 5,.int .i64 0,.int .i64 0,.int .i64 0,.int .i64 10,.int .i64 1,.int .i64 9],[.int .i64 2,.bool false,.int .i64 1,.int .i64 3,.int .i64 0,.int .i64 0,.int .i64 1,.int .i64 8,.int .i64 1,.int .i64 9]] 2 with
 | some (_,S,_)=>S
 | none=>[]
def awT:List (List AV):=match bothZ 2 1 1 1 0 2 1 [[.int .i64 2,.bool false,.int .i64 1,.int .i64 5,.int .i64 0,.int .i64 0,.int .i64 0,.int .i64 10,.int .i64 1,.int .i64 9],[.int .i64 2,.bool false,.int .i64 1,.int .i64 3,.int .i64 0,.int .i64 0,.int .i64 1,.int .i64 8,.int .i64 1,.int .i64 9]] 2 with
 | some (_,_,T)=>T
 | none=>[]
theorem aw_both:bothZ 2 1 1 1 0 2 1 [[.int .i64 2,.bool false,.int .i64 1,.int .i64 5,.int .i64 0,.int .i64 0,.int .i64 0,.int .i64 10,.int .i64 1,.int .i64 9],[.int .i64 2,.bool false,.int .i64 1,.int .i64 3,.int .i64 0,.int .i64 0,.int .i64 1,.int .i64 8,.int .i64 1,.int .i64 9]] 2=some (awW,awS,awT):=by kernel_rfl
def aw0:WZ:=⟨2,1,1,1,0,2,1,awW,4,0,[]⟩
theorem aw_ok:okW aw0=true:=by kernel_rfl
theorem aw_T:okT (tz0 3 0 0 1 0)=true:=by kernel_rfl
theorem aw_end:(runT aw0 (tz0 3 0 0 1 0) 14).1.made=true∧(runT aw0 (tz0 3 0 0 1 0) 14).1.pc=14∧(stateZ (sAt (runT aw0 (tz0 3 0 0 1 0) 14).2 1)).k=5∧(runT aw0 (tz0 3 0 0 1 0) 14).2.a=2∧(runT aw0 (tz0 3 0 0 1 0) 14).2.b=1:=by
 refine ⟨?_,?_,?_,?_,?_⟩<;>kernel_rfl
theorem aw_log:(runT aw0 (tz0 3 0 0 1 0) 14).2.lg=[evC 2 0 1 1 1 3 9 0 0]:=by kernel_rfl
def d10:List AV→Option Ans
 | []=>some ⟨.bool true,[]⟩
 | _=>none
def I10 (T:TZ) (W:WZ) (k:Nat):St:=⟨[(3,.ptr (.top 0) 0 0),(6,.ptr (.top 1) 0 0),(24,.int .i64 k)],[(0,.cells 0 (wzC W)),(1,.cells 0 (tzC T))],2⟩
theorem ok10:NOk [] d10:=by
 intro xs a h
 unfold d10 at h
 (repeat' (split at h))<;>first|(cases h;done)|(injection h with h;subst h;refine ⟨Ends_of ?_,?_⟩<;>simp)
theorem s10:Sound Try.prog 10 (nestS [] d10 ok10):=by
 refine nest_sound Try.func10 nm10 rc10 rv10 ok10 (fun xs a h=>?_) fun xs a h w0 S hS=>?_
 ·unfold d10 at h
  (repeat' (split at h))<;>first|(cases h;done)|exact Nat.le_of_ble_eq_true rfl
 unfold d10 at h
 split at h
 ·skip
  injection h with h
  subst h
  have hE:SoundAll Try.prog (EL [(52,nestS [] d52 ok52),(9,nestS [(10,false)] d9 ok9),(11,nestS [] d11 ok11),(12,nestS [(35,true),(10,true)] d12 ok12),(14,nestS [(10,true)] d14 ok14),(15,nestS [(35,false)] d15 ok15),(13,nestS [(35,false)] d13 ok13)]):=EL_sound (by simp only[List.mem_cons,List.not_mem_nil,or_false,forall_eq_or_imp,forall_eq];exact ⟨s52,s9,s11,s12,s14,s15,s13⟩)
  obtain ⟨aT,aW,hr⟩:∃ a b,(tz0 3 0 0 1 0)=a∧aw0=b:=⟨_,_,rfl,rfl⟩
  have hb:d9 [.agg [.int .i64 2,.int .i64 1,.int .i64 1,.int .i64 1,.int .i64 0,.int .i64 2,.int .i64 1],.os 0 10 [[.int .i64 2,.bool false,.int .i64 1,.int .i64 5,.int .i64 0,.int .i64 0,.int .i64 0,.int .i64 10,.int .i64 1,.int .i64 9],[.int .i64 2,.bool false,.int .i64 1,.int .i64 3,.int .i64 0,.int .i64 0,.int .i64 1,.int .i64 8,.int .i64 1,.int .i64 9]]]=some ⟨.tup [.op 0 (wzC aw0),.op 0 (qC 2 1 1 1 0 2 1 awS awT),.bool true],[.free]⟩:=by
   simp only[d9]
   rw[if_pos (by kernel_rfl),if_pos (by kernel_rfl)]
   simp only[bothA,List.length_cons,List.length_nil]
   rw[aw_both]
   rfl
  obtain ⟨hcf0,hw0,hwl0,hs00,ht00,ht10,hlg0⟩:=okW_ex aw_ok
  have hT0:=w_t0 hw0
  have hC0:=w_cl hw0
  have hTl0:=l_t0 hlg0
  have hCl0:=l_cl hlg0
  have hqS:t0LL awS=awS:=by kernel_rfl
  have hqS2:clLL awS=true:=by kernel_rfl
  have hqT:t0LL awT=awT:=by kernel_rfl
  have hqT2:clLL awT=true:=by kernel_rfl
  have hrun:=run_ok aw_T aw_ok
  have hend:=aw_end
  have hlog:=aw_log
  obtain ⟨A0,hA0⟩:∃ z,aw0=z:=⟨_,rfl⟩
  obtain ⟨qS,hqSe⟩:∃ z,awS=z:=⟨_,rfl⟩
  obtain ⟨qT,hqTe⟩:∃ z,awT=z:=⟨_,rfl⟩
  have hs4:A0.s=4:=by rw[← hA0];rfl
  have hl0:A0.lg.length=0:=by rw[← hA0];rfl
  rw[hA0]at hb hT0 hC0 hTl0 hCl0 hrun hend hlog
  rw[hqSe]at hb hqS hqS2
  rw[hqTe]at hb hqT hqT2
  clear hw0 hwl0 hs00 ht00 ht10 hlg0 hcf0 hr aT aW
  have hwzs:∀ T0,tzC T0=tzC T0:=fun _=>rfl
  simp only[wzC,qC]at hb
  unfold m10
  repeat' with_reducible (first
   | refine ZR.h ?_ | refine zI (by decide) ?_
   | (refine zK hE ?_;intro K hK;simp[KR.ks,q10_0,q10_1,q10_2,q10_3,q10_4,q10_5,q10_6,q10_7,q10_8,q10_9,q10_10,q10_11,hb,hT0,hC0,hTl0,hCl0,hqS,hqS2,hqT,hqT2,tzC,tz0,zeroS,d52,d11];(repeat' (first | refine hK _ _ ?_ | refine And.intro ?_ ?_ | (intro hc;try subst hc)))<;>(try clear hK K))
   | (refine zJ (b:=_) (by with_unfolding_all rfl) (fun hc=>?_) (fun hc=>?_)<;>simp at hc<;>(try subst hc)))
  all_goals (refine Wm_loop (fun k=>I10 (runT A0 (tz0 3 0 0 1 0) k).1 (runT A0 (tz0 3 0 0 1 0) k).2 k) (fun k=>k≤14) (fun k=>14 - k) 0 (Nat.zero_le _) ?_ ?_)
  ·simp only[I10,runT,wzC,tzC,tz0,zeroS]
   rw[hS]
   refine Imp.auto (by kernel_rfl) ?_ ?_<;>simp[NLe,mkPlX,hT0,hC0,hTl0,hCl0,hqS,hqS2,hqT,hqT2]
  ·intro k hk
   replace hk:k≤14:=hk
   obtain ⟨kT,kW,ks,kl⟩:=hrun k
   have hsm:smW (runT A0 (tz0 3 0 0 1 0) k).2=true:=decide_eq_true (by omega)
   have hst:=e12 kT kW hsm
   have hsucc:runT A0 (tz0 3 0 0 1 0) (k+1)=StepT (runT A0 (tz0 3 0 0 1 0) k).2 (runT A0 (tz0 3 0 0 1 0) k).1:=rfl
   have kW2:=(hrun (k+1)).2.1
   by_cases hk14:k<14
   ·obtain ⟨r,hr⟩:∃ r,runT A0 (tz0 3 0 0 1 0) k=r:=⟨_,rfl⟩
    obtain ⟨r2,hr2⟩:∃ r,runT A0 (tz0 3 0 0 1 0) (k+1)=r:=⟨_,rfl⟩
    rw[hr]at kT kW hst hsucc
    rw[hr2]at hsucc kW2
    rw[← hsucc]at hst
    rw[hr]
    obtain ⟨hcf,hw,hwl,hs0,ht0,ht1,hlg⟩:=okW_ex kW
    have hT:=w_t0 hw
    have hC:=w_cl hw
    have hTl:=l_t0 hlg
    have hCl:=l_cl hlg
    obtain ⟨hcf2,hw2,hwl2,hs02,ht02,ht12,hlg2⟩:=okW_ex kW2
    have hT2:=w_t0 hw2
    have hC2:=w_cl hw2
    have hTl2:=l_t0 hlg2
    have hCl2:=l_cl hlg2
    have hkI:(k:Int)<14:=by omega
    have ww:IntKind.wrap .i64 ((k:Int)+1)=(k:Int)+1:=wrap_in (by omega) (by omega)
    simp only[I10,tzC,wzC,wzL]at hst⊢
    repeat' with_reducible (first
     | refine ZR.h ?_ | refine zI (by decide) ?_
     | (refine zK hE ?_;intro K hK;simp[KR.ks,q10_0,q10_1,q10_2,q10_3,q10_4,q10_5,q10_6,q10_7,q10_8,q10_9,q10_10,q10_11,hT,hC,hTl,hCl,hT2,hC2,hTl2,hCl2,hkI,hst,ww,d52,d11];(repeat' (first | refine hK _ _ ?_ | refine And.intro ?_ ?_ | (intro hc;try subst hc)))<;>(try clear hK K))
     | (refine zJ (b:=_) (by with_unfolding_all rfl) (fun hc=>?_) (fun hc=>?_)<;>simp at hc<;>(try subst hc)))
    all_goals refine ⟨k+1,hk14,Nat.sub_lt_sub_left hk14 (Nat.lt_succ_self k),?_⟩
    all_goals simp only[hr2]
    all_goals rw[hS]
    all_goals (refine Imp.auto (by kernel_rfl) ?_ ?_<;>simp[NLe,mkPlX,hT,hC,hTl,hCl,hT2,hC2,hTl2,hCl2])
   ·have hke:k=14:=by omega
    subst hke
    clear hst hsucc kW2
    obtain ⟨hm,hpc,hk5,ha2,hb1⟩:=hend
    have hlo:=smW_lo hsm
    have h14:=e14 kW hlo (x:=1) (by omega) (by rw[ha2,hb1];omega)
    obtain ⟨r,hr⟩:∃ r,runT A0 (tz0 3 0 0 1 0) 14=r:=⟨_,rfl⟩
    rw[hr]at kT kW hm hpc hk5 ha2 hb1 h14 hlog
    rw[hr]
    obtain ⟨hcf,hw,hwl,hs0,ht0,ht1,hlg⟩:=okW_ex kW
    have hT:=w_t0 hw
    have hC:=w_cl hw
    have h13:=e13 r.1
    rw[hpc]at h13
    simp only[show decide ((14:Int)≤14)=true from rfl]at h13
    have h15:∀ u,d15 [.op u (tzC r.1)]=some ⟨.bool true,[.free]⟩:=fun u=>by simp only[d15,tzOf_C,hm]
    obtain ⟨st,hst⟩:∃ z,stateZ (sAt r.2 1)=z:=⟨_,rfl⟩
    rw[hst]at h14 hk5
    simp only[I10,tzC,wzC,wzL,tickW,stA,hlog,evC]at h14 h13 h15⊢
    repeat' with_reducible (first
     | refine ZR.h ?_ | refine zI (by decide) ?_
     | (refine zK hE ?_;intro K hK;simp[KR.ks,q10_0,q10_1,q10_2,q10_3,q10_4,q10_5,q10_6,q10_7,q10_8,q10_9,q10_10,q10_11,hT,hC,h14,h13,h15,hk5,d52,d11];(repeat' (first | refine hK _ _ ?_ | refine And.intro ?_ ?_ | (intro hc;try subst hc)))<;>(try clear hK K))
     | (refine zJ (b:=_) (by with_unfolding_all rfl) (fun hc=>?_) (fun hc=>?_)<;>simp at hc<;>(try subst hc)))
    all_goals first|(simp;done)|(simp at *;omega)|((try simp[hT,hC]);refine Imp.auto (by kernel_rfl) ?_ ?_<;>simp[NLe,hT,hC])
 ·cases h
end Go.W

namespace Go.W
open Go.Proofs
set_option linter.unusedSimpArgs false
set_option linter.unusedVariables false
set_option maxHeartbeats 8000000
theorem packK_1 {els vs:List (List AV)} {k:Nat} {v:Int} (h:packK els vs (k+1)=some v):∃ x,packK els vs k=some x∧0≤cellI (vs.getD k [])∧cellI (vs.getD k [])≤2 ^ (cellI (els.getD k [])).toNat - 1∧v=x+cellI (vs.getD k [])*2 ^ (lowZ els k).toNat:=by
 simp only[packK]at h
 cases hx:packK els vs k with
 | none=>rw[hx]at h;cases h
 | some x =>
  rw[hx]at h
  simp only at h
  by_cases h1:cellI (vs.getD k [])<0
  ·rw[if_pos h1]at h;cases h
  ·rw[if_neg h1]at h
   by_cases h2:2 ^ (cellI (els.getD k [])).toNat - 1<cellI (vs.getD k [])
   ·rw[if_pos h2]at h;cases h
   ·rw[if_neg h2]at h
    injection h with h
    exact ⟨x,rfl,by omega,by omega,h.symm⟩
theorem packK_2 {els vs:List (List AV)} {k:Nat} {x:Int} (hx:packK els vs k=some x) (h1:0≤cellI (vs.getD k [])) (h2:cellI (vs.getD k [])≤2 ^ (cellI (els.getD k [])).toNat - 1):packK els vs (k+1)=some (x+cellI (vs.getD k [])*2 ^ (lowZ els k).toNat):=by
 simp only[packK,hx]
 rw[if_neg (by omega),if_neg (by omega)]
theorem wordS_rt {s:StZ} {v:Int} (h:wordS s=some v):stateZ v=s∧0≤s.k∧s.k≤8∧0≤s.g∧s.g≤255∧0≤s.l∧s.l≤65535∧0≤s.f∧s.f≤255:=by
 unfold wordS at h
 by_cases hk:8<s.k
 ·rw[if_pos hk]at h;cases h
 rw[if_neg hk]at h
 obtain ⟨x4,h4,a4,b4,e4⟩:=packK_1 h
 obtain ⟨x3,h3,a3,b3,e3⟩:=packK_1 h4
 obtain ⟨x2,h2,a2,b2,e2⟩:=packK_1 h3
 obtain ⟨x1,h1,a1,b1,e1⟩:=packK_1 h2
 obtain ⟨x0,h0,a0,b0,e0⟩:=packK_1 h1
 simp only[packK,Option.some.injEq]at h0
 subst h0 e0 e1 e2 e3 e4
 simp[cellI,lowZ]at a0 b0 a1 b1 a2 b2 a3 b3 a4 b4⊢
 obtain ⟨k,fl,g,l,f⟩:=s
 simp only at hk a0 b0 a1 b1 a2 b2 a3 b3 a4 b4⊢
 refine ⟨?_,a0,by omega,a2,b2,a3,b3,a4,b4⟩
 cases fl
 ·simp[stateZ,getZ]
  omega
 ·simp[stateZ,getZ]
  omega
theorem wordS_mk {s:StZ} (h0:0≤s.k) (h1:s.k≤8) (h2:0≤s.g) (h3:s.g≤255) (h4:0≤s.l) (h5:s.l≤65535) (h6:0≤s.f) (h7:s.f≤255):∃ v,wordS s=some v:=by
 unfold wordS
 rw[if_neg (by omega)]
 obtain ⟨k,fl,g,l,f⟩:=s
 simp only at h0 h1 h2 h3 h4 h5 h6 h7⊢
 refine ⟨_,packK_2 (packK_2 (packK_2 (packK_2 (packK_2 rfl ?_ ?_) ?_ ?_) ?_ ?_) ?_ ?_) ?_ ?_⟩<;>cases fl<;>simp[cellI]<;>omega
theorem wordT_rt {t:TmZ} {v:Int} (h:wordT t=some v):termsZ v=t:=by
 unfold wordT at h
 obtain ⟨x4,h4,a4,b4,e4⟩:=packK_1 h
 obtain ⟨x3,h3,a3,b3,e3⟩:=packK_1 h4
 obtain ⟨x2,h2,a2,b2,e2⟩:=packK_1 h3
 obtain ⟨x1,h1,a1,b1,e1⟩:=packK_1 h2
 obtain ⟨x0,h0,a0,b0,e0⟩:=packK_1 h1
 simp only[packK,Option.some.injEq]at h0
 subst h0 e0 e1 e2 e3 e4
 simp[cellI,lowZ]at a0 b0 a1 b1 a2 b2 a3 b3 a4 b4⊢
 obtain ⟨n,s,p,l,u⟩:=t
 simp only at a0 b0 a1 b1 a2 b2 a3 b3 a4 b4⊢
 simp[termsZ,getZ]
 omega
end Go.W

namespace Go.W
open Go.Proofs
set_option linter.unusedSimpArgs false
set_option linter.unusedVariables false
set_option maxHeartbeats 8000000
theorem wAt_eq {ws:List (List AV)} {i:Nat} {v:Int} (h:i<ws.length):wAt (ws.set i [.int .u64 v]) i=v:=by
 unfold wAt;rw[List.getElem?_set_self h]
theorem wAt_ne {ws:List (List AV)} {i j:Nat} {c:List AV} (h:i≠j):wAt (ws.set i c) j=wAt ws j:=by
 unfold wAt;rw[List.getElem?_set_ne h]
def idl (a b x y:Int):Bool:=decide (ownZ a b x<0∨ownZ a b y<0∨ownZ a b x=ownZ a b y)
theorem idle_eq (W:WZ) (T:TZ):idleT W T=idl W.a W.b T.x T.y:=rfl
theorem sAt_put {W:WZ} {x:Int} {v:Int} (h:(2*x).toNat<W.ws.length):sAt (putW W (2*x).toNat v) x=v:=wAt_eq h
theorem sAt_putn {W:WZ} {x y:Int} {v:Int} (h:(2*y).toNat≠(2*x).toNat):sAt (putW W (2*y).toNat v) x=sAt W x:=wAt_ne h
theorem tAt_puts {W:WZ} {x y:Int} {v:Int} (h:(2*y).toNat≠(2*x+1).toNat):tAt (putW W (2*y).toNat v) x=tAt W x:=wAt_ne h
section
variable {W:WZ} {x y sh wx wy q p ta en:Int} {tx ty:TmZ} {held made free:Bool} {nx ny:StZ}
theorem q0 (hi:idl W.a W.b x y=false):StepT W ⟨3,x,0,y,sh,0,wx,wy,tx,ty,held,made,free,q,p,ta,en,nx,ny⟩=(⟨3,x,0,y,sh,1,sAt W x,wy,tx,ty,held,made,free,q,p,ta,en,nx,ny⟩,tickW W):=by
 simp[StepT,stepT,idle_eq,hi]
theorem q1 (hi:idl W.a W.b x y=false):StepT W ⟨3,x,0,y,sh,1,wx,wy,tx,ty,held,made,free,q,p,ta,en,nx,ny⟩=(⟨3,x,0,y,sh,2,wx,wy,termsZ (tAt W x),ty,held,made,free,q,p,ta,en,nx,ny⟩,tickW W):=by
 simp[StepT,stepT,idle_eq,hi]
theorem q3 (hi:idl W.a W.b x y=false):StepT W ⟨3,x,0,y,sh,3,wx,wy,tx,ty,held,made,free,q,p,ta,en,nx,ny⟩=(⟨3,x,0,y,sh,4,wx,sAt W y,tx,ty,held,made,free,q,p,ta,en,nx,ny⟩,tickW W):=by
 simp[StepT,stepT,idle_eq,hi]
theorem q4 (hi:idl W.a W.b x y=false):StepT W ⟨3,x,0,y,sh,4,wx,wy,tx,ty,held,made,free,q,p,ta,en,nx,ny⟩=(⟨3,x,0,y,sh,5,wx,wy,tx,termsZ (tAt W y),held,made,free,q,p,ta,en,nx,ny⟩,tickW W):=by
 simp[StepT,stepT,idle_eq,hi]
end
end Go.W

namespace Go.W
open Go.Proofs
set_option linter.unusedSimpArgs false
set_option linter.unusedVariables false
set_option maxHeartbeats 8000000
section
variable {a b f g x gen n:Int}
theorem slot_lo (hg:0≤g) (hf:0≤f):slotZ a b f g x gen n<0∨a*b*2≤slotZ a b f g x gen n:=by
 unfold slotZ
 repeat' split
 all_goals first|(left;omega)|skip
 right
 have h1:=Int.mul_nonneg (show 0≤x by omega) hg
 have h2:=Int.mul_nonneg (show 0≤x*g+gen - 1 by omega) (show 0≤f+1 by omega)
 omega
end
theorem note_fr2 (W:WZ) (x g n:Int) (r:RcZ):(noteW W x g n r).a=W.a∧(noteW W x g n r).b=W.b∧(noteW W x g n r).f=W.f∧(noteW W x g n r).g=W.g∧(noteW W x g n r).lg=W.lg∧(noteW W x g n r).ws.length=W.ws.length∧∀ i:Nat,(slotZ W.a W.b W.f W.g x g n<0∨slotZ W.a W.b W.f W.g x g n≠i)→wAt (noteW W x g n r).ws i=wAt W.ws i:=by
 unfold noteW
 split
 ·exact ⟨rfl,rfl,rfl,rfl,rfl,rfl,fun _ _=>rfl⟩
 ·split
  ·exact ⟨rfl,rfl,rfl,rfl,rfl,rfl,fun _ _=>rfl⟩
  ·split
   ·exact ⟨rfl,rfl,rfl,rfl,rfl,rfl,fun _ _=>rfl⟩
   ·exact ⟨rfl,rfl,rfl,rfl,rfl,List.length_set ..,fun i hi=>wAt_ne (by omega)⟩
def goodZ (F G:Int) (s:StZ):Prop:=s.k=2∧s.fl=false∧1≤s.g∧s.g≤G∧1≤s.l∧s.l≤65535∧0≤s.f∧s.f<F
theorem idl_ne {a b x y:Int} (hx0:0≤x) (hx:x<a*b) (hi:idl a b x y=false):x≠y:=by
 intro e
 subst e
 unfold idl at hi
 simp at hi
section
variable {W:WZ} {x y sh:Int}
end
end Go.W

namespace Go.W
open Go.Proofs
set_option linter.unusedSimpArgs false
set_option linter.unusedVariables false
set_option maxHeartbeats 8000000
section
variable {W:WZ} {x y sh:Int}
end
end Go.W

namespace Go.W
open Go.Proofs
set_option linter.unusedSimpArgs false
set_option linter.unusedVariables false
set_option maxHeartbeats 8000000
def parX (W:WZ):Int×Int×Int×Int×Int×Int×Int×Int:=(W.a,W.b,W.c,W.d,W.e,W.f,W.g,W.t)
theorem turn_parx (W:WZ) (x old:Int) (s:StZ):parX (turnW W x old s).2=parX W:=by
 unfold turnW
 split
 ·rfl
 ·split<;>rfl
theorem note_parx (W:WZ) (x g n:Int) (r:RcZ):parX (noteW W x g n r)=parX W:=by
 unfold noteW
 split
 ·rfl
 ·split
  ·rfl
  ·split<;>rfl
theorem tell_parx (W:WZ) (k c g o w q p e:Int):parX (tellW W k c g o w q p e)=parX W:=rfl
theorem noteT_parx (W:WZ) (T:TZ):parX (noteT W T)=parX W:=by
 unfold noteT
 repeat' split
 all_goals first|exact note_parx _ _ _ _ _|rfl
theorem turn_frame {W:WZ} {x old:Int} {s:StZ} {j:Nat} (h:j≠(2*x).toNat):wAt (turnW W x old s).2.ws j=wAt W.ws j:=by
 unfold turnW
 split
 ·rfl
 ·split
  ·exact wAt_ne (fun e=>h e.symm)
  ·rfl
theorem note_frame {W:WZ} (hW:okW W=true) {x g n:Int} {r:RcZ} {j:Nat} (hj:(j:Int)<W.a*W.b*2):wAt (noteW W x g n r).ws j=wAt W.ws j:=by
 have hc:=cfg_ex (okW_ex hW).1
 have hs:=slot_lo (a:=W.a) (b:=W.b) (f:=W.f) (g:=W.g) (x:=x) (gen:=g) (n:=n) (by omega) (by omega)
 exact (note_fr2 W x g n r).2.2.2.2.2.2 j (by omega)
section
variable {W:WZ} {T:TZ} {j:Nat}
theorem noteT_frame (hW:okW W=true) (hj:(j:Int)<W.a*W.b*2):wAt (noteT W T).ws j=wAt W.ws j:=by
 unfold noteT
 repeat' split
 all_goals first|exact note_frame hW hj|rfl
end
theorem parX_ab {W V:WZ} (h:parX W=parX V):W.a=V.a∧W.b=V.b∧W.c=V.c∧W.d=V.d∧W.f=V.f∧W.g=V.g∧W.t=V.t:=by
 simp only[parX,Prod.mk.injEq]at h
 exact ⟨h.1,h.2.1,h.2.2.1,h.2.2.2.1,h.2.2.2.2.2.1,h.2.2.2.2.2.2.1,h.2.2.2.2.2.2.2⟩
end Go.W

