/- A part of the proof of 'PairStepsProof' (PsW, PsY). -/
import Derived.Test.YtidbbnkpglggdaaPsP2
import Derived.Test.YtidbbnkpglggdaaPsX
import Derived.Test.YtidbbnkpglggdaaPqB
import Derived.Test.YtidbbnkpglggdaaWkC
namespace Go.W
open Go.Proofs
set_option linter.unusedSimpArgs false
set_option linter.unusedVariables false
set_option maxHeartbeats 8000000
attribute [local irreducible] Wm
attribute [local simp] nmap lkp mkPl prs prsL prT ddL idL CRenL CRen Ren RenL NObj.none CRenLL
def d52 : List AV→Option Ans
 | []=>some ⟨.tup [.agg [.int .i64 2,.int .i64 1,.int .i64 1,.int .i64 1,.int .i64 0,.int .i64 2,.int .i64 1],.os 0 10 [[.int .i64 2,.bool false,.int .i64 1,.int .i64 5,.int .i64 0,.int .i64 0,.int .i64 0,.int .i64 10,.int .i64 1,.int .i64 9],[.int .i64 2,.bool false,.int .i64 1,.int .i64 3,.int .i64 0,.int .i64 0,.int .i64 1,.int .i64 8,.int .i64 1,.int .i64 9]]],[]⟩
 | _=>none
theorem ok52 : NOk [] d52:=by
 intro xs a h
 unfold d52 at h
 (repeat' (split at h))<;>first|(cases h;done)|(injection h with h;subst h;refine ⟨Ends_of ?_,?_⟩<;>simp)
theorem s52 : Sound Try.prog 52 (nestS [] d52 ok52):=by
 refine nest_sound Try.func52 nm52 rc52 rv52 ok52 (fun xs a h=>?_) fun xs a h w0 S hS=>?_
 ·unfold d52 at h
  (repeat' (split at h))<;>first|(cases h;done)|exact Nat.le_of_ble_eq_true rfl
 unfold d52 at h
 split at h
 ·skip
  injection h with h
  subst h
  have hE : SoundAll Try.prog (EL []):=EL_sound (by simp)
  unfold m52
  repeat' with_reducible (first
   | refine ZR.h ?_ | refine zI (by decide) ?_
   | ((first | refine zK hE ?_ | refine zL hE mixT ?_);intro K hK;simp[KR.ks,KD.ks,KD.cl,q52_0,q52_1,q52_2,q52_3,q52_4];(repeat' (first | refine hK _ _ ?_ | refine And.intro ?_ ?_ | (intro hc;try subst hc)))<;>(try clear hK K))
   | (refine zJ (b:=_) (by with_unfolding_all rfl) (fun hc=>?_) (fun hc=>?_)<;>simp at hc<;>(try subst hc)))
  all_goals first|(simp;done)|(simp at *;omega)|((try simp);refine Imp.auto (by kernel_rfl) ?_ ?_<;>simp[NLe])
 ·cases h
theorem e12 {W : WZ} {T : TZ} (hT : okT T = true) (hW : okW W = true) (hs : smW W = true) (u v u1 u2 u3 u4 : Nat) : d12 [.op u (tzC T),.op v (wzL W u1 u2 u3 u4)] = some ⟨.tup [],[.cells 0 (tzC (StepT W T).1),.cells 0 (wzC (StepT W T).2)]⟩:=by
 simp only[d12,tzOf_C,wzOf_C]
 rw[if_pos ⟨hT,hW,hs⟩]
def runT (W : WZ) (T : TZ) : Nat→TZ × WZ
 | 0=>(T,W)
 | k + 1=>StepT (runT W T k).2 (runT W T k).1
theorem run_ok {W : WZ} {T : TZ} (hT : okT T = true) (hW : okW W = true) : ∀ k,okT (runT W T k).1 = true∧okW (runT W T k).2 = true∧(runT W T k).2.s≤W.s + k∧(runT W T k).2.lg.length≤W.lg.length + k
 | 0=>⟨hT,hW,by simp[runT],by simp[runT]⟩
 | k + 1=>by
  obtain ⟨h1,h2,h3,h4⟩:=run_ok hT hW k
  have h5:=StepT_fr (runT W T k).2 (runT W T k).1
  refine ⟨StepT_T h1 h2,StepT_ok h2 _,?_,?_⟩
  ·show (StepT (runT W T k).2 (runT W T k).1).2.s≤_
   omega
  ·show (StepT (runT W T k).2 (runT W T k).1).2.lg.length≤_
   omega
def awW : List (List AV):=match bothZ 2 1 1 1 0 2 1 [[.int .i64 2,.bool false,.int .i64 1,.int .i64 5,.int .i64 0,.int .i64 0,.int .i64 0,.int .i64 10,.int .i64 1,.int .i64 9],[.int .i64 2,.bool false,.int .i64 1,.int .i64 3,.int .i64 0,.int .i64 0,.int .i64 1,.int .i64 8,.int .i64 1,.int .i64 9]] 2 with
 | some (ws,_,_)=>ws
 | none=>[]
def awS : List (List AV):=match bothZ 2 1 1 1 0 2 1 [[.int .i64 2,.bool false,.int .i64 1,.int .i64 5,.int .i64 0,.int .i64 0,.int .i64 0,.int .i64 10,.int .i64 1,.int .i64 9],[.int .i64 2,.bool false,.int .i64 1,.int .i64 3,.int .i64 0,.int .i64 0,.int .i64 1,.int .i64 8,.int .i64 1,.int .i64 9]] 2 with
 | some (_,S,_)=>S
 | none=>[]
def awT : List (List AV):=match bothZ 2 1 1 1 0 2 1 [[.int .i64 2,.bool false,.int .i64 1,.int .i64 5,.int .i64 0,.int .i64 0,.int .i64 0,.int .i64 10,.int .i64 1,.int .i64 9],[.int .i64 2,.bool false,.int .i64 1,.int .i64 3,.int .i64 0,.int .i64 0,.int .i64 1,.int .i64 8,.int .i64 1,.int .i64 9]] 2 with
 | some (_,_,T)=>T
 | none=>[]
theorem aw_both : bothZ 2 1 1 1 0 2 1 [[.int .i64 2,.bool false,.int .i64 1,.int .i64 5,.int .i64 0,.int .i64 0,.int .i64 0,.int .i64 10,.int .i64 1,.int .i64 9],[.int .i64 2,.bool false,.int .i64 1,.int .i64 3,.int .i64 0,.int .i64 0,.int .i64 1,.int .i64 8,.int .i64 1,.int .i64 9]] 2 = some (awW,awS,awT):=by kernel_rfl
def aw0 : WZ:=⟨2,1,1,1,0,2,1,awW,4,0,[]⟩
theorem aw_ok : okW aw0 = true:=by kernel_rfl
theorem aw_T : okT (tz0 3 0 0 1 0) = true:=by kernel_rfl
theorem aw_end : (runT aw0 (tz0 3 0 0 1 0) 14).1.made = true∧(runT aw0 (tz0 3 0 0 1 0) 14).1.pc = 14∧(stateZ (sAt (runT aw0 (tz0 3 0 0 1 0) 14).2 1)).k = 5∧(runT aw0 (tz0 3 0 0 1 0) 14).2.a = 2∧(runT aw0 (tz0 3 0 0 1 0) 14).2.b = 1:=by
 refine ⟨?_,?_,?_,?_,?_⟩<;>kernel_rfl
theorem aw_log : (runT aw0 (tz0 3 0 0 1 0) 14).2.lg = [evC 2 0 1 1 1 3 9 0 0]:=by kernel_rfl
def d10 : List AV→Option Ans
 | []=>some ⟨.bool true,[]⟩
 | _=>none
def I10 (T : TZ) (W : WZ) (k : Nat) : St:=⟨[(3,.ptr (.top 0) 0 0),(6,.ptr (.top 1) 0 0),(24,.int .i64 k)],[(0,.cells 0 (wzC W)),(1,.cells 0 (tzC T))],2⟩
theorem ok10 : NOk [] d10:=by
 intro xs a h
 unfold d10 at h
 (repeat' (split at h))<;>first|(cases h;done)|(injection h with h;subst h;refine ⟨Ends_of ?_,?_⟩<;>simp)
theorem s10 : Sound Try.prog 10 (nestS [] d10 ok10):=by
 refine nest_sound Try.func10 nm10 rc10 rv10 ok10 (fun xs a h=>?_) fun xs a h w0 S hS=>?_
 ·unfold d10 at h
  (repeat' (split at h))<;>first|(cases h;done)|exact Nat.le_of_ble_eq_true rfl
 unfold d10 at h
 split at h
 ·skip
  injection h with h
  subst h
  have hE : SoundAll Try.prog (EL [(52,nestS [] d52 ok52),(9,nestS [(10,false)] d9 ok9),(11,nestS [] d11 ok11),(12,nestS [(35,true),(10,true)] d12 ok12),(14,nestS [(10,true)] d14 ok14),(15,nestS [(35,false)] d15 ok15),(13,nestS [(35,false)] d13 ok13)]):=EL_sound (by simp only[List.mem_cons,List.not_mem_nil,or_false,forall_eq_or_imp,forall_eq];exact ⟨s52,s9,s11,s12,s14,s15,s13⟩)
  obtain ⟨aT,aW,hr⟩ : ∃ a b,(tz0 3 0 0 1 0) = a∧aw0 = b:=⟨_,_,rfl,rfl⟩
  have hb : d9 [.agg [.int .i64 2,.int .i64 1,.int .i64 1,.int .i64 1,.int .i64 0,.int .i64 2,.int .i64 1],.os 0 10 [[.int .i64 2,.bool false,.int .i64 1,.int .i64 5,.int .i64 0,.int .i64 0,.int .i64 0,.int .i64 10,.int .i64 1,.int .i64 9],[.int .i64 2,.bool false,.int .i64 1,.int .i64 3,.int .i64 0,.int .i64 0,.int .i64 1,.int .i64 8,.int .i64 1,.int .i64 9]]] = some ⟨.tup [.op 0 (wzC aw0),.op 0 (qC 2 1 1 1 0 2 1 awS awT),.bool true],[.free]⟩:=by
   simp only[d9]
   rw[if_pos (by kernel_rfl),if_pos (by kernel_rfl)]
   simp only[bothA,List.length_cons,List.length_nil]
   rw[aw_both]
   rfl
  obtain ⟨hcf0,hw0,hwl0,hs00,ht00,ht10,hlg0⟩:=okW_ex aw_ok
  have hT0:=w_t0 hw0
  have hC0:=w_cl hw0
  have hTl0:=l_t0 hlg0
  have hCl0:=l_cl hlg0
  have hqS : t0LL awS = awS:=by kernel_rfl
  have hqS2 : clLL awS = true:=by kernel_rfl
  have hqT : t0LL awT = awT:=by kernel_rfl
  have hqT2 : clLL awT = true:=by kernel_rfl
  have hrun:=run_ok aw_T aw_ok
  have hend:=aw_end
  have hlog:=aw_log
  obtain ⟨A0,hA0⟩ : ∃ z,aw0 = z:=⟨_,rfl⟩
  obtain ⟨qS,hqSe⟩ : ∃ z,awS = z:=⟨_,rfl⟩
  obtain ⟨qT,hqTe⟩ : ∃ z,awT = z:=⟨_,rfl⟩
  have hs4 : A0.s = 4:=by rw[← hA0];rfl
  have hl0 : A0.lg.length = 0:=by rw[← hA0];rfl
  rw[hA0]at hb hT0 hC0 hTl0 hCl0 hrun hend hlog
  rw[hqSe]at hb hqS hqS2
  rw[hqTe]at hb hqT hqT2
  clear hw0 hwl0 hs00 ht00 ht10 hlg0 hcf0 hr aT aW
  have hwzs : ∀ T0,tzC T0 = tzC T0:=fun _=>rfl
  simp only[wzC,qC]at hb
  unfold m10
  repeat' with_reducible (first
   | refine ZR.h ?_ | refine zI (by decide) ?_
   | (refine zK hE ?_;intro K hK;simp[KR.ks,q10_0,q10_1,q10_2,q10_3,q10_4,q10_5,q10_6,q10_7,q10_8,q10_9,q10_10,q10_11,hb,hT0,hC0,hTl0,hCl0,hqS,hqS2,hqT,hqT2,tzC,tz0,zeroS,d52,d11];(repeat' (first | refine hK _ _ ?_ | refine And.intro ?_ ?_ | (intro hc;try subst hc)))<;>(try clear hK K))
   | (refine zJ (b:=_) (by with_unfolding_all rfl) (fun hc=>?_) (fun hc=>?_)<;>simp at hc<;>(try subst hc)))
  all_goals (refine Wm_loop (fun k=>I10 (runT A0 (tz0 3 0 0 1 0) k).1 (runT A0 (tz0 3 0 0 1 0) k).2 k) (fun k=>k≤14) (fun k=>14 - k) 0 (Nat.zero_le _) ?_ ?_)
  ·simp only[I10,runT,wzC,tzC,tz0,zeroS]
   rw[hS]
   refine Imp.auto (by kernel_rfl) ?_ ?_<;>simp[NLe,mkPlX,hT0,hC0,hTl0,hCl0,hqS,hqS2,hqT,hqT2]
  ·intro k hk
   replace hk : k≤14:=hk
   obtain ⟨kT,kW,ks,kl⟩:=hrun k
   have hsm : smW (runT A0 (tz0 3 0 0 1 0) k).2 = true:=decide_eq_true (by omega)
   have hst:=e12 kT kW hsm
   have hsucc : runT A0 (tz0 3 0 0 1 0) (k + 1) = StepT (runT A0 (tz0 3 0 0 1 0) k).2 (runT A0 (tz0 3 0 0 1 0) k).1:=rfl
   have kW2:=(hrun (k + 1)).2.1
   by_cases hk14 : k < 14
   ·obtain ⟨r,hr⟩ : ∃ r,runT A0 (tz0 3 0 0 1 0) k = r:=⟨_,rfl⟩
    obtain ⟨r2,hr2⟩ : ∃ r,runT A0 (tz0 3 0 0 1 0) (k + 1) = r:=⟨_,rfl⟩
    rw[hr]at kT kW hst hsucc
    rw[hr2]at hsucc kW2
    rw[← hsucc]at hst
    rw[hr]
    obtain ⟨hcf,hw,hwl,hs0,ht0,ht1,hlg⟩:=okW_ex kW
    have hT:=w_t0 hw
    have hC:=w_cl hw
    have hTl:=l_t0 hlg
    have hCl:=l_cl hlg
    obtain ⟨hcf2,hw2,hwl2,hs02,ht02,ht12,hlg2⟩:=okW_ex kW2
    have hT2:=w_t0 hw2
    have hC2:=w_cl hw2
    have hTl2:=l_t0 hlg2
    have hCl2:=l_cl hlg2
    have hkI : (k : Int) < 14:=by omega
    have ww : IntKind.wrap .i64 ((k : Int) + 1) = (k : Int) + 1:=wrap_in (by omega) (by omega)
    simp only[I10,tzC,wzC,wzL]at hst ⊢
    repeat' with_reducible (first
     | refine ZR.h ?_ | refine zI (by decide) ?_
     | (refine zK hE ?_;intro K hK;simp[KR.ks,q10_0,q10_1,q10_2,q10_3,q10_4,q10_5,q10_6,q10_7,q10_8,q10_9,q10_10,q10_11,hT,hC,hTl,hCl,hT2,hC2,hTl2,hCl2,hkI,hst,ww,d52,d11];(repeat' (first | refine hK _ _ ?_ | refine And.intro ?_ ?_ | (intro hc;try subst hc)))<;>(try clear hK K))
     | (refine zJ (b:=_) (by with_unfolding_all rfl) (fun hc=>?_) (fun hc=>?_)<;>simp at hc<;>(try subst hc)))
    all_goals refine ⟨k + 1,hk14,Nat.sub_lt_sub_left hk14 (Nat.lt_succ_self k),?_⟩
    all_goals simp only[hr2]
    all_goals rw[hS]
    all_goals (refine Imp.auto (by kernel_rfl) ?_ ?_<;>simp[NLe,mkPlX,hT,hC,hTl,hCl,hT2,hC2,hTl2,hCl2])
   ·have hke : k = 14:=by omega
    subst hke
    clear hst hsucc kW2
    obtain ⟨hm,hpc,hk5,ha2,hb1⟩:=hend
    have hlo:=smW_lo hsm
    have h14:=e14 kW hlo (x:=1) (by omega) (by rw[ha2,hb1];omega)
    obtain ⟨r,hr⟩ : ∃ r,runT A0 (tz0 3 0 0 1 0) 14 = r:=⟨_,rfl⟩
    rw[hr]at kT kW hm hpc hk5 ha2 hb1 h14 hlog
    rw[hr]
    obtain ⟨hcf,hw,hwl,hs0,ht0,ht1,hlg⟩:=okW_ex kW
    have hT:=w_t0 hw
    have hC:=w_cl hw
    have h13:=e13 r.1
    rw[hpc]at h13
    simp only[show decide ((14 : Int)≤14) = true from rfl]at h13
    have h15 : ∀ u,d15 [.op u (tzC r.1)] = some ⟨.bool true,[.free]⟩:=fun u=>by simp only[d15,tzOf_C,hm]
    obtain ⟨st,hst⟩ : ∃ z,stateZ (sAt r.2 1) = z:=⟨_,rfl⟩
    rw[hst]at h14 hk5
    simp only[I10,tzC,wzC,wzL,tickW,stA,hlog,evC]at h14 h13 h15 ⊢
    repeat' with_reducible (first
     | refine ZR.h ?_ | refine zI (by decide) ?_
     | (refine zK hE ?_;intro K hK;simp[KR.ks,q10_0,q10_1,q10_2,q10_3,q10_4,q10_5,q10_6,q10_7,q10_8,q10_9,q10_10,q10_11,hT,hC,h14,h13,h15,hk5,d52,d11];(repeat' (first | refine hK _ _ ?_ | refine And.intro ?_ ?_ | (intro hc;try subst hc)))<;>(try clear hK K))
     | (refine zJ (b:=_) (by with_unfolding_all rfl) (fun hc=>?_) (fun hc=>?_)<;>simp at hc<;>(try subst hc)))
    all_goals first|(simp;done)|(simp at *;omega)|((try simp[hT,hC]);refine Imp.auto (by kernel_rfl) ?_ ?_<;>simp[NLe,hT,hC])
 ·cases h
end Go.W
namespace Go.W
open Go.Proofs
set_option linter.unusedSimpArgs false
set_option linter.unusedVariables false
set_option maxHeartbeats 8000000
attribute [local irreducible] Wm
attribute [local simp] nmap lkp mkPl prs prsL prT ddL idL CRenL CRen Ren RenL NObj.none CRenLL
theorem runT_add (W : WZ) (T : TZ) (k : Nat) : runT W T (k + 1) = StepT (runT W T k).2 (runT W T k).1:=rfl
theorem run_pc {W : WZ} {T : TZ} (h : T.pc = 0) : ∀ k : Nat,k≤14→(runT W T k).1.pc = k
 | 0,_=>by simp[runT,h]
 | k + 1,hk=>by
  rw[runT_add,StepT_pc,run_pc h k (by omega),if_neg (by omega)]
  omega
theorem step_done {W : WZ} {T : TZ} (h : 14≤T.pc) : StepT W T = (T,W):=by
 unfold StepT;rw[if_pos h]
def bW (a b c d e f g : Int) (els ws : List (List AV)) : WZ:=⟨a,b,c,d,e,f,g,ws,2 * els.length,0,[]⟩
theorem tz0_ok (w x g y s : Int) : okT (tz0 w x g y s) = true:=by
 unfold okT tz0 zeroS okS
 simp
theorem both_W {a b c d e f g : Int} {els ws S T : List (List AV)} (hcf : cfgB a b c d e f g = true) (he : els.all ordB = true) (h : bothZ a b c d e f g els els.length = some (ws,S,T)) : okW (bW a b c d e f g els ws) = true∧(bW a b c d e f g els ws).s≤48∧els.length≤24:=by
 obtain ⟨h1,h2,h3,_⟩:=both_inv hcf he _ _ _ _ (Nat.le_refl _) h
 have hall:=cfg_all hcf
 exact ⟨decide_eq_true ⟨hcf,h2,h3,by simp only[bW];omega,Int.le_refl _,by simp[bW],rfl⟩,by simp only[bW];omega,by omega⟩
def ELy : List (FuncId × Spec):=[(9,nestS [(10,false)] d9 ok9),(10,nestS [] d10 ok10),(11,nestS [] d11 ok11),(22,nestS [(7,false)] d22 ok22),(23,nestS [(10,true)] d23 ok23),(24,nestS [(1,false)] d24 ok24),(12,stepS),(13,doneS),(15,madeS)]
theorem ELy_ok : SoundAll Try.prog (EL ELy):=EL_sound (by
 simp only[ELy,List.mem_cons,List.not_mem_nil,or_false,forall_eq_or_imp,forall_eq]
 exact ⟨s9,s10,s11,s22,s23,s24,stepS_ok,doneS_ok,madeS_ok⟩)
def d5 : List AV→List NObj→Option AV
 | [.agg [.int .i64 a,.int .i64 b,.int .i64 c,.int .i64 d,.int .i64 e,.int .i64 f,.int .i64 g],.sl (.top 0) 0 n,.agg [.int .i64 aw,.int .i64 ax,.int .i64 ag,.int .i64 ay,.int .i64 ah],.int .u8 more],[.view 0 10 els]=>if n = els.length∧els.all ordB = true∧0≤more∧more < 256 then some (.bool true) else none
 | _,_=>none
def I5 (els : List (List AV)) (more aw ax ag ay ah : Int) (T : TZ) (W : WZ) (k : Nat) : St:=⟨[(3,.int .u8 more),(6,.ptr (.top 1) 0 0),(9,.ptr (.top 2) 0 0),(12,.ptr (.top 3) 0 0),(31,.int .i64 k)],[(0,.view 0 10 els),(1,.cells 0 [.int .i64 aw,.int .i64 ax,.int .i64 ag,.int .i64 ay,.int .i64 ah]),(2,.cells 0 (wzC W)),(3,.cells 0 (tzC T))],4⟩
def J5 (els : List (List AV)) (was m5 aw ax ag ay ah : Int) (T : TZ) (W : WZ) (k : Nat) : St:=⟨[(6,.ptr (.top 1) 0 0),(9,.ptr (.top 2) 0 0),(12,.ptr (.top 3) 0 0),(17,.int .i64 was),(104,.int .i64 m5),(105,.int .i64 k)],[(0,.view 0 10 els),(1,.cells 0 [.int .i64 aw,.int .i64 ax,.int .i64 ag,.int .i64 ay,.int .i64 ah]),(2,.cells 0 (wzC W)),(3,.cells 0 (tzC T))],4⟩
theorem ok5 : ROk d5:=by
 intro xs os r h
 unfold d5 at h
 (repeat' (split at h))<;>first|(cases h;done)|(injection h with h;subst h;simp)
theorem s5 : Sound Try.prog 5 (rdS d5 ok5):=by
 refine rd_sound Try.func5 nm5 rc5 rv5 ok5 fun xs os r h vs ρ0 hvs=>⟨xs,?_,fun _ h=>h,fun w0 S hS=>?_⟩
 ·unfold d5 at h
  (repeat' (split at h))<;>first|(cases h;done)|exact Nat.le_of_ble_eq_true rfl
 unfold d5 at h
 split at h
 ·split at h
  ·rename_i a b c d e f g n aw ax ag ay ah more els hcond
   injection h with h
   subst h
   obtain ⟨rfl,hob,hm0,hm1⟩:=hcond
   have hE:=ELy_ok
   have hTe:=ord_t0 hob
   have hCe:=ord_cl hob
   have h9 : ∀ u,d9 [.agg [.int .i64 a,.int .i64 b,.int .i64 c,.int .i64 d,.int .i64 e,.int .i64 f,.int .i64 g],.os u 10 els] = some ⟨if cfgB a b c d e f g = true then bothA a b c d e f g els else .tup [.raw (.pointer none),.raw (.pointer none),.bool false],[.free]⟩:=fun u=>by
    simp only[d9];rw[if_pos hob]
   obtain ⟨ba,hba⟩ : ∃ z,(if cfgB a b c d e f g = true then bothA a b c d e f g els else .tup [.raw (.pointer none),.raw (.pointer none),.bool false]) = z:=⟨_,rfl⟩
   rw[hba]at h9
   by_cases hok : cfgB a b c d e f g = true∧bothZ a b c d e f g els els.length ≠ none
   case neg =>
    have hnil : ba = .tup [.raw (.pointer none),.raw (.pointer none),.bool false]:=by
     rw[← hba]
     by_cases hcf : cfgB a b c d e f g = true
     ·rw[if_pos hcf]
      have : bothZ a b c d e f g els els.length = none:=by
       cases hz : bothZ a b c d e f g els els.length with
       | none=>rfl
       | some p=>exact absurd ⟨hcf,by rw[hz];simp⟩ hok
      simp only[bothA,this]
     ·rw[if_neg hcf]
    rw[hnil]at h9
    unfold m5
    repeat' with_reducible (first
     | refine ZR.h ?_ | refine zI (by decide) ?_
     | ((first | refine zK hE ?_ | refine zL hE mixT ?_);intro K hK;simp[KR.ks,KD.ks,KD.cl,q5_0,q5_1,q5_2,q5_3,q5_4,q5_5,q5_6,q5_7,q5_8,q5_9,q5_10,q5_11,q5_12,q5_13,q5_14,q5_15,q5_16,q5_17,q5_18,q5_19,q5_20,q5_21,q5_22,q5_23,q5_24,q5_25,q5_26,q5_27,q5_28,ELy,stepS,doneS,madeS,ifS_fn,nil1,nil2,hTe,hCe,h9,d10];(repeat' (first | refine hK _ _ ?_ | refine And.intro ?_ ?_ | (intro hc;try subst hc)))<;>(try clear hK K))
     | (refine zJ (b:=_) (by with_unfolding_all rfl) (fun hc=>?_) (fun hc=>?_)<;>simp at hc<;>(try subst hc)))
    all_goals first|(simp;done)|(simp at *;omega)|((try simp);refine Imp.auto (by kernel_rfl) ?_ ?_<;>simp[NLe,mkPlX])
   obtain ⟨hcf,hnn⟩:=hok
   obtain ⟨ws,SS,TT,hz⟩ : ∃ ws S T,bothZ a b c d e f g els els.length = some (ws,S,T):=by
    cases hz : bothZ a b c d e f g els els.length with
    | none=>exact absurd hz hnn
    | some p=>exact ⟨_,_,_,rfl⟩
   obtain ⟨hW0,hWs,hel⟩:=both_W hcf hob hz
   obtain ⟨_,_,_,⟨_,hTS,hCS,_⟩,⟨_,hTT,hCT,_⟩⟩:=both_inv hcf hob _ _ _ _ (Nat.le_refl _) hz
   have hbe : ba = .tup [.op 0 (wzC (bW a b c d e f g els ws)),.op 0 (qC a b c d e f g SS TT),.bool true]:=by
    rw[← hba,if_pos hcf];simp only[bothA,hz];rfl
   rw[hbe]at h9
   obtain ⟨A0,hA0⟩ : ∃ z,bW a b c d e f g els ws = z:=⟨_,rfl⟩
   obtain ⟨T0,hT0⟩ : ∃ z,tz0 aw ax ag ay ah = z:=⟨_,rfl⟩
   have h11 : d11 [.agg [.int .i64 aw,.int .i64 ax,.int .i64 ag,.int .i64 ay,.int .i64 ah]] = some ⟨.op 0 (tzC T0),[]⟩:=by rw[← hT0];rfl
   have hT0k : okT T0 = true:=by rw[← hT0];exact tz0_ok _ _ _ _ _
   have hT0p : T0.pc = 0:=by rw[← hT0];rfl
   have hlg0 : A0.lg.length = 0:=by rw[← hA0];rfl
   rw[hA0]at h9 hW0 hWs
   obtain ⟨hcfA,hwA,hwlA,hsA,htA,ht1A,hlgA⟩:=okW_ex hW0
   have hTA:=w_t0 hwA
   have hCA:=w_cl hwA
   have hTlA:=l_t0 hlgA
   have hClA:=l_cl hlgA
   have hrun:=run_ok hT0k hW0
   have hpc:=fun k h=>run_pc (W:=A0) (T:=T0) hT0p k h
   clear hba hbe hnn hcfA hwA hwlA hsA htA ht1A hlgA hA0 hT0
   simp only[wzC,qC,tzC]at h9 h11
   unfold m5
   repeat' with_reducible (first
    | refine ZR.h ?_ | refine zI (by decide) ?_
    | ((first | refine zK hE ?_ | refine zL hE mixT ?_);intro K hK;simp[KR.ks,KD.ks,KD.cl,q5_0,q5_1,q5_2,q5_3,q5_4,q5_5,q5_6,q5_7,q5_8,q5_9,q5_10,q5_11,q5_12,q5_13,q5_14,q5_15,q5_16,q5_17,q5_18,q5_19,q5_20,q5_21,q5_22,q5_23,q5_24,q5_25,q5_26,q5_27,q5_28,ELy,stepS,doneS,madeS,ifS_fn,nil1,nil2,hTe,hCe,h9,h11,hTA,hCA,hTlA,hClA,hTS,hCS,hTT,hCT];(repeat' (first | refine hK _ _ ?_ | refine And.intro ?_ ?_ | (intro hc;try subst hc)))<;>(try clear hK K))
    | (refine zJ (b:=_) (by with_unfolding_all rfl) (fun hc=>?_) (fun hc=>?_)<;>simp at hc<;>(try subst hc)))
   all_goals (refine Wm_loop (fun k=>I5 els more aw ax ag ay ah (runT A0 T0 k).1 (runT A0 T0 k).2 k) (fun k=>k≤14) (fun k=>14 - k) 0 (Nat.zero_le _) ?_ ?_)
   ·simp only[I5,runT,wzC,tzC]
    rw[hS]
    refine Imp.auto (by kernel_rfl) ?_ ?_<;>simp[NLe,mkPlX,hTe,hCe,hTA,hCA,hTlA,hClA,hTS,hCS,hTT,hCT]
   ·clear h9
    intro k hk
    replace hk : k≤14:=hk
    obtain ⟨kT,kW,ks,kl⟩:=hrun k
    have kpc:=hpc k hk
    have hsm : smW (runT A0 T0 k).2 = true:=decide_eq_true (by omega)
    have h13:=e13 (runT A0 T0 k).1
    rw[kpc]at h13
    by_cases hk14 : k < 14
    ·have hst:=e12 kT kW hsm
     have hfr:=StepT_fr (runT A0 T0 k).2 (runT A0 T0 k).1
     have h13b:=e13 (runT A0 T0 (k + 1)).1
     rw[hpc (k + 1) (by omega)]at h13b
     have kW2:=(hrun (k + 1)).2.1
     rw[← runT_add]at hst hfr
     rw[decide_eq_false (by omega)]at h13
     obtain ⟨r,hr⟩ : ∃ r,runT A0 T0 k = r:=⟨_,rfl⟩
     obtain ⟨r2,hr2⟩ : ∃ r,runT A0 T0 (k + 1) = r:=⟨_,rfl⟩
     rw[hr]at kT kW ks kl hst hfr h13
     rw[hr2]at hst hfr kW2 h13b
     rw[hr]
     obtain ⟨hcf,hw,hwl,hs0,ht0,ht1,hlg⟩:=okW_ex kW
     have hT:=w_t0 hw
     have hC:=w_cl hw
     have hTl:=l_t0 hlg
     have hCl:=l_cl hlg
     obtain ⟨hcf2,hw2,hwl2,hs02,ht02,ht12,hlg2⟩:=okW_ex kW2
     have hT2:=w_t0 hw2
     have hC2:=w_cl hw2
     have hTl2:=l_t0 hlg2
     have hCl2:=l_cl hlg2
     have hkI : (k : Int) < 14:=by omega
     have ww : IntKind.wrap .i64 ((k : Int) + 1) = (k : Int) + 1:=wrap_in (by omega) (by omega)
     have wd : IntKind.wrap .i64 (r2.2.s - r.2.s) = r2.2.s - r.2.s:=wrap_in (by omega) (by omega)
     have wd1 : ¬ (r2.2.s - r.2.s < 0):=by omega
     have wd2 : ¬ (1 < r2.2.s - r.2.s):=by omega
     have hcase : (k = 13∧decide ((14 : Int)≤((k + 1 : Nat) : Int)) = true)∨(¬ (k : Int) = 13∧decide ((14 : Int)≤((k + 1 : Nat) : Int)) = false):=by
      by_cases h : k = 13
      ·exact .inl ⟨h,decide_eq_true (by omega)⟩
      ·exact .inr ⟨by omega,decide_eq_false (by omega)⟩
     simp only[I5,tzC,wzC,wzL]at hst h13 h13b ⊢
     have w14 : IntKind.wrap .i64 14 = 14:=by rfl
     rcases hcase with ⟨rfl,hd⟩ | ⟨hk13,hd⟩
     ·rw[hd]at h13b
      repeat' with_reducible (first
       | refine ZR.h ?_ | refine zI (by decide) ?_
       | ((first | refine zK hE ?_ | refine zL hE mixT ?_);intro K hK;simp[KR.ks,KD.ks,KD.cl,q5_0,q5_1,q5_2,q5_3,q5_4,q5_5,q5_6,q5_7,q5_8,q5_9,q5_10,q5_11,q5_12,q5_13,q5_14,q5_15,q5_16,q5_17,q5_18,q5_19,q5_20,q5_21,q5_22,q5_23,q5_24,q5_25,q5_26,q5_27,q5_28,ELy,stepS,doneS,madeS,ifS_fn,nil1,nil2,hTe,hCe,hT,hC,hTl,hCl,hT2,hC2,hTl2,hCl2,d22,hkI,hst,ww,h13,h13b,wd,wd1,wd2,w14];(repeat' (first | refine hK _ _ ?_ | refine And.intro ?_ ?_ | (intro hc;try subst hc)))<;>(try clear hK K))
       | (refine zJ (b:=_) (by with_unfolding_all rfl) (fun hc=>?_) (fun hc=>?_)<;>simp at hc<;>(try subst hc)))
      all_goals refine ⟨14,Nat.le_refl _,by simp,?_⟩
      all_goals simp only[hr2]
      all_goals rw[hS]
      all_goals (refine Imp.auto (by kernel_rfl) ?_ ?_<;>simp[NLe,mkPlX,hTe,hCe,hT,hC,hTl,hCl,hT2,hC2,hTl2,hCl2,w14])
     ·rw[hd]at h13b
      repeat' with_reducible (first
       | refine ZR.h ?_ | refine zI (by decide) ?_
       | ((first | refine zK hE ?_ | refine zL hE mixT ?_);intro K hK;simp[KR.ks,KD.ks,KD.cl,q5_0,q5_1,q5_2,q5_3,q5_4,q5_5,q5_6,q5_7,q5_8,q5_9,q5_10,q5_11,q5_12,q5_13,q5_14,q5_15,q5_16,q5_17,q5_18,q5_19,q5_20,q5_21,q5_22,q5_23,q5_24,q5_25,q5_26,q5_27,q5_28,ELy,stepS,doneS,madeS,ifS_fn,nil1,nil2,hTe,hCe,hT,hC,hTl,hCl,hT2,hC2,hTl2,hCl2,d22,hkI,hst,ww,h13,h13b,wd,wd1,wd2,hk13];(repeat' (first | refine hK _ _ ?_ | refine And.intro ?_ ?_ | (intro hc;try subst hc)))<;>(try clear hK K))
       | (refine zJ (b:=_) (by with_unfolding_all rfl) (fun hc=>?_) (fun hc=>?_)<;>simp at hc<;>(try subst hc)))
      all_goals refine ⟨k + 1,hk14,Nat.sub_lt_sub_left hk14 (Nat.lt_succ_self k),?_⟩
      all_goals simp only[hr2]
      all_goals rw[hS]
      all_goals (refine Imp.auto (by kernel_rfl) ?_ ?_<;>simp[NLe,mkPlX,hTe,hCe,hT,hC,hTl,hCl,hT2,hC2,hTl2,hCl2])
    ·have hke : k = 14:=by omega
     subst hke
     clear h13
     have hlo:=smW_lo hsm
     have hdone : ∀ W,StepT W (runT A0 T0 14).1 = ((runT A0 T0 14).1,W):=fun W=>step_done (by omega)
     have h23:=e23 kW hlo 4 7 0 0 0 0 0 99 0
     have kW2:=tell_ok kW 4 7 0 0 0 0 0 0
     obtain ⟨r,hr⟩ : ∃ r,runT A0 T0 14 = r:=⟨_,rfl⟩
     rw[hr]at kT kW ks kl h23 hsm hlo kW2 hdone kpc
     rw[hr]
     obtain ⟨A2,hA2⟩ : ∃ z,tellW r.2 4 7 0 0 0 0 0 0 = z:=⟨_,rfl⟩
     have hA2s : A2.s = r.2.s:=by rw[← hA2];rfl
     have hA2t : A2.t = r.2.t:=by rw[← hA2];rfl
     have hA2l : A2.lg = r.2.lg ++ [evC 4 7 0 0 0 0 0 r.2.t 0]:=by rw[← hA2];rfl
     have hA2n : A2.lg.length = r.2.lg.length + 1:=by rw[hA2l];simp
     have hA2g : A2.lg[r.2.lg.length]? = some (evC 4 7 0 0 0 0 0 r.2.t 0):=by rw[hA2l];simp
     rw[hA2]at h23 kW2
     have hsm2 : smW A2 = true:=decide_eq_true (by omega)
     have hst:=e12 kT kW2 hsm2
     rw[hdone]at hst
     have hstn : ∀ u u1 u2 u3 u4,d12n [.raw (.pointer none),.op u (wzL A2 u1 u2 u3 u4)] = some ⟨.tup [],[.free]⟩:=fun u u1 u2 u3 u4=>by
      simp only[d12n,wzOf_C];rw[if_pos kW2]
     have hstw : ∀ u,d12w [.op u (tzC T0),.raw (.pointer none)] = some ⟨.tup [],[.free]⟩:=fun u=>by
      simp only[d12w,tzOf_C]
     obtain ⟨hcf,hw,hwl,hs0,ht0,ht1,hlg⟩:=okW_ex kW
     have hT:=w_t0 hw
     have hC:=w_cl hw
     have hTl:=l_t0 hlg
     have hCl:=l_cl hlg
     obtain ⟨hcf2,hw2,hwl2,hs02,ht02,ht12,hlg2⟩:=okW_ex kW2
     have hT2:=w_t0 hw2
     have hC2:=w_cl hw2
     have hTl2:=l_t0 hlg2
     have hCl2:=l_cl hlg2
     have h24 : ∀ u,d24 [.op u [.int .u64 A2.t]] = some ⟨.int .i64 r.2.t,[.free]⟩:=fun u=>by simp only[d24,hA2t];rw[if_pos ⟨ht0,ht1⟩]
     obtain ⟨L,hL⟩ : ∃ z,r.2.lg.length = z:=⟨_,rfl⟩
     rw[hL]at hA2n hA2g kl
     have hA2e : ∀ h : L < A2.lg.length,A2.lg[L] = evC 4 7 0 0 0 0 0 r.2.t 0:=fun h=>by
      have:=hA2g
      rw[List.getElem?_eq_getElem h]at this
      simpa using this
     have w14 : IntKind.wrap .i64 14 = 14:=by rfl
     have hLL : (L : Int) < (L : Int) + 1:=by omega
     have wl : IntKind.wrap .i64 ((L : Int) + 1) = (L : Int) + 1:=wrap_in (by omega) (by omega)
     obtain ⟨m5,hm5⟩ : ∃ z,more.tmod 5 = z:=⟨_,rfl⟩
     have hm5r : 0≤m5∧m5 < 256:=by rw[← hm5,Int.tmod_eq_emod_of_nonneg hm0];omega
     have wm : IntKind.wrap .i64 m5 = m5:=wrap_in (by omega) (by omega)
     simp only[I5,tzC,wzC,wzL,evC]at hst hstn hstw h23 h24 h11 hA2g hA2e ⊢
     repeat' with_reducible (first
      | refine ZR.h ?_ | refine zI (by decide) ?_
      | ((first | refine zK hE ?_ | refine zL hE mixT ?_);intro K hK;simp[KR.ks,KD.ks,KD.cl,q5_0,q5_1,q5_2,q5_3,q5_4,q5_5,q5_6,q5_7,q5_8,q5_9,q5_10,q5_11,q5_12,q5_13,q5_14,q5_15,q5_16,q5_17,q5_18,q5_19,q5_20,q5_21,q5_22,q5_23,q5_24,q5_25,q5_26,q5_27,q5_28,ELy,stepS,doneS,madeS,ifS_fn,nil1,nil2,hTe,hCe,hT,hC,hTl,hCl,hT2,hC2,hTl2,hCl2,d22,h23,h24,hL,hA2n,hA2g,hA2e,hLL,wl,hm5,wm];(repeat' (first | refine hK _ _ ?_ | refine And.intro ?_ ?_ | (intro hc;try subst hc)))<;>(try clear hK K))
      | (refine zJ (b:=_) (by with_unfolding_all rfl) (fun hc=>?_) (fun hc=>?_)<;>simp at hc<;>(try subst hc)))
     all_goals (refine Wm_loop (fun k=>J5 els A2.s m5 aw ax ag ay ah r.1 A2 k) (fun k=>(k : Int)≤m5) (fun k=>m5.toNat - k) 0 hm5r.1 ?_ ?_)
     ·simp only[J5,wzC,tzC]
      rw[hS]
      refine Imp.auto (by kernel_rfl) ?_ ?_<;>simp[NLe,mkPlX,hTe,hCe,hT,hC,hTl,hCl,hT2,hC2,hTl2,hCl2,hm5,wm]
     ·intro k hk
      replace hk : (k : Int)≤m5:=hk
      simp only[J5,wzC,tzC]
      by_cases hkm : (k : Int) < m5
      ·have ww : IntKind.wrap .i64 ((k : Int) + 1) = (k : Int) + 1:=wrap_in (by omega) (by omega)
       repeat' with_reducible (first
        | refine ZR.h ?_ | refine zI (by decide) ?_
        | ((first | refine zK hE ?_ | refine zL hE mixT ?_);intro K hK;simp[KR.ks,KD.ks,KD.cl,q5_0,q5_1,q5_2,q5_3,q5_4,q5_5,q5_6,q5_7,q5_8,q5_9,q5_10,q5_11,q5_12,q5_13,q5_14,q5_15,q5_16,q5_17,q5_18,q5_19,q5_20,q5_21,q5_22,q5_23,q5_24,q5_25,q5_26,q5_27,q5_28,ELy,stepS,doneS,madeS,ifS_fn,nil1,nil2,hTe,hCe,hT2,hC2,hTl2,hCl2,hkm,hst,ww];(repeat' (first | refine hK _ _ ?_ | refine And.intro ?_ ?_ | (intro hc;try subst hc)))<;>(try clear hK K))
        | (refine zJ (b:=_) (by with_unfolding_all rfl) (fun hc=>?_) (fun hc=>?_)<;>simp at hc<;>(try subst hc)))
       all_goals refine ⟨k + 1,by show ((k + 1 : Nat) : Int)≤m5;omega,by show m5.toNat - (k + 1) < m5.toNat - k;omega,?_⟩
       all_goals rw[hS]
       all_goals (refine Imp.auto (by kernel_rfl) ?_ ?_<;>simp[NLe,mkPlX,hTe,hCe,hT2,hC2,hTl2,hCl2])
      ·repeat' with_reducible (first
        | refine ZR.h ?_ | refine zI (by decide) ?_
        | ((first | refine zK hE ?_ | refine zL hE mixT ?_);intro K hK;simp[KR.ks,KD.ks,KD.cl,q5_0,q5_1,q5_2,q5_3,q5_4,q5_5,q5_6,q5_7,q5_8,q5_9,q5_10,q5_11,q5_12,q5_13,q5_14,q5_15,q5_16,q5_17,q5_18,q5_19,q5_20,q5_21,q5_22,q5_23,q5_24,q5_25,q5_26,q5_27,q5_28,ELy,stepS,doneS,madeS,ifS_fn,nil1,nil2,hTe,hCe,hT2,hC2,hTl2,hCl2,hkm,hstn,hstw,h11,d22,d10,d13n,d15n];(repeat' (first | refine hK _ _ ?_ | refine And.intro ?_ ?_ | (intro hc;try subst hc)))<;>(try clear hK K))
        | (refine zJ (b:=_) (by with_unfolding_all rfl) (fun hc=>?_) (fun hc=>?_)<;>simp at hc<;>(try subst hc)))
       all_goals first|(simp;done)|(simp at *;omega)|((try simp);refine Imp.auto (by kernel_rfl) ?_ ?_<;>simp[NLe,mkPlX])
  ·cases h
 ·cases h
end Go.W
