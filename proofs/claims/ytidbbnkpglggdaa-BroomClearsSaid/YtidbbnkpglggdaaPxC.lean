/- A sweeper's pass is its tries, one behind the other. -/
import Derived.Test.YtidbbnkpglggdaaPxB
namespace Go.W
open Go.Proofs
set_option linter.unusedSimpArgs false
set_option linter.unusedVariables false
set_option maxHeartbeats 8000000
attribute [local irreducible] Wm
attribute [local simp] nmap lkp mkPl prs prsL prT ddL idL CRenL CRen Ren RenL NObj.none CRenLL
def swRun:SwZ→WZ→Nat→SwZ×WZ
 | s,W,0=>(s,W)
 | s,W,k+1=>swRun (swStep W s).1 (swStep W s).2 k
theorem swRun_succ:∀ (k:Nat) (s:SwZ) (W:WZ),swRun s W (k+1)=swStep (swRun s W k).2 (swRun s W k).1
 | 0,_,_=>rfl
 | k+1,s,W=>swRun_succ k (swStep W s).1 (swStep W s).2
def swOk (s:SwZ) (W:WZ):Bool:=okSw s&&okW W&&smW W
def swChk:Nat→SwZ→WZ→Bool
 | 0,s,W=>swOk s W
 | k+1,s,W=>swOk s W&&swChk k (swStep W s).1 (swStep W s).2
theorem swChk_ok:∀ (k:Nat) (s:SwZ) (W:WZ),swChk k s W=true→∀ j,j≤k→swOk (swRun s W j).1 (swRun s W j).2=true
 | 0,s,W,h,j,hj=>by
  obtain rfl:j=0:=by omega
  exact h
 | k+1,s,W,h,0,hj=>by
  simp only[swChk,Bool.and_eq_true]at h
  exact h.1
 | k+1,s,W,h,j+1,hj=>by
  simp only[swChk,Bool.and_eq_true]at h
  exact swChk_ok k _ _ h.2 j (by omega)
def sw0:SwZ:=⟨0,0,0,none⟩
theorem aws_chk:swChk 56 sw0 aw0=true:=by kernel_rfl
def swDone (s:SwZ):Bool:=match s.p with
 | some T=>decide (14≤T.pc)
 | none=>false
def swEnd (r:SwZ×WZ):Bool:=swDone r.1&&decide (r.1.ix=0)&&decide (r.1.ps=1)&&decide (r.2.lg.length=1)
theorem aws_end:swEnd (swRun sw0 aw0 56)=true:=by kernel_rfl
def ELb:List (FuncId×Spec):=[(42,nestS [] d42 ok42),(9,nestS [(10,false)] d9 ok9),(31,nestS [] d31 ok31),(29,nestS [(4,true),(10,true)] d29 ok29),(40,nestS [] d40 ok40),(39,nestS [] d39 ok39),(35,nestS [(4,false)] d35 ok35),(33,nestS [(4,false)] d33 ok33)]
theorem ELb_ok:SoundAll Try.prog (EL ELb):=EL_sound (by
 simp only[ELb,List.mem_cons,List.not_mem_nil,or_false,forall_eq_or_imp,forall_eq]
 exact ⟨s42,s9,s31,s29,s40,s39,s35,s33⟩)
def d28:List AV→Option Ans
 | []=>some ⟨.bool true,[]⟩
 | _=>none
def I28 (s:SwZ) (W:WZ) (k:Nat):St:=⟨[(2,.ptr (.top 0) 0 0),(6,.ptr (.top 1) 0 0),(9,.ptr (.top 2) 0 0),(38,.int .i64 k)],[(0,.cells 0 [.int .i64 2,.int .i64 1,.int .i64 1,.int .i64 1,.int .i64 0,.int .i64 2,.int .i64 1]),(1,.cells 0 (wzC W)),(2,.cells 0 (swL s 0))],3⟩
theorem ok28:NOk [] d28:=by
 intro xs a h
 unfold d28 at h
 (repeat' (split at h))<;>first|(cases h;done)|(injection h with h;subst h;refine ⟨Ends_of ?_,?_⟩<;>simp)
theorem s28:Sound Try.prog 28 (nestS [] d28 ok28):=by
 refine nest_sound Try.func28 nm28 rc28 rv28 ok28 (fun xs a h=>?_) fun xs a h w0 S hS=>?_
 ·unfold d28 at h
  (repeat' (split at h))<;>first|(cases h;done)|exact Nat.le_of_ble_eq_true rfl
 unfold d28 at h
 split at h
 ·skip
  injection h with h
  subst h
  have hE:=ELb_ok
  have h9:∀ u,d9 [.agg [.int .i64 2,.int .i64 1,.int .i64 1,.int .i64 1,.int .i64 0,.int .i64 2,.int .i64 1],.os u 10 [[.int .i64 2,.bool false,.int .i64 1,.int .i64 5,.int .i64 0,.int .i64 0,.int .i64 0,.int .i64 10,.int .i64 1,.int .i64 9],[.int .i64 2,.bool false,.int .i64 1,.int .i64 3,.int .i64 0,.int .i64 0,.int .i64 1,.int .i64 8,.int .i64 1,.int .i64 9]]]=some ⟨.tup [.op 0 (wzC aw0),.op 0 (qC 2 1 1 1 0 2 1 awS awT),.bool true],[.free]⟩:=fun u=>by
   simp only[d9]
   rw[if_pos (by kernel_rfl),if_pos (by kernel_rfl)]
   simp only[bothA,List.length_cons,List.length_nil]
   rw[aw_both]
   rfl
  have h42:d42 [.agg [.int .i64 2,.int .i64 1,.int .i64 1,.int .i64 1,.int .i64 0,.int .i64 2,.int .i64 1]]=some ⟨.tup [.agg [.int .i64 2,.int .i64 1,.int .i64 1,.int .i64 1,.int .i64 0,.int .i64 2,.int .i64 1],.raw .nilIface],[]⟩:=by kernel_rfl
  have h40:d40 [.agg [.int .i64 2,.int .i64 1,.int .i64 1,.int .i64 1,.int .i64 0,.int .i64 2,.int .i64 1]]=some ⟨.int .i64 56,[]⟩:=by kernel_rfl
  have h39:d39 [.agg [.int .i64 2,.int .i64 1,.int .i64 1,.int .i64 1,.int .i64 0,.int .i64 2,.int .i64 1]]=some ⟨.int .i64 8,[]⟩:=by kernel_rfl
  obtain ⟨hcfA,hwA,hwlA,hs0A,ht0A,ht1A,hlgA⟩:=okW_ex (aw_ok)
  have hTA:=w_t0 hwA
  have hCA:=w_cl hwA
  have hTlA:=l_t0 hlgA
  have hClA:=l_cl hlgA
  have hqS:t0LL awS=awS:=by kernel_rfl
  have hqS2:clLL awS=true:=by kernel_rfl
  have hqT:t0LL awT=awT:=by kernel_rfl
  have hqT2:clLL awT=true:=by kernel_rfl
  have hrun:=swChk_ok 56 sw0 aw0 aws_chk
  have hend:=aws_end
  have hsuc:=fun k=>swRun_succ k sw0 aw0
  obtain ⟨A0,hA0⟩:∃ z,aw0=z:=⟨_,rfl⟩
  obtain ⟨qS,hqSe⟩:∃ z,awS=z:=⟨_,rfl⟩
  obtain ⟨qT,hqTe⟩:∃ z,awT=z:=⟨_,rfl⟩
  rw[hA0]at h9 hTA hCA hTlA hClA hrun hend hsuc
  rw[hqSe]at h9 hqS hqS2
  rw[hqTe]at h9 hqT hqT2
  clear hcfA hwA hwlA hs0A ht0A ht1A hlgA
  simp only[wzC,qC]at h9
  unfold m28
  repeat' with_reducible (first
   | refine ZR.h ?_ | refine zI (by decide) ?_
   | (refine zK hE ?_;intro K hK;simp[KR.ks,ELb,q28_0,q28_1,q28_2,q28_3,q28_4,q28_5,q28_6,q28_7,q28_8,q28_9,q28_10,q28_11,q28_12,q28_13,h9,h42,hTA,hCA,hTlA,hClA,hqS,hqS2,hqT,hqT2,ELb,d31];(repeat' (first | refine hK _ _ ?_ | refine And.intro ?_ ?_ | (intro hc;try subst hc)))<;>(try clear hK K))
   | (refine zJ (b:=_) (by with_unfolding_all rfl) (fun hc=>?_) (fun hc=>?_)<;>simp at hc<;>(try subst hc)))
  all_goals (refine Wm_loop (fun k=>I28 (swRun sw0 A0 k).1 (swRun sw0 A0 k).2 k) (fun k=>k≤56) (fun k=>56 - k) 0 (Nat.zero_le _) ?_ ?_)
  ·simp only[I28,swRun,sw0,swL,pC,wzC]
   rw[hS]
   refine Imp.auto (by kernel_rfl) ?_ ?_<;>simp[NLe,mkPlX,hTA,hCA,hTlA,hClA,hqS,hqS2,hqT,hqT2]
  ·clear h9 hTA hCA hTlA hClA
   intro k hk
   replace hk:k≤56:=hk
   have hok:=hrun k hk
   simp only[swOk,Bool.and_eq_true]at hok
   obtain ⟨⟨hsk,kW⟩,hsm⟩:=hok
   have hsucc:=hsuc k
   by_cases hk56:k<56
   ·have hkI:(k:Int)<56:=by omega
    have ww:IntKind.wrap .i64 ((k:Int)+1)=(k:Int)+1:=wrap_in (by omega) (by omega)
    obtain ⟨⟨s,W⟩,hr⟩:∃ r,swRun sw0 A0 k=r:=⟨_,rfl⟩
    rw[hr]at hsk kW hsm hsucc
    rw[hr]
    obtain ⟨sh,ix,ps,p⟩:=s
    simp only at hsk kW hsm hsucc⊢
    cases p with
    | none =>
     have hst:=fun u v u1 u2 u3 u4=>e29 hsk kW hsm u 0 v u1 u2 u3 u4
     obtain ⟨i2,q2,hsw⟩:=sw_p W ⟨sh,ix,ps,none⟩
     rw[hsw]at hst hsucc
     have kW2:okW (StepT W (swT W ⟨sh,ix,ps,none⟩)).2=true:=StepT_ok kW _
     obtain ⟨r2,hr2⟩:∃ r,StepT W (swT W ⟨sh,ix,ps,none⟩)=r:=⟨_,rfl⟩
     rw[hr2]at hst hsucc kW2
     obtain ⟨hcf,hw,hwl,hs0,ht0,ht1,hlg⟩:=okW_ex (kW)
     have hT:=w_t0 hw
     have hC:=w_cl hw
     have hTl:=l_t0 hlg
     have hCl:=l_cl hlg
     obtain ⟨hcf2,hw2,hwl2,hs02,ht02,ht12,hlg2⟩:=okW_ex (kW2)
     have hT2:=w_t0 hw2
     have hC2:=w_cl hw2
     have hTl2:=l_t0 hlg2
     have hCl2:=l_cl hlg2
     simp only[I28,swL,pC,tzC,wzC,wzL]at hst⊢
     repeat' with_reducible (first
      | refine ZR.h ?_ | refine zI (by decide) ?_
      | (refine zK hE ?_;intro K hK;simp[KR.ks,ELb,q28_0,q28_1,q28_2,q28_3,q28_4,q28_5,q28_6,q28_7,q28_8,q28_9,q28_10,q28_11,q28_12,q28_13,hT,hC,hTl,hCl,hT2,hC2,hTl2,hCl2,hkI,hst,ww];(repeat' (first | refine hK _ _ ?_ | refine And.intro ?_ ?_ | (intro hc;try subst hc)))<;>(try clear hK K))
      | (refine zJ (b:=_) (by with_unfolding_all rfl) (fun hc=>?_) (fun hc=>?_)<;>simp at hc<;>(try subst hc)))
     all_goals refine ⟨k+1,hk56,Nat.sub_lt_sub_left hk56 (Nat.lt_succ_self k),?_⟩
     all_goals simp only[hsucc]
     all_goals (try simp only[I28,swL,pC,tzC,wzC])
     all_goals rw[hS]
     all_goals (refine Imp.auto (by kernel_rfl) ?_ ?_<;>simp[NLe,mkPlX,hT,hC,hTl,hCl,hT2,hC2,hTl2,hCl2])
    | some T =>
     have hst:=e29 hsk kW hsm
     obtain ⟨i2,q2,hsw⟩:=sw_p W ⟨sh,ix,ps,some T⟩
     rw[hsw]at hst hsucc
     have kW2:okW (StepT W (swT W ⟨sh,ix,ps,some T⟩)).2=true:=StepT_ok kW _
     obtain ⟨r2,hr2⟩:∃ r,StepT W (swT W ⟨sh,ix,ps,some T⟩)=r:=⟨_,rfl⟩
     rw[hr2]at hst hsucc kW2
     obtain ⟨hcf,hw,hwl,hs0,ht0,ht1,hlg⟩:=okW_ex (kW)
     have hT:=w_t0 hw
     have hC:=w_cl hw
     have hTl:=l_t0 hlg
     have hCl:=l_cl hlg
     obtain ⟨hcf2,hw2,hwl2,hs02,ht02,ht12,hlg2⟩:=okW_ex (kW2)
     have hT2:=w_t0 hw2
     have hC2:=w_cl hw2
     have hTl2:=l_t0 hlg2
     have hCl2:=l_cl hlg2
     simp only[I28,swL,pC,tzC,wzC,wzL]at hst⊢
     repeat' with_reducible (first
      | refine ZR.h ?_ | refine zI (by decide) ?_
      | (refine zK hE ?_;intro K hK;simp[KR.ks,ELb,q28_0,q28_1,q28_2,q28_3,q28_4,q28_5,q28_6,q28_7,q28_8,q28_9,q28_10,q28_11,q28_12,q28_13,hT,hC,hTl,hCl,hT2,hC2,hTl2,hCl2,hkI,hst,ww];(repeat' (first | refine hK _ _ ?_ | refine And.intro ?_ ?_ | (intro hc;try subst hc)))<;>(try clear hK K))
      | (refine zJ (b:=_) (by with_unfolding_all rfl) (fun hc=>?_) (fun hc=>?_)<;>simp at hc<;>(try subst hc)))
     all_goals refine ⟨k+1,hk56,Nat.sub_lt_sub_left hk56 (Nat.lt_succ_self k),?_⟩
     all_goals simp only[hsucc]
     all_goals (try simp only[I28,swL,pC,tzC,wzC])
     all_goals rw[hS]
     all_goals (refine Imp.auto (by kernel_rfl) ?_ ?_<;>simp[NLe,mkPlX,hT,hC,hTl,hCl,hT2,hC2,hTl2,hCl2])
   ·have hke:k=56:=by omega
    subst hke
    have hkI:¬ (((56:Nat):Int)<56):=by omega
    clear hsucc hsuc
    obtain ⟨⟨s,W⟩,hr⟩:∃ r,swRun sw0 A0 56=r:=⟨_,rfl⟩
    rw[hr]at hsk kW hsm hend
    rw[hr]
    obtain ⟨sh,ix,ps,p⟩:=s
    simp only[swEnd,Bool.and_eq_true,decide_eq_true_eq]at hend
    obtain ⟨⟨⟨hd,hi0⟩,hp1⟩,hlen⟩:=hend
    skip
    subst hi0;subst hp1
    cases p with
    | none=>cases hd
    | some T =>
     have hpc:14≤T.pc:=of_decide_eq_true hd
     have f33:∀ u v,d33 [.op u [.int .i64 sh,.int .i64 0,.int .i64 1,.op v (tzC T)]]=some ⟨.bool true,[.free]⟩:=fun u v=>by
      simp only[d33,tzOf_C]
      rw[decide_eq_true hpc]
      rfl
     have f35:∀ u v,d35 [.op u [.int .i64 sh,.int .i64 0,.int .i64 1,.op v (tzC T)]]=some ⟨.int .i64 1,[.free]⟩:=fun u v=>by
      simp only[d35,tzOf_C]
     obtain ⟨hcf,hw,hwl,hs0,ht0,ht1,hlg⟩:=okW_ex (kW)
     have hT:=w_t0 hw
     have hC:=w_cl hw
     have hTl:=l_t0 hlg
     have hCl:=l_cl hlg
     simp only[I28,swL,pC,tzC,wzC,wzL]at f33 f35⊢
     repeat' with_reducible (first
      | refine ZR.h ?_ | refine zI (by decide) ?_
      | (refine zK hE ?_;intro K hK;simp[KR.ks,ELb,q28_0,q28_1,q28_2,q28_3,q28_4,q28_5,q28_6,q28_7,q28_8,q28_9,q28_10,q28_11,q28_12,q28_13,hT,hC,hTl,hCl,hkI,f33,f35,h40,h39,hlen];(repeat' (first | refine hK _ _ ?_ | refine And.intro ?_ ?_ | (intro hc;try subst hc)))<;>(try clear hK K))
      | (refine zJ (b:=_) (by with_unfolding_all rfl) (fun hc=>?_) (fun hc=>?_)<;>simp at hc<;>(try subst hc)))
     all_goals first|(simp;done)|(simp at *;omega)|((try simp[hT,hC,hTl,hCl]);refine Imp.auto (by kernel_rfl) ?_ ?_<;>simp[NLe,mkPlX,hT,hC,hTl,hCl])
 ·cases h
end Go.W

namespace Go.W
open Go.Proofs
set_option linter.unusedSimpArgs false
set_option linter.unusedVariables false
set_option maxHeartbeats 8000000
theorem swRun_add:∀ (a b:Nat) (s:SwZ) (W:WZ),swRun s W (a+b)=swRun (swRun s W a).1 (swRun s W a).2 b
 | 0,b,s,W=>by rw[Nat.zero_add];rfl
 | a+1,b,s,W=>by
  rw[show a+1+b=(a+b)+1 by omega]
  exact swRun_add a b (swStep W s).1 (swStep W s).2
theorem run_pcx {W:WZ} {T:TZ} (h:T.pc=0):∀ k:Nat,k≤14→(runT W T k).1.pc=k
 | 0,_=>by simp[runT,h]
 | k+1,hk=>by
  show (StepT (runT W T k).2 (runT W T k).1).1.pc=_
  rw[StepT_pc,run_pcx h k (by omega),if_neg (by omega)]
  omega
def freshZ:Option TZ→Prop
 | none=>True
 | some T=>14≤T.pc
theorem swT_fresh {W:WZ} {s:SwZ} (h:freshZ s.p):swT W s=tz0 3 (s.ix / (W.a*W.b)) 0 (s.ix % (W.a*W.b)) s.sh:=by
 obtain ⟨sh,ix,ps,p⟩:=s
 cases p with
 | none=>rfl
 | some T=>simp only[swT];rw[if_pos (show 14≤T.pc from h)]
theorem sw_part {W:WZ} {s:SwZ} (h:freshZ s.p) {T0:TZ} (hT:tz0 3 (s.ix / (W.a*W.b)) 0 (s.ix % (W.a*W.b)) s.sh=T0):∀ j:Nat,1≤j→j≤13→swRun s W j=(⟨s.sh,s.ix,s.ps,some (runT W T0 j).1⟩,(runT W T0 j).2)
 | 0,h1,_=>absurd h1 (by omega)
 | 1,_,_=>by
  have hp:(StepT W T0).1.pc=1:=by rw[StepT_pc,← hT];simp[tz0]
  show swStep W s=_
  unfold swStep
  rw[swT_fresh h,hT,if_neg (by omega)]
  rfl
 | j+2,_,h2=>by
  rw[swRun_succ,sw_part h hT (j+1) (by omega) (by omega)]
  have hpc:=run_pcx (W:=W) (T:=T0) (by rw[← hT];rfl) (j+1) (by omega)
  have hpc2:=run_pcx (W:=W) (T:=T0) (by rw[← hT];rfl) (j+2) (by omega)
  have e:runT W T0 (j+2)=StepT (runT W T0 (j+1)).2 (runT W T0 (j+1)).1:=rfl
  have ht:swT (runT W T0 (j+1)).2 ⟨s.sh,s.ix,s.ps,some (runT W T0 (j+1)).1⟩=(runT W T0 (j+1)).1:=by simp only[swT];rw[if_neg (by omega)]
  unfold swStep
  rw[ht,← e,if_neg (by omega)]
theorem sw_try {W:WZ} {s:SwZ} (h:freshZ s.p) {T0:TZ} (hT:tz0 3 (s.ix / (W.a*W.b)) 0 (s.ix % (W.a*W.b)) s.sh=T0):swRun s W 14=(if s.ix+1=W.a*W.b*(W.a*W.b) then ⟨s.sh,0,s.ps+1,some (runT W T0 14).1⟩ else ⟨s.sh,s.ix+1,s.ps,some (runT W T0 14).1⟩,(runT W T0 14).2):=by
 rw[show 14=13+1 from rfl,swRun_succ,sw_part h hT 13 (by omega) (by omega)]
 have hpc:=run_pcx (W:=W) (T:=T0) (by rw[← hT];rfl) 13 (by omega)
 have hpc2:=run_pcx (W:=W) (T:=T0) (by rw[← hT];rfl) 14 (by omega)
 have e:runT W T0 14=StepT (runT W T0 13).2 (runT W T0 13).1:=rfl
 have ht:swT (runT W T0 13).2 ⟨s.sh,s.ix,s.ps,some (runT W T0 13).1⟩=(runT W T0 13).1:=by simp only[swT];rw[if_neg (by omega)]
 have hp:=parX_ab (run_parx W T0 13)
 unfold swStep
 rw[ht,← e,if_pos (by omega),hp.1,hp.2.1]
 split<;>rfl
theorem pass_par (sh n:Int) (W:WZ):∀ m,parX (passW sh n W m)=parX W
 | 0=>rfl
 | m+1=>(run_parx _ _ 14).trans (pass_par sh n W m)
theorem sw_pass {W:WZ} {n sh:Int} (hn:W.a*W.b=n) (h1:1≤n):∀ m:Nat,(m:Int)≤n*n→∃ i q p,swRun ⟨sh,0,0,none⟩ W (14*m)=(⟨sh,i,q,p⟩,passW sh n W m)∧freshZ p∧((m:Int)<n*n→i=m)
 | 0,_=>⟨0,0,none,rfl,trivial,fun _=>by simp⟩
 | m+1,hm=>by
  obtain ⟨i,q,p,e,hf,hi⟩:=sw_pass (sh:=sh) hn h1 m (by omega)
  have him:i=m:=hi (by omega)
  subst him
  have hp:=parX_ab (pass_par sh n W m)
  rw[show 14*(m+1)=14*m+14 by omega,swRun_add,e]
  have ht:=sw_try (W:=passW sh n W m) (s:=⟨sh,m,q,p⟩) hf rfl
  simp only[hp.1,hp.2.1,hn]at ht
  have hpc:(14:Int)≤(runT (passW sh n W m) (tz0 3 ((m:Int) / n) 0 ((m:Int) % n) sh) 14).1.pc:=by
   rw[run_pcx rfl 14 (Nat.le_refl _)];omega
  by_cases hl:(m:Int)+1=n*n
  ·rw[if_pos hl]at ht
   exact ⟨0,q+1,_,ht,hpc,fun h=>by omega⟩
  ·rw[if_neg hl]at ht
   exact ⟨(m:Int)+1,q,_,ht,hpc,fun _=>by omega⟩
def SwInv (W0:WZ) (k:Nat) (r:SwZ×WZ):Prop:=okW r.2=true∧parX r.2=parX W0∧0≤r.1.ix∧r.1.ix<W0.a*W0.b*(W0.a*W0.b)∧0≤r.1.ps∧r.1.ps≤k∧(∀ T,r.1.p=some T→okT T=true)∧r.2.s≤W0.s+k∧r.2.lg.length≤W0.lg.length+k
theorem sw_inv {W:WZ} {sh:Int} (hW:okW W=true):∀ k:Nat,SwInv W k (swRun ⟨sh,0,0,none⟩ W k)
 | 0=>by
  have hall:=cfg_all (okW_ex hW).1
  have:=Int.mul_le_mul hall.1 hall.1 (by omega) (by omega)
  exact ⟨hW,rfl,Int.le_refl _,by show 0<W.a*W.b*(W.a*W.b);omega,Int.le_refl _,Int.le_refl _,fun T h=>(by cases h),by simp[swRun],by simp[swRun]⟩
 | k+1=>by
  obtain ⟨i1,i2,i3,i4,i5,i6,i7,i8,i9⟩:=sw_inv (sh:=sh) hW k
  rw[swRun_succ]
  obtain ⟨⟨s,V⟩,hr⟩:∃ r,swRun ⟨sh,0,0,none⟩ W k=r:=⟨_,rfl⟩
  rw[hr]at i1 i2 i3 i4 i5 i6 i7 i8 i9⊢
  simp only at i1 i2 i3 i4 i5 i6 i7 i8 i9⊢
  have hall:=cfg_all (okW_ex hW).1
  have hm:=Int.mul_le_mul hall.1 hall.1 (by omega) (by omega)
  have hp:=parX_ab i2
  have hpx:=(run_parx V (swT V s) 1).trans i2
  have hT:okT (swT V s)=true:=by
   obtain ⟨a,b,c,p⟩:=s
   cases p with
   | none=>exact tz0_oks _ _ _ _ _
   | some T =>
    simp only[swT]
    split
    ·exact tz0_oks _ _ _ _ _
    ·exact i7 T rfl
  have hok:=StepT_ok i1 (swT V s)
  have hokT:=StepT_T hT i1
  have fr:=StepT_fr V (swT V s)
  have hpx:parX (StepT V (swT V s)).2=parX W:=hpx
  unfold swStep
  split
  ·split
   ·exact ⟨hok,hpx,Int.le_refl _,by show 0<W.a*W.b*(W.a*W.b);omega,by show 0≤s.ps+1;omega,by show s.ps+1≤_;omega,fun T h=>by injection h with h;rw[← h];exact hokT,by show (StepT V (swT V s)).2.s≤_;omega,by show (StepT V (swT V s)).2.lg.length≤_;omega⟩
   ·rename_i hl
    rw[hp.1,hp.2.1]at hl
    exact ⟨hok,hpx,by show 0≤s.ix+1;omega,by show s.ix+1<_;omega,i5,by show s.ps≤_;omega,fun T h=>by injection h with h;rw[← h];exact hokT,by show (StepT V (swT V s)).2.s≤_;omega,by show (StepT V (swT V s)).2.lg.length≤_;omega⟩
  ·exact ⟨hok,hpx,i3,i4,i5,by show s.ps≤_;omega,fun T h=>by injection h with h;rw[← h];exact hokT,by show (StepT V (swT V s)).2.s≤_;omega,by show (StepT V (swT V s)).2.lg.length≤_;omega⟩
theorem SwInv_ok {W0:WZ} {k:Nat} {r:SwZ×WZ} (h:SwInv W0 k r) (hk:k≤100000) (hab:W0.a*W0.b≤24) (h0:1≤W0.a*W0.b):okSw r.1=true:=by
 obtain ⟨i1,i2,i3,i4,i5,i6,i7,i8,i9⟩:=h
 have hm:=mul_in (show 0≤W0.a*W0.b by omega) hab (show 0≤W0.a*W0.b by omega) hab
 obtain ⟨⟨sh,ix,ps,p⟩,V⟩:=r
 simp only at i3 i4 i5 i6 i7
 simp only[okSw,Bool.and_eq_true,decide_eq_true_eq]
 refine ⟨by omega,?_⟩
 cases p with
 | none=>rfl
 | some T=>exact i7 T rfl
end Go.W

