/- Rows whose arguments are slices of structs of integers and truths; from a specification of a call that only reads to a statement's call. -/
import Derived.Test.YtidbbnkpglggdaaPvC
import Derived.Test.YtidbbnkpglggdaaWcA
import Derived.Test.YtidbbnkpglggdaaWbA
import Derived.Deep.Slices
namespace Go.W
open Go.Proofs
set_option linter.unusedSimpArgs false
set_option linter.unusedVariables false
set_option maxHeartbeats 8000000
attribute [local irreducible] Wm
attribute [local simp] nmap lkp mkPl prs prsL prT ddL idL CRenL CRen Ren RenL NObj.none CRenLL
def swRun : SwZ→WZ→Nat→SwZ × WZ
 | s,W,0=>(s,W)
 | s,W,k + 1=>swRun (swStep W s).1 (swStep W s).2 k
theorem swRun_succ : ∀ (k : Nat) (s : SwZ) (W : WZ),swRun s W (k + 1) = swStep (swRun s W k).2 (swRun s W k).1
 | 0,_,_=>rfl
 | k + 1,s,W=>swRun_succ k (swStep W s).1 (swStep W s).2
def swOk (s : SwZ) (W : WZ) : Bool:=okSw s && okW W && smW W
def swChk : Nat→SwZ→WZ→Bool
 | 0,s,W=>swOk s W
 | k + 1,s,W=>swOk s W && swChk k (swStep W s).1 (swStep W s).2
theorem swChk_ok : ∀ (k : Nat) (s : SwZ) (W : WZ),swChk k s W = true→∀ j,j≤k→swOk (swRun s W j).1 (swRun s W j).2 = true
 | 0,s,W,h,j,hj=>by
  obtain rfl : j = 0:=by omega
  exact h
 | k + 1,s,W,h,0,hj=>by
  simp only[swChk,Bool.and_eq_true]at h
  exact h.1
 | k + 1,s,W,h,j + 1,hj=>by
  simp only[swChk,Bool.and_eq_true]at h
  exact swChk_ok k _ _ h.2 j (by omega)
def sw0 : SwZ:=⟨0,0,0,none⟩
theorem aws_chk : swChk 56 sw0 aw0 = true:=by kernel_rfl
def swDone (s : SwZ) : Bool:=match s.p with
 | some T=>decide (14≤T.pc)
 | none=>false
def swEnd (r : SwZ × WZ) : Bool:=swDone r.1 && decide (r.1.ix = 0) && decide (r.1.ps = 1) && decide (r.2.lg.length = 1)
theorem aws_end : swEnd (swRun sw0 aw0 56) = true:=by kernel_rfl
def ELb : List (FuncId × Spec):=[(42,nestS [] d42 ok42),(9,nestS [(10,false)] d9 ok9),(31,nestS [] d31 ok31),(29,nestS [(4,true),(10,true)] d29 ok29),(40,nestS [] d40 ok40),(39,nestS [] d39 ok39),(35,nestS [(4,false)] d35 ok35),(33,nestS [(4,false)] d33 ok33)]
theorem ELb_ok : SoundAll Try.prog (EL ELb):=EL_sound (by
 simp only[ELb,List.mem_cons,List.not_mem_nil,or_false,forall_eq_or_imp,forall_eq]
 exact ⟨s42,s9,s31,s29,s40,s39,s35,s33⟩)
def d28 : List AV→Option Ans
 | []=>some ⟨.bool true,[]⟩
 | _=>none
def I28 (s : SwZ) (W : WZ) (k : Nat) : St:=⟨[(2,.ptr (.top 0) 0 0),(6,.ptr (.top 1) 0 0),(9,.ptr (.top 2) 0 0),(38,.int .i64 k)],[(0,.cells 0 [.int .i64 2,.int .i64 1,.int .i64 1,.int .i64 1,.int .i64 0,.int .i64 2,.int .i64 1]),(1,.cells 0 (wzC W)),(2,.cells 0 (swL s 0))],3⟩
theorem ok28 : NOk [] d28:=by
 intro xs a h
 unfold d28 at h
 (repeat' (split at h))<;>first|(cases h;done)|(injection h with h;subst h;refine ⟨Ends_of ?_,?_⟩<;>simp)
theorem s28 : Sound Try.prog 28 (nestS [] d28 ok28):=by
 refine nest_sound Try.func28 nm28 rc28 rv28 ok28 (fun xs a h=>?_) fun xs a h w0 S hS=>?_
 ·unfold d28 at h
  (repeat' (split at h))<;>first|(cases h;done)|exact Nat.le_of_ble_eq_true rfl
 unfold d28 at h
 split at h
 ·skip
  injection h with h
  subst h
  have hE:=ELb_ok
  have h9 : ∀ u,d9 [.agg [.int .i64 2,.int .i64 1,.int .i64 1,.int .i64 1,.int .i64 0,.int .i64 2,.int .i64 1],.os u 10 [[.int .i64 2,.bool false,.int .i64 1,.int .i64 5,.int .i64 0,.int .i64 0,.int .i64 0,.int .i64 10,.int .i64 1,.int .i64 9],[.int .i64 2,.bool false,.int .i64 1,.int .i64 3,.int .i64 0,.int .i64 0,.int .i64 1,.int .i64 8,.int .i64 1,.int .i64 9]]] = some ⟨.tup [.op 0 (wzC aw0),.op 0 (qC 2 1 1 1 0 2 1 awS awT),.bool true],[.free]⟩:=fun u=>by
   simp only[d9]
   rw[if_pos (by kernel_rfl),if_pos (by kernel_rfl)]
   simp only[bothA,List.length_cons,List.length_nil]
   rw[aw_both]
   rfl
  have h42 : d42 [.agg [.int .i64 2,.int .i64 1,.int .i64 1,.int .i64 1,.int .i64 0,.int .i64 2,.int .i64 1]] = some ⟨.tup [.agg [.int .i64 2,.int .i64 1,.int .i64 1,.int .i64 1,.int .i64 0,.int .i64 2,.int .i64 1],.raw .nilIface],[]⟩:=by kernel_rfl
  have h40 : d40 [.agg [.int .i64 2,.int .i64 1,.int .i64 1,.int .i64 1,.int .i64 0,.int .i64 2,.int .i64 1]] = some ⟨.int .i64 56,[]⟩:=by kernel_rfl
  have h39 : d39 [.agg [.int .i64 2,.int .i64 1,.int .i64 1,.int .i64 1,.int .i64 0,.int .i64 2,.int .i64 1]] = some ⟨.int .i64 8,[]⟩:=by kernel_rfl
  obtain ⟨hcfA,hwA,hwlA,hs0A,ht0A,ht1A,hlgA⟩:=okW_ex (aw_ok)
  have hTA:=w_t0 hwA
  have hCA:=w_cl hwA
  have hTlA:=l_t0 hlgA
  have hClA:=l_cl hlgA
  have hqS : t0LL awS = awS:=by kernel_rfl
  have hqS2 : clLL awS = true:=by kernel_rfl
  have hqT : t0LL awT = awT:=by kernel_rfl
  have hqT2 : clLL awT = true:=by kernel_rfl
  have hrun:=swChk_ok 56 sw0 aw0 aws_chk
  have hend:=aws_end
  have hsuc:=fun k=>swRun_succ k sw0 aw0
  obtain ⟨A0,hA0⟩ : ∃ z,aw0 = z:=⟨_,rfl⟩
  obtain ⟨qS,hqSe⟩ : ∃ z,awS = z:=⟨_,rfl⟩
  obtain ⟨qT,hqTe⟩ : ∃ z,awT = z:=⟨_,rfl⟩
  rw[hA0]at h9 hTA hCA hTlA hClA hrun hend hsuc
  rw[hqSe]at h9 hqS hqS2
  rw[hqTe]at h9 hqT hqT2
  clear hcfA hwA hwlA hs0A ht0A ht1A hlgA
  simp only[wzC,qC]at h9
  unfold m28
  repeat' with_reducible (first
   | refine ZR.h ?_ | refine zI (by decide) ?_
   | (refine zK hE ?_;intro K hK;simp[KR.ks,ELb,q28_0,q28_1,q28_2,q28_3,q28_4,q28_5,q28_6,q28_7,q28_8,q28_9,q28_10,q28_11,q28_12,q28_13,h9,h42,hTA,hCA,hTlA,hClA,hqS,hqS2,hqT,hqT2,ELb,d31];(repeat' (first | refine hK _ _ ?_ | refine And.intro ?_ ?_ | (intro hc;try subst hc)))<;>(try clear hK K))
   | (refine zJ (b:=_) (by with_unfolding_all rfl) (fun hc=>?_) (fun hc=>?_)<;>simp at hc<;>(try subst hc)))
  all_goals (refine Wm_loop (fun k=>I28 (swRun sw0 A0 k).1 (swRun sw0 A0 k).2 k) (fun k=>k≤56) (fun k=>56 - k) 0 (Nat.zero_le _) ?_ ?_)
  ·simp only[I28,swRun,sw0,swL,pC,wzC]
   rw[hS]
   refine Imp.auto (by kernel_rfl) ?_ ?_<;>simp[NLe,mkPlX,hTA,hCA,hTlA,hClA,hqS,hqS2,hqT,hqT2]
  ·clear h9 hTA hCA hTlA hClA
   intro k hk
   replace hk : k≤56:=hk
   have hok:=hrun k hk
   simp only[swOk,Bool.and_eq_true]at hok
   obtain ⟨⟨hsk,kW⟩,hsm⟩:=hok
   have hsucc:=hsuc k
   by_cases hk56 : k < 56
   ·have hkI : (k : Int) < 56:=by omega
    have ww : IntKind.wrap .i64 ((k : Int) + 1) = (k : Int) + 1:=wrap_in (by omega) (by omega)
    obtain ⟨⟨s,W⟩,hr⟩ : ∃ r,swRun sw0 A0 k = r:=⟨_,rfl⟩
    rw[hr]at hsk kW hsm hsucc
    rw[hr]
    obtain ⟨sh,ix,ps,p⟩:=s
    simp only at hsk kW hsm hsucc ⊢
    cases p with
    | none =>
     have hst:=fun u v u1 u2 u3 u4=>e29 hsk kW hsm u 0 v u1 u2 u3 u4
     obtain ⟨i2,q2,hsw⟩:=sw_p W ⟨sh,ix,ps,none⟩
     rw[hsw]at hst hsucc
     have kW2 : okW (StepT W (swT W ⟨sh,ix,ps,none⟩)).2 = true:=StepT_ok kW _
     obtain ⟨r2,hr2⟩ : ∃ r,StepT W (swT W ⟨sh,ix,ps,none⟩) = r:=⟨_,rfl⟩
     rw[hr2]at hst hsucc kW2
     obtain ⟨hcf,hw,hwl,hs0,ht0,ht1,hlg⟩:=okW_ex (kW)
     have hT:=w_t0 hw
     have hC:=w_cl hw
     have hTl:=l_t0 hlg
     have hCl:=l_cl hlg
     obtain ⟨hcf2,hw2,hwl2,hs02,ht02,ht12,hlg2⟩:=okW_ex (kW2)
     have hT2:=w_t0 hw2
     have hC2:=w_cl hw2
     have hTl2:=l_t0 hlg2
     have hCl2:=l_cl hlg2
     simp only[I28,swL,pC,tzC,wzC,wzL]at hst ⊢
     repeat' with_reducible (first
      | refine ZR.h ?_ | refine zI (by decide) ?_
      | (refine zK hE ?_;intro K hK;simp[KR.ks,ELb,q28_0,q28_1,q28_2,q28_3,q28_4,q28_5,q28_6,q28_7,q28_8,q28_9,q28_10,q28_11,q28_12,q28_13,hT,hC,hTl,hCl,hT2,hC2,hTl2,hCl2,hkI,hst,ww];(repeat' (first | refine hK _ _ ?_ | refine And.intro ?_ ?_ | (intro hc;try subst hc)))<;>(try clear hK K))
      | (refine zJ (b:=_) (by with_unfolding_all rfl) (fun hc=>?_) (fun hc=>?_)<;>simp at hc<;>(try subst hc)))
     all_goals refine ⟨k + 1,hk56,Nat.sub_lt_sub_left hk56 (Nat.lt_succ_self k),?_⟩
     all_goals simp only[hsucc]
     all_goals (try simp only[I28,swL,pC,tzC,wzC])
     all_goals rw[hS]
     all_goals (refine Imp.auto (by kernel_rfl) ?_ ?_<;>simp[NLe,mkPlX,hT,hC,hTl,hCl,hT2,hC2,hTl2,hCl2])
    | some T =>
     have hst:=e29 hsk kW hsm
     obtain ⟨i2,q2,hsw⟩:=sw_p W ⟨sh,ix,ps,some T⟩
     rw[hsw]at hst hsucc
     have kW2 : okW (StepT W (swT W ⟨sh,ix,ps,some T⟩)).2 = true:=StepT_ok kW _
     obtain ⟨r2,hr2⟩ : ∃ r,StepT W (swT W ⟨sh,ix,ps,some T⟩) = r:=⟨_,rfl⟩
     rw[hr2]at hst hsucc kW2
     obtain ⟨hcf,hw,hwl,hs0,ht0,ht1,hlg⟩:=okW_ex (kW)
     have hT:=w_t0 hw
     have hC:=w_cl hw
     have hTl:=l_t0 hlg
     have hCl:=l_cl hlg
     obtain ⟨hcf2,hw2,hwl2,hs02,ht02,ht12,hlg2⟩:=okW_ex (kW2)
     have hT2:=w_t0 hw2
     have hC2:=w_cl hw2
     have hTl2:=l_t0 hlg2
     have hCl2:=l_cl hlg2
     simp only[I28,swL,pC,tzC,wzC,wzL]at hst ⊢
     repeat' with_reducible (first
      | refine ZR.h ?_ | refine zI (by decide) ?_
      | (refine zK hE ?_;intro K hK;simp[KR.ks,ELb,q28_0,q28_1,q28_2,q28_3,q28_4,q28_5,q28_6,q28_7,q28_8,q28_9,q28_10,q28_11,q28_12,q28_13,hT,hC,hTl,hCl,hT2,hC2,hTl2,hCl2,hkI,hst,ww];(repeat' (first | refine hK _ _ ?_ | refine And.intro ?_ ?_ | (intro hc;try subst hc)))<;>(try clear hK K))
      | (refine zJ (b:=_) (by with_unfolding_all rfl) (fun hc=>?_) (fun hc=>?_)<;>simp at hc<;>(try subst hc)))
     all_goals refine ⟨k + 1,hk56,Nat.sub_lt_sub_left hk56 (Nat.lt_succ_self k),?_⟩
     all_goals simp only[hsucc]
     all_goals (try simp only[I28,swL,pC,tzC,wzC])
     all_goals rw[hS]
     all_goals (refine Imp.auto (by kernel_rfl) ?_ ?_<;>simp[NLe,mkPlX,hT,hC,hTl,hCl,hT2,hC2,hTl2,hCl2])
   ·have hke : k = 56:=by omega
    subst hke
    have hkI : ¬ (((56 : Nat) : Int) < 56):=by omega
    clear hsucc hsuc
    obtain ⟨⟨s,W⟩,hr⟩ : ∃ r,swRun sw0 A0 56 = r:=⟨_,rfl⟩
    rw[hr]at hsk kW hsm hend
    rw[hr]
    obtain ⟨sh,ix,ps,p⟩:=s
    simp only[swEnd,Bool.and_eq_true,decide_eq_true_eq]at hend
    obtain ⟨⟨⟨hd,hi0⟩,hp1⟩,hlen⟩:=hend
    skip
    subst hi0;subst hp1
    cases p with
    | none=>cases hd
    | some T =>
     have hpc : 14≤T.pc:=of_decide_eq_true hd
     have f33 : ∀ u v,d33 [.op u [.int .i64 sh,.int .i64 0,.int .i64 1,.op v (tzC T)]] = some ⟨.bool true,[.free]⟩:=fun u v=>by
      simp only[d33,tzOf_C]
      rw[decide_eq_true hpc]
      rfl
     have f35 : ∀ u v,d35 [.op u [.int .i64 sh,.int .i64 0,.int .i64 1,.op v (tzC T)]] = some ⟨.int .i64 1,[.free]⟩:=fun u v=>by
      simp only[d35,tzOf_C]
     obtain ⟨hcf,hw,hwl,hs0,ht0,ht1,hlg⟩:=okW_ex (kW)
     have hT:=w_t0 hw
     have hC:=w_cl hw
     have hTl:=l_t0 hlg
     have hCl:=l_cl hlg
     simp only[I28,swL,pC,tzC,wzC,wzL]at f33 f35 ⊢
     repeat' with_reducible (first
      | refine ZR.h ?_ | refine zI (by decide) ?_
      | (refine zK hE ?_;intro K hK;simp[KR.ks,ELb,q28_0,q28_1,q28_2,q28_3,q28_4,q28_5,q28_6,q28_7,q28_8,q28_9,q28_10,q28_11,q28_12,q28_13,hT,hC,hTl,hCl,hkI,f33,f35,h40,h39,hlen];(repeat' (first | refine hK _ _ ?_ | refine And.intro ?_ ?_ | (intro hc;try subst hc)))<;>(try clear hK K))
      | (refine zJ (b:=_) (by with_unfolding_all rfl) (fun hc=>?_) (fun hc=>?_)<;>simp at hc<;>(try subst hc)))
     all_goals first|(simp;done)|(simp at *;omega)|((try simp[hT,hC,hTl,hCl]);refine Imp.auto (by kernel_rfl) ?_ ?_<;>simp[NLe,mkPlX,hT,hC,hTl,hCl])
 ·cases h
end Go.W
namespace Go.W
open Go.Proofs
set_option linter.unusedSimpArgs false
set_option linter.unusedVariables false
set_option maxHeartbeats 8000000
attribute [local irreducible] Wm
attribute [local simp] nmap lkp mkPl prs prsL prT ddL idL CRenL CRen Ren RenL NObj.none CRenLL
def rpsS : Spec:=ifS nil1 (nestS [] d30n ok30n) (nestS [(16,false)] d30w ok30w)
theorem rpsS_ok : Sound Try.prog 30 rpsS:=ifS_sound s30n s30w
def ELc : List (FuncId × Spec):=[(27,nestS [] d27 ok27),(28,nestS [] d28 ok28),(29,swpS),(30,rpsS),(31,nestS [] d31 ok31),(32,nestS [] d32 ok32),(33,sbegS),(34,nestS [] d34n ok34n),(35,spasS),(36,nestS [] d36n ok36n)]
theorem ELc_ok : SoundAll Try.prog (EL ELc):=EL_sound (by
 simp only[ELc,List.mem_cons,List.not_mem_nil,or_false,forall_eq_or_imp,forall_eq]
 exact ⟨s27,s28,swpS_ok,rpsS_ok,s31,s32,sbegS_ok,s34n,spasS_ok,s36n⟩)
def d7 : List AV→List NObj→Option AV
 | [.agg [.int .i64 a,.int .i64 b,.int .i64 c,.int .i64 d,.int .i64 e,.int .i64 f,.int .i64 g]],[]=>some (.bool true)
 | _,_=>none
theorem ok7 : ROk d7:=by
 intro xs os r h
 unfold d7 at h
 (repeat' (split at h))<;>first|(cases h;done)|(injection h with h;subst h;simp)
theorem s7 : Sound Try.prog 7 (rdS d7 ok7):=by
 refine rd_sound Try.func7 nm7 rc7 rv7 ok7 fun xs os r h vs ρ0 hvs=>⟨xs,?_,fun _ h=>h,fun w0 S hS=>?_⟩
 ·unfold d7 at h
  (repeat' (split at h))<;>first|(cases h;done)|exact Nat.le_of_ble_eq_true rfl
 unfold d7 at h
 split at h
 ·rename_i a b c d e f g
  injection h with h
  subst h
  have hE:=ELc_ok
  have hcase : cfgB a b c d e f g = true∨cfgB a b c d e f g = false:=by cases cfgB a b c d e f g<;>simp
  rcases hcase with h1|h1
  ·unfold m7
   repeat' with_reducible (first
    | refine ZR.h ?_ | refine zI (by decide) ?_
    | (refine zK hE ?_;intro K hK;simp[KR.ks,q7_0,q7_1,q7_2,q7_3,q7_4,q7_5,q7_6,q7_7,q7_8,q7_9,h1,ELc,d27,d28,swpS,rpsS,sbegS,spasS,ifS_fn,nil1,nil2,d29n,d29w,d30n,d30w,d31,d32,d33n,d34n,d35n,d36n];(repeat' (first | refine hK _ _ ?_ | refine And.intro ?_ ?_ | (intro hc;try subst hc)))<;>(try clear hK K))
    | (refine zJ (b:=_) (by with_unfolding_all rfl) (fun hc=>?_) (fun hc=>?_)<;>simp at hc<;>(try subst hc)))
   all_goals first|(simp;done)|(simp at *;omega)|((try simp);refine Imp.auto (by kernel_rfl) ?_ ?_<;>simp[NLe,mkPlX])
  ·unfold m7
   repeat' with_reducible (first
    | refine ZR.h ?_ | refine zI (by decide) ?_
    | (refine zK hE ?_;intro K hK;simp[KR.ks,q7_0,q7_1,q7_2,q7_3,q7_4,q7_5,q7_6,q7_7,q7_8,q7_9,h1,ELc,d27,d28];(repeat' (first | refine hK _ _ ?_ | refine And.intro ?_ ?_ | (intro hc;try subst hc)))<;>(try clear hK K))
    | (refine zJ (b:=_) (by with_unfolding_all rfl) (fun hc=>?_) (fun hc=>?_)<;>simp at hc<;>(try subst hc)))
   all_goals first|(simp;done)|(simp at *;omega)|((try simp);refine Imp.auto (by kernel_rfl) ?_ ?_<;>simp[NLe,mkPlX])
 ·cases h
end Go.W
set_option linter.unusedSimpArgs false
set_option linter.unusedVariables false
namespace Go.W
open Go.ChangeShapes Go.WideShapes Go.ChangeAt Go.RowKit Go.Joins Go.Deep
def leafV (k : Bool) (a : AV) (v : Value) : Prop:=if k = true then ∃ b,a = .bool b∧v = .bool b else ∃ n,a = .int .i64 n∧v = .int .i64 n∧-9223372036854775808≤n∧n≤9223372036854775807
def flatBs (P : Program) (fl : TypeId→Option (List Bool)) : List Field→Nat→Option (List Bool)
 | [],_=>some []
 | f :: r,off=>match fl f.type with
  | some ks=>if f.offset = off∧P.cellsOf f.type = ks.length then (match flatBs P fl r (off + ks.length) with
   | some rs=>some (ks ++ rs)
   | none=>none) else none
  | none=>none
def flatB (P : Program) : Nat→TypeId→Option (List Bool)
 | 0,_=>none
 | d + 1,t=>match P.underlying t with
  | some (.int .i64)=>some [false]
  | some .bool=>some [true]
  | some (.struct fs)=>match flatBs P (flatB P d) fs.toList 0 with
   | some ks=>if P.cellsOf t = ks.length then some ks else none
   | none=>none
  | _=>none
section
variable {H : Type} {enc : TypeId × Value→H} {P : Program} {w : World} {base : Nat} {spare : Nat→Bool} {held : Bool}
theorem flatBs_leaf {fl : TypeId→Option (List Bool)} (hfl : ∀ (t : TypeId) (ks : List Bool) (fuel : Nat) (cs : List Value) (x : DataW H × List MemPlace),fl t = some ks→DataW.trod enc P w base spare held fuel t cs = some x→cs.length = ks.length∧∀ (j : Nat) (k : Bool),ks[j]? = some k→∃ a v,cs[j]? = some v∧leafV k a v) {cs : List Value} :
  ∀ (l : List Field) (off : Nat) (ks : List Bool),flatBs P fl l off = some ks→(∀ f,f ∈ l→∃ fuel x,DataW.trod enc P w base spare held fuel f.type ((cs.drop f.offset).take (P.cellsOf f.type)) = some x)→∀ (j : Nat) (k : Bool),ks[j]? = some k→∃ a v,cs[off + j]? = some v∧leafV k a v
 | [],off,ks,h,_=>by
  simp only[flatBs,Option.some.injEq]at h
  subst h
  intro j k hk
  simp at hk
 | f :: r,off,ks,h,hx=>by
  simp only[flatBs]at h
  split at h
  ·rename_i k0 hk0
   split at h
   ·rename_i hc
    split at h
    ·rename_i rs hrs
     simp only[Option.some.injEq]at h
     subst h
     have h2:=flatBs_leaf hfl r (off + k0.length) rs hrs fun g hg=>hx g (List.mem_cons_of_mem _ hg)
     obtain ⟨fuel,x,h3⟩:=hx f List.mem_cons_self
     rw[hc.1,hc.2]at h3
     obtain ⟨h4,h5⟩:=hfl _ _ _ _ _ hk0 h3
     intro j k hk
     by_cases hj : j < k0.length
     ·rw[List.getElem?_append_left hj]at hk
      obtain ⟨a,v,e1,e2⟩:=h5 j k hk
      rw[List.getElem?_take,if_pos hj,List.getElem?_drop]at e1
      exact ⟨a,v,e1,e2⟩
     ·rw[List.getElem?_append_right (by omega)]at hk
      obtain ⟨a,v,e1,e2⟩:=h2 _ k hk
      rw[show off + k0.length + (j - k0.length) = off + j from by omega]at e1
      exact ⟨a,v,e1,e2⟩
    ·cases h
   ·cases h
  ·cases h
theorem flatB_leaf : ∀ (dp : Nat) (t : TypeId) (ks : List Bool) (fuel : Nat) (cs : List Value) (x : DataW H × List MemPlace),flatB P dp t = some ks→DataW.trod enc P w base spare held fuel t cs = some x→cs.length = ks.length∧∀ (j : Nat) (k : Bool),ks[j]? = some k→∃ a v,cs[j]? = some v∧leafV k a v
 | 0,t,ks,fuel,cs,x,h,_=>by simp[flatB]at h
 | d + 1,t,ks,fuel,cs,x,h,hx=>by
  unfold flatB at h
  split at h
  ·rename_i hu
   simp only[Option.some.injEq]at h
   subst h
   obtain ⟨n,rfl,_,hwf⟩:=DataW.trod_int hu hx
   have hr : -9223372036854775808≤n∧n≤9223372036854775807:=by simpa [Lit.wf,IntKind.min,IntKind.max,IntKind.bits,IntKind.signed] using hwf
   refine ⟨rfl,fun j k hk=>?_⟩
   cases j with
   | zero=>simp at hk;subst hk;exact ⟨.int .i64 n,.int .i64 n,rfl,by rw[leafV,if_neg (by simp)];exact ⟨n,rfl,rfl,hr⟩⟩
   | succ j=>simp at hk
  ·rename_i hu
   simp only[Option.some.injEq]at h
   subst h
   obtain ⟨b,rfl,_⟩:=DataW.trod_bool hu hx
   refine ⟨rfl,fun j k hk=>?_⟩
   cases j with
   | zero=>simp at hk;subst hk;exact ⟨.bool b,.bool b,rfl,by rw[leafV,if_pos rfl];exact ⟨b,rfl,rfl⟩⟩
   | succ j=>simp at hk
  ·rename_i fs hu
   split at h
   ·rename_i ks' hm
    split at h
    ·rename_i hc
     simp only[Option.some.injEq]at h
     subst h
     obtain ⟨xs,n,_,_,hl,hxl,hf⟩:=DataW.trod_struct hu hx
     have:=flatBs_leaf (fun t k fuel cs x=>flatB_leaf d t k fuel cs x) fs.toList 0 ks' hm fun f hfm=>by
      obtain ⟨i,hi⟩:=List.getElem?_of_mem hfm
      have hi' : fs[i]? = some f:=by rw[← Array.getElem?_toList];exact hi
      have h1:=hf i f hi'
      have hlt : i < xs.length:=by rw[hxl];exact (Array.getElem?_eq_some_iff.1 hi').1
      rw[List.getElem?_eq_getElem hlt]at h1
      exact ⟨n,_,h1⟩
     exact ⟨by rw[hl,hc],fun j k hk=>by have:=this j k hk;rwa [Nat.zero_add]at this⟩
    ·cases h
   ·cases h
  ·cases h
end
def rowK (ks : List Bool) (c : List AV) : Prop:=c.length = ks.length∧∀ (j : Nat) (k : Bool),ks[j]? = some k→∃ a v,c[j]? = some a∧leafV k a v
theorem rowK_dat {ks : List Bool} {c : List AV} (h : rowK ks c) : datL c = true:=by
 refine List.all_eq_true.2 fun a ha=>?_
 obtain ⟨j,hj⟩:=List.getElem?_of_mem ha
 have hlt : j < ks.length:=by rw[← h.1];exact (List.getElem?_eq_some_iff.1 hj).1
 obtain ⟨a',v,h1,h2⟩:=h.2 j _ (List.getElem?_eq_getElem hlt)
 rw[hj]at h1
 simp only[Option.some.injEq]at h1
 subst h1
 unfold leafV at h2
 split at h2
 ·obtain ⟨b,rfl,_⟩:=h2;rfl
 ·obtain ⟨n,rfl,_⟩:=h2;rfl
theorem leaf_rep {ρ : Env} {k : Bool} {a : AV} {v : Value} (h : leafV k a v) : Rep ρ a v:=by
 unfold leafV at h
 split at h
 ·obtain ⟨b,rfl,rfl⟩:=h;simp[Rep]
 ·obtain ⟨n,rfl,rfl,_⟩:=h;simp[Rep]
theorem open_kinds {H : Type} {enc : TypeId × Value→H} {P : Program} {w : World} {base b0 : Nat} {r : Reach} {t e : TypeId} {v : Value} {d : DataW H} {p : List MemPlace} (ht : P.underlying t = some (.slice e)) {ks : List Bool} {z : Nat} (hfl : flatB P 6 e = some ks) (hz : ks.length = z) (hz0 : 0 < z) (hce : P.cellsOf e = z) (hv : Value.okWide P w r b0 t v) (h : DataW.Trod enc P w base (fun _=>true) true t v d p) :
  ∃ (els : List (List AV)) (L : Loc),(∀ c,c ∈ els→rowK ks c)∧(∀ ρ nm,ObjOk ρ L (flO nm (.view 0 z els)) w)∧(L.nil = false→L.blk < w.heap.size)∧(∀ (ρ : Env) nm,ρ nm = L→Rep ρ (.sl nm 0 els.length) v):=by
 obtain ⟨q,len0,cap0,rfl⟩:=okWide_slice ht hv
 obtain ⟨fuel,hf⟩:=h
 have hcs : (Value.slice q len0 cap0).cells.toList = [.slice q len0 cap0]:=rfl
 rw[hcs]at hf
 have nilcase : ∀ (c : Option Addr),∃ (els : List (List AV)) (L : Loc),(∀ c,c ∈ els→rowK ks c)∧(∀ ρ nm,ObjOk ρ L (flO nm (.view 0 z els)) w)∧(L.nil = false→L.blk < w.heap.size)∧(∀ (ρ : Env) nm,ρ nm = L→Rep ρ (.sl nm 0 els.length) (.slice c 0 0)):=fun c =>
  ⟨[],nilLoc,fun c hc=>by simp at hc,fun ρ nm=>.inl ⟨rfl,rfl⟩,(fun h=>by simp[nilLoc]at h),(fun ρ nm hρ=>by
   rw[Rep]
   exact .inl ⟨by rw[hρ];rfl,rfl,rfl,c,rfl⟩)⟩
 rcases open_slice ht hf with ⟨h0,_⟩ | ⟨a,len,cap,m,n,D,Pl,h0,hb,hl,hm,hmm,_,hx⟩
 ·simp only[List.cons.injEq,and_true]at h0
  rw[h0]
  exact nilcase none
 ·simp only[List.cons.injEq,and_true]at h0
  rw[h0]
  simp only[if_true]at hmm
  subst hmm
  by_cases hc0 : m = 0
  ·subst hc0
   have : len = 0:=by omega
   subst this
   exact nilcase (some a)
  ·rw[hce]at hx
   have cell : ∀ i,i < m→∃ f : Nat→AV,∀ j,j < z→∃ k v,ks[j]? = some k∧w.cell? (a.add (i * z + j)) = some v∧leafV k (f j) v:=fun i hi=>by
    obtain ⟨cs',g1,g2⟩:=hx i hi
    obtain ⟨_,g3,g4⟩:=World.cells?_some g1
    obtain ⟨_,g6⟩:=flatB_leaf 6 e ks n cs' _ hfl g2
    refine choose_lt (α:=AV) (n:=z) (p:=fun j a' => ∃ k v,ks[j]? = some k∧w.cell? (a.add (i * z + j)) = some v∧leafV k a' v) fun j hj=>?_
    have hk:=List.getElem?_eq_getElem (l:=ks) (show j < ks.length by omega)
    obtain ⟨a',v,e1,e2⟩:=g6 j _ hk
    have:=g4 j hj
    rw[add_add,e1]at this
    exact ⟨a',_,v,hk,this,e2⟩
   obtain ⟨F,hF⟩:=choose_lt (α:=Nat→AV) (n:=m) (p:=fun i f=>∀ j,j < z→∃ k v,ks[j]? = some k∧w.cell? (a.add (i * z + j)) = some v∧leafV k (f j) v) cell
   obtain ⟨k00,u0,_,hu0,_⟩:=hF 0 (by omega) 0 hz0
   rw[Nat.zero_mul,Nat.zero_add]at hu0
   have ha0 : a.add 0 = a:=by simp[Addr.add]
   rw[ha0]at hu0
   have hsp : a.spot = none:=by
    unfold World.cell? at hu0
    split at hu0
    ·split at hu0
     ·cases hu0
     ·rename_i hs
      cases hsp : a.spot with
      | none=>rfl
      | some s=>rw[hsp]at hs;simp at hs
    ·cases hu0
   obtain ⟨blk,off,spt⟩:=a
   simp only at hsp
   subst hsp
   have hblk:=World.block_lt_of_cell? w _ hu0
   have hrow : ∀ i,i < m→rowK ks ((List.range z).map (F i)):=fun i hi=>⟨by rw[List.length_map,List.length_range,hz],fun j k hk=>by
    have hj : j < z:=by rw[← hz];exact (List.getElem?_eq_some_iff.1 hk).1
    obtain ⟨k',v,e1,e2,e3⟩:=hF i hi j hj
    rw[hk]at e1
    simp only[Option.some.injEq]at e1
    subst e1
    exact ⟨F i j,v,by rw[List.getElem?_map,List.getElem?_range hj];rfl,e3⟩⟩
   refine ⟨(List.range len).map fun i=>(List.range z).map (F i),⟨blk,off,z,m,false⟩,fun c hc=>?_,fun ρ nm=>?_,fun _=>hblk,fun ρ nm hρ=>?_⟩
   ·obtain ⟨i,hi,rfl⟩:=List.mem_map.1 hc
    exact hrow i (by have:=List.mem_range.1 hi;omega)
   ·refine .inr ⟨rfl,rfl,by rw[List.length_map,List.length_range];exact hl,fun i hi=>?_,fun i hi j v hv=>?_⟩
    ·simp only[List.length_map,List.length_range]at hi
     rw[flC_length,List.getD_eq_getElem?_getD,List.getElem?_map,List.getElem?_range hi]
     show ((List.range z).map (F i)).length = z
     rw[List.length_map,List.length_range]
    ·simp only[List.length_map,List.length_range]at hi
     have e1 : ((List.range len).map fun i=>(List.range z).map (F i)).getD i [] = (List.range z).map (F i):=by
      rw[List.getD_eq_getElem?_getD,List.getElem?_map,List.getElem?_range hi];rfl
     rw[e1,flC_plain (datL_plain (rowK_dat (hrow i (by omega)))),List.getElem?_map]at hv
     by_cases hj : j < z
     ·rw[List.getElem?_range hj]at hv
      simp only[Option.map_some,Option.some.injEq]at hv
      subst hv
      obtain ⟨k,u,_,e3,e4⟩:=hF i (by omega) j hj
      refine ⟨u,?_,leaf_rep e4,?_⟩
      ·rw[← e3]
       congr 1
       unfold Addr.add
       split
       ·rename_i h0;simp[h0]
       ·rfl
      ·unfold leafV at e4
       split at e4
       ·obtain ⟨b,_,hn⟩:=e4;rw[hn];rfl
       ·obtain ⟨n,_,hn,_⟩:=e4;rw[hn];rfl
     ·rw[List.getElem?_eq_none (by rw[List.length_range];omega)]at hv
      simp only[Option.map_none,reduceCtorEq]at hv
   ·rw[Rep,List.length_map,List.length_range]
    refine .inr ⟨by rw[hρ],by rw[hρ,Nat.zero_add];exact hl,off,by rw[hρ];rfl,fun _=>by rw[hρ];simp⟩
theorem rd_boolK {P : Program} {f : FuncId} {d : List AV→List NObj→Option AV} {ok : ROk d} (hs : Sound P f (rdS d ok)) {W : World} {hl : HL} {m : Nat} {Ls : Nat→Loc}
  (hv : ∀ k,k < m→∃ sz els,hk hl k = .view 0 sz els∧(∀ c,c ∈ els→datL c = true)∧(∀ ρ,ObjOk ρ (Ls k) (flO (.top k) (.view 0 sz els)) W)∧((Ls k).nil = false→(Ls k).blk < W.heap.size)) (hf : ∀ k,m≤k→hk hl k = .free)
  {avs : List AV} {vs : List Value} {b : Bool} {rd : List Nat} (h : rdF d avs (hk hl) m = some ⟨.bool b,[],rd⟩) (hrep : ∀ ρ : Env,(∀ k,k < m→ρ (.top k) = Ls k)→RepL ρ avs vs) :
  Calls P f vs.toArray W fun e W' => e = .returned (.bool b)∧Below W.heap.size W W':=by
 have hcase : ∀ x : Nm,(∃ k,k < m∧x = .top k)∨getP (hk hl) x = .free:=fun x=>by
  by_cases hr : x.root < m
  ·obtain ⟨sz,els,h1,h2,_⟩:=hv x.root hr
   by_cases hx : x = .top x.root
   ·exact .inl ⟨x.root,hr,hx⟩
   ·exact .inr (below_none (n:=x.root) (fun t j f=>by
     rw[h1]
     exact view_kid (sz:=sz) (w:=els) (fun j c hc=>datL_plain (h2 c (List.mem_of_getElem? hc))) t j f) rfl hx)
  ·exact .inr (getP_free (n:=x.root) (hf _ (by omega)) rfl)
 have h0 : ∀ k,k < m→∃ sz els,hk hl k = .view 0 sz els∧HF (hk hl) (.top k) = flO (.top k) (.view 0 sz els)∧(∀ ρ,ObjOk ρ (Ls k) (flO (.top k) (.view 0 sz els)) W)∧((Ls k).nil = false→(Ls k).blk < W.heap.size):=fun k hk0=>by
  obtain ⟨sz,els,h1,_,h2,h3⟩:=hv k hk0
  refine ⟨sz,els,h1,?_,h2,h3⟩
  unfold HF
  rw[getP,h1]
 have:=hs.calls W noSc (fun ρ=>∀ k,k < m→ρ (.top k) = Ls k) (fun x=>m≤x.mx) (hk hl) W avs vs m _ ⟨fun x=>Ls x.root,fun k _=>rfl⟩ (fun ρ ρ' hρ he k hk0=>by rw[he (.top k) (by simp[Nm.mx];omega)];exact hρ k hk0) (fun x hx=>by
   rcases hcase x with ⟨k,hk0,rfl⟩ | e
   ·simp only[Nm.mx]at hx;omega
   ·exact HF_free.2 e) (fun ρ ρ' h1 h2 x hx=>by
   rcases hcase x with ⟨k,hk0,rfl⟩ | e
   ·rw[h1 k hk0,h2 k hk0]
   ·exact absurd (HF_free.2 e) hx)
  (fun ρ hρ=>⟨rfl,rfl,rfl,Nat.le_refl _,fun _ _ _=>rfl,fun x=>by
    rcases hcase x with ⟨k,hk0,rfl⟩ | e
    ·obtain ⟨sz,els,g1,g2,g3,g4⟩:=h0 k hk0
     rw[g2,hρ k hk0];exact g3 ρ
    ·rw[HF_free.2 e];trivial,fun x hx=>by
    rcases hcase x with ⟨k,hk0,rfl⟩ | e
    ·obtain ⟨sz,els,g1,g2,g3,g4⟩:=h0 k hk0
     rw[g2]at hx;exact hx.elim
    ·rw[HF_free.2 e]at hx;exact hx.elim,fun x y hx=>by
    rcases hcase x with ⟨k,hk0,rfl⟩ | e
    ·obtain ⟨sz,els,g1,g2,g3,g4⟩:=h0 k hk0
     rw[g2]at hx;exact hx.elim
    ·rw[HF_free.2 e]at hx;exact hx.elim,fun x hx=>by
    rcases hcase x with ⟨k,hk0,rfl⟩ | e
    ·obtain ⟨sz,els,g1,g2,g3,g4⟩:=h0 k hk0
     rw[g2,hρ k hk0]at hx
     rw[hρ k hk0]
     exact ⟨g4 hx,fun h=>h⟩
    ·rw[HF_free.2 e]at hx;exact hx.elim,fun x hx=>absurd hx (Nat.not_lt_zero x)⟩) (fun ρ hρ=>hrep ρ hρ) h (fun x hx=>hx.1)
 refine this.mono fun e W' ⟨v,g,he,hv'⟩ => ?_
 obtain ⟨q1,q2⟩:=hv' (fun x=>if m≤x.mx then g x else Ls x.root) (fun k hk0=>by rw[if_neg (by simp only[Nm.mx];omega)];rfl) (fun x hx=>by simp[hx.1])
 simp only[Rep]at q1
 subst q1
 exact ⟨he,q2.below⟩
end Go.W
