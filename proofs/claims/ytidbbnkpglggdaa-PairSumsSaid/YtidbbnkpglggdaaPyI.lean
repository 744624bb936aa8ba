/- What stands in the words of a world with orders in its cells. Tries that mix: cancelling, the beginning and the end. -/
import Derived.Test.YtidbbnkpglggdaaPxA
import Derived.Test.YtidbbnkpglggdaaPqB
import Derived.Test.YtidbbnkpglggdaaWkC
import Derived.Test.YtidbbnkpglggdaaPyH
namespace Go.W
open Go.Proofs
set_option linter.unusedSimpArgs false
set_option linter.unusedVariables false
set_option maxHeartbeats 8000000
attribute [local irreducible] Wm
attribute [local simp] nmap lkp mkPl prs prsL prT ddL idL CRenL CRen Ren RenL NObj.none CRenLL
theorem runT_add (W:WZ) (T:TZ) (k:Nat):runT W T (k+1)=StepT (runT W T k).2 (runT W T k).1:=rfl
theorem run_pc {W:WZ} {T:TZ} (h:T.pc=0):∀ k:Nat,k≤14→(runT W T k).1.pc=k
 | 0,_=>by simp[runT,h]
 | k+1,hk=>by
  rw[runT_add,StepT_pc,run_pc h k (by omega),if_neg (by omega)]
  omega
theorem step_done {W:WZ} {T:TZ} (h:14≤T.pc):StepT W T=(T,W):=by
 unfold StepT;rw[if_pos h]
def bW (a b c d e f g:Int) (els ws:List (List AV)):WZ:=⟨a,b,c,d,e,f,g,ws,2*els.length,0,[]⟩
theorem tz0_ok (w x g y s:Int):okT (tz0 w x g y s)=true:=by
 unfold okT tz0 zeroS okS
 simp
theorem both_W {a b c d e f g:Int} {els ws S T:List (List AV)} (hcf:cfgB a b c d e f g=true) (he:els.all ordB=true) (h:bothZ a b c d e f g els els.length=some (ws,S,T)):okW (bW a b c d e f g els ws)=true∧(bW a b c d e f g els ws).s≤48∧els.length≤24:=by
 obtain ⟨h1,h2,h3,_⟩:=both_inv hcf he _ _ _ _ (Nat.le_refl _) h
 have hall:=cfg_all hcf
 exact ⟨decide_eq_true ⟨hcf,h2,h3,by simp only[bW];omega,Int.le_refl _,by simp[bW],rfl⟩,by simp only[bW];omega,by omega⟩
def ELy:List (FuncId×Spec):=[(9,nestS [(10,false)] d9 ok9),(10,nestS [] d10 ok10),(11,nestS [] d11 ok11),(22,nestS [(7,false)] d22 ok22),(23,nestS [(10,true)] d23 ok23),(24,nestS [(1,false)] d24 ok24),(12,stepS),(13,doneS),(15,madeS)]
theorem ELy_ok:SoundAll Try.prog (EL ELy):=EL_sound (by
 simp only[ELy,List.mem_cons,List.not_mem_nil,or_false,forall_eq_or_imp,forall_eq]
 exact ⟨s9,s10,s11,s22,s23,s24,stepS_ok,doneS_ok,madeS_ok⟩)
def d5:List AV→List NObj→Option AV
 | [.agg [.int .i64 a,.int .i64 b,.int .i64 c,.int .i64 d,.int .i64 e,.int .i64 f,.int .i64 g],.sl (.top 0) 0 n,.agg [.int .i64 aw,.int .i64 ax,.int .i64 ag,.int .i64 ay,.int .i64 ah],.int .u8 more],[.view 0 10 els]=>if n=els.length∧els.all ordB=true∧0≤more∧more<256 then some (.bool true) else none
 | _,_=>none
def I5 (els:List (List AV)) (more aw ax ag ay ah:Int) (T:TZ) (W:WZ) (k:Nat):St:=⟨[(3,.int .u8 more),(6,.ptr (.top 1) 0 0),(9,.ptr (.top 2) 0 0),(12,.ptr (.top 3) 0 0),(31,.int .i64 k)],[(0,.view 0 10 els),(1,.cells 0 [.int .i64 aw,.int .i64 ax,.int .i64 ag,.int .i64 ay,.int .i64 ah]),(2,.cells 0 (wzC W)),(3,.cells 0 (tzC T))],4⟩
def J5 (els:List (List AV)) (was m5 aw ax ag ay ah:Int) (T:TZ) (W:WZ) (k:Nat):St:=⟨[(6,.ptr (.top 1) 0 0),(9,.ptr (.top 2) 0 0),(12,.ptr (.top 3) 0 0),(17,.int .i64 was),(104,.int .i64 m5),(105,.int .i64 k)],[(0,.view 0 10 els),(1,.cells 0 [.int .i64 aw,.int .i64 ax,.int .i64 ag,.int .i64 ay,.int .i64 ah]),(2,.cells 0 (wzC W)),(3,.cells 0 (tzC T))],4⟩
theorem ok5:ROk d5:=by
 intro xs os r h
 unfold d5 at h
 (repeat' (split at h))<;>first|(cases h;done)|(injection h with h;subst h;simp)
theorem s5:Sound Try.prog 5 (rdS d5 ok5):=by
 refine rd_sound Try.func5 nm5 rc5 rv5 ok5 fun xs os r h vs ρ0 hvs=>⟨xs,?_,fun _ h=>h,fun w0 S hS=>?_⟩
 ·unfold d5 at h
  (repeat' (split at h))<;>first|(cases h;done)|exact Nat.le_of_ble_eq_true rfl
 unfold d5 at h
 split at h
 ·split at h
  ·rename_i a b c d e f g n aw ax ag ay ah more els hcond
   injection h with h
   subst h
   obtain ⟨rfl,hob,hm0,hm1⟩:=hcond
   have hE:=ELy_ok
   have hTe:=ord_t0 hob
   have hCe:=ord_cl hob
   have h9:∀ u,d9 [.agg [.int .i64 a,.int .i64 b,.int .i64 c,.int .i64 d,.int .i64 e,.int .i64 f,.int .i64 g],.os u 10 els]=some ⟨if cfgB a b c d e f g=true then bothA a b c d e f g els else .tup [.raw (.pointer none),.raw (.pointer none),.bool false],[.free]⟩:=fun u=>by
    simp only[d9];rw[if_pos hob]
   obtain ⟨ba,hba⟩:∃ z,(if cfgB a b c d e f g=true then bothA a b c d e f g els else .tup [.raw (.pointer none),.raw (.pointer none),.bool false])=z:=⟨_,rfl⟩
   rw[hba]at h9
   by_cases hok:cfgB a b c d e f g=true∧bothZ a b c d e f g els els.length≠none
   case neg =>
    have hnil:ba=.tup [.raw (.pointer none),.raw (.pointer none),.bool false]:=by
     rw[← hba]
     by_cases hcf:cfgB a b c d e f g=true
     ·rw[if_pos hcf]
      have:bothZ a b c d e f g els els.length=none:=by
       cases hz:bothZ a b c d e f g els els.length with
       | none=>rfl
       | some p=>exact absurd ⟨hcf,by rw[hz];simp⟩ hok
      simp only[bothA,this]
     ·rw[if_neg hcf]
    rw[hnil]at h9
    unfold m5
    repeat' with_reducible (first
     | refine ZR.h ?_ | refine zI (by decide) ?_
     | ((first | refine zK hE ?_ | refine zL hE mixT ?_);intro K hK;simp[KR.ks,KD.ks,KD.cl,q5_0,q5_1,q5_2,q5_3,q5_4,q5_5,q5_6,q5_7,q5_8,q5_9,q5_10,q5_11,q5_12,q5_13,q5_14,q5_15,q5_16,q5_17,q5_18,q5_19,q5_20,q5_21,q5_22,q5_23,q5_24,q5_25,q5_26,q5_27,q5_28,ELy,stepS,doneS,madeS,ifS_fn,nil1,nil2,hTe,hCe,h9,d10];(repeat' (first | refine hK _ _ ?_ | refine And.intro ?_ ?_ | (intro hc;try subst hc)))<;>(try clear hK K))
     | (refine zJ (b:=_) (by with_unfolding_all rfl) (fun hc=>?_) (fun hc=>?_)<;>simp at hc<;>(try subst hc)))
    all_goals first|(simp;done)|(simp at *;omega)|((try simp);refine Imp.auto (by kernel_rfl) ?_ ?_<;>simp[NLe,mkPlX])
   obtain ⟨hcf,hnn⟩:=hok
   obtain ⟨ws,SS,TT,hz⟩:∃ ws S T,bothZ a b c d e f g els els.length=some (ws,S,T):=by
    cases hz:bothZ a b c d e f g els els.length with
    | none=>exact absurd hz hnn
    | some p=>exact ⟨_,_,_,rfl⟩
   obtain ⟨hW0,hWs,hel⟩:=both_W hcf hob hz
   obtain ⟨_,_,_,⟨_,hTS,hCS,_⟩,⟨_,hTT,hCT,_⟩⟩:=both_inv hcf hob _ _ _ _ (Nat.le_refl _) hz
   have hbe:ba=.tup [.op 0 (wzC (bW a b c d e f g els ws)),.op 0 (qC a b c d e f g SS TT),.bool true]:=by
    rw[← hba,if_pos hcf];simp only[bothA,hz];rfl
   rw[hbe]at h9
   obtain ⟨A0,hA0⟩:∃ z,bW a b c d e f g els ws=z:=⟨_,rfl⟩
   obtain ⟨T0,hT0⟩:∃ z,tz0 aw ax ag ay ah=z:=⟨_,rfl⟩
   have h11:d11 [.agg [.int .i64 aw,.int .i64 ax,.int .i64 ag,.int .i64 ay,.int .i64 ah]]=some ⟨.op 0 (tzC T0),[]⟩:=by rw[← hT0];rfl
   have hT0k:okT T0=true:=by rw[← hT0];exact tz0_ok _ _ _ _ _
   have hT0p:T0.pc=0:=by rw[← hT0];rfl
   have hlg0:A0.lg.length=0:=by rw[← hA0];rfl
   rw[hA0]at h9 hW0 hWs
   obtain ⟨hcfA,hwA,hwlA,hsA,htA,ht1A,hlgA⟩:=okW_ex hW0
   have hTA:=w_t0 hwA
   have hCA:=w_cl hwA
   have hTlA:=l_t0 hlgA
   have hClA:=l_cl hlgA
   have hrun:=run_ok hT0k hW0
   have hpc:=fun k h=>run_pc (W:=A0) (T:=T0) hT0p k h
   clear hba hbe hnn hcfA hwA hwlA hsA htA ht1A hlgA hA0 hT0
   simp only[wzC,qC,tzC]at h9 h11
   unfold m5
   repeat' with_reducible (first
    | refine ZR.h ?_ | refine zI (by decide) ?_
    | ((first | refine zK hE ?_ | refine zL hE mixT ?_);intro K hK;simp[KR.ks,KD.ks,KD.cl,q5_0,q5_1,q5_2,q5_3,q5_4,q5_5,q5_6,q5_7,q5_8,q5_9,q5_10,q5_11,q5_12,q5_13,q5_14,q5_15,q5_16,q5_17,q5_18,q5_19,q5_20,q5_21,q5_22,q5_23,q5_24,q5_25,q5_26,q5_27,q5_28,ELy,stepS,doneS,madeS,ifS_fn,nil1,nil2,hTe,hCe,h9,h11,hTA,hCA,hTlA,hClA,hTS,hCS,hTT,hCT];(repeat' (first | refine hK _ _ ?_ | refine And.intro ?_ ?_ | (intro hc;try subst hc)))<;>(try clear hK K))
    | (refine zJ (b:=_) (by with_unfolding_all rfl) (fun hc=>?_) (fun hc=>?_)<;>simp at hc<;>(try subst hc)))
   all_goals (refine Wm_loop (fun k=>I5 els more aw ax ag ay ah (runT A0 T0 k).1 (runT A0 T0 k).2 k) (fun k=>k≤14) (fun k=>14 - k) 0 (Nat.zero_le _) ?_ ?_)
   ·simp only[I5,runT,wzC,tzC]
    rw[hS]
    refine Imp.auto (by kernel_rfl) ?_ ?_<;>simp[NLe,mkPlX,hTe,hCe,hTA,hCA,hTlA,hClA,hTS,hCS,hTT,hCT]
   ·clear h9
    intro k hk
    replace hk:k≤14:=hk
    obtain ⟨kT,kW,ks,kl⟩:=hrun k
    have kpc:=hpc k hk
    have hsm:smW (runT A0 T0 k).2=true:=decide_eq_true (by omega)
    have h13:=e13 (runT A0 T0 k).1
    rw[kpc]at h13
    by_cases hk14:k<14
    ·have hst:=e12 kT kW hsm
     have hfr:=StepT_fr (runT A0 T0 k).2 (runT A0 T0 k).1
     have h13b:=e13 (runT A0 T0 (k+1)).1
     rw[hpc (k+1) (by omega)]at h13b
     have kW2:=(hrun (k+1)).2.1
     rw[← runT_add]at hst hfr
     rw[decide_eq_false (by omega)]at h13
     obtain ⟨r,hr⟩:∃ r,runT A0 T0 k=r:=⟨_,rfl⟩
     obtain ⟨r2,hr2⟩:∃ r,runT A0 T0 (k+1)=r:=⟨_,rfl⟩
     rw[hr]at kT kW ks kl hst hfr h13
     rw[hr2]at hst hfr kW2 h13b
     rw[hr]
     obtain ⟨hcf,hw,hwl,hs0,ht0,ht1,hlg⟩:=okW_ex kW
     have hT:=w_t0 hw
     have hC:=w_cl hw
     have hTl:=l_t0 hlg
     have hCl:=l_cl hlg
     obtain ⟨hcf2,hw2,hwl2,hs02,ht02,ht12,hlg2⟩:=okW_ex kW2
     have hT2:=w_t0 hw2
     have hC2:=w_cl hw2
     have hTl2:=l_t0 hlg2
     have hCl2:=l_cl hlg2
     have hkI:(k:Int)<14:=by omega
     have ww:IntKind.wrap .i64 ((k:Int)+1)=(k:Int)+1:=wrap_in (by omega) (by omega)
     have wd:IntKind.wrap .i64 (r2.2.s - r.2.s)=r2.2.s - r.2.s:=wrap_in (by omega) (by omega)
     have wd1:¬ (r2.2.s - r.2.s<0):=by omega
     have wd2:¬ (1<r2.2.s - r.2.s):=by omega
     have hcase:(k=13∧decide ((14:Int)≤((k+1:Nat):Int))=true)∨(¬ (k:Int)=13∧decide ((14:Int)≤((k+1:Nat):Int))=false):=by
      by_cases h:k=13
      ·exact .inl ⟨h,decide_eq_true (by omega)⟩
      ·exact .inr ⟨by omega,decide_eq_false (by omega)⟩
     simp only[I5,tzC,wzC,wzL]at hst h13 h13b⊢
     have w14:IntKind.wrap .i64 14=14:=by rfl
     rcases hcase with ⟨rfl,hd⟩ | ⟨hk13,hd⟩
     ·rw[hd]at h13b
      repeat' with_reducible (first
       | refine ZR.h ?_ | refine zI (by decide) ?_
       | ((first | refine zK hE ?_ | refine zL hE mixT ?_);intro K hK;simp[KR.ks,KD.ks,KD.cl,q5_0,q5_1,q5_2,q5_3,q5_4,q5_5,q5_6,q5_7,q5_8,q5_9,q5_10,q5_11,q5_12,q5_13,q5_14,q5_15,q5_16,q5_17,q5_18,q5_19,q5_20,q5_21,q5_22,q5_23,q5_24,q5_25,q5_26,q5_27,q5_28,ELy,stepS,doneS,madeS,ifS_fn,nil1,nil2,hTe,hCe,hT,hC,hTl,hCl,hT2,hC2,hTl2,hCl2,d22,hkI,hst,ww,h13,h13b,wd,wd1,wd2,w14];(repeat' (first | refine hK _ _ ?_ | refine And.intro ?_ ?_ | (intro hc;try subst hc)))<;>(try clear hK K))
       | (refine zJ (b:=_) (by with_unfolding_all rfl) (fun hc=>?_) (fun hc=>?_)<;>simp at hc<;>(try subst hc)))
      all_goals refine ⟨14,Nat.le_refl _,by simp,?_⟩
      all_goals simp only[hr2]
      all_goals rw[hS]
      all_goals (refine Imp.auto (by kernel_rfl) ?_ ?_<;>simp[NLe,mkPlX,hTe,hCe,hT,hC,hTl,hCl,hT2,hC2,hTl2,hCl2,w14])
     ·rw[hd]at h13b
      repeat' with_reducible (first
       | refine ZR.h ?_ | refine zI (by decide) ?_
       | ((first | refine zK hE ?_ | refine zL hE mixT ?_);intro K hK;simp[KR.ks,KD.ks,KD.cl,q5_0,q5_1,q5_2,q5_3,q5_4,q5_5,q5_6,q5_7,q5_8,q5_9,q5_10,q5_11,q5_12,q5_13,q5_14,q5_15,q5_16,q5_17,q5_18,q5_19,q5_20,q5_21,q5_22,q5_23,q5_24,q5_25,q5_26,q5_27,q5_28,ELy,stepS,doneS,madeS,ifS_fn,nil1,nil2,hTe,hCe,hT,hC,hTl,hCl,hT2,hC2,hTl2,hCl2,d22,hkI,hst,ww,h13,h13b,wd,wd1,wd2,hk13];(repeat' (first | refine hK _ _ ?_ | refine And.intro ?_ ?_ | (intro hc;try subst hc)))<;>(try clear hK K))
       | (refine zJ (b:=_) (by with_unfolding_all rfl) (fun hc=>?_) (fun hc=>?_)<;>simp at hc<;>(try subst hc)))
      all_goals refine ⟨k+1,hk14,Nat.sub_lt_sub_left hk14 (Nat.lt_succ_self k),?_⟩
      all_goals simp only[hr2]
      all_goals rw[hS]
      all_goals (refine Imp.auto (by kernel_rfl) ?_ ?_<;>simp[NLe,mkPlX,hTe,hCe,hT,hC,hTl,hCl,hT2,hC2,hTl2,hCl2])
    ·have hke:k=14:=by omega
     subst hke
     clear h13
     have hlo:=smW_lo hsm
     have hdone:∀ W,StepT W (runT A0 T0 14).1=((runT A0 T0 14).1,W):=fun W=>step_done (by omega)
     have h23:=e23 kW hlo 4 7 0 0 0 0 0 99 0
     have kW2:=tell_ok kW 4 7 0 0 0 0 0 0
     obtain ⟨r,hr⟩:∃ r,runT A0 T0 14=r:=⟨_,rfl⟩
     rw[hr]at kT kW ks kl h23 hsm hlo kW2 hdone kpc
     rw[hr]
     obtain ⟨A2,hA2⟩:∃ z,tellW r.2 4 7 0 0 0 0 0 0=z:=⟨_,rfl⟩
     have hA2s:A2.s=r.2.s:=by rw[← hA2];rfl
     have hA2t:A2.t=r.2.t:=by rw[← hA2];rfl
     have hA2l:A2.lg=r.2.lg++[evC 4 7 0 0 0 0 0 r.2.t 0]:=by rw[← hA2];rfl
     have hA2n:A2.lg.length=r.2.lg.length+1:=by rw[hA2l];simp
     have hA2g:A2.lg[r.2.lg.length]?=some (evC 4 7 0 0 0 0 0 r.2.t 0):=by rw[hA2l];simp
     rw[hA2]at h23 kW2
     have hsm2:smW A2=true:=decide_eq_true (by omega)
     have hst:=e12 kT kW2 hsm2
     rw[hdone]at hst
     have hstn:∀ u u1 u2 u3 u4,d12n [.raw (.pointer none),.op u (wzL A2 u1 u2 u3 u4)]=some ⟨.tup [],[.free]⟩:=fun u u1 u2 u3 u4=>by
      simp only[d12n,wzOf_C];rw[if_pos kW2]
     have hstw:∀ u,d12w [.op u (tzC T0),.raw (.pointer none)]=some ⟨.tup [],[.free]⟩:=fun u=>by
      simp only[d12w,tzOf_C]
     obtain ⟨hcf,hw,hwl,hs0,ht0,ht1,hlg⟩:=okW_ex kW
     have hT:=w_t0 hw
     have hC:=w_cl hw
     have hTl:=l_t0 hlg
     have hCl:=l_cl hlg
     obtain ⟨hcf2,hw2,hwl2,hs02,ht02,ht12,hlg2⟩:=okW_ex kW2
     have hT2:=w_t0 hw2
     have hC2:=w_cl hw2
     have hTl2:=l_t0 hlg2
     have hCl2:=l_cl hlg2
     have h24:∀ u,d24 [.op u [.int .u64 A2.t]]=some ⟨.int .i64 r.2.t,[.free]⟩:=fun u=>by simp only[d24,hA2t];rw[if_pos ⟨ht0,ht1⟩]
     obtain ⟨L,hL⟩:∃ z,r.2.lg.length=z:=⟨_,rfl⟩
     rw[hL]at hA2n hA2g kl
     have hA2e:∀ h:L<A2.lg.length,A2.lg[L]=evC 4 7 0 0 0 0 0 r.2.t 0:=fun h=>by
      have:=hA2g
      rw[List.getElem?_eq_getElem h]at this
      simpa using this
     have w14:IntKind.wrap .i64 14=14:=by rfl
     have hLL:(L:Int)<(L:Int)+1:=by omega
     have wl:IntKind.wrap .i64 ((L:Int)+1)=(L:Int)+1:=wrap_in (by omega) (by omega)
     obtain ⟨m5,hm5⟩:∃ z,more.tmod 5=z:=⟨_,rfl⟩
     have hm5r:0≤m5∧m5<256:=by rw[← hm5,Int.tmod_eq_emod_of_nonneg hm0];omega
     have wm:IntKind.wrap .i64 m5=m5:=wrap_in (by omega) (by omega)
     simp only[I5,tzC,wzC,wzL,evC]at hst hstn hstw h23 h24 h11 hA2g hA2e⊢
     repeat' with_reducible (first
      | refine ZR.h ?_ | refine zI (by decide) ?_
      | ((first | refine zK hE ?_ | refine zL hE mixT ?_);intro K hK;simp[KR.ks,KD.ks,KD.cl,q5_0,q5_1,q5_2,q5_3,q5_4,q5_5,q5_6,q5_7,q5_8,q5_9,q5_10,q5_11,q5_12,q5_13,q5_14,q5_15,q5_16,q5_17,q5_18,q5_19,q5_20,q5_21,q5_22,q5_23,q5_24,q5_25,q5_26,q5_27,q5_28,ELy,stepS,doneS,madeS,ifS_fn,nil1,nil2,hTe,hCe,hT,hC,hTl,hCl,hT2,hC2,hTl2,hCl2,d22,h23,h24,hL,hA2n,hA2g,hA2e,hLL,wl,hm5,wm];(repeat' (first | refine hK _ _ ?_ | refine And.intro ?_ ?_ | (intro hc;try subst hc)))<;>(try clear hK K))
      | (refine zJ (b:=_) (by with_unfolding_all rfl) (fun hc=>?_) (fun hc=>?_)<;>simp at hc<;>(try subst hc)))
     all_goals (refine Wm_loop (fun k=>J5 els A2.s m5 aw ax ag ay ah r.1 A2 k) (fun k=>(k:Int)≤m5) (fun k=>m5.toNat - k) 0 hm5r.1 ?_ ?_)
     ·simp only[J5,wzC,tzC]
      rw[hS]
      refine Imp.auto (by kernel_rfl) ?_ ?_<;>simp[NLe,mkPlX,hTe,hCe,hT,hC,hTl,hCl,hT2,hC2,hTl2,hCl2,hm5,wm]
     ·intro k hk
      replace hk:(k:Int)≤m5:=hk
      simp only[J5,wzC,tzC]
      by_cases hkm:(k:Int)<m5
      ·have ww:IntKind.wrap .i64 ((k:Int)+1)=(k:Int)+1:=wrap_in (by omega) (by omega)
       repeat' with_reducible (first
        | refine ZR.h ?_ | refine zI (by decide) ?_
        | ((first | refine zK hE ?_ | refine zL hE mixT ?_);intro K hK;simp[KR.ks,KD.ks,KD.cl,q5_0,q5_1,q5_2,q5_3,q5_4,q5_5,q5_6,q5_7,q5_8,q5_9,q5_10,q5_11,q5_12,q5_13,q5_14,q5_15,q5_16,q5_17,q5_18,q5_19,q5_20,q5_21,q5_22,q5_23,q5_24,q5_25,q5_26,q5_27,q5_28,ELy,stepS,doneS,madeS,ifS_fn,nil1,nil2,hTe,hCe,hT2,hC2,hTl2,hCl2,hkm,hst,ww];(repeat' (first | refine hK _ _ ?_ | refine And.intro ?_ ?_ | (intro hc;try subst hc)))<;>(try clear hK K))
        | (refine zJ (b:=_) (by with_unfolding_all rfl) (fun hc=>?_) (fun hc=>?_)<;>simp at hc<;>(try subst hc)))
       all_goals refine ⟨k+1,by show ((k+1:Nat):Int)≤m5;omega,by show m5.toNat - (k+1)<m5.toNat - k;omega,?_⟩
       all_goals rw[hS]
       all_goals (refine Imp.auto (by kernel_rfl) ?_ ?_<;>simp[NLe,mkPlX,hTe,hCe,hT2,hC2,hTl2,hCl2])
      ·repeat' with_reducible (first
        | refine ZR.h ?_ | refine zI (by decide) ?_
        | ((first | refine zK hE ?_ | refine zL hE mixT ?_);intro K hK;simp[KR.ks,KD.ks,KD.cl,q5_0,q5_1,q5_2,q5_3,q5_4,q5_5,q5_6,q5_7,q5_8,q5_9,q5_10,q5_11,q5_12,q5_13,q5_14,q5_15,q5_16,q5_17,q5_18,q5_19,q5_20,q5_21,q5_22,q5_23,q5_24,q5_25,q5_26,q5_27,q5_28,ELy,stepS,doneS,madeS,ifS_fn,nil1,nil2,hTe,hCe,hT2,hC2,hTl2,hCl2,hkm,hstn,hstw,h11,d22,d10,d13n,d15n];(repeat' (first | refine hK _ _ ?_ | refine And.intro ?_ ?_ | (intro hc;try subst hc)))<;>(try clear hK K))
        | (refine zJ (b:=_) (by with_unfolding_all rfl) (fun hc=>?_) (fun hc=>?_)<;>simp at hc<;>(try subst hc)))
       all_goals first|(simp;done)|(simp at *;omega)|((try simp);refine Imp.auto (by kernel_rfl) ?_ ?_<;>simp[NLe,mkPlX])
  ·cases h
 ·cases h
end Go.W

namespace Go.W
open Go.Proofs
set_option linter.unusedSimpArgs false
set_option linter.unusedVariables false
set_option maxHeartbeats 8000000
def stL (s:StZ):List AV:=[.int .i64 s.k,.bool s.fl,.int .i64 s.g,.int .i64 s.l,.int .i64 s.f]
def cellZ (f g:Int) (ws S T:List (List AV)) (i:Nat):Prop:=S[i]?=some (stL (stateZ (wAt ws (2*i))))∧T[i]?=some (tmC (termsZ (wAt ws (2*i+1))))∧((stateZ (wAt ws (2*i))).k=2→goodZ f g (stateZ (wAt ws (2*i))))
theorem wAt_rep (n i:Nat):wAt (List.replicate n [.int .u64 0]) i=0:=by
 unfold wAt
 rw[List.getElem?_replicate]
 split<;>simp_all
theorem okO_ex2 {a b c f g:Int} {k:Nat} {kd sg sl sf nm sd pr le un:Int} {fl:Bool} {v u:Int} (h:okO a b c f g k [.int .i64 kd,.bool fl,.int .i64 sg,.int .i64 sl,.int .i64 sf,.int .i64 nm,.int .i64 sd,.int .i64 pr,.int .i64 le,.int .i64 un]=some (v,u)):wordS ⟨kd,fl,sg,sl,sf⟩=some v∧wordT ⟨nm,sd,pr,le,un⟩=some u∧1≤sg∧sg≤g∧1≤sl∧sf<f∧fl=false:=by
 simp only[okO]at h
 split at h
 ·rename_i v' u' h1 h2
  by_cases hc:(k:Int)<a*b∧1≤sg∧sg≤g∧1≤sl∧sf<f∧(looseZ kd=true∨5≤kd)∧fl=false∧chkT c ⟨nm,sd,pr,le,un⟩ (if sl<le then le else sl) 0=0
  ·rw[if_pos hc]at h
   simp only[Option.some.injEq,Prod.mk.injEq]at h
   obtain ⟨rfl,rfl⟩:=h
   exact ⟨h1,h2,hc.2.1,hc.2.2.1,hc.2.2.2.1,hc.2.2.2.2.1,hc.2.2.2.2.2.2.1⟩
  ·rw[if_neg hc]at h;cases h
 ·cases h
theorem both_cell {a b c d e f g:Int} {els:List (List AV)} (hcf:cfgB a b c d e f g=true) (he:els.all ordB=true):∀ (k:Nat) (ws S T:List (List AV)),k≤els.length→bothZ a b c d e f g els k=some (ws,S,T)→∀ i:Nat,(i:Int)<a*b→cellZ f g ws S T i
 | 0,ws,S,T,_,h,i,hi=>by
  simp only[bothZ,Option.some.injEq,Prod.mk.injEq]at h
  obtain ⟨rfl,rfl,rfl⟩:=h
  have e0:wAt (W0 a b c d e f g).ws (2*i)=0:=wAt_rep _ _
  have e1:wAt (W0 a b c d e f g).ws (2*i+1)=0:=wAt_rep _ _
  unfold cellZ
  rw[e0,e1]
  refine ⟨?_,?_,fun h=>?_⟩
  ·unfold zS;rw[List.getElem?_replicate,if_pos (by omega)];rfl
  ·unfold zT;rw[List.getElem?_replicate,if_pos (by omega)];rfl
  ·have:(stateZ 0).k=0:=by rfl
   omega
 | k+1,ws,S,T,hk,h,i,hi=>by
  simp only[bothZ]at h
  split at h
  ·cases h
  ·rename_i ws0 S0 T0 h0
   split at h
   ·cases h
   ·rename_i v u hO
    simp only[Option.some.injEq,Prod.mk.injEq]at h
    obtain ⟨rfl,rfl,rfl⟩:=h
    have hkl:k<els.length:=by omega
    have hrow:ordB (els.getD k [])=true:=by
     rw[List.getD_eq_getElem?_getD,List.getElem?_eq_getElem hkl]
     exact List.all_eq_true.1 he _ (List.getElem_mem hkl)
    have hkn:=(okO_ex hrow hO).1
    obtain ⟨i1,i2,i3,i4,i5⟩:=both_inv hcf he k ws0 S0 T0 (by omega) h0
    have ih:=both_cell hcf he k ws0 S0 T0 (by omega) h0 i hi
    obtain ⟨kd,fl,sg,sl,sf,nm,sd,pr,le,un,hoe,_⟩:=ordB_ex hrow
    rw[hoe]at hO⊢
    obtain ⟨hv,hu,g1,g2,g3,g4,g5⟩:=okO_ex2 hO
    obtain ⟨r1,r2,r3,r4,r5,r6,r7,r8,r9⟩:=wordS_rt hv
    have rt:=wordT_rt hu
    have hc:=cfg_ex hcf
    have hall:=cfg_all hcf
    have hwd:=words_in (f:=f) (g:=g) (show 0≤a*b by omega) hall.2 (by omega) (by omega)
    by_cases hik:i=k
    ·subst hik
     have e0:wAt ((ws0.set (2*i) [.int .u64 v]).set (2*i+1) [.int .u64 u]) (2*i)=v:=by
      rw[wAt_ne (by omega),wAt_eq (by omega)]
     have e1:wAt ((ws0.set (2*i) [.int .u64 v]).set (2*i+1) [.int .u64 u]) (2*i+1)=u:=wAt_eq (by rw[List.length_set];omega)
     unfold cellZ
     rw[e0,e1,r1,rt]
     refine ⟨?_,?_,fun h2=>?_⟩
     ·rw[List.getElem?_set_self (by rw[i4.1];omega)];rfl
     ·rw[List.getElem?_set_self (by rw[i5.1];omega)];rfl
     ·exact ⟨h2,g5,g1,g2,g3,r7,r8,g4⟩
    ·have e0:wAt ((ws0.set (2*k) [.int .u64 v]).set (2*k+1) [.int .u64 u]) (2*i)=wAt ws0 (2*i):=by
      rw[wAt_ne (by omega),wAt_ne (by omega)]
     have e1:wAt ((ws0.set (2*k) [.int .u64 v]).set (2*k+1) [.int .u64 u]) (2*i+1)=wAt ws0 (2*i+1):=by
      rw[wAt_ne (by omega),wAt_ne (by omega)]
     unfold cellZ
     rw[e0,e1,List.getElem?_set_ne (by omega),List.getElem?_set_ne (by omega)]
     exact ih
end Go.W

namespace Go.W
open Go.Proofs
set_option linter.unusedSimpArgs false
set_option linter.unusedVariables false
set_option maxHeartbeats 8000000
section
variable {B:WZ} {was:Int→Int} {W:WZ} {Ts:List TZ}
theorem sys_as {W':WZ} (h:SysJ B was W Ts) (ok:okW W'=true) (par:parX W'=parX W) (hst:∀ i:Int,0≤i→i<B.a*B.b→sAt W' i=sAt W i) (hlg:W'.lg=W.lg):SysJ B was W' Ts:=by
 have h':=h
 obtain ⟨s1,s2,s3,s4,s5⟩:=h
 refine ⟨ok,par.trans s2,fun i i0 i1=>?_,by rw[hlg];exact s4,fun U hU=>?_⟩
 ·have e:stW W' i=stW W i:=by unfold stW;rw[hst i i0 i1]
  rw[e,hlg]
  exact s3 i i0 i1
 ·refine try_keep (s5 U hU) fun a=>?_
  have r:=hold_in h' hU a
  exact hst U.x r.2.2.2.2.1 r.2.2.2.2.2.1
theorem sys_tick (h:SysJ B was W Ts):SysJ B was (tickW W) Ts:=sys_as h (tick_ok h.1) rfl (fun _ _ _=>rfl) rfl
theorem sys_turn {z:Int} {old:Int} (h:SysJ B was W Ts) (z0:0≤z) (z1:z<B.a*B.b) (ho:old=sAt W z) (hfl:(stW W z).fl=false) (he:(cancelS (stW W z)).2=0):SysJ B was (turnW W z old (cancelS (stW W z)).1).2 Ts:=by
 by_cases ht:(turnW W z old (cancelS (stW W z)).1).1=true
 ·obtain ⟨t1,t2,t3⟩:=turn_ok2 h.1 h.2.1 z0 z1 ht
  have hlg:=(turn_fr W z old (cancelS (stW W z)).1).2.1
  have h':=h
  obtain ⟨s1,s2,s3,s4,s5⟩:=h
  have hS:(cancelS (stW W z)).1.l=(stW W z).l∧(cancelS (stW W z)).1.f=(stW W z).f∧heldZ (cancelS (stW W z)).1.k=heldZ (stW W z).k∧CellJ B.f (cancelS (stW W z)).1∧(heldZ (stW W z).k=true→(cancelS (stW W z)).1.fl=true):=by
   have hC:=(s3 z z0 z1).1
   obtain ⟨s,hs⟩:∃ s,stW W z=s:=⟨_,rfl⟩
   rw[hs]at hC he hfl⊢
   unfold cancelS at he⊢
   by_cases c1:s.k=1
   ·rw[if_pos c1]
    refine ⟨rfl,rfl,?_,⟨fun a=>by simp at a,fun a=>?_⟩,fun a=>?_⟩
    ·rw[c1];rfl
    ·replace a:s.fl=true:=a
     rw[hfl]at a;cases a
    ·rw[c1]at a;cases a
   rw[if_neg c1]at he⊢
   by_cases c2:s.k=2
   ·rw[if_pos c2]
    refine ⟨rfl,rfl,?_,⟨fun a=>by simp at a,fun a=>?_⟩,fun a=>?_⟩
    ·rw[c2];rfl
    ·replace a:s.fl=true:=a
     rw[hfl]at a;cases a
    ·rw[c2]at a;cases a
   rw[if_neg c2]at he⊢
   by_cases c3:s.k=3
   ·rw[if_pos c3]
    exact ⟨rfl,rfl,rfl,⟨hC.1,fun _=>by rw[c3];rfl⟩,fun _=>rfl⟩
   rw[if_neg c3]at he⊢
   by_cases c4:s.k=4
   ·rw[if_pos c4]
    exact ⟨rfl,rfl,rfl,⟨hC.1,fun _=>by rw[c4];rfl⟩,fun _=>rfl⟩
   rw[if_neg c4]at he
   simp at he
  refine ⟨turn_ok s1 _ _ _,(turn_parx _ _ _ _).trans s2,fun i i0 i1=>?_,by rw[hlg];exact s4,fun U hU=>?_⟩
  ·rw[hlg]
   by_cases e:i=z
   ·have:=s3 i i0 i1
    rw[e]at this⊢
    rw[t2,hS.1,hS.2.2.1]
    exact ⟨hS.2.2.2.1,this.2⟩
   ·rw[t3 i i0 e];exact s3 i i0 i1
  ·obtain ⟨h1,h2,h3,h4,h5,h6,h7,h8,h9⟩:=s5 U hU
   refine ⟨h1,h2,h3,h4,h5,h6,h7,h8,fun a b=>?_⟩
   have hB:holdB U U.x=true:=by simp[holdB,a,b]
   obtain ⟨_,_,_,_,x0,x1,j1,j2,j3,j4,j5,j6,j7,j8,j9⟩:=hold_in h' hU hB
   by_cases e:U.x=z
   ·have hh:=held_cell h' x0 x1 hU hB
    have es:stW (turnW W z old (cancelS (stW W z)).1).2 U.x=(cancelS (stW W z)).1:=by rw[e];exact t2
    have hfl':=hS.2.2.2.2 (by rw[← e];exact hh)
    unfold HoldJ
    rw[es,hS.1,hS.2.1,← e]
    refine ⟨j1,j2,j3,j4,fun _=>.inr ?_,fun _=>?_,fun c=>?_,j8,j9⟩
    ·rw[e];exact hfl'
    ·rw[e];exact hfl'
    ·have:=(j7 c).1
     rw[e,hfl]at this;cases this
   ·have e2:=turn_sAt (W:=W) (x:=z) (old:=old) (s:=(cancelS (stW W z)).1) x0 z0 e
    have e3:stW (turnW W z old (cancelS (stW W z)).1).2 U.x=stW W U.x:=t3 _ x0 e
    unfold HoldJ
    rw[e2,e3]
    exact ⟨j1,j2,j3,j4,j5,j6,j7,j8,j9⟩
 ·have ht':(turnW W z old (cancelS (stW W z)).1).1=false:=by simpa using ht
  have tf:=turn_false ht'
  exact sys_as h (turn_ok h.1 _ _ _) (turn_parx _ _ _ _) (fun i _ _=>(ws_st tf.1 i).2.2) tf.2
theorem sys_end (h:SysJ B was W Ts) (hd:∀ T,T∈Ts→14≤T.pc) {i:Int} (i0:0≤i) (i1:i<B.a*B.b):heldZ (stW W i).k=false∧(stW W i).fl=false∧(stW W i).l+fillL i W.lg=was i∧0≤(stW W i).l:=by
 obtain ⟨s1,s2,s3,s4,s5⟩:=h
 have hn:∀ T,T∈Ts→holdB T i=false:=fun T hT=>by
  obtain ⟨h1,h2,h3,h4,h5,h6,h7,h8,h9⟩:=s5 T hT
  by_cases e:holdB T i=true
  ·simp only[holdB,Bool.and_eq_true,Bool.not_eq_true',decide_eq_true_eq]at e
   have:=(h9 e.1.1 e.1.2).2.2.2.2.2.2.2.2
   have:=hd T hT
   omega
  ·simpa using e
 have key:∀ L:List TZ,(∀ T,T∈L→holdB T i=false)→cntL i L=0∧oweL i L=0:=by
  intro L
  induction L with
  | nil=>exact fun _=>⟨rfl,rfl⟩
  | cons A l ih =>
   intro hL
   have a:=hL A (List.mem_cons_self ..)
   have b:=ih fun T hT=>hL T (List.mem_cons_of_mem _ hT)
   have o:owes A i=0:=by unfold owes;rw[a];simp
   refine ⟨?_,?_⟩
   ·show (if holdB A i=true then 1 else 0)+cntL i l=0
    rw[a,b.1];rfl
   ·show owes A i+oweL i l=0
    rw[o,b.2];rfl
 have k:=key Ts hn
 obtain ⟨c1,c2,c3⟩:=s3 i i0 i1
 rw[k.1]at c2
 rw[k.2]at c3
 have hh:heldZ (stW W i).k=false:=by
  by_cases e:heldZ (stW W i).k=true
  ·rw[if_pos e]at c2;cases c2
  ·simpa using e
 refine ⟨hh,?_,by omega,?_⟩
 ·by_cases e:(stW W i).fl=true
  ·have:=c1.2 e;rw[hh]at this;cases this
  ·simpa using e
 ·have:=stR (sAt W i)
  exact this.2.2.2.2.1
end
def CellB (F:Int) (s:StZ):Prop:=(s.k=1∨s.k=2→1≤s.l∧s.f<F)∧heldZ s.k=false∧s.fl=false
theorem both_cell3 {a b c d e f g:Int} {els:List (List AV)} (hcf:cfgB a b c d e f g=true) (he:els.all ordB=true):∀ (k:Nat) (ws S T:List (List AV)),k≤els.length→bothZ a b c d e f g els k=some (ws,S,T)→∀ i:Nat,(i:Int)<a*b→CellB f (stateZ (wAt ws (2*i)))
 | 0,ws,S,T,_,h,i,hi=>by
  simp only[bothZ,Option.some.injEq,Prod.mk.injEq]at h
  obtain ⟨rfl,rfl,rfl⟩:=h
  have e0:wAt (W0 a b c d e f g).ws (2*i)=0:=wAt_rep _ _
  rw[e0]
  have z0:stateZ 0=⟨0,false,0,0,0⟩:=by rfl
  rw[z0]
  exact ⟨fun h=>by simp at h,rfl,rfl⟩
 | k+1,ws,S,T,hk,h,i,hi=>by
  simp only[bothZ]at h
  split at h
  ·cases h
  ·rename_i ws0 S0 T0 h0
   split at h
   ·cases h
   ·rename_i v u hO
    simp only[Option.some.injEq,Prod.mk.injEq]at h
    obtain ⟨rfl,rfl,rfl⟩:=h
    have hkl:k<els.length:=by omega
    have hrow:ordB (els.getD k [])=true:=by
     rw[List.getD_eq_getElem?_getD,List.getElem?_eq_getElem hkl]
     exact List.all_eq_true.1 he _ (List.getElem_mem hkl)
    have hkn:=(okO_ex hrow hO).1
    obtain ⟨i1,i2,i3,i4,i5⟩:=both_inv hcf he k ws0 S0 T0 (by omega) h0
    have ih:=both_cell3 hcf he k ws0 S0 T0 (by omega) h0 i hi
    obtain ⟨kd,fl,sg,sl,sf,nm,sd,pr,le,un,hoe,_⟩:=ordB_ex hrow
    rw[hoe]at hO
    obtain ⟨hv,hu,g1,g2,g3,g4,g5⟩:=okO_ex2 hO
    have hlo:looseZ kd=true∨5≤kd:=by
     simp only[okO]at hO
     split at hO
     ·rename_i v' u' h1 h2
      by_cases hc:(k:Int)<a*b∧1≤sg∧sg≤g∧1≤sl∧sf<f∧(looseZ kd=true∨5≤kd)∧fl=false∧chkT c ⟨nm,sd,pr,le,un⟩ (if sl<le then le else sl) 0=0
      ·exact hc.2.2.2.2.2.1
      ·rw[if_neg hc]at hO;cases hO
     ·cases hO
    obtain ⟨r1,_⟩:=wordS_rt hv
    have hc:=cfg_ex hcf
    have hall:=cfg_all hcf
    have hwd:=words_in (f:=f) (g:=g) (show 0≤a*b by omega) hall.2 (by omega) (by omega)
    by_cases hik:i=k
    ·subst hik
     have e0:wAt ((ws0.set (2*i) [.int .u64 v]).set (2*i+1) [.int .u64 u]) (2*i)=v:=by
      rw[wAt_ne (by omega),wAt_eq (by omega)]
     rw[e0,r1]
     refine ⟨fun _=>⟨g3,g4⟩,?_,g5⟩
     simp only[heldZ,Bool.or_eq_false_iff,decide_eq_false_iff_not]
     rcases hlo with h|h
     ·have:=looseZ_ex h;omega
     ·omega
    ·have e0:wAt ((ws0.set (2*k) [.int .u64 v]).set (2*k+1) [.int .u64 u]) (2*i)=wAt ws0 (2*i):=by
      rw[wAt_ne (by omega),wAt_ne (by omega)]
     rw[e0]
     exact ih
theorem sys_begin {W:WZ} {Ts:List TZ} (hW:okW W=true) (hc:∀ i:Int,0≤i→i<W.a*W.b→CellB W.f (stW W i)) (hl:W.lg=[]) (hT:∀ T,T∈Ts→∃ w x g y s,T=tz0 w x g y s):SysJ W (fun i=>(stW W i).l) W Ts:=by
 have key:∀ L:List TZ,(∀ T,T∈L→∃ w x g y s,T=tz0 w x g y s)→∀ i,cntL i L=0∧oweL i L=0:=by
  intro L
  induction L with
  | nil=>exact fun _ _=>⟨rfl,rfl⟩
  | cons A l ih =>
   intro hL i
   obtain ⟨w,x,g,y,s,rfl⟩:=hL A (List.mem_cons_self ..)
   have b:=ih (fun T hT=>hL T (List.mem_cons_of_mem _ hT)) i
   refine ⟨?_,?_⟩
   ·show (if holdB (tz0 w x g y s) i=true then 1 else 0)+cntL i l=0
    rw[b.1];simp[holdB,tz0]
   ·show owes (tz0 w x g y s) i+oweL i l=0
    rw[b.2];simp[owes,holdB,tz0]
 refine ⟨hW,rfl,fun i i0 i1=>?_,by rw[hl];exact fun r hr=>absurd hr (List.not_mem_nil),fun T hT' => ?_⟩
 ·obtain ⟨c1,c2,c3⟩:=hc i i0 i1
  have k:=key Ts hT i
  have hk:=heldZ_n c2
  refine ⟨⟨fun a=>c1 (by omega),fun a=>by rw[c3]at a;cases a⟩,by rw[k.1,c2];rfl,?_⟩
  rw[k.2,hl];show _+0=_+0
  rfl
 ·obtain ⟨w,x,g,y,s,rfl⟩:=hT T hT'
  exact tryj_not (by show (0:Int)≤0;omega) (by show (0:Int)≤14;omega) rfl rfl rfl
end Go.W

