/- Rows whose arguments are slices of structs of integers and truths; from a specification of a call that only reads to a statement's call. -/
import Derived.Test.YtidbbnkpglggdaaPqD
import Derived.Test.YtidbbnkpglggdaaWcA
import Derived.Test.YtidbbnkpglggdaaWbA
import Derived.Deep.Slices
namespace Go.W
open Go.Proofs
set_option linter.unusedSimpArgs false
set_option linter.unusedVariables false
set_option maxHeartbeats 8000000
attribute [local irreducible] Wm
attribute [local simp] nmap lkp mkPl prs prsL prT ddL idL CRenL CRen Ren RenL NObj.none CRenLL
theorem step_stop {W : WZ} {T : TZ} (h : 14≤T.pc) : StepT W T = (T,W):=by
 unfold StepT;rw[if_pos h]
def isB : List AV→Bool
 | [.bool _]=>true
 | _=>false
theorem isB_ex {c : List AV} (h : isB c = true) : ∃ b,c = [.bool b]:=by
 unfold isB at h
 split at h
 ·exact ⟨_,rfl⟩
 ·cases h
theorem isB_t0 : ∀ {els : List (List AV)},els.all isB = true→t0LL els = els
 | [],_=>rfl
 | c :: r,h=>by
  simp only[List.all_cons,Bool.and_eq_true]at h
  obtain ⟨b,rfl⟩:=isB_ex h.1
  simp[t0LL,t0L,AV.t0,isB_t0 h.2]
theorem isB_cl : ∀ {els : List (List AV)},els.all isB = true→clLL els = true
 | [],_=>rfl
 | c :: r,h=>by
  simp only[List.all_cons,Bool.and_eq_true]at h
  obtain ⟨b,rfl⟩:=isB_ex h.1
  simp[clLL,clL,AV.cl,isB_cl h.2]
def Rch (n : Int) (s : S2) : Prop:=(∃ i j : Nat,i≤14∧j≤14∧s.a.pc = i∧s.b.pc = j∧InG (o1i n) i j s∧s.w.s≤6 + i + j∧s.w.lg.length≤i + j)∧okT s.a = true∧okT s.b = true∧okW s.w = true
theorem Rch_0 {n : Int} (h : okW (o1w n) = true) : Rch n (o1i n):=⟨⟨0,0,by omega,by omega,rfl,rfl,InG_0 _,by simp[o1i,o1w],by simp[o1i,o1w]⟩,rfl,rfl,h⟩
theorem Rch_A {n : Int} {s : S2} (h : Rch n s) : Rch n (stA2 s):=by
 obtain ⟨⟨i,j,hi,hj,pa,pb,hg,hs,hl⟩,hA,hB,hW⟩:=h
 by_cases hd : i < 14
 ·have f:=StepT_fr s.w s.a
  refine ⟨⟨i + 1,j,hd,hj,?_,pb,InG_A hg,?_,?_⟩,StepT_T hA hW,hB,StepT_ok hW _⟩
  ·show (StepT s.w s.a).1.pc = _
   rw[StepT_pc,if_neg (by omega),pa];omega
  ·show (StepT s.w s.a).2.s≤_
   omega
  ·show (StepT s.w s.a).2.lg.length≤_
   omega
 ·have e : stA2 s = s:=by unfold stA2;rw[step_stop (by omega)]
  rw[e]
  exact ⟨⟨i,j,hi,hj,pa,pb,hg,hs,hl⟩,hA,hB,hW⟩
theorem Rch_B {n : Int} {s : S2} (h : Rch n s) : Rch n (stB2 s):=by
 obtain ⟨⟨i,j,hi,hj,pa,pb,hg,hs,hl⟩,hA,hB,hW⟩:=h
 by_cases hd : j < 14
 ·have f:=StepT_fr s.w s.b
  refine ⟨⟨i,j + 1,hi,hd,pa,?_,InG_B hd hg,?_,?_⟩,hA,StepT_T hB hW,StepT_ok hW _⟩
  ·show (StepT s.w s.b).1.pc = _
   rw[StepT_pc,if_neg (by omega),pb];omega
  ·show (StepT s.w s.b).2.s≤_
   omega
  ·show (StepT s.w s.b).2.lg.length≤_
   omega
 ·have e : stB2 s = s:=by unfold stB2;rw[step_stop (by omega)]
  rw[e]
  exact ⟨⟨i,j,hi,hj,pa,pb,hg,hs,hl⟩,hA,hB,hW⟩
theorem Rch_pc {n : Int} {s : S2} (h : Rch n s) : s.a.pc≤14∧s.b.pc≤14∧0≤s.a.pc∧0≤s.b.pc:=by
 obtain ⟨⟨i,j,hi,hj,pa,pb,_⟩,_⟩:=h
 omega
theorem Rch_sm {n : Int} {s : S2} (h : Rch n s) : smW s.w = true:=by
 obtain ⟨⟨i,j,hi,hj,pa,pb,_,hs,hl⟩,_⟩:=h
 exact decide_eq_true (by omega)
theorem Rch_end {n : Int} {s : S2} (hc : o1C n = true) (h : Rch n s) (h1 : 14≤s.a.pc) (h2 : 14≤s.b.pc) : o1P n s = true:=by
 obtain ⟨⟨i,j,hi,hj,pa,pb,⟨c,hg,hm⟩,_⟩,_⟩:=h
 obtain rfl : i = 14:=by omega
 obtain rfl : j = 14:=by omega
 unfold o1C at hc
 rw[hg]at hc
 exact List.all_eq_true.1 hc _ hm
def ELo : List (FuncId × Spec):=[(9,nestS [(10,false)] d9 ok9),(10,nestS [] d10 ok10),(11,nestS [] d11 ok11),(12,nestS [(35,true),(10,true)] d12 ok12),(13,nestS [(35,false)] d13 ok13),(14,nestS [(10,true)] d14 ok14),(15,nestS [(35,false)] d15 ok15),(16,rdS d16 ok16)]
theorem ELo_ok : SoundAll Try.prog (EL ELo):=EL_sound (by
 simp only[ELo,List.mem_cons,List.not_mem_nil,or_false,forall_eq_or_imp,forall_eq]
 exact ⟨s9,s10,s11,s12,s13,s14,s15,s16⟩)
def d3 : List AV→List NObj→Option AV
 | [.sl (.top 0) 0 n,.int .u8 left],[.view 0 1 els]=>if n = els.length∧els.all isB = true∧0≤left∧left < 256 then some (.bool true) else none
 | _,_=>none
def I3 (els : List (List AV)) (n : Int) (k : Nat) (s : S2) : St:=⟨[(6,.int .i64 n),(10,.ptr (.top 1) 0 0),(13,.ptr (.top 2) 0 0),(14,.ptr (.top 3) 0 0),(64,.sl (.top 0) 0 els.length),(65,.int .i64 els.length),(66,.int .i64 k)],[(0,.view 0 1 els),(1,.cells 0 (wzC s.w)),(2,.cells 0 (tzC s.a)),(3,.cells 0 (tzC s.b))],4⟩
def J3 (els : List (List AV)) (n : Int) (s : S2) : St:=⟨[(6,.int .i64 n),(10,.ptr (.top 1) 0 0),(13,.ptr (.top 2) 0 0),(14,.ptr (.top 3) 0 0)],[(0,.view 0 1 els),(1,.cells 0 (wzC s.w)),(2,.cells 0 (tzC s.a)),(3,.cells 0 (tzC s.b))],4⟩
theorem ok3 : ROk d3:=by
 intro xs os r h
 unfold d3 at h
 (repeat' (split at h))<;>first|(cases h;done)|(injection h with h;subst h;simp)
theorem s3 : Sound Try.prog 3 (rdS d3 ok3):=by
 refine rd_sound Try.func3 nm3 rc3 rv3 ok3 fun xs os r h vs ρ0 hvs=>⟨xs,?_,fun _ h=>h,fun w0 S hS=>?_⟩
 ·unfold d3 at h
  (repeat' (split at h))<;>first|(cases h;done)|exact Nat.le_of_ble_eq_true rfl
 unfold d3 at h
 split at h
 ·split at h
  ·rename_i nn left els hcond
   injection h with h
   subst h
   obtain ⟨rfl,hob,hl0,hl1⟩:=hcond
   have hE:=ELo_ok
   have hTe:=isB_t0 hob
   have hCe:=isB_cl hob
   obtain ⟨m9,hm9⟩ : ∃ z,left.tmod 9 = z:=⟨_,rfl⟩
   have hm9r : 0≤m9∧m9 < 9:=by rw[← hm9,Int.tmod_eq_emod_of_nonneg hl0];omega
   have wm : IntKind.wrap .i64 m9 = m9:=wrap_in (by omega) (by omega)
   obtain ⟨n,hn⟩ : ∃ z,1 + m9 = z:=⟨_,rfl⟩
   have wn : IntKind.wrap .i64 n = n:=wrap_in (by omega) (by omega)
   have wk1 : IntKind.wrap .i64 1 = 1:=by rfl
   have wk2 : IntKind.wrap .i64 2 = 2:=by rfl
   have wk3 : IntKind.wrap .i64 3 = 3:=by rfl
   obtain ⟨hbz,hW0,hoC,hTS,hCS,hTT,hCT,hoB⟩:=o1_all n (by omega) (by omega)
   have h9 : ∀ u,d9 [.agg [.int .i64 3,.int .i64 1,.int .i64 1,.int .i64 1,.int .i64 0,.int .i64 4,.int .i64 1],.os u 10 (o1L n)] = some ⟨.tup [.op 0 (wzC (o1w n)),.op 0 (qC 3 1 1 1 0 4 1 (o1S n) (o1T n)),.bool true],[.free]⟩:=fun u=>by
    simp only[d9]
    rw[if_pos hoB,if_pos (by kernel_rfl)]
    simp only[bothA,show (o1L n).length = 3 from rfl]
    rw[hbz]
    rfl
   have hR0:=Rch_0 hW0
   obtain ⟨si,hsi⟩ : ∃ z,o1i n = z:=⟨_,rfl⟩
   have hsw : o1w n = si.w:=by rw[← hsi];rfl
   have h11a : d11 [.agg [.int .i64 3,.int .i64 0,.int .i64 0,.int .i64 2,.int .i64 0]] = some ⟨.op 0 (tzC si.a),[]⟩:=by rw[← hsi];rfl
   have h11b : d11 [.agg [.int .i64 3,.int .i64 1,.int .i64 0,.int .i64 2,.int .i64 0]] = some ⟨.op 0 (tzC si.b),[]⟩:=by rw[← hsi];rfl
   rw[hsw]at h9 hW0
   rw[hsi]at hR0
   obtain ⟨SS,hSS⟩ : ∃ z,o1S n = z:=⟨_,rfl⟩
   obtain ⟨TT,hTTe⟩ : ∃ z,o1T n = z:=⟨_,rfl⟩
   rw[hSS]at h9 hTS hCS
   rw[hTTe]at h9 hTT hCT
   obtain ⟨hcf,hw,hwl,hs0,ht0,ht1,hlg⟩:=okW_ex (hW0)
   have hT:=w_t0 hw
   have hC:=w_cl hw
   have hTl:=l_t0 hlg
   have hCl:=l_cl hlg
   clear hsi hsw hbz hSS hTTe hcf hw hwl hs0 ht0 ht1 hlg
   simp only[wzC,qC,o1L,tzC]at h9 h11a h11b
   have hln : (els.length : Int) > 100∨¬ (els.length : Int) > 100:=by omega
   rcases hln with hln|hln
   ·unfold m3
    repeat' with_reducible (first
     | refine ZR.h ?_ | refine zI (by decide) ?_
     | (refine zK hE ?_;intro K hK;simp[KR.ks,ELo,q3_0,q3_1,q3_2,q3_3,q3_4,q3_5,q3_6,q3_7,q3_8,q3_9,q3_10,q3_11,q3_12,q3_13,q3_14,q3_15,q3_16,q3_17,q3_18,q3_19,q3_20,q3_21,q3_22,q3_23,q3_24,q3_25,q3_26,q3_27,q3_28,q3_29,q3_30,hTe,hCe,hm9,wm,hn,wn,wk1,wk2,wk3];(repeat' (first | refine hK _ _ ?_ | refine And.intro ?_ ?_ | (intro hc;try subst hc)))<;>(try clear hK K))
     | (refine zJ (b:=_) (by with_unfolding_all rfl) (fun hc=>?_) (fun hc=>?_)<;>simp at hc<;>(try subst hc)))
    all_goals refine Wm_unroll 4 ?_
    repeat' with_reducible (first
     | refine ZR.h ?_ | refine zI (by decide) ?_
     | (refine zK hE ?_;intro K hK;simp[KR.ks,ELo,q3_0,q3_1,q3_2,q3_3,q3_4,q3_5,q3_6,q3_7,q3_8,q3_9,q3_10,q3_11,q3_12,q3_13,q3_14,q3_15,q3_16,q3_17,q3_18,q3_19,q3_20,q3_21,q3_22,q3_23,q3_24,q3_25,q3_26,q3_27,q3_28,q3_29,q3_30,hTe,hCe,hm9,wm,hn,wn,wk1,wk2,wk3,h9,hT,hC,hTl,hCl,hTS,hCS,hTT,hCT,hln,d10];(repeat' (first | refine hK _ _ ?_ | refine And.intro ?_ ?_ | (intro hc;try subst hc)))<;>(try clear hK K))
     | (refine zJ (b:=_) (by with_unfolding_all rfl) (fun hc=>?_) (fun hc=>?_)<;>simp at hc<;>(try subst hc)))
    all_goals first|(simp;done)|(simp at *;omega)|((try simp);refine Imp.auto (by kernel_rfl) ?_ ?_<;>simp[NLe,mkPlX])
   ·unfold m3
    repeat' with_reducible (first
     | refine ZR.h ?_ | refine zI (by decide) ?_
     | (refine zK hE ?_;intro K hK;simp[KR.ks,ELo,q3_0,q3_1,q3_2,q3_3,q3_4,q3_5,q3_6,q3_7,q3_8,q3_9,q3_10,q3_11,q3_12,q3_13,q3_14,q3_15,q3_16,q3_17,q3_18,q3_19,q3_20,q3_21,q3_22,q3_23,q3_24,q3_25,q3_26,q3_27,q3_28,q3_29,q3_30,hTe,hCe,hm9,wm,hn,wn,wk1,wk2,wk3];(repeat' (first | refine hK _ _ ?_ | refine And.intro ?_ ?_ | (intro hc;try subst hc)))<;>(try clear hK K))
     | (refine zJ (b:=_) (by with_unfolding_all rfl) (fun hc=>?_) (fun hc=>?_)<;>simp at hc<;>(try subst hc)))
    all_goals refine Wm_unroll 4 ?_
    repeat' with_reducible (first
     | refine ZR.h ?_ | refine zI (by decide) ?_
     | (refine zK hE ?_;intro K hK;simp[KR.ks,ELo,q3_0,q3_1,q3_2,q3_3,q3_4,q3_5,q3_6,q3_7,q3_8,q3_9,q3_10,q3_11,q3_12,q3_13,q3_14,q3_15,q3_16,q3_17,q3_18,q3_19,q3_20,q3_21,q3_22,q3_23,q3_24,q3_25,q3_26,q3_27,q3_28,q3_29,q3_30,hTe,hCe,hm9,wm,hn,wn,wk1,wk2,wk3,h9,h11a,h11b,hT,hC,hTl,hCl,hTS,hCS,hTT,hCT,hln];(repeat' (first | refine hK _ _ ?_ | refine And.intro ?_ ?_ | (intro hc;try subst hc)))<;>(try clear hK K))
     | (refine zJ (b:=_) (by with_unfolding_all rfl) (fun hc=>?_) (fun hc=>?_)<;>simp at hc<;>(try subst hc)))
    all_goals (refine Wm_loop (fun ks : Nat × S2=>I3 els n ks.1 ks.2) (fun ks=>ks.1≤els.length∧Rch n ks.2) (fun ks=>els.length - ks.1) (0,si) ⟨Nat.zero_le _,hR0⟩ ?_ ?_)
    ·simp only[I3,wzC,tzC]
     rw[hS]
     refine Imp.auto (by kernel_rfl) ?_ ?_<;>simp[NLe,mkPlX,hTe,hCe,hT,hC,hTl,hCl,hTS,hCS,hTT,hCT]
    ·clear h9 h11a h11b hT hC hTl hCl hR0 hW0 si hTS hCS hTT hCT
     rintro ⟨k,s⟩ ⟨hk,hR⟩
     replace hk : k≤els.length:=hk
     replace hR : Rch n s:=hR
     have h13:=e13 s.a
     by_cases hkl : k < els.length
     ·have hkI : (k : Int) < els.length:=by omega
      have ww : IntKind.wrap .i64 ((k : Int) + 1) = (k : Int) + 1:=wrap_in (by omega) (by omega)
      obtain ⟨b,hb⟩:=isB_ex (List.all_eq_true.1 hob _ (List.getElem_mem hkl))
      have hrow : els[k]? = some [.bool b]:=by rw[List.getElem?_eq_getElem hkl,hb]
      cases b
      ·
       have hsm:=Rch_sm hR
       have hR2:=Rch_B hR
       obtain ⟨_,hAk,hBk,hWk⟩:=hR
       have hst:=e12 hBk hWk hsm
       have hWk2:=hR2.2.2.2
       obtain ⟨s2,hs2⟩ : ∃ z,stB2 s = z:=⟨_,rfl⟩
       have e1 : (StepT s.w s.b).1 = s2.b:=by rw[← hs2];rfl
       have e2 : (StepT s.w s.b).2 = s2.w:=by rw[← hs2];rfl
       have e3 : s2.a = s.a:=by rw[← hs2];rfl
       rw[e1,e2]at hst
       rw[hs2]at hR2 hWk2
       obtain ⟨hcf,hw,hwl,hs0,ht0,ht1,hlg⟩:=okW_ex (hWk)
       have hT:=w_t0 hw
       have hC:=w_cl hw
       have hTl:=l_t0 hlg
       have hCl:=l_cl hlg
       obtain ⟨hcf2,hw2,hwl2,hs02,ht02,ht12,hlg2⟩:=okW_ex (hWk2)
       have hT2:=w_t0 hw2
       have hC2:=w_cl hw2
       have hTl2:=l_t0 hlg2
       have hCl2:=l_cl hlg2
       simp only[I3,tzC,wzC,wzL]at hst ⊢
       repeat' with_reducible (first
        | refine ZR.h ?_ | refine zI (by decide) ?_
        | (refine zK hE ?_;intro K hK;simp[KR.ks,ELo,q3_0,q3_1,q3_2,q3_3,q3_4,q3_5,q3_6,q3_7,q3_8,q3_9,q3_10,q3_11,q3_12,q3_13,q3_14,q3_15,q3_16,q3_17,q3_18,q3_19,q3_20,q3_21,q3_22,q3_23,q3_24,q3_25,q3_26,q3_27,q3_28,q3_29,q3_30,hTe,hCe,hT,hC,hTl,hCl,hT2,hC2,hTl2,hCl2,hkI,hst,ww,hrow];(repeat' (first | refine hK _ _ ?_ | refine And.intro ?_ ?_ | (intro hc;try subst hc)))<;>(try clear hK K))
        | (refine zJ (b:=_) (by with_unfolding_all rfl) (fun hc=>?_) (fun hc=>?_)<;>simp at hc<;>(try subst hc)))
       all_goals refine ⟨(k + 1,s2),⟨hkl,hR2⟩,by show els.length - (k + 1) < els.length - k;omega,?_⟩
       all_goals (try simp only[J3,I3,tzC,wzC])
       all_goals rw[hS]
       all_goals (refine Imp.auto (by kernel_rfl) ?_ ?_<;>simp[NLe,mkPlX,hTe,hCe,hT,hC,hTl,hCl,hT2,hC2,hTl2,hCl2,e3])
      ·
       have hsm:=Rch_sm hR
       have hR2:=Rch_A hR
       obtain ⟨_,hAk,hBk,hWk⟩:=hR
       have hst:=e12 hAk hWk hsm
       have hWk2:=hR2.2.2.2
       obtain ⟨s2,hs2⟩ : ∃ z,stA2 s = z:=⟨_,rfl⟩
       have e1 : (StepT s.w s.a).1 = s2.a:=by rw[← hs2];rfl
       have e2 : (StepT s.w s.a).2 = s2.w:=by rw[← hs2];rfl
       have e3 : s2.b = s.b:=by rw[← hs2];rfl
       rw[e1,e2]at hst
       rw[hs2]at hR2 hWk2
       obtain ⟨hcf,hw,hwl,hs0,ht0,ht1,hlg⟩:=okW_ex (hWk)
       have hT:=w_t0 hw
       have hC:=w_cl hw
       have hTl:=l_t0 hlg
       have hCl:=l_cl hlg
       obtain ⟨hcf2,hw2,hwl2,hs02,ht02,ht12,hlg2⟩:=okW_ex (hWk2)
       have hT2:=w_t0 hw2
       have hC2:=w_cl hw2
       have hTl2:=l_t0 hlg2
       have hCl2:=l_cl hlg2
       simp only[I3,tzC,wzC,wzL]at hst ⊢
       repeat' with_reducible (first
        | refine ZR.h ?_ | refine zI (by decide) ?_
        | (refine zK hE ?_;intro K hK;simp[KR.ks,ELo,q3_0,q3_1,q3_2,q3_3,q3_4,q3_5,q3_6,q3_7,q3_8,q3_9,q3_10,q3_11,q3_12,q3_13,q3_14,q3_15,q3_16,q3_17,q3_18,q3_19,q3_20,q3_21,q3_22,q3_23,q3_24,q3_25,q3_26,q3_27,q3_28,q3_29,q3_30,hTe,hCe,hT,hC,hTl,hCl,hT2,hC2,hTl2,hCl2,hkI,hst,ww,hrow];(repeat' (first | refine hK _ _ ?_ | refine And.intro ?_ ?_ | (intro hc;try subst hc)))<;>(try clear hK K))
        | (refine zJ (b:=_) (by with_unfolding_all rfl) (fun hc=>?_) (fun hc=>?_)<;>simp at hc<;>(try subst hc)))
       all_goals refine ⟨(k + 1,s2),⟨hkl,hR2⟩,by show els.length - (k + 1) < els.length - k;omega,?_⟩
       all_goals (try simp only[J3,I3,tzC,wzC])
       all_goals rw[hS]
       all_goals (refine Imp.auto (by kernel_rfl) ?_ ?_<;>simp[NLe,mkPlX,hTe,hCe,hT,hC,hTl,hCl,hT2,hC2,hTl2,hCl2,e3])
     ·have hkI : ¬ ((k : Int) < els.length):=by omega
      have hke : k = els.length:=by omega
      subst hke
      obtain ⟨hcf,hw,hwl,hs0,ht0,ht1,hlg⟩:=okW_ex (hR.2.2.2)
      have hT:=w_t0 hw
      have hC:=w_cl hw
      have hTl:=l_t0 hlg
      have hCl:=l_cl hlg
      simp only[I3,tzC,wzC,wzL]
      repeat' with_reducible (first
       | refine ZR.h ?_ | refine zI (by decide) ?_
       | (refine zK hE ?_;intro K hK;simp[KR.ks,ELo,q3_0,q3_1,q3_2,q3_3,q3_4,q3_5,q3_6,q3_7,q3_8,q3_9,q3_10,q3_11,q3_12,q3_13,q3_14,q3_15,q3_16,q3_17,q3_18,q3_19,q3_20,q3_21,q3_22,q3_23,q3_24,q3_25,q3_26,q3_27,q3_28,q3_29,q3_30,hTe,hCe,hT,hC,hTl,hCl];(repeat' (first | refine hK _ _ ?_ | refine And.intro ?_ ?_ | (intro hc;try subst hc)))<;>(try clear hK K))
       | (refine zJ (b:=_) (by with_unfolding_all rfl) (fun hc=>?_) (fun hc=>?_)<;>simp at hc<;>(try subst hc)))
      all_goals (refine Wm_loop (J3 els n) (Rch n) (fun s=>(14 - s.a.pc).toNat) s hR ?_ ?_)
      ·simp only[J3,tzC,wzC]
       rw[hS]
       refine Imp.auto (by kernel_rfl) ?_ ?_<;>simp[NLe,mkPlX,hTe,hCe,hT,hC,hTl,hCl]
      ·clear hT hC hTl hCl hcf hw hwl hs0 ht0 ht1 hlg h13 hR s
       intro s hR
       replace hR : Rch n s:=hR
       have hpc:=Rch_pc hR
       have h13:=e13 s.a
       by_cases hd : 14≤s.a.pc
       ·rw[decide_eq_true hd]at h13
        obtain ⟨hcf,hw,hwl,hs0,ht0,ht1,hlg⟩:=okW_ex (hR.2.2.2)
        have hT:=w_t0 hw
        have hC:=w_cl hw
        have hTl:=l_t0 hlg
        have hCl:=l_cl hlg
        simp only[J3,tzC,wzC,wzL]at h13 ⊢
        repeat' with_reducible (first
         | refine ZR.h ?_ | refine zI (by decide) ?_
         | (refine zK hE ?_;intro K hK;simp[KR.ks,ELo,q3_0,q3_1,q3_2,q3_3,q3_4,q3_5,q3_6,q3_7,q3_8,q3_9,q3_10,q3_11,q3_12,q3_13,q3_14,q3_15,q3_16,q3_17,q3_18,q3_19,q3_20,q3_21,q3_22,q3_23,q3_24,q3_25,q3_26,q3_27,q3_28,q3_29,q3_30,hTe,hCe,hT,hC,hTl,hCl,h13];(repeat' (first | refine hK _ _ ?_ | refine And.intro ?_ ?_ | (intro hc;try subst hc)))<;>(try clear hK K))
         | (refine zJ (b:=_) (by with_unfolding_all rfl) (fun hc=>?_) (fun hc=>?_)<;>simp at hc<;>(try subst hc)))
        all_goals (refine Wm_loop (J3 els n) (fun s=>Rch n s∧14≤s.a.pc) (fun s=>(14 - s.b.pc).toNat) s ⟨hR,hd⟩ ?_ ?_)
        ·simp only[J3,tzC,wzC]
         rw[hS]
         refine Imp.auto (by kernel_rfl) ?_ ?_<;>simp[NLe,mkPlX,hTe,hCe,hT,hC,hTl,hCl]
        ·clear hT hC hTl hCl hcf hw hwl hs0 ht0 ht1 hlg h13 hR hd hpc s
         rintro s ⟨hR,hda⟩
         replace hR : Rch n s:=hR
         replace hda : 14≤s.a.pc:=hda
         have hpc:=Rch_pc hR
         have h13:=e13 s.b
         by_cases hd : 14≤s.b.pc
         ·rw[decide_eq_true hd]at h13
          have hend:=Rch_end hoC hR hda hd
          simp only[o1P,Bool.and_eq_true,decide_eq_true_eq,Bool.not_eq_true',bne_iff_ne,ne_eq]at hend
          obtain ⟨⟨⟨⟨⟨⟨hm,hk5⟩,hll⟩,hh0⟩,hh1⟩,ha⟩,hb⟩:=hend
          have hsm:=Rch_sm hR
          have hW:=hR.2.2.2
          have hlo:=smW_lo hsm
          have hW1:=tick_ok hW
          have hW2:=tick_ok hW1
          have hsq:=smW_ex hsm
          have hlo1 : loW (tickW s.w) = true:=decide_eq_true (by simp only[tickW];omega)
          have hlo2 : loW (tickW (tickW s.w)) = true:=decide_eq_true (by simp only[tickW];omega)
          have g1:=e14 hW hlo (x:=2) (by omega) (by rw[ha,hb];omega)
          have g2:=e14 hW1 hlo1 (x:=0) (by omega) (by simp only[tickW];rw[ha,hb];omega)
          have g3:=e14 hW2 hlo2 (x:=1) (by omega) (by simp only[tickW];rw[ha,hb];omega)
          have q2 : sAt (tickW s.w) 0 = sAt s.w 0:=rfl
          have q3 : sAt (tickW (tickW s.w)) 1 = sAt s.w 1:=rfl
          rw[q2]at g2
          rw[q3]at g3
          have f15 : ∀ (T : TZ) (u : Nat),d15 [.op u (tzC T)] = some ⟨.bool T.made,[.free]⟩:=fun T u=>by simp only[d15,tzOf_C]
          have f15a:=f15 s.a
          have f15b:=f15 s.b
          obtain ⟨hcf,hw,hwl,hs0,ht0,ht1,hlg⟩:=okW_ex (hW)
          have hT:=w_t0 hw
          have hC:=w_cl hw
          have hTl:=l_t0 hlg
          have hCl:=l_cl hlg
          obtain ⟨s2,hs2⟩ : ∃ z,stateZ (sAt s.w 2) = z:=⟨_,rfl⟩
          obtain ⟨s0,hs0e⟩ : ∃ z,stateZ (sAt s.w 0) = z:=⟨_,rfl⟩
          obtain ⟨s1,hs1e⟩ : ∃ z,stateZ (sAt s.w 1) = z:=⟨_,rfl⟩
          have r0:=stR (sAt s.w 0)
          have r1:=stR (sAt s.w 1)
          rw[hs2]at g1 hk5
          rw[hs0e]at g2 hll hh0 r0
          rw[hs1e]at g3 hll hh1 r1
          have wl : IntKind.wrap .i64 (s0.l + s1.l) = s0.l + s1.l:=wrap_in (by omega) (by omega)
          simp only[J3,tzC,wzC,wzL,tickW,stA]at g1 g2 g3 h13 f15a f15b ⊢
          have hmm : (s.a.made = true∧s.b.made = false)∨(s.a.made = false∧s.b.made = true):=by
           cases h1 : s.a.made<;>cases h2 : s.b.made<;>simp[h1,h2]at hm ⊢
          rcases hmm with ⟨hm1,hm2⟩ | ⟨hm1,hm2⟩
          ·simp only[hm1,hm2]at f15a f15b g1 g2 g3 h13 ⊢
           repeat' with_reducible (first
            | refine ZR.h ?_ | refine zI (by decide) ?_
            | (refine zK hE ?_;intro K hK;simp[KR.ks,ELo,q3_0,q3_1,q3_2,q3_3,q3_4,q3_5,q3_6,q3_7,q3_8,q3_9,q3_10,q3_11,q3_12,q3_13,q3_14,q3_15,q3_16,q3_17,q3_18,q3_19,q3_20,q3_21,q3_22,q3_23,q3_24,q3_25,q3_26,q3_27,q3_28,q3_29,q3_30,hTe,hCe,hT,hC,hTl,hCl,g1,g2,g3,f15a,f15b,h13,hm1,hm2,hk5,hll,hh0,hh1,wl,d10,d16];(repeat' (first | refine hK _ _ ?_ | refine And.intro ?_ ?_ | (intro hc;try subst hc)))<;>(try clear hK K))
            | (refine zJ (b:=_) (by with_unfolding_all rfl) (fun hc=>?_) (fun hc=>?_)<;>simp at hc<;>(try subst hc)))
           all_goals first|(simp;done)|(simp at *;omega)|((try simp);refine Imp.auto (by kernel_rfl) ?_ ?_<;>simp[NLe,mkPlX])
          ·simp only[hm1,hm2]at f15a f15b g1 g2 g3 h13 ⊢
           repeat' with_reducible (first
            | refine ZR.h ?_ | refine zI (by decide) ?_
            | (refine zK hE ?_;intro K hK;simp[KR.ks,ELo,q3_0,q3_1,q3_2,q3_3,q3_4,q3_5,q3_6,q3_7,q3_8,q3_9,q3_10,q3_11,q3_12,q3_13,q3_14,q3_15,q3_16,q3_17,q3_18,q3_19,q3_20,q3_21,q3_22,q3_23,q3_24,q3_25,q3_26,q3_27,q3_28,q3_29,q3_30,hTe,hCe,hT,hC,hTl,hCl,g1,g2,g3,f15a,f15b,h13,hm1,hm2,hk5,hll,hh0,hh1,wl,d10,d16];(repeat' (first | refine hK _ _ ?_ | refine And.intro ?_ ?_ | (intro hc;try subst hc)))<;>(try clear hK K))
            | (refine zJ (b:=_) (by with_unfolding_all rfl) (fun hc=>?_) (fun hc=>?_)<;>simp at hc<;>(try subst hc)))
           all_goals first|(simp;done)|(simp at *;omega)|((try simp);refine Imp.auto (by kernel_rfl) ?_ ?_<;>simp[NLe,mkPlX])
         ·rw[decide_eq_false hd]at h13
          have hsm:=Rch_sm hR
          have hR2:=Rch_B hR
          obtain ⟨_,hAk,hBk,hWk⟩:=hR
          have hst:=e12 hBk hWk hsm
          have hWk2:=hR2.2.2.2
          obtain ⟨s2,hs2⟩ : ∃ z,stB2 s = z:=⟨_,rfl⟩
          have e1 : (StepT s.w s.b).1 = s2.b:=by rw[← hs2];rfl
          have e2 : (StepT s.w s.b).2 = s2.w:=by rw[← hs2];rfl
          have e3 : s2.a = s.a:=by rw[← hs2];rfl
          rw[e1,e2]at hst
          rw[hs2]at hR2 hWk2
          obtain ⟨hcf,hw,hwl,hs0,ht0,ht1,hlg⟩:=okW_ex (hWk)
          have hT:=w_t0 hw
          have hC:=w_cl hw
          have hTl:=l_t0 hlg
          have hCl:=l_cl hlg
          obtain ⟨hcf2,hw2,hwl2,hs02,ht02,ht12,hlg2⟩:=okW_ex (hWk2)
          have hT2:=w_t0 hw2
          have hC2:=w_cl hw2
          have hTl2:=l_t0 hlg2
          have hCl2:=l_cl hlg2
          have hp2 : (14 - s2.b.pc).toNat < (14 - s.b.pc).toNat:=by
           rw[← e1,StepT_pc,if_neg hd];omega
          simp only[J3,tzC,wzC,wzL]at hst h13 ⊢
          repeat' with_reducible (first
           | refine ZR.h ?_ | refine zI (by decide) ?_
           | (refine zK hE ?_;intro K hK;simp[KR.ks,ELo,q3_0,q3_1,q3_2,q3_3,q3_4,q3_5,q3_6,q3_7,q3_8,q3_9,q3_10,q3_11,q3_12,q3_13,q3_14,q3_15,q3_16,q3_17,q3_18,q3_19,q3_20,q3_21,q3_22,q3_23,q3_24,q3_25,q3_26,q3_27,q3_28,q3_29,q3_30,hTe,hCe,hT,hC,hTl,hCl,hT2,hC2,hTl2,hCl2,hst,h13];(repeat' (first | refine hK _ _ ?_ | refine And.intro ?_ ?_ | (intro hc;try subst hc)))<;>(try clear hK K))
           | (refine zJ (b:=_) (by with_unfolding_all rfl) (fun hc=>?_) (fun hc=>?_)<;>simp at hc<;>(try subst hc)))
          all_goals refine ⟨s2,⟨hR2,by rw[e3];exact hda⟩,hp2,?_⟩
          all_goals (try simp only[J3,I3,tzC,wzC])
          all_goals rw[hS]
          all_goals (refine Imp.auto (by kernel_rfl) ?_ ?_<;>simp[NLe,mkPlX,hTe,hCe,hT,hC,hTl,hCl,hT2,hC2,hTl2,hCl2,e3])
       ·rw[decide_eq_false hd]at h13
        have hsm:=Rch_sm hR
        have hR2:=Rch_A hR
        obtain ⟨_,hAk,hBk,hWk⟩:=hR
        have hst:=e12 hAk hWk hsm
        have hWk2:=hR2.2.2.2
        obtain ⟨s2,hs2⟩ : ∃ z,stA2 s = z:=⟨_,rfl⟩
        have e1 : (StepT s.w s.a).1 = s2.a:=by rw[← hs2];rfl
        have e2 : (StepT s.w s.a).2 = s2.w:=by rw[← hs2];rfl
        have e3 : s2.b = s.b:=by rw[← hs2];rfl
        rw[e1,e2]at hst
        rw[hs2]at hR2 hWk2
        obtain ⟨hcf,hw,hwl,hs0,ht0,ht1,hlg⟩:=okW_ex (hWk)
        have hT:=w_t0 hw
        have hC:=w_cl hw
        have hTl:=l_t0 hlg
        have hCl:=l_cl hlg
        obtain ⟨hcf2,hw2,hwl2,hs02,ht02,ht12,hlg2⟩:=okW_ex (hWk2)
        have hT2:=w_t0 hw2
        have hC2:=w_cl hw2
        have hTl2:=l_t0 hlg2
        have hCl2:=l_cl hlg2
        have hp2 : (14 - s2.a.pc).toNat < (14 - s.a.pc).toNat:=by
         rw[← e1,StepT_pc,if_neg hd];omega
        simp only[J3,tzC,wzC,wzL]at hst h13 ⊢
        repeat' with_reducible (first
         | refine ZR.h ?_ | refine zI (by decide) ?_
         | (refine zK hE ?_;intro K hK;simp[KR.ks,ELo,q3_0,q3_1,q3_2,q3_3,q3_4,q3_5,q3_6,q3_7,q3_8,q3_9,q3_10,q3_11,q3_12,q3_13,q3_14,q3_15,q3_16,q3_17,q3_18,q3_19,q3_20,q3_21,q3_22,q3_23,q3_24,q3_25,q3_26,q3_27,q3_28,q3_29,q3_30,hTe,hCe,hT,hC,hTl,hCl,hT2,hC2,hTl2,hCl2,hst,h13];(repeat' (first | refine hK _ _ ?_ | refine And.intro ?_ ?_ | (intro hc;try subst hc)))<;>(try clear hK K))
         | (refine zJ (b:=_) (by with_unfolding_all rfl) (fun hc=>?_) (fun hc=>?_)<;>simp at hc<;>(try subst hc)))
        all_goals refine ⟨s2,hR2,hp2,?_⟩
        all_goals (try simp only[J3,I3,tzC,wzC])
        all_goals rw[hS]
        all_goals (refine Imp.auto (by kernel_rfl) ?_ ?_<;>simp[NLe,mkPlX,hTe,hCe,hT,hC,hTl,hCl,hT2,hC2,hTl2,hCl2,e3])
  ·cases h
 ·cases h
end Go.W
set_option linter.unusedSimpArgs false
set_option linter.unusedVariables false
namespace Go.W
open Go.ChangeShapes Go.WideShapes Go.ChangeAt Go.RowKit Go.Joins Go.Deep
def leafV (k : Bool) (a : AV) (v : Value) : Prop:=if k = true then ∃ b,a = .bool b∧v = .bool b else ∃ n,a = .int .i64 n∧v = .int .i64 n∧-9223372036854775808≤n∧n≤9223372036854775807
def flatBs (P : Program) (fl : TypeId→Option (List Bool)) : List Field→Nat→Option (List Bool)
 | [],_=>some []
 | f :: r,off=>match fl f.type with
  | some ks=>if f.offset = off∧P.cellsOf f.type = ks.length then (match flatBs P fl r (off + ks.length) with
   | some rs=>some (ks ++ rs)
   | none=>none) else none
  | none=>none
def flatB (P : Program) : Nat→TypeId→Option (List Bool)
 | 0,_=>none
 | d + 1,t=>match P.underlying t with
  | some (.int .i64)=>some [false]
  | some .bool=>some [true]
  | some (.struct fs)=>match flatBs P (flatB P d) fs.toList 0 with
   | some ks=>if P.cellsOf t = ks.length then some ks else none
   | none=>none
  | _=>none
section
variable {H : Type} {enc : TypeId × Value→H} {P : Program} {w : World} {base : Nat} {spare : Nat→Bool} {held : Bool}
theorem flatBs_leaf {fl : TypeId→Option (List Bool)} (hfl : ∀ (t : TypeId) (ks : List Bool) (fuel : Nat) (cs : List Value) (x : DataW H × List MemPlace),fl t = some ks→DataW.trod enc P w base spare held fuel t cs = some x→cs.length = ks.length∧∀ (j : Nat) (k : Bool),ks[j]? = some k→∃ a v,cs[j]? = some v∧leafV k a v) {cs : List Value} :
  ∀ (l : List Field) (off : Nat) (ks : List Bool),flatBs P fl l off = some ks→(∀ f,f ∈ l→∃ fuel x,DataW.trod enc P w base spare held fuel f.type ((cs.drop f.offset).take (P.cellsOf f.type)) = some x)→∀ (j : Nat) (k : Bool),ks[j]? = some k→∃ a v,cs[off + j]? = some v∧leafV k a v
 | [],off,ks,h,_=>by
  simp only[flatBs,Option.some.injEq]at h
  subst h
  intro j k hk
  simp at hk
 | f :: r,off,ks,h,hx=>by
  simp only[flatBs]at h
  split at h
  ·rename_i k0 hk0
   split at h
   ·rename_i hc
    split at h
    ·rename_i rs hrs
     simp only[Option.some.injEq]at h
     subst h
     have h2:=flatBs_leaf hfl r (off + k0.length) rs hrs fun g hg=>hx g (List.mem_cons_of_mem _ hg)
     obtain ⟨fuel,x,h3⟩:=hx f List.mem_cons_self
     rw[hc.1,hc.2]at h3
     obtain ⟨h4,h5⟩:=hfl _ _ _ _ _ hk0 h3
     intro j k hk
     by_cases hj : j < k0.length
     ·rw[List.getElem?_append_left hj]at hk
      obtain ⟨a,v,e1,e2⟩:=h5 j k hk
      rw[List.getElem?_take,if_pos hj,List.getElem?_drop]at e1
      exact ⟨a,v,e1,e2⟩
     ·rw[List.getElem?_append_right (by omega)]at hk
      obtain ⟨a,v,e1,e2⟩:=h2 _ k hk
      rw[show off + k0.length + (j - k0.length) = off + j from by omega]at e1
      exact ⟨a,v,e1,e2⟩
    ·cases h
   ·cases h
  ·cases h
theorem flatB_leaf : ∀ (dp : Nat) (t : TypeId) (ks : List Bool) (fuel : Nat) (cs : List Value) (x : DataW H × List MemPlace),flatB P dp t = some ks→DataW.trod enc P w base spare held fuel t cs = some x→cs.length = ks.length∧∀ (j : Nat) (k : Bool),ks[j]? = some k→∃ a v,cs[j]? = some v∧leafV k a v
 | 0,t,ks,fuel,cs,x,h,_=>by simp[flatB]at h
 | d + 1,t,ks,fuel,cs,x,h,hx=>by
  unfold flatB at h
  split at h
  ·rename_i hu
   simp only[Option.some.injEq]at h
   subst h
   obtain ⟨n,rfl,_,hwf⟩:=DataW.trod_int hu hx
   have hr : -9223372036854775808≤n∧n≤9223372036854775807:=by simpa [Lit.wf,IntKind.min,IntKind.max,IntKind.bits,IntKind.signed] using hwf
   refine ⟨rfl,fun j k hk=>?_⟩
   cases j with
   | zero=>simp at hk;subst hk;exact ⟨.int .i64 n,.int .i64 n,rfl,by rw[leafV,if_neg (by simp)];exact ⟨n,rfl,rfl,hr⟩⟩
   | succ j=>simp at hk
  ·rename_i hu
   simp only[Option.some.injEq]at h
   subst h
   obtain ⟨b,rfl,_⟩:=DataW.trod_bool hu hx
   refine ⟨rfl,fun j k hk=>?_⟩
   cases j with
   | zero=>simp at hk;subst hk;exact ⟨.bool b,.bool b,rfl,by rw[leafV,if_pos rfl];exact ⟨b,rfl,rfl⟩⟩
   | succ j=>simp at hk
  ·rename_i fs hu
   split at h
   ·rename_i ks' hm
    split at h
    ·rename_i hc
     simp only[Option.some.injEq]at h
     subst h
     obtain ⟨xs,n,_,_,hl,hxl,hf⟩:=DataW.trod_struct hu hx
     have:=flatBs_leaf (fun t k fuel cs x=>flatB_leaf d t k fuel cs x) fs.toList 0 ks' hm fun f hfm=>by
      obtain ⟨i,hi⟩:=List.getElem?_of_mem hfm
      have hi' : fs[i]? = some f:=by rw[← Array.getElem?_toList];exact hi
      have h1:=hf i f hi'
      have hlt : i < xs.length:=by rw[hxl];exact (Array.getElem?_eq_some_iff.1 hi').1
      rw[List.getElem?_eq_getElem hlt]at h1
      exact ⟨n,_,h1⟩
     exact ⟨by rw[hl,hc],fun j k hk=>by have:=this j k hk;rwa [Nat.zero_add]at this⟩
    ·cases h
   ·cases h
  ·cases h
end
def rowK (ks : List Bool) (c : List AV) : Prop:=c.length = ks.length∧∀ (j : Nat) (k : Bool),ks[j]? = some k→∃ a v,c[j]? = some a∧leafV k a v
theorem rowK_dat {ks : List Bool} {c : List AV} (h : rowK ks c) : datL c = true:=by
 refine List.all_eq_true.2 fun a ha=>?_
 obtain ⟨j,hj⟩:=List.getElem?_of_mem ha
 have hlt : j < ks.length:=by rw[← h.1];exact (List.getElem?_eq_some_iff.1 hj).1
 obtain ⟨a',v,h1,h2⟩:=h.2 j _ (List.getElem?_eq_getElem hlt)
 rw[hj]at h1
 simp only[Option.some.injEq]at h1
 subst h1
 unfold leafV at h2
 split at h2
 ·obtain ⟨b,rfl,_⟩:=h2;rfl
 ·obtain ⟨n,rfl,_⟩:=h2;rfl
theorem leaf_rep {ρ : Env} {k : Bool} {a : AV} {v : Value} (h : leafV k a v) : Rep ρ a v:=by
 unfold leafV at h
 split at h
 ·obtain ⟨b,rfl,rfl⟩:=h;simp[Rep]
 ·obtain ⟨n,rfl,rfl,_⟩:=h;simp[Rep]
theorem open_kinds {H : Type} {enc : TypeId × Value→H} {P : Program} {w : World} {base b0 : Nat} {r : Reach} {t e : TypeId} {v : Value} {d : DataW H} {p : List MemPlace} (ht : P.underlying t = some (.slice e)) {ks : List Bool} {z : Nat} (hfl : flatB P 6 e = some ks) (hz : ks.length = z) (hz0 : 0 < z) (hce : P.cellsOf e = z) (hv : Value.okWide P w r b0 t v) (h : DataW.Trod enc P w base (fun _=>true) true t v d p) :
  ∃ (els : List (List AV)) (L : Loc),(∀ c,c ∈ els→rowK ks c)∧(∀ ρ nm,ObjOk ρ L (flO nm (.view 0 z els)) w)∧(L.nil = false→L.blk < w.heap.size)∧(∀ (ρ : Env) nm,ρ nm = L→Rep ρ (.sl nm 0 els.length) v):=by
 obtain ⟨q,len0,cap0,rfl⟩:=okWide_slice ht hv
 obtain ⟨fuel,hf⟩:=h
 have hcs : (Value.slice q len0 cap0).cells.toList = [.slice q len0 cap0]:=rfl
 rw[hcs]at hf
 have nilcase : ∀ (c : Option Addr),∃ (els : List (List AV)) (L : Loc),(∀ c,c ∈ els→rowK ks c)∧(∀ ρ nm,ObjOk ρ L (flO nm (.view 0 z els)) w)∧(L.nil = false→L.blk < w.heap.size)∧(∀ (ρ : Env) nm,ρ nm = L→Rep ρ (.sl nm 0 els.length) (.slice c 0 0)):=fun c =>
  ⟨[],nilLoc,fun c hc=>by simp at hc,fun ρ nm=>.inl ⟨rfl,rfl⟩,(fun h=>by simp[nilLoc]at h),(fun ρ nm hρ=>by
   rw[Rep]
   exact .inl ⟨by rw[hρ];rfl,rfl,rfl,c,rfl⟩)⟩
 rcases open_slice ht hf with ⟨h0,_⟩ | ⟨a,len,cap,m,n,D,Pl,h0,hb,hl,hm,hmm,_,hx⟩
 ·simp only[List.cons.injEq,and_true]at h0
  rw[h0]
  exact nilcase none
 ·simp only[List.cons.injEq,and_true]at h0
  rw[h0]
  simp only[if_true]at hmm
  subst hmm
  by_cases hc0 : m = 0
  ·subst hc0
   have : len = 0:=by omega
   subst this
   exact nilcase (some a)
  ·rw[hce]at hx
   have cell : ∀ i,i < m→∃ f : Nat→AV,∀ j,j < z→∃ k v,ks[j]? = some k∧w.cell? (a.add (i * z + j)) = some v∧leafV k (f j) v:=fun i hi=>by
    obtain ⟨cs',g1,g2⟩:=hx i hi
    obtain ⟨_,g3,g4⟩:=World.cells?_some g1
    obtain ⟨_,g6⟩:=flatB_leaf 6 e ks n cs' _ hfl g2
    refine choose_lt (α:=AV) (n:=z) (p:=fun j a' => ∃ k v,ks[j]? = some k∧w.cell? (a.add (i * z + j)) = some v∧leafV k a' v) fun j hj=>?_
    have hk:=List.getElem?_eq_getElem (l:=ks) (show j < ks.length by omega)
    obtain ⟨a',v,e1,e2⟩:=g6 j _ hk
    have:=g4 j hj
    rw[add_add,e1]at this
    exact ⟨a',_,v,hk,this,e2⟩
   obtain ⟨F,hF⟩:=choose_lt (α:=Nat→AV) (n:=m) (p:=fun i f=>∀ j,j < z→∃ k v,ks[j]? = some k∧w.cell? (a.add (i * z + j)) = some v∧leafV k (f j) v) cell
   obtain ⟨k00,u0,_,hu0,_⟩:=hF 0 (by omega) 0 hz0
   rw[Nat.zero_mul,Nat.zero_add]at hu0
   have ha0 : a.add 0 = a:=by simp[Addr.add]
   rw[ha0]at hu0
   have hsp : a.spot = none:=by
    unfold World.cell? at hu0
    split at hu0
    ·split at hu0
     ·cases hu0
     ·rename_i hs
      cases hsp : a.spot with
      | none=>rfl
      | some s=>rw[hsp]at hs;simp at hs
    ·cases hu0
   obtain ⟨blk,off,spt⟩:=a
   simp only at hsp
   subst hsp
   have hblk:=World.block_lt_of_cell? w _ hu0
   have hrow : ∀ i,i < m→rowK ks ((List.range z).map (F i)):=fun i hi=>⟨by rw[List.length_map,List.length_range,hz],fun j k hk=>by
    have hj : j < z:=by rw[← hz];exact (List.getElem?_eq_some_iff.1 hk).1
    obtain ⟨k',v,e1,e2,e3⟩:=hF i hi j hj
    rw[hk]at e1
    simp only[Option.some.injEq]at e1
    subst e1
    exact ⟨F i j,v,by rw[List.getElem?_map,List.getElem?_range hj];rfl,e3⟩⟩
   refine ⟨(List.range len).map fun i=>(List.range z).map (F i),⟨blk,off,z,m,false⟩,fun c hc=>?_,fun ρ nm=>?_,fun _=>hblk,fun ρ nm hρ=>?_⟩
   ·obtain ⟨i,hi,rfl⟩:=List.mem_map.1 hc
    exact hrow i (by have:=List.mem_range.1 hi;omega)
   ·refine .inr ⟨rfl,rfl,by rw[List.length_map,List.length_range];exact hl,fun i hi=>?_,fun i hi j v hv=>?_⟩
    ·simp only[List.length_map,List.length_range]at hi
     rw[flC_length,List.getD_eq_getElem?_getD,List.getElem?_map,List.getElem?_range hi]
     show ((List.range z).map (F i)).length = z
     rw[List.length_map,List.length_range]
    ·simp only[List.length_map,List.length_range]at hi
     have e1 : ((List.range len).map fun i=>(List.range z).map (F i)).getD i [] = (List.range z).map (F i):=by
      rw[List.getD_eq_getElem?_getD,List.getElem?_map,List.getElem?_range hi];rfl
     rw[e1,flC_plain (datL_plain (rowK_dat (hrow i (by omega)))),List.getElem?_map]at hv
     by_cases hj : j < z
     ·rw[List.getElem?_range hj]at hv
      simp only[Option.map_some,Option.some.injEq]at hv
      subst hv
      obtain ⟨k,u,_,e3,e4⟩:=hF i (by omega) j hj
      refine ⟨u,?_,leaf_rep e4,?_⟩
      ·rw[← e3]
       congr 1
       unfold Addr.add
       split
       ·rename_i h0;simp[h0]
       ·rfl
      ·unfold leafV at e4
       split at e4
       ·obtain ⟨b,_,hn⟩:=e4;rw[hn];rfl
       ·obtain ⟨n,_,hn,_⟩:=e4;rw[hn];rfl
     ·rw[List.getElem?_eq_none (by rw[List.length_range];omega)]at hv
      simp only[Option.map_none,reduceCtorEq]at hv
   ·rw[Rep,List.length_map,List.length_range]
    refine .inr ⟨by rw[hρ],by rw[hρ,Nat.zero_add];exact hl,off,by rw[hρ];rfl,fun _=>by rw[hρ];simp⟩
theorem rd_boolK {P : Program} {f : FuncId} {d : List AV→List NObj→Option AV} {ok : ROk d} (hs : Sound P f (rdS d ok)) {W : World} {hl : HL} {m : Nat} {Ls : Nat→Loc}
  (hv : ∀ k,k < m→∃ sz els,hk hl k = .view 0 sz els∧(∀ c,c ∈ els→datL c = true)∧(∀ ρ,ObjOk ρ (Ls k) (flO (.top k) (.view 0 sz els)) W)∧((Ls k).nil = false→(Ls k).blk < W.heap.size)) (hf : ∀ k,m≤k→hk hl k = .free)
  {avs : List AV} {vs : List Value} {b : Bool} {rd : List Nat} (h : rdF d avs (hk hl) m = some ⟨.bool b,[],rd⟩) (hrep : ∀ ρ : Env,(∀ k,k < m→ρ (.top k) = Ls k)→RepL ρ avs vs) :
  Calls P f vs.toArray W fun e W' => e = .returned (.bool b)∧Below W.heap.size W W':=by
 have hcase : ∀ x : Nm,(∃ k,k < m∧x = .top k)∨getP (hk hl) x = .free:=fun x=>by
  by_cases hr : x.root < m
  ·obtain ⟨sz,els,h1,h2,_⟩:=hv x.root hr
   by_cases hx : x = .top x.root
   ·exact .inl ⟨x.root,hr,hx⟩
   ·exact .inr (below_none (n:=x.root) (fun t j f=>by
     rw[h1]
     exact view_kid (sz:=sz) (w:=els) (fun j c hc=>datL_plain (h2 c (List.mem_of_getElem? hc))) t j f) rfl hx)
  ·exact .inr (getP_free (n:=x.root) (hf _ (by omega)) rfl)
 have h0 : ∀ k,k < m→∃ sz els,hk hl k = .view 0 sz els∧HF (hk hl) (.top k) = flO (.top k) (.view 0 sz els)∧(∀ ρ,ObjOk ρ (Ls k) (flO (.top k) (.view 0 sz els)) W)∧((Ls k).nil = false→(Ls k).blk < W.heap.size):=fun k hk0=>by
  obtain ⟨sz,els,h1,_,h2,h3⟩:=hv k hk0
  refine ⟨sz,els,h1,?_,h2,h3⟩
  unfold HF
  rw[getP,h1]
 have:=hs.calls W noSc (fun ρ=>∀ k,k < m→ρ (.top k) = Ls k) (fun x=>m≤x.mx) (hk hl) W avs vs m _ ⟨fun x=>Ls x.root,fun k _=>rfl⟩ (fun ρ ρ' hρ he k hk0=>by rw[he (.top k) (by simp[Nm.mx];omega)];exact hρ k hk0) (fun x hx=>by
   rcases hcase x with ⟨k,hk0,rfl⟩ | e
   ·simp only[Nm.mx]at hx;omega
   ·exact HF_free.2 e) (fun ρ ρ' h1 h2 x hx=>by
   rcases hcase x with ⟨k,hk0,rfl⟩ | e
   ·rw[h1 k hk0,h2 k hk0]
   ·exact absurd (HF_free.2 e) hx)
  (fun ρ hρ=>⟨rfl,rfl,rfl,Nat.le_refl _,fun _ _ _=>rfl,fun x=>by
    rcases hcase x with ⟨k,hk0,rfl⟩ | e
    ·obtain ⟨sz,els,g1,g2,g3,g4⟩:=h0 k hk0
     rw[g2,hρ k hk0];exact g3 ρ
    ·rw[HF_free.2 e];trivial,fun x hx=>by
    rcases hcase x with ⟨k,hk0,rfl⟩ | e
    ·obtain ⟨sz,els,g1,g2,g3,g4⟩:=h0 k hk0
     rw[g2]at hx;exact hx.elim
    ·rw[HF_free.2 e]at hx;exact hx.elim,fun x y hx=>by
    rcases hcase x with ⟨k,hk0,rfl⟩ | e
    ·obtain ⟨sz,els,g1,g2,g3,g4⟩:=h0 k hk0
     rw[g2]at hx;exact hx.elim
    ·rw[HF_free.2 e]at hx;exact hx.elim,fun x hx=>by
    rcases hcase x with ⟨k,hk0,rfl⟩ | e
    ·obtain ⟨sz,els,g1,g2,g3,g4⟩:=h0 k hk0
     rw[g2,hρ k hk0]at hx
     rw[hρ k hk0]
     exact ⟨g4 hx,fun h=>h⟩
    ·rw[HF_free.2 e]at hx;exact hx.elim,fun x hx=>absurd hx (Nat.not_lt_zero x)⟩) (fun ρ hρ=>hrep ρ hρ) h (fun x hx=>hx.1)
 refine this.mono fun e W' ⟨v,g,he,hv'⟩ => ?_
 obtain ⟨q1,q2⟩:=hv' (fun x=>if m≤x.mx then g x else Ls x.root) (fun k hk0=>by rw[if_neg (by simp only[Nm.mx];omega)];rfl) (fun x hx=>by simp[hx.1])
 simp only[Rep]at q1
 subst q1
 exact ⟨he,q2.below⟩
end Go.W
namespace Go.W
open Go.Proofs
set_option linter.unusedSimpArgs false
set_option linter.unusedVariables false
set_option maxHeartbeats 8000000
attribute [local irreducible] Wm
attribute [local simp] nmap lkp mkPl prs prsL prT ddL idL CRenL CRen Ren RenL NObj.none CRenLL
theorem rowK_isB {c : List AV} (h : rowK [true] c) : isB c = true:=by
 obtain ⟨hl,hc⟩:=h
 match c,hl with
 | [c0],_ =>
  obtain ⟨_,_,e1,e2⟩:=hc 0 true rfl
  simp only[leafV,if_true,List.getElem?_cons_succ,List.getElem?_cons_zero,Option.some.injEq]at e1 e2
  subst e1
  obtain ⟨v0,rfl,_⟩:=e2
  rfl
theorem isB_all {els : List (List AV)} (h : ∀ c,c ∈ els→rowK [true] c) : els.all isB = true :=
 List.all_eq_true.2 fun c hc=>rowK_isB (h c hc)
end Go.W
