/- A part of the proofs about the pair's laws (PsR). -/
import Derived.Test.YtidbbnkpglggdaaPsH
import Derived.Test.YtidbbnkpglggdaaPqB
namespace Go.W
open Go.Proofs
set_option linter.unusedSimpArgs false
set_option linter.unusedVariables false
set_option maxHeartbeats 8000000
attribute [local irreducible] Wm
attribute [local simp] nmap lkp mkPl prs prsL prT ddL idL CRenL CRen Ren RenL NObj.none CRenLL
theorem half_ex {v:Int} (h0:0≤v) (h1:v≤9223372036854775807) (j:Nat):0≤v / 2 ^ j∧v / 2 ^ j≤9223372036854775807∧v / 2 ^ (j+1)=v / 2 ^ j / 2:=by
 have hp:(0:Int)<2 ^ j:=Int.pow_pos (by omega)
 refine ⟨Int.ediv_nonneg h0 (by omega),Int.le_trans (Int.ediv_le_self _ h0) h1,?_⟩
 rw[Int.pow_succ,Int.ediv_ediv_of_nonneg (by omega)]
theorem top_ex {v:Int} (h0:0≤v) (b:Nat):(0<v / 2 ^ b)↔2 ^ b - 1<v:=by
 have hp:(0:Int)<2 ^ b:=Int.pow_pos (by omega)
 have:=@Int.le_ediv_iff_mul_le 1 v (2 ^ b) hp
 rw[Int.one_mul]at this
 omega
theorem pow_mono {a b:Nat} (h:a≤b):(2:Int) ^ a≤2 ^ b:=by
 have:2 ^ a≤2 ^ b:=Nat.pow_le_pow_right (by omega) h
 rw[← two_pow_cast,← two_pow_cast];omega
def packR:Option Int→AV
 | some x=>.tup [.int .u64 x,.int .i64 0,.bot]
 | none=>.tup [.int .u64 0,.int .i64 5,.bot]
def d75:List AV→List NObj→Option AV
 | [.sl (.top 0) 0 n,.sl (.top 1) 0 m],[.view 0 1 els,.view 0 1 vs]=>if n=els.length∧m=els.length∧vs.length=els.length∧els.all isWd=true∧els.length≤8∧lowZ els els.length≤64∧vs.all isV=true then some (packR (packK els vs els.length)) else none
 | _,_=>none
def T75 (els vs:List (List AV)) (r:List (Nat×AV)):St:=⟨(0,.sl (.top 0) 0 els.length) :: (1,.sl (.top 1) 0 els.length) :: r,[(0,.view 0 1 els),(1,.view 0 1 vs)],2⟩
def I75 (els vs:List (List AV)) (k:Nat):St:=T75 els vs [(7,.int .i64 k)]
def J75 (els vs:List (List AV)) (k:Nat) (q:Int) (j:Nat):St:=T75 els vs [(7,.int .i64 k),(8,.int .i64 q),(9,.int .i64 j)]
def K75 (els vs:List (List AV)) (x:Int) (i:Nat):St:=T75 els vs [(10,.int .u64 x),(11,.int .i64 (i - 1))]
def L75 (els vs:List (List AV)) (x:Int) (i:Nat) (j:Nat):St:=T75 els vs [(10,.int .u64 x),(11,.int .i64 (i - 1)),(12,.int .i64 j)]
theorem ok75:ROk d75:=by
 intro xs os r h
 unfold d75 at h
 (repeat' (split at h))<;>first|(cases h;done)|(injection h with h;subst h;unfold packR;split<;>simp)
theorem s75:Sound Try.prog 75 (rdS d75 ok75):=by
 refine rd_sound Try.func75 nm75 rc75 rv75 ok75 fun xs os r h vs ρ0 hvs=>⟨xs,?_,fun _ h=>h,fun w0 S hS=>?_⟩
 ·unfold d75 at h
  (repeat' (split at h))<;>first|(cases h;done)|exact Nat.le_of_ble_eq_true rfl
 unfold d75 at h
 split at h
 ·split at h
  ·rename_i n m els vs hcond
   injection h with h
   subst h
   have hE:SoundAll Try.prog (EL []):=EL_sound (by simp)
   obtain ⟨rfl,rfl,hvl,hw,hlen,hlow,hv⟩:=hcond
   have hT:=wd_t0 hw
   have hC:=wd_cl hw
   have hT2:=v_t0 hv
   have hC2:=v_cl hv
   unfold m75
   repeat' with_reducible (first
    | refine ZR.h ?_ | refine zI (by decide) ?_
    | (refine zK hE ?_;intro K hK;simp[KR.ks,q75_0,q75_1,q75_2,q75_3,q75_4,q75_5,q75_6,q75_7,q75_8,q75_9,q75_10,q75_11,q75_12,q75_13,q75_14,q75_15,q75_16,q75_17,q75_18,q75_19,q75_20,q75_21,q75_22,q75_23,q75_24,hvl];(repeat' (first | refine hK _ _ ?_ | refine And.intro ?_ ?_ | (intro hc;try subst hc)))<;>(try clear hK K))
    | (refine zJ (b:=_) (by with_unfolding_all rfl) (fun hc=>?_) (fun hc=>?_)<;>simp at hc<;>(try subst hc)))
   all_goals (refine Wm_loop (fun k=>I75 els vs k) (fun k=>k≤els.length∧∃ x,packK els vs k=some x) (fun k=>els.length - k) 0 ⟨Nat.zero_le _,0,rfl⟩ ?_ ?_)
   ·simp only[I75,J75,K75,L75,T75]
    rw[hS]
    (refine Imp.auto (by kernel_rfl) ?_ ?_<;>simp[NLe,hT,hC,hT2,hC2,hvl])
   ·intro k ⟨hk,x,hx⟩
    simp only[I75,J75,K75,L75,T75]
    by_cases hkn:k<els.length
    ·skip
     have hkv:k<vs.length:=by omega
     obtain ⟨w,hrow,hw1,hw2⟩:=isWd_ex (List.all_eq_true.1 hw _ (List.getElem_mem hkn))
     have hrow2:els[k]?=some [.int .i64 w]:=by rw[List.getElem?_eq_getElem hkn,hrow]
     obtain ⟨v,hvr,hv1,hv2⟩:=isV_ex (List.all_eq_true.1 hv _ (List.getElem_mem hkv))
     have hvr2:vs[k]?=some [.int .i64 v]:=by rw[List.getElem?_eq_getElem hkv,hvr]
     have hcw:cellI (els.getD k [])=w:=by rw[List.getD_eq_getElem?_getD,hrow2];rfl
     have hcv:cellI (vs.getD k [])=v:=by rw[List.getD_eq_getElem?_getD,hvr2];rfl
     have hsucc:=lowZ_succ hrow2
     have hb:=low_in hw k (by omega)
     have hle:=lowZ_le hw (show k+1≤els.length by omega) (Nat.le_refl _)
     obtain ⟨b,rfl⟩:∃ b:Nat,w=(b:Int):=⟨w.toNat,by omega⟩
     obtain ⟨lo,hlo⟩:∃ lo:Nat,lowZ els k=(lo:Int):=⟨(lowZ els k).toNat,by omega⟩
     obtain ⟨hp1,hp2⟩:=pow_le (b:=b) (by omega)
     have hkI:(k:Int)<(els.length:Int):=by omega
     have hpk:packK els vs (k+1)=if v<0 then none else if 2 ^ b - 1<v then none else some (x+v*2 ^ lo):=by
      simp only[packK,hx,hcw,hcv,hlo,Int.toNat_natCast]
     have w1:IntKind.wrap .i64 ((k:Int)+1)=(k:Int)+1:=wrap_in (by omega) (by omega)
     by_cases h1:v<0
     ·rw[if_pos h1]at hpk
      have hnone:packK els vs els.length=none:=by
       have:=packK_none hpk (els.length - (k+1))
       rwa [show k+1+(els.length - (k+1))=els.length from by omega]at this
      repeat' with_reducible (first
       | refine ZR.h ?_ | refine zI (by decide) ?_
       | (refine zK hE ?_;intro K hK;simp[KR.ks,q75_0,q75_1,q75_2,q75_3,q75_4,q75_5,q75_6,q75_7,q75_8,q75_9,q75_10,q75_11,q75_12,q75_13,q75_14,q75_15,q75_16,q75_17,q75_18,q75_19,q75_20,q75_21,q75_22,q75_23,q75_24,hkn,hkv,hkI,hvl,hvr,hvr2,h1];(repeat' (first | refine hK _ _ ?_ | refine And.intro ?_ ?_ | (intro hc;try subst hc)))<;>(try clear hK K))
       | (refine zJ (b:=_) (by with_unfolding_all rfl) (fun hc=>?_) (fun hc=>?_)<;>simp at hc<;>(try subst hc)))
      all_goals first|(simp;done)|((try simp[hnone,packR]);refine Imp.auto (by kernel_rfl) ?_ ?_<;>simp[NLe,hnone,packR])
     ·rw[if_neg h1]at hpk
      have hv0:0≤v:=by omega
      repeat' with_reducible (first
       | refine ZR.h ?_ | refine zI (by decide) ?_
       | (refine zK hE ?_;intro K hK;simp[KR.ks,q75_0,q75_1,q75_2,q75_3,q75_4,q75_5,q75_6,q75_7,q75_8,q75_9,q75_10,q75_11,q75_12,q75_13,q75_14,q75_15,q75_16,q75_17,q75_18,q75_19,q75_20,q75_21,q75_22,q75_23,q75_24,hkn,hkv,hkI,hvl,hvr,hvr2,h1];(repeat' (first | refine hK _ _ ?_ | refine And.intro ?_ ?_ | (intro hc;try subst hc)))<;>(try clear hK K))
       | (refine zJ (b:=_) (by with_unfolding_all rfl) (fun hc=>?_) (fun hc=>?_)<;>simp at hc<;>(try subst hc)))
      all_goals (refine Wm_loop (fun (y:Int×Nat)=>J75 els vs k y.1 y.2) (fun y=>y.2≤b∧y.1=v / 2 ^ y.2) (fun y=>b - y.2) (v,0) ⟨Nat.zero_le _,by simp⟩ ?_ ?_)
      ·simp only[I75,J75,K75,L75,T75]
       rw[hS]
       (refine Imp.auto (by kernel_rfl) ?_ ?_<;>simp[NLe,hT,hC,hT2,hC2,hvl])
      ·intro ⟨q,j⟩ ⟨hj,hq⟩
       replace hj:j≤b:=hj
       replace hq:q=v / 2 ^ j:=hq
       obtain ⟨hq0,hq1,hqn⟩:=half_ex hv0 hv2 j
       rw[← hq]at hq0 hq1 hqn
       simp only[I75,J75,K75,L75,T75]
       by_cases hjb:j<b
       ·have hjI:(j:Int)<(b:Int):=by omega
        have w2:IntKind.wrap .i64 (q.tdiv 2)=q / 2:=by
         rw[Int.tdiv_eq_ediv_of_nonneg hq0];exact wrap_in (by omega) (by omega)
        have w3:IntKind.wrap .i64 ((j:Int)+1)=(j:Int)+1:=wrap_in (by omega) (by omega)
        repeat' with_reducible (first
         | refine ZR.h ?_ | refine zI (by decide) ?_
         | (refine zK hE ?_;intro K hK;simp[KR.ks,q75_0,q75_1,q75_2,q75_3,q75_4,q75_5,q75_6,q75_7,q75_8,q75_9,q75_10,q75_11,q75_12,q75_13,q75_14,q75_15,q75_16,q75_17,q75_18,q75_19,q75_20,q75_21,q75_22,q75_23,q75_24,hkn,hkv,hkI,hvl,hrow,hrow2,hjI,w2,w3];(repeat' (first | refine hK _ _ ?_ | refine And.intro ?_ ?_ | (intro hc;try subst hc)))<;>(try clear hK K))
         | (refine zJ (b:=_) (by with_unfolding_all rfl) (fun hc=>?_) (fun hc=>?_)<;>simp at hc<;>(try subst hc)))
        all_goals refine ⟨(q / 2,j+1),⟨hjb,hqn.symm⟩,Nat.sub_lt_sub_left hjb (Nat.lt_succ_self j),?_⟩
        all_goals simp only[I75,J75,K75,L75,T75]
        all_goals rw[hS]
        all_goals (refine Imp.auto (by kernel_rfl) ?_ ?_<;>simp[NLe,hT,hC,hT2,hC2,hvl])
       ·have hjI:¬ (j:Int)<(b:Int):=by omega
        have hje:j=b:=by omega
        subst hje
        have htop:=top_ex hv0 j
        rw[← hq]at htop
        by_cases h2:2 ^ j - 1<v
        ·rw[if_pos h2]at hpk
         have hq2:=htop.2 h2
         have hnone:packK els vs els.length=none:=by
          have:=packK_none hpk (els.length - (k+1))
          rwa [show k+1+(els.length - (k+1))=els.length from by omega]at this
         repeat' with_reducible (first
          | refine ZR.h ?_ | refine zI (by decide) ?_
          | (refine zK hE ?_;intro K hK;simp[KR.ks,q75_0,q75_1,q75_2,q75_3,q75_4,q75_5,q75_6,q75_7,q75_8,q75_9,q75_10,q75_11,q75_12,q75_13,q75_14,q75_15,q75_16,q75_17,q75_18,q75_19,q75_20,q75_21,q75_22,q75_23,q75_24,hkn,hkv,hkI,hvl,hrow,hrow2,hjI,hq2];(repeat' (first | refine hK _ _ ?_ | refine And.intro ?_ ?_ | (intro hc;try subst hc)))<;>(try clear hK K))
          | (refine zJ (b:=_) (by with_unfolding_all rfl) (fun hc=>?_) (fun hc=>?_)<;>simp at hc<;>(try subst hc)))
         all_goals first|(simp;done)|((try simp[hnone,packR]);refine Imp.auto (by kernel_rfl) ?_ ?_<;>simp[NLe,hnone,packR])
        ·rw[if_neg h2]at hpk
         have hq2:¬ 0<q:=fun h=>h2 (htop.1 h)
         repeat' with_reducible (first
          | refine ZR.h ?_ | refine zI (by decide) ?_
          | (refine zK hE ?_;intro K hK;simp[KR.ks,q75_0,q75_1,q75_2,q75_3,q75_4,q75_5,q75_6,q75_7,q75_8,q75_9,q75_10,q75_11,q75_12,q75_13,q75_14,q75_15,q75_16,q75_17,q75_18,q75_19,q75_20,q75_21,q75_22,q75_23,q75_24,hkn,hkv,hkI,hvl,hrow,hrow2,hjI,hq2,w1];(repeat' (first | refine hK _ _ ?_ | refine And.intro ?_ ?_ | (intro hc;try subst hc)))<;>(try clear hK K))
          | (refine zJ (b:=_) (by with_unfolding_all rfl) (fun hc=>?_) (fun hc=>?_)<;>simp at hc<;>(try subst hc)))
         all_goals refine ⟨k+1,⟨hkn,_,hpk⟩,Nat.sub_lt_sub_left hkn (Nat.lt_succ_self k),?_⟩
         all_goals simp only[I75,J75,K75,L75,T75]
         all_goals rw[hS]
         all_goals (refine Imp.auto (by kernel_rfl) ?_ ?_<;>simp[NLe,hT,hC,hT2,hC2,hvl])
    ·have hke:k=els.length:=by omega
     subst hke
     have w4:IntKind.wrap .i64 ((els.length:Int) - 1)=(els.length:Int) - 1:=wrap_in (by omega) (by omega)
     obtain ⟨hX0,hX1⟩:=packK_in hw els.length x (Nat.le_refl _) hx
     have hln:=low_in hw els.length (Nat.le_refl _)
     have hX2:x<18446744073709551616:=by
      have:=pow_mono (a:=(lowZ els els.length).toNat) (b:=64) (by omega)
      omega
     repeat' with_reducible (first
      | refine ZR.h ?_ | refine zI (by decide) ?_
      | (refine zK hE ?_;intro K hK;simp[KR.ks,q75_0,q75_1,q75_2,q75_3,q75_4,q75_5,q75_6,q75_7,q75_8,q75_9,q75_10,q75_11,q75_12,q75_13,q75_14,q75_15,q75_16,q75_17,q75_18,q75_19,q75_20,q75_21,q75_22,q75_23,q75_24,hvl,w4];(repeat' (first | refine hK _ _ ?_ | refine And.intro ?_ ?_ | (intro hc;try subst hc)))<;>(try clear hK K))
      | (refine zJ (b:=_) (by with_unfolding_all rfl) (fun hc=>?_) (fun hc=>?_)<;>simp at hc<;>(try subst hc)))
     all_goals (refine Wm_loop (fun (y:Int×Nat)=>K75 els vs y.1 y.2) (fun y=>y.2≤els.length∧0≤y.1∧∃ z,packK els vs y.2=some z∧z+y.1*2 ^ (lowZ els y.2).toNat=x) (fun y=>y.2) (0,els.length) ⟨Nat.le_refl _,Int.le_refl _,x,hx,by simp⟩ ?_ ?_)
     ·simp only[I75,J75,K75,L75,T75]
      rw[hS]
      (refine Imp.auto (by kernel_rfl) ?_ ?_<;>simp[NLe,hT,hC,hT2,hC2,hvl])
     ·intro ⟨W,i⟩ ⟨hi,hW0,z,hz,hzW⟩
      replace hi:i≤els.length:=hi
      replace hW0:0≤W:=hW0
      replace hz:packK els vs i=some z:=hz
      replace hzW:z+W*2 ^ (lowZ els i).toNat=x:=hzW
      simp only[I75,J75,K75,L75,T75]
      by_cases hi0:0<i
      ·obtain ⟨k,rfl⟩:∃ k,i=k+1:=⟨i - 1,by omega⟩
       have hkn:k<els.length:=by omega
       have hkv:k<vs.length:=by omega
       obtain ⟨w,hrow,hw1,hw2⟩:=isWd_ex (List.all_eq_true.1 hw _ (List.getElem_mem hkn))
       have hrow2:els[k]?=some [.int .i64 w]:=by rw[List.getElem?_eq_getElem hkn,hrow]
       obtain ⟨v,hvr,hv1,hv2⟩:=isV_ex (List.all_eq_true.1 hv _ (List.getElem_mem hkv))
       have hvr2:vs[k]?=some [.int .i64 v]:=by rw[List.getElem?_eq_getElem hkv,hvr]
       have hcw:cellI (els.getD k [])=w:=by rw[List.getD_eq_getElem?_getD,hrow2];rfl
       have hcv:cellI (vs.getD k [])=v:=by rw[List.getD_eq_getElem?_getD,hvr2];rfl
       have hsucc:=lowZ_succ hrow2
       have hb:=low_in hw k (by omega)
       have hle:=lowZ_le hw (show k+1≤els.length by omega) (Nat.le_refl _)
       obtain ⟨b,rfl⟩:∃ b:Nat,w=(b:Int):=⟨w.toNat,by omega⟩
       obtain ⟨lo,hlo⟩:∃ lo:Nat,lowZ els k=(lo:Int):=⟨(lowZ els k).toNat,by omega⟩
       obtain ⟨hp1,hp2⟩:=pow_le (b:=b) (by omega)
       have hkI:(k:Int)<(els.length:Int):=by omega
       have hge:(0:Int)≤(((k+1:Nat):Int) - 1):=by omega
       have hsub:(((k+1:Nat):Int) - 1)=(k:Int):=by omega
       have hpk:=hz
       simp only[packK]at hpk
       cases hz2:packK els vs k with
       | none=>rw[hz2]at hpk;cases hpk
       | some z2 =>
        rw[hz2]at hpk
        simp only[hcw,hcv,hlo,Int.toNat_natCast]at hpk
        by_cases h1:v<0
        ·rw[if_pos h1]at hpk;cases hpk
        ·rw[if_neg h1]at hpk
         by_cases h2:2 ^ b - 1<v
         ·rw[if_pos h2]at hpk;cases hpk
         ·rw[if_neg h2]at hpk
          injection hpk with hpk
          rw[hsucc,hlo,show ((lo:Int)+(b:Int)).toNat=lo+b from by omega,Int.pow_add]at hzW
          have hnew:z2+(W*2 ^ b+v)*2 ^ lo=x:=by
           rw[Int.add_mul,Int.mul_assoc,Int.mul_comm (2 ^ b:Int)];omega
          have hlop:(1:Int)≤2 ^ lo:=by have:(0:Int)<2 ^ lo:=Int.pow_pos (by omega);omega
          obtain ⟨hz20,_⟩:=packK_in hw k z2 (by omega) hz2
          have hWb:0≤W*2 ^ b:=Int.mul_nonneg hW0 (by omega)
          have hle2:W*2 ^ b+v≤x:=by
           have:(W*2 ^ b+v)*1≤(W*2 ^ b+v)*2 ^ lo:=Int.mul_le_mul_of_nonneg_left hlop (by omega)
           omega
          have hwv:IntKind.wrap .u64 v=v:=u64_wrap (by omega) (by omega)
          have hws:IntKind.wrap .u64 (W*2 ^ b+v)=W*2 ^ b+v:=u64_wrap (by omega) (by omega)
          repeat' with_reducible (first
           | refine ZR.h ?_ | refine zI (by decide) ?_
           | (refine zK hE ?_;intro K hK;simp[KR.ks,q75_0,q75_1,q75_2,q75_3,q75_4,q75_5,q75_6,q75_7,q75_8,q75_9,q75_10,q75_11,q75_12,q75_13,q75_14,q75_15,q75_16,q75_17,q75_18,q75_19,q75_20,q75_21,q75_22,q75_23,q75_24,hkn,hvl,hge,hsub];(repeat' (first | refine hK _ _ ?_ | refine And.intro ?_ ?_ | (intro hc;try subst hc)))<;>(try clear hK K))
           | (refine zJ (b:=_) (by with_unfolding_all rfl) (fun hc=>?_) (fun hc=>?_)<;>simp at hc<;>(try subst hc)))
          all_goals (refine Wm_loop (fun (y:Int×Nat)=>L75 els vs y.1 (k+1) y.2) (fun y=>y.2≤b∧y.1=W*2 ^ y.2) (fun y=>b - y.2) (W,0) ⟨Nat.zero_le _,by simp⟩ ?_ ?_)
          ·simp only[I75,J75,K75,L75,T75]
           rw[hS]
           (refine Imp.auto (by kernel_rfl) ?_ ?_<;>simp[NLe,hT,hC,hT2,hC2,hvl,hsub])
          ·intro ⟨q,j⟩ ⟨hj,hq⟩
           replace hj:j≤b:=hj
           replace hq:q=W*2 ^ j:=hq
           simp only[I75,J75,K75,L75,T75]
           by_cases hjb:j<b
           ·have hjI:(j:Int)<(b:Int):=by omega
            have hq2:q*2=W*2 ^ (j+1):=by rw[hq,Int.pow_succ,Int.mul_assoc]
            have hq3:W*2 ^ (j+1)≤W*2 ^ b:=Int.mul_le_mul_of_nonneg_left (pow_mono hjb) hW0
            have hq0:0≤q:=by rw[hq];exact Int.mul_nonneg hW0 (Int.le_of_lt (Int.pow_pos (by omega)))
            have w2:IntKind.wrap .u64 (q*2)=q*2:=u64_wrap (by omega) (by omega)
            have w3:IntKind.wrap .i64 ((j:Int)+1)=(j:Int)+1:=wrap_in (by omega) (by omega)
            repeat' with_reducible (first
             | refine ZR.h ?_ | refine zI (by decide) ?_
             | (refine zK hE ?_;intro K hK;simp[KR.ks,q75_0,q75_1,q75_2,q75_3,q75_4,q75_5,q75_6,q75_7,q75_8,q75_9,q75_10,q75_11,q75_12,q75_13,q75_14,q75_15,q75_16,q75_17,q75_18,q75_19,q75_20,q75_21,q75_22,q75_23,q75_24,hkn,hkv,hkI,hvl,hrow,hrow2,hjI,w2,w3,hsub];(repeat' (first | refine hK _ _ ?_ | refine And.intro ?_ ?_ | (intro hc;try subst hc)))<;>(try clear hK K))
             | (refine zJ (b:=_) (by with_unfolding_all rfl) (fun hc=>?_) (fun hc=>?_)<;>simp at hc<;>(try subst hc)))
            all_goals refine ⟨(q*2,j+1),⟨hjb,hq2⟩,Nat.sub_lt_sub_left hjb (Nat.lt_succ_self j),?_⟩
            all_goals simp only[I75,J75,K75,L75,T75]
            all_goals rw[hS]
            all_goals (refine Imp.auto (by kernel_rfl) ?_ ?_<;>simp[NLe,hT,hC,hT2,hC2,hvl,hsub])
           ·have hjI:¬ (j:Int)<(b:Int):=by omega
            have hje:j=b:=by omega
            subst hje
            have hqv:IntKind.wrap .u64 (q+v)=q+v:=by rw[hq];exact hws
            have w5:IntKind.wrap .i64 ((k:Int) - 1)=(k:Int) - 1:=wrap_in (by omega) (by omega)
            repeat' with_reducible (first
             | refine ZR.h ?_ | refine zI (by decide) ?_
             | (refine zK hE ?_;intro K hK;simp[KR.ks,q75_0,q75_1,q75_2,q75_3,q75_4,q75_5,q75_6,q75_7,q75_8,q75_9,q75_10,q75_11,q75_12,q75_13,q75_14,q75_15,q75_16,q75_17,q75_18,q75_19,q75_20,q75_21,q75_22,q75_23,q75_24,hkn,hkv,hkI,hvl,hrow,hrow2,hvr,hvr2,hjI,hsub,hwv,hqv,w5];(repeat' (first | refine hK _ _ ?_ | refine And.intro ?_ ?_ | (intro hc;try subst hc)))<;>(try clear hK K))
             | (refine zJ (b:=_) (by with_unfolding_all rfl) (fun hc=>?_) (fun hc=>?_)<;>simp at hc<;>(try subst hc)))
            all_goals refine ⟨(q+v,k),⟨Nat.le_of_lt hkn,by rw[hq];show 0≤W*2 ^ j+v;omega,z2,hz2,by rw[hq,hlo];exact hnew⟩,Nat.lt_succ_self k,?_⟩
            all_goals simp only[I75,J75,K75,L75,T75]
            all_goals rw[hS]
            all_goals (refine Imp.auto (by kernel_rfl) ?_ ?_<;>simp[NLe,hT,hC,hT2,hC2,hvl])
      ·have hi0:i=0:=by omega
       subst hi0
       have hWx:W=x:=by
        simp only[packK,Option.some.injEq]at hz
        subst hz
        simp[lowZ]at hzW
        exact hzW
       subst hWx
       repeat' with_reducible (first
        | refine ZR.h ?_ | refine zI (by decide) ?_
        | (refine zK hE ?_;intro K hK;simp[KR.ks,q75_0,q75_1,q75_2,q75_3,q75_4,q75_5,q75_6,q75_7,q75_8,q75_9,q75_10,q75_11,q75_12,q75_13,q75_14,q75_15,q75_16,q75_17,q75_18,q75_19,q75_20,q75_21,q75_22,q75_23,q75_24,hvl];(repeat' (first | refine hK _ _ ?_ | refine And.intro ?_ ?_ | (intro hc;try subst hc)))<;>(try clear hK K))
        | (refine zJ (b:=_) (by with_unfolding_all rfl) (fun hc=>?_) (fun hc=>?_)<;>simp at hc<;>(try subst hc)))
       all_goals first|(simp;done)|((try simp[hx,packR]);refine Imp.auto (by kernel_rfl) ?_ ?_<;>simp[NLe,hx,packR])
  ·cases h
 ·cases h
end Go.W

