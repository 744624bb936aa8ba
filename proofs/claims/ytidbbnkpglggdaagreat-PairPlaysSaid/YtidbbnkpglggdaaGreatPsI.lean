/- A part of the proofs about the pair's laws (PsR, PsI). -/
import Derived.Test.YtidbbnkpglggdaaGreatPsH
import Derived.Test.YtidbbnkpglggdaaGreatPqB
namespace Go.W
open Go.Proofs
set_option linter.unusedSimpArgs false
set_option linter.unusedVariables false
set_option maxHeartbeats 8000000
attribute [local irreducible] Wm
attribute [local simp] Y5 lkp VW prs Uv prT ddL idL YN Um Ren Vt NObj.none Z4
theorem Zg0 {v:Int} (h0:0≤v) (h1:v≤9223372036854775807) (j:Nat):0≤v / 2 ^ j∧v / 2 ^ j≤9223372036854775807∧v / 2 ^ (j+1)=v / 2 ^ j / 2:=by
 have hp:(0:Int)<2 ^ j:=Int.pow_pos (by omega);refine ⟨Int.ediv_nonneg h0 (by omega),Int.le_trans (Int.ediv_le_self _ h0) h1,?_⟩;rw[Int.pow_succ,Int.ediv_ediv_of_nonneg (by omega)]
theorem Zil {v:Int} (h0:0≤v) (b:Nat):(0<v / 2 ^ b)↔2 ^ b - 1<v:=by
 have hp:(0:Int)<2 ^ b:=Int.pow_pos (by omega);have:=@Int.le_ediv_iff_mul_le 1 v (2 ^ b) hp;rw[Int.one_mul]at this;omega
theorem ZaP {a b:Nat} (h:a≤b):(2:Int) ^ a≤2 ^ b:=by
 have:2 ^ a≤2 ^ b:=Nat.pow_le_pow_right (by omega) h;rw[← Ys,← Ys];omega
def U0:Option Int→AV
 | some x=>.tup [.int .u64 x,.int .i64 0,.bot]
 | none=>.tup [.int .u64 0,.int .i64 5,.bot]
def d74:List AV→List NObj→Option AV
 | [.sl (.top 0) 0 n,.sl (.top 1) 0 m],[.view 0 1 els,.view 0 1 vs]=>if n=els.length∧m=els.length∧vs.length=els.length∧els.all VU=true∧els.length≤8∧YS els els.length≤64∧vs.all isV=true then some (U0 (Yf els vs els.length)) else none
 | _,_=>none
def T75 (els vs:List (List AV)) (r:List (Nat×AV)):St:=⟨(0,.sl (.top 0) 0 els.length) :: (1,.sl (.top 1) 0 els.length) :: r,[(0,.view 0 1 els),(1,.view 0 1 vs)],2⟩
def I75 (els vs:List (List AV)) (k:Nat):St:=T75 els vs [(7,.int .i64 k)]
def J75 (els vs:List (List AV)) (k:Nat) (q:Int) (j:Nat):St:=T75 els vs [(7,.int .i64 k),(8,.int .i64 q),(9,.int .i64 j)]
def K75 (els vs:List (List AV)) (x:Int) (i:Nat):St:=T75 els vs [(10,.int .u64 x),(11,.int .i64 (i - 1))]
def L75 (els vs:List (List AV)) (x:Int) (i:Nat) (j:Nat):St:=T75 els vs [(10,.int .u64 x),(11,.int .i64 (i - 1)),(12,.int .i64 j)]
theorem ok74:ROk d74:=by
 intro xs os r h;unfold d74 at h
 (repeat' (split at h))<;>first|(cases h;done)|(injection h with h;subst h;unfold U0;split<;>simp)
theorem s74:Sound Tryz.prog 74 (rdS d74 ok74):=by
 refine Zo C74.a C74.b C74.c C74.d ok74 fun xs os r h vs ρ0 hvs=>⟨xs,?_,fun _ h=>h,fun w0 S hS=>?_⟩
 ·unfold d74 at h
  (repeat' (split at h))<;>first|(cases h;done)|exact Nat.le_of_ble_eq_true rfl
 unfold d74 at h;split at h
 ·split at h
  ·rename_i n m els vs hcond
   injection h with h;subst h;have hE:Zb Tryz.prog (EL []):=Zd (by simp);obtain ⟨rfl,rfl,hvl,hw,hlen,hlow,hv⟩:=hcond;have hT:=xh hw;have hC:=vc hw;have hT2:=v_t0 hv;have hC2:=v_cl hv;unfold m74
   repeat' with_reducible (first|refine ZR.h ?_|refine zI ?_|(refine zK hE ?_;intro K hK;simp[hvl];(repeat' (first|refine hK _ _ ?_|apply And.intro|(intro hc;try subst hc)))<;>(try clear hK K))|(refine zJ (fun hc=>?_) (fun hc=>?_)<;>simp at hc<;>(try subst hc)))
   all_goals (refine YJ (fun k=>I75 els vs k) (fun k=>k≤els.length∧∃ x,Yf els vs k=some x) (fun k=>els.length - k) 0 ⟨Nat.zero_le _,0,rfl⟩ ?_ ?_)
   ·simp only[I75,J75,K75,L75,T75]
    rw[hS]
    (refine Imp.aut ?_ ?_<;>simp[NLe,hT,hC,hT2,hC2,hvl])
   ·intro k ⟨hk,x,hx⟩
    simp only[I75,J75,K75,L75,T75];by_cases hkn:k<els.length
    ·skip
     have hkv:k<vs.length:=(by omega);obtain ⟨w,hrow,hw1,hw2⟩:=Xi (List.all_eq_true.1 hw _ (List.getElem_mem hkn));have hrow2:els[k]?=some [.int .i64 w]:=(by rw[List.getElem?_eq_getElem hkn,hrow]);obtain ⟨v,hvr,hv1,hv2⟩:=xx (List.all_eq_true.1 hv _ (List.getElem_mem hkv));have hvr2:vs[k]?=some [.int .i64 v]:=(by rw[List.getElem?_eq_getElem hkv,hvr]);have hcw:ZI (els.getD k [])=w:=(by rw[List.getD_eq_getElem?_getD,hrow2];rfl);have hcv:ZI (vs.getD k [])=v:=(by rw[List.getD_eq_getElem?_getD,hvr2];rfl);have hsucc:=Xy hrow2;have hb:=UX hw k (by omega);have hle:=yO hw (show k+1≤els.length by omega) (Nat.le_refl _);obtain ⟨b,rfl⟩:∃ b:Nat,w=(b:Int):=⟨w.toNat,by omega⟩;obtain ⟨lo,hlo⟩:∃ lo:Nat,YS els k=(lo:Int):=⟨(YS els k).toNat,by omega⟩;obtain ⟨hp1,hp2⟩:=va (b:=b) (by omega);have hkI:(k:Int)<(els.length:Int):=(by omega);have hpk:Yf els vs (k+1)=if v<0 then none else if 2 ^ b - 1<v then none else some (x+v*2 ^ lo):=by
      simp only[Yf,hx,hcw,hcv,hlo,Int.toNat_natCast]
     have w1:IntKind.wrap .i64 ((k:Int)+1)=(k:Int)+1:=Zh (by omega) (by omega);by_cases h1:v<0
     ·rw[if_pos h1]at hpk
      have hnone:Yf els vs els.length=none:=by
       have:=Vj hpk (els.length - (k+1))
       rwa [show k+1+(els.length - (k+1))=els.length from by omega]at this
      repeat' with_reducible (first|refine ZR.h ?_|refine zI ?_|(refine zK hE ?_;intro K hK;simp[hkn,hkv,hkI,hvl,hvr,hvr2,h1];(repeat' (first|refine hK _ _ ?_|apply And.intro|(intro hc;try subst hc)))<;>(try clear hK K))|(refine zJ (fun hc=>?_) (fun hc=>?_)<;>simp at hc<;>(try subst hc)))
      all_goals first|(simp;done)|((try simp[hnone,U0]);refine Imp.aut ?_ ?_<;>simp[NLe,hnone,U0])
     ·rw[if_neg h1]at hpk
      have hv0:0≤v:=by omega
      repeat' with_reducible (first|refine ZR.h ?_|refine zI ?_|(refine zK hE ?_;intro K hK;simp[hkn,hkv,hkI,hvl,hvr,hvr2,h1];(repeat' (first|refine hK _ _ ?_|apply And.intro|(intro hc;try subst hc)))<;>(try clear hK K))|(refine zJ (fun hc=>?_) (fun hc=>?_)<;>simp at hc<;>(try subst hc)))
      all_goals (refine YJ (fun (y:Int×Nat)=>J75 els vs k y.1 y.2) (fun y=>y.2≤b∧y.1=v / 2 ^ y.2) (fun y=>b - y.2) (v,0) ⟨Nat.zero_le _,by simp⟩ ?_ ?_)
      ·simp only[I75,J75,K75,L75,T75]
       rw[hS]
       (refine Imp.aut ?_ ?_<;>simp[NLe,hT,hC,hT2,hC2,hvl])
      ·intro ⟨q,j⟩ ⟨hj,hq⟩
       replace hj:j≤b:=hj;replace hq:q=v / 2 ^ j:=hq;obtain ⟨hq0,hq1,hqn⟩:=Zg0 hv0 hv2 j;rw[← hq]at hq0 hq1 hqn;simp only[I75,J75,K75,L75,T75];by_cases hjb:j<b
       ·have hjI:(j:Int)<(b:Int):=by omega
        have w2:IntKind.wrap .i64 (q.tdiv 2)=q / 2:=by
         rw[Int.tdiv_eq_ediv_of_nonneg hq0];exact Zh (by omega) (by omega)
        have w3:IntKind.wrap .i64 ((j:Int)+1)=(j:Int)+1:=Zh (by omega) (by omega)
        repeat' with_reducible (first|refine ZR.h ?_|refine zI ?_|(refine zK hE ?_;intro K hK;simp[hkn,hkv,hkI,hvl,hrow,hrow2,hjI,w2,w3];(repeat' (first|refine hK _ _ ?_|apply And.intro|(intro hc;try subst hc)))<;>(try clear hK K))|(refine zJ (fun hc=>?_) (fun hc=>?_)<;>simp at hc<;>(try subst hc)))
        all_goals refine ⟨(q / 2,j+1),⟨hjb,hqn.symm⟩,Nat.sub_lt_sub_left hjb (Nat.lt_succ_self j),?_⟩
        all_goals simp only[I75,J75,K75,L75,T75]
        all_goals rw[hS]
        all_goals (refine Imp.aut ?_ ?_<;>simp[NLe,hT,hC,hT2,hC2,hvl])
       ·have hjI:¬ (j:Int)<(b:Int):=by omega
        have hje:j=b:=(by omega);subst hje;have htop:=Zil hv0 j;rw[← hq]at htop;by_cases h2:2 ^ j - 1<v
        ·rw[if_pos h2]at hpk
         have hq2:=htop.2 h2;have hnone:Yf els vs els.length=none:=by
          have:=Vj hpk (els.length - (k+1))
          rwa [show k+1+(els.length - (k+1))=els.length from by omega]at this
         repeat' with_reducible (first|refine ZR.h ?_|refine zI ?_|(refine zK hE ?_;intro K hK;simp[hkn,hkv,hkI,hvl,hrow,hrow2,hjI,hq2];(repeat' (first|refine hK _ _ ?_|apply And.intro|(intro hc;try subst hc)))<;>(try clear hK K))|(refine zJ (fun hc=>?_) (fun hc=>?_)<;>simp at hc<;>(try subst hc)))
         all_goals first|(simp;done)|((try simp[hnone,U0]);refine Imp.aut ?_ ?_<;>simp[NLe,hnone,U0])
        ·rw[if_neg h2]at hpk
         have hq2:¬ 0<q:=fun h=>h2 (htop.1 h)
         repeat' with_reducible (first|refine ZR.h ?_|refine zI ?_|(refine zK hE ?_;intro K hK;simp[hkn,hkv,hkI,hvl,hrow,hrow2,hjI,hq2,w1];(repeat' (first|refine hK _ _ ?_|apply And.intro|(intro hc;try subst hc)))<;>(try clear hK K))|(refine zJ (fun hc=>?_) (fun hc=>?_)<;>simp at hc<;>(try subst hc)))
         all_goals refine ⟨k+1,⟨hkn,_,hpk⟩,Nat.sub_lt_sub_left hkn (Nat.lt_succ_self k),?_⟩
         all_goals simp only[I75,J75,K75,L75,T75]
         all_goals rw[hS]
         all_goals (refine Imp.aut ?_ ?_<;>simp[NLe,hT,hC,hT2,hC2,hvl])
    ·have hke:k=els.length:=by omega
     subst hke;have w4:IntKind.wrap .i64 ((els.length:Int) - 1)=(els.length:Int) - 1:=Zh (by omega) (by omega);obtain ⟨hX0,hX1⟩:=X2 hw els.length x (Nat.le_refl _) hx;have hln:=UX hw els.length (Nat.le_refl _);have hX2:x<18446744073709551616:=by
      have:=ZaP (a:=(YS els els.length).toNat) (b:=64) (by omega);omega
     repeat' with_reducible (first|refine ZR.h ?_|refine zI ?_|(refine zK hE ?_;intro K hK;simp[hvl,w4];(repeat' (first|refine hK _ _ ?_|apply And.intro|(intro hc;try subst hc)))<;>(try clear hK K))|(refine zJ (fun hc=>?_) (fun hc=>?_)<;>simp at hc<;>(try subst hc)))
     all_goals (refine YJ (fun (y:Int×Nat)=>K75 els vs y.1 y.2) (fun y=>y.2≤els.length∧0≤y.1∧∃ z,Yf els vs y.2=some z∧z+y.1*2 ^ (YS els y.2).toNat=x) (fun y=>y.2) (0,els.length) ⟨Nat.le_refl _,Int.le_refl _,x,hx,by simp⟩ ?_ ?_)
     ·simp only[I75,J75,K75,L75,T75]
      rw[hS]
      (refine Imp.aut ?_ ?_<;>simp[NLe,hT,hC,hT2,hC2,hvl])
     ·intro ⟨W,i⟩ ⟨hi,hW0,z,hz,hzW⟩
      replace hi:i≤els.length:=hi;replace hW0:0≤W:=hW0;replace hz:Yf els vs i=some z:=hz;replace hzW:z+W*2 ^ (YS els i).toNat=x:=hzW;simp only[I75,J75,K75,L75,T75];by_cases hi0:0<i
      ·obtain ⟨k,rfl⟩:∃ k,i=k+1:=⟨i - 1,by omega⟩
       have hkn:k<els.length:=(by omega);have hkv:k<vs.length:=(by omega);obtain ⟨w,hrow,hw1,hw2⟩:=Xi (List.all_eq_true.1 hw _ (List.getElem_mem hkn));have hrow2:els[k]?=some [.int .i64 w]:=(by rw[List.getElem?_eq_getElem hkn,hrow]);obtain ⟨v,hvr,hv1,hv2⟩:=xx (List.all_eq_true.1 hv _ (List.getElem_mem hkv));have hvr2:vs[k]?=some [.int .i64 v]:=(by rw[List.getElem?_eq_getElem hkv,hvr]);have hcw:ZI (els.getD k [])=w:=(by rw[List.getD_eq_getElem?_getD,hrow2];rfl);have hcv:ZI (vs.getD k [])=v:=(by rw[List.getD_eq_getElem?_getD,hvr2];rfl);have hsucc:=Xy hrow2;have hb:=UX hw k (by omega);have hle:=yO hw (show k+1≤els.length by omega) (Nat.le_refl _);obtain ⟨b,rfl⟩:∃ b:Nat,w=(b:Int):=⟨w.toNat,by omega⟩;obtain ⟨lo,hlo⟩:∃ lo:Nat,YS els k=(lo:Int):=⟨(YS els k).toNat,by omega⟩;obtain ⟨hp1,hp2⟩:=va (b:=b) (by omega);have hkI:(k:Int)<(els.length:Int):=(by omega);have hge:(0:Int)≤(((k+1:Nat):Int) - 1):=(by omega);have hsub:(((k+1:Nat):Int) - 1)=(k:Int):=(by omega);have hpk:=hz;simp only[Yf]at hpk;cases hz2:Yf els vs k with
       | none=>rw[hz2]at hpk;cases hpk
       | some z2 =>
        rw[hz2]at hpk;simp only[hcw,hcv,hlo,Int.toNat_natCast]at hpk;by_cases h1:v<0
        ·rw[if_pos h1]at hpk;cases hpk
        ·rw[if_neg h1]at hpk
         by_cases h2:2 ^ b - 1<v
         ·rw[if_pos h2]at hpk;cases hpk
         ·rw[if_neg h2]at hpk
          injection hpk with hpk;rw[hsucc,hlo,show ((lo:Int)+(b:Int)).toNat=lo+b from by omega,Int.pow_add]at hzW;have hnew:z2+(W*2 ^ b+v)*2 ^ lo=x:=by
           rw[Int.add_mul,Int.mul_assoc,Int.mul_comm (2 ^ b:Int)];omega
          have hlop:(1:Int)≤2 ^ lo:=(by have:(0:Int)<2 ^ lo:=Int.pow_pos (by omega);omega);obtain ⟨hz20,_⟩:=X2 hw k z2 (by omega) hz2;have hWb:0≤W*2 ^ b:=Int.mul_nonneg hW0 (by omega);have hle2:W*2 ^ b+v≤x:=by
           have:(W*2 ^ b+v)*1≤(W*2 ^ b+v)*2 ^ lo:=Int.mul_le_mul_of_nonneg_left hlop (by omega);omega
          have hwv:IntKind.wrap .u64 v=v:=YM (by omega) (by omega);have hws:IntKind.wrap .u64 (W*2 ^ b+v)=W*2 ^ b+v:=YM (by omega) (by omega)
          repeat' with_reducible (first|refine ZR.h ?_|refine zI ?_|(refine zK hE ?_;intro K hK;simp[hkn,hvl,hge,hsub];(repeat' (first|refine hK _ _ ?_|apply And.intro|(intro hc;try subst hc)))<;>(try clear hK K))|(refine zJ (fun hc=>?_) (fun hc=>?_)<;>simp at hc<;>(try subst hc)))
          all_goals (refine YJ (fun (y:Int×Nat)=>L75 els vs y.1 (k+1) y.2) (fun y=>y.2≤b∧y.1=W*2 ^ y.2) (fun y=>b - y.2) (W,0) ⟨Nat.zero_le _,by simp⟩ ?_ ?_)
          ·simp only[I75,J75,K75,L75,T75]
           rw[hS]
           (refine Imp.aut ?_ ?_<;>simp[NLe,hT,hC,hT2,hC2,hvl,hsub])
          ·intro ⟨q,j⟩ ⟨hj,hq⟩
           replace hj:j≤b:=hj;replace hq:q=W*2 ^ j:=hq;simp only[I75,J75,K75,L75,T75];by_cases hjb:j<b
           ·have hjI:(j:Int)<(b:Int):=by omega
            have hq2:q*2=W*2 ^ (j+1):=(by rw[hq,Int.pow_succ,Int.mul_assoc]);have hq3:W*2 ^ (j+1)≤W*2 ^ b:=Int.mul_le_mul_of_nonneg_left (ZaP hjb) hW0;have hq0:0≤q:=(by rw[hq];exact Int.mul_nonneg hW0 (Int.le_of_lt (Int.pow_pos (by omega))));have w2:IntKind.wrap .u64 (q*2)=q*2:=YM (by omega) (by omega);have w3:IntKind.wrap .i64 ((j:Int)+1)=(j:Int)+1:=Zh (by omega) (by omega)
            repeat' with_reducible (first|refine ZR.h ?_|refine zI ?_|(refine zK hE ?_;intro K hK;simp[hkn,hkv,hkI,hvl,hrow,hrow2,hjI,w2,w3,hsub];(repeat' (first|refine hK _ _ ?_|apply And.intro|(intro hc;try subst hc)))<;>(try clear hK K))|(refine zJ (fun hc=>?_) (fun hc=>?_)<;>simp at hc<;>(try subst hc)))
            all_goals refine ⟨(q*2,j+1),⟨hjb,hq2⟩,Nat.sub_lt_sub_left hjb (Nat.lt_succ_self j),?_⟩
            all_goals simp only[I75,J75,K75,L75,T75]
            all_goals rw[hS]
            all_goals (refine Imp.aut ?_ ?_<;>simp[NLe,hT,hC,hT2,hC2,hvl,hsub])
           ·have hjI:¬ (j:Int)<(b:Int):=by omega
            have hje:j=b:=(by omega);subst hje;have hqv:IntKind.wrap .u64 (q+v)=q+v:=(by rw[hq];exact hws);have w5:IntKind.wrap .i64 ((k:Int) - 1)=(k:Int) - 1:=Zh (by omega) (by omega)
            repeat' with_reducible (first|refine ZR.h ?_|refine zI ?_|(refine zK hE ?_;intro K hK;simp[hkn,hkv,hkI,hvl,hrow,hrow2,hvr,hvr2,hjI,hsub,hwv,hqv,w5];(repeat' (first|refine hK _ _ ?_|apply And.intro|(intro hc;try subst hc)))<;>(try clear hK K))|(refine zJ (fun hc=>?_) (fun hc=>?_)<;>simp at hc<;>(try subst hc)))
            all_goals refine ⟨(q+v,k),⟨Nat.le_of_lt hkn,by rw[hq];show 0≤W*2 ^ j+v;omega,z2,hz2,by rw[hq,hlo];exact hnew⟩,Nat.lt_succ_self k,?_⟩
            all_goals simp only[I75,J75,K75,L75,T75]
            all_goals rw[hS]
            all_goals (refine Imp.aut ?_ ?_<;>simp[NLe,hT,hC,hT2,hC2,hvl])
      ·have hi0:i=0:=by omega
       subst hi0;have hWx:W=x:=by
        simp only[Yf,Option.some.injEq]at hz;subst hz;simp[YS]at hzW;exact hzW
       subst hWx
       repeat' with_reducible (first|refine ZR.h ?_|refine zI ?_|(refine zK hE ?_;intro K hK;simp[hvl];(repeat' (first|refine hK _ _ ?_|apply And.intro|(intro hc;try subst hc)))<;>(try clear hK K))|(refine zJ (fun hc=>?_) (fun hc=>?_)<;>simp at hc<;>(try subst hc)))
       all_goals first|(simp;done)|((try simp[hx,U0]);refine Imp.aut ?_ ?_<;>simp[NLe,hx,U0])
  ·cases h
 ·cases h
def d70:List AV→List NObj→Option AV
 | [.str _,.iface _ _],[]=>some (.iface 190 .bot)
 | _,_=>none
theorem ok70:ROk d70:=by
 intro xs os r h;unfold d70 at h
 (repeat' (split at h))<;>first|(cases h;done)|(injection h with h;subst h;simp)
theorem s70:Sound Tryz.prog 70 (rdS d70 ok70):=by
 refine Zo C70.a C70.b C70.c C70.d ok70 fun xs os r h vs ρ0 hvs=>⟨xs,?_,fun _ h=>h,fun w0 S hS=>?_⟩
 ·unfold d70 at h
  (repeat' (split at h))<;>first|(cases h;done)|exact Nat.le_of_ble_eq_true rfl
 unfold d70 at h;split at h
 ·skip
  injection h with h;subst h;have hE:Zb Tryz.prog (EL []):=Zd (by simp);unfold m70
  repeat' with_reducible (first|refine ZR.h ?_|refine zI ?_|(refine zK hE ?_;intro K hK;simp;(repeat' (first|refine hK _ _ ?_|apply And.intro|(intro hc;try subst hc)))<;>(try clear hK K))|(refine zJ (fun hc=>?_) (fun hc=>?_)<;>simp at hc<;>(try subst hc)))
  all_goals first|(simp;done)|(simp at *;omega)|((try simp);refine Imp.aut ?_ ?_<;>simp[NLe])
 ·cases h
def d68:List AV→Option Ans
 | [.agg [.int .i64 a,.int .i64 b,.int .i64 c,.int .i64 d,.int .i64 e,.int .i64 f,.int .i64 g]]=>some ⟨.os 0 4 [[(.str (ByteArray.mk #[112,97,114,116,115])),.int .i64 a,.int .i64 1,.int .i64 6],[(.str (ByteArray.mk #[99,101,108,108,115])),.int .i64 b,.int .i64 1,.int .i64 4],[(.str (ByteArray.mk #[110,97,109,101,115])),.int .i64 c,.int .i64 1,.int .i64 3],[(.str (ByteArray.mk #[98,97,110,100,115])),.int .i64 d,.int .i64 1,.int .i64 4],[(.str (ByteArray.mk #[112,114,111,98,101,115])),.int .i64 e,.int .i64 0,.int .i64 4],[(.str (ByteArray.mk #[102,105,108,108,115])),.int .i64 f,.int .i64 1,.int .i64 4],[(.str (ByteArray.mk #[103,101,110,115])),.int .i64 g,.int .i64 1,.int .i64 15]],[]⟩
 | _=>none
theorem ok68:NOk [] d68:=by
 intro xs a h;unfold d68 at h
 (repeat' (split at h))<;>first|(cases h;done)|(injection h with h;subst h;refine ⟨Zq ?_,?_⟩<;>simp)
theorem s68:Sound Tryz.prog 68 (Zi [] d68 ok68):=by
 refine Zj C68.a C68.b C68.c C68.d ok68 (fun xs a h=>?_) fun xs a h w0 S hS=>?_
 ·unfold d68 at h
  (repeat' (split at h))<;>first|(cases h;done)|exact Nat.le_of_ble_eq_true rfl
 unfold d68 at h;split at h
 ·rename_i a b c d e f g
  injection h with h;subst h;have hE:Zb Tryz.prog (EL []):=Zd (by simp);unfold m68
  repeat' with_reducible (first|refine ZR.h ?_|refine zI ?_|(refine zK hE ?_;intro K hK;simp;(repeat' (first|refine hK _ _ ?_|apply And.intro|(intro hc;try subst hc)))<;>(try clear hK K))|(refine zJ (fun hc=>?_) (fun hc=>?_)<;>simp at hc<;>(try subst hc)))
  all_goals first|(simp;done)|(simp at *;omega)|((try simp);refine Imp.aut ?_ ?_<;>simp[NLe])
 ·cases h
def Xn (a b c d e f g:Int):Int :=
 if a<1∨6<a then 0 else if b<1∨4<b then 1 else if c<1∨3<c then 2 else if d<1∨4<d then 3 else if e<0∨4<e then 4 else if f<1∨4<f then 5 else if g<1∨15<g then 6 else -1
theorem UL (a b c d e f g:Int):(Xn a b c d e f g=-1)=(XX a b c d e f g=true):=by
 unfold Xn XX;rw[decide_eq_true_eq];apply propext
 repeat' split
 all_goals omega
theorem ZcO (a b c d e f g:Int):decide (Xn a b c d e f g<0)=XX a b c d e f g:=by
 have h:=UL a b c d e f g;have h2:Xn a b c d e f g=-1∨0≤Xn a b c d e f g:=by
  unfold Xn
  repeat' split
  all_goals omega
 cases hb:XX a b c d e f g
 ·rw[hb]at h
  have:¬ Xn a b c d e f g=-1:=by rw[h];simp
  rw[decide_eq_false_iff_not];omega
 ·rw[hb]at h
  have:Xn a b c d e f g=-1:=by rw[h]
  rw[decide_eq_true_iff];omega
def d71:List AV→Option Ans
 | [.agg [.int .i64 a,.int .i64 b,.int .i64 c,.int .i64 d,.int .i64 e,.int .i64 f,.int .i64 g]]=>some ⟨.int .i64 (Xn a b c d e f g),[]⟩
 | _=>none
theorem ok71:NOk [] d71:=by
 intro xs a h;unfold d71 at h
 (repeat' (split at h))<;>first|(cases h;done)|(injection h with h;subst h;refine ⟨Zq ?_,?_⟩<;>simp)
theorem s71:Sound Tryz.prog 71 (Zi [] d71 ok71):=by
 refine Zj C71.a C71.b C71.c C71.d ok71 (fun xs a h=>?_) fun xs a h w0 S hS=>?_
 ·unfold d71 at h
  (repeat' (split at h))<;>first|(cases h;done)|exact Nat.le_of_ble_eq_true rfl
 unfold d71 at h;split at h
 ·rename_i a b c d e f g
  injection h with h;subst h;have hE:Zb Tryz.prog (EL []):=Zd (by simp);unfold m71
  repeat' with_reducible (first|refine ZR.h ?_|refine zI ?_|((first|refine zK hE ?_|refine zM hE ?_);intro K hK;simp;(repeat' (first|refine hK _ _ ?_|apply And.intro|(intro hc;try subst hc)))<;>(try clear hK K))|(refine zJ (fun hc=>?_) (fun hc=>?_)<;>simp at hc<;>(try subst hc)))
  all_goals refine YF 8 ?_
  repeat' with_reducible (first|refine ZR.h ?_|refine zI ?_|((first|refine zK hE ?_|refine zM hE ?_);intro K hK;simp[Zh];(repeat' (first|refine hK _ _ ?_|apply And.intro|(intro hc;try subst hc)))<;>(try clear hK K))|(refine zJ (fun hc=>?_) (fun hc=>?_)<;>simp at hc<;>(try subst hc)))
  all_goals first|(simp;done)|((try simp[Xn]);refine Imp.aut ?_ ?_<;>simp[NLe]<;>grind)
 ·cases h
def d30:List AV→Option Ans
 | [.agg [.int .i64 a,.int .i64 b,.int .i64 c,.int .i64 d,.int .i64 e,.int .i64 f,.int .i64 g]]=>some ⟨if Xn a b c d e f g=-1 then .tup [.agg [.int .i64 a,.int .i64 b,.int .i64 c,.int .i64 d,.int .i64 e,.int .i64 f,.int .i64 g],.raw .nilIface] else .tup [.agg [.int .i64 0,.int .i64 0,.int .i64 0,.int .i64 0,.int .i64 0,.int .i64 0,.int .i64 0],.iface 187 .bot],[]⟩
 | _=>none
theorem ok30:NOk [] d30:=by
 intro xs a h;unfold d30 at h;split at h
 ·injection h with h;subst h
  split<;>refine ⟨Zq ?_,?_⟩<;>simp
 ·cases h
theorem s30:Sound Tryz.prog 30 (Zi [] d30 ok30):=by
 refine Zj C30.a C30.b C30.c C30.d ok30 (fun xs a h=>?_) fun xs a h w0 S hS=>?_
 ·unfold d30 at h
  (repeat' (split at h))<;>first|(cases h;done)|exact Nat.le_of_ble_eq_true rfl
 unfold d30 at h;split at h
 ·rename_i a b c d e f g
  injection h with h;subst h;have hE:Zb Tryz.prog (EL [(68,Zi [] d68 ok68),(69,rdS d69 ok69),(70,rdS d70 ok70)]):=Zd (by simp only[List.mem_cons,List.not_mem_nil,or_false,forall_eq_or_imp,forall_eq];exact ⟨s68,s69,s70⟩);unfold m30
  repeat' with_reducible (first|refine ZR.h ?_|refine zI ?_|(refine zK hE ?_;intro K hK;simp[d68,d69,d70];(repeat' (first|refine hK _ _ ?_|apply And.intro|(intro hc;try subst hc)))<;>(try clear hK K))|(refine zJ (fun hc=>?_) (fun hc=>?_)<;>simp at hc<;>(try subst hc)))
  all_goals refine YF 8 ?_
  repeat' with_reducible (first|refine ZR.h ?_|refine zI ?_|(refine zK hE ?_;intro K hK;simp[Zh,d68,d69,d70];(repeat' (first|refine hK _ _ ?_|apply And.intro|(intro hc;try subst hc)))<;>(try clear hK K))|(refine zJ (fun hc=>?_) (fun hc=>?_)<;>simp at hc<;>(try subst hc)))
  all_goals first|(simp;done)|(have hz:Xn a b c d e f g=-1:=(by simp[Xn];omega);simp[hz];refine Imp.aut ?_ ?_<;>simp[NLe];done)|(have hz:¬ Xn a b c d e f g=-1:=(by simp[Xn];(repeat' split)<;>omega);simp[hz];refine Imp.aut ?_ ?_<;>simp[NLe])
 ·cases h
def d31:List AV→Option Ans
 | [.agg [.int .i64 a,.int .i64 b,.int .i64 c,.int .i64 d,.int .i64 e,.int .i64 f,.int .i64 g]]=>some ⟨.bool (XX a b c d e f g),[]⟩
 | _=>none
theorem ok31:NOk [] d31:=by
 intro xs a h;unfold d31 at h
 (repeat' (split at h))<;>first|(cases h;done)|(injection h with h;subst h;refine ⟨Zq ?_,?_⟩<;>simp)
theorem s31:Sound Tryz.prog 31 (Zi [] d31 ok31):=by
 refine Zj C31.a C31.b C31.c C31.d ok31 (fun xs a h=>?_) fun xs a h w0 S hS=>?_
 ·unfold d31 at h
  (repeat' (split at h))<;>first|(cases h;done)|exact Nat.le_of_ble_eq_true rfl
 unfold d31 at h;split at h
 ·rename_i a b c d e f g
  injection h with h;subst h;have hE:Zb Tryz.prog (EL [(71,Zi [] d71 ok71)]):=Zd (by simp only[List.mem_cons,List.not_mem_nil,or_false,forall_eq_or_imp,forall_eq];exact s71);have hn:=ZcO a b c d e f g;unfold m31
  repeat' with_reducible (first|refine ZR.h ?_|refine zI ?_|(refine zK hE ?_;intro K hK;simp[hn,d71];(repeat' (first|refine hK _ _ ?_|apply And.intro|(intro hc;try subst hc)))<;>(try clear hK K))|(refine zJ (fun hc=>?_) (fun hc=>?_)<;>simp at hc<;>(try subst hc)))
  all_goals first|(simp;done)|(simp at *;omega)|((try simp);refine Imp.aut ?_ ?_<;>simp[NLe])
 ·cases h
def d36:List AV→List NObj→Option AV
 | [.int .i64 k],[]=>some (.bool (Zt k))
 | _,_=>none
theorem ok36:ROk d36:=by
 intro xs os r h;unfold d36 at h
 (repeat' (split at h))<;>first|(cases h;done)|(injection h with h;subst h;simp)
theorem s36:Sound Tryz.prog 36 (rdS d36 ok36):=by
 refine Zo C36.a C36.b C36.c C36.d ok36 fun xs os r h vs ρ0 hvs=>⟨xs,?_,fun _ h=>h,fun w0 S hS=>?_⟩
 ·unfold d36 at h
  (repeat' (split at h))<;>first|(cases h;done)|exact Nat.le_of_ble_eq_true rfl
 unfold d36 at h;split at h
 ·rename_i k
  injection h with h;subst h;have hE:Zb Tryz.prog (EL []):=Zd (by simp);unfold m36
  repeat' with_reducible (first|refine ZR.h ?_|refine zI ?_|(refine zK hE ?_;intro K hK;simp;(repeat' (first|refine hK _ _ ?_|apply And.intro|(intro hc;try subst hc)))<;>(try clear hK K))|(refine zJ (fun hc=>?_) (fun hc=>?_)<;>simp at hc<;>(try subst hc)))
  all_goals first|(simp;done)|((try simp[Zt]);refine Imp.aut ?_ ?_<;>simp[NLe,Zt]<;>grind)
 ·cases h
def YT (c:Int) (t:TmZ) (q now:Int):Int:=if t.nm<0 then 22 else if c≤t.nm then 22 else if t.sd≠0∧t.sd≠1 then 1 else if q<1 then 23 else if 9999<q then 23 else if t.pr<1 then 24 else if 9999<t.pr then 24 else if t.le<1 then 25 else if q<t.le then 25 else if t.un≤now then 26 else if 1000000<t.un then 26 else 0
def d37:List AV→List NObj→Option AV
 | [.agg [.int .i64 a,.int .i64 b,.int .i64 c,.int .i64 d,.int .i64 e,.int .i64 f,.int .i64 g],.agg [.int .i64 n0,.int .i64 n1,.int .i64 n2,.int .i64 n3,.int .i64 n4],.int .i64 q,.int .i64 now],[]=>some (.int .i64 (YT c ⟨n0,n1,n2,n3,n4⟩ q now))
 | _,_=>none
theorem ok37:ROk d37:=by
 intro xs os r h;unfold d37 at h
 (repeat' (split at h))<;>first|(cases h;done)|(injection h with h;subst h;simp)
theorem s37:Sound Tryz.prog 37 (rdS d37 ok37):=by
 refine Zo C37.a C37.b C37.c C37.d ok37 fun xs os r h vs ρ0 hvs=>⟨xs,?_,fun _ h=>h,fun w0 S hS=>?_⟩
 ·unfold d37 at h
  (repeat' (split at h))<;>first|(cases h;done)|exact Nat.le_of_ble_eq_true rfl
 unfold d37 at h;split at h
 ·rename_i a b c d e f g n0 n1 n2 n3 n4 q now
  injection h with h;subst h;have hE:Zb Tryz.prog (EL []):=Zd (by simp);by_cases h1:n0<0
  ·unfold m37
   repeat' with_reducible (first|refine ZR.h ?_|refine zI ?_|(refine zK hE ?_;intro K hK;simp[h1,YT];(repeat' (first|refine hK _ _ ?_|apply And.intro|(intro hc;try subst hc)))<;>(try clear hK K))|(refine zJ (fun hc=>?_) (fun hc=>?_)<;>simp at hc<;>(try subst hc)))
   all_goals first|(simp;done)|(simp at *;omega)|((try simp[h1,YT]);refine Imp.aut ?_ ?_<;>simp[NLe,h1,YT])
  ·by_cases h2:c≤n0
   ·unfold m37
    repeat' with_reducible (first|refine ZR.h ?_|refine zI ?_|(refine zK hE ?_;intro K hK;simp[h1,h2,YT];(repeat' (first|refine hK _ _ ?_|apply And.intro|(intro hc;try subst hc)))<;>(try clear hK K))|(refine zJ (fun hc=>?_) (fun hc=>?_)<;>simp at hc<;>(try subst hc)))
    all_goals first|(simp;done)|(simp at *;omega)|((try simp[h1,h2,YT]);refine Imp.aut ?_ ?_<;>simp[NLe,h1,h2,YT])
   ·by_cases h3:n1≠0∧n1≠1
    ·have h3a:¬ n1=0:=h3.1
     have h3b:¬ n1=1:=h3.2;unfold m37
     repeat' with_reducible (first|refine ZR.h ?_|refine zI ?_|(refine zK hE ?_;intro K hK;simp[h1,h2,h3a,h3b,YT];(repeat' (first|refine hK _ _ ?_|apply And.intro|(intro hc;try subst hc)))<;>(try clear hK K))|(refine zJ (fun hc=>?_) (fun hc=>?_)<;>simp at hc<;>(try subst hc)))
     all_goals first|(simp;done)|(simp at *;omega)|((try simp[h1,h2,h3a,h3b,YT]);refine Imp.aut ?_ ?_<;>simp[NLe,h1,h2,h3a,h3b,YT])
    ·have hs:n1=0∨n1=1:=by omega
     rcases hs with hs|hs
     ·skip
      by_cases h4:q<1
      ·unfold m37
       repeat' with_reducible (first|refine ZR.h ?_|refine zI ?_|(refine zK hE ?_;intro K hK;simp[h4,h1,h2,hs,YT];(repeat' (first|refine hK _ _ ?_|apply And.intro|(intro hc;try subst hc)))<;>(try clear hK K))|(refine zJ (fun hc=>?_) (fun hc=>?_)<;>simp at hc<;>(try subst hc)))
       all_goals first|(simp;done)|(simp at *;omega)|((try simp[h4,h1,h2,hs,YT]);refine Imp.aut ?_ ?_<;>simp[NLe,h4,h1,h2,hs,YT])
      ·by_cases h5:9999<q
       ·unfold m37
        repeat' with_reducible (first|refine ZR.h ?_|refine zI ?_|(refine zK hE ?_;intro K hK;simp[h4,h5,h1,h2,hs,YT];(repeat' (first|refine hK _ _ ?_|apply And.intro|(intro hc;try subst hc)))<;>(try clear hK K))|(refine zJ (fun hc=>?_) (fun hc=>?_)<;>simp at hc<;>(try subst hc)))
        all_goals first|(simp;done)|(simp at *;omega)|((try simp[h4,h5,h1,h2,hs,YT]);refine Imp.aut ?_ ?_<;>simp[NLe,h4,h5,h1,h2,hs,YT])
       ·by_cases h6:n2<1
        ·unfold m37
         repeat' with_reducible (first|refine ZR.h ?_|refine zI ?_|(refine zK hE ?_;intro K hK;simp[h4,h5,h6,h1,h2,hs,YT];(repeat' (first|refine hK _ _ ?_|apply And.intro|(intro hc;try subst hc)))<;>(try clear hK K))|(refine zJ (fun hc=>?_) (fun hc=>?_)<;>simp at hc<;>(try subst hc)))
         all_goals first|(simp;done)|(simp at *;omega)|((try simp[h4,h5,h6,h1,h2,hs,YT]);refine Imp.aut ?_ ?_<;>simp[NLe,h4,h5,h6,h1,h2,hs,YT])
        ·by_cases h7:9999<n2
         ·unfold m37
          repeat' with_reducible (first|refine ZR.h ?_|refine zI ?_|(refine zK hE ?_;intro K hK;simp[h4,h5,h6,h7,h1,h2,hs,YT];(repeat' (first|refine hK _ _ ?_|apply And.intro|(intro hc;try subst hc)))<;>(try clear hK K))|(refine zJ (fun hc=>?_) (fun hc=>?_)<;>simp at hc<;>(try subst hc)))
          all_goals first|(simp;done)|(simp at *;omega)|((try simp[h4,h5,h6,h7,h1,h2,hs,YT]);refine Imp.aut ?_ ?_<;>simp[NLe,h4,h5,h6,h7,h1,h2,hs,YT])
         ·by_cases h8:n3<1
          ·unfold m37
           repeat' with_reducible (first|refine ZR.h ?_|refine zI ?_|(refine zK hE ?_;intro K hK;simp[h4,h5,h6,h7,h8,h1,h2,hs,YT];(repeat' (first|refine hK _ _ ?_|apply And.intro|(intro hc;try subst hc)))<;>(try clear hK K))|(refine zJ (fun hc=>?_) (fun hc=>?_)<;>simp at hc<;>(try subst hc)))
           all_goals first|(simp;done)|(simp at *;omega)|((try simp[h4,h5,h6,h7,h8,h1,h2,hs,YT]);refine Imp.aut ?_ ?_<;>simp[NLe,h4,h5,h6,h7,h8,h1,h2,hs,YT])
          ·by_cases h9:q<n3
           ·unfold m37
            repeat' with_reducible (first|refine ZR.h ?_|refine zI ?_|(refine zK hE ?_;intro K hK;simp[h4,h5,h6,h7,h8,h9,h1,h2,hs,YT];(repeat' (first|refine hK _ _ ?_|apply And.intro|(intro hc;try subst hc)))<;>(try clear hK K))|(refine zJ (fun hc=>?_) (fun hc=>?_)<;>simp at hc<;>(try subst hc)))
            all_goals first|(simp;done)|(simp at *;omega)|((try simp[h4,h5,h6,h7,h8,h9,h1,h2,hs,YT]);refine Imp.aut ?_ ?_<;>simp[NLe,h4,h5,h6,h7,h8,h9,h1,h2,hs,YT])
           ·by_cases h10:n4≤now
            ·unfold m37
             repeat' with_reducible (first|refine ZR.h ?_|refine zI ?_|(refine zK hE ?_;intro K hK;simp[h4,h5,h6,h7,h8,h9,h10,h1,h2,hs,YT];(repeat' (first|refine hK _ _ ?_|apply And.intro|(intro hc;try subst hc)))<;>(try clear hK K))|(refine zJ (fun hc=>?_) (fun hc=>?_)<;>simp at hc<;>(try subst hc)))
             all_goals first|(simp;done)|(simp at *;omega)|((try simp[h4,h5,h6,h7,h8,h9,h10,h1,h2,hs,YT]);refine Imp.aut ?_ ?_<;>simp[NLe,h4,h5,h6,h7,h8,h9,h10,h1,h2,hs,YT])
            ·by_cases h11:1000000<n4
             ·unfold m37
              repeat' with_reducible (first|refine ZR.h ?_|refine zI ?_|(refine zK hE ?_;intro K hK;simp[h4,h5,h6,h7,h8,h9,h10,h11,h1,h2,hs,YT];(repeat' (first|refine hK _ _ ?_|apply And.intro|(intro hc;try subst hc)))<;>(try clear hK K))|(refine zJ (fun hc=>?_) (fun hc=>?_)<;>simp at hc<;>(try subst hc)))
              all_goals first|(simp;done)|(simp at *;omega)|((try simp[h4,h5,h6,h7,h8,h9,h10,h11,h1,h2,hs,YT]);refine Imp.aut ?_ ?_<;>simp[NLe,h4,h5,h6,h7,h8,h9,h10,h11,h1,h2,hs,YT])
             ·unfold m37
              repeat' with_reducible (first|refine ZR.h ?_|refine zI ?_|(refine zK hE ?_;intro K hK;simp[h4,h5,h6,h7,h8,h9,h10,h11,h1,h2,hs,YT];(repeat' (first|refine hK _ _ ?_|apply And.intro|(intro hc;try subst hc)))<;>(try clear hK K))|(refine zJ (fun hc=>?_) (fun hc=>?_)<;>simp at hc<;>(try subst hc)))
              all_goals first|(simp;done)|(simp at *;omega)|((try simp[h4,h5,h6,h7,h8,h9,h10,h11,h1,h2,hs,YT]);refine Imp.aut ?_ ?_<;>simp[NLe,h4,h5,h6,h7,h8,h9,h10,h11,h1,h2,hs,YT])
     ·skip
      by_cases h4:q<1
      ·unfold m37
       repeat' with_reducible (first|refine ZR.h ?_|refine zI ?_|(refine zK hE ?_;intro K hK;simp[h4,h1,h2,hs,YT];(repeat' (first|refine hK _ _ ?_|apply And.intro|(intro hc;try subst hc)))<;>(try clear hK K))|(refine zJ (fun hc=>?_) (fun hc=>?_)<;>simp at hc<;>(try subst hc)))
       all_goals first|(simp;done)|(simp at *;omega)|((try simp[h4,h1,h2,hs,YT]);refine Imp.aut ?_ ?_<;>simp[NLe,h4,h1,h2,hs,YT])
      ·by_cases h5:9999<q
       ·unfold m37
        repeat' with_reducible (first|refine ZR.h ?_|refine zI ?_|(refine zK hE ?_;intro K hK;simp[h4,h5,h1,h2,hs,YT];(repeat' (first|refine hK _ _ ?_|apply And.intro|(intro hc;try subst hc)))<;>(try clear hK K))|(refine zJ (fun hc=>?_) (fun hc=>?_)<;>simp at hc<;>(try subst hc)))
        all_goals first|(simp;done)|(simp at *;omega)|((try simp[h4,h5,h1,h2,hs,YT]);refine Imp.aut ?_ ?_<;>simp[NLe,h4,h5,h1,h2,hs,YT])
       ·by_cases h6:n2<1
        ·unfold m37
         repeat' with_reducible (first|refine ZR.h ?_|refine zI ?_|(refine zK hE ?_;intro K hK;simp[h4,h5,h6,h1,h2,hs,YT];(repeat' (first|refine hK _ _ ?_|apply And.intro|(intro hc;try subst hc)))<;>(try clear hK K))|(refine zJ (fun hc=>?_) (fun hc=>?_)<;>simp at hc<;>(try subst hc)))
         all_goals first|(simp;done)|(simp at *;omega)|((try simp[h4,h5,h6,h1,h2,hs,YT]);refine Imp.aut ?_ ?_<;>simp[NLe,h4,h5,h6,h1,h2,hs,YT])
        ·by_cases h7:9999<n2
         ·unfold m37
          repeat' with_reducible (first|refine ZR.h ?_|refine zI ?_|(refine zK hE ?_;intro K hK;simp[h4,h5,h6,h7,h1,h2,hs,YT];(repeat' (first|refine hK _ _ ?_|apply And.intro|(intro hc;try subst hc)))<;>(try clear hK K))|(refine zJ (fun hc=>?_) (fun hc=>?_)<;>simp at hc<;>(try subst hc)))
          all_goals first|(simp;done)|(simp at *;omega)|((try simp[h4,h5,h6,h7,h1,h2,hs,YT]);refine Imp.aut ?_ ?_<;>simp[NLe,h4,h5,h6,h7,h1,h2,hs,YT])
         ·by_cases h8:n3<1
          ·unfold m37
           repeat' with_reducible (first|refine ZR.h ?_|refine zI ?_|(refine zK hE ?_;intro K hK;simp[h4,h5,h6,h7,h8,h1,h2,hs,YT];(repeat' (first|refine hK _ _ ?_|apply And.intro|(intro hc;try subst hc)))<;>(try clear hK K))|(refine zJ (fun hc=>?_) (fun hc=>?_)<;>simp at hc<;>(try subst hc)))
           all_goals first|(simp;done)|(simp at *;omega)|((try simp[h4,h5,h6,h7,h8,h1,h2,hs,YT]);refine Imp.aut ?_ ?_<;>simp[NLe,h4,h5,h6,h7,h8,h1,h2,hs,YT])
          ·by_cases h9:q<n3
           ·unfold m37
            repeat' with_reducible (first|refine ZR.h ?_|refine zI ?_|(refine zK hE ?_;intro K hK;simp[h4,h5,h6,h7,h8,h9,h1,h2,hs,YT];(repeat' (first|refine hK _ _ ?_|apply And.intro|(intro hc;try subst hc)))<;>(try clear hK K))|(refine zJ (fun hc=>?_) (fun hc=>?_)<;>simp at hc<;>(try subst hc)))
            all_goals first|(simp;done)|(simp at *;omega)|((try simp[h4,h5,h6,h7,h8,h9,h1,h2,hs,YT]);refine Imp.aut ?_ ?_<;>simp[NLe,h4,h5,h6,h7,h8,h9,h1,h2,hs,YT])
           ·by_cases h10:n4≤now
            ·unfold m37
             repeat' with_reducible (first|refine ZR.h ?_|refine zI ?_|(refine zK hE ?_;intro K hK;simp[h4,h5,h6,h7,h8,h9,h10,h1,h2,hs,YT];(repeat' (first|refine hK _ _ ?_|apply And.intro|(intro hc;try subst hc)))<;>(try clear hK K))|(refine zJ (fun hc=>?_) (fun hc=>?_)<;>simp at hc<;>(try subst hc)))
             all_goals first|(simp;done)|(simp at *;omega)|((try simp[h4,h5,h6,h7,h8,h9,h10,h1,h2,hs,YT]);refine Imp.aut ?_ ?_<;>simp[NLe,h4,h5,h6,h7,h8,h9,h10,h1,h2,hs,YT])
            ·by_cases h11:1000000<n4
             ·unfold m37
              repeat' with_reducible (first|refine ZR.h ?_|refine zI ?_|(refine zK hE ?_;intro K hK;simp[h4,h5,h6,h7,h8,h9,h10,h11,h1,h2,hs,YT];(repeat' (first|refine hK _ _ ?_|apply And.intro|(intro hc;try subst hc)))<;>(try clear hK K))|(refine zJ (fun hc=>?_) (fun hc=>?_)<;>simp at hc<;>(try subst hc)))
              all_goals first|(simp;done)|(simp at *;omega)|((try simp[h4,h5,h6,h7,h8,h9,h10,h11,h1,h2,hs,YT]);refine Imp.aut ?_ ?_<;>simp[NLe,h4,h5,h6,h7,h8,h9,h10,h11,h1,h2,hs,YT])
             ·unfold m37
              repeat' with_reducible (first|refine ZR.h ?_|refine zI ?_|(refine zK hE ?_;intro K hK;simp[h4,h5,h6,h7,h8,h9,h10,h11,h1,h2,hs,YT];(repeat' (first|refine hK _ _ ?_|apply And.intro|(intro hc;try subst hc)))<;>(try clear hK K))|(refine zJ (fun hc=>?_) (fun hc=>?_)<;>simp at hc<;>(try subst hc)))
              all_goals first|(simp;done)|(simp at *;omega)|((try simp[h4,h5,h6,h7,h8,h9,h10,h11,h1,h2,hs,YT]);refine Imp.aut ?_ ?_<;>simp[NLe,h4,h5,h6,h7,h8,h9,h10,h11,h1,h2,hs,YT])
 ·cases h
end Go.W
