/- A part of the proofs about the pair's laws (PsR, PsS, PsT, PsU). -/
import Derived.Test.YtidbbnkpglggdaaGreatPsH
import Derived.Test.YtidbbnkpglggdaaGreatPaA
import Derived.Test.YtidbbnkpglggdaaGreatPsQ
namespace Go.W
open Go.Proofs
set_option linter.unusedSimpArgs false
set_option linter.unusedVariables false
set_option maxHeartbeats 8000000
set_option maxRecDepth 100000
attribute [local irreducible] Wm WmA
attribute [local simp] YP lkp Vq prs V9 prT ddL idL Yy Ue Ren Ve NObj.none ZT
theorem ZhR {v:Int} (h0:0≤v) (h1:v≤9223372036854775807) (j:Nat):0≤v / 2 ^ j∧v / 2 ^ j≤9223372036854775807∧v / 2 ^ (j+1)=v / 2 ^ j / 2:=by
 have hp:(0:Int)<2 ^ j:=Int.pow_pos (by omega);refine ⟨Int.ediv_nonneg h0 (by omega),Int.le_trans (Int.ediv_le_self _ h0) h1,?_⟩;rw[Int.pow_succ,Int.ediv_ediv_of_nonneg (by omega)]
theorem ZjR {v:Int} (h0:0≤v) (b:Nat):(0<v / 2 ^ b)↔2 ^ b - 1<v:=by
 have hp:(0:Int)<2 ^ b:=Int.pow_pos (by omega);have:=@Int.le_ediv_iff_mul_le 1 v (2 ^ b) hp;rw[Int.one_mul]at this;omega
theorem Zbh {a b:Nat} (h:a≤b):(2:Int) ^ a≤2 ^ b:=by
 have:2 ^ a≤2 ^ b:=Nat.pow_le_pow_right (by omega) h;rw[← YB,← YB];omega
def Tj:Option Int→AV
 | some x=>.tup [.int .u64 x,.int .i64 0,.bot]
 | none=>.tup [.int .u64 0,.int .i64 5,.bot]
def d74:List AV→List NObj→Option AV
 | [.sl (.top 0) 0 n,.sl (.top 1) 0 m],[.view 0 1 els,.view 0 1 vs]=>if n=els.length∧m=els.length∧vs.length=els.length∧els.all Ut=true∧els.length≤8∧YV els els.length≤64∧vs.all isV=true then some (Tj (Yh els vs els.length)) else none
 | _,_=>none
def T75 (els vs:List (List AV)) (r:List (Nat×AV)):St:=⟨(0,.sl (.top 0) 0 els.length) :: (1,.sl (.top 1) 0 els.length) :: r,[(0,.view 0 1 els),(1,.view 0 1 vs)],2⟩
def I75 (els vs:List (List AV)) (k:Nat):St:=T75 els vs [(7,.int .i64 k)]
def J75 (els vs:List (List AV)) (k:Nat) (q:Int) (j:Nat):St:=T75 els vs [(7,.int .i64 k),(8,.int .i64 q),(9,.int .i64 j)]
def K75 (els vs:List (List AV)) (x:Int) (i:Nat):St:=T75 els vs [(10,.int .u64 x),(11,.int .i64 (i - 1))]
def L75 (els vs:List (List AV)) (x:Int) (i:Nat) (j:Nat):St:=T75 els vs [(10,.int .u64 x),(11,.int .i64 (i - 1)),(12,.int .i64 j)]
theorem ok74:ROk d74:=by
 intro xs os r h;unfold d74 at h
 (repeat' (split at h))<;>first|(cases h;done)|(injection h with h;subst h;unfold Tj;split<;>simp)
theorem s74:Sound Tryz.prog 74 (rdS d74 ok74):=by
 refine Zo (ac:=?ac) (res:=?res) Tryz.func74 (by kernel_rfl) (ha:=?ha) (hk:=?hk) (hok:=ok74) fun xs os r h vs ρ0 hvs=>?w
 case ha=>conv=>lhs;cbv
 case hk=>kernel_rfl
 refine ⟨xs,?_,fun _ h=>h,fun w0 S hS=>?_⟩
 ·unfold d74 at h
  (repeat' (split at h))<;>first|(cases h;done)|exact Nat.le_of_ble_eq_true rfl
 unfold d74 at h;split at h
 ·split at h
  ·rename_i n m els vs hcond
   injection h with h;subst h;have hE:Zd Tryz.prog (EL []):=Ze (by simp);obtain ⟨rfl,rfl,hvl,hw,hlen,hlow,hv⟩:=hcond;have hT:=vW hw;have hC:=vD hw;have hT2:=v_t0 hv;have hC2:=v_cl hv
   repeat' with_reducible (first|refine ZR.h ?_|refine kI ?_|(refine kR hE ?_;intro K hK;simp[hvl];(repeat' (first|refine hK _ _ ?_|apply And.intro|(intro hc;try subst hc)))<;>(try clear hK K))|(refine kT (fun hc=>?_) (fun hc=>?_)<;>simp at hc<;>(try subst hc)))
   all_goals (refine kL (fun k=>I75 els vs k) (fun k=>k≤els.length∧∃ x,Yh els vs k=some x) (fun k=>els.length - k) 0 ⟨Nat.zero_le _,0,rfl⟩ ?_ ?_)
   ·simp only[I75,J75,K75,L75,T75]
    rw[hS]
    (refine Imp.aut ?_ ?_<;>simp[NLe,hT,hC,hT2,hC2,hvl])
   ·intro k ⟨hk,x,hx⟩
    simp only[I75,J75,K75,L75,T75];by_cases hkn:k<els.length
    ·skip
     have hkv:k<vs.length:=(by omega);obtain ⟨w,hrow,hw1,hw2⟩:=Xo (List.all_eq_true.1 hw _ (List.getElem_mem hkn));have hrow2:els[k]?=some [.int .i64 w]:=(by rw[List.getElem?_eq_getElem hkn,hrow]);obtain ⟨v,hvr,hv1,hv2⟩:=vi (List.all_eq_true.1 hv _ (List.getElem_mem hkv));have hvr2:vs[k]?=some [.int .i64 v]:=(by rw[List.getElem?_eq_getElem hkv,hvr]);have hcw:ZM (els.getD k [])=w:=(by rw[List.getD_eq_getElem?_getD,hrow2];rfl);have hcv:ZM (vs.getD k [])=v:=(by rw[List.getD_eq_getElem?_getD,hvr2];rfl);have hsucc:=XF hrow2;have hb:=Ta hw k (by omega);have hle:=xi hw (show k+1≤els.length by omega) (Nat.le_refl _);obtain ⟨b,rfl⟩:∃ b:Nat,w=(b:Int):=⟨w.toNat,by omega⟩;obtain ⟨lo,hlo⟩:∃ lo:Nat,YV els k=(lo:Int):=⟨(YV els k).toNat,by omega⟩;obtain ⟨hp1,hp2⟩:=vS (b:=b) (by omega);have hkI:(k:Int)<(els.length:Int):=(by omega);have hpk:Yh els vs (k+1)=if v<0 then none else if 2 ^ b - 1<v then none else some (x+v*2 ^ lo):=by
      simp only[Yh,hx,hcw,hcv,hlo,Int.toNat_natCast]
     have w1:IntKind.wrap .i64 ((k:Int)+1)=(k:Int)+1:=Zg (by omega) (by omega);by_cases h1:v<0
     ·rw[if_pos h1]at hpk
      have hnone:Yh els vs els.length=none:=by
       have:=VF hpk (els.length - (k+1))
       rwa [show k+1+(els.length - (k+1))=els.length from by omega]at this
      repeat' with_reducible (first|refine ZR.h ?_|refine kI ?_|(refine kR hE ?_;intro K hK;simp[hkn,hkv,hkI,hvl,hvr,hvr2,h1];(repeat' (first|refine hK _ _ ?_|apply And.intro|(intro hc;try subst hc)))<;>(try clear hK K))|(refine kT (fun hc=>?_) (fun hc=>?_)<;>simp at hc<;>(try subst hc)))
      all_goals first|(show Zb _ _=true;kernel_rfl)|(simp;done)|((try simp[hnone,Tj]);refine Imp.aut ?_ ?_<;>simp[NLe,hnone,Tj])
     ·rw[if_neg h1]at hpk
      have hv0:0≤v:=by omega
      repeat' with_reducible (first|refine ZR.h ?_|refine kI ?_|(refine kR hE ?_;intro K hK;simp[hkn,hkv,hkI,hvl,hvr,hvr2,h1];(repeat' (first|refine hK _ _ ?_|apply And.intro|(intro hc;try subst hc)))<;>(try clear hK K))|(refine kT (fun hc=>?_) (fun hc=>?_)<;>simp at hc<;>(try subst hc)))
      all_goals (refine kL (fun (y:Int×Nat)=>J75 els vs k y.1 y.2) (fun y=>y.2≤b∧y.1=v / 2 ^ y.2) (fun y=>b - y.2) (v,0) ⟨Nat.zero_le _,by simp⟩ ?_ ?_)
      ·simp only[I75,J75,K75,L75,T75]
       rw[hS]
       (refine Imp.aut ?_ ?_<;>simp[NLe,hT,hC,hT2,hC2,hvl])
      ·intro ⟨q,j⟩ ⟨hj,hq⟩
       replace hj:j≤b:=hj;replace hq:q=v / 2 ^ j:=hq;obtain ⟨hq0,hq1,hqn⟩:=ZhR hv0 hv2 j;rw[← hq]at hq0 hq1 hqn;simp only[I75,J75,K75,L75,T75];by_cases hjb:j<b
       ·have hjI:(j:Int)<(b:Int):=by omega
        have w2:IntKind.wrap .i64 (q.tdiv 2)=q / 2:=by
         rw[Int.tdiv_eq_ediv_of_nonneg hq0];exact Zg (by omega) (by omega)
        have w3:IntKind.wrap .i64 ((j:Int)+1)=(j:Int)+1:=Zg (by omega) (by omega)
        repeat' with_reducible (first|refine ZR.h ?_|refine kI ?_|(refine kR hE ?_;intro K hK;simp[hkn,hkv,hkI,hvl,hrow,hrow2,hjI,w2,w3];(repeat' (first|refine hK _ _ ?_|apply And.intro|(intro hc;try subst hc)))<;>(try clear hK K))|(refine kT (fun hc=>?_) (fun hc=>?_)<;>simp at hc<;>(try subst hc)))
        all_goals refine ⟨(q / 2,j+1),⟨hjb,hqn.symm⟩,Nat.sub_lt_sub_left hjb (Nat.lt_succ_self j),?_⟩
        all_goals simp only[I75,J75,K75,L75,T75]
        all_goals rw[hS]
        all_goals (refine Imp.aut ?_ ?_<;>simp[NLe,hT,hC,hT2,hC2,hvl])
       ·have hjI:¬ (j:Int)<(b:Int):=by omega
        have hje:j=b:=(by omega);subst hje;have htop:=ZjR hv0 j;rw[← hq]at htop;by_cases h2:2 ^ j - 1<v
        ·rw[if_pos h2]at hpk
         have hq2:=htop.2 h2;have hnone:Yh els vs els.length=none:=by
          have:=VF hpk (els.length - (k+1))
          rwa [show k+1+(els.length - (k+1))=els.length from by omega]at this
         repeat' with_reducible (first|refine ZR.h ?_|refine kI ?_|(refine kR hE ?_;intro K hK;simp[hkn,hkv,hkI,hvl,hrow,hrow2,hjI,hq2];(repeat' (first|refine hK _ _ ?_|apply And.intro|(intro hc;try subst hc)))<;>(try clear hK K))|(refine kT (fun hc=>?_) (fun hc=>?_)<;>simp at hc<;>(try subst hc)))
         all_goals first|(show Zb _ _=true;kernel_rfl)|(simp;done)|((try simp[hnone,Tj]);refine Imp.aut ?_ ?_<;>simp[NLe,hnone,Tj])
        ·rw[if_neg h2]at hpk
         have hq2:¬ 0<q:=fun h=>h2 (htop.1 h)
         repeat' with_reducible (first|refine ZR.h ?_|refine kI ?_|(refine kR hE ?_;intro K hK;simp[hkn,hkv,hkI,hvl,hrow,hrow2,hjI,hq2,w1];(repeat' (first|refine hK _ _ ?_|apply And.intro|(intro hc;try subst hc)))<;>(try clear hK K))|(refine kT (fun hc=>?_) (fun hc=>?_)<;>simp at hc<;>(try subst hc)))
         all_goals refine ⟨k+1,⟨hkn,_,hpk⟩,Nat.sub_lt_sub_left hkn (Nat.lt_succ_self k),?_⟩
         all_goals simp only[I75,J75,K75,L75,T75]
         all_goals rw[hS]
         all_goals (refine Imp.aut ?_ ?_<;>simp[NLe,hT,hC,hT2,hC2,hvl])
    ·have hke:k=els.length:=by omega
     subst hke;have w4:IntKind.wrap .i64 ((els.length:Int) - 1)=(els.length:Int) - 1:=Zg (by omega) (by omega);obtain ⟨hX0,hX1⟩:=Vg hw els.length x (Nat.le_refl _) hx;have hln:=Ta hw els.length (Nat.le_refl _);have hX2:x<18446744073709551616:=by
      have:=Zbh (a:=(YV els els.length).toNat) (b:=64) (by omega);omega
     repeat' with_reducible (first|refine ZR.h ?_|refine kI ?_|(refine kR hE ?_;intro K hK;simp[hvl,w4];(repeat' (first|refine hK _ _ ?_|apply And.intro|(intro hc;try subst hc)))<;>(try clear hK K))|(refine kT (fun hc=>?_) (fun hc=>?_)<;>simp at hc<;>(try subst hc)))
     all_goals (refine kL (fun (y:Int×Nat)=>K75 els vs y.1 y.2) (fun y=>y.2≤els.length∧0≤y.1∧∃ z,Yh els vs y.2=some z∧z+y.1*2 ^ (YV els y.2).toNat=x) (fun y=>y.2) (0,els.length) ⟨Nat.le_refl _,Int.le_refl _,x,hx,by simp⟩ ?_ ?_)
     ·simp only[I75,J75,K75,L75,T75]
      rw[hS]
      (refine Imp.aut ?_ ?_<;>simp[NLe,hT,hC,hT2,hC2,hvl])
     ·intro ⟨W,i⟩ ⟨hi,hW0,z,hz,hzW⟩
      replace hi:i≤els.length:=hi;replace hW0:0≤W:=hW0;replace hz:Yh els vs i=some z:=hz;replace hzW:z+W*2 ^ (YV els i).toNat=x:=hzW;simp only[I75,J75,K75,L75,T75];by_cases hi0:0<i
      ·obtain ⟨k,rfl⟩:∃ k,i=k+1:=⟨i - 1,by omega⟩
       have hkn:k<els.length:=(by omega);have hkv:k<vs.length:=(by omega);obtain ⟨w,hrow,hw1,hw2⟩:=Xo (List.all_eq_true.1 hw _ (List.getElem_mem hkn));have hrow2:els[k]?=some [.int .i64 w]:=(by rw[List.getElem?_eq_getElem hkn,hrow]);obtain ⟨v,hvr,hv1,hv2⟩:=vi (List.all_eq_true.1 hv _ (List.getElem_mem hkv));have hvr2:vs[k]?=some [.int .i64 v]:=(by rw[List.getElem?_eq_getElem hkv,hvr]);have hcw:ZM (els.getD k [])=w:=(by rw[List.getD_eq_getElem?_getD,hrow2];rfl);have hcv:ZM (vs.getD k [])=v:=(by rw[List.getD_eq_getElem?_getD,hvr2];rfl);have hsucc:=XF hrow2;have hb:=Ta hw k (by omega);have hle:=xi hw (show k+1≤els.length by omega) (Nat.le_refl _);obtain ⟨b,rfl⟩:∃ b:Nat,w=(b:Int):=⟨w.toNat,by omega⟩;obtain ⟨lo,hlo⟩:∃ lo:Nat,YV els k=(lo:Int):=⟨(YV els k).toNat,by omega⟩;obtain ⟨hp1,hp2⟩:=vS (b:=b) (by omega);have hkI:(k:Int)<(els.length:Int):=(by omega);have hge:(0:Int)≤(((k+1:Nat):Int) - 1):=(by omega);have hsub:(((k+1:Nat):Int) - 1)=(k:Int):=(by omega);have hpk:=hz;simp only[Yh]at hpk;cases hz2:Yh els vs k with
       | none=>rw[hz2]at hpk;cases hpk
       | some z2 =>
        rw[hz2]at hpk;simp only[hcw,hcv,hlo,Int.toNat_natCast]at hpk;by_cases h1:v<0
        ·rw[if_pos h1]at hpk;cases hpk
        ·rw[if_neg h1]at hpk
         by_cases h2:2 ^ b - 1<v
         ·rw[if_pos h2]at hpk;cases hpk
         ·rw[if_neg h2]at hpk
          injection hpk with hpk;rw[hsucc,hlo,show ((lo:Int)+(b:Int)).toNat=lo+b from by omega,Int.pow_add]at hzW;have hnew:z2+(W*2 ^ b+v)*2 ^ lo=x:=by
           rw[Int.add_mul,Int.mul_assoc,Int.mul_comm (2 ^ b:Int)];omega
          have hlop:(1:Int)≤2 ^ lo:=(by have:(0:Int)<2 ^ lo:=Int.pow_pos (by omega);omega);obtain ⟨hz20,_⟩:=Vg hw k z2 (by omega) hz2;have hWb:0≤W*2 ^ b:=Int.mul_nonneg hW0 (by omega);have hle2:W*2 ^ b+v≤x:=by
           have:(W*2 ^ b+v)*1≤(W*2 ^ b+v)*2 ^ lo:=Int.mul_le_mul_of_nonneg_left hlop (by omega);omega
          have hwv:IntKind.wrap .u64 v=v:=YK (by omega) (by omega);have hws:IntKind.wrap .u64 (W*2 ^ b+v)=W*2 ^ b+v:=YK (by omega) (by omega)
          repeat' with_reducible (first|refine ZR.h ?_|refine kI ?_|(refine kR hE ?_;intro K hK;simp[hkn,hvl,hge,hsub];(repeat' (first|refine hK _ _ ?_|apply And.intro|(intro hc;try subst hc)))<;>(try clear hK K))|(refine kT (fun hc=>?_) (fun hc=>?_)<;>simp at hc<;>(try subst hc)))
          all_goals (refine kL (fun (y:Int×Nat)=>L75 els vs y.1 (k+1) y.2) (fun y=>y.2≤b∧y.1=W*2 ^ y.2) (fun y=>b - y.2) (W,0) ⟨Nat.zero_le _,by simp⟩ ?_ ?_)
          ·simp only[I75,J75,K75,L75,T75]
           rw[hS]
           (refine Imp.aut ?_ ?_<;>simp[NLe,hT,hC,hT2,hC2,hvl,hsub])
          ·intro ⟨q,j⟩ ⟨hj,hq⟩
           replace hj:j≤b:=hj;replace hq:q=W*2 ^ j:=hq;simp only[I75,J75,K75,L75,T75];by_cases hjb:j<b
           ·have hjI:(j:Int)<(b:Int):=by omega
            have hq2:q*2=W*2 ^ (j+1):=(by rw[hq,Int.pow_succ,Int.mul_assoc]);have hq3:W*2 ^ (j+1)≤W*2 ^ b:=Int.mul_le_mul_of_nonneg_left (Zbh hjb) hW0;have hq0:0≤q:=(by rw[hq];exact Int.mul_nonneg hW0 (Int.le_of_lt (Int.pow_pos (by omega))));have w2:IntKind.wrap .u64 (q*2)=q*2:=YK (by omega) (by omega);have w3:IntKind.wrap .i64 ((j:Int)+1)=(j:Int)+1:=Zg (by omega) (by omega)
            repeat' with_reducible (first|refine ZR.h ?_|refine kI ?_|(refine kR hE ?_;intro K hK;simp[hkn,hkv,hkI,hvl,hrow,hrow2,hjI,w2,w3,hsub];(repeat' (first|refine hK _ _ ?_|apply And.intro|(intro hc;try subst hc)))<;>(try clear hK K))|(refine kT (fun hc=>?_) (fun hc=>?_)<;>simp at hc<;>(try subst hc)))
            all_goals refine ⟨(q*2,j+1),⟨hjb,hq2⟩,Nat.sub_lt_sub_left hjb (Nat.lt_succ_self j),?_⟩
            all_goals simp only[I75,J75,K75,L75,T75]
            all_goals rw[hS]
            all_goals (refine Imp.aut ?_ ?_<;>simp[NLe,hT,hC,hT2,hC2,hvl,hsub])
           ·have hjI:¬ (j:Int)<(b:Int):=by omega
            have hje:j=b:=(by omega);subst hje;have hqv:IntKind.wrap .u64 (q+v)=q+v:=(by rw[hq];exact hws);have w5:IntKind.wrap .i64 ((k:Int) - 1)=(k:Int) - 1:=Zg (by omega) (by omega)
            repeat' with_reducible (first|refine ZR.h ?_|refine kI ?_|(refine kR hE ?_;intro K hK;simp[hkn,hkv,hkI,hvl,hrow,hrow2,hvr,hvr2,hjI,hsub,hwv,hqv,w5];(repeat' (first|refine hK _ _ ?_|apply And.intro|(intro hc;try subst hc)))<;>(try clear hK K))|(refine kT (fun hc=>?_) (fun hc=>?_)<;>simp at hc<;>(try subst hc)))
            all_goals refine ⟨(q+v,k),⟨Nat.le_of_lt hkn,by rw[hq];show 0≤W*2 ^ j+v;omega,z2,hz2,by rw[hq,hlo];exact hnew⟩,Nat.lt_succ_self k,?_⟩
            all_goals simp only[I75,J75,K75,L75,T75]
            all_goals rw[hS]
            all_goals (refine Imp.aut ?_ ?_<;>simp[NLe,hT,hC,hT2,hC2,hvl])
      ·have hi0:i=0:=by omega
       subst hi0;have hWx:W=x:=by
        simp only[Yh,Option.some.injEq]at hz;subst hz;simp[YV]at hzW;exact hzW
       subst hWx
       repeat' with_reducible (first|refine ZR.h ?_|refine kI ?_|(refine kR hE ?_;intro K hK;simp[hvl];(repeat' (first|refine hK _ _ ?_|apply And.intro|(intro hc;try subst hc)))<;>(try clear hK K))|(refine kT (fun hc=>?_) (fun hc=>?_)<;>simp at hc<;>(try subst hc)))
       all_goals first|(show Zb _ _=true;kernel_rfl)|(simp;done)|((try simp[hx,Tj]);refine Imp.aut ?_ ?_<;>simp[NLe,hx,Tj])
  ·cases h
 ·cases h
def VA:Option Int→AV
 | some x=>.tup [.int .u64 x,.int .i64 0]
 | none=>.tup [.int .u64 0,.int .i64 5]
def UV (t:TmZ):Option Int:=Yh [[.int .i64 4],[.int .i64 1],[.int .i64 16],[.int .i64 16],[.int .i64 24]] [[.int .i64 t.nm],[.int .i64 t.sd],[.int .i64 t.pr],[.int .i64 t.le],[.int .i64 t.un]] 5
theorem ZbA {t:TmZ} {v:Int} (h:UV t=some v):0≤v∧v<18446744073709551616:=by
 unfold UV at h;have:=Vg (by simp[Ut]) 5 v (by simp) h;have e:(YV [[AV.int .i64 4],[AV.int .i64 1],[AV.int .i64 16],[AV.int .i64 16],[AV.int .i64 24]] 5).toNat=61:=by simp[YV,ZM]
 rw[e]at this;omega
def d34:List AV→List NObj→Option AV
 | [.agg [.int .i64 k,.bool fl,.int .i64 sg,.int .i64 sl,.int .i64 sf]],[]=>if -9223372036854775808≤k∧k≤9223372036854775807∧-9223372036854775808≤sg∧sg≤9223372036854775807∧-9223372036854775808≤sl∧sl≤9223372036854775807∧-9223372036854775808≤sf∧sf≤9223372036854775807 then some (VA (ZX ⟨k,fl,sg,sl,sf⟩)) else none
 | _,_=>none
theorem ok34:ROk d34:=by
 intro xs os r h;unfold d34 at h
 (repeat' (split at h))<;>first|(cases h;done)|(injection h with h;subst h;unfold VA;split<;>simp)
theorem s34:Sound Tryz.prog 34 (rdS d34 ok34):=by
 refine Zo (ac:=?ac) (res:=?res) Tryz.func34 (by kernel_rfl) (ha:=?ha) (hk:=?hk) (hok:=ok34) fun xs os r h vs ρ0 hvs=>?w
 case ha=>conv=>lhs;cbv
 case hk=>kernel_rfl
 refine ⟨xs,?_,fun _ h=>h,fun w0 S hS=>?_⟩
 ·unfold d34 at h
  (repeat' (split at h))<;>first|(cases h;done)|exact Nat.le_of_ble_eq_true rfl
 unfold d34 at h;split at h
 ·split at h
  ·rename_i k fl sg sl sf hcond
   injection h with h;subst h;have hE:Zd Tryz.prog (EL [(74,rdS d74 ok74)]):=Ze (by simp only[List.mem_cons,List.not_mem_nil,or_false,forall_eq_or_imp,forall_eq];exact s74);by_cases h1:8<k
   ·skip
    repeat' with_reducible (first|refine ZR.h ?_|refine kI ?_|(refine kR hE ?_;intro K hK;simp[h1,d74];(repeat' (first|refine hK _ _ ?_|apply And.intro|(intro hc;try subst hc)))<;>(try clear hK K))|(refine kT (fun hc=>?_) (fun hc=>?_)<;>simp at hc<;>(try subst hc)))
    all_goals first|(show Zb _ _=true;kernel_rfl)|(simp;done)|(simp at *;omega)|((try simp[h1,ZX,VA]);refine Imp.aut ?_ ?_<;>simp[NLe,h1,ZX,VA])
   ·cases fl
    ·obtain ⟨P,hP⟩:∃ P,Yh [[.int .i64 4],[.int .i64 1],[.int .i64 8],[.int .i64 16],[.int .i64 8]] [[.int .i64 k],[.int .i64 0],[.int .i64 sg],[.int .i64 sl],[.int .i64 sf]] 5=P:=⟨_,rfl⟩
     cases P
     ·skip
      repeat' with_reducible (first|refine ZR.h ?_|refine kI ?_|(refine kR hE ?_;intro K hK;simp[h1,Ut,isV,YV,ZM,hcond,hP,Tj,d74];(repeat' (first|refine hK _ _ ?_|apply And.intro|(intro hc;try subst hc)))<;>(try clear hK K))|(refine kT (fun hc=>?_) (fun hc=>?_)<;>simp at hc<;>(try subst hc)))
      all_goals first|(show Zb _ _=true;kernel_rfl)|(simp;done)|(simp at *;omega)|((try simp[h1,ZX,hP,VA]);refine Imp.aut ?_ ?_<;>simp[NLe,h1,ZX,hP,VA])
     ·skip
      repeat' with_reducible (first|refine ZR.h ?_|refine kI ?_|(refine kR hE ?_;intro K hK;simp[h1,Ut,isV,YV,ZM,hcond,hP,Tj,d74];(repeat' (first|refine hK _ _ ?_|apply And.intro|(intro hc;try subst hc)))<;>(try clear hK K))|(refine kT (fun hc=>?_) (fun hc=>?_)<;>simp at hc<;>(try subst hc)))
      all_goals first|(show Zb _ _=true;kernel_rfl)|(simp;done)|(simp at *;omega)|((try simp[h1,ZX,hP,VA]);refine Imp.aut ?_ ?_<;>simp[NLe,h1,ZX,hP,VA])
    ·obtain ⟨P,hP⟩:∃ P,Yh [[.int .i64 4],[.int .i64 1],[.int .i64 8],[.int .i64 16],[.int .i64 8]] [[.int .i64 k],[.int .i64 1],[.int .i64 sg],[.int .i64 sl],[.int .i64 sf]] 5=P:=⟨_,rfl⟩
     cases P
     ·skip
      repeat' with_reducible (first|refine ZR.h ?_|refine kI ?_|(refine kR hE ?_;intro K hK;simp[h1,Ut,isV,YV,ZM,hcond,hP,Tj,d74];(repeat' (first|refine hK _ _ ?_|apply And.intro|(intro hc;try subst hc)))<;>(try clear hK K))|(refine kT (fun hc=>?_) (fun hc=>?_)<;>simp at hc<;>(try subst hc)))
      all_goals first|(show Zb _ _=true;kernel_rfl)|(simp;done)|(simp at *;omega)|((try simp[h1,ZX,hP,VA]);refine Imp.aut ?_ ?_<;>simp[NLe,h1,ZX,hP,VA])
     ·skip
      repeat' with_reducible (first|refine ZR.h ?_|refine kI ?_|(refine kR hE ?_;intro K hK;simp[h1,Ut,isV,YV,ZM,hcond,hP,Tj,d74];(repeat' (first|refine hK _ _ ?_|apply And.intro|(intro hc;try subst hc)))<;>(try clear hK K))|(refine kT (fun hc=>?_) (fun hc=>?_)<;>simp at hc<;>(try subst hc)))
      all_goals first|(show Zb _ _=true;kernel_rfl)|(simp;done)|(simp at *;omega)|((try simp[h1,ZX,hP,VA]);refine Imp.aut ?_ ?_<;>simp[NLe,h1,ZX,hP,VA])
  ·cases h
 ·cases h
def d35:List AV→List NObj→Option AV
 | [.agg [.int .i64 n0,.int .i64 n1,.int .i64 n2,.int .i64 n3,.int .i64 n4]],[]=>if -9223372036854775808≤n0∧n0≤9223372036854775807∧-9223372036854775808≤n1∧n1≤9223372036854775807∧-9223372036854775808≤n2∧n2≤9223372036854775807∧-9223372036854775808≤n3∧n3≤9223372036854775807∧-9223372036854775808≤n4∧n4≤9223372036854775807 then some (VA (UV ⟨n0,n1,n2,n3,n4⟩)) else none
 | _,_=>none
theorem ok35:ROk d35:=by
 intro xs os r h;unfold d35 at h
 (repeat' (split at h))<;>first|(cases h;done)|(injection h with h;subst h;unfold VA;split<;>simp)
theorem s35:Sound Tryz.prog 35 (rdS d35 ok35):=by
 refine Zo (ac:=?ac) (res:=?res) Tryz.func35 (by kernel_rfl) (ha:=?ha) (hk:=?hk) (hok:=ok35) fun xs os r h vs ρ0 hvs=>?w
 case ha=>conv=>lhs;cbv
 case hk=>kernel_rfl
 refine ⟨xs,?_,fun _ h=>h,fun w0 S hS=>?_⟩
 ·unfold d35 at h
  (repeat' (split at h))<;>first|(cases h;done)|exact Nat.le_of_ble_eq_true rfl
 unfold d35 at h;split at h
 ·split at h
  ·rename_i n0 n1 n2 n3 n4 hcond
   injection h with h;subst h;have hE:Zd Tryz.prog (EL [(74,rdS d74 ok74)]):=Ze (by simp only[List.mem_cons,List.not_mem_nil,or_false,forall_eq_or_imp,forall_eq];exact s74);obtain ⟨P,hP⟩:∃ P,Yh [[.int .i64 4],[.int .i64 1],[.int .i64 16],[.int .i64 16],[.int .i64 24]] [[.int .i64 n0],[.int .i64 n1],[.int .i64 n2],[.int .i64 n3],[.int .i64 n4]] 5=P:=⟨_,rfl⟩;cases P
   ·skip
    repeat' with_reducible (first|refine ZR.h ?_|refine kI ?_|(refine kR hE ?_;intro K hK;simp[Ut,isV,YV,ZM,hcond,hP,Tj,d74];(repeat' (first|refine hK _ _ ?_|apply And.intro|(intro hc;try subst hc)))<;>(try clear hK K))|(refine kT (fun hc=>?_) (fun hc=>?_)<;>simp at hc<;>(try subst hc)))
    all_goals first|(show Zb _ _=true;kernel_rfl)|(simp;done)|(simp at *;omega)|((try simp[UV,hP,VA]);refine Imp.aut ?_ ?_<;>simp[NLe,UV,hP,VA])
   ·skip
    repeat' with_reducible (first|refine ZR.h ?_|refine kI ?_|(refine kR hE ?_;intro K hK;simp[Ut,isV,YV,ZM,hcond,hP,Tj,d74];(repeat' (first|refine hK _ _ ?_|apply And.intro|(intro hc;try subst hc)))<;>(try clear hK K))|(refine kT (fun hc=>?_) (fun hc=>?_)<;>simp at hc<;>(try subst hc)))
    all_goals first|(show Zb _ _=true;kernel_rfl)|(simp;done)|(simp at *;omega)|((try simp[UV,hP,VA]);refine Imp.aut ?_ ?_<;>simp[NLe,UV,hP,VA])
  ·cases h
 ·cases h
def W0 (a b c d e f g:Int):WZ:=⟨a,b,c,d,e,f,g,List.replicate (a*b*2+a*b*g*(f+1)).toNat [.int .u64 0],0,0,[]⟩
theorem ZdQ (n:Nat):(List.replicate n [AV.int .u64 0]).all isW=true:=by
 induction n with
 | zero=>rfl
 | succ n ih=>rw[List.replicate_succ,List.all_cons,ih];rfl
def XL (m:Nat) (ex:List (Nat×Option Nat)) (s s':St):List (Nat×Option Nat):=ddL (idL m++(ex++prT s.tl s'.tl))
theorem Imp.autoX {m:Nat} {s s':St} (ex:List (Nat×Option Nat)) (h:plB m (XL m ex s s') s'.nb=true) (ht:∀ p,p∈s'.tl→Ren (YP (XL m ex s s') (hk s.hl) (hk s'.hl)) (lk s.tl p.1) p.2)
  (ho:∀ p,p∈s'.hl→p.2.tag<s'.nb∧(match lkp (XL m ex s s') p.1 with
  | some (some y)=>NLe (YP (XL m ex s s') (hk s.hl) (hk s'.hl)) (hk s.hl y) p.2
  | some none=>p.2.none
  | none=>p.2=.free)):Imp m s s':=Imp.le _ (LeN.mk' h ht ho)
def A0 (a b c d e f g:Int) (rp:List (List AV)):St:=⟨[(0,.tup [.ptr (.top 0) 0 0,.raw .nilIface])],[(0,.cells 0 [.int .i64 a,.int .i64 b,.int .i64 c,.int .i64 d,.int .i64 e,.int .i64 f,.int .i64 g,.ptr (.top 1) 0 0,.ptr (.top 2) 0 0,.sl (.top 3) 0 0]),(1,.cells 0 [.os 0 1 rp,.int .i64 0,.bot,.bot,.bot,.bot,.bot]),(2,.cells 0 [.int .u64 0]),(3,.arr 0 14 [])],4⟩
def d32:List AV→Option Ans
 | [.agg [.int .i64 a,.int .i64 b,.int .i64 c,.int .i64 d,.int .i64 e,.int .i64 f,.int .i64 g]]=>if X7 a b c d e f g=true then some ⟨.tup [.op 0 (wzC (W0 a b c d e f g)),.raw .nilIface],[]⟩ else none
 | _=>none
theorem ok32:NOk [] d32:=by
 intro xs aa h;unfold d32 at h;split at h
 ·split at h
  ·rename_i a b c d e f g hc
   have hT:=ZW (ZdQ (a*b*2+a*b*g*(f+1)).toNat);have hC:=ZV (ZdQ (a*b*2+a*b*g*(f+1)).toNat);injection h with h;subst h;refine ⟨Zp ?_,?_⟩<;>simp[wzC,W0,hT,hC]
  ·cases h
 ·cases h
theorem s32:Sound Tryz.prog 32 (Zm [] d32 ok32):=by
 refine Zi (ac:=?ac) (res:=?res) Tryz.func32 (by kernel_rfl) (ha:=?ha) (hk:=?hk) (hok:=ok32) (fun xs a h=>?_) fun xs a h w0 S hS=>?_
 case ha=>conv=>lhs;cbv
 case hk=>kernel_rfl
 ·unfold d32 at h
  (repeat' (split at h))<;>first|(cases h;done)|exact Nat.le_of_ble_eq_true rfl
 unfold d32 at h;split at h
 ·split at h
  ·rename_i a b c d e f g hcond
   injection h with h;subst h;have hE:Zd Tryz.prog (EL [(30,Zm [] d30 ok30),(73,rdS d73 ok73),(72,Zm [] d72 ok72)]):=Ze (by simp only[List.mem_cons,List.not_mem_nil,or_false,forall_eq_or_imp,forall_eq];exact ⟨s30,s73,s72⟩);have hc:=ZE hcond;have hall:=ZB hcond;have hwd:=Yt (f:=f) (g:=g) (show 0≤a*b by omega) hall.2 (by omega) (by omega);have hck:Xs a b c d e f g=-1:=(Tg a b c d e f g).mpr hcond;obtain ⟨wn,hwn⟩:∃ wn,a*b*2+a*b*g*(f+1)=wn:=⟨_,rfl⟩;have hwn2:0≤wn∧wn≤8192:=(by omega);have h42:d30 [.agg [.int .i64 a,.int .i64 b,.int .i64 c,.int .i64 d,.int .i64 e,.int .i64 f,.int .i64 g]]=some ⟨.tup [.agg [.int .i64 a,.int .i64 b,.int .i64 c,.int .i64 d,.int .i64 e,.int .i64 f,.int .i64 g],.raw .nilIface],[]⟩:=by
    simp only[d30];rw[if_pos hck]
   have h74:d73 [.agg [.int .i64 a,.int .i64 b,.int .i64 c,.int .i64 d,.int .i64 e,.int .i64 f,.int .i64 g]] []=some (.int .i64 wn):=by
    simp only[d73];rw[if_pos hcond,hwn]
   have hT:=ZW (ZdQ wn.toNat);have hC:=ZV (ZdQ wn.toNat);have h73:d72 [.int .i64 wn]=some ⟨.tup [.op 0 [.os 0 1 (List.replicate wn.toNat [.int .u64 0]),.int .i64 0,.bot,.bot,.bot,.bot,.bot],.raw .nilIface],[]⟩:=by
    simp only[d72];rw[if_pos hwn2]
   obtain ⟨rp,hrp⟩:∃ r,List.replicate wn.toNat [AV.int .u64 0]=r:=⟨_,rfl⟩;rw[hrp]at hT hC h73;simp only[wzC,W0,hwn,hrp]
   repeat' with_reducible (first|refine ZR.h ?_|refine kI ?_|(refine kR hE ?_;intro K hK;simp[h42,h74,h73,hT,hC];(repeat' (first|refine hK _ _ ?_|apply And.intro|(intro hc;try subst hc)))<;>(try clear hK K))|(refine kT (fun hc=>?_) (fun hc=>?_)<;>simp at hc<;>(try subst hc)))
   all_goals (try simp[hT,hC])
   all_goals (refine Imp.trans (t:=A0 a b c d e f g rp) (Imp.autoX [(1,some 128),(2,some 216),(3,none)] (by kernel_rfl) ?_ ?_) ?_)
   all_goals first|(simp[A0,XL,YP,lkp,Vq,prs,V9,prT,ddL,idL,NLe,Yy,Ue,Ren,Ve,NObj.none,ZT,hT,hC];done)|skip
   all_goals (refine Imp.trans (Imp.absorb (.top 0) 0 7 1 (by rfl) (by rfl) (by rfl) (.inr ⟨0,_,by rfl,by rfl⟩) (by simp)) ?_)
   all_goals (refine Imp.trans (Imp.absorb (.top 0) 0 8 2 (by rfl) (by rfl) (by rfl) (.inr ⟨0,_,by rfl,by rfl⟩) (by simp)) ?_)
   all_goals (refine Imp.trans (Imp.absorb (.top 0) 0 9 3 (by rfl) (by rfl) (by rfl) (.inl ⟨0,14,[],by rfl,by rfl⟩) (by simp)) ?_)
   all_goals (simp only[A0];refine Imp.aut ?_ ?_<;>simp[YP,lkp,Vq,prs,V9,prT,ddL,idL,NLe,Yy,Ue,Ren,Ve,NObj.none,ZT,hT,hC,Xb,ZZ])
  ·cases h
 ·cases h
theorem Tm {c:List AV} (h:t0L c=c):∀ k,Yo (List.replicate k c)=List.replicate k c
 | 0=>rfl
 | k+1=>by rw[List.replicate_succ];simp only[Yo,h,Tm h k]
theorem To {c:List AV} (h:clL c=true):∀ k,Xr (List.replicate k c)=true
 | 0=>rfl
 | k+1=>by rw[List.replicate_succ];simp only[Xr,h,To h k,Bool.and_self]
def jzR (m:Nat):List AV:=[.os 0 6 (List.replicate m [.int .i64 0,.int .i64 0,.int .i64 0,.int .i64 0,.int .i64 0,.int .i64 0])]
def jzL (n m:Nat):List (List AV):=List.replicate n (jzR m)
theorem ZjX (m:Nat):t0L (jzR m)=jzR m:=by
 have h:=Tm (c:=[.int .i64 0,.int .i64 0,.int .i64 0,.int .i64 0,.int .i64 0,.int .i64 0]) rfl m;simp[jzR,t0L,AV.t0,h]
theorem ZkF (m:Nat):clL (jzR m)=true:=by
 have h:=To (c:=[.int .i64 0,.int .i64 0,.int .i64 0,.int .i64 0,.int .i64 0,.int .i64 0]) rfl m;simp[jzR,clL,AV.cl,h]
theorem ZcT (q:Nat):∀ m:Nat,UR q (List.replicate m [AV.int .i64 0,.int .i64 0,.int .i64 0,.int .i64 0,.int .i64 0,.int .i64 0])=true
 | 0=>rfl
 | m+1=>by rw[List.replicate_succ];simp only[UR,ZcT q m,tlL,AV.tl,Bool.and_self]
@[simp] theorem ZkK (n m:Nat):Yo (jzL n m)=jzL n m:=Tm (ZjX m) n
@[simp] theorem jzL_cl (n m:Nat):Xr (jzL n m)=true:=To (ZkF m) n
theorem TP (n m:Nat):(jzL n m).length=n:=List.length_replicate ..
theorem Zhi {q:Nat} (hq:0<q) (m:Nat):∀ n,UR q (jzL n m)=true
 | 0=>rfl
 | n+1=>by
  have h:=Zhi hq m n;unfold jzL at h⊢;rw[List.replicate_succ];have h2:tlL q (jzR m)=true:=by simp[jzR,tlL,AV.tl,ZcT q m,hq]
  simp only[UR,h,h2,Bool.and_self]
theorem Zd6 (n m:Nat) (r:List AV):(jzL n m++[r])[n]?=some r:=by
 rw[List.getElem?_append_right (by rw[TP];omega),TP];simp
theorem Zjw (n m:Nat) (r:List AV):Yo ((jzL n m++[r]).set n [.os 0 6 (List.replicate m [.int .i64 0,.int .i64 0,.int .i64 0,.int .i64 0,.int .i64 0,.int .i64 0])])=jzL (n+1) m:=by
 have e:(jzL n m++[r]).set n (jzR m)=jzL (n+1) m:=by
  rw[List.set_append_right _ _ (by rw[TP];omega),TP];simp[jzL,List.replicate_succ']
 show Yo ((jzL n m++[r]).set n (jzR m))=_;rw[e,ZkK]
def qC (a b c d e f g:Int) (S T:List (List AV)):List AV:=[.int .i64 a,.int .i64 b,.int .i64 c,.int .i64 d,.int .i64 e,.int .i64 f,.int .i64 g,.os 0 5 S,.os 0 5 T,.os 0 1 (jzL (a*b).toNat (g*(f+1)).toNat),.int .i64 0,.os 0 14 [],.int .i64 0]
def zS (n:Nat):List (List AV):=List.replicate n [.int .i64 0,.bool false,.int .i64 0,.int .i64 0,.int .i64 0]
def zT (n:Nat):List (List AV):=List.replicate n [.int .i64 0,.int .i64 0,.int .i64 0,.int .i64 0,.int .i64 0]
def d33:List AV→Option Ans
 | [.agg [.int .i64 a,.int .i64 b,.int .i64 c,.int .i64 d,.int .i64 e,.int .i64 f,.int .i64 g]]=>if X7 a b c d e f g=true then some ⟨.op 0 (qC a b c d e f g (zS (a*b).toNat) (zT (a*b).toNat)),[]⟩ else none
 | _=>none
theorem ok33:NOk [] d33:=by
 intro xs aa h;unfold d33 at h;split at h
 ·split at h
  ·rename_i a b c d e f g hc
   have h1:=Tm (c:=[.int .i64 0,.bool false,.int .i64 0,.int .i64 0,.int .i64 0]) rfl (a*b).toNat;have h2:=To (c:=[.int .i64 0,.bool false,.int .i64 0,.int .i64 0,.int .i64 0]) rfl (a*b).toNat;have h3:=Tm (c:=[.int .i64 0,.int .i64 0,.int .i64 0,.int .i64 0,.int .i64 0]) rfl (a*b).toNat;have h4:=To (c:=[.int .i64 0,.int .i64 0,.int .i64 0,.int .i64 0,.int .i64 0]) rfl (a*b).toNat;injection h with h;subst h;refine ⟨Zp ?_,?_⟩<;>simp[qC,zS,zT,h1,h2,h3,h4]
  ·cases h
 ·cases h
def I44 (a b c d e f g n:Int) (S T:List (List AV)) (m i:Nat):St:=⟨[(1,.ptr (.top 0) 0 0),(3,.int .i64 n),(4,.ptr (.top 1) 0 0),(5,.int .i64 i)],[(0,.cells 0 [.int .i64 a,.int .i64 b,.int .i64 c,.int .i64 d,.int .i64 e,.int .i64 f,.int .i64 g]),(1,.cells 0 [.int .i64 a,.int .i64 b,.int .i64 c,.int .i64 d,.int .i64 e,.int .i64 f,.int .i64 g,.sl (.top 2) 0 n.toNat,.sl (.top 3) 0 n.toNat,.sl (.top 4) 0 i,.int .i64 0,.nsl,.int .i64 0]),(2,.arr 0 5 S),(3,.arr 0 5 T),(4,.arr 0 1 (jzL i m))],5⟩
def E44 (a b c d e f g n:Int) (S T:List (List AV)) (m:Nat):St:=⟨[(0,.ptr (.top 0) 0 0)],[(0,.cells 0 [.int .i64 a,.int .i64 b,.int .i64 c,.int .i64 d,.int .i64 e,.int .i64 f,.int .i64 g,.sl (.top 1) 0 n.toNat,.sl (.top 2) 0 n.toNat,.sl (.top 3) 0 n.toNat,.int .i64 0,.sl (.top 4) 0 0,.int .i64 0]),(1,.arr 0 5 S),(2,.arr 0 5 T),(3,.arr 0 1 (jzL n.toNat m)),(4,.arr 0 14 [])],5⟩
theorem s33:Sound Tryz.prog 33 (Zm [] d33 ok33):=by
 refine Zi (ac:=?ac) (res:=?res) Tryz.func33 (by kernel_rfl) (ha:=?ha) (hk:=?hk) (hok:=ok33) (fun xs a h=>?_) fun xs a h w0 S hS=>?_
 case ha=>conv=>lhs;cbv
 case hk=>kernel_rfl
 ·unfold d33 at h
  (repeat' (split at h))<;>first|(cases h;done)|exact Nat.le_of_ble_eq_true rfl
 unfold d33 at h;split at h
 ·split at h
  ·rename_i a b c d e f g hcond
   injection h with h;subst h;have hE:Zd Tryz.prog (EL []):=Ze (by simp);have hc:=ZE hcond;have hall:=ZB hcond;obtain ⟨wn,hwn⟩:∃ wn,a*b=wn:=⟨_,rfl⟩;have hwf:=Yt (f:=f) (g:=g) (show 0≤a*b by omega) hall.2 (by omega) (by omega);have hgf:=Xh (show 0≤g by omega) (show g≤15 by omega) (show 0≤f+1 by omega) (show f+1≤5 by omega);rw[hwn]at hall;obtain ⟨gf,hgfe⟩:∃ z,g*(f+1)=z:=⟨_,rfl⟩;rw[hgfe]at hgf;have w1:IntKind.wrap .i64 wn=wn:=Zg (by omega) (by omega);have w2:IntKind.wrap .i64 (f+1)=f+1:=Zg (by omega) (by omega);have w3:IntKind.wrap .i64 gf=gf:=Zg (by omega) (by omega);have h1:=Tm (c:=[.int .i64 0,.bool false,.int .i64 0,.int .i64 0,.int .i64 0]) rfl wn.toNat;have h2:=To (c:=[.int .i64 0,.bool false,.int .i64 0,.int .i64 0,.int .i64 0]) rfl wn.toNat;have h3:=Tm (c:=[.int .i64 0,.int .i64 0,.int .i64 0,.int .i64 0,.int .i64 0]) rfl wn.toNat;have h4:=To (c:=[.int .i64 0,.int .i64 0,.int .i64 0,.int .i64 0,.int .i64 0]) rfl wn.toNat;have hl1:(zS wn.toNat).length=wn.toNat:=List.length_replicate ..;have hl2:(zT wn.toNat).length=wn.toNat:=List.length_replicate ..;simp only[hwn];have hT1:Yo (zS wn.toNat)=zS wn.toNat:=h1;have hT2:Xr (zS wn.toNat)=true:=h2;have hT3:Yo (zT wn.toNat)=zT wn.toNat:=h3;have hT4:Xr (zT wn.toNat)=true:=h4;have n0:0≤wn:=(by omega);have n1:wn≤24:=(by omega);have n2:wn*40≤281474976710656:=(by omega);have n3:wn≤9223372036854775807:=(by omega);have n4:0<wn:=(by omega);have m0:0≤gf:=(by omega);have m2:gf*48≤281474976710656:=by omega
   have m3:gf≤9223372036854775807:=by omega
   repeat' with_reducible (first|refine ZR.h ?_|refine kI ?_|((first|refine kR hE ?_|refine kD hE Zq ?_);intro K hK;simp[hwn,w1,n0,n2,n3,n4];(repeat' (first|refine hK _ _ ?_|apply And.intro|(intro hc;try subst hc)))<;>(try clear hK K))|(refine kT (fun hc=>?_) (fun hc=>?_)<;>simp at hc<;>(try subst hc)))
   all_goals try (show Zb _ _=true;kernel_rfl)
   all_goals (refine kL (fun i=>I44 a b c d e f g wn (zS wn.toNat) (zT wn.toNat) gf.toNat i) (fun i=>i≤wn.toNat) (fun i=>wn.toNat - i) 0 (Nat.zero_le _) ?_ ?_)
   ·simp only[I44]
    rw[hS];refine Imp.autoX [(2,some 80),(3,some 96),(4,none)] (by kernel_rfl) ?_ ?_<;>simp[NLe,XL,zS,zT,jzL,h1,h2,h3,h4]
   ·intro i hi
    replace hi:i≤wn.toNat:=hi;simp only[I44];have hbl:=TP i gf.toNat;have htl:∀ q,0<q→UR q (jzL i gf.toNat)=true:=fun q hq=>Zhi hq _ i;by_cases hin:i<wn.toNat
    ·have hiI:(i:Int)<wn:=by omega
     have w4:IntKind.wrap .i64 ((i:Int)+1)=(i:Int)+1:=Zg (by omega) (by omega);have b1:(i+1)*24≤140737488355328:=(by omega);have b2:i+1≤9223372036854775807:=(by omega);have hgt:¬ gf<0:=by omega
     repeat' with_reducible (first|refine ZR.h ?_|refine kI ?_|((first|refine kR hE ?_|refine kD hE Zq ?_);intro K hK;simp[hiI,w2,w3,w4,hgfe,m0,m2,m3,hbl,b1,b2,htl];(repeat' (first|refine hK _ _ ?_|apply And.intro|(intro hc;try subst hc)))<;>(try clear hK K))|(refine kT (fun hc=>?_) (fun hc=>?_)<;>simp at hc<;>(try subst hc)))
     all_goals try (show Zb _ _=true;kernel_rfl)
     all_goals refine ⟨i+1,hin,Nat.sub_lt_sub_left hin (Nat.lt_succ_self i),?_⟩
     all_goals simp only[I44]
     all_goals rw[hS]
     all_goals (refine Imp.trans (Imp.absorb (.top 133) i 0 117 (by rfl) (Zd6 _ _ _) (by rfl) (.inl ⟨0,6,List.replicate gf.toNat [.int .i64 0,.int .i64 0,.int .i64 0,.int .i64 0,.int .i64 0,.int .i64 0],by simp,by rfl⟩) (by simp)) ?_)
     all_goals (refine Imp.autoX [(2,some 2),(3,some 3),(4,some 133)] (by kernel_rfl) ?_ ?_<;>simp[NLe,XL,h1,h2,h3,h4,hT1,hT2,hT3,hT4,Xb,ZZ,Zd6,Zjw])
    ·have hiI:¬ (i:Int)<wn:=by omega
     have hie:i=wn.toNat:=by omega
     repeat' with_reducible (first|refine ZR.h ?_|refine kI ?_|((first|refine kR hE ?_|refine kD hE Zq ?_);intro K hK;simp[hiI];(repeat' (first|refine hK _ _ ?_|apply And.intro|(intro hc;try subst hc)))<;>(try clear hK K))|(refine kT (fun hc=>?_) (fun hc=>?_)<;>simp at hc<;>(try subst hc)))
     all_goals try (show Zb _ _=true;kernel_rfl)
     all_goals (try simp)
     all_goals (refine Imp.trans (t:=E44 a b c d e f g wn (zS wn.toNat) (zT wn.toNat) gf.toNat) (Imp.autoX [(1,some 2),(2,some 3),(3,some 4),(4,none)] (by kernel_rfl) ?_ ?_) ?_)
     all_goals first|(simp[E44,NLe,XL,hT1,hT2,hT3,hT4,hie,NObj.none];done)|skip
     all_goals (refine Imp.trans (Imp.absorb (.top 0) 0 7 1 (by rfl) (by rfl) (by rfl) (.inl ⟨0,5,zS wn.toNat,by rw[hl1],by rfl⟩) (by simp)) ?_)
     all_goals (refine Imp.trans (Imp.absorb (.top 0) 0 8 2 (by rfl) (by rfl) (by rfl) (.inl ⟨0,5,zT wn.toNat,by rw[hl2],by rfl⟩) (by simp)) ?_)
     all_goals (refine Imp.trans (Imp.absorb (.top 0) 0 9 3 (by rfl) (by rfl) (by rfl) (.inl ⟨0,1,jzL wn.toNat gf.toNat,by rw[TP],by rfl⟩) (by simp)) ?_)
     all_goals (refine Imp.trans (Imp.absorb (.top 0) 0 11 4 (by rfl) (by rfl) (by rfl) (.inl ⟨0,14,[],by rfl,by rfl⟩) (by simp)) ?_)
     all_goals (simp only[E44,qC,hwn,hgfe];refine Imp.aut ?_ ?_<;>simp[NLe,XL,hT1,hT2,hT3,hT4,Xb,ZZ])
  ·cases h
 ·cases h
end Go.W
