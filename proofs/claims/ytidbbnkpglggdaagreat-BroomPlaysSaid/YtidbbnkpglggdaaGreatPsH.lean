/- A part of the proofs about the pair's laws (PsG, PsH). -/
import Derived.Test.YtidbbnkpglggdaaGreatPsF
namespace Go.W
open Go.Proofs
set_option linter.unusedSimpArgs false
set_option linter.unusedVariables false
set_option maxHeartbeats 8000000
set_option maxRecDepth 100000
attribute [local irreducible] Wm WmA
attribute [local simp] YP lkp Vq prs V9 prT ddL idL Yy Ue Ren Ve NObj.none ZT
def isV:List AV→Bool
 | [.int .i64 v]=>decide (-9223372036854775808≤v)&&decide (v≤9223372036854775807)
 | _=>false
theorem vi {c:List AV} (h:isV c=true):∃ v:Int,c=[.int .i64 v]∧-9223372036854775808≤v∧v≤9223372036854775807:=by
 unfold isV at h;split at h
 ·simp only[Bool.and_eq_true,decide_eq_true_eq]at h;exact ⟨_,rfl,h⟩
 ·cases h
theorem v_t0:∀ {els:List (List AV)},els.all isV=true→Yo els=els
 | [],_=>rfl
 | c :: r,h=>by
  simp only[List.all_cons,Bool.and_eq_true]at h;obtain ⟨x,rfl,_⟩:=vi h.1;simp[Yo,t0L,AV.t0,v_t0 h.2]
theorem v_cl:∀ {els:List (List AV)},els.all isV=true→Xr els=true
 | [],_=>rfl
 | c :: r,h=>by
  simp only[List.all_cons,Bool.and_eq_true]at h;obtain ⟨x,rfl,_⟩:=vi h.1;simp[Xr,clL,AV.cl,v_cl h.2]
def Yh (els vs:List (List AV)):Nat→Option Int
 | 0=>some 0
 | k+1=>match Yh els vs k with
  | some x=>if ZM (vs.getD k [])<0 then none else if 2 ^ (ZM (els.getD k [])).toNat - 1<ZM (vs.getD k []) then none else some (x+ZM (vs.getD k [])*2 ^ (YV els k).toNat)
  | none=>none
theorem VF {els vs:List (List AV)} {k:Nat} (h:Yh els vs k=none):∀ j,Yh els vs (k+j)=none
 | 0=>h
 | j+1=>by
  show Yh els vs ((k+j)+1)=none;simp only[Yh,VF h j]
theorem Vg {els vs:List (List AV)} (hw:els.all Ut=true):∀ (k:Nat) (x:Int),k≤els.length→Yh els vs k=some x→0≤x∧x<2 ^ (YV els k).toNat
 | 0,x,_,h=>by
  simp only[Yh,Option.some.injEq]at h;subst h;exact ⟨Int.le_refl _,by simp[YV]⟩
 | k+1,x,hk,h=>by
  simp only[Yh]at h;split at h
  ·rename_i y hy
   split at h
   ·cases h
   ·split at h
    ·cases h
    ·rename_i h1 h2
     simp only[Option.some.injEq]at h;obtain ⟨a1,a2⟩:=Vg hw k y (by omega) hy;obtain ⟨w,hrow,hw1,hw2⟩:=Xo (List.all_eq_true.1 hw _ (List.getElem_mem (show k<els.length by omega)));have hrow2:els[k]?=some [.int .i64 w]:=(by rw[List.getElem?_eq_getElem (show k<els.length by omega),hrow]);have hb:=Ta hw k (by omega);have hc:ZM (els.getD k [])=w:=(by rw[List.getD_eq_getElem?_getD,hrow2];rfl);rw[XF hrow2];rw[hc]at h2;obtain ⟨lo,hlo⟩:∃ lo:Nat,YV els k=(lo:Int):=⟨(YV els k).toNat,by omega⟩;obtain ⟨b,rfl⟩:∃ b:Nat,w=(b:Int):=⟨w.toNat,by omega⟩;rw[hlo]at a2 h⊢;simp only[Int.toNat_natCast]at a2 h h2;obtain ⟨v,hv⟩:∃ v,ZM (vs.getD k [])=v:=⟨_,rfl⟩;rw[hv]at h h1 h2;have e:((lo:Int)+(b:Int)).toNat=lo+b:=(by omega);rw[e,Int.pow_add];have hp:(1:Int)≤2 ^ lo:=by
      have:1≤2 ^ lo:=Nat.one_le_two_pow;rw[← YB];omega
     have h5:v*2 ^ lo≤(2 ^ b - 1)*2 ^ lo:=Int.mul_le_mul_of_nonneg_right (by omega) (by omega);have h6:=Int.mul_nonneg (show 0≤v by omega) (show (0:Int)≤2 ^ lo by omega);rw[Int.sub_mul,Int.one_mul,Int.mul_comm (2 ^ b)]at h5;omega
  ·cases h
def Yw:Option Int→AV
 | some x=>.tup [.int .u64 x,.raw .nilIface]
 | none=>.tup [.int .u64 0,.iface 187 .bot]
def d111:List AV→List NObj→Option AV
 | [.agg [.sl (.top 0) 0 n],.sl (.top 1) 0 m],[.view 0 1 els,.view 0 1 vs]=>if n=els.length∧m=els.length∧vs.length=els.length∧els.all Ut=true∧els.length≤8∧YV els els.length≤64∧vs.all isV=true then some (Yw (Yh els vs els.length)) else none
 | _,_=>none
def I86 (els vs:List (List AV)) (x:Int) (k:Nat):St:=⟨[(2,.ptr (.top 2) 0 0),(6,.int .u64 x),(16,.sl (.top 1) 0 els.length),(17,.int .i64 els.length),(18,.int .i64 k)],[(0,.view 0 1 els),(1,.view 0 1 vs),(2,.cells 0 [.sl (.top 0) 0 els.length])],3⟩
theorem ok111:ROk d111:=by
 intro xs os r h;unfold d111 at h
 (repeat' (split at h))<;>first|(cases h;done)|(injection h with h;subst h;unfold Yw;split<;>simp)
theorem s111:Sound Tryz.prog 111 (rdS d111 ok111):=by
 refine Zo (ac:=?ac) (res:=?res) Tryz.func111 (by kernel_rfl) (ha:=?ha) (hk:=?hk) (hok:=ok111) fun xs os r h vs ρ0 hvs=>?w
 case ha=>conv=>lhs;cbv
 case hk=>kernel_rfl
 refine ⟨xs,?_,fun _ h=>h,fun w0 S hS=>?_⟩
 ·unfold d111 at h
  (repeat' (split at h))<;>first|(cases h;done)|exact Nat.le_of_ble_eq_true rfl
 unfold d111 at h;split at h
 ·split at h
  ·rename_i n m els vs hcond
   injection h with h;subst h;have hE:Zd Tryz.prog (EL [(114,rdS d114 ok114),(113,rdS d113 ok113),(69,rdS d69 ok69)]):=Ze (by simp only[List.mem_cons,List.not_mem_nil,or_false,forall_eq_or_imp,forall_eq];exact ⟨s114,s113,s69⟩);obtain ⟨rfl,rfl,hvl,hw,hlen,hlow,hv⟩:=hcond;have hT:=vW hw;have hC:=vD hw;have hT2:=v_t0 hv;have hC2:=v_cl hv;have hdat:=Zbv hw
   repeat' with_reducible (first|refine ZR.h ?_|refine kI ?_|(refine kR hE ?_;intro K hK;simp[d114,d113,d69];(repeat' (first|refine hK _ _ ?_|apply And.intro|(intro hc;try subst hc)))<;>(try clear hK K))|(refine kT (fun hc=>?_) (fun hc=>?_)<;>simp at hc<;>(try subst hc)))
   all_goals (refine kL (fun (y:Int×Nat)=>I86 els vs y.1 y.2) (fun y=>y.2≤els.length∧Yh els vs y.2=some y.1) (fun y=>els.length - y.2) (0,0) ⟨Nat.zero_le _,rfl⟩ ?_ ?_)
   ·simp only[I86]
    rw[hS];refine Imp.aut ?_ ?_<;>simp[NLe,hT,hC,hT2,hC2,hvl]
   ·intro ⟨x,k⟩ ⟨hk,hx⟩
    replace hk:k≤els.length:=hk;replace hx:Yh els vs k=some x:=hx;simp only[I86];by_cases hkn:k<els.length
    ·have hkv:k<vs.length:=by omega
     obtain ⟨w,hrow,hw1,hw2⟩:=Xo (List.all_eq_true.1 hw _ (List.getElem_mem hkn));have hrow2:els[k]?=some [.int .i64 w]:=(by rw[List.getElem?_eq_getElem hkn,hrow]);obtain ⟨v,hvr,hv1,hv2⟩:=vi (List.all_eq_true.1 hv _ (List.getElem_mem hkv));have hvr2:vs[k]?=some [.int .i64 v]:=(by rw[List.getElem?_eq_getElem hkv,hvr]);have hcw:ZM (els.getD k [])=w:=(by rw[List.getD_eq_getElem?_getD,hrow2];rfl);have hcv:ZM (vs.getD k [])=v:=(by rw[List.getD_eq_getElem?_getD,hvr2];rfl);have hsucc:=XF hrow2;have hb:=Ta hw k (by omega);have hle:=xi hw (show k+1≤els.length by omega) (Nat.le_refl _);obtain ⟨hx0,hx1⟩:=Vg hw k x (by omega) hx;obtain ⟨b,rfl⟩:∃ b:Nat,w=(b:Int):=⟨w.toNat,by omega⟩;obtain ⟨lo,hlo⟩:∃ lo:Nat,YV els k=(lo:Int):=⟨(YV els k).toNat,by omega⟩;obtain ⟨hp1,hp2⟩:=vS (b:=b) (by omega);have hpk:Yh els vs (k+1)=if v<0 then none else if 2 ^ b - 1<v then none else some (x+v*2 ^ lo):=by
      simp only[Yh,hx,hcw,hcv,hlo,Int.toNat_natCast]
     rw[hlo]at hx1 hsucc;simp only[Int.toNat_natCast]at hx1;have hkI:(k:Int)<(els.length:Int):=(by omega);have hkI2:(k:Int)≤(els.length:Int):=(by omega);have hkn2:k≤els.length:=hk;have w1:IntKind.wrap .i64 ((k:Int)+1)=(k:Int)+1:=Zg (by omega) (by omega);by_cases h1:v<0
     ·rw[if_pos h1]at hpk
      have hnone:Yh els vs els.length=none:=by
       have:=VF hpk (els.length - (k+1))
       rwa [show k+1+(els.length - (k+1))=els.length from by omega]at this
      repeat' with_reducible (first|refine ZR.h ?_|refine kI ?_|(refine kR hE ?_;intro K hK;simp[hkn,hkv,hkI,hvl,hvr,hvr2,h1,d114,d113,d69];(repeat' (first|refine hK _ _ ?_|apply And.intro|(intro hc;try subst hc)))<;>(try clear hK K))|(refine kT (fun hc=>?_) (fun hc=>?_)<;>simp at hc<;>(try subst hc)))
      all_goals first|(show Zb _ _=true;kernel_rfl)|(simp;done)|((try simp[hnone,Yw]);refine Imp.aut ?_ ?_<;>simp[NLe,hnone,Yw])
     ·rw[if_neg h1]at hpk
      have hwv:IntKind.wrap .u64 v=v:=YK (by omega) (by omega);by_cases h2:2 ^ b - 1<v
      ·rw[if_pos h2]at hpk
       have hnone:Yh els vs els.length=none:=by
        have:=VF hpk (els.length - (k+1))
        rwa [show k+1+(els.length - (k+1))=els.length from by omega]at this
       repeat' with_reducible (first|refine ZR.h ?_|refine kI ?_|(refine kR hE ?_;intro K hK;simp[hkn,hkv,hkI,hvl,hvr,hvr2,h1,h2,hwv,hdat,hw,hlen,hrow,hrow2,ZM,d114,d113,d69];(repeat' (first|refine hK _ _ ?_|apply And.intro|(intro hc;try subst hc)))<;>(try clear hK K))|(refine kT (fun hc=>?_) (fun hc=>?_)<;>simp at hc<;>(try subst hc)))
       all_goals first|(show Zb _ _=true;kernel_rfl)|(simp;done)|((try simp[hnone,Yw]);refine Imp.aut ?_ ?_<;>simp[NLe,hnone,Yw])
      ·rw[if_neg h2]at hpk
       have hin:=Vg hw (k+1) _ (by omega) hpk;rw[hsucc]at hin;have he:((lo:Int)+(b:Int)).toNat=lo+b:=(by omega);rw[he]at hin;have hlb:lo+b≤64:=(by omega);have hp64:(2:Int) ^ (lo+b)≤18446744073709551616:=by
        have:2 ^ (lo+b)≤2 ^ 64:=Nat.pow_le_pow_right (by omega) hlb;rw[← YB];omega
       have hm0:0≤v*2 ^ lo:=Int.mul_nonneg (by omega) (Int.le_of_lt (Int.pow_pos (by omega)));have hsl:=ZdU (a:=v) (n:=lo) (by omega) (by omega) (by omega);have hor:=Zkv (a:=x) (v:=v) (lo:=lo) hx0 hx1 (by omega) (by omega);have hl0:¬ (lo:Int)<0:=by omega
       repeat' with_reducible (first|refine ZR.h ?_|refine kI ?_|(refine kR hE ?_;intro K hK;simp[hkn,hkn2,hkI2,hkv,hkI,hvl,hvr,hvr2,h1,h2,hwv,hdat,hw,hlen,hrow,hrow2,ZM,hlo,hl0,hsl,hor,w1,d114,d113,d69];(repeat' (first|refine hK _ _ ?_|apply And.intro|(intro hc;try subst hc)))<;>(try clear hK K))|(refine kT (fun hc=>?_) (fun hc=>?_)<;>simp at hc<;>(try subst hc)))
       all_goals refine ⟨(x+v*2 ^ lo,k+1),⟨hkn,hpk⟩,Nat.sub_lt_sub_left hkn (Nat.lt_succ_self k),?_⟩
       all_goals simp only[I86]
       all_goals rw[hS]
       all_goals (refine Imp.aut ?_ ?_<;>simp[NLe,hT,hC,hT2,hC2,hvl])
    ·have hkI:¬ (k:Int)<(els.length:Int):=by omega
     have hke:k=els.length:=(by omega);subst hke
     repeat' with_reducible (first|refine ZR.h ?_|refine kI ?_|(refine kR hE ?_;intro K hK;simp[hkI,hvl,d114,d113,d69];(repeat' (first|refine hK _ _ ?_|apply And.intro|(intro hc;try subst hc)))<;>(try clear hK K))|(refine kT (fun hc=>?_) (fun hc=>?_)<;>simp at hc<;>(try subst hc)))
     all_goals first|(show Zb _ _=true;kernel_rfl)|(simp;done)|((try simp[hx,Yw]);refine Imp.aut ?_ ?_<;>simp[NLe,hx,Yw])
  ·cases h
 ·cases h
def ZX (s:StZ):Option Int:=if 8<s.k then none else Yh [[.int .i64 4],[.int .i64 1],[.int .i64 8],[.int .i64 16],[.int .i64 8]] [[.int .i64 s.k],[.int .i64 (if s.fl=true then 1 else 0)],[.int .i64 s.g],[.int .i64 s.l],[.int .i64 s.f]] 5
def zK (r:RcZ):Option Int:=if 5<r.k then none else Yh [[.int .i64 3],[.int .i64 16],[.int .i64 16],[.int .i64 20],[.int .i64 5],[.int .i64 4]] [[.int .i64 r.k],[.int .i64 r.q],[.int .i64 r.p],[.int .i64 r.t],[.int .i64 r.c],[.int .i64 r.g]] 6
def ZJ (s:StZ) (t:Int):RcZ×Bool:=if s.k=5 then (⟨2,s.l,s.f,t,0,0⟩,true) else if s.k=6 then (⟨3,s.l,s.f,t,0,0⟩,true) else if s.k=7 then (⟨4,s.l,s.f,t,0,0⟩,true) else if s.k=8 then (⟨5,s.l,s.f,t,0,0⟩,true) else (⟨0,0,0,0,0,0⟩,false)
def d88:List AV→List NObj→Option AV
 | [.agg [.int .i64 k,.bool fl,.int .i64 sg,.int .i64 sl,.int .i64 sf]],[]=>if -9223372036854775808≤k∧k≤9223372036854775807∧-9223372036854775808≤sg∧sg≤9223372036854775807∧-9223372036854775808≤sl∧sl≤9223372036854775807∧-9223372036854775808≤sf∧sf≤9223372036854775807 then some (Yw (ZX ⟨k,fl,sg,sl,sf⟩)) else none
 | _,_=>none
theorem ok88:ROk d88:=by
 intro xs os r h;unfold d88 at h
 (repeat' (split at h))<;>first|(cases h;done)|(injection h with h;subst h;unfold Yw;split<;>simp)
theorem s88:Sound Tryz.prog 88 (rdS d88 ok88):=by
 refine Zo (ac:=?ac) (res:=?res) Tryz.func88 (by kernel_rfl) (ha:=?ha) (hk:=?hk) (hok:=ok88) fun xs os r h vs ρ0 hvs=>?w
 case ha=>conv=>lhs;cbv
 case hk=>kernel_rfl
 refine ⟨xs,?_,fun _ h=>h,fun w0 S hS=>?_⟩
 ·unfold d88 at h
  (repeat' (split at h))<;>first|(cases h;done)|exact Nat.le_of_ble_eq_true rfl
 unfold d88 at h;split at h
 ·split at h
  ·rename_i k fl sg sl sf hcond
   injection h with h;subst h;have hE:Zd Tryz.prog (EL [(69,rdS d69 ok69),(92,Zm [] d92 ok92),(111,rdS d111 ok111)]):=Ze (by simp only[List.mem_cons,List.not_mem_nil,or_false,forall_eq_or_imp,forall_eq];exact ⟨s69,s92,s111⟩);by_cases h1:8<k
   ·skip
    repeat' with_reducible (first|refine ZR.h ?_|refine kI ?_|((first|refine kR hE ?_|refine kD hE Zq ?_);intro K hK;simp[h1,d69,d92,d111];(repeat' (first|refine hK _ _ ?_|apply And.intro|(intro hc;try subst hc)))<;>(try clear hK K))|(refine kT (fun hc=>?_) (fun hc=>?_)<;>simp at hc<;>(try subst hc)))
    all_goals first|(show Zb _ _=true;kernel_rfl)|(simp;done)|(simp at *;omega)|((try simp[h1,ZX,Yw]);refine Imp.aut ?_ ?_<;>simp[NLe,h1,ZX,Yw])
   ·cases fl
    ·obtain ⟨P,hP⟩:∃ P,Yh [[.int .i64 4],[.int .i64 1],[.int .i64 8],[.int .i64 16],[.int .i64 8]] [[.int .i64 k],[.int .i64 0],[.int .i64 sg],[.int .i64 sl],[.int .i64 sf]] 5=P:=⟨_,rfl⟩
     cases P
     ·skip
      repeat' with_reducible (first|refine ZR.h ?_|refine kI ?_|((first|refine kR hE ?_|refine kD hE Zq ?_);intro K hK;simp[h1,Ut,isV,YV,ZM,hcond,hP,Yw,d69,d92,d111];(repeat' (first|refine hK _ _ ?_|apply And.intro|(intro hc;try subst hc)))<;>(try clear hK K))|(refine kT (fun hc=>?_) (fun hc=>?_)<;>simp at hc<;>(try subst hc)))
      all_goals first|(show Zb _ _=true;kernel_rfl)|(simp;done)|(simp at *;omega)|((try simp[h1,ZX,hP,Yw]);refine Imp.aut ?_ ?_<;>simp[NLe,h1,ZX,hP,Yw])
     ·skip
      repeat' with_reducible (first|refine ZR.h ?_|refine kI ?_|((first|refine kR hE ?_|refine kD hE Zq ?_);intro K hK;simp[h1,Ut,isV,YV,ZM,hcond,hP,Yw,d69,d92,d111];(repeat' (first|refine hK _ _ ?_|apply And.intro|(intro hc;try subst hc)))<;>(try clear hK K))|(refine kT (fun hc=>?_) (fun hc=>?_)<;>simp at hc<;>(try subst hc)))
      all_goals first|(show Zb _ _=true;kernel_rfl)|(simp;done)|(simp at *;omega)|((try simp[h1,ZX,hP,Yw]);refine Imp.aut ?_ ?_<;>simp[NLe,h1,ZX,hP,Yw])
    ·obtain ⟨P,hP⟩:∃ P,Yh [[.int .i64 4],[.int .i64 1],[.int .i64 8],[.int .i64 16],[.int .i64 8]] [[.int .i64 k],[.int .i64 1],[.int .i64 sg],[.int .i64 sl],[.int .i64 sf]] 5=P:=⟨_,rfl⟩
     cases P
     ·skip
      repeat' with_reducible (first|refine ZR.h ?_|refine kI ?_|((first|refine kR hE ?_|refine kD hE Zq ?_);intro K hK;simp[h1,Ut,isV,YV,ZM,hcond,hP,Yw,d69,d92,d111];(repeat' (first|refine hK _ _ ?_|apply And.intro|(intro hc;try subst hc)))<;>(try clear hK K))|(refine kT (fun hc=>?_) (fun hc=>?_)<;>simp at hc<;>(try subst hc)))
      all_goals first|(show Zb _ _=true;kernel_rfl)|(simp;done)|(simp at *;omega)|((try simp[h1,ZX,hP,Yw]);refine Imp.aut ?_ ?_<;>simp[NLe,h1,ZX,hP,Yw])
     ·skip
      repeat' with_reducible (first|refine ZR.h ?_|refine kI ?_|((first|refine kR hE ?_|refine kD hE Zq ?_);intro K hK;simp[h1,Ut,isV,YV,ZM,hcond,hP,Yw,d69,d92,d111];(repeat' (first|refine hK _ _ ?_|apply And.intro|(intro hc;try subst hc)))<;>(try clear hK K))|(refine kT (fun hc=>?_) (fun hc=>?_)<;>simp at hc<;>(try subst hc)))
      all_goals first|(show Zb _ _=true;kernel_rfl)|(simp;done)|(simp at *;omega)|((try simp[h1,ZX,hP,Yw]);refine Imp.aut ?_ ?_<;>simp[NLe,h1,ZX,hP,Yw])
  ·cases h
 ·cases h
def d100:List AV→List NObj→Option AV
 | [.agg [.int .i64 k,.int .i64 q,.int .i64 p,.int .i64 t,.int .i64 c,.int .i64 g]],[]=>if -9223372036854775808≤k∧k≤9223372036854775807∧-9223372036854775808≤q∧q≤9223372036854775807∧-9223372036854775808≤p∧p≤9223372036854775807∧-9223372036854775808≤t∧t≤9223372036854775807∧-9223372036854775808≤c∧c≤9223372036854775807∧-9223372036854775808≤g∧g≤9223372036854775807 then some (Yw (zK ⟨k,q,p,t,c,g⟩)) else none
 | _,_=>none
theorem ok100:ROk d100:=by
 intro xs os r h;unfold d100 at h
 (repeat' (split at h))<;>first|(cases h;done)|(injection h with h;subst h;unfold Yw;split<;>simp)
theorem s100:Sound Tryz.prog 100 (rdS d100 ok100):=by
 refine Zo (ac:=?ac) (res:=?res) Tryz.func100 (by kernel_rfl) (ha:=?ha) (hk:=?hk) (hok:=ok100) fun xs os r h vs ρ0 hvs=>?w
 case ha=>conv=>lhs;cbv
 case hk=>kernel_rfl
 refine ⟨xs,?_,fun _ h=>h,fun w0 S hS=>?_⟩
 ·unfold d100 at h
  (repeat' (split at h))<;>first|(cases h;done)|exact Nat.le_of_ble_eq_true rfl
 unfold d100 at h;split at h
 ·split at h
  ·rename_i k q p t c g hcond
   injection h with h;subst h;have hE:Zd Tryz.prog (EL [(69,rdS d69 ok69),(95,Zm [] d95 ok95),(111,rdS d111 ok111)]):=Ze (by simp only[List.mem_cons,List.not_mem_nil,or_false,forall_eq_or_imp,forall_eq];exact ⟨s69,s95,s111⟩);by_cases h1:5<k
   ·skip
    repeat' with_reducible (first|refine ZR.h ?_|refine kI ?_|((first|refine kR hE ?_|refine kD hE Zq ?_);intro K hK;simp[h1,d69,d95,d111];(repeat' (first|refine hK _ _ ?_|apply And.intro|(intro hc;try subst hc)))<;>(try clear hK K))|(refine kT (fun hc=>?_) (fun hc=>?_)<;>simp at hc<;>(try subst hc)))
    all_goals first|(show Zb _ _=true;kernel_rfl)|(simp;done)|(simp at *;omega)|((try simp[h1,zK,Yw]);refine Imp.aut ?_ ?_<;>simp[NLe,h1,zK,Yw])
   ·obtain ⟨P,hP⟩:∃ P,Yh [[.int .i64 3],[.int .i64 16],[.int .i64 16],[.int .i64 20],[.int .i64 5],[.int .i64 4]] [[.int .i64 k],[.int .i64 q],[.int .i64 p],[.int .i64 t],[.int .i64 c],[.int .i64 g]] 6=P:=⟨_,rfl⟩
    cases P
    ·skip
     repeat' with_reducible (first|refine ZR.h ?_|refine kI ?_|((first|refine kR hE ?_|refine kD hE Zq ?_);intro K hK;simp[h1,Ut,isV,YV,ZM,hcond,hP,Yw,d69,d95,d111];(repeat' (first|refine hK _ _ ?_|apply And.intro|(intro hc;try subst hc)))<;>(try clear hK K))|(refine kT (fun hc=>?_) (fun hc=>?_)<;>simp at hc<;>(try subst hc)))
     all_goals first|(show Zb _ _=true;kernel_rfl)|(simp;done)|(simp at *;omega)|((try simp[h1,zK,hP,Yw]);refine Imp.aut ?_ ?_<;>simp[NLe,h1,zK,hP,Yw])
    ·skip
     repeat' with_reducible (first|refine ZR.h ?_|refine kI ?_|((first|refine kR hE ?_|refine kD hE Zq ?_);intro K hK;simp[h1,Ut,isV,YV,ZM,hcond,hP,Yw,d69,d95,d111];(repeat' (first|refine hK _ _ ?_|apply And.intro|(intro hc;try subst hc)))<;>(try clear hK K))|(refine kT (fun hc=>?_) (fun hc=>?_)<;>simp at hc<;>(try subst hc)))
     all_goals first|(show Zb _ _=true;kernel_rfl)|(simp;done)|(simp at *;omega)|((try simp[h1,zK,hP,Yw]);refine Imp.aut ?_ ?_<;>simp[NLe,h1,zK,hP,Yw])
  ·cases h
 ·cases h
def d65:List AV→List NObj→Option AV
 | [.agg [.int .i64 k,.bool fl,.int .i64 sg,.int .i64 sl,.int .i64 sf],.int .i64 t],[]=>some (.tup [rcA (ZJ ⟨k,fl,sg,sl,sf⟩ t).1,.bool (ZJ ⟨k,fl,sg,sl,sf⟩ t).2])
 | _,_=>none
theorem ok65:ROk d65:=by
 intro xs os r h;unfold d65 at h
 (repeat' (split at h))<;>first|(cases h;done)|(injection h with h;subst h;simp[rcA])
theorem s65:Sound Tryz.prog 65 (rdS d65 ok65):=by
 refine Zo (ac:=?ac) (res:=?res) Tryz.func65 (by kernel_rfl) (ha:=?ha) (hk:=?hk) (hok:=ok65) fun xs os r h vs ρ0 hvs=>?w
 case ha=>conv=>lhs;cbv
 case hk=>kernel_rfl
 refine ⟨xs,?_,fun _ h=>h,fun w0 S hS=>?_⟩
 ·unfold d65 at h
  (repeat' (split at h))<;>first|(cases h;done)|exact Nat.le_of_ble_eq_true rfl
 unfold d65 at h;split at h
 ·rename_i k fl sg sl sf t
  injection h with h;subst h;have hE:Zd Tryz.prog (EL []):=Ze (by simp);by_cases h1:k=5
  ·skip
   repeat' with_reducible (first|refine ZR.h ?_|refine kI ?_|(refine kR hE ?_;intro K hK;simp[h1,ZJ,rcA];(repeat' (first|refine hK _ _ ?_|apply And.intro|(intro hc;try subst hc)))<;>(try clear hK K))|(refine kT (fun hc=>?_) (fun hc=>?_)<;>simp at hc<;>(try subst hc)))
   all_goals first|(show Zb _ _=true;kernel_rfl)|(simp;done)|(simp at *;omega)|((try simp[h1,ZJ,rcA]);refine Imp.aut ?_ ?_<;>simp[NLe,h1,ZJ,rcA])
  ·by_cases h2:k=6
   ·skip
    repeat' with_reducible (first|refine ZR.h ?_|refine kI ?_|(refine kR hE ?_;intro K hK;simp[h1,h2,ZJ,rcA];(repeat' (first|refine hK _ _ ?_|apply And.intro|(intro hc;try subst hc)))<;>(try clear hK K))|(refine kT (fun hc=>?_) (fun hc=>?_)<;>simp at hc<;>(try subst hc)))
    all_goals first|(show Zb _ _=true;kernel_rfl)|(simp;done)|(simp at *;omega)|((try simp[h1,h2,ZJ,rcA]);refine Imp.aut ?_ ?_<;>simp[NLe,h1,h2,ZJ,rcA])
   ·by_cases h3:k=7
    ·skip
     repeat' with_reducible (first|refine ZR.h ?_|refine kI ?_|(refine kR hE ?_;intro K hK;simp[h1,h2,h3,ZJ,rcA];(repeat' (first|refine hK _ _ ?_|apply And.intro|(intro hc;try subst hc)))<;>(try clear hK K))|(refine kT (fun hc=>?_) (fun hc=>?_)<;>simp at hc<;>(try subst hc)))
     all_goals first|(show Zb _ _=true;kernel_rfl)|(simp;done)|(simp at *;omega)|((try simp[h1,h2,h3,ZJ,rcA]);refine Imp.aut ?_ ?_<;>simp[NLe,h1,h2,h3,ZJ,rcA])
    ·by_cases h4:k=8
     ·skip
      repeat' with_reducible (first|refine ZR.h ?_|refine kI ?_|(refine kR hE ?_;intro K hK;simp[h1,h2,h3,h4,ZJ,rcA];(repeat' (first|refine hK _ _ ?_|apply And.intro|(intro hc;try subst hc)))<;>(try clear hK K))|(refine kT (fun hc=>?_) (fun hc=>?_)<;>simp at hc<;>(try subst hc)))
      all_goals first|(show Zb _ _=true;kernel_rfl)|(simp;done)|(simp at *;omega)|((try simp[h1,h2,h3,h4,ZJ,rcA]);refine Imp.aut ?_ ?_<;>simp[NLe,h1,h2,h3,h4,ZJ,rcA])
     ·skip
      repeat' with_reducible (first|refine ZR.h ?_|refine kI ?_|(refine kR hE ?_;intro K hK;simp[h1,h2,h3,h4,ZJ,rcA];(repeat' (first|refine hK _ _ ?_|apply And.intro|(intro hc;try subst hc)))<;>(try clear hK K))|(refine kT (fun hc=>?_) (fun hc=>?_)<;>simp at hc<;>(try subst hc)))
      all_goals first|(show Zb _ _=true;kernel_rfl)|(simp;done)|(simp at *;omega)|((try simp[h1,h2,h3,h4,ZJ,rcA]);refine Imp.aut ?_ ?_<;>simp[NLe,h1,h2,h3,h4,ZJ,rcA])
 ·cases h
def d122:List AV→List NObj→Option AV
 | [.int .i64 a,.int .i64 b],[]=>if a≤b then some (.int .i64 0) else none
 | _,_=>none
theorem ok122:ROk d122:=by
 intro xs os r h;unfold d122 at h
 (repeat' (split at h))<;>first|(cases h;done)|(injection h with h;subst h;simp)
theorem s122:Sound Tryz.prog 122 (rdS d122 ok122):=by
 refine Zo (ac:=?ac) (res:=?res) Tryz.func122 (by kernel_rfl) (ha:=?ha) (hk:=?hk) (hok:=ok122) fun xs os r h vs ρ0 hvs=>?w
 case ha=>conv=>lhs;cbv
 case hk=>kernel_rfl
 refine ⟨xs,?_,fun _ h=>h,fun w0 S hS=>?_⟩
 ·unfold d122 at h
  (repeat' (split at h))<;>first|(cases h;done)|exact Nat.le_of_ble_eq_true rfl
 unfold d122 at h;split at h
 ·split at h
  ·rename_i a b hcond
   injection h with h;subst h;have hE:Zd Tryz.prog (EL []):=Ze (by simp);have h1:¬ b<a:=by omega
   repeat' with_reducible (first|refine ZR.h ?_|refine kI ?_|(refine kR hE ?_;intro K hK;simp[h1];(repeat' (first|refine hK _ _ ?_|apply And.intro|(intro hc;try subst hc)))<;>(try clear hK K))|(refine kT (fun hc=>?_) (fun hc=>?_)<;>simp at hc<;>(try subst hc)))
   all_goals first|(show Zb _ _=true;kernel_rfl)|(simp;done)|(simp at *;omega)|((try simp);refine Imp.aut ?_ ?_<;>simp[NLe])
  ·cases h
 ·cases h
def d118:List AV→List NObj→Option AV
 | [.int .i64 a,.int .i64 b],[]=>if 0≤a∧a≤b∧b≤1000000 then some (.int .i64 (a+(b - a) / 2)) else none
 | _,_=>none
theorem ok118:ROk d118:=by
 intro xs os r h;unfold d118 at h
 (repeat' (split at h))<;>first|(cases h;done)|(injection h with h;subst h;simp)
theorem s118:Sound Tryz.prog 118 (rdS d118 ok118):=by
 refine Zo (ac:=?ac) (res:=?res) Tryz.func118 (by kernel_rfl) (ha:=?ha) (hk:=?hk) (hok:=ok118) fun xs os r h vs ρ0 hvs=>?w
 case ha=>conv=>lhs;cbv
 case hk=>kernel_rfl
 refine ⟨xs,?_,fun _ h=>h,fun w0 S hS=>?_⟩
 ·unfold d118 at h
  (repeat' (split at h))<;>first|(cases h;done)|exact Nat.le_of_ble_eq_true rfl
 unfold d118 at h;split at h
 ·split at h
  ·rename_i a b hcond
   injection h with h;subst h;have hE:Zd Tryz.prog (EL [(122,rdS d122 ok122)]):=Ze (by simp only[List.mem_cons,List.not_mem_nil,or_false,forall_eq_or_imp,forall_eq];exact s122);obtain ⟨h0,h1,h2⟩:=hcond;have w1:IntKind.wrap .i64 (b - a)=b - a:=Zg (by omega) (by omega);have w2:IntKind.wrap .i64 ((b - a).tdiv 2)=(b - a) / 2:=Xq (by omega) (by omega) (by omega);have w3:IntKind.wrap .i64 (a+(b - a) / 2)=a+(b - a) / 2:=Zg (by omega) (by omega)
   repeat' with_reducible (first|refine ZR.h ?_|refine kI ?_|(refine kR hE ?_;intro K hK;simp[h1,w1,w2,w3,d122];(repeat' (first|refine hK _ _ ?_|apply And.intro|(intro hc;try subst hc)))<;>(try clear hK K))|(refine kT (fun hc=>?_) (fun hc=>?_)<;>simp at hc<;>(try subst hc)))
   all_goals first|(show Zb _ _=true;kernel_rfl)|(simp;done)|(simp at *;omega)|((try simp);refine Imp.aut ?_ ?_<;>simp[NLe])
  ·cases h
 ·cases h
def Zf (a b:TmZ) (l o:Int):Int×Int :=
 if (if a.sd=1 then b.sd else a.sd)≠0 then (0,0) else if (if a.sd=1 then a.sd else b.sd)≠1 then (0,0) else if a.nm≠b.nm then (0,0)
 else if (if a.sd=1 then b.pr else a.pr)<(if a.sd=1 then a.pr else b.pr) then (0,0)
 else if (if o<l then o else l)<1 then (0,0) else if (if o<l then o else l)<(if a.le<b.le then b.le else a.le) then (0,0)
 else (if o<l then o else l,(if a.sd=1 then a.pr else b.pr)+((if a.sd=1 then b.pr else a.pr) - (if a.sd=1 then a.pr else b.pr)) / 2)
def d105:List AV→List NObj→Option AV
 | [.agg [.int .i64 a0,.int .i64 a1,.int .i64 a2,.int .i64 a3,.int .i64 a4],.agg [.int .i64 b0,.int .i64 b1,.int .i64 b2,.int .i64 b3,.int .i64 b4],.int .i64 l,.int .i64 o],[]=>if 0≤a2∧a2≤1000000∧0≤b2∧b2≤1000000 then some (.agg [.int .i64 (Zf ⟨a0,a1,a2,a3,a4⟩ ⟨b0,b1,b2,b3,b4⟩ l o).1,.int .i64 (Zf ⟨a0,a1,a2,a3,a4⟩ ⟨b0,b1,b2,b3,b4⟩ l o).2]) else none
 | _,_=>none
theorem ok105:ROk d105:=by
 intro xs os r h;unfold d105 at h
 (repeat' (split at h))<;>first|(cases h;done)|(injection h with h;subst h;simp)
theorem s105:Sound Tryz.prog 105 (rdS d105 ok105):=by
 refine Zo (ac:=?ac) (res:=?res) Tryz.func105 (by kernel_rfl) (ha:=?ha) (hk:=?hk) (hok:=ok105) fun xs os r h vs ρ0 hvs=>?w
 case ha=>conv=>lhs;cbv
 case hk=>kernel_rfl
 refine ⟨xs,?_,fun _ h=>h,fun w0 S hS=>?_⟩
 ·unfold d105 at h
  (repeat' (split at h))<;>first|(cases h;done)|exact Nat.le_of_ble_eq_true rfl
 unfold d105 at h;split at h
 ·split at h
  ·rename_i a0 a1 a2 a3 a4 b0 b1 b2 b3 b4 l o hcond
   injection h with h;subst h;have hE:Zd Tryz.prog (EL [(118,rdS d118 ok118)]):=Ze (by simp only[List.mem_cons,List.not_mem_nil,or_false,forall_eq_or_imp,forall_eq];exact s118);obtain ⟨hp0,hp1,hp2,hp3⟩:=hcond;obtain ⟨q,hq⟩:∃ q,(if o<l then o else l)=q:=⟨_,rfl⟩;obtain ⟨mx,hm⟩:∃ mx,(if a3<b3 then b3 else a3)=mx:=⟨_,rfl⟩;by_cases h0:a1=1
   ·skip
    by_cases h1:b1≠0
    ·skip
     repeat' with_reducible (first|refine ZR.h ?_|refine kI ?_|((first|refine kR hE ?_|refine kD hE Zq ?_);intro K hK;simp[h1,h0,hq,hm,Zf,d118];(repeat' (first|refine hK _ _ ?_|apply And.intro|(intro hc;try subst hc)))<;>(try clear hK K))|(refine kT (fun hc=>?_) (fun hc=>?_)<;>simp at hc<;>(try subst hc)))
     all_goals first|(show Zb _ _=true;kernel_rfl)|(simp;done)|(simp at *;omega)|((try simp[h1,h0,hq,hm,Zf]);refine Imp.aut ?_ ?_<;>simp[NLe,h1,h0,hq,hm,Zf])
    ·have h1':b1=0:=by omega
     by_cases h3:a0≠b0
     ·skip
      repeat' with_reducible (first|refine ZR.h ?_|refine kI ?_|((first|refine kR hE ?_|refine kD hE Zq ?_);intro K hK;simp[h1',h3,h0,hq,hm,Zf,d118];(repeat' (first|refine hK _ _ ?_|apply And.intro|(intro hc;try subst hc)))<;>(try clear hK K))|(refine kT (fun hc=>?_) (fun hc=>?_)<;>simp at hc<;>(try subst hc)))
      all_goals first|(show Zb _ _=true;kernel_rfl)|(simp;done)|(simp at *;omega)|((try simp[h1',h3,h0,hq,hm,Zf]);refine Imp.aut ?_ ?_<;>simp[NLe,h1',h3,h0,hq,hm,Zf])
     ·have h3':a0=b0:=by omega
      by_cases h4:b2<a2
      ·skip
       repeat' with_reducible (first|refine ZR.h ?_|refine kI ?_|((first|refine kR hE ?_|refine kD hE Zq ?_);intro K hK;simp[h1',h3',h4,h0,hq,hm,Zf,d118];(repeat' (first|refine hK _ _ ?_|apply And.intro|(intro hc;try subst hc)))<;>(try clear hK K))|(refine kT (fun hc=>?_) (fun hc=>?_)<;>simp at hc<;>(try subst hc)))
       all_goals first|(show Zb _ _=true;kernel_rfl)|(simp;done)|(simp at *;omega)|((try simp[h1',h3',h4,h0,hq,hm,Zf]);refine Imp.aut ?_ ?_<;>simp[NLe,h1',h3',h4,h0,hq,hm,Zf])
      ·by_cases h5:q<1
       ·skip
        repeat' with_reducible (first|refine ZR.h ?_|refine kI ?_|((first|refine kR hE ?_|refine kD hE Zq ?_);intro K hK;simp[h1',h3',h4,h5,h0,hq,hm,Zf,d118];(repeat' (first|refine hK _ _ ?_|apply And.intro|(intro hc;try subst hc)))<;>(try clear hK K))|(refine kT (fun hc=>?_) (fun hc=>?_)<;>simp at hc<;>(try subst hc)))
        all_goals first|(show Zb _ _=true;kernel_rfl)|(simp;done)|(simp at *;omega)|((try simp[h1',h3',h4,h5,h0,hq,hm,Zf]);refine Imp.aut ?_ ?_<;>simp[NLe,h1',h3',h4,h5,h0,hq,hm,Zf])
       ·by_cases h6:q<mx
        ·skip
         repeat' with_reducible (first|refine ZR.h ?_|refine kI ?_|((first|refine kR hE ?_|refine kD hE Zq ?_);intro K hK;simp[h1',h3',h4,h5,h6,h0,hq,hm,Zf,d118];(repeat' (first|refine hK _ _ ?_|apply And.intro|(intro hc;try subst hc)))<;>(try clear hK K))|(refine kT (fun hc=>?_) (fun hc=>?_)<;>simp at hc<;>(try subst hc)))
         all_goals first|(show Zb _ _=true;kernel_rfl)|(simp;done)|(simp at *;omega)|((try simp[h1',h3',h4,h5,h6,h0,hq,hm,Zf]);refine Imp.aut ?_ ?_<;>simp[NLe,h1',h3',h4,h5,h6,h0,hq,hm,Zf])
        ·have hr1:0≤a2∧a2≤b2∧b2≤1000000:=by omega
         have hr2:a2≤b2:=by omega
         repeat' with_reducible (first|refine ZR.h ?_|refine kI ?_|((first|refine kR hE ?_|refine kD hE Zq ?_);intro K hK;simp[h1',h3',h4,h5,h6,h0,hq,hm,Zf,hr1,hr2,d118];(repeat' (first|refine hK _ _ ?_|apply And.intro|(intro hc;try subst hc)))<;>(try clear hK K))|(refine kT (fun hc=>?_) (fun hc=>?_)<;>simp at hc<;>(try subst hc)))
         all_goals first|(show Zb _ _=true;kernel_rfl)|(simp;done)|(simp at *;omega)|((try simp[h1',h3',h4,h5,h6,h0,hq,hm,Zf,hr1,hr2]);refine Imp.aut ?_ ?_<;>simp[NLe,h1',h3',h4,h5,h6,h0,hq,hm,Zf,hr1,hr2])
   ·skip
    by_cases h1:a1≠0
    ·skip
     repeat' with_reducible (first|refine ZR.h ?_|refine kI ?_|((first|refine kR hE ?_|refine kD hE Zq ?_);intro K hK;simp[h1,h0,hq,hm,Zf,d118];(repeat' (first|refine hK _ _ ?_|apply And.intro|(intro hc;try subst hc)))<;>(try clear hK K))|(refine kT (fun hc=>?_) (fun hc=>?_)<;>simp at hc<;>(try subst hc)))
     all_goals first|(show Zb _ _=true;kernel_rfl)|(simp;done)|(simp at *;omega)|((try simp[h1,h0,hq,hm,Zf]);refine Imp.aut ?_ ?_<;>simp[NLe,h1,h0,hq,hm,Zf])
    ·have h1':a1=0:=by omega
     by_cases h2:b1≠1
     ·skip
      repeat' with_reducible (first|refine ZR.h ?_|refine kI ?_|((first|refine kR hE ?_|refine kD hE Zq ?_);intro K hK;simp[h1',h2,h0,hq,hm,Zf,d118];(repeat' (first|refine hK _ _ ?_|apply And.intro|(intro hc;try subst hc)))<;>(try clear hK K))|(refine kT (fun hc=>?_) (fun hc=>?_)<;>simp at hc<;>(try subst hc)))
      all_goals first|(show Zb _ _=true;kernel_rfl)|(simp;done)|(simp at *;omega)|((try simp[h1',h2,h0,hq,hm,Zf]);refine Imp.aut ?_ ?_<;>simp[NLe,h1',h2,h0,hq,hm,Zf])
     ·have h2':b1=1:=by omega
      by_cases h3:a0≠b0
      ·skip
       repeat' with_reducible (first|refine ZR.h ?_|refine kI ?_|((first|refine kR hE ?_|refine kD hE Zq ?_);intro K hK;simp[h1',h2',h3,h0,hq,hm,Zf,d118];(repeat' (first|refine hK _ _ ?_|apply And.intro|(intro hc;try subst hc)))<;>(try clear hK K))|(refine kT (fun hc=>?_) (fun hc=>?_)<;>simp at hc<;>(try subst hc)))
       all_goals first|(show Zb _ _=true;kernel_rfl)|(simp;done)|(simp at *;omega)|((try simp[h1',h2',h3,h0,hq,hm,Zf]);refine Imp.aut ?_ ?_<;>simp[NLe,h1',h2',h3,h0,hq,hm,Zf])
      ·have h3':a0=b0:=by omega
       by_cases h4:a2<b2
       ·skip
        repeat' with_reducible (first|refine ZR.h ?_|refine kI ?_|((first|refine kR hE ?_|refine kD hE Zq ?_);intro K hK;simp[h1',h2',h3',h4,h0,hq,hm,Zf,d118];(repeat' (first|refine hK _ _ ?_|apply And.intro|(intro hc;try subst hc)))<;>(try clear hK K))|(refine kT (fun hc=>?_) (fun hc=>?_)<;>simp at hc<;>(try subst hc)))
        all_goals first|(show Zb _ _=true;kernel_rfl)|(simp;done)|(simp at *;omega)|((try simp[h1',h2',h3',h4,h0,hq,hm,Zf]);refine Imp.aut ?_ ?_<;>simp[NLe,h1',h2',h3',h4,h0,hq,hm,Zf])
       ·by_cases h5:q<1
        ·skip
         repeat' with_reducible (first|refine ZR.h ?_|refine kI ?_|((first|refine kR hE ?_|refine kD hE Zq ?_);intro K hK;simp[h1',h2',h3',h4,h5,h0,hq,hm,Zf,d118];(repeat' (first|refine hK _ _ ?_|apply And.intro|(intro hc;try subst hc)))<;>(try clear hK K))|(refine kT (fun hc=>?_) (fun hc=>?_)<;>simp at hc<;>(try subst hc)))
         all_goals first|(show Zb _ _=true;kernel_rfl)|(simp;done)|(simp at *;omega)|((try simp[h1',h2',h3',h4,h5,h0,hq,hm,Zf]);refine Imp.aut ?_ ?_<;>simp[NLe,h1',h2',h3',h4,h5,h0,hq,hm,Zf])
        ·by_cases h6:q<mx
         ·skip
          repeat' with_reducible (first|refine ZR.h ?_|refine kI ?_|((first|refine kR hE ?_|refine kD hE Zq ?_);intro K hK;simp[h1',h2',h3',h4,h5,h6,h0,hq,hm,Zf,d118];(repeat' (first|refine hK _ _ ?_|apply And.intro|(intro hc;try subst hc)))<;>(try clear hK K))|(refine kT (fun hc=>?_) (fun hc=>?_)<;>simp at hc<;>(try subst hc)))
          all_goals first|(show Zb _ _=true;kernel_rfl)|(simp;done)|(simp at *;omega)|((try simp[h1',h2',h3',h4,h5,h6,h0,hq,hm,Zf]);refine Imp.aut ?_ ?_<;>simp[NLe,h1',h2',h3',h4,h5,h6,h0,hq,hm,Zf])
         ·have hr1:0≤b2∧b2≤a2∧a2≤1000000:=by omega
          have hr2:b2≤a2:=by omega
          repeat' with_reducible (first|refine ZR.h ?_|refine kI ?_|((first|refine kR hE ?_|refine kD hE Zq ?_);intro K hK;simp[h1',h2',h3',h4,h5,h6,h0,hq,hm,Zf,hr1,hr2,d118];(repeat' (first|refine hK _ _ ?_|apply And.intro|(intro hc;try subst hc)))<;>(try clear hK K))|(refine kT (fun hc=>?_) (fun hc=>?_)<;>simp at hc<;>(try subst hc)))
          all_goals first|(show Zb _ _=true;kernel_rfl)|(simp;done)|(simp at *;omega)|((try simp[h1',h2',h3',h4,h5,h6,h0,hq,hm,Zf,hr1,hr2]);refine Imp.aut ?_ ?_<;>simp[NLe,h1',h2',h3',h4,h5,h6,h0,hq,hm,Zf,hr1,hr2])
  ·cases h
 ·cases h
end Go.W
