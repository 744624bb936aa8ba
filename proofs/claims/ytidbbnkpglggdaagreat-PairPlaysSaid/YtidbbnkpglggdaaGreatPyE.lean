/- A try that is alone: what its fourteen steps come to. A try that is alone: its steps, one by one. A try that is alone: what it comes to. A try that is alone: what it comes to, in one law. What a lone try does to all cells, and what it leaves as it was. What tries do that come one behind the other, w -/
import Derived.Test.YtidbbnkpglggdaaGreatPsV
import Derived.Test.YtidbbnkpglggdaaGreatPsX
import Derived.Test.YtidbbnkpglggdaaGreatPqB
namespace Go.W
open Go.Proofs
set_option linter.unusedSimpArgs false
set_option linter.unusedVariables false
set_option maxHeartbeats 8000000
attribute [local irreducible] Wm
attribute [local simp] Y5 lkp VW prs Uv prT ddL idL YN Um Ren Vt NObj.none Z4
def d41:List AV→Option Ans
 | []=>some ⟨.tup [.agg [.int .i64 2,.int .i64 1,.int .i64 1,.int .i64 1,.int .i64 0,.int .i64 2,.int .i64 1],.os 0 10 [[.int .i64 2,.bool false,.int .i64 1,.int .i64 5,.int .i64 0,.int .i64 0,.int .i64 0,.int .i64 10,.int .i64 1,.int .i64 9],[.int .i64 2,.bool false,.int .i64 1,.int .i64 3,.int .i64 0,.int .i64 0,.int .i64 1,.int .i64 8,.int .i64 1,.int .i64 9]]],[]⟩
 | _=>none
theorem ok41:NOk [] d41:=by
 intro xs a h;unfold d41 at h
 (repeat' (split at h))<;>first|(cases h;done)|(injection h with h;subst h;refine ⟨Zq ?_,?_⟩<;>simp)
theorem s41:Sound Tryz.prog 41 (Zi [] d41 ok41):=by
 refine Zj C41.a C41.b C41.c C41.d ok41 (fun xs a h=>?_) fun xs a h w0 S hS=>?_
 ·unfold d41 at h
  (repeat' (split at h))<;>first|(cases h;done)|exact Nat.le_of_ble_eq_true rfl
 unfold d41 at h;split at h
 ·skip
  injection h with h;subst h;have hE:Zb Tryz.prog (EL []):=Zd (by simp);unfold m41
  repeat' with_reducible (first|refine ZR.h ?_|refine zI ?_|((first|refine zK hE ?_|refine zM hE ?_);intro K hK;simp;(repeat' (first|refine hK _ _ ?_|apply And.intro|(intro hc;try subst hc)))<;>(try clear hK K))|(refine zJ (fun hc=>?_) (fun hc=>?_)<;>simp at hc<;>(try subst hc)))
  all_goals first|(simp;done)|(simp at *;omega)|((try simp);refine Imp.aut ?_ ?_<;>simp[NLe])
 ·cases h
theorem e9 {W:WZ} {T:TZ} (hT:okT T=true) (hW:okW W=true) (hs:smW W=true) (u v u1 u2 u3 u4:Nat):d9 [.op u (tzC T),.op v (wzL W u1 u2 u3 u4)]=some ⟨.tup [],[.cells 0 (tzC (ZC W T).1),.cells 0 (wzC (ZC W T).2)]⟩:=by
 simp only[d9,Vb,Ul];rw[if_pos ⟨hT,hW,hs⟩]
def UC (W:WZ) (T:TZ):Nat→TZ×WZ
 | 0=>(T,W)
 | k+1=>ZC (UC W T k).2 (UC W T k).1
theorem Ze9 {W:WZ} {T:TZ} (hT:okT T=true) (hW:okW W=true):∀ k,okT (UC W T k).1=true∧okW (UC W T k).2=true∧(UC W T k).2.s≤W.s+k∧(UC W T k).2.lg.length≤W.lg.length+k
 | 0=>⟨hT,hW,by simp[UC],by simp[UC]⟩
 | k+1=>by
  obtain ⟨h1,h2,h3,h4⟩:=Ze9 hT hW k;have h5:=yY (UC W T k).2 (UC W T k).1;refine ⟨ZcB h1 h2,ZaO h2 _,?_,?_⟩
  ·show (ZC (UC W T k).2 (UC W T k).1).2.s≤_
   omega
  ·show (ZC (UC W T k).2 (UC W T k).1).2.lg.length≤_
   omega
def awW:List (List AV):=match ZK 2 1 1 1 0 2 1 [[.int .i64 2,.bool false,.int .i64 1,.int .i64 5,.int .i64 0,.int .i64 0,.int .i64 0,.int .i64 10,.int .i64 1,.int .i64 9],[.int .i64 2,.bool false,.int .i64 1,.int .i64 3,.int .i64 0,.int .i64 0,.int .i64 1,.int .i64 8,.int .i64 1,.int .i64 9]] 2 with
 | some (ws,_,_)=>ws
 | none=>[]
def awS:List (List AV):=match ZK 2 1 1 1 0 2 1 [[.int .i64 2,.bool false,.int .i64 1,.int .i64 5,.int .i64 0,.int .i64 0,.int .i64 0,.int .i64 10,.int .i64 1,.int .i64 9],[.int .i64 2,.bool false,.int .i64 1,.int .i64 3,.int .i64 0,.int .i64 0,.int .i64 1,.int .i64 8,.int .i64 1,.int .i64 9]] 2 with
 | some (_,S,_)=>S
 | none=>[]
def awT:List (List AV):=match ZK 2 1 1 1 0 2 1 [[.int .i64 2,.bool false,.int .i64 1,.int .i64 5,.int .i64 0,.int .i64 0,.int .i64 0,.int .i64 10,.int .i64 1,.int .i64 9],[.int .i64 2,.bool false,.int .i64 1,.int .i64 3,.int .i64 0,.int .i64 0,.int .i64 1,.int .i64 8,.int .i64 1,.int .i64 9]] 2 with
 | some (_,_,T)=>T
 | none=>[]
theorem Zf3:ZK 2 1 1 1 0 2 1 [[.int .i64 2,.bool false,.int .i64 1,.int .i64 5,.int .i64 0,.int .i64 0,.int .i64 0,.int .i64 10,.int .i64 1,.int .i64 9],[.int .i64 2,.bool false,.int .i64 1,.int .i64 3,.int .i64 0,.int .i64 0,.int .i64 1,.int .i64 8,.int .i64 1,.int .i64 9]] 2=some (awW,awS,awT):=by kernel_rfl
def aw0:WZ:=⟨2,1,1,1,0,2,1,awW,4,0,[]⟩
theorem ZhG:okW aw0=true:=by kernel_rfl
theorem aw_T:okT (tz0 3 0 0 1 0)=true:=by kernel_rfl
theorem Zik:(UC aw0 (tz0 3 0 0 1 0) 14).1.made=true∧(UC aw0 (tz0 3 0 0 1 0) 14).1.pc=14∧(Za (sAt (UC aw0 (tz0 3 0 0 1 0) 14).2 1)).k=5∧(UC aw0 (tz0 3 0 0 1 0) 14).2.a=2∧(UC aw0 (tz0 3 0 0 1 0) 14).2.b=1:=by
 refine ⟨?_,?_,?_,?_,?_⟩<;>kernel_rfl
theorem Zib:(UC aw0 (tz0 3 0 0 1 0) 14).2.lg=[evC 2 0 1 1 1 3 9 0 0]:=by kernel_rfl
def d6:List AV→Option Ans
 | []=>some ⟨.bool true,[]⟩
 | _=>none
def I10 (T:TZ) (W:WZ) (k:Nat):St:=⟨[(3,.ptr (.top 0) 0 0),(6,.ptr (.top 1) 0 0),(24,.int .i64 k)],[(0,.cells 0 (wzC W)),(1,.cells 0 (tzC T))],2⟩
theorem ok6:NOk [] d6:=by
 intro xs a h;unfold d6 at h
 (repeat' (split at h))<;>first|(cases h;done)|(injection h with h;subst h;refine ⟨Zq ?_,?_⟩<;>simp)
theorem s6:Sound Tryz.prog 6 (Zi [] d6 ok6):=by
 refine Zj C6.a C6.b C6.c C6.d ok6 (fun xs a h=>?_) fun xs a h w0 S hS=>?_
 ·unfold d6 at h
  (repeat' (split at h))<;>first|(cases h;done)|exact Nat.le_of_ble_eq_true rfl
 unfold d6 at h;split at h
 ·skip
  injection h with h;subst h;have hE:Zb Tryz.prog (EL [(41,Zi [] d41 ok41),(5,Zi [(10,false)] d5 ok5),(7,Zi [] d7 ok7),(9,Zi [(35,true),(10,true)] d9 ok9),(42,Zi [(10,true)] d42 ok42),(12,Zi [(35,false)] d12 ok12),(11,Zi [(35,false)] d11 ok11)]):=Zd (by simp only[List.mem_cons,List.not_mem_nil,or_false,forall_eq_or_imp,forall_eq];exact ⟨s41,s5,s7,s9,s42,s12,s11⟩);obtain ⟨aT,aW,hr⟩:∃ a b,(tz0 3 0 0 1 0)=a∧aw0=b:=⟨_,_,rfl,rfl⟩;have hb:d5 [.agg [.int .i64 2,.int .i64 1,.int .i64 1,.int .i64 1,.int .i64 0,.int .i64 2,.int .i64 1],.os 0 10 [[.int .i64 2,.bool false,.int .i64 1,.int .i64 5,.int .i64 0,.int .i64 0,.int .i64 0,.int .i64 10,.int .i64 1,.int .i64 9],[.int .i64 2,.bool false,.int .i64 1,.int .i64 3,.int .i64 0,.int .i64 0,.int .i64 1,.int .i64 8,.int .i64 1,.int .i64 9]]]=some ⟨.tup [.op 0 (wzC aw0),.op 0 (qC 2 1 1 1 0 2 1 awS awT),.bool true],[.free]⟩:=by
   simp only[d5];rw[if_pos (by kernel_rfl),if_pos (by kernel_rfl)];simp only[YV,List.length_cons,List.length_nil];rw[Zf3]
   rfl
  obtain ⟨hcf0,hw0,hwl0,hs00,ht00,ht10,hlg0⟩:=Zl ZhG;have hT0:=ZZ hw0;have hC0:=Z0 hw0;have hTl0:=ZF hlg0;have hCl0:=ZE hlg0;have hqS:ZG awS=awS:=by kernel_rfl
  have hqS2:Yp awS=true:=by kernel_rfl
  have hqT:ZG awT=awT:=by kernel_rfl
  have hqT2:Yp awT=true:=by kernel_rfl
  have hrun:=Ze9 aw_T ZhG;have hend:=Zik;have hlog:=Zib;obtain ⟨A0,hA0⟩:∃ z,aw0=z:=⟨_,rfl⟩;obtain ⟨qS,hqSe⟩:∃ z,awS=z:=⟨_,rfl⟩;obtain ⟨qT,hqTe⟩:∃ z,awT=z:=⟨_,rfl⟩;have hs4:A0.s=4:=by rw[← hA0];rfl
  have hl0:A0.lg.length=0:=by rw[← hA0];rfl
  rw[hA0]at hb hT0 hC0 hTl0 hCl0 hrun hend hlog;rw[hqSe]at hb hqS hqS2;rw[hqTe]at hb hqT hqT2;clear hw0 hwl0 hs00 ht00 ht10 hlg0 hcf0 hr aT aW;have hwzs:∀ T0,tzC T0=tzC T0:=fun _=>rfl;simp only[wzC,qC]at hb;unfold m6
  repeat' with_reducible (first|refine ZR.h ?_|refine zI ?_|(refine zK hE ?_;intro K hK;simp[hb,hT0,hC0,hTl0,hCl0,hqS,hqS2,hqT,hqT2,tzC,tz0,Zu,d41,d7];(repeat' (first|refine hK _ _ ?_|apply And.intro|(intro hc;try subst hc)))<;>(try clear hK K))|(refine zJ (fun hc=>?_) (fun hc=>?_)<;>simp at hc<;>(try subst hc)))
  all_goals (refine YJ (fun k=>I10 (UC A0 (tz0 3 0 0 1 0) k).1 (UC A0 (tz0 3 0 0 1 0) k).2 k) (fun k=>k≤14) (fun k=>14 - k) 0 (Nat.zero_le _) ?_ ?_)
  ·simp only[I10,UC,wzC,tzC,tz0,Zu]
   rw[hS];refine Imp.aut ?_ ?_<;>simp[NLe,ZM,hT0,hC0,hTl0,hCl0,hqS,hqS2,hqT,hqT2]
  ·intro k hk
   replace hk:k≤14:=hk;obtain ⟨kT,kW,ks,kl⟩:=hrun k;have hsm:smW (UC A0 (tz0 3 0 0 1 0) k).2=true:=decide_eq_true (by omega);have hst:=e9 kT kW hsm;have hsucc:UC A0 (tz0 3 0 0 1 0) (k+1)=ZC (UC A0 (tz0 3 0 0 1 0) k).2 (UC A0 (tz0 3 0 0 1 0) k).1:=rfl;have kW2:=(hrun (k+1)).2.1;by_cases hk14:k<14
   ·obtain ⟨r,hr⟩:∃ r,UC A0 (tz0 3 0 0 1 0) k=r:=⟨_,rfl⟩
    obtain ⟨r2,hr2⟩:∃ r,UC A0 (tz0 3 0 0 1 0) (k+1)=r:=⟨_,rfl⟩;rw[hr]at kT kW hst hsucc;rw[hr2]at hsucc kW2;rw[← hsucc]at hst;rw[hr];obtain ⟨hcf,hw,hwl,hs0,ht0,ht1,hlg⟩:=Zl kW;have hT:=ZZ hw;have hC:=Z0 hw;have hTl:=ZF hlg;have hCl:=ZE hlg;obtain ⟨hcf2,hw2,hwl2,hs02,ht02,ht12,hlg2⟩:=Zl kW2;have hT2:=ZZ hw2;have hC2:=Z0 hw2;have hTl2:=ZF hlg2;have hCl2:=ZE hlg2;have hkI:(k:Int)<14:=(by omega);have ww:IntKind.wrap .i64 ((k:Int)+1)=(k:Int)+1:=Zh (by omega) (by omega);simp only[I10,tzC,wzC,wzL]at hst⊢
    repeat' with_reducible (first|refine ZR.h ?_|refine zI ?_|(refine zK hE ?_;intro K hK;simp[hT,hC,hTl,hCl,hT2,hC2,hTl2,hCl2,hkI,hst,ww,d41,d7];(repeat' (first|refine hK _ _ ?_|apply And.intro|(intro hc;try subst hc)))<;>(try clear hK K))|(refine zJ (fun hc=>?_) (fun hc=>?_)<;>simp at hc<;>(try subst hc)))
    all_goals refine ⟨k+1,hk14,Nat.sub_lt_sub_left hk14 (Nat.lt_succ_self k),?_⟩
    all_goals simp only[hr2]
    all_goals rw[hS]
    all_goals (refine Imp.aut ?_ ?_<;>simp[NLe,ZM,hT,hC,hTl,hCl,hT2,hC2,hTl2,hCl2])
   ·have hke:k=14:=by omega
    subst hke;clear hst hsucc kW2;obtain ⟨hm,hpc,hk5,ha2,hb1⟩:=hend;have hlo:=Tw hsm;have h14:=e42 kW hlo (x:=1) (by omega) (by rw[ha2,hb1];omega);obtain ⟨r,hr⟩:∃ r,UC A0 (tz0 3 0 0 1 0) 14=r:=⟨_,rfl⟩;rw[hr]at kT kW hm hpc hk5 ha2 hb1 h14 hlog;rw[hr];obtain ⟨hcf,hw,hwl,hs0,ht0,ht1,hlg⟩:=Zl kW;have hT:=ZZ hw;have hC:=Z0 hw;have h13:=e11 r.1;rw[hpc]at h13;simp only[show decide ((14:Int)≤14)=true from rfl]at h13;have h15:∀ u,d12 [.op u (tzC r.1)]=some ⟨.bool true,[.free]⟩:=fun u=>by simp only[d12,Vb,hm]
    obtain ⟨st,hst⟩:∃ z,Za (sAt r.2 1)=z:=⟨_,rfl⟩;rw[hst]at h14 hk5;simp only[I10,tzC,wzC,wzL,ZO,stA,hlog,evC]at h14 h13 h15⊢
    repeat' with_reducible (first|refine ZR.h ?_|refine zI ?_|(refine zK hE ?_;intro K hK;simp[hT,hC,h14,h13,h15,hk5,d41,d7];(repeat' (first|refine hK _ _ ?_|apply And.intro|(intro hc;try subst hc)))<;>(try clear hK K))|(refine zJ (fun hc=>?_) (fun hc=>?_)<;>simp at hc<;>(try subst hc)))
    all_goals first|(simp;done)|(simp at *;omega)|((try simp[hT,hC]);refine Imp.aut ?_ ?_<;>simp[NLe,hT,hC])
 ·cases h
end Go.W
namespace Go.W
open Go.Proofs
set_option linter.unusedSimpArgs false
set_option linter.unusedVariables false
set_option maxHeartbeats 8000000
theorem Y1 {els vs:List (List AV)} {k:Nat} {v:Int} (h:Yf els vs (k+1)=some v):∃ x,Yf els vs k=some x∧0≤ZI (vs.getD k [])∧ZI (vs.getD k [])≤2 ^ (ZI (els.getD k [])).toNat - 1∧v=x+ZI (vs.getD k [])*2 ^ (YS els k).toNat:=by
 simp only[Yf]at h;cases hx:Yf els vs k with
 | none=>rw[hx]at h;cases h
 | some x =>
  rw[hx]at h;simp only at h;by_cases h1:ZI (vs.getD k [])<0
  ·rw[if_pos h1]at h;cases h
  ·rw[if_neg h1]at h
   by_cases h2:2 ^ (ZI (els.getD k [])).toNat - 1<ZI (vs.getD k [])
   ·rw[if_pos h2]at h;cases h
   ·rw[if_neg h2]at h
    injection h with h;exact ⟨x,rfl,by omega,by omega,h.symm⟩
theorem XV {els vs:List (List AV)} {k:Nat} {x:Int} (hx:Yf els vs k=some x) (h1:0≤ZI (vs.getD k [])) (h2:ZI (vs.getD k [])≤2 ^ (ZI (els.getD k [])).toNat - 1):Yf els vs (k+1)=some (x+ZI (vs.getD k [])*2 ^ (YS els k).toNat):=by
 simp only[Yf,hx];rw[if_neg (by omega),if_neg (by omega)]
theorem UO {s:StZ} {v:Int} (h:ZN s=some v):Za v=s∧0≤s.k∧s.k≤8∧0≤s.g∧s.g≤255∧0≤s.l∧s.l≤65535∧0≤s.f∧s.f≤255:=by
 unfold ZN at h;by_cases hk:8<s.k
 ·rw[if_pos hk]at h;cases h
 rw[if_neg hk]at h;obtain ⟨x4,h4,a4,b4,e4⟩:=Y1 h;obtain ⟨x3,h3,a3,b3,e3⟩:=Y1 h4;obtain ⟨x2,h2,a2,b2,e2⟩:=Y1 h3;obtain ⟨x1,h1,a1,b1,e1⟩:=Y1 h2;obtain ⟨x0,h0,a0,b0,e0⟩:=Y1 h1;simp only[Yf,Option.some.injEq]at h0;subst h0 e0 e1 e2 e3 e4;simp[ZI,YS]at a0 b0 a1 b1 a2 b2 a3 b3 a4 b4⊢;obtain ⟨k,fl,g,l,f⟩:=s;simp only at hk a0 b0 a1 b1 a2 b2 a3 b3 a4 b4⊢;refine ⟨?_,a0,by omega,a2,b2,a3,b3,a4,b4⟩;cases fl
 ·simp[Za,TA]
  omega
 ·simp[Za,TA]
  omega
theorem Vr {s:StZ} (h0:0≤s.k) (h1:s.k≤8) (h2:0≤s.g) (h3:s.g≤255) (h4:0≤s.l) (h5:s.l≤65535) (h6:0≤s.f) (h7:s.f≤255):∃ v,ZN s=some v:=by
 unfold ZN;rw[if_neg (by omega)];obtain ⟨k,fl,g,l,f⟩:=s;simp only at h0 h1 h2 h3 h4 h5 h6 h7⊢;refine ⟨_,XV (XV (XV (XV (XV rfl ?_ ?_) ?_ ?_) ?_ ?_) ?_ ?_) ?_ ?_⟩<;>cases fl<;>simp[ZI]<;>omega
theorem ZdM {t:TmZ} {v:Int} (h:Ux t=some v):Yg v=t:=by
 unfold Ux at h;obtain ⟨x4,h4,a4,b4,e4⟩:=Y1 h;obtain ⟨x3,h3,a3,b3,e3⟩:=Y1 h4;obtain ⟨x2,h2,a2,b2,e2⟩:=Y1 h3;obtain ⟨x1,h1,a1,b1,e1⟩:=Y1 h2;obtain ⟨x0,h0,a0,b0,e0⟩:=Y1 h1;simp only[Yf,Option.some.injEq]at h0;subst h0 e0 e1 e2 e3 e4;simp[ZI,YS]at a0 b0 a1 b1 a2 b2 a3 b3 a4 b4⊢;obtain ⟨n,s,p,l,u⟩:=t;simp only at a0 b0 a1 b1 a2 b2 a3 b3 a4 b4⊢;simp[Yg,TA];omega
theorem ZgN {r:RcZ} {v:Int} (h:zm r=some v):X8 v=r:=by
 unfold zm at h;by_cases hk:5<r.k
 ·rw[if_pos hk]at h;cases h
 rw[if_neg hk]at h;obtain ⟨x5,h5,a5,b5,e10⟩:=Y1 h;obtain ⟨x4,h4,a4,b4,e4⟩:=Y1 h5;obtain ⟨x3,h3,a3,b3,e3⟩:=Y1 h4;obtain ⟨x2,h2,a2,b2,e2⟩:=Y1 h3;obtain ⟨x1,h1,a1,b1,e1⟩:=Y1 h2;obtain ⟨x0,h0,a0,b0,e0⟩:=Y1 h1;simp only[Yf,Option.some.injEq]at h0;subst h0 e0 e1 e2 e3 e4 e10;simp[ZI,YS]at a0 b0 a1 b1 a2 b2 a3 b3 a4 b4 a5 b5⊢;obtain ⟨k,q,p,t,c,g⟩:=r;simp only at a0 b0 a1 b1 a2 b2 a3 b3 a4 b4 a5 b5 hk⊢;simp[X8,TA];omega
theorem Zdb {r:RcZ} (h0:0≤r.k) (h1:r.k≤5) (h2:0≤r.q) (h3:r.q≤65535) (h4:0≤r.p) (h5:r.p≤65535) (h6:0≤r.t) (h7:r.t≤1000000) (h8:0≤r.c) (h9:r.c≤31) (h10:0≤r.g) (h11:r.g≤15):∃ v,zm r=some v:=by
 unfold zm;rw[if_neg (by omega)];obtain ⟨k,q,p,t,c,g⟩:=r;simp only at h0 h1 h2 h3 h4 h5 h6 h7 h8 h9 h10 h11⊢;refine ⟨_,XV (XV (XV (XV (XV (XV rfl ?_ ?_) ?_ ?_) ?_ ?_) ?_ ?_) ?_ ?_) ?_ ?_⟩<;>simp[ZI]<;>omega
theorem z9 {ws:List (List AV)} {i:Nat} {v:Int} (h:i<ws.length):wAt (ws.set i [.int .u64 v]) i=v:=by
 unfold wAt;rw[List.getElem?_set_self h]
theorem XC {ws:List (List AV)} {i j:Nat} {c:List AV} (h:i≠j):wAt (ws.set i c) j=wAt ws j:=by
 unfold wAt;rw[List.getElem?_set_ne h]
def idl (a b x y:Int):Bool:=decide (V6 a b x<0∨V6 a b y<0∨V6 a b x=V6 a b y)
theorem Xs (W:WZ) (T:TZ):YD W T=idl W.a W.b T.x T.y:=rfl
theorem ZcH {W:WZ} {x:Int} {v:Int} (h:(2*x).toNat<W.ws.length):sAt (Zao W (2*x).toNat v) x=v:=z9 h
theorem Zd0 {W:WZ} {x y:Int} {v:Int} (h:(2*y).toNat≠(2*x).toNat):sAt (Zao W (2*y).toNat v) x=sAt W x:=XC h
theorem Ze1 {W:WZ} {x y:Int} {v:Int} (h:(2*y).toNat≠(2*x+1).toNat):tAt (Zao W (2*y).toNat v) x=tAt W x:=XC h
section
variable {W:WZ} {x y sh wx wy q p ta en:Int} {tx ty:TmZ} {held made free:Bool} {nx ny:StZ}
theorem q0 (hi:idl W.a W.b x y=false):ZC W ⟨3,x,0,y,sh,0,wx,wy,tx,ty,held,made,free,q,p,ta,en,nx,ny⟩=(⟨3,x,0,y,sh,1,sAt W x,wy,tx,ty,held,made,free,q,p,ta,en,nx,ny⟩,ZO W):=by
 simp[ZC,ZP,Xs,hi]
theorem q1 (hi:idl W.a W.b x y=false):ZC W ⟨3,x,0,y,sh,1,wx,wy,tx,ty,held,made,free,q,p,ta,en,nx,ny⟩=(⟨3,x,0,y,sh,2,wx,wy,Yg (tAt W x),ty,held,made,free,q,p,ta,en,nx,ny⟩,ZO W):=by
 simp[ZC,ZP,Xs,hi]
theorem q3 (hi:idl W.a W.b x y=false):ZC W ⟨3,x,0,y,sh,3,wx,wy,tx,ty,held,made,free,q,p,ta,en,nx,ny⟩=(⟨3,x,0,y,sh,4,wx,sAt W y,tx,ty,held,made,free,q,p,ta,en,nx,ny⟩,ZO W):=by
 simp[ZC,ZP,Xs,hi]
theorem q4 (hi:idl W.a W.b x y=false):ZC W ⟨3,x,0,y,sh,4,wx,wy,tx,ty,held,made,free,q,p,ta,en,nx,ny⟩=(⟨3,x,0,y,sh,5,wx,wy,tx,Yg (tAt W y),held,made,free,q,p,ta,en,nx,ny⟩,ZO W):=by
 simp[ZC,ZP,Xs,hi]
theorem q6 (hi:idl W.a W.b x y=false):ZC W ⟨3,x,0,y,sh,6,wx,wy,tx,ty,true,made,false,q,p,ta,en,nx,ny⟩=(⟨3,x,0,y,sh,7,sAt W x,wy,tx,ty,true,made,false,q,p,ta,en,nx,ny⟩,ZO W):=by
 simp[ZC,ZP,Xs,hi,YH]
theorem q7 {v:Int} {n2:StZ} (hi:idl W.a W.b x y=false) (hr:Zf (Za wx) (if made=true then q else 0) W.f=(n2,0)) (hv:ZN n2=some v) (hs:sAt W x=wx):ZC W ⟨3,x,0,y,sh,7,wx,wy,tx,ty,true,made,false,q,p,ta,en,nx,ny⟩=(⟨3,x,0,y,sh,8,wx,wy,tx,ty,true,made,true,q,p,ta,W.t,n2,ny⟩,if T8 n2.k=true then Uk (Zao W (2*x).toNat v) 7 x n2.g 0 0 0 0 n2.k else Zao W (2*x).toNat v):=by
 simp[ZC,ZP,Xs,hi,Uh,XF,hr,Zs,hv,hs]
theorem q8 (hi:idl W.a W.b x y=false):ZC W ⟨3,x,0,y,sh,8,wx,wy,tx,ty,held,made,true,q,p,ta,en,nx,ny⟩=(⟨3,x,0,y,sh,9,wx,wy,tx,ty,held,made,true,q,p,ta,en,nx,ny⟩,W):=by
 simp[ZC,ZP,Xs,hi,YH]
theorem q9 (hi:idl W.a W.b x y=false):ZC W ⟨3,x,0,y,sh,9,wx,wy,tx,ty,held,made,true,q,p,ta,en,nx,ny⟩=(⟨3,x,0,y,sh,10,wx,wy,tx,ty,held,made,true,q,p,ta,en,nx,ny⟩,W):=by
 simp[ZC,ZP,Xs,hi,Uh]
end
theorem muls {u v m r s:Int} (h:u*m+r=v*m+s) (h0:0≤r) (h1:r<m) (h2:0≤s) (h3:s<m):u=v∧r=s:=by
 have hm:0≤m:=by omega
 by_cases a1:u<v
 ·have:=Int.mul_le_mul_of_nonneg_right (show u+1≤v by omega) hm
  rw[Int.add_mul,Int.one_mul]at this;omega
 ·by_cases a2:v<u
  ·have:=Int.mul_le_mul_of_nonneg_right (show v+1≤u by omega) hm
   rw[Int.add_mul,Int.one_mul]at this;omega
  ·have e:u=v:=by omega
   subst e;exact ⟨rfl,by omega⟩
section
variable {a b f g x gen n:Int}
theorem TU (h0:0≤x) (h1:x<a*b) (h2:1≤gen) (h3:gen≤g) (h4:0≤n) (h5:n≤f):ZT a b f g x gen n=a*b*2+(x*g+gen - 1)*(f+1)+n:=by
 unfold ZT;rw[if_neg (by omega),if_neg (by omega),if_neg (by omega),if_neg (by omega),if_neg (by omega),if_neg (by omega)]
theorem ZgL (hg:0≤g) (hf:0≤f):ZT a b f g x gen n<0∨a*b*2≤ZT a b f g x gen n:=by
 unfold ZT
 repeat' split
 all_goals first|(left;omega)|skip
 right;have h1:=Int.mul_nonneg (show 0≤x by omega) hg;have h2:=Int.mul_nonneg (show 0≤x*g+gen - 1 by omega) (show 0≤f+1 by omega);omega
theorem yX (h0:0≤x) (h1:x<a*b) (h2:1≤gen) (h3:gen≤g) (h4:0≤n) (h5:n≤f):a*b*2≤ZT a b f g x gen n∧ZT a b f g x gen n<a*b*2+a*b*g*(f+1):=by
 rw[TU h0 h1 h2 h3 h4 h5];have k1:=Int.mul_nonneg h0 (show 0≤g by omega);have k2:=Int.mul_nonneg (show 0≤x*g+gen - 1 by omega) (show 0≤f+1 by omega);have k3:=Int.mul_le_mul_of_nonneg_right (show x+1≤a*b by omega) (show 0≤g by omega);rw[Int.add_mul,Int.one_mul]at k3;have k4:=Int.mul_le_mul_of_nonneg_right (show x*g+gen - 1+1≤a*b*g by omega) (show 0≤f+1 by omega);rw[Int.add_mul,Int.one_mul]at k4;omega
theorem Zeo {x' gen' n':Int} (h0:0≤x) (h1:x<a*b) (h2:1≤gen) (h3:gen≤g) (h4:0≤n) (h5:n≤f) (k0:0≤x') (k1:x'<a*b) (k2:1≤gen') (k3:gen'≤g) (k4:0≤n') (k5:n'≤f) (h:ZT a b f g x gen n=ZT a b f g x' gen' n'):x=x'∧gen=gen'∧n=n':=by
 rw[TU h0 h1 h2 h3 h4 h5,TU k0 k1 k2 k3 k4 k5]at h;obtain ⟨e1,e2⟩:=muls (m:=f+1) (u:=x*g+gen - 1) (v:=x'*g+gen' - 1) (r:=n) (s:=n') (by omega) h4 (by omega) k4 (by omega);obtain ⟨e3,e4⟩:=muls (m:=g) (u:=x) (v:=x') (r:=gen - 1) (s:=gen' - 1) (by omega) (by omega) (by omega) (by omega) (by omega);exact ⟨e3,by omega,e2⟩
end
theorem Zap (W:WZ) (x g n:Int) (r:RcZ):(Z2 W x g n r).a=W.a∧(Z2 W x g n r).b=W.b∧(Z2 W x g n r).f=W.f∧(Z2 W x g n r).g=W.g∧(Z2 W x g n r).lg=W.lg∧(Z2 W x g n r).ws.length=W.ws.length∧∀ i:Nat,(ZT W.a W.b W.f W.g x g n<0∨ZT W.a W.b W.f W.g x g n≠i)→wAt (Z2 W x g n r).ws i=wAt W.ws i:=by
 unfold Z2;split
 ·exact ⟨rfl,rfl,rfl,rfl,rfl,rfl,fun _ _=>rfl⟩
 ·split
  ·exact ⟨rfl,rfl,rfl,rfl,rfl,rfl,fun _ _=>rfl⟩
  ·split
   ·exact ⟨rfl,rfl,rfl,rfl,rfl,rfl,fun _ _=>rfl⟩
   ·exact ⟨rfl,rfl,rfl,rfl,rfl,List.length_set ..,fun i hi=>XC (by omega)⟩
theorem Zgw {W:WZ} {x g n:Int} {r:RcZ} {v:Int} (hv:zm r=some v) (h0:0≤ZT W.a W.b W.f W.g x g n) (h1:ZT W.a W.b W.f W.g x g n<W.ws.length):wAt (Z2 W x g n r).ws (ZT W.a W.b W.f W.g x g n).toNat=v:=by
 unfold Z2;rw[hv];simp only;rw[if_neg (by omega),if_neg (by omega)];exact z9 (by omega)
def goodZ (F G:Int) (s:StZ):Prop:=s.k=2∧s.fl=false∧1≤s.g∧s.g≤G∧1≤s.l∧s.l≤65535∧0≤s.f∧s.f<F
theorem Ziw {a b x y:Int} (hx0:0≤x) (hx:x<a*b) (hi:idl a b x y=false):x≠y:=by
 intro e;subst e;unfold idl at hi;simp at hi
section
variable {W:WZ} {x y sh:Int}
end
section
variable {W:WZ} {x y sh:Int}
end
def TD (W:WZ):Int×Int×Int×Int×Int×Int×Int×Int:=(W.a,W.b,W.c,W.d,W.e,W.f,W.g,W.t)
theorem YE (W:WZ) (x old:Int) (s:StZ):TD (Zs W x old s).2=TD W:=by
 unfold Zs;split
 ·rfl
 ·split<;>rfl
theorem zD (W:WZ) (x g n:Int) (r:RcZ):TD (Z2 W x g n r)=TD W:=by
 unfold Z2;split
 ·rfl
 ·split
  ·rfl
  ·split<;>rfl
theorem xk (W:WZ) (k c g o w q p e:Int):TD (Uk W k c g o w q p e)=TD W:=rfl
theorem Zbu (W:WZ) (T:TZ):TD (Yw W T)=TD W:=by
 unfold Yw
 repeat' split
 all_goals first|exact zD _ _ _ _ _|rfl
theorem yn {W:WZ} {x old:Int} {s:StZ} {j:Nat} (h:j≠(2*x).toNat):wAt (Zs W x old s).2.ws j=wAt W.ws j:=by
 unfold Zs;split
 ·rfl
 ·split
  ·exact XC (fun e=>h e.symm)
  ·rfl
theorem Uc {W:WZ} (hW:okW W=true) {x g n:Int} {r:RcZ} {j:Nat} (hj:(j:Int)<W.a*W.b*2):wAt (Z2 W x g n r).ws j=wAt W.ws j:=by
 have hc:=ZH (Zl hW).1;have hs:=ZgL (a:=W.a) (b:=W.b) (f:=W.f) (g:=W.g) (x:=x) (gen:=g) (n:=n) (by omega) (by omega);exact (Zap W x g n r).2.2.2.2.2.2 j (by omega)
section
variable {W:WZ} {T:TZ} {j:Nat}
theorem vx (hW:okW W=true) (hj:(j:Int)<W.a*W.b*2):wAt (Yw W T).ws j=wAt W.ws j:=by
 unfold Yw
 repeat' split
 all_goals first|exact Uc hW hj|rfl
end
theorem Xe {W V:WZ} (h:TD W=TD V):W.a=V.a∧W.b=V.b∧W.c=V.c∧W.d=V.d∧W.f=V.f∧W.g=V.g∧W.t=V.t:=by
 simp only[TD,Prod.mk.injEq]at h;exact ⟨h.1,h.2.1,h.2.2.1,h.2.2.2.1,h.2.2.2.2.2.1,h.2.2.2.2.2.2.1,h.2.2.2.2.2.2.2⟩
def stW (W:WZ) (i:Int):StZ:=Za (sAt W i)
def tmW (W:WZ) (i:Int):TmZ:=Yg (tAt W i)
theorem xH {W:WZ} {x old:Int} {s:StZ} (hx0:0≤x) (hl:2*x+1<W.ws.length) (h:(Zs W x old s).1=true):sAt W x=old∧stW (Zs W x old s).2 x=s∧(∀ i:Int,0≤i→i≠x→stW (Zs W x old s).2 i=stW W i)∧(∀ i:Int,0≤i→tmW (Zs W x old s).2 i=tmW W i)∧(Zs W x old s).2.lg=W.lg∧(Zs W x old s).2.ws.length=W.ws.length:=by
 unfold Zs at h⊢;cases hv:ZN s with
 | none=>rw[hv]at h;cases h
 | some v =>
  rw[hv]at h;simp only at h⊢;by_cases e:sAt W x=old
  ·rw[if_pos e]
   refine ⟨e,?_,fun i i0 hi=>?_,fun i i0=>?_,rfl,List.length_set ..⟩
   ·unfold stW
    simp only;rw[ZcH (by omega)];exact (UO hv).1
   ·unfold stW
    simp only;rw[Zd0 (by omega)]
   ·unfold tmW
    simp only;rw[Ze1 (by omega)]
  ·rw[if_neg e]at h;cases h
theorem Uf {W:WZ} {x old:Int} {s:StZ} (h:(Zs W x old s).1=false):(Zs W x old s).2.ws=W.ws∧(Zs W x old s).2.lg=W.lg:=by
 unfold Zs at h⊢;cases hv:ZN s with
 | none=>exact ⟨rfl,rfl⟩
 | some v =>
  rw[hv]at h;simp only at h⊢;by_cases e:sAt W x=old
  ·rw[if_pos e]at h;cases h
  ·rw[if_neg e];exact ⟨rfl,rfl⟩
theorem ZeW {W:WZ} {x old:Int} {s:StZ} {v:Int} (hv:ZN s=some v) (h:(Zs W x old s).1=false):sAt W x≠old:=by
 unfold Zs at h;rw[hv]at h;simp only at h;intro e;rw[if_pos e]at h;cases h
theorem ZbD {W V:WZ} (h:V.ws=W.ws) (i:Int):stW V i=stW W i∧tmW V i=tmW W i∧sAt V i=sAt W i:=by
 unfold stW tmW sAt tAt;rw[h];exact ⟨rfl,rfl,rfl⟩
def Zce (i:Int):List AV→Int
 | [.int .i64 k,.int .i64 c,.int .i64 g,.int .i64 o,.int .i64 w,_,_,_,_,_,.int .i64 q,_,_,_]=>if k=2 then (if c=i then q else 0)+(if o=i then q else 0) else 0
 | _=>0
def UI (i:Int):List (List AV)→Int
 | []=>0
 | r :: l=>Zce i r+UI i l
theorem zR (i:Int):∀ a b:List (List AV),UI i (a++b)=UI i a+UI i b
 | [],b=>by simp[UI]
 | r :: a,b=>by
  simp only[List.cons_append,UI,zR i a b];omega
theorem Zh2 (i c g o w q p t e:Int):Zce i (evC 2 c g o w q p t e)=(if c=i then q else 0)+(if o=i then q else 0):=by
 simp[evC,Zce]
theorem Zh6 {i k c g o w q p t e:Int} (h:k≠2):Zce i (evC k c g o w q p t e)=0:=by
 simp[evC,Zce,h]
def ZL (T:TZ) (i:Int):Bool:=T.held&&!T.free&&decide (T.x=i)
def zX (T:TZ) (i:Int):Int:=if ZL T i=true∧T.made=true then T.q else 0
def Zbb (i:Int):List TZ→Nat
 | []=>0
 | T :: l=>(if ZL T i=true then 1 else 0)+Zbb i l
def Zfi (i:Int):List TZ→Int
 | []=>0
 | T :: l=>zX T i+Zfi i l
theorem vp (i:Int):∀ (l:List TZ) (k:Nat) (T T':TZ),l[k]?=some T→Zbb i (l.set k T')+(if ZL T i=true then 1 else 0)=Zbb i l+(if ZL T' i=true then 1 else 0)
 | [],k,T,T',h=>by simp at h
 | A :: l,0,T,T',h=>by
  simp only[List.getElem?_cons_zero,Option.some.injEq]at h;subst h;simp only[List.set_cons_zero,Zbb];omega
 | A :: l,k+1,T,T',h=>by
  simp only[List.getElem?_cons_succ]at h;have:=vp i l k T T' h;simp only[List.set_cons_succ,Zbb];omega
theorem vo (i:Int):∀ (l:List TZ) (k:Nat) (T T':TZ),l[k]?=some T→Zfi i (l.set k T')=Zfi i l - zX T i+zX T' i
 | [],k,T,T',h=>by simp at h
 | A :: l,0,T,T',h=>by
  simp only[List.getElem?_cons_zero,Option.some.injEq]at h;subst h;simp only[List.set_cons_zero,Zfi];omega
 | A :: l,k+1,T,T',h=>by
  simp only[List.getElem?_cons_succ]at h;have:=vo i l k T T' h;simp only[List.set_cons_succ,Zfi];omega
def vr (F:Int) (s:StZ):Prop:=(s.k=1∨s.k=2∨s.k=3∨s.k=4→1≤s.l∧s.f<F)∧(s.fl=true→ZA s.k=true)
def ZaW (W:WZ) (T:TZ):Prop:=(Za T.wx).l=(stW W T.x).l∧(Za T.wx).f=(stW W T.x).f∧(T.made=true→1≤T.q∧T.q≤(stW W T.x).l)∧(T.pc=7∨T.pc=9→ZA (Za T.wx).k=true)
 ∧ (T.pc=7→sAt W T.x=T.wx∨(stW W T.x).fl=true)∧(T.pc=8→(stW W T.x).fl=true)∧(T.pc=9→(stW W T.x).fl=true∧sAt W T.x=T.wx)∧3≤T.pc∧T.pc≤9
def ZbK (B W:WZ) (T:TZ):Prop:=0≤T.pc∧T.pc≤14∧(idl B.a B.b T.x T.y=true→T.held=false∧T.made=false)∧(T.pc≤2→T.held=false)∧(T.pc≤5→T.made=false)∧(T.pc≤7→T.free=false)∧(T.made=true→T.held=true)∧(T.free=true→T.held=true)∧(T.held=true→T.free=false→ZaW W T)
def LogJ (n:Int) (L:List (List AV)):Prop:=∀ r,r∈L→∃ k c g o w q p t e:Int,r=evC k c g o w q p t e∧(k=2→0≤c∧c<n∧0≤o∧o<n)
def V0 (B:WZ) (was:Int→Int) (W:WZ) (Ts:List TZ):Prop:=okW W=true∧TD W=TD B∧(∀ i:Int,0≤i→i<B.a*B.b→vr B.f (stW W i)∧Zbb i Ts=(if ZA (stW W i).k=true then 1 else 0)∧(stW W i).l+UI i W.lg=was i+Zfi i Ts)∧LogJ (B.a*B.b) W.lg∧∀ T,T∈Ts→ZbK B W T
theorem yG {i:Int} {Ts:List TZ} {T:TZ} (h:T∈Ts) (hh:ZL T i=true):1≤Zbb i Ts:=by
 induction Ts with
 | nil=>cases h
 | cons A l ih =>
  show 1≤(if ZL A i=true then 1 else 0)+Zbb i l;rcases List.mem_cons.1 h with e|h
  ·rw[← e,if_pos hh];omega
  ·have:=ih h
   omega
theorem ZbQ {i:Int} {Ts:List TZ} (h:Zbb i Ts=0) {T:TZ} (hT:T∈Ts):ZL T i=false:=by
 by_cases e:ZL T i=true
 ·have:=yG hT e;omega
 ·simpa using e
theorem Zaa {α:Type} {l:List α} {k:Nat} {a b:α} (h:b∈l.set k a):b=a∨∃ j:Nat,j≠k∧l[j]?=some b:=by
 obtain ⟨j,hj⟩:=List.getElem?_of_mem h;by_cases e:j=k
 ·subst e
  rw[List.getElem?_set]at hj;simp only[if_true]at hj;split at hj
  ·injection hj with hj;exact .inl hj.symm
  ·cases hj
 ·rw[List.getElem?_set_ne (fun x=>e x.symm)]at hj
  exact .inr ⟨j,e,hj⟩
theorem Zek {i:Int} {Ts:List TZ}:∀ {k j:Nat} {T U:TZ},Ts[k]?=some T→Ts[j]?=some U→j≠k→ZL T i=true→ZL U i=true→2≤Zbb i Ts:=by
 induction Ts with
 | nil=>intro k j T U h;simp at h
 | cons A l ih =>
  intro k j T U h1 h2 hne a b;show 2≤(if ZL A i=true then 1 else 0)+Zbb i l;cases k with
  | zero =>
   cases j with
   | zero=>exact absurd rfl hne
   | succ j =>
    simp only[List.getElem?_cons_zero,Option.some.injEq]at h1;simp only[List.getElem?_cons_succ]at h2;have:=yG (List.mem_of_getElem? h2) b;rw[h1,if_pos a];omega
  | succ k =>
   simp only[List.getElem?_cons_succ]at h1;cases j with
   | zero =>
    simp only[List.getElem?_cons_zero,Option.some.injEq]at h2;have:=yG (List.mem_of_getElem? h1) a;rw[h2,if_pos b];omega
   | succ j =>
    simp only[List.getElem?_cons_succ]at h2;have:=ih h1 h2 (by omega) a b;omega
theorem yy {B W W':WZ} {T:TZ} (h:ZbK B W T) (k:ZL T T.x=true→sAt W' T.x=sAt W T.x):ZbK B W' T:=by
 obtain ⟨h1,h2,h3,h4,h5,h6,h7,h8,h9⟩:=h;refine ⟨h1,h2,h3,h4,h5,h6,h7,h8,fun a b=>?_⟩;have e:=k (by simp[ZL,a,b]);have e2:stW W' T.x=stW W T.x:=by unfold stW;rw[e]
 have:=h9 a b;unfold ZaW at this⊢;rw[e,e2];exact this
theorem ZdX {B:WZ} {was:Int→Int} {W W':WZ} {Ts:List TZ} {k:Nat} {T T':TZ} (h:V0 B was W Ts) (hk:Ts[k]?=some T) (ok:okW W'=true) (par:TD W'=TD W) (hst:∀ i:Int,0≤i→i<B.a*B.b→sAt W' i=sAt W i) (hlg:W'.lg=W.lg)
  (hh:∀ i,ZL T' i=ZL T i) (ho:∀ i,zX T' i=zX T i) (hx:∀ U:TZ,U∈Ts→ZL U U.x=true→0≤U.x∧U.x<B.a*B.b) (hT:ZbK B W' T'):V0 B was W' (Ts.set k T'):=by
 obtain ⟨s1,s2,s3,s4,s10⟩:=h
 refine ⟨ok,par.trans s2,fun i i0 i1=>?_,by rw[hlg];exact s4,fun U hU=>?_⟩
 ·obtain ⟨c1,c2,c3⟩:=s3 i i0 i1
  have e:stW W' i=stW W i:=by unfold stW;rw[hst i i0 i1]
  have hc:=vp i Ts k T T' hk;have ho2:=vo i Ts k T T' hk;rw[hh i]at hc;rw[ho i]at ho2;rw[e,hlg];exact ⟨c1,by omega,by omega⟩
 ·rcases Zaa hU with rfl|⟨j,hj,hm⟩
  ·exact hT
  ·have hmem:=List.mem_of_getElem? hm
   exact yy (s10 U hmem) fun a=>hst U.x (hx U hmem a).1 (hx U hmem a).2
theorem Zg2 {a b:TmZ} {l o:Int} (h:(Zc a b l o).1≠0):1≤(Zc a b l o).1∧(Zc a b l o).1≤l∧(Zc a b l o).1≤o:=by
 have key:(Zc a b l o).1=0∨(1≤(if o<l then o else l)∧(Zc a b l o).1=(if o<l then o else l)):=by
  unfold Zc;obtain ⟨m,e⟩:∃ x,(if o<l then o else l)=x:=⟨_,rfl⟩;rw[e]
  repeat' split
  all_goals first|exact .inl rfl|exact .inr ⟨by omega,rfl⟩
 rcases key with k|⟨k1,k2⟩
 ·exact absurd k h
 ·rw[k2]
  refine ⟨k1,?_,?_⟩
  ·split<;>omega
  ·split<;>omega
theorem U7 {B:WZ} {was:Int→Int} {W:WZ} {Ts:List TZ} {U:TZ} {i:Int} (h:V0 B was W Ts) (hU:U∈Ts) (a:ZL U i=true):U.held=true∧U.free=false∧U.x=i∧idl B.a B.b U.x U.y=false∧0≤i∧i<B.a*B.b∧ZaW W U:=by
 have hj:=h.2.2.2.2 U hU;obtain ⟨h1,h2,h3,h4,h5,h6,h7,h8,h9⟩:=hj;simp only[ZL,Bool.and_eq_true,Bool.not_eq_true',decide_eq_true_eq]at a;obtain ⟨⟨a1,a2⟩,a3⟩:=a;have hi:idl B.a B.b U.x U.y=false:=by
  by_cases e:idl B.a B.b U.x U.y=true
  ·have:=(h3 e).1;rw[a1]at this;cases this
  ·simpa using e
 have p:=Xe h.2.1;have hin:=Y6 (W:=W) (T:=U) h.1 (by rw[Xs,p.1,p.2.1];exact hi);rw[p.1,p.2.1]at hin;exact ⟨a1,a2,a3,hi,by rw[← a3];exact hin.1,by rw[← a3];exact hin.2.1,h9 a1 a2⟩
theorem yv {B:WZ} {was:Int→Int} {W W':WZ} {Ts:List TZ} {k:Nat} {T T':TZ} (z:Int) (h:V0 B was W Ts) (hk:Ts[k]?=some T) (ok:okW W'=true) (par:TD W'=TD W)
  (hst:∀ i:Int,0≤i→i<B.a*B.b→i≠z→sAt W' i=sAt W i)
  (hcell:∀ i:Int,0≤i→i<B.a*B.b→i=z→vr B.f (stW W' i))
  (hcnt:∀ i:Int,0≤i→i<B.a*B.b→(if ZA (stW W' i).k=true then 1 else 0)+(if ZL T i=true then 1 else 0)=(if ZA (stW W i).k=true then 1 else 0)+(if ZL T' i=true then 1 else 0))
  (hsum:∀ i:Int,0≤i→i<B.a*B.b→(stW W' i).l+UI i W'.lg - zX T' i=(stW W i).l+UI i W.lg - zX T i)
  (hU:∀ (j:Nat) (U:TZ),j≠k→Ts[j]?=some U→ZL U z=false) (hlog:LogJ (B.a*B.b) W'.lg) (hT:ZbK B W' T'):V0 B was W' (Ts.set k T'):=by
 have h':=h
 obtain ⟨s1,s2,s3,s4,s10⟩:=h
 refine ⟨ok,par.trans s2,fun i i0 i1=>?_,hlog,fun U hUm=>?_⟩
 ·obtain ⟨c1,c2,c3⟩:=s3 i i0 i1
  have hc:=vp i Ts k T T' hk;have ho:=vo i Ts k T T' hk;have hn:=hcnt i i0 i1;have hs:=hsum i i0 i1;refine ⟨?_,by omega,by omega⟩;by_cases e:i=z
  ·exact hcell i i0 i1 e
  ·have e2:stW W' i=stW W i:=by unfold stW;rw[hst i i0 i1 e]
   rw[e2];exact c1
 ·rcases Zaa hUm with rfl|⟨j,hj,hm⟩
  ·exact hT
  ·have hmem:=List.mem_of_getElem? hm
   refine yy (s10 U hmem) fun a=>?_;have r:=U7 h' hmem a;refine hst U.x r.2.2.2.2.1 r.2.2.2.2.2.1 fun e=>?_;have:=hU j U hj hm;rw[← e,a]at this;cases this
theorem Ub {W:WZ} {x old:Int} {s:StZ} {i:Int} (i0:0≤i) (x0:0≤x) (h:i≠x):sAt (Zs W x old s).2 i=sAt W i:=by
 unfold sAt;exact yn (by omega)
theorem yr {W:WZ} (h:okW W=true) {x:Int} (h0:0≤x) (h1:x<W.a*W.b):2*x+1<W.ws.length:=by
 obtain ⟨hcf,hw,hwl,_⟩:=Zl h;have hc:=ZH hcf;have hall:=ZJ hcf;have hwd:=Yl (f:=W.f) (g:=W.g) (show 0≤W.a*W.b by omega) hall.2 (by omega) (by omega);omega
theorem TR {B W:WZ} {x old:Int} {s:StZ} (hW:okW W=true) (hp:TD W=TD B) (x0:0≤x) (x1:x<B.a*B.b) (h:(Zs W x old s).1=true):sAt W x=old∧stW (Zs W x old s).2 x=s∧(∀ i:Int,0≤i→i≠x→stW (Zs W x old s).2 i=stW W i):=by
 have p:=Xe hp;have:=xH x0 (yr hW x0 (by rw[p.1,p.2.1];exact x1)) h;exact ⟨this.1,this.2.1,this.2.2.1⟩
theorem Td {B:WZ} {was:Int→Int} {W:WZ} {Ts:List TZ} {i:Int} (h:V0 B was W Ts) (i0:0≤i) (i1:i<B.a*B.b) (hl:ZA (stW W i).k=false) {T:TZ} (hT:T∈Ts):ZL T i=false:=by
 have c:=(h.2.2.1 i i0 i1).2.1;rw[hl,if_neg (by simp)]at c;exact ZbQ c hT
theorem zC {B:WZ} {was:Int→Int} {W:WZ} {Ts:List TZ} {i:Int} (h:V0 B was W Ts) (i0:0≤i) (i1:i<B.a*B.b) {T:TZ} (hT:T∈Ts) (a:ZL T i=true):ZA (stW W i).k=true:=by
 by_cases e:ZA (stW W i).k=true
 ·exact e
 ·have:=Td h i0 i1 (by simpa using e) hT
  rw[a]at this;cases this
theorem Zd1 {B:WZ} {was:Int→Int} {W:WZ} {Ts:List TZ} {i:Int} (h:V0 B was W Ts) (i0:0≤i) (i1:i<B.a*B.b) {k j:Nat} {T U:TZ} (hk:Ts[k]?=some T) (a:ZL T i=true) (hj:j≠k) (hU:Ts[j]?=some U):ZL U i=false:=by
 by_cases e:ZL U i=true
 ·have h2:=Zek hk hU hj a e
  have c:=(h.2.2.1 i i0 i1).2.1;split at c<;>omega
 ·simpa using e
theorem yR {k:Int} (h:ZA k=true):k=3∨k=4:=by
 simp only[ZA,Bool.or_eq_true,decide_eq_true_eq]at h;exact h
theorem Zgb {k:Int} (h:ZA k=false):k≠3∧k≠4:=by
 simp only[ZA,Bool.or_eq_false_iff,decide_eq_false_iff_not]at h;exact h
theorem zr {k:Int} (h:Zt k=true):k=1∨k=2:=by
 simp only[Zt,Bool.or_eq_true,decide_eq_true_eq]at h;exact h
end Go.W
