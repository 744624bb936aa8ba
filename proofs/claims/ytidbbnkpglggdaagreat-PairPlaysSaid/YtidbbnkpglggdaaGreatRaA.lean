/- A part of the proofs about the pair's laws (RaC, RaA). -/
import Derived.Test.YtidbbnkpglggdaaGreatSbA
import Derived.Test.YtidbbnkpglggdaaGreatPsI
import Derived.Test.YtidbbnkpglggdaaGreatPqI
namespace Go.W
open Go.Proofs
set_option linter.unusedSimpArgs false
set_option linter.unusedVariables false
set_option maxHeartbeats 8000000
attribute [local irreducible] Wm
attribute [local simp] Y5 lkp VW prs Uv prT ddL idL YN Um Ren Vt NObj.none Z4
theorem e46 {Q:QZ} (h:okQ Q=true) (hm:smQ Q=true) {x:Int} (x0:0≤x) (x1:x<Q.a*Q.b) (o s:StZ) (u:Nat):d46 [.op u (qzC Q),.int .i64 x,stA o,stA s]=some ⟨.bool (ZY Q x o s).1,[.cells 0 (qzC (ZY Q x o s).2)]⟩:=by
 simp only[d46,stA,Uq];rw[if_pos ⟨h,hm,x0,x1⟩]
theorem Zga (l:List (List AV)) (k:Nat) (r:List AV):ZG (l.set k r)=(ZG l).set k (t0L r):=by
 induction l generalizing k with
 | nil=>rfl
 | cons a l ih =>
  cases k with
  | zero=>rfl
  | succ k=>show t0L a :: ZG (l.set k r)=_;rw[ih];rfl
theorem jL_up (J:List (List RcZ)) (l:List RcZ) (x k t:Nat) (r:RcZ):ZG ((jLL J).set x [.os t 6 ((rLL l).set k (rcL r))])=jLL (J.set x (l.set k r)):=by
 rw[Zga,Z9,Zic,ZfD];have:ZG ((rLL l).set k (rcL r))=(rLL l).set k (rcL r):=by rw[← ZfD];exact ZdJ _
 simp[t0L,AV.t0,this]
def d49:List AV→Option Ans
 | [.op _ q,.int .i64 x,.int .i64 gn,.int .i64 n,.agg [.int .i64 rk,.int .i64 rq,.int .i64 rp,.int .i64 rt,.int .i64 rc,.int .i64 rg]]=>(match ZaZ q with
  | some Q=>if okQ Q=true∧smQ Q=true∧0≤x∧x<Q.a*Q.b∧1≤gn∧gn≤Q.g∧0≤n∧n≤Q.f then some ⟨.tup [],[.cells 0 (qzC (Xm Q x gn n ⟨rk,rq,rp,rt,rc,rg⟩))]⟩ else none
  | none=>none)
 | _=>none
theorem ok49:NOk [(13,true)] d49:=by
 intro xs aa h;unfold d49 at h;split at h
 ·rename_i t1 q x gn n rk rq rp rt rc rg
  split at h
  ·rename_i Q hQ
   split at h
   ·rename_i hc
    obtain rfl:=YI hQ;injection h with h;subst h;have hok:=hc.1;have hS0:=Z7 Q.S;have hS1:=Z6 Q.S;have hT0:=Yd Q.T;have hT1:=Yc Q.T;have hJ0:=Z9 Q.J;have hJ1:=Ya Q.J;obtain ⟨q1,q2,q3,q4,q5,q6,q7,q8,q9⟩:=Zp hok;have hL0:=ZF q8;have hL1:=ZE q8;have hok2:=VC hok;obtain ⟨_,_,x0,x1,_⟩:=hc;refine ⟨Zq ?_,?_⟩
    ·simp[Xc Q q8,YK Q q8,YK _ (Zp (hok2 x gn n ⟨rk,rq,rp,rt,rc,rg⟩ (by omega))).2.2.2.2.2.2.2.1]
    ·simp
   ·cases h
  ·cases h
 ·cases h
theorem s49:Sound Tryz.prog 49 (Zi [(13,true)] d49 ok49):=by
 refine Zj C49.a C49.b C49.c C49.d ok49 (fun xs a h=>?_) fun xs a h w0 S hS=>?_
 ·unfold d49 at h
  (repeat' (split at h))<;>first|(cases h;done)|exact Nat.le_of_ble_eq_true rfl
 unfold d49 at h;split at h
 ·rename_i t1 q x gn n rk rq rp rt rc rg
  split at h
  ·rename_i Q hQ
   split at h
   ·rename_i hcond
    obtain rfl:=YI hQ;injection h with h;subst h;clear hQ;have hE:Zb Tryz.prog (EL [(61,Zi [(13,false)] d61 ok61)]):=Zd (by simp only[List.mem_cons,List.not_mem_nil,or_false,forall_eq_or_imp,forall_eq];exact s61);obtain ⟨hok,hsm,x0,x1,g0,g1,n0,n1⟩:=hcond;obtain ⟨z1,z2⟩:=XA hsm;have hS0:=Z7 Q.S;have hS1:=Z6 Q.S;have hT0:=Yd Q.T;have hT1:=Yc Q.T;have hJ0:=Z9 Q.J;have hJ1:=Ya Q.J;obtain ⟨q1,q2,q3,q4,q5,q6,q7,q8,q9⟩:=Zp hok;have hL0:=ZF q8;have hL1:=ZE q8;obtain ⟨l,hl,j0,j1,j2⟩:=Zel hok x0 x1 g0 g1 n0 n1;have h61:∀ u,d61 [.op u (qzC { Q with u:=Q.u+1 }),.int .i64 gn,.int .i64 n]=some ⟨.int .i64 (VP Q gn n),[.free]⟩:=fun u=>e61 (Q:={ Q with u:=Q.u+1 }) (decide_eq_true ⟨q1,q2,q3,q4,q5,q6,q7,q8,by show 0≤Q.u+1;omega⟩) g0 g1 n0 n1 u;have hnt:Xm Q x gn n ⟨rk,rq,rp,rt,rc,rg⟩={ Q with J:=Q.J.set x.toNat (l.set (VP Q gn n).toNat ⟨rk,rq,rp,rt,rc,rg⟩),u:=Q.u+1 }:=by
     unfold Xm;rw[List.getD_eq_getElem?_getD,hl];rfl
    rw[hnt];obtain ⟨X,rfl⟩:=Int.eq_ofNat_of_zero_le x0;obtain ⟨K,hK⟩:=Int.eq_ofNat_of_zero_le j0;rw[hK]at h61 j1⊢;have hX:X<Q.J.length:=(by omega);have hKl:K<l.length:=(by omega);rw[show (X:Int).toNat=X by omega]at hl;have hg:=ZfG hl;have hge:=YL hg;have hgl:=ZfC Q.J;have hrl:=Zfy l;have hr0:=ZdJ l;have hr1:=ZfN l;have w1:IntKind.wrap .i64 (Q.u+1)=Q.u+1:=Zh (by omega) (by omega);have hup:=fun t=>jL_up Q.J l X K t ⟨rk,rq,rp,rt,rc,rg⟩;have hcl2:=Ya (Q.J.set X (l.set K ⟨rk,rq,rp,rt,rc,rg⟩));have hk5:∃ r5,(rLL l)[K]?=some r5∧r5.length=6:=⟨_,Zfe (List.getElem?_eq_getElem hKl),rfl⟩;obtain ⟨r5,hr5,hr6⟩:=hk5;have hr5e:=YL hr5;have hd6:r5.drop 6=[]:=List.drop_of_length_le (by omega);simp only[rcL]at hup;simp only[qzC,show (X:Int).toNat=X by omega,show (K:Int).toNat=K by omega]at hS h61⊢;unfold m49
    repeat' with_reducible (first|refine ZR.h ?_|refine zI ?_|((first|refine zK hE ?_|refine zM hE ?_);intro K hK;simp[hS0,hS1,hT0,hT1,hJ0,hJ1,hL0,hL1,hg,hge,hgl,hX,hKl,hrl,hr0,hr1,w1,h61,hr5,hr5e,hr6,hd6,hup,hcl2];(repeat' (first|refine hK _ _ ?_|apply And.intro|(intro hc;try subst hc)))<;>(try clear hK K))|(refine zJ (fun hc=>?_) (fun hc=>?_)<;>simp at hc<;>(try subst hc)))
    all_goals first|(simp;done)|(simp at *;omega)|((try simp[hS0,hS1,hT0,hT1,hJ0,hJ1,hL0,hL1,hg,hge,hgl,hX,hKl,hrl,hr0,hr1,w1,hr5,hr5e,hr6,hd6,hup,hcl2]);refine Imp.aut ?_ ?_<;>simp[NLe,hS0,hS1,hT0,hT1,hJ0,hJ1,hL0,hL1,hg,hge,hgl,hX,hKl,hrl,hr0,hr1,w1,hr5,hr5e,hr6,hd6,hup,hcl2])
   ·cases h
  ·cases h
 ·cases h
theorem e49 {Q:QZ} (h:okQ Q=true) (hm:smQ Q=true) {x gn n:Int} (x0:0≤x) (x1:x<Q.a*Q.b) (g0:1≤gn) (g1:gn≤Q.g) (n0:0≤n) (n1:n≤Q.f) (r:RcZ) (u:Nat):d49 [.op u (qzC Q),.int .i64 x,.int .i64 gn,.int .i64 n,rcA r]=some ⟨.tup [],[.cells 0 (qzC (Xm Q x gn n r))]⟩:=by
 simp only[d49,rcA,Uq];rw[if_pos ⟨h,hm,x0,x1,g0,g1,n0,n1⟩]
def Zfg (Q:QZ):Bool:=decide (Q.u≤1000001∧Q.lg.length≤50000)
def d67:List AV→Option Ans
 | [.op _ q,.agg [.int .i64 y0,.int .i64 y1,.int .i64 y2,.int .i64 y3,.int .i64 y4,.int .i64 y5,.int .i64 y6,.int .i64 y7,.int .i64 y8,.int .i64 y9,.int .i64 y10,.int .i64 y11,.int .i64 y12,.int .i64 y13]]=>(match ZaZ q with
  | some Q=>if okQ Q=true∧Zfg Q=true then some ⟨.tup [],[.cells 0 (qzC { Q with lg:=Q.lg++[([.int .i64 y0,.int .i64 y1,.int .i64 y2,.int .i64 y3,.int .i64 y4,.int .i64 y5,.int .i64 y6,.int .i64 y7,.int .i64 y8,.int .i64 y9,.int .i64 y10,.int .i64 y11,.int .i64 Q.now,.int .i64 y13]:List AV)] })]⟩ else none
  | none=>none)
 | _=>none
theorem ok67:NOk [(13,true)] d67:=by
 intro xs aa h;unfold d67 at h;split at h
 ·rename_i t1 q y0 y1 y2 y3 y4 y5 y6 y7 y8 y9 y10 y11 y12 y13
  split at h
  ·rename_i Q hQ
   split at h
   ·rename_i hc
    obtain rfl:=YI hQ;injection h with h;subst h;have hok:=hc.1;have hS0:=Z7 Q.S;have hS1:=Z6 Q.S;have hT0:=Yd Q.T;have hT1:=Yc Q.T;have hJ0:=Z9 Q.J;have hJ1:=Ya Q.J;obtain ⟨q1,q2,q3,q4,q5,q6,q7,q8,q9⟩:=Zp hok;have hL0:=ZF q8;have hL1:=ZE q8;have h2:(Q.lg++[([.int .i64 y0,.int .i64 y1,.int .i64 y2,.int .i64 y3,.int .i64 y4,.int .i64 y5,.int .i64 y6,.int .i64 y7,.int .i64 y8,.int .i64 y9,.int .i64 y10,.int .i64 y11,.int .i64 Q.now,.int .i64 y13]:List AV)]).all row14=true:=(by rw[List.all_append,q8];rfl);refine ⟨Zq ?_,?_⟩
    ·simp[Xc Q q8,YK Q q8,YK { Q with lg:=Q.lg++[([.int .i64 y0,.int .i64 y1,.int .i64 y2,.int .i64 y3,.int .i64 y4,.int .i64 y5,.int .i64 y6,.int .i64 y7,.int .i64 y8,.int .i64 y9,.int .i64 y10,.int .i64 y11,.int .i64 Q.now,.int .i64 y13]:List AV)] } h2]
    ·simp
   ·cases h
  ·cases h
 ·cases h
theorem s67:Sound Tryz.prog 67 (Zi [(13,true)] d67 ok67):=by
 refine Zj C67.a C67.b C67.c C67.d ok67 (fun xs a h=>?_) fun xs a h w0 S hS=>?_
 ·unfold d67 at h
  (repeat' (split at h))<;>first|(cases h;done)|exact Nat.le_of_ble_eq_true rfl
 unfold d67 at h;split at h
 ·rename_i t1 q y0 y1 y2 y3 y4 y5 y6 y7 y8 y9 y10 y11 y12 y13
  split at h
  ·rename_i Q hQ
   split at h
   ·rename_i hcond
    obtain rfl:=YI hQ;injection h with h;subst h;clear hQ;have hE:Zb Tryz.prog (EL []):=Zd (by simp);obtain ⟨hok,hsm⟩:=hcond;obtain ⟨z1,z2⟩:Q.u≤1000001∧Q.lg.length≤50000:=of_decide_eq_true hsm;have hS0:=Z7 Q.S;have hS1:=Z6 Q.S;have hT0:=Yd Q.T;have hT1:=Yc Q.T;have hJ0:=Z9 Q.J;have hJ1:=Ya Q.J;obtain ⟨q1,q2,q3,q4,q5,q6,q7,q8,q9⟩:=Zp hok;have hL0:=ZF q8;have hL1:=ZE q8;have h2:(Q.lg++[([.int .i64 y0,.int .i64 y1,.int .i64 y2,.int .i64 y3,.int .i64 y4,.int .i64 y5,.int .i64 y6,.int .i64 y7,.int .i64 y8,.int .i64 y9,.int .i64 y10,.int .i64 y11,.int .i64 Q.now,.int .i64 y13]:List AV)]).all row14=true:=(by rw[List.all_append,q8];rfl);have hL2:=ZF h2;have hL3:=ZE h2;have hb1:(Q.lg.length+1)*112≤140737488355328:=(by omega);have hb2:Q.lg.length+1≤9223372036854775807:=(by omega);have htl:∀ q,UD q Q.lg=true:=fun q=>l_tl q8;simp only[qzC]at hS⊢;unfold m67
    repeat' with_reducible (first|refine ZR.h ?_|refine zI ?_|((first|refine zK hE ?_|refine zM hE ?_);intro K hK;simp[hS0,hS1,hT0,hT1,hJ0,hJ1,hL0,hL1,hL2,hL3,hb1,hb2,htl];(repeat' (first|refine hK _ _ ?_|apply And.intro|(intro hc;try subst hc)))<;>(try clear hK K))|(refine zJ (fun hc=>?_) (fun hc=>?_)<;>simp at hc<;>(try subst hc)))
    all_goals ((try simp);refine Imp.trans (Imp.absorb (.top 0) 0 11 113 (by rfl) (by rfl) (by rfl) (.inl ⟨0,14,Q.lg++[([.int .i64 y0,.int .i64 y1,.int .i64 y2,.int .i64 y3,.int .i64 y4,.int .i64 y5,.int .i64 y6,.int .i64 y7,.int .i64 y8,.int .i64 y9,.int .i64 y10,.int .i64 y11,.int .i64 Q.now,.int .i64 y13]:List AV)],by simp,by rfl⟩) (by simp)) ?_)
    all_goals (refine Imp.aut ?_ ?_<;>simp[NLe,hS0,hS1,hT0,hT1,hJ0,hJ1,hL0,hL1,hL2,hL3,XK,Yb])
   ·cases h
  ·cases h
 ·cases h
theorem e67 {Q:QZ} (h:okQ Q=true) (hm:Zfg Q=true) (k c g o w q p t e:Int) (u:Nat):d67 [.op u (qzC Q),.agg (evC k c g o w q p t e)]=some ⟨.tup [],[.cells 0 (qzC (TK Q k c g o w q p e))]⟩:=by
 simp only[d67,evC,Uq];rw[if_pos ⟨h,hm⟩]
 rfl
def d90:List AV→List NObj→Option AV
 | [.int .i64 k],[]=>some (.bool (ZA k))
 | _,_=>none
theorem ok90:ROk d90:=by
 intro xs os r h;unfold d90 at h
 (repeat' (split at h))<;>first|(cases h;done)|(injection h with h;subst h;simp)
theorem s90:Sound Tryz.prog 90 (rdS d90 ok90):=by
 refine Zo C90.a C90.b C90.c C90.d ok90 fun xs os r h vs ρ0 hvs=>⟨xs,?_,fun _ h=>h,fun w0 S hS=>?_⟩
 ·unfold d90 at h
  (repeat' (split at h))<;>first|(cases h;done)|exact Nat.le_of_ble_eq_true rfl
 unfold d90 at h;split at h
 ·rename_i k
  injection h with h;subst h;have hE:Zb Tryz.prog (EL []):=Zd (by simp);by_cases h3:k=3
  ·subst h3
   unfold m90
   repeat' with_reducible (first|refine ZR.h ?_|refine zI ?_|(refine zK hE ?_;intro K hK;simp[ZA];(repeat' (first|refine hK _ _ ?_|apply And.intro|(intro hc;try subst hc)))<;>(try clear hK K))|(refine zJ (fun hc=>?_) (fun hc=>?_)<;>simp at hc<;>(try subst hc)))
   all_goals first|(simp;done)|(simp at *;omega)|((try simp[ZA]);refine Imp.aut ?_ ?_<;>simp[NLe,ZA])
  ·by_cases h4:k=4
   ·subst h4
    unfold m90
    repeat' with_reducible (first|refine ZR.h ?_|refine zI ?_|(refine zK hE ?_;intro K hK;simp[ZA];(repeat' (first|refine hK _ _ ?_|apply And.intro|(intro hc;try subst hc)))<;>(try clear hK K))|(refine zJ (fun hc=>?_) (fun hc=>?_)<;>simp at hc<;>(try subst hc)))
    all_goals first|(simp;done)|(simp at *;omega)|((try simp[ZA]);refine Imp.aut ?_ ?_<;>simp[NLe,ZA])
   ·have hh:ZA k=false:=by simp[ZA,h3,h4]
    rw[hh];unfold m90
    repeat' with_reducible (first|refine ZR.h ?_|refine zI ?_|(refine zK hE ?_;intro K hK;simp[h3,h4];(repeat' (first|refine hK _ _ ?_|apply And.intro|(intro hc;try subst hc)))<;>(try clear hK K))|(refine zJ (fun hc=>?_) (fun hc=>?_)<;>simp at hc<;>(try subst hc)))
    all_goals first|(simp;done)|(simp at *;omega)|((try simp[h3,h4]);refine Imp.aut ?_ ?_<;>simp[NLe,h3,h4])
 ·cases h
def YZ (s:StZ) (q F:Int):StZ:=ZU (if 0<q then { s with l:=s.l - q,f:=s.f+1 } else s) F
def d110:List AV→List NObj→Option AV
 | [.agg [.int .i64 k,.bool fl,.int .i64 sg,.int .i64 sl,.int .i64 sf],.int .i64 q,.int .i64 F],[]=>if 0≤sl∧sl≤1000000∧0≤sf∧sf≤1000000∧0≤q∧q≤1000000 then some (stA (YZ ⟨k,fl,sg,sl,sf⟩ q F)) else none
 | _,_=>none
theorem ok110:ROk d110:=by
 intro xs os r h;unfold d110 at h
 (repeat' (split at h))<;>first|(cases h;done)|(injection h with h;subst h;simp[stA])
theorem s110:Sound Tryz.prog 110 (rdS d110 ok110):=by
 refine Zo C110.a C110.b C110.c C110.d ok110 fun xs os r h vs ρ0 hvs=>⟨xs,?_,fun _ h=>h,fun w0 S hS=>?_⟩
 ·unfold d110 at h
  (repeat' (split at h))<;>first|(cases h;done)|exact Nat.le_of_ble_eq_true rfl
 unfold d110 at h;split at h
 ·split at h
  ·rename_i k fl sg sl sf q F hcond
   injection h with h;subst h;have hE:Zb Tryz.prog (EL []):=Zd (by simp);obtain ⟨c1,c2,c3,c4,c5,c6⟩:=hcond;have w1:IntKind.wrap .i64 (sl - q)=sl - q:=Zh (by omega) (by omega);have w2:IntKind.wrap .i64 (sf+1)=sf+1:=Zh (by omega) (by omega);have w0:IntKind.wrap .i64 0=0:=rfl;unfold YZ ZU;by_cases hq:0<q
   ·by_cases hl:sl - q=0
    ·simp only[if_pos hq,hl,if_true,stA]
     unfold m110
     repeat' with_reducible (first|refine ZR.h ?_|refine zI ?_|(refine zK hE ?_;intro K hK;simp[w0,w1,w2,hq,hl];(repeat' (first|refine hK _ _ ?_|apply And.intro|(intro hc;try subst hc)))<;>(try clear hK K))|(refine zJ (fun hc=>?_) (fun hc=>?_)<;>simp at hc<;>(try subst hc)))
     all_goals first|(simp;done)|(simp at *;omega)|((try simp[w0,w1,w2,hq,hl]);refine Imp.aut ?_ ?_<;>simp[NLe,w0,w1,w2,hq,hl])
    ·by_cases hf:F≤sf+1
     ·simp only[if_pos hq,if_neg hl,if_pos hf,stA]
      unfold m110
      repeat' with_reducible (first|refine ZR.h ?_|refine zI ?_|(refine zK hE ?_;intro K hK;simp[w1,w2,hq,hl,hf];(repeat' (first|refine hK _ _ ?_|apply And.intro|(intro hc;try subst hc)))<;>(try clear hK K))|(refine zJ (fun hc=>?_) (fun hc=>?_)<;>simp at hc<;>(try subst hc)))
      all_goals first|(simp;done)|(simp at *;omega)|((try simp[w1,w2,hq,hl,hf]);refine Imp.aut ?_ ?_<;>simp[NLe,w1,w2,hq,hl,hf])
     ·simp only[if_pos hq,if_neg hl,if_neg hf,stA]
      unfold m110
      repeat' with_reducible (first|refine ZR.h ?_|refine zI ?_|(refine zK hE ?_;intro K hK;simp[w1,w2,hq,hl,hf];(repeat' (first|refine hK _ _ ?_|apply And.intro|(intro hc;try subst hc)))<;>(try clear hK K))|(refine zJ (fun hc=>?_) (fun hc=>?_)<;>simp at hc<;>(try subst hc)))
      all_goals first|(simp;done)|(simp at *;omega)|((try simp[w1,w2,hq,hl,hf]);refine Imp.aut ?_ ?_<;>simp[NLe,w1,w2,hq,hl,hf])
   ·by_cases hl:sl=0
    ·simp only[if_neg hq,hl,if_true,stA]
     unfold m110
     repeat' with_reducible (first|refine ZR.h ?_|refine zI ?_|(refine zK hE ?_;intro K hK;simp[w0,w1,w2,hq,hl];(repeat' (first|refine hK _ _ ?_|apply And.intro|(intro hc;try subst hc)))<;>(try clear hK K))|(refine zJ (fun hc=>?_) (fun hc=>?_)<;>simp at hc<;>(try subst hc)))
     all_goals first|(simp;done)|(simp at *;omega)|((try simp[w0,w1,w2,hq,hl]);refine Imp.aut ?_ ?_<;>simp[NLe,w0,w1,w2,hq,hl])
    ·by_cases hf:F≤sf
     ·simp only[if_neg hq,if_neg hl,if_pos hf,stA]
      unfold m110
      repeat' with_reducible (first|refine ZR.h ?_|refine zI ?_|(refine zK hE ?_;intro K hK;simp[w1,w2,hq,hl,hf];(repeat' (first|refine hK _ _ ?_|apply And.intro|(intro hc;try subst hc)))<;>(try clear hK K))|(refine zJ (fun hc=>?_) (fun hc=>?_)<;>simp at hc<;>(try subst hc)))
      all_goals first|(simp;done)|(simp at *;omega)|((try simp[w1,w2,hq,hl,hf]);refine Imp.aut ?_ ?_<;>simp[NLe,w1,w2,hq,hl,hf])
     ·simp only[if_neg hq,if_neg hl,if_neg hf,stA]
      unfold m110
      repeat' with_reducible (first|refine ZR.h ?_|refine zI ?_|(refine zK hE ?_;intro K hK;simp[w1,w2,hq,hl,hf];(repeat' (first|refine hK _ _ ?_|apply And.intro|(intro hc;try subst hc)))<;>(try clear hK K))|(refine zJ (fun hc=>?_) (fun hc=>?_)<;>simp at hc<;>(try subst hc)))
      all_goals first|(simp;done)|(simp at *;omega)|((try simp[w1,w2,hq,hl,hf]);refine Imp.aut ?_ ?_<;>simp[NLe,w1,w2,hq,hl,hf])
  ·cases h
 ·cases h
def d86:List AV→List NObj→Option AV
 | [.agg [.int .i64 k,.bool fl,.int .i64 sg,.int .i64 sl,.int .i64 sf],.int .i64 q,.int .i64 F],[]=>if 0≤sl∧sl≤1000000∧0≤sf∧sf≤1000000 then some (.tup [stA (Zw ⟨k,fl,sg,sl,sf⟩ q F).1,.int .i64 (Zw ⟨k,fl,sg,sl,sf⟩ q F).2]) else none
 | _,_=>none
theorem ok86:ROk d86:=by
 intro xs os r h;unfold d86 at h
 (repeat' (split at h))<;>first|(cases h;done)|(injection h with h;subst h;simp[stA])
theorem s86:Sound Tryz.prog 86 (rdS d86 ok86):=by
 refine Zo C86.a C86.b C86.c C86.d ok86 fun xs os r h vs ρ0 hvs=>⟨xs,?_,fun _ h=>h,fun w0 S hS=>?_⟩
 ·unfold d86 at h
  (repeat' (split at h))<;>first|(cases h;done)|exact Nat.le_of_ble_eq_true rfl
 unfold d86 at h;split at h
 ·split at h
  ·rename_i k fl sg sl sf q F hcond
   injection h with h;subst h;have hE:Zb Tryz.prog (EL [(36,rdS d36 ok36),(110,rdS d110 ok110)]):=Zd (by simp only[List.mem_cons,List.not_mem_nil,or_false,forall_eq_or_imp,forall_eq];exact ⟨s36,s110⟩);obtain ⟨c1,c2,c3,c4⟩:=hcond;have hLo:d36 [.int .i64 k] []=some (.bool (Zt k)):=rfl;by_cases h1:Zt k=false
   ·rw[h1]at hLo
    have ht:Zw ⟨k,fl,sg,sl,sf⟩ q F=(Zu,27):=(by unfold Zw;rw[if_pos h1]);rw[ht];simp only[stA,Zu];unfold m86
    repeat' with_reducible (first|refine ZR.h ?_|refine zI ?_|(refine zK hE ?_;intro K hK;simp[hLo];(repeat' (first|refine hK _ _ ?_|apply And.intro|(intro hc;try subst hc)))<;>(try clear hK K))|(refine zJ (fun hc=>?_) (fun hc=>?_)<;>simp at hc<;>(try subst hc)))
    all_goals first|(simp;done)|(simp at *;omega)|((try simp[hLo]);refine Imp.aut ?_ ?_<;>simp[NLe,hLo])
   ·rw[show Zt k=true by simpa using h1]at hLo
    by_cases h2:q<1
    ·have ht:Zw ⟨k,fl,sg,sl,sf⟩ q F=(Zu,23):=by unfold Zw;rw[if_neg h1,if_pos h2]
     rw[ht];simp only[stA,Zu];unfold m86
     repeat' with_reducible (first|refine ZR.h ?_|refine zI ?_|(refine zK hE ?_;intro K hK;simp[hLo,h2];(repeat' (first|refine hK _ _ ?_|apply And.intro|(intro hc;try subst hc)))<;>(try clear hK K))|(refine zJ (fun hc=>?_) (fun hc=>?_)<;>simp at hc<;>(try subst hc)))
     all_goals first|(simp;done)|(simp at *;omega)|((try simp[hLo,h2]);refine Imp.aut ?_ ?_<;>simp[NLe,hLo,h2])
    ·by_cases h3:sl<q
     ·have ht:Zw ⟨k,fl,sg,sl,sf⟩ q F=(Zu,23):=by unfold Zw;rw[if_neg h1,if_neg h2,if_pos h3]
      rw[ht];simp only[stA,Zu];unfold m86
      repeat' with_reducible (first|refine ZR.h ?_|refine zI ?_|(refine zK hE ?_;intro K hK;simp[hLo,h2,h3];(repeat' (first|refine hK _ _ ?_|apply And.intro|(intro hc;try subst hc)))<;>(try clear hK K))|(refine zJ (fun hc=>?_) (fun hc=>?_)<;>simp at hc<;>(try subst hc)))
      all_goals first|(simp;done)|(simp at *;omega)|((try simp[hLo,h2,h3]);refine Imp.aut ?_ ?_<;>simp[NLe,hLo,h2,h3])
     ·by_cases h4:F≤sf
      ·have ht:Zw ⟨k,fl,sg,sl,sf⟩ q F=(Zu,4):=by unfold Zw;rw[if_neg h1,if_neg h2,if_neg h3,if_pos h4]
       rw[ht];simp only[stA,Zu];unfold m86
       repeat' with_reducible (first|refine ZR.h ?_|refine zI ?_|(refine zK hE ?_;intro K hK;simp[hLo,h2,h3,h4];(repeat' (first|refine hK _ _ ?_|apply And.intro|(intro hc;try subst hc)))<;>(try clear hK K))|(refine zJ (fun hc=>?_) (fun hc=>?_)<;>simp at hc<;>(try subst hc)))
       all_goals first|(simp;done)|(simp at *;omega)|((try simp[hLo,h2,h3,h4]);refine Imp.aut ?_ ?_<;>simp[NLe,hLo,h2,h3,h4])
      ·have ht:Zw ⟨k,fl,sg,sl,sf⟩ q F=(YZ ⟨k,fl,sg,sl,sf⟩ q F,0):=by unfold Zw YZ;rw[if_neg h1,if_neg h2,if_neg h3,if_neg h4,if_pos (show 0<q by omega)]
       have h5:d110 [.agg [.int .i64 k,.bool fl,.int .i64 sg,.int .i64 sl,.int .i64 sf],.int .i64 q,.int .i64 F] []=some (stA (YZ ⟨k,fl,sg,sl,sf⟩ q F)):=(by simp only[d110];rw[if_pos ⟨c1,c2,c3,c4,by omega,by omega⟩]);rw[ht];obtain ⟨z,hz⟩:∃ z,YZ ⟨k,fl,sg,sl,sf⟩ q F=z:=⟨_,rfl⟩;rw[hz]at h5⊢;simp only[stA]at h5⊢;unfold m86
       repeat' with_reducible (first|refine ZR.h ?_|refine zI ?_|(refine zK hE ?_;intro K hK;simp[hLo,h2,h3,h4,h5];(repeat' (first|refine hK _ _ ?_|apply And.intro|(intro hc;try subst hc)))<;>(try clear hK K))|(refine zJ (fun hc=>?_) (fun hc=>?_)<;>simp at hc<;>(try subst hc)))
       all_goals first|(simp;done)|(simp at *;omega)|((try simp[hLo,h2,h3,h4,h5]);refine Imp.aut ?_ ?_<;>simp[NLe,hLo,h2,h3,h4,h5])
  ·cases h
 ·cases h
theorem ZbF {s:StZ} {q F:Int} (h:ZA s.k=true):Yo (if 0<q then { s with l:=s.l - q,f:=s.f+1 } else s) F=(if (YZ { s with k:=s.k - 2 } q F).fl=true then { YZ { s with k:=s.k - 2 } q F with k:=6,fl:=false } else YZ { s with k:=s.k - 2 } q F):=by
 obtain ⟨k,fl,g,l,f⟩:=s;have hk:k=3∨k=4:=by simp only[ZA,Bool.or_eq_true,decide_eq_true_eq]at h;exact h
 have e:ZU (ZV (if 0<q then (⟨k,fl,g,l - q,f+1⟩:StZ) else ⟨k,fl,g,l,f⟩)) F=YZ ⟨k - 2,fl,g,l,f⟩ q F:=by
  unfold YZ;by_cases hq:0<q
  ·rw[if_pos hq,if_pos hq]
   unfold ZV;rcases hk with rfl|rfl<;>rfl
  ·rw[if_neg hq,if_neg hq]
   unfold ZV;rcases hk with rfl|rfl<;>rfl
 unfold Yo;simp only at e⊢;rw[e]
def d87:List AV→List NObj→Option AV
 | [.agg [.int .i64 k,.bool fl,.int .i64 sg,.int .i64 sl,.int .i64 sf],.int .i64 q,.int .i64 F],[]=>if 0≤sl∧sl≤1000000∧0≤sf∧sf≤1000000 then some (.tup [stA (Zf ⟨k,fl,sg,sl,sf⟩ q F).1,.int .i64 (Zf ⟨k,fl,sg,sl,sf⟩ q F).2]) else none
 | _,_=>none
theorem ok87:ROk d87:=by
 intro xs os r h;unfold d87 at h
 (repeat' (split at h))<;>first|(cases h;done)|(injection h with h;subst h;simp[stA])
theorem s87:Sound Tryz.prog 87 (rdS d87 ok87):=by
 refine Zo C87.a C87.b C87.c C87.d ok87 fun xs os r h vs ρ0 hvs=>⟨xs,?_,fun _ h=>h,fun w0 S hS=>?_⟩
 ·unfold d87 at h
  (repeat' (split at h))<;>first|(cases h;done)|exact Nat.le_of_ble_eq_true rfl
 unfold d87 at h;split at h
 ·split at h
  ·rename_i k fl sg sl sf q F hcond
   injection h with h;subst h;have hE:Zb Tryz.prog (EL [(90,rdS d90 ok90),(110,rdS d110 ok110)]):=Zd (by simp only[List.mem_cons,List.not_mem_nil,or_false,forall_eq_or_imp,forall_eq];exact ⟨s90,s110⟩);obtain ⟨c1,c2,c3,c4⟩:=hcond;have hHe:d90 [.int .i64 k] []=some (.bool (ZA k)):=rfl;by_cases h1:ZA k=false
   ·rw[h1]at hHe
    have ht:Zf ⟨k,fl,sg,sl,sf⟩ q F=(Zu,1):=(by unfold Zf;rw[if_pos h1]);rw[ht];simp only[stA,Zu];unfold m87
    repeat' with_reducible (first|refine ZR.h ?_|refine zI ?_|(refine zK hE ?_;intro K hK;simp[hHe];(repeat' (first|refine hK _ _ ?_|apply And.intro|(intro hc;try subst hc)))<;>(try clear hK K))|(refine zJ (fun hc=>?_) (fun hc=>?_)<;>simp at hc<;>(try subst hc)))
    all_goals first|(simp;done)|(simp at *;omega)|((try simp[hHe]);refine Imp.aut ?_ ?_<;>simp[NLe,hHe])
   ·have h1t:ZA k=true:=by simpa using h1
    rw[h1t]at hHe;by_cases h2:q<0
    ·have ht:Zf ⟨k,fl,sg,sl,sf⟩ q F=(Zu,23):=by unfold Zf;rw[if_neg h1,if_pos h2]
     rw[ht];simp only[stA,Zu];unfold m87
     repeat' with_reducible (first|refine ZR.h ?_|refine zI ?_|(refine zK hE ?_;intro K hK;simp[hHe,h2];(repeat' (first|refine hK _ _ ?_|apply And.intro|(intro hc;try subst hc)))<;>(try clear hK K))|(refine zJ (fun hc=>?_) (fun hc=>?_)<;>simp at hc<;>(try subst hc)))
     all_goals first|(simp;done)|(simp at *;omega)|((try simp[hHe,h2]);refine Imp.aut ?_ ?_<;>simp[NLe,hHe,h2])
    ·by_cases h3:sl<q
     ·have ht:Zf ⟨k,fl,sg,sl,sf⟩ q F=(Zu,23):=by unfold Zf;rw[if_neg h1,if_neg h2,if_pos h3]
      rw[ht];simp only[stA,Zu];unfold m87
      repeat' with_reducible (first|refine ZR.h ?_|refine zI ?_|(refine zK hE ?_;intro K hK;simp[hHe,h2,h3];(repeat' (first|refine hK _ _ ?_|apply And.intro|(intro hc;try subst hc)))<;>(try clear hK K))|(refine zJ (fun hc=>?_) (fun hc=>?_)<;>simp at hc<;>(try subst hc)))
      all_goals first|(simp;done)|(simp at *;omega)|((try simp[hHe,h2,h3]);refine Imp.aut ?_ ?_<;>simp[NLe,hHe,h2,h3])
     ·by_cases h4:0<q∧F≤sf
      ·have ht:Zf ⟨k,fl,sg,sl,sf⟩ q F=(Zu,4):=by unfold Zf;rw[if_neg h1,if_neg h2,if_neg h3,if_pos h4.1,if_pos h4.2]
       rw[ht];simp only[stA,Zu];unfold m87
       repeat' with_reducible (first|refine ZR.h ?_|refine zI ?_|(refine zK hE ?_;intro K hK;simp[hHe,h2,h3,h4.1,h4.2];(repeat' (first|refine hK _ _ ?_|apply And.intro|(intro hc;try subst hc)))<;>(try clear hK K))|(refine zJ (fun hc=>?_) (fun hc=>?_)<;>simp at hc<;>(try subst hc)))
       all_goals first|(simp;done)|(simp at *;omega)|((try simp[hHe,h2,h3,h4.1,h4.2]);refine Imp.aut ?_ ?_<;>simp[NLe,hHe,h2,h3,h4.1,h4.2])
      ·have ht:Zf ⟨k,fl,sg,sl,sf⟩ q F=(if (YZ ⟨k - 2,fl,sg,sl,sf⟩ q F).fl=true then { YZ ⟨k - 2,fl,sg,sl,sf⟩ q F with k:=6,fl:=false } else YZ ⟨k - 2,fl,sg,sl,sf⟩ q F,0):=by
        have key:=ZbF (s:=⟨k,fl,sg,sl,sf⟩) (q:=q) (F:=F) h1t;unfold Zf;rw[if_neg h1,if_neg h2,if_neg h3];by_cases hq:0<q
        ·rw[if_pos hq,if_neg (fun x=>h4 ⟨hq,x⟩)]
         rw[if_pos hq]at key;rw[← key]
        ·rw[if_neg hq]
         rw[if_neg hq]at key;rw[← key]
       have h5:d110 [.agg [.int .i64 (k - 2),.bool fl,.int .i64 sg,.int .i64 sl,.int .i64 sf],.int .i64 q,.int .i64 F] []=some (stA (YZ ⟨k - 2,fl,sg,sl,sf⟩ q F)):=(by simp only[d110];rw[if_pos ⟨c1,c2,c3,c4,by omega,by omega⟩]);have hk:k=3∨k=4:=(by simp only[ZA,Bool.or_eq_true,decide_eq_true_eq]at h1t;exact h1t);have wk:IntKind.wrap .i64 (k - 2)=k - 2:=Zh (by omega) (by omega);rw[ht];obtain ⟨⟨zk,zf,zg,zl,zn⟩,hz⟩:∃ z,YZ ⟨k - 2,fl,sg,sl,sf⟩ q F=z:=⟨_,rfl⟩;rw[hz]at h5⊢;simp only[stA]at h5⊢;clear hz ht;by_cases hq:0<q
       ·have hf:¬ F≤sf:=fun x=>h4 ⟨hq,x⟩
        cases zf
        ·unfold m87
         repeat' with_reducible (first|refine ZR.h ?_|refine zI ?_|(refine zK hE ?_;intro K hK;simp[hHe,h2,h3,hq,hf,wk,h5];(repeat' (first|refine hK _ _ ?_|apply And.intro|(intro hc;try subst hc)))<;>(try clear hK K))|(refine zJ (fun hc=>?_) (fun hc=>?_)<;>simp at hc<;>(try subst hc)))
         all_goals first|(simp;done)|(simp at *;omega)|((try simp[hHe,h2,h3,hq,hf,wk,h5]);refine Imp.aut ?_ ?_<;>simp[NLe,hHe,h2,h3,hq,hf,wk,h5])
        ·unfold m87
         repeat' with_reducible (first|refine ZR.h ?_|refine zI ?_|(refine zK hE ?_;intro K hK;simp[hHe,h2,h3,hq,hf,wk,h5];(repeat' (first|refine hK _ _ ?_|apply And.intro|(intro hc;try subst hc)))<;>(try clear hK K))|(refine zJ (fun hc=>?_) (fun hc=>?_)<;>simp at hc<;>(try subst hc)))
         all_goals first|(simp;done)|(simp at *;omega)|((try simp[hHe,h2,h3,hq,hf,wk,h5]);refine Imp.aut ?_ ?_<;>simp[NLe,hHe,h2,h3,hq,hf,wk,h5])
       ·cases zf
        ·unfold m87
         repeat' with_reducible (first|refine ZR.h ?_|refine zI ?_|(refine zK hE ?_;intro K hK;simp[hHe,h2,h3,hq,wk,h5];(repeat' (first|refine hK _ _ ?_|apply And.intro|(intro hc;try subst hc)))<;>(try clear hK K))|(refine zJ (fun hc=>?_) (fun hc=>?_)<;>simp at hc<;>(try subst hc)))
         all_goals first|(simp;done)|(simp at *;omega)|((try simp[hHe,h2,h3,hq,wk,h5]);refine Imp.aut ?_ ?_<;>simp[NLe,hHe,h2,h3,hq,wk,h5])
        ·unfold m87
         repeat' with_reducible (first|refine ZR.h ?_|refine zI ?_|(refine zK hE ?_;intro K hK;simp[hHe,h2,h3,hq,wk,h5];(repeat' (first|refine hK _ _ ?_|apply And.intro|(intro hc;try subst hc)))<;>(try clear hK K))|(refine zJ (fun hc=>?_) (fun hc=>?_)<;>simp at hc<;>(try subst hc)))
         all_goals first|(simp;done)|(simp at *;omega)|((try simp[hHe,h2,h3,hq,wk,h5]);refine Imp.aut ?_ ?_<;>simp[NLe,hHe,h2,h3,hq,wk,h5])
  ·cases h
 ·cases h
def d54:List AV→List NObj→Option AV
 | [.agg [.int .i64 k,.bool fl,.int .i64 sg,.int .i64 sl,.int .i64 sf]],[]=>some (.tup [stA (Zn ⟨k,fl,sg,sl,sf⟩).1,.int .i64 (Zn ⟨k,fl,sg,sl,sf⟩).2])
 | _,_=>none
theorem ok54:ROk d54:=by
 intro xs os r h;unfold d54 at h
 (repeat' (split at h))<;>first|(cases h;done)|(injection h with h;subst h;simp[stA])
theorem s54:Sound Tryz.prog 54 (rdS d54 ok54):=by
 refine Zo C54.a C54.b C54.c C54.d ok54 fun xs os r h vs ρ0 hvs=>⟨xs,?_,fun _ h=>h,fun w0 S hS=>?_⟩
 ·unfold d54 at h
  (repeat' (split at h))<;>first|(cases h;done)|exact Nat.le_of_ble_eq_true rfl
 unfold d54 at h;split at h
 ·rename_i k fl sg sl sf
  injection h with h;subst h;have hE:Zb Tryz.prog (EL [(36,rdS d36 ok36),(90,rdS d90 ok90)]):=Zd (by simp only[List.mem_cons,List.not_mem_nil,or_false,forall_eq_or_imp,forall_eq];exact ⟨s36,s90⟩);by_cases h1:k=1
  ·subst h1
   simp only[Zn,if_true,stA];unfold m54
   repeat' with_reducible (first|refine ZR.h ?_|refine zI ?_|(refine zK hE ?_;intro K hK;simp[Zt,ZA,d36,d90];(repeat' (first|refine hK _ _ ?_|apply And.intro|(intro hc;try subst hc)))<;>(try clear hK K))|(refine zJ (fun hc=>?_) (fun hc=>?_)<;>simp at hc<;>(try subst hc)))
   all_goals first|(simp;done)|(simp at *;omega)|((try simp[Zt,ZA]);refine Imp.aut ?_ ?_<;>simp[NLe,Zt,ZA])
  ·by_cases h2:k=2
   ·subst h2
    simp only[Zn,if_neg h1,if_true,stA];unfold m54
    repeat' with_reducible (first|refine ZR.h ?_|refine zI ?_|(refine zK hE ?_;intro K hK;simp[Zt,ZA,d36,d90];(repeat' (first|refine hK _ _ ?_|apply And.intro|(intro hc;try subst hc)))<;>(try clear hK K))|(refine zJ (fun hc=>?_) (fun hc=>?_)<;>simp at hc<;>(try subst hc)))
    all_goals first|(simp;done)|(simp at *;omega)|((try simp[Zt,ZA]);refine Imp.aut ?_ ?_<;>simp[NLe,Zt,ZA])
   ·by_cases h3:k=3
    ·subst h3
     simp only[Zn,if_neg h1,if_neg h2,if_true,stA];unfold m54
     repeat' with_reducible (first|refine ZR.h ?_|refine zI ?_|(refine zK hE ?_;intro K hK;simp[Zt,ZA,d36,d90];(repeat' (first|refine hK _ _ ?_|apply And.intro|(intro hc;try subst hc)))<;>(try clear hK K))|(refine zJ (fun hc=>?_) (fun hc=>?_)<;>simp at hc<;>(try subst hc)))
     all_goals first|(simp;done)|(simp at *;omega)|((try simp[Zt,ZA]);refine Imp.aut ?_ ?_<;>simp[NLe,Zt,ZA])
    ·by_cases h4:k=4
     ·subst h4
      simp only[Zn,if_neg h1,if_neg h2,if_neg h3,if_true,stA];unfold m54
      repeat' with_reducible (first|refine ZR.h ?_|refine zI ?_|(refine zK hE ?_;intro K hK;simp[Zt,ZA,d36,d90];(repeat' (first|refine hK _ _ ?_|apply And.intro|(intro hc;try subst hc)))<;>(try clear hK K))|(refine zJ (fun hc=>?_) (fun hc=>?_)<;>simp at hc<;>(try subst hc)))
      all_goals first|(simp;done)|(simp at *;omega)|((try simp[Zt,ZA]);refine Imp.aut ?_ ?_<;>simp[NLe,Zt,ZA])
     ·simp only[Zn,if_neg h1,if_neg h2,if_neg h3,if_neg h4,stA,Zu]
      unfold m54
      repeat' with_reducible (first|refine ZR.h ?_|refine zI ?_|(refine zK hE ?_;intro K hK;simp[Zt,ZA,h1,h2,h3,h4,d36,d90];(repeat' (first|refine hK _ _ ?_|apply And.intro|(intro hc;try subst hc)))<;>(try clear hK K))|(refine zJ (fun hc=>?_) (fun hc=>?_)<;>simp at hc<;>(try subst hc)))
      all_goals first|(simp;done)|(simp at *;omega)|((try simp[Zt,ZA,h1,h2,h3,h4]);refine Imp.aut ?_ ?_<;>simp[NLe,Zt,ZA,h1,h2,h3,h4])
 ·cases h
def d50:List AV→List NObj→Option AV
 | [.agg [.int .i64 k,.bool fl,.int .i64 sg,.int .i64 sl,.int .i64 sf],.int .i64 t],[]=>some (.tup [rcA (ZW ⟨k,fl,sg,sl,sf⟩ t).1,.bool (ZW ⟨k,fl,sg,sl,sf⟩ t).2])
 | _,_=>none
theorem ok50:ROk d50:=by
 intro xs os r h;unfold d50 at h
 (repeat' (split at h))<;>first|(cases h;done)|(injection h with h;subst h;simp[rcA])
theorem s50:Sound Tryz.prog 50 (rdS d50 ok50):=by
 refine Zo C50.a C50.b C50.c C50.d ok50 fun xs os r h vs ρ0 hvs=>⟨xs,?_,fun _ h=>h,fun w0 S hS=>?_⟩
 ·unfold d50 at h
  (repeat' (split at h))<;>first|(cases h;done)|exact Nat.le_of_ble_eq_true rfl
 unfold d50 at h;split at h
 ·rename_i k fl sg sl sf t
  injection h with h;subst h;have hE:Zb Tryz.prog (EL []):=Zd (by simp);have w2:IntKind.wrap .i64 2=2:=rfl;have w3:IntKind.wrap .i64 3=3:=rfl;have w4:IntKind.wrap .i64 4=4:=rfl;have w5:IntKind.wrap .i64 5=5:=rfl;by_cases h5:k=5
  ·subst h5
   simp only[ZW,if_true,rcA];unfold m50
   repeat' with_reducible (first|refine ZR.h ?_|refine zI ?_|(refine zK hE ?_;intro K hK;simp[w2,w3,w4,w5];(repeat' (first|refine hK _ _ ?_|apply And.intro|(intro hc;try subst hc)))<;>(try clear hK K))|(refine zJ (fun hc=>?_) (fun hc=>?_)<;>simp at hc<;>(try subst hc)))
   all_goals first|(simp;done)|(simp at *;omega)|((try simp[w2,w3,w4,w5]);refine Imp.aut ?_ ?_<;>simp[NLe,w2,w3,w4,w5])
  ·by_cases h6:k=6
   ·subst h6
    simp only[ZW,if_neg h5,if_true,rcA];unfold m50
    repeat' with_reducible (first|refine ZR.h ?_|refine zI ?_|(refine zK hE ?_;intro K hK;simp[w2,w3,w4,w5];(repeat' (first|refine hK _ _ ?_|apply And.intro|(intro hc;try subst hc)))<;>(try clear hK K))|(refine zJ (fun hc=>?_) (fun hc=>?_)<;>simp at hc<;>(try subst hc)))
    all_goals first|(simp;done)|(simp at *;omega)|((try simp[w2,w3,w4,w5]);refine Imp.aut ?_ ?_<;>simp[NLe,w2,w3,w4,w5])
   ·by_cases h7:k=7
    ·subst h7
     simp only[ZW,if_neg h5,if_neg h6,if_true,rcA];unfold m50
     repeat' with_reducible (first|refine ZR.h ?_|refine zI ?_|(refine zK hE ?_;intro K hK;simp[w2,w3,w4,w5];(repeat' (first|refine hK _ _ ?_|apply And.intro|(intro hc;try subst hc)))<;>(try clear hK K))|(refine zJ (fun hc=>?_) (fun hc=>?_)<;>simp at hc<;>(try subst hc)))
     all_goals first|(simp;done)|(simp at *;omega)|((try simp[w2,w3,w4,w5]);refine Imp.aut ?_ ?_<;>simp[NLe,w2,w3,w4,w5])
    ·by_cases h8:k=8
     ·subst h8
      simp only[ZW,if_neg h5,if_neg h6,if_neg h7,if_true,rcA];unfold m50
      repeat' with_reducible (first|refine ZR.h ?_|refine zI ?_|(refine zK hE ?_;intro K hK;simp[w2,w3,w4,w5];(repeat' (first|refine hK _ _ ?_|apply And.intro|(intro hc;try subst hc)))<;>(try clear hK K))|(refine zJ (fun hc=>?_) (fun hc=>?_)<;>simp at hc<;>(try subst hc)))
      all_goals first|(simp;done)|(simp at *;omega)|((try simp[w2,w3,w4,w5]);refine Imp.aut ?_ ?_<;>simp[NLe,w2,w3,w4,w5])
     ·simp only[ZW,if_neg h5,if_neg h6,if_neg h7,if_neg h8,rcA]
      by_cases hl:k<5
      ·unfold m50
       repeat' with_reducible (first|refine ZR.h ?_|refine zI ?_|(refine zK hE ?_;intro K hK;simp[hl];(repeat' (first|refine hK _ _ ?_|apply And.intro|(intro hc;try subst hc)))<;>(try clear hK K))|(refine zJ (fun hc=>?_) (fun hc=>?_)<;>simp at hc<;>(try subst hc)))
       all_goals first|(simp;done)|(simp at *;omega)|((try simp[hl]);refine Imp.aut ?_ ?_<;>simp[NLe,hl])
      ·have hm:8<k:=by omega
       unfold m50
       repeat' with_reducible (first|refine ZR.h ?_|refine zI ?_|(refine zK hE ?_;intro K hK;simp[hl,hm];(repeat' (first|refine hK _ _ ?_|apply And.intro|(intro hc;try subst hc)))<;>(try clear hK K))|(refine zJ (fun hc=>?_) (fun hc=>?_)<;>simp at hc<;>(try subst hc)))
       all_goals first|(simp;done)|(simp at *;omega)|((try simp[hl,hm]);refine Imp.aut ?_ ?_<;>simp[NLe,hl,hm])
 ·cases h
end Go.W
