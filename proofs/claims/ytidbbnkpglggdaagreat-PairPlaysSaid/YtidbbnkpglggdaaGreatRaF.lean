/- Where both worlds begin. -/
import Derived.Test.YtidbbnkpglggdaaGreatPyJ
import Derived.Test.YtidbbnkpglggdaaGreatSbA
import Derived.Test.YtidbbnkpglggdaaGreatRaD
namespace Go.W
open Go.Proofs
set_option linter.unusedSimpArgs false
set_option linter.unusedVariables false
set_option maxHeartbeats 8000000
def Q0 (B:WZ):QZ:=⟨B.a,B.b,B.c,B.d,B.e,B.f,B.g,(List.range (B.a*B.b).toNat).map (fun i:Nat=>stW B i),(List.range (B.a*B.b).toNat).map (fun i:Nat=>tmW B i),List.replicate (B.a*B.b).toNat (List.replicate (B.g*(B.f+1)).toNat ⟨0,0,0,0,0,0⟩),0,[],0⟩
section
variable {a b c d e f g:Int} {els:List (List AV)}
theorem Zah (hcf:XX a b c d e f g=true) (he:els.all TJ=true):∀ (k:Nat) (ws S T:List (List AV)),k≤els.length→ZK a b c d e f g els k=some (ws,S,T)→∀ j:Nat,a*b*2≤(j:Int)→wAt ws j=0
 | 0,ws,S,T,_,h,j,hj=>by
  simp only[ZK,Option.some.injEq,Prod.mk.injEq]at h;obtain ⟨rfl,rfl,rfl⟩:=h;exact zF _ _
 | k+1,ws,S,T,hk,h,j,hj=>by
  simp only[ZK]at h;split at h
  ·cases h
  ·rename_i ws0 S0 T0 h0
   split at h
   ·cases h
   ·rename_i v u hO
    simp only[Option.some.injEq,Prod.mk.injEq]at h;obtain ⟨rfl,rfl,rfl⟩:=h;have hkl:k<els.length:=(by omega);have hrow:TJ (els.getD k [])=true:=by
     rw[List.getD_eq_getElem?_getD,List.getElem?_eq_getElem hkl];exact List.all_eq_true.1 he _ (List.getElem_mem hkl)
    have hkn:=(vb hrow hO).1;rw[XC (by omega),XC (by omega)];exact Zah hcf he k ws0 S0 T0 (by omega) h0 j hj
theorem Zag (hcf:XX a b c d e f g=true) (he:els.all TJ=true):∀ (k:Nat) (ws S T:List (List AV)),k≤els.length→ZK a b c d e f g els k=some (ws,S,T)→∀ i:Nat,(i:Int)<a*b→Zhl g f (wAt ws (2*i))
 | 0,ws,S,T,_,h,i,hi=>by
  simp only[ZK,Option.some.injEq,Prod.mk.injEq]at h;obtain ⟨rfl,rfl,rfl⟩:=h;rw[show wAt (W0 a b c d e f g).ws (2*i)=0 from zF _ _];exact Zf5 g f
 | k+1,ws,S,T,hk,h,i,hi=>by
  simp only[ZK]at h;split at h
  ·cases h
  ·rename_i ws0 S0 T0 h0
   split at h
   ·cases h
   ·rename_i v u hO
    simp only[Option.some.injEq,Prod.mk.injEq]at h;obtain ⟨rfl,rfl,rfl⟩:=h;have hkl:k<els.length:=(by omega);have hrow:TJ (els.getD k [])=true:=by
     rw[List.getD_eq_getElem?_getD,List.getElem?_eq_getElem hkl];exact List.all_eq_true.1 he _ (List.getElem_mem hkl)
    have hkn:=(vb hrow hO).1;obtain ⟨i1,i2,i3,i4,i5⟩:=XO hcf he k ws0 S0 T0 (by omega) h0;have ih:=Zag hcf he k ws0 S0 T0 (by omega) h0 i hi;obtain ⟨kd,fl,sg,sl,sf,nm,sd,pr,le,un,hoe,_⟩:=VN hrow;rw[hoe]at hO;obtain ⟨hv,hu,g1,g2,g3,g4,g5⟩:=vk hO;have hc:=ZH hcf;have hall:=ZJ hcf;have hwd:=Yl (f:=f) (g:=g) (show 0≤a*b by omega) hall.2 (by omega) (by omega);by_cases hik:i=k
    ·subst hik
     rw[XC (by omega),z9 (by omega)];exact Zhu hv fun _=>⟨g1,g2,by simp only;omega⟩
    ·rw[XC (by omega),XC (by omega)]
     exact ih
theorem q0_eq {ws SS TT:List (List AV)} (hcf:XX a b c d e f g=true) (he:els.all TJ=true) (h:ZK a b c d e f g els els.length=some (ws,SS,TT)):qC a b c d e f g SS TT=qzC (Q0 (bW a b c d e f g els ws)):=by
 obtain ⟨_,_,_,⟨hSl,_,_,_⟩,⟨hTl,_,_,_⟩⟩:=XO hcf he _ _ _ _ (Nat.le_refl _) h;have hcell:=xj hcf he _ _ _ _ (Nat.le_refl _) h;have hall:=ZJ hcf;have e1:SS=sLL (Q0 (bW a b c d e f g els ws)).S:=by
  refine List.ext_getElem? fun i=>?_;by_cases hi:i<(a*b).toNat
  ·rw[(hcell i (by omega)).1]
   have:(Q0 (bW a b c d e f g els ws)).S[i]?=some (stW (bW a b c d e f g els ws) i):=by
    show ((List.range (a*b).toNat).map _)[i]?=_;rw[List.getElem?_map,List.getElem?_range hi];rfl
   rw[Tt this];show some (stL (Za (wAt ws (2*i))))=some (stL (Za (wAt ws (2*(i:Int)).toNat)));rw[show (2*(i:Int)).toNat=2*i by omega]
  ·rw[List.getElem?_eq_none (by omega),List.getElem?_eq_none]
   rw[UF];show ((List.range (a*b).toNat).map _).length≤i;rw[List.length_map,List.length_range];omega
 have e2:TT=tLL (Q0 (bW a b c d e f g els ws)).T:=by
  refine List.ext_getElem? fun i=>?_;by_cases hi:i<(a*b).toNat
  ·rw[(hcell i (by omega)).2.1]
   have:(Q0 (bW a b c d e f g els ws)).T[i]?=some (tmW (bW a b c d e f g els ws) i):=by
    show ((List.range (a*b).toNat).map _)[i]?=_;rw[List.getElem?_map,List.getElem?_range hi];rfl
   rw[vW this];show some (tmC (Yg (wAt ws (2*i+1))))=some (tmC (Yg (wAt ws (2*(i:Int)+1).toNat)));rw[show (2*(i:Int)+1).toNat=2*i+1 by omega]
  ·rw[List.getElem?_eq_none (by omega),List.getElem?_eq_none]
   rw[Zaz];show ((List.range (a*b).toNat).map _).length≤i;rw[List.length_map,List.length_range];omega
 have e3:jzL (a*b).toNat (g*(f+1)).toNat=jLL (Q0 (bW a b c d e f g els ws)).J:=by
  show List.replicate _ (jzR _)=(List.replicate (a*b).toNat (List.replicate (g*(f+1)).toNat (⟨0,0,0,0,0,0⟩:RcZ))).map jrL;rw[List.map_replicate]
  congr 1
  show jzR _=[.os 0 6 ((List.replicate (g*(f+1)).toNat (⟨0,0,0,0,0,0⟩:RcZ)).map rcL)];rw[List.map_replicate];rfl
 unfold qC;rw[e1,e2,e3];rfl
theorem Zgg (G F w x gn y s:Int):Zak G F (tz0 w x gn y s):=⟨Zf5 G F,Zf5 G F,⟨by simp[tz0],by simp[tz0]⟩,⟨by simp[tz0],by simp[tz0]⟩,fun h=>by simp[tz0]at h,fun h=>by simp[tz0]at h,fun h=>by simp[tz0]at h⟩
theorem Zeh {ws SS TT:List (List AV)} (hcf:XX a b c d e f g=true) (he:els.all TJ=true) (h:ZK a b c d e f g els els.length=some (ws,SS,TT)) {Ts:List TZ} (hT:∀ T,T∈Ts→∃ w x g y s,T=tz0 w x g y s):ZcK (bW a b c d e f g els ws) (Q0 (bW a b c d e f g els ws)) Ts:=by
 obtain ⟨hW0,hWs,hel⟩:=Ze7 hcf he h;have hcell3:=z4 hcf he _ _ _ _ (Nat.le_refl _) h;have hrec:=Zah hcf he _ _ _ _ (Nat.le_refl _) h;have hgen:=Zag hcf he _ _ _ _ (Nat.le_refl _) h;have hall:=ZJ hcf;have hc:=ZH hcf;have eX:∀ i:Nat,sAt (bW a b c d e f g els ws) (i:Int)=wAt ws (2*i):=fun i=>by
  unfold sAt;rw[show (2*(i:Int)).toNat=2*i by omega];rfl
 have hgW:zZ (bW a b c d e f g els ws):=fun i i0 i1=>by
  obtain ⟨X,rfl⟩:=Int.eq_ofNat_of_zero_le i0;rw[eX];exact hgen X i1
 have m0:0≤g*(f+1):=Int.mul_nonneg (by omega) (by omega);refine ⟨⟨_,_,ZbX hW0 (fun i i0 i1=>?_) rfl hT⟩,⟨hW0,?_,⟨rfl,rfl,rfl,rfl,rfl,rfl⟩,fun i i0 i1=>?_,fun i i0 i1=>?_,fun i gn n i0 i1 g0 g1 n0 n1=>?_,rfl,rfl⟩,hgW,fun T hm=>?_,fun T hm=>?_⟩
 ·obtain ⟨X,rfl⟩:=Int.eq_ofNat_of_zero_le i0
  unfold stW;rw[eX];exact hcell3 X i1
 ·refine decide_eq_true ⟨hcf,?_,?_,?_,fun l hl=>?_,by simp[Q0],by simp[Q0],rfl,by simp[Q0]⟩
  ·show (((List.range (a*b).toNat).map _).length:Int)=a*b
   rw[List.length_map,List.length_range];omega
  ·show (((List.range (a*b).toNat).map _).length:Int)=a*b
   rw[List.length_map,List.length_range];omega
  ·show ((List.replicate (a*b).toNat _).length:Int)=a*b
   rw[List.length_replicate];omega
  ·rw[List.eq_of_mem_replicate hl,List.length_replicate]
   show ((g*(f+1)).toNat:Int)=g*(f+1);omega
 ·replace i1:i<a*b:=i1
  show ((List.range (a*b).toNat).map _)[i.toNat]?=_;rw[List.getElem?_map,List.getElem?_range (by omega)];show some (stW _ (i.toNat:Int))=_;rw[show (i.toNat:Int)=i by omega]
 ·replace i1:i<a*b:=i1
  show ((List.range (a*b).toNat).map _)[i.toNat]?=_;rw[List.getElem?_map,List.getElem?_range (by omega)];show some (tmW _ (i.toNat:Int))=_;rw[show (i.toNat:Int)=i by omega]
 ·replace i1:i<a*b:=i1
  replace g1:gn≤g:=g1;replace n1:n≤f:=n1;refine ⟨List.replicate (g*(f+1)).toNat ⟨0,0,0,0,0,0⟩,?_,?_⟩
  ·show (List.replicate (a*b).toNat _)[i.toNat]?=_
   rw[List.getElem?_replicate,if_pos (by omega)]
   rfl
  ·have k1:0≤(gn - 1)*(f+1):=Int.mul_nonneg (by omega) (by omega)
   have k2:(gn - 1+1)*(f+1)≤g*(f+1):=Int.mul_le_mul_of_nonneg_right (by omega) (by omega);rw[Int.add_mul,Int.one_mul]at k2;have hlo:=(yX i0 i1 g0 g1 n0 n1).1;have hz:wAt ws (ZT a b f g i gn n).toNat=0:=hrec _ (by omega);show (List.replicate (g*(f+1)).toNat _)[((gn - 1)*(f+1)+n).toNat]?=some (X8 (wAt ws (ZT a b f g i gn n).toNat));rw[hz,List.getElem?_replicate,if_pos (by omega)]
   rfl
 ·obtain ⟨w,x,gn,y,s,rfl⟩:=hT T hm
  exact Zgg _ _ _ _ _ _ _
 ·obtain ⟨w,x,gn,y,s,rfl⟩:=hT T hm
  exact Zhv _ _ _ _ _
end
attribute [local irreducible] Wm
attribute [local simp] Y5 lkp VW prs Uv prT ddL idL YN Um Ren Vt NObj.none Z4
theorem s47:Sound Tryz.prog 47 (Zi [(43,true),(13,true)] d47 ok47):=by
 refine Zj C47.a C47.b C47.c C47.d ok47 (fun xs a h=>?_) fun xs a h w0 S hS=>?_
 ·unfold d47 at h
  (repeat' (split at h))<;>first|(cases h;done)|exact Nat.le_of_ble_eq_true rfl
 unfold d47 at h;split at h
 ·rename_i t1 r t2 q
  split at h
  ·rename_i R Q hR hQ
   split at h
   ·rename_i hcond
    obtain rfl:=YI hQ;obtain rfl:=Tp hR;injection h with h;subst h;clear hQ hR;have hE:Zb Tryz.prog (EL [(45,rdS d45 ok45),(85,rdS d85 ok85),(86,rdS d86 ok86),(46,Zi [(13,true)] d46 ok46),(67,Zi [(13,true)] d67 ok67)]):=Zd (by simp only[List.mem_cons,List.not_mem_nil,or_false,forall_eq_or_imp,forall_eq];exact ⟨s45,s85,s86,s46,s67⟩);obtain ⟨hr,hok,hsm,x0',x1',y0',y1'⟩:=hcond;have hS0:=Z7 Q.S;have hS1:=Z6 Q.S;have hT0:=Yd Q.T;have hT1:=Yc Q.T;have hJ0:=Z9 Q.J;have hJ1:=Ya Q.J;obtain ⟨q1,q2,q3,q4,q5,q6,q7,q8,q9⟩:=Zp hok;have hL0:=ZF q8;have hL1:=ZE q8;obtain ⟨r1,r2,r3,r4,r5,r6,p1,p2,p3,p4⟩:=zc hr;obtain ⟨y1,y2,y3,y4,y5,y6⟩:=ya r4;have hsh:d45 [.agg [.int .i64 Q.a,.int .i64 Q.b,.int .i64 Q.c,.int .i64 Q.d,.int .i64 Q.e,.int .i64 Q.f,.int .i64 Q.g],.agg [.int .i64 R.ty.nm,.int .i64 R.ty.sd,.int .i64 R.ty.pr,.int .i64 R.ty.le,.int .i64 R.ty.un]] []=some (.int .i64 (YG Q.c Q.d R.ty.nm (Y9 Q.d R.ty.pr))):=by
     simp only[d45];rw[if_pos q1]
    obtain ⟨shv,hshv⟩:∃ z,YG Q.c Q.d R.ty.nm (Y9 Q.d R.ty.pr)=z:=⟨_,rfl⟩;by_cases hh:R.held=false
    ·by_cases w1:R.way=1
     ·have ht:XD Q R=(R,Q):=by unfold XD;rw[if_pos (.inl hh)]
      rw[ht];simp only[rzC,qzC]at hS⊢;unfold m47
      repeat' with_reducible (first|refine ZR.h ?_|refine zI ?_|((first|refine zK hE ?_|refine zM hE ?_);intro K hK;simp[hS0,hS1,hT0,hT1,hJ0,hJ1,hL0,hL1,hh,w1];(repeat' (first|refine hK _ _ ?_|apply And.intro|(intro hc;try subst hc)))<;>(try clear hK K))|(refine zJ (fun hc=>?_) (fun hc=>?_)<;>simp at hc<;>(try subst hc)))
      all_goals first|(simp;done)|(simp at *;omega)|((try simp[hS0,hS1,hT0,hT1,hJ0,hJ1,hL0,hL1,hh,w1]);refine Imp.aut ?_ ?_<;>simp[NLe,hS0,hS1,hT0,hT1,hJ0,hJ1,hL0,hL1,hh,w1])
     ·have ht:XD Q R=(R,Q):=by unfold XD;rw[if_pos (.inl hh)]
      rw[ht];simp only[rzC,qzC]at hS⊢;unfold m47
      repeat' with_reducible (first|refine ZR.h ?_|refine zI ?_|((first|refine zK hE ?_|refine zM hE ?_);intro K hK;simp[hS0,hS1,hT0,hT1,hJ0,hJ1,hL0,hL1,hh,w1];(repeat' (first|refine hK _ _ ?_|apply And.intro|(intro hc;try subst hc)))<;>(try clear hK K))|(refine zJ (fun hc=>?_) (fun hc=>?_)<;>simp at hc<;>(try subst hc)))
      all_goals first|(simp;done)|(simp at *;omega)|((try simp[hS0,hS1,hT0,hT1,hJ0,hJ1,hL0,hL1,hh,w1]);refine Imp.aut ?_ ?_<;>simp[NLe,hS0,hS1,hT0,hT1,hJ0,hJ1,hL0,hL1,hh,w1])
    ·have hh:R.held=true:=by simpa using hh
     by_cases w1:R.way=1
     ·by_cases k1:R.sy.k=1
      ·
       have hb:¬ (R.held=false∨R.sy.k≠(if R.way=1 then 1 else 2)∨(R.way=2∧YG Q.c Q.d R.ty.nm (Y9 Q.d R.ty.pr)≠R.sh)):=by rw[if_pos w1];simp[hh,k1,w1]
       have hmt:d85 [.agg (tmC R.tx),.agg (tmC R.ty),.int .i64 R.sx.l,.int .i64 R.sy.l] []=some (.tup [.int .i64 (Zc R.tx R.ty R.sx.l R.sy.l).1,.int .i64 (Zc R.tx R.ty R.sx.l R.sy.l).2]):=by
        simp only[d85,tmC];rw[if_pos ⟨p1,p2,p3,p4⟩]
       have htk:d86 [stA R.sy,.int .i64 (Zc R.tx R.ty R.sx.l R.sy.l).1,.int .i64 Q.f] []=some (.tup [stA (Zw R.sy (Zc R.tx R.ty R.sx.l R.sy.l).1 Q.f).1,.int .i64 (Zw R.sy (Zc R.tx R.ty R.sx.l R.sy.l).1 Q.f).2]):=by
        simp only[d86,stA];rw[if_pos ⟨y3,y4,y5,y6⟩]
       unfold XD
       rw[if_neg hb]
       obtain ⟨⟨mq,mp⟩,hm⟩:∃ z,Zc R.tx R.ty R.sx.l R.sy.l=z:=⟨_,rfl⟩
       rw[hm]at hmt htk⊢
       obtain ⟨⟨ts,te⟩,hts⟩:∃ z,Zw R.sy mq Q.f=z:=⟨_,rfl⟩
       simp only at htk⊢
       rw[hts]at htk⊢
       simp only[tmC,stA]at hmt htk⊢
       by_cases he:te=0
       ·subst he
        rw[if_neg (by simp)];have htu:=fun u=>e46 hok hsm y0' y1' R.sy ts u;have hok2:=YA hok R.y R.sy ts;obtain ⟨⟨tb,Q2⟩,hq2⟩:∃ z,ZY Q R.y R.sy ts=z:=⟨_,rfl⟩;have hsm2:Zfg Q2=true:=(by have:=UH hsm R.y R.sy ts;rw[hq2]at this;exact this);rw[hq2]at htu hok2⊢;simp only[stA]at htu hok2⊢;have q82:=(Zp hok2).2.2.2.2.2.2.2.1;have hS02:=Z7 Q2.S;have hS12:=Z6 Q2.S;have hT02:=Yd Q2.T;have hT12:=Yc Q2.T;have hJ02:=Z9 Q2.J;have hJ12:=Ya Q2.J;have hL02:=ZF q82;have hL12:=ZE q82;cases tb
        ·rw[if_pos rfl]
         simp only[rzC,qzC]at hS htu⊢;simp only[k1]at htk htu;unfold m47
         repeat' with_reducible (first|refine ZR.h ?_|refine zI ?_|((first|refine zK hE ?_|refine zM hE ?_);intro K hK;simp[hh,w1,k1,hS0,hS1,hT0,hT1,hJ0,hJ1,hL0,hL1,hS02,hS12,hT02,hT12,hJ02,hJ12,hL02,hL12,hmt,htk,htu];(repeat' (first|refine hK _ _ ?_|apply And.intro|(intro hc;try subst hc)))<;>(try clear hK K))|(refine zJ (fun hc=>?_) (fun hc=>?_)<;>simp at hc<;>(try subst hc)))
         all_goals first|(simp;done)|(simp at *;omega)|((try simp[hh,w1,k1,hS0,hS1,hT0,hT1,hJ0,hJ1,hL0,hL1,hS02,hS12,hT02,hT12,hJ02,hJ12,hL02,hL12]);refine Imp.aut ?_ ?_<;>simp[NLe,hh,w1,k1,hS0,hS1,hT0,hT1,hJ0,hJ1,hL0,hL1,hS02,hS12,hT02,hT12,hJ02,hJ12,hL02,hL12])
        ·rw[if_neg (by simp)]
         have htl:=fun u=>e67 hok2 hsm2 2 R.x R.sx.g R.y R.sy.g mq mp 0 0 u;have hok3:=X1 hok2 2 R.x R.sx.g R.y R.sy.g mq mp 0;have hnow:Q2.now=Q.now:=(by have:=VR Q R.y R.sy ts;rw[hq2]at this;exact this);obtain ⟨Q3,hq3⟩:∃ z,TK Q2 2 R.x R.sx.g R.y R.sy.g mq mp 0=z:=⟨_,rfl⟩;rw[hq3]at htl hok3⊢;have q83:=(Zp hok3).2.2.2.2.2.2.2.1;have hS03:=Z7 Q3.S;have hS13:=Z6 Q3.S;have hT03:=Yd Q3.T;have hT13:=Yc Q3.T;have hJ03:=Z9 Q3.J;have hJ13:=Ya Q3.J;have hL03:=ZF q83;have hL13:=ZE q83;rw[← hnow];simp only[rzC,qzC,evC]at hS htu htl⊢;simp only[k1]at htk htu;unfold m47
         repeat' with_reducible (first|refine ZR.h ?_|refine zI ?_|((first|refine zK hE ?_|refine zM hE ?_);intro K hK;simp[hh,w1,k1,hS0,hS1,hT0,hT1,hJ0,hJ1,hL0,hL1,hS02,hS12,hT02,hT12,hJ02,hJ12,hL02,hL12,hS03,hS13,hT03,hT13,hJ03,hJ13,hL03,hL13,hmt,htk,htu,htl];(repeat' (first|refine hK _ _ ?_|apply And.intro|(intro hc;try subst hc)))<;>(try clear hK K))|(refine zJ (fun hc=>?_) (fun hc=>?_)<;>simp at hc<;>(try subst hc)))
         all_goals first|(simp;done)|(simp at *;omega)|((try simp[hh,w1,k1,hS0,hS1,hT0,hT1,hJ0,hJ1,hL0,hL1,hS02,hS12,hT02,hT12,hJ02,hJ12,hL02,hL12,hS03,hS13,hT03,hT13,hJ03,hJ13,hL03,hL13]);refine Imp.aut ?_ ?_<;>simp[NLe,hh,w1,k1,hS0,hS1,hT0,hT1,hJ0,hJ1,hL0,hL1,hS02,hS12,hT02,hT12,hJ02,hJ12,hL02,hL12,hS03,hS13,hT03,hT13,hJ03,hJ13,hL03,hL13])
       ·rw[if_pos he]
        simp only[rzC,qzC]at hS⊢;simp only[k1]at htk;unfold m47
        repeat' with_reducible (first|refine ZR.h ?_|refine zI ?_|((first|refine zK hE ?_|refine zM hE ?_);intro K hK;simp[hh,w1,k1,hS0,hS1,hT0,hT1,hJ0,hJ1,hL0,hL1,hmt,htk,he];(repeat' (first|refine hK _ _ ?_|apply And.intro|(intro hc;try subst hc)))<;>(try clear hK K))|(refine zJ (fun hc=>?_) (fun hc=>?_)<;>simp at hc<;>(try subst hc)))
        all_goals first|(simp;done)|(simp at *;omega)|((try simp[hh,w1,k1,hS0,hS1,hT0,hT1,hJ0,hJ1,hL0,hL1,he]);refine Imp.aut ?_ ?_<;>simp[NLe,hh,w1,k1,hS0,hS1,hT0,hT1,hJ0,hJ1,hL0,hL1,he])
      ·have ht:XD Q R=(R,Q):=by unfold XD;rw[if_pos (.inr (.inl (by rw[if_pos w1];exact k1)))]
       rw[ht];simp only[rzC,qzC]at hS⊢;unfold m47
       repeat' with_reducible (first|refine ZR.h ?_|refine zI ?_|((first|refine zK hE ?_|refine zM hE ?_);intro K hK;simp[hS0,hS1,hT0,hT1,hJ0,hJ1,hL0,hL1,hh,w1,k1];(repeat' (first|refine hK _ _ ?_|apply And.intro|(intro hc;try subst hc)))<;>(try clear hK K))|(refine zJ (fun hc=>?_) (fun hc=>?_)<;>simp at hc<;>(try subst hc)))
       all_goals first|(simp;done)|(simp at *;omega)|((try simp[hS0,hS1,hT0,hT1,hJ0,hJ1,hL0,hL1,hh,w1,k1]);refine Imp.aut ?_ ?_<;>simp[NLe,hS0,hS1,hT0,hT1,hJ0,hJ1,hL0,hL1,hh,w1,k1])
     ·by_cases k2:R.sy.k=2
      ·by_cases w2:R.way=2
       ·rw[hshv]at hsh
        by_cases hs:shv=R.sh
        ·
         have hb:¬ (R.held=false∨R.sy.k≠(if R.way=1 then 1 else 2)∨(R.way=2∧YG Q.c Q.d R.ty.nm (Y9 Q.d R.ty.pr)≠R.sh)):=by rw[if_neg w1,hshv];simp[hh,k2,w2,hs]
         have hmt:d85 [.agg (tmC R.tx),.agg (tmC R.ty),.int .i64 R.sx.l,.int .i64 R.sy.l] []=some (.tup [.int .i64 (Zc R.tx R.ty R.sx.l R.sy.l).1,.int .i64 (Zc R.tx R.ty R.sx.l R.sy.l).2]):=by
          simp only[d85,tmC];rw[if_pos ⟨p1,p2,p3,p4⟩]
         have htk:d86 [stA R.sy,.int .i64 (Zc R.tx R.ty R.sx.l R.sy.l).1,.int .i64 Q.f] []=some (.tup [stA (Zw R.sy (Zc R.tx R.ty R.sx.l R.sy.l).1 Q.f).1,.int .i64 (Zw R.sy (Zc R.tx R.ty R.sx.l R.sy.l).1 Q.f).2]):=by
          simp only[d86,stA];rw[if_pos ⟨y3,y4,y5,y6⟩]
         unfold XD
         rw[if_neg hb]
         obtain ⟨⟨mq,mp⟩,hm⟩:∃ z,Zc R.tx R.ty R.sx.l R.sy.l=z:=⟨_,rfl⟩
         rw[hm]at hmt htk⊢
         obtain ⟨⟨ts,te⟩,hts⟩:∃ z,Zw R.sy mq Q.f=z:=⟨_,rfl⟩
         simp only at htk⊢
         rw[hts]at htk⊢
         simp only[tmC,stA]at hmt htk⊢
         by_cases he:te=0
         ·subst he
          rw[if_neg (by simp)];have htu:=fun u=>e46 hok hsm y0' y1' R.sy ts u;have hok2:=YA hok R.y R.sy ts;obtain ⟨⟨tb,Q2⟩,hq2⟩:∃ z,ZY Q R.y R.sy ts=z:=⟨_,rfl⟩;have hsm2:Zfg Q2=true:=(by have:=UH hsm R.y R.sy ts;rw[hq2]at this;exact this);rw[hq2]at htu hok2⊢;simp only[stA]at htu hok2⊢;have q82:=(Zp hok2).2.2.2.2.2.2.2.1;have hS02:=Z7 Q2.S;have hS12:=Z6 Q2.S;have hT02:=Yd Q2.T;have hT12:=Yc Q2.T;have hJ02:=Z9 Q2.J;have hJ12:=Ya Q2.J;have hL02:=ZF q82;have hL12:=ZE q82;cases tb
          ·rw[if_pos rfl]
           simp only[rzC,qzC]at hS htu⊢;simp only[k2]at htk htu;unfold m47
           repeat' with_reducible (first|refine ZR.h ?_|refine zI ?_|((first|refine zK hE ?_|refine zM hE ?_);intro K hK;simp[hh,w1,w2,k2,hsh,hs,hS0,hS1,hT0,hT1,hJ0,hJ1,hL0,hL1,hS02,hS12,hT02,hT12,hJ02,hJ12,hL02,hL12,hmt,htk,htu];(repeat' (first|refine hK _ _ ?_|apply And.intro|(intro hc;try subst hc)))<;>(try clear hK K))|(refine zJ (fun hc=>?_) (fun hc=>?_)<;>simp at hc<;>(try subst hc)))
           all_goals first|(simp;done)|(simp at *;omega)|((try simp[hh,w1,w2,k2,hsh,hs,hS0,hS1,hT0,hT1,hJ0,hJ1,hL0,hL1,hS02,hS12,hT02,hT12,hJ02,hJ12,hL02,hL12]);refine Imp.aut ?_ ?_<;>simp[NLe,hh,w1,w2,k2,hsh,hs,hS0,hS1,hT0,hT1,hJ0,hJ1,hL0,hL1,hS02,hS12,hT02,hT12,hJ02,hJ12,hL02,hL12])
          ·rw[if_neg (by simp)]
           have htl:=fun u=>e67 hok2 hsm2 2 R.x R.sx.g R.y R.sy.g mq mp 0 0 u;have hok3:=X1 hok2 2 R.x R.sx.g R.y R.sy.g mq mp 0;have hnow:Q2.now=Q.now:=(by have:=VR Q R.y R.sy ts;rw[hq2]at this;exact this);obtain ⟨Q3,hq3⟩:∃ z,TK Q2 2 R.x R.sx.g R.y R.sy.g mq mp 0=z:=⟨_,rfl⟩;rw[hq3]at htl hok3⊢;have q83:=(Zp hok3).2.2.2.2.2.2.2.1;have hS03:=Z7 Q3.S;have hS13:=Z6 Q3.S;have hT03:=Yd Q3.T;have hT13:=Yc Q3.T;have hJ03:=Z9 Q3.J;have hJ13:=Ya Q3.J;have hL03:=ZF q83;have hL13:=ZE q83;rw[← hnow];simp only[rzC,qzC,evC]at hS htu htl⊢;simp only[k2]at htk htu;unfold m47
           repeat' with_reducible (first|refine ZR.h ?_|refine zI ?_|((first|refine zK hE ?_|refine zM hE ?_);intro K hK;simp[hh,w1,w2,k2,hsh,hs,hS0,hS1,hT0,hT1,hJ0,hJ1,hL0,hL1,hS02,hS12,hT02,hT12,hJ02,hJ12,hL02,hL12,hS03,hS13,hT03,hT13,hJ03,hJ13,hL03,hL13,hmt,htk,htu,htl];(repeat' (first|refine hK _ _ ?_|apply And.intro|(intro hc;try subst hc)))<;>(try clear hK K))|(refine zJ (fun hc=>?_) (fun hc=>?_)<;>simp at hc<;>(try subst hc)))
           all_goals first|(simp;done)|(simp at *;omega)|((try simp[hh,w1,w2,k2,hsh,hs,hS0,hS1,hT0,hT1,hJ0,hJ1,hL0,hL1,hS02,hS12,hT02,hT12,hJ02,hJ12,hL02,hL12,hS03,hS13,hT03,hT13,hJ03,hJ13,hL03,hL13]);refine Imp.aut ?_ ?_<;>simp[NLe,hh,w1,w2,k2,hsh,hs,hS0,hS1,hT0,hT1,hJ0,hJ1,hL0,hL1,hS02,hS12,hT02,hT12,hJ02,hJ12,hL02,hL12,hS03,hS13,hT03,hT13,hJ03,hJ13,hL03,hL13])
         ·rw[if_pos he]
          simp only[rzC,qzC]at hS⊢;simp only[k2]at htk;unfold m47
          repeat' with_reducible (first|refine ZR.h ?_|refine zI ?_|((first|refine zK hE ?_|refine zM hE ?_);intro K hK;simp[hh,w1,w2,k2,hsh,hs,hS0,hS1,hT0,hT1,hJ0,hJ1,hL0,hL1,hmt,htk,he];(repeat' (first|refine hK _ _ ?_|apply And.intro|(intro hc;try subst hc)))<;>(try clear hK K))|(refine zJ (fun hc=>?_) (fun hc=>?_)<;>simp at hc<;>(try subst hc)))
          all_goals first|(simp;done)|(simp at *;omega)|((try simp[hh,w1,w2,k2,hsh,hs,hS0,hS1,hT0,hT1,hJ0,hJ1,hL0,hL1,he]);refine Imp.aut ?_ ?_<;>simp[NLe,hh,w1,w2,k2,hsh,hs,hS0,hS1,hT0,hT1,hJ0,hJ1,hL0,hL1,he])
        ·have ht:XD Q R=(R,Q):=by unfold XD;rw[if_pos (.inr (.inr ⟨w2,by rw[hshv];exact hs⟩))]
         rw[ht];simp only[rzC,qzC]at hS⊢;unfold m47
         repeat' with_reducible (first|refine ZR.h ?_|refine zI ?_|((first|refine zK hE ?_|refine zM hE ?_);intro K hK;simp[hS0,hS1,hT0,hT1,hJ0,hJ1,hL0,hL1,hh,w1,w2,k2,hsh,hs];(repeat' (first|refine hK _ _ ?_|apply And.intro|(intro hc;try subst hc)))<;>(try clear hK K))|(refine zJ (fun hc=>?_) (fun hc=>?_)<;>simp at hc<;>(try subst hc)))
         all_goals first|(simp;done)|(simp at *;omega)|((try simp[hS0,hS1,hT0,hT1,hJ0,hJ1,hL0,hL1,hh,w1,w2,k2,hsh,hs]);refine Imp.aut ?_ ?_<;>simp[NLe,hS0,hS1,hT0,hT1,hJ0,hJ1,hL0,hL1,hh,w1,w2,k2,hsh,hs])
       ·
        have hb:¬ (R.held=false∨R.sy.k≠(if R.way=1 then 1 else 2)∨(R.way=2∧YG Q.c Q.d R.ty.nm (Y9 Q.d R.ty.pr)≠R.sh)):=by rw[if_neg w1];simp[hh,k2,w2]
        have hmt:d85 [.agg (tmC R.tx),.agg (tmC R.ty),.int .i64 R.sx.l,.int .i64 R.sy.l] []=some (.tup [.int .i64 (Zc R.tx R.ty R.sx.l R.sy.l).1,.int .i64 (Zc R.tx R.ty R.sx.l R.sy.l).2]):=by
         simp only[d85,tmC];rw[if_pos ⟨p1,p2,p3,p4⟩]
        have htk:d86 [stA R.sy,.int .i64 (Zc R.tx R.ty R.sx.l R.sy.l).1,.int .i64 Q.f] []=some (.tup [stA (Zw R.sy (Zc R.tx R.ty R.sx.l R.sy.l).1 Q.f).1,.int .i64 (Zw R.sy (Zc R.tx R.ty R.sx.l R.sy.l).1 Q.f).2]):=by
         simp only[d86,stA];rw[if_pos ⟨y3,y4,y5,y6⟩]
        unfold XD
        rw[if_neg hb]
        obtain ⟨⟨mq,mp⟩,hm⟩:∃ z,Zc R.tx R.ty R.sx.l R.sy.l=z:=⟨_,rfl⟩
        rw[hm]at hmt htk⊢
        obtain ⟨⟨ts,te⟩,hts⟩:∃ z,Zw R.sy mq Q.f=z:=⟨_,rfl⟩
        simp only at htk⊢
        rw[hts]at htk⊢
        simp only[tmC,stA]at hmt htk⊢
        by_cases he:te=0
        ·subst he
         rw[if_neg (by simp)];have htu:=fun u=>e46 hok hsm y0' y1' R.sy ts u;have hok2:=YA hok R.y R.sy ts;obtain ⟨⟨tb,Q2⟩,hq2⟩:∃ z,ZY Q R.y R.sy ts=z:=⟨_,rfl⟩;have hsm2:Zfg Q2=true:=(by have:=UH hsm R.y R.sy ts;rw[hq2]at this;exact this);rw[hq2]at htu hok2⊢;simp only[stA]at htu hok2⊢;have q82:=(Zp hok2).2.2.2.2.2.2.2.1;have hS02:=Z7 Q2.S;have hS12:=Z6 Q2.S;have hT02:=Yd Q2.T;have hT12:=Yc Q2.T;have hJ02:=Z9 Q2.J;have hJ12:=Ya Q2.J;have hL02:=ZF q82;have hL12:=ZE q82;cases tb
         ·rw[if_pos rfl]
          simp only[rzC,qzC]at hS htu⊢;simp only[k2]at htk htu;unfold m47
          repeat' with_reducible (first|refine ZR.h ?_|refine zI ?_|((first|refine zK hE ?_|refine zM hE ?_);intro K hK;simp[hh,w1,w2,k2,hS0,hS1,hT0,hT1,hJ0,hJ1,hL0,hL1,hS02,hS12,hT02,hT12,hJ02,hJ12,hL02,hL12,hmt,htk,htu];(repeat' (first|refine hK _ _ ?_|apply And.intro|(intro hc;try subst hc)))<;>(try clear hK K))|(refine zJ (fun hc=>?_) (fun hc=>?_)<;>simp at hc<;>(try subst hc)))
          all_goals first|(simp;done)|(simp at *;omega)|((try simp[hh,w1,w2,k2,hS0,hS1,hT0,hT1,hJ0,hJ1,hL0,hL1,hS02,hS12,hT02,hT12,hJ02,hJ12,hL02,hL12]);refine Imp.aut ?_ ?_<;>simp[NLe,hh,w1,w2,k2,hS0,hS1,hT0,hT1,hJ0,hJ1,hL0,hL1,hS02,hS12,hT02,hT12,hJ02,hJ12,hL02,hL12])
         ·rw[if_neg (by simp)]
          have htl:=fun u=>e67 hok2 hsm2 2 R.x R.sx.g R.y R.sy.g mq mp 0 0 u;have hok3:=X1 hok2 2 R.x R.sx.g R.y R.sy.g mq mp 0;have hnow:Q2.now=Q.now:=(by have:=VR Q R.y R.sy ts;rw[hq2]at this;exact this);obtain ⟨Q3,hq3⟩:∃ z,TK Q2 2 R.x R.sx.g R.y R.sy.g mq mp 0=z:=⟨_,rfl⟩;rw[hq3]at htl hok3⊢;have q83:=(Zp hok3).2.2.2.2.2.2.2.1;have hS03:=Z7 Q3.S;have hS13:=Z6 Q3.S;have hT03:=Yd Q3.T;have hT13:=Yc Q3.T;have hJ03:=Z9 Q3.J;have hJ13:=Ya Q3.J;have hL03:=ZF q83;have hL13:=ZE q83;rw[← hnow];simp only[rzC,qzC,evC]at hS htu htl⊢;simp only[k2]at htk htu;unfold m47
          repeat' with_reducible (first|refine ZR.h ?_|refine zI ?_|((first|refine zK hE ?_|refine zM hE ?_);intro K hK;simp[hh,w1,w2,k2,hS0,hS1,hT0,hT1,hJ0,hJ1,hL0,hL1,hS02,hS12,hT02,hT12,hJ02,hJ12,hL02,hL12,hS03,hS13,hT03,hT13,hJ03,hJ13,hL03,hL13,hmt,htk,htu,htl];(repeat' (first|refine hK _ _ ?_|apply And.intro|(intro hc;try subst hc)))<;>(try clear hK K))|(refine zJ (fun hc=>?_) (fun hc=>?_)<;>simp at hc<;>(try subst hc)))
          all_goals first|(simp;done)|(simp at *;omega)|((try simp[hh,w1,w2,k2,hS0,hS1,hT0,hT1,hJ0,hJ1,hL0,hL1,hS02,hS12,hT02,hT12,hJ02,hJ12,hL02,hL12,hS03,hS13,hT03,hT13,hJ03,hJ13,hL03,hL13]);refine Imp.aut ?_ ?_<;>simp[NLe,hh,w1,w2,k2,hS0,hS1,hT0,hT1,hJ0,hJ1,hL0,hL1,hS02,hS12,hT02,hT12,hJ02,hJ12,hL02,hL12,hS03,hS13,hT03,hT13,hJ03,hJ13,hL03,hL13])
        ·rw[if_pos he]
         simp only[rzC,qzC]at hS⊢;simp only[k2]at htk;unfold m47
         repeat' with_reducible (first|refine ZR.h ?_|refine zI ?_|((first|refine zK hE ?_|refine zM hE ?_);intro K hK;simp[hh,w1,w2,k2,hS0,hS1,hT0,hT1,hJ0,hJ1,hL0,hL1,hmt,htk,he];(repeat' (first|refine hK _ _ ?_|apply And.intro|(intro hc;try subst hc)))<;>(try clear hK K))|(refine zJ (fun hc=>?_) (fun hc=>?_)<;>simp at hc<;>(try subst hc)))
         all_goals first|(simp;done)|(simp at *;omega)|((try simp[hh,w1,w2,k2,hS0,hS1,hT0,hT1,hJ0,hJ1,hL0,hL1,he]);refine Imp.aut ?_ ?_<;>simp[NLe,hh,w1,w2,k2,hS0,hS1,hT0,hT1,hJ0,hJ1,hL0,hL1,he])
      ·have ht:XD Q R=(R,Q):=by unfold XD;rw[if_pos (.inr (.inl (by rw[if_neg w1];exact k2)))]
       rw[ht];simp only[rzC,qzC]at hS⊢;unfold m47
       repeat' with_reducible (first|refine ZR.h ?_|refine zI ?_|((first|refine zK hE ?_|refine zM hE ?_);intro K hK;simp[hS0,hS1,hT0,hT1,hJ0,hJ1,hL0,hL1,hh,w1,k2];(repeat' (first|refine hK _ _ ?_|apply And.intro|(intro hc;try subst hc)))<;>(try clear hK K))|(refine zJ (fun hc=>?_) (fun hc=>?_)<;>simp at hc<;>(try subst hc)))
       all_goals first|(simp;done)|(simp at *;omega)|((try simp[hS0,hS1,hT0,hT1,hJ0,hJ1,hL0,hL1,hh,w1,k2]);refine Imp.aut ?_ ?_<;>simp[NLe,hS0,hS1,hT0,hT1,hJ0,hJ1,hL0,hL1,hh,w1,k2])
   ·cases h
  ·cases h
 ·cases h
def d48:List AV→Option Ans
 | [.op _ r,.op _ q]=>(match Zhm r,ZaZ q with
  | some R,some Q=>if okR R=true∧okQ Q=true∧smQ Q=true∧0≤R.x∧R.x<Q.a*Q.b then some ⟨.tup [],[.cells 0 (rzC (Ty Q R).1),.cells 0 (qzC (Ty Q R).2)]⟩ else none
  | _,_=>none)
 | _=>none
theorem ok48:NOk [(43,true),(13,true)] d48:=by
 intro xs aa h;unfold d48 at h;split at h
 ·rename_i t1 r t2 q
  split at h
  ·rename_i R Q hR hQ
   split at h
   ·rename_i hc
    obtain rfl:=YI hQ;obtain rfl:=Tp hR;injection h with h;subst h;have hok:=hc.2.1;have q8:=(Zp hok).2.2.2.2.2.2.2.1;have q82:=(Zp (zq hok R)).2.2.2.2.2.2.2.1;refine ⟨Zq ?_,?_⟩
    ·simp[Xc Q q8,YK Q q8,YK _ q82,XH,XW]
    ·simp
   ·cases h
  ·cases h
 ·cases h
theorem s48:Sound Tryz.prog 48 (Zi [(43,true),(13,true)] d48 ok48):=by
 refine Zj C48.a C48.b C48.c C48.d ok48 (fun xs a h=>?_) fun xs a h w0 S hS=>?_
 ·unfold d48 at h
  (repeat' (split at h))<;>first|(cases h;done)|exact Nat.le_of_ble_eq_true rfl
 unfold d48 at h;split at h
 ·rename_i t1 r t2 q
  split at h
  ·rename_i R Q hR hQ
   split at h
   ·rename_i hcond
    obtain rfl:=YI hQ;obtain rfl:=Tp hR;injection h with h;subst h;clear hQ hR;have hE:Zb Tryz.prog (EL [(87,rdS d87 ok87),(46,Zi [(13,true)] d46 ok46),(67,Zi [(13,true)] d67 ok67)]):=Zd (by simp only[List.mem_cons,List.not_mem_nil,or_false,forall_eq_or_imp,forall_eq];exact ⟨s87,s46,s67⟩);obtain ⟨hr,hok,hsm,x0',x1'⟩:=hcond;have hS0:=Z7 Q.S;have hS1:=Z6 Q.S;have hT0:=Yd Q.T;have hT1:=Yc Q.T;have hJ0:=Z9 Q.J;have hJ1:=Ya Q.J;obtain ⟨q1,q2,q3,q4,q5,q6,q7,q8,q9⟩:=Zp hok;have hL0:=ZF q8;have hL1:=ZE q8;obtain ⟨r1,r2,r3,r4,r5,r6,p1,p2,p3,p4⟩:=zc hr;obtain ⟨y1,y2,y3,y4,y5,y6⟩:=ya r3;by_cases hh:R.held=false
    ·have ht:Ty Q R=(R,Q):=by unfold Ty;rw[if_pos (.inl hh)]
     rw[ht];simp only[rzC,qzC]at hS⊢;unfold m48
     repeat' with_reducible (first|refine ZR.h ?_|refine zI ?_|((first|refine zK hE ?_|refine zM hE ?_);intro K hK;simp[hS0,hS1,hT0,hT1,hJ0,hJ1,hL0,hL1,hh];(repeat' (first|refine hK _ _ ?_|apply And.intro|(intro hc;try subst hc)))<;>(try clear hK K))|(refine zJ (fun hc=>?_) (fun hc=>?_)<;>simp at hc<;>(try subst hc)))
     all_goals first|(simp;done)|(simp at *;omega)|((try simp[hS0,hS1,hT0,hT1,hJ0,hJ1,hL0,hL1,hh]);refine Imp.aut ?_ ?_<;>simp[NLe,hS0,hS1,hT0,hT1,hJ0,hJ1,hL0,hL1,hh])
    ·have hh:R.held=true:=by simpa using hh
     by_cases hf:R.free=true
     ·have ht:Ty Q R=(R,Q):=by unfold Ty;rw[if_pos (.inr hf)]
      rw[ht];simp only[rzC,qzC]at hS⊢;unfold m48
      repeat' with_reducible (first|refine ZR.h ?_|refine zI ?_|((first|refine zK hE ?_|refine zM hE ?_);intro K hK;simp[hS0,hS1,hT0,hT1,hJ0,hJ1,hL0,hL1,hh,hf];(repeat' (first|refine hK _ _ ?_|apply And.intro|(intro hc;try subst hc)))<;>(try clear hK K))|(refine zJ (fun hc=>?_) (fun hc=>?_)<;>simp at hc<;>(try subst hc)))
      all_goals first|(simp;done)|(simp at *;omega)|((try simp[hS0,hS1,hT0,hT1,hJ0,hJ1,hL0,hL1,hh,hf]);refine Imp.aut ?_ ?_<;>simp[NLe,hS0,hS1,hT0,hT1,hJ0,hJ1,hL0,hL1,hh,hf])
     ·have hf:R.free=false:=by simpa using hf
      by_cases hm:R.made=true
      ·
       have hqy:(if R.made=true then R.q else 0)=R.q:=by rw[hm];rfl
       have hrl:d87 [stA R.sx,.int .i64 (R.q),.int .i64 Q.f] []=some (.tup [stA (Zf R.sx (R.q) Q.f).1,.int .i64 (Zf R.sx (R.q) Q.f).2]):=by
        simp only[d87,stA];rw[if_pos ⟨y3,y4,y5,y6⟩]
       unfold Ty
       rw[if_neg (by simp[hh,hf]),hqy]
       obtain ⟨⟨ts,te⟩,hts⟩:∃ z,Zf R.sx (R.q) Q.f=z:=⟨_,rfl⟩
       rw[hts]at hrl⊢
       simp only[stA]at hrl⊢
       by_cases he:te=0
       ·subst he
        rw[if_neg (by simp)];have htu:=fun u=>e46 hok hsm x0' x1' R.sx ts u;have hok2:=YA hok R.x R.sx ts;obtain ⟨⟨tb,Q2⟩,hq2⟩:∃ z,ZY Q R.x R.sx ts=z:=⟨_,rfl⟩;have hsm2:Zfg Q2=true:=(by have:=UH hsm R.x R.sx ts;rw[hq2]at this;exact this);rw[hq2]at htu hok2⊢;simp only[stA]at htu hok2⊢;have q82:=(Zp hok2).2.2.2.2.2.2.2.1;have hS02:=Z7 Q2.S;have hS12:=Z6 Q2.S;have hT02:=Yd Q2.T;have hT12:=Yc Q2.T;have hJ02:=Z9 Q2.J;have hJ12:=Ya Q2.J;have hL02:=ZF q82;have hL12:=ZE q82;cases tb
        ·rw[if_pos rfl]
         simp only[rzC,qzC]at hS htu⊢;unfold m48
         repeat' with_reducible (first|refine ZR.h ?_|refine zI ?_|((first|refine zK hE ?_|refine zM hE ?_);intro K hK;simp[hh,hf,hm,hS0,hS1,hT0,hT1,hJ0,hJ1,hL0,hL1,hS02,hS12,hT02,hT12,hJ02,hJ12,hL02,hL12,hrl,htu];(repeat' (first|refine hK _ _ ?_|apply And.intro|(intro hc;try subst hc)))<;>(try clear hK K))|(refine zJ (fun hc=>?_) (fun hc=>?_)<;>simp at hc<;>(try subst hc)))
         all_goals first|(simp;done)|(simp at *;omega)|((try simp[hh,hf,hm,hS0,hS1,hT0,hT1,hJ0,hJ1,hL0,hL1,hS02,hS12,hT02,hT12,hJ02,hJ12,hL02,hL12]);refine Imp.aut ?_ ?_<;>simp[NLe,hh,hf,hm,hS0,hS1,hT0,hT1,hJ0,hJ1,hL0,hL1,hS02,hS12,hT02,hT12,hJ02,hJ12,hL02,hL12])
        ·rw[if_neg (by simp)]
         have hnow:Q2.now=Q.now:=(by have:=VR Q R.x R.sx ts;rw[hq2]at this;exact this);by_cases h5:5≤ts.k
         ·rw[if_pos h5]
          have htl:=fun u=>e67 hok2 hsm2 7 R.x ts.g 0 0 0 0 0 ts.k u;have hok3:=X1 hok2 7 R.x ts.g 0 0 0 0 ts.k;obtain ⟨Q3,hq3⟩:∃ z,TK Q2 7 R.x ts.g 0 0 0 0 ts.k=z:=⟨_,rfl⟩;rw[hq3]at htl hok3⊢;have q83:=(Zp hok3).2.2.2.2.2.2.2.1;have hS03:=Z7 Q3.S;have hS13:=Z6 Q3.S;have hT03:=Yd Q3.T;have hT13:=Yc Q3.T;have hJ03:=Z9 Q3.J;have hJ13:=Ya Q3.J;have hL03:=ZF q83;have hL13:=ZE q83;rw[← hnow];simp only[rzC,qzC,evC]at hS htu htl⊢;unfold m48
          repeat' with_reducible (first|refine ZR.h ?_|refine zI ?_|((first|refine zK hE ?_|refine zM hE ?_);intro K hK;simp[hh,hf,hm,hS0,hS1,hT0,hT1,hJ0,hJ1,hL0,hL1,hS02,hS12,hT02,hT12,hJ02,hJ12,hL02,hL12,hS03,hS13,hT03,hT13,hJ03,hJ13,hL03,hL13,hrl,htu,htl,h5];(repeat' (first|refine hK _ _ ?_|apply And.intro|(intro hc;try subst hc)))<;>(try clear hK K))|(refine zJ (fun hc=>?_) (fun hc=>?_)<;>simp at hc<;>(try subst hc)))
          all_goals first|(simp;done)|(simp at *;omega)|((try simp[hh,hf,hm,hS0,hS1,hT0,hT1,hJ0,hJ1,hL0,hL1,hS02,hS12,hT02,hT12,hJ02,hJ12,hL02,hL12,hS03,hS13,hT03,hT13,hJ03,hJ13,hL03,hL13]);refine Imp.aut ?_ ?_<;>simp[NLe,hh,hf,hm,hS0,hS1,hT0,hT1,hJ0,hJ1,hL0,hL1,hS02,hS12,hT02,hT12,hJ02,hJ12,hL02,hL12,hS03,hS13,hT03,hT13,hJ03,hJ13,hL03,hL13])
         ·rw[if_neg h5]
          rw[← hnow];simp only[rzC,qzC]at hS htu⊢;unfold m48
          repeat' with_reducible (first|refine ZR.h ?_|refine zI ?_|((first|refine zK hE ?_|refine zM hE ?_);intro K hK;simp[hh,hf,hm,hS0,hS1,hT0,hT1,hJ0,hJ1,hL0,hL1,hS02,hS12,hT02,hT12,hJ02,hJ12,hL02,hL12,hrl,htu,h5];(repeat' (first|refine hK _ _ ?_|apply And.intro|(intro hc;try subst hc)))<;>(try clear hK K))|(refine zJ (fun hc=>?_) (fun hc=>?_)<;>simp at hc<;>(try subst hc)))
          all_goals first|(simp;done)|(simp at *;omega)|((try simp[hh,hf,hm,hS0,hS1,hT0,hT1,hJ0,hJ1,hL0,hL1,hS02,hS12,hT02,hT12,hJ02,hJ12,hL02,hL12]);refine Imp.aut ?_ ?_<;>simp[NLe,hh,hf,hm,hS0,hS1,hT0,hT1,hJ0,hJ1,hL0,hL1,hS02,hS12,hT02,hT12,hJ02,hJ12,hL02,hL12])
       ·rw[if_pos he]
        simp only[rzC,qzC]at hS⊢;unfold m48
        repeat' with_reducible (first|refine ZR.h ?_|refine zI ?_|((first|refine zK hE ?_|refine zM hE ?_);intro K hK;simp[hh,hf,hm,hS0,hS1,hT0,hT1,hJ0,hJ1,hL0,hL1,hrl,he];(repeat' (first|refine hK _ _ ?_|apply And.intro|(intro hc;try subst hc)))<;>(try clear hK K))|(refine zJ (fun hc=>?_) (fun hc=>?_)<;>simp at hc<;>(try subst hc)))
        all_goals first|(simp;done)|(simp at *;omega)|((try simp[hh,hf,hm,hS0,hS1,hT0,hT1,hJ0,hJ1,hL0,hL1,he]);refine Imp.aut ?_ ?_<;>simp[NLe,hh,hf,hm,hS0,hS1,hT0,hT1,hJ0,hJ1,hL0,hL1,he])
      ·have hm:R.made=false:=by simpa using hm
       have hqy:(if R.made=true then R.q else 0)=0:=(by rw[hm];rfl);have hrl:d87 [stA R.sx,.int .i64 (0),.int .i64 Q.f] []=some (.tup [stA (Zf R.sx (0) Q.f).1,.int .i64 (Zf R.sx (0) Q.f).2]):=by
        simp only[d87,stA];rw[if_pos ⟨y3,y4,y5,y6⟩]
       unfold Ty;rw[if_neg (by simp[hh,hf]),hqy];obtain ⟨⟨ts,te⟩,hts⟩:∃ z,Zf R.sx (0) Q.f=z:=⟨_,rfl⟩;rw[hts]at hrl⊢;simp only[stA]at hrl⊢;by_cases he:te=0
       ·subst he
        rw[if_neg (by simp)];have htu:=fun u=>e46 hok hsm x0' x1' R.sx ts u;have hok2:=YA hok R.x R.sx ts;obtain ⟨⟨tb,Q2⟩,hq2⟩:∃ z,ZY Q R.x R.sx ts=z:=⟨_,rfl⟩;have hsm2:Zfg Q2=true:=(by have:=UH hsm R.x R.sx ts;rw[hq2]at this;exact this);rw[hq2]at htu hok2⊢;simp only[stA]at htu hok2⊢;have q82:=(Zp hok2).2.2.2.2.2.2.2.1;have hS02:=Z7 Q2.S;have hS12:=Z6 Q2.S;have hT02:=Yd Q2.T;have hT12:=Yc Q2.T;have hJ02:=Z9 Q2.J;have hJ12:=Ya Q2.J;have hL02:=ZF q82;have hL12:=ZE q82;cases tb
        ·rw[if_pos rfl]
         simp only[rzC,qzC]at hS htu⊢;unfold m48
         repeat' with_reducible (first|refine ZR.h ?_|refine zI ?_|((first|refine zK hE ?_|refine zM hE ?_);intro K hK;simp[hh,hf,hm,hS0,hS1,hT0,hT1,hJ0,hJ1,hL0,hL1,hS02,hS12,hT02,hT12,hJ02,hJ12,hL02,hL12,hrl,htu];(repeat' (first|refine hK _ _ ?_|apply And.intro|(intro hc;try subst hc)))<;>(try clear hK K))|(refine zJ (fun hc=>?_) (fun hc=>?_)<;>simp at hc<;>(try subst hc)))
         all_goals first|(simp;done)|(simp at *;omega)|((try simp[hh,hf,hm,hS0,hS1,hT0,hT1,hJ0,hJ1,hL0,hL1,hS02,hS12,hT02,hT12,hJ02,hJ12,hL02,hL12]);refine Imp.aut ?_ ?_<;>simp[NLe,hh,hf,hm,hS0,hS1,hT0,hT1,hJ0,hJ1,hL0,hL1,hS02,hS12,hT02,hT12,hJ02,hJ12,hL02,hL12])
        ·rw[if_neg (by simp)]
         have hnow:Q2.now=Q.now:=(by have:=VR Q R.x R.sx ts;rw[hq2]at this;exact this);by_cases h5:5≤ts.k
         ·rw[if_pos h5]
          have htl:=fun u=>e67 hok2 hsm2 7 R.x ts.g 0 0 0 0 0 ts.k u;have hok3:=X1 hok2 7 R.x ts.g 0 0 0 0 ts.k;obtain ⟨Q3,hq3⟩:∃ z,TK Q2 7 R.x ts.g 0 0 0 0 ts.k=z:=⟨_,rfl⟩;rw[hq3]at htl hok3⊢;have q83:=(Zp hok3).2.2.2.2.2.2.2.1;have hS03:=Z7 Q3.S;have hS13:=Z6 Q3.S;have hT03:=Yd Q3.T;have hT13:=Yc Q3.T;have hJ03:=Z9 Q3.J;have hJ13:=Ya Q3.J;have hL03:=ZF q83;have hL13:=ZE q83;rw[← hnow];simp only[rzC,qzC,evC]at hS htu htl⊢;unfold m48
          repeat' with_reducible (first|refine ZR.h ?_|refine zI ?_|((first|refine zK hE ?_|refine zM hE ?_);intro K hK;simp[hh,hf,hm,hS0,hS1,hT0,hT1,hJ0,hJ1,hL0,hL1,hS02,hS12,hT02,hT12,hJ02,hJ12,hL02,hL12,hS03,hS13,hT03,hT13,hJ03,hJ13,hL03,hL13,hrl,htu,htl,h5];(repeat' (first|refine hK _ _ ?_|apply And.intro|(intro hc;try subst hc)))<;>(try clear hK K))|(refine zJ (fun hc=>?_) (fun hc=>?_)<;>simp at hc<;>(try subst hc)))
          all_goals first|(simp;done)|(simp at *;omega)|((try simp[hh,hf,hm,hS0,hS1,hT0,hT1,hJ0,hJ1,hL0,hL1,hS02,hS12,hT02,hT12,hJ02,hJ12,hL02,hL12,hS03,hS13,hT03,hT13,hJ03,hJ13,hL03,hL13]);refine Imp.aut ?_ ?_<;>simp[NLe,hh,hf,hm,hS0,hS1,hT0,hT1,hJ0,hJ1,hL0,hL1,hS02,hS12,hT02,hT12,hJ02,hJ12,hL02,hL12,hS03,hS13,hT03,hT13,hJ03,hJ13,hL03,hL13])
         ·rw[if_neg h5]
          rw[← hnow];simp only[rzC,qzC]at hS htu⊢;unfold m48
          repeat' with_reducible (first|refine ZR.h ?_|refine zI ?_|((first|refine zK hE ?_|refine zM hE ?_);intro K hK;simp[hh,hf,hm,hS0,hS1,hT0,hT1,hJ0,hJ1,hL0,hL1,hS02,hS12,hT02,hT12,hJ02,hJ12,hL02,hL12,hrl,htu,h5];(repeat' (first|refine hK _ _ ?_|apply And.intro|(intro hc;try subst hc)))<;>(try clear hK K))|(refine zJ (fun hc=>?_) (fun hc=>?_)<;>simp at hc<;>(try subst hc)))
          all_goals first|(simp;done)|(simp at *;omega)|((try simp[hh,hf,hm,hS0,hS1,hT0,hT1,hJ0,hJ1,hL0,hL1,hS02,hS12,hT02,hT12,hJ02,hJ12,hL02,hL12]);refine Imp.aut ?_ ?_<;>simp[NLe,hh,hf,hm,hS0,hS1,hT0,hT1,hJ0,hJ1,hL0,hL1,hS02,hS12,hT02,hT12,hJ02,hJ12,hL02,hL12])
       ·rw[if_pos he]
        simp only[rzC,qzC]at hS⊢;unfold m48
        repeat' with_reducible (first|refine ZR.h ?_|refine zI ?_|((first|refine zK hE ?_|refine zM hE ?_);intro K hK;simp[hh,hf,hm,hS0,hS1,hT0,hT1,hJ0,hJ1,hL0,hL1,hrl,he];(repeat' (first|refine hK _ _ ?_|apply And.intro|(intro hc;try subst hc)))<;>(try clear hK K))|(refine zJ (fun hc=>?_) (fun hc=>?_)<;>simp at hc<;>(try subst hc)))
        all_goals first|(simp;done)|(simp at *;omega)|((try simp[hh,hf,hm,hS0,hS1,hT0,hT1,hJ0,hJ1,hL0,hL1,he]);refine Imp.aut ?_ ?_<;>simp[NLe,hh,hf,hm,hS0,hS1,hT0,hT1,hJ0,hJ1,hL0,hL1,he])
   ·cases h
  ·cases h
 ·cases h
end Go.W
