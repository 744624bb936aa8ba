/- A part of the proofs about the pair's laws (RaO, RaP). -/
import Derived.Test.YtidbbnkpglggdaaGreatSbA
import Derived.Test.YtidbbnkpglggdaaGreatSbE
import Derived.Test.YtidbbnkpglggdaaGreatRaM
import Derived.Test.YtidbbnkpglggdaaGreatRaF
import Derived.Test.YtidbbnkpglggdaaGreatPyJ
import Derived.Test.YtidbbnkpglggdaaGreatPyE
namespace Go.W
open Go.Proofs
set_option linter.unusedSimpArgs false
set_option linter.unusedVariables false
set_option maxHeartbeats 8000000
attribute [local irreducible] Wm
attribute [local simp] Y5 lkp VW prs Uv prT ddL idL YN Um Ren Vt NObj.none Z4
theorem ZdQ {c:List AV} (h:row14 c=true):∃ x0 x1 x2 x3 x4 x5 x6 x7 x8 x9 xa xb xc xd:Int,c=[.int .i64 x0,.int .i64 x1,.int .i64 x2,.int .i64 x3,.int .i64 x4,.int .i64 x5,.int .i64 x6,.int .i64 x7,.int .i64 x8,.int .i64 x9,.int .i64 xa,.int .i64 xb,.int .i64 xc,.int .i64 xd]:=by
 simp only[row14,Bool.and_eq_true,decide_eq_true_eq]at h;obtain ⟨h1,h2⟩:=h;have hx:∀ r:List AV,ZdZ r=true→∃ l:List Int,r=l.map (AV.int .i64):=by
  intro r
  induction r with
  | nil=>exact fun _=>⟨[],rfl⟩
  | cons v r ih =>
   intro h;simp only[ZdZ,List.all_cons,Bool.and_eq_true]at h;obtain ⟨l,hl⟩:=ih h.2;have hv:=h.1;split at hv
   ·rename_i x
    exact ⟨x :: l,by rw[hl];rfl⟩
   ·cases hv
 obtain ⟨l,rfl⟩:=hx c h1;rw[List.length_map]at h2
 match l,h2 with
 | [x0,x1,x2,x3,x4,x5,x6,x7,x8,x9,xa,xb,xc,xd],_=>exact ⟨x0,x1,x2,x3,x4,x5,x6,x7,x8,x9,xa,xb,xc,xd,rfl⟩
def JA (W:WZ) (Q:QZ) (pl:List (List AV)) (L i:Nat):St:=⟨[(0,.ptr (.top 0) 0 0),(1,.ptr (.top 1) 0 0),(5,.sl (.top 2) 0 L),(53,.sl (.top 3) 0 L),(54,.int .i64 L),(55,.int .i64 i)],[(0,.cells 0 (wzC W)),(1,.cells 0 (qzC Q)),(2,.arr 0 1 W.ws),(3,.arr 0 4 pl)],4⟩
def JB (W:WZ) (Q:QZ) (L i:Nat):St:=⟨[(1,.ptr (.top 1) 0 0),(120,.sl (.sub (.top 0) 0 0 9) 0 L),(121,.int .i64 L),(122,.int .i64 i)],[(0,.cells 0 (wzC W)),(1,.cells 0 (qzC Q))],2⟩
open Classical in
noncomputable def d15:List AV→Option Ans
 | [.op _ w,.op _ q]=>(match xM w,ZaZ q with
  | some W,some Q=>if Sim W Q∧smW W=true∧smQ Q=true then some ⟨.bool true,[.cells 0 (wzC W),.cells 0 (qzC Q)]⟩ else none
  | _,_=>none)
 | _=>none
theorem ok15:NOk [(10,true),(13,true)] d15:=by
 intro xs aa h;unfold d15 at h;split at h
 ·rename_i t1 w t2 q
  split at h
  ·rename_i W Q hW hQ
   split at h
   ·rename_i hc
    obtain ⟨u1,u2,u3,u4,rfl⟩:=Z1 hW;obtain rfl:=YI hQ;injection h with h;subst h;have hok:=hc.1.okq;have q8:=(Zp hok).2.2.2.2.2.2.2.1;obtain ⟨hcf,hw,hwl,hs0,ht0,ht1,hlg⟩:=Zl hc.1.okw;have hT:=ZZ hw;have hC:=Z0 hw;have hTl:=ZF hlg;have hCl:=ZE hlg;have hz1:=ym hc.1.okw;refine ⟨Zq ?_,?_⟩
    ·simp[Xc Q q8,YK Q q8,wzL,hT,hC,hTl,hCl,hz1]
    ·simp
   ·cases h
  ·cases h
 ·cases h
theorem s15:Sound Tryz.prog 15 (Zi [(10,true),(13,true)] d15 ok15):=by
 refine Zj C15.a C15.b C15.c C15.d ok15 (fun xs a h=>?_) fun xs a h w0 S hS=>?_
 ·unfold d15 at h
  (repeat' (split at h))<;>first|(cases h;done)|exact Nat.le_of_ble_eq_true rfl
 unfold d15 at h;split at h
 ·rename_i t1 w t2 q
  split at h
  ·rename_i W Q hW hQ
   split at h
   ·rename_i hcond
    obtain ⟨u1,u2,u3,u4,rfl⟩:=Z1 hW;obtain rfl:=YI hQ;injection h with h;subst h;clear hQ hW;have hE:Zb Tryz.prog (EL [(55,Zi [(7,false)] d55 ok55),(56,rdS d56 ok56),(57,Zi [(1,false)] d57 ok57),(58,rdS d58 ok58),(59,rdS d59 ok59),(60,rdS d60 ok60),(61,Zi [(13,false)] d61 ok61)]):=Zd (by simp only[List.mem_cons,List.not_mem_nil,or_false,forall_eq_or_imp,forall_eq];exact ⟨s55,s56,s57,s58,s59,s60,s61⟩);obtain ⟨sim,hsm,hsq⟩:=hcond;have hok:=sim.okq;have hwk:=sim.okw;obtain ⟨pa,pb,pc,pd,pf,pg⟩:=sim.par;have hS0:=Z7 Q.S;have hS1:=Z6 Q.S;have hT0:=Yd Q.T;have hT1:=Yc Q.T;have hJ0:=Z9 Q.J;have hJ1:=Ya Q.J;obtain ⟨q1,q2,q3,q4,q5,q6,q7,q8,q9⟩:=Zp hok;have hL0:=ZF q8;have hL1:=ZE q8;obtain ⟨hcf,hw,hwl,hs0,ht0,ht1,hlg⟩:=Zl hwk;have hT:=ZZ hw;have hC:=Z0 hw;have hTl:=ZF hlg;have hCl:=ZE hlg;have hm:=of_decide_eq_true hsm;have hcx:=ZH hcf;have hall:=ZJ hcf;have hwd:=Yl (f:=W.f) (g:=W.g) (show 0≤W.a*W.b by omega) hall.2 (by omega) (by omega);obtain ⟨n,hn⟩:∃ n:Nat,W.a*W.b=n:=⟨(W.a*W.b).toNat,by omega⟩;have q2':(Q.S.length:Int)=n:=(by rw[q2,pa,pb,hn]);have q3':(Q.T.length:Int)=n:=(by rw[q3,pa,pb,hn]);have q4':(Q.J.length:Int)=n:=(by rw[q4,pa,pb,hn]);obtain ⟨G,hG⟩:∃ G:Nat,W.g=G:=⟨W.g.toNat,by omega⟩;obtain ⟨M,hM⟩:∃ M:Nat,W.f+1=M:=⟨(W.f+1).toNat,by omega⟩;have hplz:pkZ (Q.a*Q.b).toNat Q.g.toNat (Q.f+1).toNat=pkB n G M (n*G*M):=by
     rw[pa,pb,pg,pf,hn,hG,hM]
     rfl
    have hLn:W.ws.length=2*n+n*G*M:=by
     rw[hwl,hn,hG,hM];have:((n:Int)*2+(n:Int)*G*M)=((2*n+n*G*M:Nat):Int):=by
      rw[Int.natCast_add,Int.natCast_mul,Int.natCast_mul,Int.natCast_mul];omega
     rw[this];rfl
    obtain ⟨L,hL⟩:∃ L,W.ws.length=L:=⟨_,rfl⟩;have hL24:1≤L∧L≤8192:=(by omega);have h55:∀ u1 u2 s,d55 [.op u1 [.os u2 1 W.ws,.int .i64 s,.bot,.bot,.bot,.bot,.bot]]=some ⟨.os 0 1 W.ws,[.free]⟩:=fun u1 u2 s=>by
     simp only[d55];rw[if_pos ⟨hw,by omega,by omega⟩]
    have h56:d56 [.agg [.int .i64 Q.a,.int .i64 Q.b,.int .i64 Q.c,.int .i64 Q.d,.int .i64 Q.e,.int .i64 Q.f,.int .i64 Q.g]] []=some (.os 0 4 (pkB n G M (n*G*M))):=by
     simp only[d56];rw[if_pos q1,hplz]
    have hpl:=ZcC n G M (n*G*M);rw[← hLn,hL]at hpl;have hpt:=Zfc n G M (n*G*M);have hpc:=Zfj n G M (n*G*M);have hpd:=ZgA n G M (n*G*M);have hwdt:=Zcu hw;have hlgE:=sim.lg;have hnow:=sim.now;have atA:∀ k:Nat,k<n→(pkB n G M (n*G*M))[2*k]?=some [.int .i64 1,.int .i64 (k:Int),.int .i64 0,.int .i64 0]∧(pkB n G M (n*G*M))[2*k+1]?=some [.int .i64 2,.int .i64 (k:Int),.int .i64 0,.int .i64 0]:=fun k hk=>by
     unfold pkB;rw[List.getElem?_append_left (by rw[To];omega),List.getElem?_append_left (by rw[To];omega)];unfold pkA;rw[List.getElem?_map,List.getElem?_map,List.getElem?_range (by omega),List.getElem?_range (by omega)];simp only[Option.map_some,pk1];rw[show 2*k % 2=0 by omega,show 2*k / 2=k by omega,show (2*k+1) % 2=1 by omega,show (2*k+1) / 2=k by omega];exact ⟨rfl,rfl⟩
    have atB:∀ k:Nat,k<n*G*M→(pkB n G M (n*G*M))[2*n+k]?=some (pkD G M k):=fun k hk=>by
     unfold pkB;rw[List.getElem?_append_right (by rw[To];omega),To,List.getElem?_map,show 2*n+k - 2*n=k by omega,List.getElem?_range hk]
     rfl
    obtain ⟨pl,hple⟩:∃ pl,pkB n G M (n*G*M)=pl:=⟨_,rfl⟩;rw[hple]at hpl hpt hpc hpd atA atB h56;rw[hL]at hLn;simp only[qzC,wzL,wzC]at hS⊢;unfold m15
    repeat' with_reducible (first|refine ZR.h ?_|refine zI ?_|((first|refine zK hE ?_|refine zM hE ?_);intro K hK;simp[hS0,hS1,hT0,hT1,hJ0,hJ1,hL0,hL1,hT,hC,hTl,hCl,hL,hpl,hlgE,hnow,h55,h56,hpt,hpc,hpd,hwdt,ht0,ht1,d57];(repeat' (first|refine hK _ _ ?_|apply And.intro|(intro hc;try subst hc)))<;>(try clear hK K))|(refine zJ (fun hc=>?_) (fun hc=>?_)<;>simp at hc<;>(try subst hc)))
    all_goals (refine YJ (fun i=>JA W Q pl L i) (fun i=>i≤L) (fun i=>L - i) 0 (Nat.zero_le _) ?_ ?_)
    ·simp only[JA,wzC,qzC]
     rw[hS]
     (refine Imp.aut ?_ ?_<;>simp[NLe,ZM,hS0,hS1,hT0,hT1,hJ0,hJ1,hL0,hL1,hT,hC,hTl,hCl,hpt,hpc,hL,hpl,hlgE,hnow])
    ·intro i hi
     replace hi:i≤L:=hi;have hw0:=Zas hwk;have hw1:=ym hwk;by_cases hiL:i<L
     ·have wk1:IntKind.wrap .i64 ((i:Int)+1)=(i:Int)+1:=Zh (by omega) (by omega)
      have hat:=ZfU hw (i:=i) (by omega);have hate:=YL hat.1;have hb:=hat.2;have hiW:i<W.ws.length:=(by omega);by_cases hA:i<2*n
      ·obtain ⟨k,hk⟩:∃ k,k=i / 2:=⟨_,rfl⟩
       have hkn:k<n:=(by omega);have hkI:(k:Int)<W.a*W.b:=(by omega);have st:=sim.st k (by omega) hkI;have tm:=sim.tm k (by omega) hkI;rw[show ((k:Nat):Int).toNat=k by omega]at st tm;have hkS:k<Q.S.length:=(by omega);have hkT:k<Q.T.length:=(by omega);have hsl:=UF Q.S;have htl:=Zaz Q.T;have gs:=Tt st;have gt:=vW tm;have gse:=YL gs;have gte:=YL gt;by_cases h2:i=2*k
       ·have row:=(atA k hkn).1
        rw[← h2]at row;have rowe:=YL row;have e:Za (wAt W.ws i)=stW W k:=(by unfold stW sAt;rw[show (2*(k:Int)).toNat=i by omega]);have h58:d58 [.int .u64 (wAt W.ws i)] []=some (stA (stW W k)):=(by simp only[d58];rw[if_pos hb,e]);obtain ⟨⟨ck,cf,cg,cl,cx⟩,hss⟩:∃ s,stW W k=s:=⟨_,rfl⟩;rw[hss]at h58 gs gse;simp only[stA,stL]at h58 gs gse;simp only[JA,qzC,wzC]
        repeat' with_reducible (first|refine ZR.h ?_|refine zI ?_|((first|refine zK hE ?_|refine zM hE ?_);intro K hK;simp[hS0,hS1,hT0,hT1,hJ0,hJ1,hL0,hL1,hT,hC,hTl,hCl,hpt,hpc,hiL,hiW,hL,hpl,hkS,hsl,row,rowe,hat.1,hate,h58,gs,gse,wk1,d57];(repeat' (first|refine hK _ _ ?_|apply And.intro|(intro hc;try subst hc)))<;>(try clear hK K))|(refine zJ (fun hc=>?_) (fun hc=>?_)<;>simp at hc<;>(try subst hc)))
        all_goals refine ⟨i+1,hiL,Nat.sub_lt_sub_left hiL (Nat.lt_succ_self i),?_⟩
        all_goals rw[hS]
        all_goals simp only[JA,qzC,wzC]
        all_goals (refine Imp.aut ?_ ?_<;>simp[NLe,ZM,hS0,hS1,hT0,hT1,hJ0,hJ1,hL0,hL1,hT,hC,hTl,hCl,hpt,hpc])
       ·have row:=(atA k hkn).2
        rw[show 2*k+1=i by omega]at row;have rowe:=YL row;have e:Yg (wAt W.ws i)=tmW W k:=(by unfold tmW tAt;rw[show (2*(k:Int)+1).toNat=i by omega]);have h59:d59 [.int .u64 (wAt W.ws i)] []=some (tmA (tmW W k)):=(by simp only[d59];rw[if_pos hb,e]);obtain ⟨⟨ck,cf,cg,cl,cx⟩,hss⟩:∃ s,tmW W k=s:=⟨_,rfl⟩;rw[hss]at h59 gt gte;simp only[tmA,tmC]at h59 gt gte;simp only[JA,qzC,wzC]
        repeat' with_reducible (first|refine ZR.h ?_|refine zI ?_|((first|refine zK hE ?_|refine zM hE ?_);intro K hK;simp[hS0,hS1,hT0,hT1,hJ0,hJ1,hL0,hL1,hT,hC,hTl,hCl,hpt,hpc,hiL,hiW,hL,hpl,hkT,htl,row,rowe,hat.1,hate,h59,gt,gte,wk1,d57];(repeat' (first|refine hK _ _ ?_|apply And.intro|(intro hc;try subst hc)))<;>(try clear hK K))|(refine zJ (fun hc=>?_) (fun hc=>?_)<;>simp at hc<;>(try subst hc)))
        all_goals refine ⟨i+1,hiL,Nat.sub_lt_sub_left hiL (Nat.lt_succ_self i),?_⟩
        all_goals rw[hS]
        all_goals simp only[JA,qzC,wzC]
        all_goals (refine Imp.aut ?_ ?_<;>simp[NLe,ZM,hS0,hS1,hT0,hT1,hJ0,hJ1,hL0,hL1,hT,hC,hTl,hCl,hpt,hpc])
      ·obtain ⟨j,hj⟩:∃ j,i=2*n+j:=⟨i - 2*n,by omega⟩
       have hjn:j<n*G*M:=(by omega);have row:=atB j hjn;rw[← hj]at row;have M0:0<M:=(by omega);have G0:0<G:=(by omega);have x0:j / M / G<n:=Nat.div_lt_of_lt_mul (by rw[Nat.mul_comm];exact Nat.div_lt_of_lt_mul (by rw[Nat.mul_comm];exact hjn));have g0:j / M % G<G:=Nat.mod_lt _ G0;have n0:j % M<M:=Nat.mod_lt _ M0;have ej:(j / M / G*G+j / M % G)*M+j % M=j:=(by rw[Nat.mul_comm _ G,Nat.div_add_mod,Nat.mul_comm _ M,Nat.div_add_mod]);unfold pkD at row;obtain ⟨x,hx⟩:∃ x,j / M / G=x:=⟨_,rfl⟩;obtain ⟨q,hq⟩:∃ x,j / M % G=x:=⟨_,rfl⟩;obtain ⟨r,hr⟩:∃ x,j % M=x:=⟨_,rfl⟩;rw[hx,hq,hr]at row ej;rw[hx]at x0;rw[hq]at g0;rw[hr]at n0;have rowe:=YL row;have xI:(x:Int)<W.a*W.b:=(by omega);obtain ⟨l,hl1,hl2⟩:=sim.jn x ((q:Int)+1) r (by omega) xI (by omega) (by omega) (by omega) (by omega);have esl:(ZT W.a W.b W.f W.g x ((q:Int)+1) r).toNat=i:=by
        rw[TU (by omega) xI (by omega) (by omega) (by omega) (by omega),hn,hG,hM];have e2:(n:Int)*2+((x:Int)*G+((q:Int)+1) - 1)*M+r=((2*n+((x*G+q)*M+r):Nat):Int):=by
         rw[show (x:Int)*G+((q:Int)+1) - 1=(x:Int)*G+q by omega,Int.natCast_add,Int.natCast_add,Int.natCast_mul,Int.natCast_mul,Int.natCast_add,Int.natCast_mul];omega
        rw[e2,ej,← hj];rfl
       rw[esl]at hl2;obtain ⟨l',hl',z1,z2,z3⟩:=Zel hok (x:=x) (gn:=(q:Int)+1) (n:=r) (by omega) (by rw[pa,pb];exact xI) (by omega) (by rw[pg];omega) (by omega) (by rw[pf];omega);rw[hl1]at hl';injection hl' with hl';subst hl';have ejs:VP Q ((q:Int)+1) r=((q:Int)+1 - 1)*(W.f+1)+r:=(by unfold VP;rw[pf]);rw[← ejs]at hl2;have h61:∀ u,d61 [.op u (qzC Q),.int .i64 ((q:Int)+1),.int .i64 r]=some ⟨.int .i64 (VP Q ((q:Int)+1) r),[.free]⟩:=fun u=>e61 hok (by omega) (by rw[pg];omega) (by omega) (by rw[pf];omega) u;obtain ⟨K,hK⟩:=Int.eq_ofNat_of_zero_le z1;rw[hK]at h61 hl2 z2;rw[show ((x:Nat):Int).toNat=x by omega]at hl1;rw[show ((K:Nat):Int).toNat=K by omega]at hl2;have gj:=ZfG hl1;have gje:=YL gj;have hjl:=ZfC Q.J;have hrl:=Zfy l;have hr0:=ZdJ l;have hr1:=ZfN l;have gr:=Zfe hl2;have gre:=YL gr;have hxJ:x<Q.J.length:=(by omega);have hKl:K<l.length:=(by omega);have h60:d60 [.int .u64 (wAt W.ws i)] []=some (rcA (X8 (wAt W.ws i))):=(by simp only[d60];rw[if_pos hb]);obtain ⟨⟨ck,cf,cg,cl,cx,cy⟩,hss⟩:∃ s,X8 (wAt W.ws i)=s:=⟨_,rfl⟩;rw[hss]at h60 gr gre;simp only[rcA,rcL]at h60 gr gre;simp only[qzC]at h61;simp only[JA,qzC,wzC]
       repeat' with_reducible (first|refine ZR.h ?_|refine zI ?_|((first|refine zK hE ?_|refine zM hE ?_);intro K hK;simp[hS0,hS1,hT0,hT1,hJ0,hJ1,hL0,hL1,hT,hC,hTl,hCl,hpt,hpc,hiL,hiW,hL,hpl,hxJ,hKl,hjl,hrl,hr0,hr1,row,rowe,hat.1,hate,h60,h61,gj,gje,gr,gre,wk1,d57];(repeat' (first|refine hK _ _ ?_|apply And.intro|(intro hc;try subst hc)))<;>(try clear hK K))|(refine zJ (fun hc=>?_) (fun hc=>?_)<;>simp at hc<;>(try subst hc)))
       all_goals refine ⟨i+1,hiL,Nat.sub_lt_sub_left hiL (Nat.lt_succ_self i),?_⟩
       all_goals rw[hS]
       all_goals simp only[JA,qzC,wzC]
       all_goals (refine Imp.aut ?_ ?_<;>simp[NLe,ZM,hS0,hS1,hT0,hT1,hJ0,hJ1,hL0,hL1,hT,hC,hTl,hCl,hpt,hpc])
     ·have hie:i=L:=by omega
      subst hie;simp only[JA,qzC,wzC]
      repeat' with_reducible (first|refine ZR.h ?_|refine zI ?_|((first|refine zK hE ?_|refine zM hE ?_);intro K hK;simp[hS0,hS1,hT0,hT1,hJ0,hJ1,hL0,hL1,hT,hC,hTl,hCl,hpt,hpc,d57];(repeat' (first|refine hK _ _ ?_|apply And.intro|(intro hc;try subst hc)))<;>(try clear hK K))|(refine zJ (fun hc=>?_) (fun hc=>?_)<;>simp at hc<;>(try subst hc)))
      all_goals (refine YJ (fun j=>JB W Q W.lg.length j) (fun j=>j≤W.lg.length) (fun j=>W.lg.length - j) 0 (Nat.zero_le _) ?_ ?_)
      ·simp only[JB,wzC,qzC]
       rw[hS]
       (refine Imp.aut ?_ ?_<;>simp[NLe,ZM,hS0,hS1,hT0,hT1,hJ0,hJ1,hL0,hL1,hT,hC,hTl,hCl])
      ·intro j hj
       replace hj:j≤W.lg.length:=hj;by_cases hjL:j<W.lg.length
       ·have wk1:IntKind.wrap .i64 ((j:Int)+1)=(j:Int)+1:=Zh (by omega) (by omega)
        obtain ⟨r,hr⟩:∃ r,W.lg[j]?=some r:=⟨_,List.getElem?_eq_getElem hjL⟩;have hrr:=List.all_eq_true.1 hlg r (List.mem_of_getElem? hr);have hr2:Q.lg[j]?=some r:=(by rw[hlgE];exact hr);have hjQ:j<Q.lg.length:=(by rw[hlgE];exact hjL);obtain ⟨x0,x1,x2,x3,x4,x5,x6,x7,x8,x9,xa,xb,xc,xd,rfl⟩:=ZdQ hrr;have hre:=YL hr;have hr2e:=YL hr2;simp only[JB,qzC,wzC]
        repeat' with_reducible (first|refine ZR.h ?_|refine zI ?_|((first|refine zK hE ?_|refine zM hE ?_);intro K hK;simp[hS0,hS1,hT0,hT1,hJ0,hJ1,hL0,hL1,hT,hC,hTl,hCl,hjL,hjQ,hr,hre,hr2,hr2e,wk1,d57];(repeat' (first|refine hK _ _ ?_|apply And.intro|(intro hc;try subst hc)))<;>(try clear hK K))|(refine zJ (fun hc=>?_) (fun hc=>?_)<;>simp at hc<;>(try subst hc)))
        all_goals refine ⟨j+1,hjL,Nat.sub_lt_sub_left hjL (Nat.lt_succ_self j),?_⟩
        all_goals rw[hS]
        all_goals simp only[JB,qzC,wzC]
        all_goals (refine Imp.aut ?_ ?_<;>simp[NLe,ZM,hS0,hS1,hT0,hT1,hJ0,hJ1,hL0,hL1,hT,hC,hTl,hCl])
       ·have hje:j=W.lg.length:=by omega
        subst hje;simp only[JB,qzC,wzC]
        repeat' with_reducible (first|refine ZR.h ?_|refine zI ?_|((first|refine zK hE ?_|refine zM hE ?_);intro K hK;simp[hS0,hS1,hT0,hT1,hJ0,hJ1,hL0,hL1,hT,hC,hTl,hCl,d57];(repeat' (first|refine hK _ _ ?_|apply And.intro|(intro hc;try subst hc)))<;>(try clear hK K))|(refine zJ (fun hc=>?_) (fun hc=>?_)<;>simp at hc<;>(try subst hc)))
        all_goals (try simp)
        all_goals (refine Imp.aut ?_ ?_<;>simp[NLe,ZM,hS0,hS1,hT0,hT1,hJ0,hJ1,hL0,hL1,hT,hC,hTl,hCl])
   ·cases h
  ·cases h
 ·cases h
theorem e15 {W:WZ} {Q:QZ} (h:Sim W Q) (h1:smW W=true) (h2:smQ Q=true) (u v:Nat):d15 [.op u (wzC W),.op v (qzC Q)]=some ⟨.bool true,[.cells 0 (wzC W),.cells 0 (qzC Q)]⟩:=by
 simp only[d15,show xM (wzC W)=some W from rfl,Uq];rw[if_pos ⟨h,h1,h2⟩]
noncomputable def ELp:List (FuncId×Spec):=[(5,Zi [(10,false)] d5 ok5),(6,Zi [] d6 ok6),(7,Zi [] d7 ok7),(8,Zi [(7,false)] d8 ok8),(9,Zi [(35,true),(10,true)] d9 ok9),(10,Zi [(43,true),(13,true)] d10 ok10),(11,Zi [(35,false)] d11 ok11),(12,Zi [(35,false)] d12 ok12),(13,Zi [(1,true),(1,false)] d13 ok13),(14,Zi [(10,true),(13,true)] d14 ok14),(15,Zi [(10,true),(13,true)] d15 ok15)]
theorem Zch:Zb Tryz.prog (EL ELp):=Zd (by
 simp only[ELp,List.mem_cons,List.not_mem_nil,or_false,forall_eq_or_imp,forall_eq];exact ⟨s5,s6,s7,s8,s9,s10,s11,s12,s13,s14,s15⟩)
def rrs (Ts:List TZ):List (List AV):=Ts.map fun T=>[.op 0 (rzC (rOf T))]
theorem UB (Ts:List TZ):(rrs Ts).length=Ts.length:=by unfold rrs;rw[List.length_map]
theorem ZcQ {Ts:List TZ} {k:Nat} {T:TZ} (h:Ts[k]?=some T):(rrs Ts)[k]?=some [.op 0 (rzC (rOf T))]:=by unfold rrs;rw[List.getElem?_map,h];rfl
theorem yi (Ts:List TZ):ZG (rrs Ts)=rrs Ts:=ZaS fun c hc=>by
 obtain ⟨T,_,rfl⟩:=List.mem_map.1 hc;simp[t0L,AV.t0,XH]
theorem vS (Ts:List TZ):Yp (rrs Ts)=true:=ZaR fun c hc=>by
 obtain ⟨T,_,rfl⟩:=List.mem_map.1 hc;simp[clL,AV.cl,XW]
theorem rz_tl (n:Nat) (R:RZ):tlL n (rzC R)=true:=by simp[rzC,tlL,AV.tl]
theorem ZhT {n:Nat} (hn:0<n) (Ts:List TZ):UD n (rrs Ts)=true:=by
 induction Ts with
 | nil=>rfl
 | cons T r ih =>
  show (tlL n [.op 0 (rzC (rOf T))]&&UD n (rrs r))=true;rw[ih];simp[tlL,AV.tl,rz_tl,hn]
theorem Zgt (Ts:List TZ) (k u:Nat) (T:TZ):ZG ((rrs Ts).set k [.op u (rzC (rOf T))])=rrs (Ts.set k T):=by
 rw[xN,yi];have:t0L [AV.op u (rzC (rOf T))]=[.op 0 (rzC (rOf T))]:=by simp[t0L,AV.t0,XH]
 rw[this];unfold rrs;rw[List.map_set]
theorem ZfT {Ts:List TZ} {k:Nat} (h:Ts.length=k) (r:List AV):(rrs Ts++[r])[k]?=some r:=by
 rw[List.getElem?_append_right (by rw[UB];omega),UB];simp[h]
theorem ZgU {Ts:List TZ} {k:Nat} (h:Ts.length=k) (r:List AV) (u:Nat) (T:TZ):ZG ((rrs Ts++[r]).set k [.op u (rzC (rOf T))])=rrs (Ts++[T]):=by
 have e:(rrs Ts++[r]).set k [.op u (rzC (rOf T))]=rrs Ts++[[.op u (rzC (rOf T))]]:=by
  rw[List.set_append_right _ _ (by rw[UB];omega),UB,h];simp
 rw[e];have e2:∀ l:List (List AV),∀ x:List AV,ZG (l++[x])=ZG l++[t0L x]:=by
  intro l x
  induction l with
  | nil=>rfl
  | cons y l ih=>show t0L y :: ZG (l++[x])=_;rw[ih];rfl
 rw[e2,yi];have:t0L [AV.op u (rzC (rOf T))]=[.op 0 (rzC (rOf T))]:=by simp[t0L,AV.t0,XH]
 rw[this];unfold rrs;rw[List.map_append];rfl
def KA (am ac:List (List AV)) (W:WZ) (Q:QZ) (k:Nat):St:=⟨[(3,.sl (.top 2) 0 ac.length),(9,.ptr (.top 3) 0 0),(10,.ptr (.top 4) 0 0),(12,.sl (.top 5) 0 k),(13,.sl (.top 6) 0 k),(37,.sl (.top 1) 0 am.length),(38,.int .i64 am.length),(39,.int .i64 k)],[(1,.view 0 5 am),(2,.view 0 2 ac),(3,.cells 0 (wzC W)),(4,.cells 0 (qzC Q)),(5,.arr 0 1 (trs (tAm am k))),(6,.arr 0 1 (rrs (tAm am k)))],7⟩
def KB (ac:List (List AV)) (n:Nat) (W:WZ) (Q:QZ) (Ts:List TZ) (i:Nat):St:=⟨[(9,.ptr (.top 3) 0 0),(10,.ptr (.top 4) 0 0),(12,.sl (.top 5) 0 n),(13,.sl (.top 6) 0 n),(55,.sl (.top 2) 0 ac.length),(56,.int .i64 ac.length),(57,.int .i64 i)],[(2,.view 0 2 ac),(3,.cells 0 (wzC W)),(4,.cells 0 (qzC Q)),(5,.arr 0 1 (trs Ts)),(6,.arr 0 1 (rrs Ts))],7⟩
def KS (ac:List (List AV)) (n:Nat) (W:WZ) (Q:QZ) (Ts:List TZ) (i:Nat) (s0:Int) (K:Nat) (u0:Int):St:=⟨[(9,.ptr (.top 3) 0 0),(10,.ptr (.top 4) 0 0),(12,.sl (.top 5) 0 n),(13,.sl (.top 6) 0 n),(18,.int .i64 s0),(19,.int .i64 K),(20,.int .i64 u0),(55,.sl (.top 2) 0 ac.length),(56,.int .i64 ac.length),(57,.int .i64 i)],[(2,.view 0 2 ac),(3,.cells 0 (wzC W)),(4,.cells 0 (qzC Q)),(5,.arr 0 1 (trs Ts)),(6,.arr 0 1 (rrs Ts))],7⟩
theorem Zhe (W:WZ) (T:TZ):W.s≤(ZC W T).2.s:=by
 have:=yY W T;omega
theorem ZcW (W:WZ) (x:Int):W.s≤(ZD W x).s:=by
 unfold ZD
 repeat' split
 ·have h1:=Xo (ZO W) x (sAt W x) (Zn (stW W x)).1
  have h2:(ZO W).s=W.s+1:=rfl;omega
 ·show W.s≤W.s+1
  omega
 ·omega
section
variable {w0:World} {S:Sc} {Q_:Exit→St→Prop}
set_option maxRecDepth 20000 in
theorem w3B (hS:S.m=3) (hQ:∀ hl nb,Q_ .ret ⟨[(8,.bool true)],hl,nb⟩) {ac:List (List AV)} {n:Nat} {W:WZ} {Q:QZ} {Ts:List TZ} (hJ:ZcK W Q Ts∧Ts.length=n) (hn6:n≤6) (hac:ac.all Zc1=true) (hna:ac.length≤9223372036854775807) (hs:W.s≤48∧Q.u≤W.s∧W.lg.length=0) :
  Wm Tryz.prog w0 S Tryz.f3.ntmps [] (.loop (.seq (.reg q3_13) (.seq (.cond (.t 58) .skip (.exit 2)) (.seq (.block 3 (.seq (.reg q3_14) (.seq (.seq (.reg q3_15) (.cond (.t 63) (.exit 2) .skip)) (.seq (.reg q3_16) (.seq (.block 4 (.seq (.reg q3_17) (.cond (.t 69) (.seq (.reg q3_18) (.seq (.reg q3_19) (.seq (.reg q3_20) (.seq (.reg q3_21) (.seq (.draw q3_22 p3_22) (.cond (.t 156) (.seq (.reg q3_23) .ret) .skip)))))) (.seq (.reg q3_24) (.cond (.t 157) (.seq (.reg q3_25) (.reg q3_26)) (.seq (.reg q3_27) (.cond (.t 174) (.reg q3_28) .skip))))))) (.seq (.draw q3_29 p3_29) (.cond (.t 193) (.seq (.reg q3_30) .ret) .skip))))))) (.reg q3_31))))) (KB ac n W Q Ts 0) (Ye 2 (zi Tryz.prog w0 S Tryz.f3.ntmps [] (.seq (.reg q3_32) .ret) Q_)):=by
 have hE:=Zch
 have hTa:=ZbZ hac
 have hCa:=ZcF hac
 refine YJ (fun x:WZ×QZ×List TZ×Nat=>KB ac n x.1 x.2.1 x.2.2.1 x.2.2.2) (fun x=>(ZcK x.1 x.2.1 x.2.2.1∧x.2.2.1.length=n)∧x.2.2.2≤ac.length∧x.1.s≤48+3*(min x.2.2.2 200:Nat)∧x.2.1.u≤x.1.s∧x.1.lg.length≤min x.2.2.2 200) (fun x=>ac.length - x.2.2.2) (W,Q,Ts,0) ⟨hJ,Nat.zero_le _,by simp only;omega,hs.2.1,by simp only;omega⟩ (by rw[hS];exact Imp.refl _ _) ?_
 clear hJ hs
 rintro ⟨W,Q,Ts,i⟩ ⟨⟨hJ,hTn⟩,hi,hsb,hub,hlb⟩
 simp only at hJ hTn hi hsb hub hlb
 have sim:=hJ.2.1
 have hW:=sim.okw
 have hQk:=sim.okq
 have hok:=hJ.2.2.2.2
 obtain ⟨_,_,_,hws0,hwt0,hwt1,_⟩:=Zl hW
 have hqu0:=(Zp hQk).2.2.2.2.2.2.2.2
 have hll:W.lg.length=Q.lg.length:=by rw[sim.lg]
 have hnow:=sim.now
 have hsm:smW W=true:=decide_eq_true (by omega)
 have hsq:smQ Q=true:=decide_eq_true (by omega)
 have hT:=ZZ (Zl (hW)).2.1
 have hC:=Z0 (Zl (hW)).2.1
 have hTl:=ZF (Zl (hW)).2.2.2.2.2.2
 have hCl:=ZE (Zl (hW)).2.2.2.2.2.2
 have hS0:=Z7 Q.S
 have hS1:=Z6 Q.S
 have hT0:=Yd Q.T
 have hT1:=Yc Q.T
 have hJ0:=Z9 Q.J
 have hJ1:=Ya Q.J
 have hL0:=ZF (Zp (hQk)).2.2.2.2.2.2.2.1
 have hL1:=ZE (Zp (hQk)).2.2.2.2.2.2.2.1
 have hgl:=Uw Ts
 have hrl:=UB Ts
 have ht0:=yc Ts
 have htc:=vX Ts
 have hr0:=yi Ts
 have hrc:=vS Ts
 have h8:∀ u1 u2 ws s,d8 [.op u1 [.os u2 1 ws,.int .i64 s,.bot,.bot,.bot,.bot,.bot]]=some ⟨.int .i64 s,[.free]⟩:=fun _ _ _ _=>rfl
 have h15:=e15 sim hsm hsq
 simp only[wzC,qzC]at h15
 by_cases him:i<ac.length
 ·obtain ⟨r,hr,hrb⟩:=ZbN hac him
  obtain ⟨k,N,rfl⟩:=vq hrb;have hri:ac[i]'him=[.int .i64 k,.int .i64 N]:=by have:=hr;rw[List.getElem?_eq_getElem him]at this;exact Option.some.inj this
  have ww:IntKind.wrap .i64 ((i:Int)+1)=(i:Int)+1:=Zh (by omega) (by omega);by_cases h2x:(i:Int)<200
  ·have h200:¬ ((200:Int)≤i):=by omega
   by_cases k0:k=0
   ·subst k0
    by_cases n0:0<n
    ·
     obtain ⟨U,hU⟩:∃ U,IntKind.wrap .u64 N=U:=⟨_,rfl⟩
     have hU0:0≤U:=by rw[← hU,IntKind.wrap_u64];omega
     have hn0:(n:Int)≠0:=by omega
     have hnn:¬ n=0:=by omega
     have wn:IntKind.wrap .u64 (n:Int)=n:=by rw[IntKind.wrap_u64];omega
     obtain ⟨K,hK⟩:∃ K:Nat,U % (n:Int)=K:=Int.eq_ofNat_of_zero_le (Int.emod_nonneg U hn0)
     have hKn:K<n:=by have:=Int.emod_lt_of_pos U (show 0<(n:Int) by omega);omega
     have htm:U.tmod (n:Int)=K:=by rw[Int.tmod_eq_emod_of_nonneg hU0];exact hK
     have wK:IntKind.wrap .i64 (K:Int)=K:=Zh (by omega) (by omega)
     obtain ⟨T,hTk⟩:∃ T,Ts[K]?=some T:=⟨_,List.getElem?_eq_getElem (by omega)⟩
     have hg:=ZcJ hTk
     have hge:=YL hg
     have hh:=ZcQ hTk
     have hhe:=YL hh
     have hmem:=List.mem_of_getElem? hTk
     have hz2:=Zef T
     have hz3:=ZdH T
     have hz4:=XH (rOf T)
     have hz5:=XW (rOf T)
     have hl:=Zfn hJ hmem
     have hst:∀ u v,d9 [.op u (tzC T),.op v (wzC W)]=some ⟨.tup [],[.cells 0 (tzC (ZC W T).1),.cells 0 (wzC (ZC W T).2)]⟩:=fun u v=>e9 (hok T hmem) hW hsm u v 0 0 0 0
     have hr10:∀ u v,d10 [.op u (rzC (rOf T)),.op v (qzC Q)]=some ⟨.tup [],[.cells 0 (rzC (ZX Q (rOf T)).1),.cells 0 (qzC (ZX Q (rOf T)).2)]⟩:=fun u v=>by
      simp only[d10,ZaD,Uq];rw[if_pos ⟨ZhY (hok T hmem),hQk,hsq,ZgI sim (hJ.2.2.2.1 T hmem) hl.1⟩]
     obtain ⟨Q',hsr,hJ2,hsd⟩:=Zew hJ hTk
     rw[hsr]at hr10
     have hfr:=yY W T
     have hpc:=ZdY W T
     have hx:=Zhe W T
     obtain ⟨⟨T',W'⟩,hrr⟩:∃ r,ZC W T=r:=⟨_,rfl⟩
     rw[hrr]at hst hJ2 hfr hr10 hsd hx
     simp only at hst hJ2 hfr hr10 hsd hx
     have hW2:=hJ2.2.1.okw
     have hQ2:=hJ2.2.1.okq
     have hTb:=ZZ (Zl (hW2)).2.1
     have hCb:=Z0 (Zl (hW2)).2.1
     have hTlb:=ZF (Zl (hW2)).2.2.2.2.2.2
     have hClb:=ZE (Zl (hW2)).2.2.2.2.2.2
     have hS0b:=Z7 Q'.S
     have hS1b:=Z6 Q'.S
     have hT0b:=Yd Q'.T
     have hT1b:=Yc Q'.T
     have hJ0b:=Z9 Q'.J
     have hJ1b:=Ya Q'.J
     have hL0b:=ZF (Zp (hQ2)).2.2.2.2.2.2.2.1
     have hL1b:=ZE (Zp (hQ2)).2.2.2.2.2.2.2.1
     have hz2b:=Zef T'
     have hz3b:=ZdH T'
     have hz4b:=XH (rOf T')
     have hz5b:=XW (rOf T')
     have hset:=fun u=>Zhd Ts K u T'
     have hset2:=fun u=>Zgt Ts K u T'
     have hTn2:(Ts.set K T').length=n:=by rw[List.length_set];exact hTn
     have hgl2:=Uw (Ts.set K T')
     have hrl2:=UB (Ts.set K T')
     have ht02:=yc (Ts.set K T')
     have htc2:=vX (Ts.set K T')
     have hr02:=yi (Ts.set K T')
     have hrc2:=vS (Ts.set K T')
     have hT2:(Ts.set K T')[K]?=some T':=List.getElem?_set_self (by omega)
     have hg2:=ZcJ hT2
     have hge2:=YL hg2
     have hh2:=ZcQ hT2
     have hhe2:=YL hh2
     obtain ⟨Ts',hTs⟩:∃ Ts',Ts.set K T'=Ts':=⟨_,rfl⟩
     rw[hTs]at hJ2 hset hset2 hTn2 hgl2 hrl2 ht02 htc2 hr02 hrc2 hg2 hge2 hh2 hhe2
     have hll2:W'.lg.length=Q'.lg.length:=by rw[hJ2.2.1.lg]
     have h11:=e11 T'
     have h12:∀ u,d12 [.op u (tzC T')]=some ⟨.bool T'.made,[.free]⟩:=fun u=>rfl
     simp only[wzC,qzC]at hst hr10
     simp only[rzC]at hh2 hhe2 hr10 hh hhe hset2 hz4 hz5 hz4b hz5b
     have hd1:IntKind.wrap .i64 (W'.s - W.s)=W'.s - W.s:=Zh (by omega) (by omega)
     have hd2:IntKind.wrap .i64 (Q'.u - Q.u)=W'.s - W.s:=by rw[← hsd];exact hd1
     have hd3:¬ (1<W'.s - W.s):=by omega
     have hrp:(rOf T').pc=T'.pc:=rfl
     have hrm:(rOf T').made=T'.made:=rfl
     simp only[KB,wzC,qzC]
     repeat' with_reducible (first|refine ZR.h ?_|refine zI ?_|((first|refine zK hE ?_|refine zM hE ?_);intro K hK;simp[ELp,hTa,hCa,him,hr,hri,ww,hll,hT,hC,hTl,hCl,hS0,hS1,hT0,hT1,hJ0,hJ1,hL0,hL1,hTb,hCb,hTlb,hClb,hS0b,hS1b,hT0b,hT1b,hJ0b,hJ1b,hL0b,hL1b,hz2,hz3,hz2b,hz3b,hz4,hz5,hz4b,hz5b,ht0,htc,hr0,hrc,hg,hge,hh,hhe,hgl,hrl,hTn,h200,n0,hnn,hU,wn,htm,wK,hKn,hst,hr10,h8];(repeat' (first|refine hK _ _ ?_|apply And.intro|(intro hc;try subst hc)))<;>(try clear hK K))|(refine zJ (fun hc=>?_) (fun hc=>?_)<;>simp at hc<;>(try subst hc)))
     all_goals skip
     refine XB (s':=KS ac n W' Q' Ts' i W.s K Q.u) ?_ ?_
     ·rw[hS]
      simp only[KS,wzC,qzC]
      (refine Imp.aut ?_ ?_<;>simp[NLe,ZM,hTa,hCa,him,hr,hri,ww,hll,hTb,hCb,hTlb,hClb,hS0b,hS1b,hT0b,hT1b,hJ0b,hJ1b,hL0b,hL1b,hset,hset2,ht02,htc2,hr02,hrc2,hgl,hgl2,hrl,hrl2,hTn,hTn2])
     clear hst hr10 hset hset2 hz2 hz3 hz4 hz5 hz4b hz5b hh hhe hg hge ht0 htc hr0 hrc
     simp only[KS,wzC,qzC]
     refine zL hE yM ?_
     intro K_ hK_
     simp (maxSteps:=10000000) [ELp,hTb,hCb,hTlb,hClb,hS0b,hS1b,hT0b,hT1b,hJ0b,hJ1b,hL0b,hL1b,hz2b,hz3b,ht02,htc2,hr02,hrc2,hg2,hge2,hh2,hhe2,hgl2,hrl2,hTn2,hKn,h8,h11,h12,hd1,hd2,hd3,hrp,hrm]
     refine hK_ _ _ ?_
     clear hK_ K_
     repeat' with_reducible (first|refine ZR.h ?_|refine zI ?_|((first|refine zK hE ?_|refine zM hE ?_);intro K hK;simp[ELp,hTa,hCa,him,hr,hri,ww,hll,hTb,hCb,hTlb,hClb,hS0b,hS1b,hT0b,hT1b,hJ0b,hJ1b,hL0b,hL1b,ht02,htc2,hr02,hrc2,hgl2,hrl2,hTn2,hll2];(repeat' (first|refine hK _ _ ?_|apply And.intro|(intro hc;try subst hc)))<;>(try clear hK K))|(refine zJ (fun hc=>?_) (fun hc=>?_)<;>simp at hc<;>(try subst hc)))
     all_goals refine ⟨(W',Q',Ts',i+1),⟨⟨hJ2,hTn2⟩,him,?_,?_,?_⟩,Nat.sub_lt_sub_left him (Nat.lt_succ_self i),?_⟩
     ·simp only
      omega
     ·simp only
      omega
     ·simp only
      omega
     ·rw[hS]
      (try simp only[KB,wzC,qzC])
      (refine Imp.aut ?_ ?_<;>simp[NLe,ZM,hTa,hCa,him,hr,hri,ww,hll,hTb,hCb,hTlb,hClb,hS0b,hS1b,hT0b,hT1b,hJ0b,hJ1b,hL0b,hL1b,ht02,htc2,hr02,hrc2,hgl2,hrl2,hTn2])
    ·have hnz:n=0:=by omega
     simp only[KB,wzC,qzC]
     repeat' with_reducible (first|refine ZR.h ?_|refine zI ?_|((first|refine zK hE ?_|refine zM hE ?_);intro K hK;simp[ELp,hTa,hCa,him,hr,hri,ww,hll,hT,hC,hTl,hCl,hS0,hS1,hT0,hT1,hJ0,hJ1,hL0,hL1,ht0,htc,hr0,hrc,h8,h200,hnz];(repeat' (first|refine hK _ _ ?_|apply And.intro|(intro hc;try subst hc)))<;>(try clear hK K))|(refine zJ (fun hc=>?_) (fun hc=>?_)<;>simp at hc<;>(try subst hc)))
     all_goals refine ⟨(W,Q,Ts,i+1),⟨⟨hJ,hTn⟩,him,?_,?_,?_⟩,Nat.sub_lt_sub_left him (Nat.lt_succ_self i),?_⟩
     ·simp only
      omega
     ·exact hub
     ·simp only
      omega
     ·rw[hS]
      (try simp only[KB,wzC,qzC])
      (refine Imp.aut ?_ ?_<;>simp[NLe,ZM,hTa,hCa,him,hr,hri,ww,hll,hT,hC,hTl,hCl,hS0,hS1,hT0,hT1,hJ0,hJ1,hL0,hL1,ht0,htc,hr0,hrc,h200,hnz])
   ·by_cases k1:k=1
    ·
     subst k1
     obtain ⟨V,hV⟩:∃ V,N.tmod 5=V:=⟨_,rfl⟩
     have hV5:V≤1000000:=by
      have h5:=Int.tmod_lt_of_pos N (show (0:Int)<5 by omega);have h6:=Int.lt_tmod_of_pos N (show (0:Int)<5 by omega);rw[← hV];omega
     have hJ2:=ZhP hJ hV5
     have h13:∀ u v,d13 [.op u [.int .u64 W.t],.os v 1 [[.int .i64 V]]]=some ⟨.int .i64 (goZ W.t V),[.cells 0 [.int .u64 (goZ W.t V)],.free]⟩:=fun u v=>by
      simp only[d13];rw[if_pos ⟨hwt0,hwt1,hV5⟩]
     have hqe:goZ W.t V=goZ Q.now V:=by rw[hnow]
     have hW2:=hJ2.2.1.okw
     have hQ2:=hJ2.2.1.okq
     obtain ⟨t2,ht2⟩:∃ t,goZ W.t V=t:=⟨_,rfl⟩
     rw[ht2]at h13
     have eW:goW W V={ W with t:=t2 }:=by unfold goW;rw[ht2]
     have eQ:goQ Q V={ Q with now:=t2 }:=by unfold goQ;rw[← hqe,ht2]
     rw[eW,eQ]at hJ2
     simp only[KB,wzC,qzC]
     repeat' with_reducible (first|refine ZR.h ?_|refine zI ?_|((first|refine zK hE ?_|refine zM hE ?_);intro K hK;simp[ELp,hTa,hCa,him,hr,hri,ww,hll,hT,hC,hTl,hCl,hS0,hS1,hT0,hT1,hJ0,hJ1,hL0,hL1,ht0,htc,hr0,hrc,h8,h200,hV,h13];(repeat' (first|refine hK _ _ ?_|apply And.intro|(intro hc;try subst hc)))<;>(try clear hK K))|(refine zJ (fun hc=>?_) (fun hc=>?_)<;>simp at hc<;>(try subst hc)))
     all_goals refine ⟨({ W with t:=t2 },{ Q with now:=t2 },Ts,i+1),⟨⟨hJ2,hTn⟩,him,?_,?_,?_⟩,Nat.sub_lt_sub_left him (Nat.lt_succ_self i),?_⟩
     ·simp only
      omega
     ·exact hub
     ·simp only
      omega
     ·rw[hS]
      (try simp only[KB,wzC,qzC])
      (refine Imp.aut ?_ ?_<;>simp[NLe,ZM,hTa,hCa,him,hr,hri,ww,hll,hT,hC,hTl,hCl,hS0,hS1,hT0,hT1,hJ0,hJ1,hL0,hL1,ht0,htc,hr0,hrc])
    ·by_cases k2:k=2
     ·
      subst k2
      have h14:=e14 sim hsm hsq N
      have hJ2:=Zbw hJ N
      have hf1:=xl W N
      have hf2:=Zbj Q N
      obtain ⟨W',hrW⟩:∃ x,ZD W N=x:=⟨_,rfl⟩
      obtain ⟨Q',hrQ⟩:∃ x,Yh Q N=x:=⟨_,rfl⟩
      rw[hrW]at hf1 hJ2 h14
      rw[hrQ]at hf2 hJ2 h14
      have hs1:=ZcW W N
      rw[hrW]at hs1
      have hW2:=hJ2.2.1.okw
      have hQ2:=hJ2.2.1.okq
      have hTb:=ZZ (Zl (hW2)).2.1
      have hCb:=Z0 (Zl (hW2)).2.1
      have hTlb:=ZF (Zl (hW2)).2.2.2.2.2.2
      have hClb:=ZE (Zl (hW2)).2.2.2.2.2.2
      have hS0b:=Z7 Q'.S
      have hS1b:=Z6 Q'.S
      have hT0b:=Yd Q'.T
      have hT1b:=Yc Q'.T
      have hJ0b:=Z9 Q'.J
      have hJ1b:=Ya Q'.J
      have hL0b:=ZF (Zp (hQ2)).2.2.2.2.2.2.2.1
      have hL1b:=ZE (Zp (hQ2)).2.2.2.2.2.2.2.1
      have hll2:W'.lg.length=Q'.lg.length:=by rw[hJ2.2.1.lg]
      simp only[wzC,qzC]at h14
      simp only[KB,wzC,qzC]
      repeat' with_reducible (first|refine ZR.h ?_|refine zI ?_|((first|refine zK hE ?_|refine zM hE ?_);intro K hK;simp[ELp,hTa,hCa,him,hr,hri,ww,hll,hT,hC,hTl,hCl,hS0,hS1,hT0,hT1,hJ0,hJ1,hL0,hL1,hTb,hCb,hTlb,hClb,hS0b,hS1b,hT0b,hT1b,hJ0b,hJ1b,hL0b,hL1b,ht0,htc,hr0,hrc,h8,h200,h14,hll2];(repeat' (first|refine hK _ _ ?_|apply And.intro|(intro hc;try subst hc)))<;>(try clear hK K))|(refine zJ (fun hc=>?_) (fun hc=>?_)<;>simp at hc<;>(try subst hc)))
      all_goals refine ⟨(W',Q',Ts,i+1),⟨⟨hJ2,hTn⟩,him,?_,?_,?_⟩,Nat.sub_lt_sub_left him (Nat.lt_succ_self i),?_⟩
      ·simp only
       omega
      ·simp only
       omega
      ·simp only
       rw[hf1.2.1];omega
      ·rw[hS]
       (try simp only[KB,wzC,qzC])
       (refine Imp.aut ?_ ?_<;>simp[NLe,ZM,hTa,hCa,him,hr,hri,ww,hll,hTb,hCb,hTlb,hClb,hS0b,hS1b,hT0b,hT1b,hJ0b,hJ1b,hL0b,hL1b,ht0,htc,hr0,hrc])
     ·
      simp only[KB,wzC,qzC]
      repeat' with_reducible (first|refine ZR.h ?_|refine zI ?_|((first|refine zK hE ?_|refine zM hE ?_);intro K hK;simp[ELp,hTa,hCa,him,hr,hri,ww,hll,hT,hC,hTl,hCl,hS0,hS1,hT0,hT1,hJ0,hJ1,hL0,hL1,ht0,htc,hr0,hrc,h8,h200,k0,k1,k2];(repeat' (first|refine hK _ _ ?_|apply And.intro|(intro hc;try subst hc)))<;>(try clear hK K))|(refine zJ (fun hc=>?_) (fun hc=>?_)<;>simp at hc<;>(try subst hc)))
      all_goals refine ⟨(W,Q,Ts,i+1),⟨⟨hJ,hTn⟩,him,?_,?_,?_⟩,Nat.sub_lt_sub_left him (Nat.lt_succ_self i),?_⟩
      ·simp only
       omega
      ·exact hub
      ·simp only
       omega
      ·rw[hS]
       (try simp only[KB,wzC,qzC])
       (refine Imp.aut ?_ ?_<;>simp[NLe,ZM,hTa,hCa,him,hr,hri,ww,hll,hT,hC,hTl,hCl,hS0,hS1,hT0,hT1,hJ0,hJ1,hL0,hL1,ht0,htc,hr0,hrc,h200,k0,k1,k2])
  ·
   have h200:(200:Int)≤i:=by omega
   simp only[KB,wzC,qzC]
   repeat' with_reducible (first|refine ZR.h ?_|refine zI ?_|((first|refine zK hE ?_|refine zM hE ?_);intro K hK;simp[ELp,hTa,hCa,him,hr,hri,ww,hll,hT,hC,hTl,hCl,hS0,hS1,hT0,hT1,hJ0,hJ1,hL0,hL1,ht0,htc,hr0,hrc,h8,h200,h15,d6];(repeat' (first|refine hK _ _ ?_|apply And.intro|(intro hc;try subst hc)))<;>(try clear hK K))|(refine zJ (fun hc=>?_) (fun hc=>?_)<;>simp at hc<;>(try subst hc)))
   all_goals exact hQ _ _
 ·have hie:i=ac.length:=by omega
  subst hie;simp only[KB,wzC,qzC]
  repeat' with_reducible (first|refine ZR.h ?_|refine zI ?_|((first|refine zK hE ?_|refine zM hE ?_);intro K hK;simp[ELp,hTa,hCa,hT,hC,hTl,hCl,hS0,hS1,hT0,hT1,hJ0,hJ1,hL0,hL1,ht0,htc,hr0,hrc,h15,d6];(repeat' (first|refine hK _ _ ?_|apply And.intro|(intro hc;try subst hc)))<;>(try clear hK K))|(refine zJ (fun hc=>?_) (fun hc=>?_)<;>simp at hc<;>(try subst hc)))
  all_goals exact hQ _ _
end
end Go.W
