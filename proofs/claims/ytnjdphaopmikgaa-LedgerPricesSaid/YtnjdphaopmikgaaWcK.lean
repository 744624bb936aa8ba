/- Rows whose arguments are slices of structs of integers and truths; from a specification of a call that only reads to a statement's call. -/
import Derived.Test.YtnjdphaopmikgaaLaJ
import Derived.Test.YtnjdphaopmikgaaLqD
import Derived.Test.YtnjdphaopmikgaaPsI
import Derived.Test.YtnjdphaopmikgaaWcA
import Derived.Test.YtnjdphaopmikgaaWkC
import Derived.Deep.Slices
namespace Go.W
open Go.Proofs
set_option linter.unusedSimpArgs false
set_option linter.unusedVariables false
set_option maxHeartbeats 8000000
attribute [local irreducible] Wm
attribute [local simp] Yu lkp Ui prs Th prT ddL idL Yn U1 Ren Vz NObj.none ZZ
def r3c:MCode:=.seq (.seq (.reg q3_20) (.cond (.t 105) (.seq (.reg q3_21) .ret) .skip)) (.seq (.reg q3_22) (.seq (.seq (.reg q3_23) (.block 2 (.loop (.seq (.reg q3_24) (.seq (.cond (.t 109) .skip (.exit 2)) (.seq (.block 3 (.seq (.reg q3_25) (.seq (.seq (.reg q3_26) (.cond (.t 118) (.seq (.reg q3_27) .ret) .skip)) (.seq (.seq (.reg q3_28) (.cond (.t 120) (.reg q3_29) .skip)) (.reg q3_30))))) (.reg q3_31))))))) (.seq (.reg q3_32) (.seq (.reg q3_33) (.seq (.reg q3_34) (.seq (.seq (.reg q3_35) (.cond (.t 157) (.reg q3_36) .skip)) (.seq (.reg q3_37) .ret)))))))
def r3b:MCode:=.seq (.reg q3_13) (.seq (.seq (.reg q3_14) (.cond (.t 85) (.seq (.reg q3_15) .ret) .skip)) (.seq (.reg q3_16) (.seq (.reg q3_17) (.seq (.seq (.reg q3_18) (.cond (.t 100) (.reg q3_19) .skip)) r3c))))
theorem m3_eq:m3=.seq (.reg q3_0) (.seq (.reg q3_1) (.seq (.seq (.reg q3_2) (.cond (.t 38) (.seq (.draw q3_3 p3_3) .ret) .skip)) (.seq (.reg q3_4) (.seq (.seq (.reg q3_5) (.block 0 (.loop (.seq (.reg q3_6) (.seq (.cond (.t 51) .skip (.exit 0)) (.seq (.block 1 (.seq (.reg q3_7) (.seq (.draw q3_8 p3_8) (.seq (.reg q3_9) (.cond (.t 65) (.reg q3_10) (.seq (.reg q3_11) (.exit 0))))))) (.reg q3_12))))))) r3b)))):=rfl
def E3:St:=⟨[(0,.bool true)],[],1⟩
def S3c (a b nm d e1 f gs x:Int) (L:List EvZ) (m:Nat) (lc:List AV) (P:List Int):St:=⟨[(1,.sl (.top 0) 0 m),(2,.int .i64 x),(3,.ptr (.top 1) 0 0),(14,.ptr (.top 2) 0 0),(16,.sl (.top 3) 0 P.length),(17,.sl (.top 4) 0 P.length)],[(0,.view 0 14 (Zy L)),(1,.cells 0 [.int .i64 a,.int .i64 b,.int .i64 nm,.int .i64 d,.int .i64 e1,.int .i64 f,.int .i64 gs]),(2,.cells 0 lc),(3,.arr 0 1 (ZY P)),(4,.arr 0 1 (ZY P))],5⟩
def I3c (a b nm d e1 f gs x:Int) (L:List EvZ) (m:Nat) (lc:List AV) (P:List Int) (j:Nat):St:=⟨[(1,.sl (.top 0) 0 m),(2,.int .i64 x),(3,.ptr (.top 1) 0 0),(14,.ptr (.top 2) 0 0),(16,.sl (.top 3) 0 P.length),(17,.sl (.top 4) 0 P.length),(18,.ptr (.top 5) 0 0),(106,.sl (.top 3) 0 P.length),(107,.int .i64 P.length),(108,.int .i64 j)],[(0,.view 0 14 (Zy L)),(1,.cells 0 [.int .i64 a,.int .i64 b,.int .i64 nm,.int .i64 d,.int .i64 e1,.int .i64 f,.int .i64 gs]),(2,.cells 0 lc),(3,.arr 0 1 (ZY P)),(4,.arr 0 1 (ZY P)),(5,.cells 0 (brC (P.take j)))],6⟩
theorem w3c {a b nm d e1 f gs x:Int} {L:List EvZ} {m:Nat} {lc:List AV} {P:List Int} {sq sm sn mq:Int} {w0:World} {S:Sc} {Q:Exit→St→Prop}
  (hS:S.m=1) (q1:t0L lc=lc) (q2:clL lc=true) (q3:∀ φ,Yn φ lc lc) (ql:lc.length=9) (hmL:m≤L.length) (hP:P.length≤1000)
  (h11:∀ u,d11 [.op u lc,.int .i64 x]=some ⟨TY P,[.free]⟩)
  (h12:∀ u,d12 [.op u lc,.int .i64 x]=some ⟨.tup [.int .i64 mq,.bool (decide (P≠[]))],[.free]⟩)
  (h13:d13 [.agg [.int .i64 a,.int .i64 b,.int .i64 nm,.int .i64 d,.int .i64 e1,.int .i64 f,.int .i64 gs],.sl (.top 0) 0 m,.int .i64 (-1),.int .i64 x] [.view 0 14 ((Zy L).take m)]=some (.agg [.int .i64 sq,.int .i64 sq,.int .i64 sm,.int .i64 sm,.int .i64 sn]))
  (hmean:P≠[]→0<sq∧0≤sm∧sm≤1000000000000∧mq=sm / sq)
  (hQ:∀ s:St,lk s.tl 6=.bool true→Imp 1 ⟨[(0,.bool true)],s.hl,s.nb⟩ E3→Q .ret s):Wm Try.prog w0 S Try.f3.ntmps [] r3c (S3c a b nm d e1 f gs x L m lc P) Q:=by
 have hE:Zd Try.prog (EL [(6,rdS d6 ok6),(11,Zw [(9,false)] d11 ok11),(12,Zw [(9,false)] d12 ok12),(13,rdS d13 ok13)]):=Zf (by simp only[List.mem_cons,List.not_mem_nil,or_false,forall_eq_or_imp,forall_eq];exact ⟨s6,s11,s12,s13⟩)
 have hT:=XO L
 have hC:=XS L
 have hl:=Z6 L
 have hD:=YN L
 have hdt:=XW (L:=L) m
 have y1:=YT P
 have y2:=YV P
 have y3:=Va P
 have y4:=X7 P
 have h6:d6 [] []=some (.bool true):=rfl
 simp only[ZcW]at h11
 simp only[S3c]
 unfold r3c
 repeat' with_reducible (first|refine ZR.h ?_|refine zI ?_|((first|refine zK hE ?_|refine zM hE ?_);intro K hK;simp[hT,hC,hl,hD,hdt,hmL,y1,y2,y3,y4,q1,q2,q3,ql];(repeat' (first|refine hK _ _ ?_|apply And.intro|(intro hc;try subst hc)))<;>(try clear hK K))|(refine zJ (fun hc=>?_) (fun hc=>?_)<;>simp at hc<;>(try subst hc)))
 all_goals refine Z4 (fun j=>I3c a b nm d e1 f gs x L m lc P j) (fun j=>j≤P.length) (fun j=>P.length - j) 0 (Nat.zero_le _) ?_ ?_
 ·rw[hS]
  simp only[I3c,List.take_zero,show brC []=[.int .i64 0,.int .i64 0,.int .i64 0,.int .i64 0] from rfl]
  (refine Imp.aut ?_ ?_<;>simp[NLe,Zg,hT,hC,y1,y2,q1,q2,q3])
 intro j hj
 replace hj:j≤P.length:=hj
 simp only[I3c]
 by_cases hjl:j<P.length
 ·obtain ⟨p,hp⟩:∃ p,P[j]?=some p:=⟨_,List.getElem?_eq_getElem hjl⟩
  obtain ⟨hg1,hg2⟩:=ya hp;simp only[inC]at hg1 hg2;have ww:IntKind.wrap .i64 ((j:Int)+1)=(j:Int)+1:=Zh (by omega) (by omega);by_cases hj0:j=0
  ·subst hj0
   have hb:brC (P.take 1)=[.int .i64 p,.int .i64 p,.int .i64 p,.int .i64 p]:=by
    rw[show P.take 1=[p] from by
     cases P with
     | nil=>simp at hp
     | cons z r=>simp at hp;subst hp;rfl]
    exact Zet p
   have hb0:brC (P.take 0)=[.int .i64 0,.int .i64 0,.int .i64 0,.int .i64 0]:=(by rw[List.take_zero];rfl);rw[hb0];have v1:IntKind.wrap .i64 1=1:=by decide
   repeat' with_reducible (first|refine ZR.h ?_|refine zI ?_|((first|refine zK hE ?_|refine zM hE ?_);intro K hK;simp[hT,hC,hl,hD,hdt,hmL,y1,y2,y3,y4,q1,q2,q3,ql,hjl,hg1,hg2,ww,v1];(repeat' (first|refine hK _ _ ?_|apply And.intro|(intro hc;try subst hc)))<;>(try clear hK K))|(refine zJ (fun hc=>?_) (fun hc=>?_)<;>simp at hc<;>(try subst hc)))
   all_goals refine ⟨1,hjl,Nat.sub_lt_sub_left hjl Nat.one_pos,?_⟩
   all_goals simp only[I3c,hb]
   all_goals rw[hS]
   all_goals (refine Imp.aut ?_ ?_<;>simp[NLe,Zg,hT,hC,y1,y2,q1,q2,q3,v1])
  ·have hb:=Zcj (l:=P) (j:=j) (p:=p) (by omega) hp
   have hbj:brC (P.take j)=[.int .i64 ((P.take j).headD 0),.int .i64 (mxL (P.take j)),.int .i64 (mnL (P.take j)),.int .i64 ((P.take j).getLastD 0)]:=rfl;rw[hbj];obtain ⟨b0,hb0⟩:∃ z,(P.take j).headD 0=z:=⟨_,rfl⟩;obtain ⟨b1,hb1⟩:∃ z,mxL (P.take j)=z:=⟨_,rfl⟩;obtain ⟨b2,hb2⟩:∃ z,mnL (P.take j)=z:=⟨_,rfl⟩;obtain ⟨b3,hb3⟩:∃ z,(P.take j).getLastD 0=z:=⟨_,rfl⟩;rw[hb0,hb1,hb2]at hb;rw[hb0,hb1,hb2,hb3];have hjp:¬ ((j:Int)=0):=(by omega);clear hbj hb0 hb1 hb2 hb3
   repeat' with_reducible (first|refine ZR.h ?_|refine zI ?_|((first|refine zK hE ?_|refine zM hE ?_);intro K hK;simp[hT,hC,hl,hD,hdt,hmL,y1,y2,y3,y4,q1,q2,q3,ql,hjl,hg1,hg2,ww,hj0,hjp];(repeat' (first|refine hK _ _ ?_|apply And.intro|(intro hc;try subst hc)))<;>(try clear hK K))|(refine zJ (fun hc=>?_) (fun hc=>?_)<;>simp at hc<;>(try subst hc)))
   all_goals refine ⟨j+1,hjl,Nat.sub_lt_sub_left hjl (Nat.lt_succ_self j),?_⟩
   all_goals simp only[I3c,hb]
   all_goals rw[hS]
   all_goals (refine Imp.aut ?_ ?_<;>simp[NLe,Zg,hT,hC,y1,y2,q1,q2,q3])
 ·have hje:j=P.length:=by omega
  subst hje;rw[List.take_of_length_le (Nat.le_refl _)];obtain ⟨bz,hbz⟩:∃ z,brC P=z:=⟨_,rfl⟩;have hbz4:∃ b0 b1 b2 b3,bz=[.int .i64 b0,.int .i64 b1,.int .i64 b2,.int .i64 b3]:=⟨_,_,_,_,hbz.symm⟩;rw[hbz]at h11⊢;obtain ⟨b0,b1,b2,b3,rfl⟩:=hbz4;clear hbz;by_cases hP0:P=[]
  ·have hPl:P.length=0:=by rw[hP0];rfl
   have hdn:decide (P≠[])=false:=(by simp[hP0]);rw[hdn]at h11 h12
   repeat' with_reducible (first|refine ZR.h ?_|refine zI ?_|((first|refine zK hE ?_|refine zM hE ?_);intro K hK;simp[hT,hC,hl,hD,hdt,hmL,y1,y2,y3,y4,q1,q2,q3,ql,hPl,h6,h11,h12,h13];(repeat' (first|refine hK _ _ ?_|apply And.intro|(intro hc;try subst hc)))<;>(try clear hK K))|(refine zJ (fun hc=>?_) (fun hc=>?_)<;>simp at hc<;>(try subst hc)))
   all_goals first|(simp;done)|(exfalso;omega)|(refine hQ _ rfl ?_;(try simp only[E3]);refine Imp.aut ?_ ?_<;>simp[NLe,Zg,hT,hC])
  ·have hPl:0<P.length:=List.length_pos_iff.2 hP0
   have hPl2:¬ P.length=0:=(by omega);have hPl3:¬ ((P.length:Int)=0):=(by omega);have hPl4:(0:Int)<(P.length:Int):=(by omega);have hdn:decide (P≠[])=true:=(by simp[hP0]);rw[hdn]at h11 h12;obtain ⟨e1q,e2q,e3q,e4q⟩:=hmean hP0;have hqn:¬ sq=0:=(by omega);have hq1:sm.tdiv sq=sm / sq:=Int.tdiv_eq_ediv_of_nonneg e2q;have hqw1:IntKind.wrap .i64 (sm / sq)=sm / sq:=Zh (by have:=Int.ediv_nonneg (a:=sm) (b:=sq) (by omega) (by omega);omega) (by have:=Int.ediv_le_self (a:=sm) sq (by omega);omega);rw[e4q]at h12
   repeat' with_reducible (first|refine ZR.h ?_|refine zI ?_|((first|refine zK hE ?_|refine zM hE ?_);intro K hK;simp[hT,hC,hl,hD,hdt,hmL,y1,y2,y3,y4,q1,q2,q3,ql,hP0,hPl,hPl2,hPl3,hPl4,h6,h11,h12,h13,hqn,hq1,hqw1];(repeat' (first|refine hK _ _ ?_|apply And.intro|(intro hc;try subst hc)))<;>(try clear hK K))|(refine zJ (fun hc=>?_) (fun hc=>?_)<;>simp at hc<;>(try subst hc)))
   all_goals first|(simp;done)|(exfalso;omega)|(refine hQ _ rfl ?_;(try simp only[E3]);refine Imp.aut ?_ ?_<;>simp[NLe,Zg,hT,hC])
def S3b (a b nm d e1 f gs x:Int) (L:List EvZ) (m:Nat):St:=⟨[(1,.sl (.top 0) 0 m),(2,.int .i64 x),(3,.ptr (.top 1) 0 0),(7,.ptr (.top 2) 0 0),(9,.sl (.top 3) 0 m)],[(0,.view 0 14 (Zy L)),(1,.cells 0 [.int .i64 a,.int .i64 b,.int .i64 nm,.int .i64 d,.int .i64 e1,.int .i64 f,.int .i64 gs]),(2,.cells 0 [.int .i64 a,.int .i64 b,.int .i64 nm,.int .i64 d,.int .i64 e1,.int .i64 f,.int .i64 gs]),(3,.arr 0 14 (Zy (L.take m)))],4⟩
theorem w3b {a b nm d e1 f gs x:Int} {L:List EvZ} {m:Nat} {w0:World} {S:Sc} {Q:Exit→St→Prop} {os:List OrZ}
  (hS:S.m=1) (hcf:VA a b nm d e1 f gs=true) (hmL:m≤L.length) (hm1:m≤1000) (hos:OkL (cfC a b nm f gs) (L.take m) os)
  (hQ:∀ s:St,lk s.tl 6=.bool true→Imp 1 ⟨[(0,.bool true)],s.hl,s.nb⟩ E3→Q .ret s):Wm Try.prog w0 S Try.f3.ntmps [] r3b (S3b a b nm d e1 f gs x L m) Q:=by
 have hE:Zd Try.prog (EL [(8,Zw [(14,false)] d8 ok8),(9,rdS d9 ok9),(10,Zw [(9,false)] d10 ok10)]):=Zf (by simp only[List.mem_cons,List.not_mem_nil,or_false,forall_eq_or_imp,forall_eq];exact ⟨s8,s9,s10⟩)
 have hT:=XO L
 have hC:=XS L
 have hl:=Z6 L
 have hD:=YN L
 have hdt:=XW (L:=L) m
 have hCo:=Xz hcf
 have hcx:=YF hcf
 obtain ⟨M,hM⟩:∃ M,L.take m=M:=⟨_,rfl⟩
 have hMl:M.length=m:=by rw[← hM,List.length_take];omega
 have hev:(Zy L).take m=Zy M:=by rw[VQ,hM]
 rw[hM]at hos
 have z1:=XO M
 have z2:=XS M
 have z3:=Z6 M
 rw[hMl]at z3
 have z4:=YN M
 have htk:(Zy M).take m=Zy M:=List.take_of_length_le (by omega)
 have hm:Xm YO (Zy M)=some M:=Zv (f:=YO) (g:=evR) Yb _
 have h8:∀ u,d8 [.agg [.int .i64 a,.int .i64 b,.int .i64 nm,.int .i64 d,.int .i64 e1,.int .i64 f,.int .i64 gs],.os u 14 (Zy M)]=some ⟨.tup [.op 0 (lgC (lgM a b nm d e1 f gs M)),.raw .nilIface],[.free]⟩:=fun u=>by
  simp only[d8,hm];rw[if_pos ⟨hcf,by omega,os,hos⟩]
 have h9:d9 [.agg [.int .i64 a,.int .i64 b,.int .i64 nm,.int .i64 d,.int .i64 e1,.int .i64 f,.int .i64 gs],.sl (.top 0) 0 m,.int .i64 x] [.view 0 14 ((Zy L).take m)]=some (.os 0 1 (ZY (Zr (cfC a b nm f gs) x M))):=by
  rw[hev];simp only[d9,hm];rw[if_pos ⟨z3.symm,hcf,by omega,os,hos⟩]
 have hb0:=TD hCo x hos
 have hs3:=yQ hCo x hos
 have hs0:0≤x→(sum3 (cfC a b nm f gs) x M).q=(X4 (cfC a b nm f gs) x M).1∧(sum3 (cfC a b nm f gs) x M).m=(X4 (cfC a b nm f gs) x M).2:=fun h0=>vd x h0 [] M ⟨0,0,0⟩
 have h13:d13 [.agg [.int .i64 a,.int .i64 b,.int .i64 nm,.int .i64 d,.int .i64 e1,.int .i64 f,.int .i64 gs],.sl (.top 0) 0 m,.int .i64 (-1),.int .i64 x] [.view 0 14 ((Zy L).take m)]=some (.agg [.int .i64 (sum3 (cfC a b nm f gs) x M).q,.int .i64 (sum3 (cfC a b nm f gs) x M).q,.int .i64 (sum3 (cfC a b nm f gs) x M).m,.int .i64 (sum3 (cfC a b nm f gs) x M).m,.int .i64 (sum3 (cfC a b nm f gs) x M).n]):=by
  rw[hev];simp only[d13,hm];rw[if_pos ⟨z3.symm,rfl,hcf,by omega,os,hos⟩]
 have hrl:(lgM a b nm d e1 f gs M).rows.length≤100000:=by
  show (mat a.toNat nm.toNat _).length≤_;rw[TF];omega
 obtain ⟨P,hP⟩:∃ P,T8 (lgM a b nm d e1 f gs M).last x=P:=⟨_,rfl⟩
 have hPl:P.length≤1000:=by
  rw[← hP];by_cases hx:0≤x∧x<nm
  ·rw[Zef hx.1 hx.2];omega
  ·rw[Zch hx (by omega)];simp
 have h10:∀ u,d10 [.op u (lgC (lgM a b nm d e1 f gs M)),.int .i64 x]=some ⟨.os 0 1 (ZY P),[.free]⟩:=fun u=>by
  simp only[d10,X8,hP];rw[if_pos (by omega)]
 have h11:∀ u,d11 [.op u (lgC (lgM a b nm d e1 f gs M)),.int .i64 x]=some ⟨TY P,[.free]⟩:=fun u=>by
  simp only[d11,X8,hP];rw[if_pos (by omega)]
 have hPW:0≤x→x<nm→P=Zr (cfC a b nm f gs) x M:=fun h0 h1=>by rw[← hP,Zef h0 h1]
 have hP0:¬ (0≤x∧x<nm)→P=[]:=fun hx=>by rw[← hP,Zch hx (by omega)]
 have hmn:∃ mq,(∀ u,d12 [.op u (lgC (lgM a b nm d e1 f gs M)),.int .i64 x]=some ⟨.tup [.int .i64 mq,.bool (decide (P≠[]))],[.free]⟩)∧(P≠[]→0<(sum3 (cfC a b nm f gs) x M).q∧0≤(sum3 (cfC a b nm f gs) x M).m∧(sum3 (cfC a b nm f gs) x M).m≤1000000000000∧mq=(sum3 (cfC a b nm f gs) x M).m / (sum3 (cfC a b nm f gs) x M).q):=by
  by_cases hx:0≤x∧x<nm
  ·obtain ⟨n1,n2⟩:=Zcm hcf hos (by omega) hx.1 hx.2
   obtain ⟨e1',e2'⟩:=hs0 hx.1;obtain ⟨g1,g2,g3,g4,g5,g6,g7⟩:=hb0;have hPx:=hPW hx.1 hx.2;have hd:∀ u,d12 [.op u (lgC (lgM a b nm d e1 f gs M)),.int .i64 x]=some ⟨Tp (YI (lgM a b nm d e1 f gs M).rows x),[.free]⟩:=fun u=>by
    simp only[d12,X8];rw[if_pos ⟨hrl,by rw[n1];omega,by rw[n2];omega,by rw[n2];omega⟩]
   by_cases hPn:P=[]
   ·refine ⟨0,fun u=>?_,fun q=>absurd hPn q⟩
    rw[hd u];unfold Tp;rw[if_pos (by rw[n1];exact g6 (by rw[← hPx];exact hPn))];simp[hPn]
   ·have hpos:0<P.length:=List.length_pos_iff.2 hPn
    rw[hPx]at hpos;have hb1:¬ (YI (lgM a b nm d e1 f gs M).rows x).b=0:=(by rw[n1];omega);refine ⟨_,fun u=>?_,fun _=>⟨by rw[e1'];omega,by rw[e2'];omega,by rw[e2'];omega,rfl⟩⟩;rw[hd u];unfold Tp;rw[if_neg hb1,n1,n2,← e1',← e2'];simp[hPn]
  ·refine ⟨0,fun u=>?_,fun q=>absurd (hP0 hx) q⟩
   have hz:=Za1 (a:=a) (b:=b) (d:=d) (e1:=e1) (f:=f) (g:=gs) (L:=M) hx (by omega);simp only[d12,X8];rw[hz,if_pos ⟨hrl,by decide,by decide,by decide⟩,hP0 hx]
   rfl
 obtain ⟨mq,h12,hmean⟩:=hmn
 have q1:=Uu (lgM a b nm d e1 f gs M)
 have q2:=UG (lgM a b nm d e1 f gs M)
 have q3:=T1 (lgM a b nm d e1 f gs M)
 have ql:(lgC (lgM a b nm d e1 f gs M)).length=9:=rfl
 obtain ⟨lc,hlc⟩:∃ z,lgC (lgM a b nm d e1 f gs M)=z:=⟨_,rfl⟩
 rw[hlc]at q1 q2 q3 ql
 simp only[hlc]at h8 h10 h11 h12
 clear hlc hP
 have y1:=YT P
 have y2:=YV P
 have y3:=Va P
 have y4:=X7 P
 simp only[S3b,hM]
 unfold r3b
 by_cases hx0:x<0
 ·have hPe:P=[]:=hP0 (by omega)
  have w1:=YT (Zr (cfC a b nm f gs) x M);have w2:=YV (Zr (cfC a b nm f gs) x M)
  repeat' with_reducible (first|refine ZR.h ?_|refine zI ?_|((first|refine zK hE ?_|refine zM hE ?_);intro K hK;simp[hT,hC,hl,hD,hdt,hmL,q1,q2,q3,ql,z1,z2,z3,z4,htk,h8,h9,h10,y1,y2,y4,hx0,w1,w2,hPe];(repeat' (first|refine hK _ _ ?_|apply And.intro|(intro hc;try subst hc)))<;>(try clear hK K))|(refine zJ (fun hc=>?_) (fun hc=>?_)<;>simp at hc<;>(try subst hc)))
  all_goals refine Xv (s':=S3c a b nm d e1 f gs x L m lc P) ?_ (w3c hS q1 q2 q3 ql hmL hPl h11 h12 h13 hmean hQ)
  all_goals rw[hS]
  all_goals simp only[S3c]
  all_goals (refine Imp.aut ?_ ?_<;>simp[NLe,Zg,hT,hC,q1,q2,q3,y1,y2,y4,hPe,ZY])
 ·by_cases hx1:nm≤x
  ·have hPe:P=[]:=hP0 (by omega)
   have w1:=YT (Zr (cfC a b nm f gs) x M);have w2:=YV (Zr (cfC a b nm f gs) x M)
   repeat' with_reducible (first|refine ZR.h ?_|refine zI ?_|((first|refine zK hE ?_|refine zM hE ?_);intro K hK;simp[hT,hC,hl,hD,hdt,hmL,q1,q2,q3,ql,z1,z2,z3,z4,htk,h8,h9,h10,y1,y2,y4,hx0,hx1,w1,w2,hPe];(repeat' (first|refine hK _ _ ?_|apply And.intro|(intro hc;try subst hc)))<;>(try clear hK K))|(refine zJ (fun hc=>?_) (fun hc=>?_)<;>simp at hc<;>(try subst hc)))
   all_goals refine Xv (s':=S3c a b nm d e1 f gs x L m lc P) ?_ (w3c hS q1 q2 q3 ql hmL hPl h11 h12 h13 hmean hQ)
   all_goals rw[hS]
   all_goals simp only[S3c]
   all_goals (refine Imp.aut ?_ ?_<;>simp[NLe,Zg,hT,hC,q1,q2,q3,y1,y2,y4,hPe,ZY])
  ·rw[← hPW (by omega) (by omega)]at h9
   repeat' with_reducible (first|refine ZR.h ?_|refine zI ?_|((first|refine zK hE ?_|refine zM hE ?_);intro K hK;simp[hT,hC,hl,hD,hdt,hmL,q1,q2,q3,ql,z1,z2,z3,z4,htk,h8,h9,h10,y1,y2,y4,hx0,hx1];(repeat' (first|refine hK _ _ ?_|apply And.intro|(intro hc;try subst hc)))<;>(try clear hK K))|(refine zJ (fun hc=>?_) (fun hc=>?_)<;>simp at hc<;>(try subst hc)))
   all_goals refine Xv (s':=S3c a b nm d e1 f gs x L m lc P) ?_ (w3c hS q1 q2 q3 ql hmL hPl h11 h12 h13 hmean hQ)
   all_goals rw[hS]
   all_goals simp only[S3c]
   all_goals (refine Imp.aut ?_ ?_<;>simp[NLe,Zg,hT,hC,q1,q2,q3,y1,y2,y4])
theorem vb (a b c d e f g:Int) (h:¬ Yy a b c d e f g=-1):0≤Yy a b c d e f g:=by
 unfold Yy at h⊢
 (repeat' split)<;>first|omega|(exfalso;simp_all;done)
def I3a (a b nm d e1 f gs x:Int) (L:List EvZ) (k:Nat):St:=⟨[(1,.sl (.top 0) 0 L.length),(2,.int .i64 x),(3,.ptr (.top 1) 0 0),(7,.ptr (.top 2) 0 0),(9,.sl (.top 3) 0 k),(48,.sl (.top 0) 0 L.length),(49,.int .i64 L.length),(50,.int .i64 k)],[(0,.view 0 14 (Zy L)),(1,.cells 0 [.int .i64 a,.int .i64 b,.int .i64 nm,.int .i64 d,.int .i64 e1,.int .i64 f,.int .i64 gs]),(2,.cells 0 [.int .i64 a,.int .i64 b,.int .i64 nm,.int .i64 d,.int .i64 e1,.int .i64 f,.int .i64 gs]),(3,.arr 0 14 (Zy (L.take k)))],4⟩
def d3:List AV→List NObj→Option AV
 | [.agg [.int .i64 a,.int .i64 b,.int .i64 nm,.int .i64 d,.int .i64 e1,.int .i64 f,.int .i64 gs],.sl (.top 0) 0 n,.int .i64 x],[.view 0 14 els]=>(match Xm YO els with
  | some L=>if n=els.length∧els.length≤9223372036854775807 then some (.bool true) else none
  | none=>none)
 | _,_=>none
theorem ok3:ROk d3:=by
 intro xs os r h;unfold d3 at h
 (repeat' (split at h))<;>first|(cases h;done)|(injection h with h;subst h;simp)
theorem s3:Sound Try.prog 3 (rdS d3 ok3):=by
 refine Zn C3.a C3.b C3.c C3.d ok3 fun xs os r h vs ρ0 hvs=>⟨xs,?_,fun _ h=>h,fun w0 S hS=>?_⟩
 ·unfold d3 at h
  (repeat' (split at h))<;>first|(cases h;done)|exact Nat.le_of_ble_eq_true rfl
 unfold d3 at h;split at h
 ·rename_i a b nm d e1 f gs n x els
  split at h
  ·rename_i L hL
   obtain rfl:=ZI (g:=evR) (fun _ _=>ZD) hL;clear hL;split at h
   ·rename_i hcond
    injection h with h;subst h;obtain ⟨rfl,hlen⟩:=hcond;have hll:List.map evR L=Zy L:=rfl;rw[hll]at hvs hlen⊢;change S.m=1 at hS;have hE:Zd Try.prog (EL [(4,Zw [] d4 ok4),(5,Zw [] d5 ok5),(6,rdS d6 ok6),(7,rdS d7 ok7)]):=Zf (by simp only[List.mem_cons,List.not_mem_nil,or_false,forall_eq_or_imp,forall_eq];exact ⟨s4,s5,s6,s7⟩);have hT:=XO L;have hC:=XS L;have hl:=Z6 L;have hD:=YN L;rw[hl]at hlen;have h6:d6 [] []=some (.bool true):=rfl;have h5:d5 [.agg [.int .i64 a,.int .i64 b,.int .i64 nm,.int .i64 d,.int .i64 e1,.int .i64 f,.int .i64 gs]]=some ⟨.int .i64 (Yy a b nm d e1 f gs),[]⟩:=rfl;change Wm _ _ _ _ _ _ ⟨U6 0 [.agg [.int .i64 a,.int .i64 b,.int .i64 nm,.int .i64 d,.int .i64 e1,.int .i64 f,.int .i64 gs],.sl (.top 0) 0 (Zy L).length,.int .i64 x],Zs 0 [.view 0 14 (Zy L)],1⟩ _;by_cases hck:Yy a b nm d e1 f gs=-1
    ·have hcf:VA a b nm d e1 f gs=true:=by rw[Zak]at hck;exact hck
     have h4:d4 [.agg [.int .i64 a,.int .i64 b,.int .i64 nm,.int .i64 d,.int .i64 e1,.int .i64 f,.int .i64 gs]]=some ⟨.tup [.agg [.int .i64 a,.int .i64 b,.int .i64 nm,.int .i64 d,.int .i64 e1,.int .i64 f,.int .i64 gs],.raw .nilIface],[]⟩:=by
      simp only[d4];rw[if_pos hck]
     rw[hck]at h5;by_cases h40:40<L.length
     ·have h40i:(40:Int)<(L.length:Int):=by omega
      unfold m3
      repeat' with_reducible (first|refine ZR.h ?_|refine zI ?_|((first|refine zK hE ?_|refine zM hE ?_);intro K hK;simp[hT,hC,hl,hD,h4,h5,h6,h40,h40i];(repeat' (first|refine hK _ _ ?_|apply And.intro|(intro hc;try subst hc)))<;>(try clear hK K))|(refine zJ (fun hc=>?_) (fun hc=>?_)<;>simp at hc<;>(try subst hc)))
      all_goals first|(simp;done)|(simp at *;omega)|((try simp[hT,hC]);refine Imp.aut ?_ ?_<;>simp[NLe,Zg,hT,hC])
     ·have h40i:¬ (40:Int)<(L.length:Int):=by omega
      have h7:∀ (k:Nat) (e:EvZ) (os:List OrZ),L[k]?=some e→OkL (cfC a b nm f gs) (L.take k) os→d7 [.agg [.int .i64 a,.int .i64 b,.int .i64 nm,.int .i64 d,.int .i64 e1,.int .i64 f,.int .i64 gs],.sl (.top 0) 0 (k+1)] [.view 0 14 ((Zy L).take (k+1))]=some (if ZE (cfC a b nm f gs) (L.take k) e=0 then .tup [.int .i64 (-1),.int .i64 0] else .tup [.int .i64 (k:Int),.int .i64 (ZE (cfC a b nm f gs) (L.take k) e)]):=fun k e os he hos=>by
       have hkl:=(List.getElem?_eq_some_iff.1 he).1;have hm:Xm YO (Zy (L.take (k+1)))=some (L.take (k+1)):=Zv (f:=YO) (g:=evR) Yb _;have hsn:=Ys he;have hdl:(L.take (k+1)).dropLast=L.take k:=(by rw[hsn,List.dropLast_concat]);have hgl:(L.take (k+1)).getLast?=some e:=(by rw[hsn,List.getLast?_append];rfl);have hln:(L.take (k+1)).length=k+1:=(by rw[List.length_take];omega);rw[VQ];simp only[d7,hm];rw[if_pos ⟨by rw[Z6,hln],hcf,by omega,os,by rw[hdl];exact hos⟩];unfold Zca;rw[hgl];simp only;rw[hdl,hln];have hk1:((k+1:Nat):Int) - 1=k:=(by omega);rw[hk1]
      rw[m3_eq]
      repeat' with_reducible (first|refine ZR.h ?_|refine zI ?_|((first|refine zK hE ?_|refine zM hE ?_);intro K hK;simp[hT,hC,hl,hD,h4,h5,h6,h40,h40i];(repeat' (first|refine hK _ _ ?_|apply And.intro|(intro hc;try subst hc)))<;>(try clear hK K))|(refine zJ (fun hc=>?_) (fun hc=>?_)<;>simp at hc<;>(try subst hc)))
      all_goals (refine Z4 (fun k=>I3a a b nm d e1 f gs x L k) (fun k=>k≤L.length∧∃ os,OkL (cfC a b nm f gs) (L.take k) os) (fun k=>L.length - k) 0 ⟨Nat.zero_le _,[],OkL.nil⟩ ?_ ?_)
      ·simp only[I3a,List.take_zero,Zy,List.map_nil]
       simp only[← show Zy L=List.map evR L from rfl];rw[hS]
       (refine Imp.aut ?_ ?_<;>simp[NLe,Zg,hT,hC,hl])
      rintro k ⟨hk,os,hos⟩
      (try simp only at hk hos)
      simp only[I3a];have t1:=XO (L.take k);have t2:=XS (L.take k);have t3:=Z6 (L.take k);rw[List.length_take,Nat.min_eq_left hk]at t3;by_cases hkl:k<L.length
      ·obtain ⟨e,he⟩:∃ e,L[k]?=some e:=⟨_,List.getElem?_eq_getElem hkl⟩
       have h7k:=h7 k e os he hos;have hdt:=XW (L:=L) (k+1);have hsn:=Ys he;have ww:IntKind.wrap .i64 ((k:Int)+1)=(k:Int)+1:=Zh (by omega) (by omega);have hn1:((k:Int)+1).toNat=k+1:=(by omega);have hn2:(0:Int)≤(k:Int)+1:=(by omega);have hn3:(k:Int)+1≤(L.length:Int):=(by omega);have hn4:k+1≤L.length:=hkl;have hg1:=VX he;have hg2:∀ hk,(Zy L)[k]'hk=evR e:=fun hk=>by rw[List.getElem?_eq_getElem hk]at hg1;exact Option.some.inj hg1
       have hkle:k≤L.length:=hk;obtain ⟨cz,hcz⟩:∃ z,ZE (cfC a b nm f gs) (L.take k) e=z:=⟨_,rfl⟩;rw[hcz]at h7k;have q6:=Zed (L.take k) e;rw[← hsn]at q6;have t4:=XO (L.take (k+1));have t5:=XS (L.take (k+1));have htl:∀ q,V4 q (Zy (L.take k))=true:=fun q=>ev_tl q _;have b1:(k+1)*112≤140737488355328:=(by omega);have b2:k+1≤9223372036854775807:=(by omega);have b3:k≤9223372036854775806:=(by omega);simp only[evR]at hg1 hg2 q6;by_cases hc0:cz=0
       ·rw[if_pos hc0]at h7k
        have hos2:∃ os,OkL (cfC a b nm f gs) (L.take (k+1)) os:=⟨_,by rw[hsn];exact OkL.snoc hos (by rw[hcz];exact hc0)⟩
        repeat' with_reducible (first|refine ZR.h ?_|refine zI ?_|((first|refine zK hE ?_|refine zM hE ?_);intro K hK;simp[hT,hC,hl,hD,hkl,hkle,hg1,hg2,h7k,hdt,ww,hn1,hn2,hn3,hn4,t1,t2,t3,q6,htl,b1,b2,b3];(repeat' (first|refine hK _ _ ?_|apply And.intro|(intro hc;try subst hc)))<;>(try clear hK K))|(refine zJ (fun hc=>?_) (fun hc=>?_)<;>simp at hc<;>(try subst hc)))
        all_goals first|(exfalso;omega)|omega|skip
        all_goals refine ⟨k+1,⟨hkl,hos2⟩,Nat.sub_lt_sub_left hkl (Nat.lt_succ_self k),?_⟩
        all_goals simp only[I3a]
        all_goals rw[hS]
        all_goals (refine Imp.aut ?_ ?_<;>simp[NLe,Zg,hT,hC,hl,q6,t4,t5])
       ·rw[if_neg hc0]at h7k
        have hk0:¬ ((k:Int)<0):=by omega
        repeat' with_reducible (first|refine ZR.h ?_|refine zI ?_|((first|refine zK hE ?_|refine zM hE ?_);intro K hK;simp[hT,hC,hl,hD,hkl,hkle,hg1,hg2,h7k,hdt,ww,hn1,hn2,hn3,hn4,t1,t2,t3,hk0];(repeat' (first|refine hK _ _ ?_|apply And.intro|(intro hc;try subst hc)))<;>(try clear hK K))|(refine zJ (fun hc=>?_) (fun hc=>?_)<;>simp at hc<;>(try subst hc)))
        all_goals refine Xv (s':=S3b a b nm d e1 f gs x L k) ?_ (w3b hS hcf hkle (by omega) hos ?_)
        ·rw[hS]
         simp only[S3b]
         (refine Imp.aut ?_ ?_<;>simp[NLe,Zg,hT,hC,t1,t2])
        ·intro s h6' hs
         show XC (Vm s [.t 6]) _;simp only[Vm,vI,h6'];refine ⟨_,rfl,?_⟩;show Imp 1 _ _;refine Imp.trans hs ?_;simp only[E3]
         (refine Imp.aut ?_ ?_<;>simp[NLe,Zg,hT,hC])
      ·have hke:k=L.length:=by omega
       subst hke
       repeat' with_reducible (first|refine ZR.h ?_|refine zI ?_|((first|refine zK hE ?_|refine zM hE ?_);intro K hK;simp[hT,hC,hl,hD,t1,t2,t3];(repeat' (first|refine hK _ _ ?_|apply And.intro|(intro hc;try subst hc)))<;>(try clear hK K))|(refine zJ (fun hc=>?_) (fun hc=>?_)<;>simp at hc<;>(try subst hc)))
       all_goals refine Xv (s':=S3b a b nm d e1 f gs x L L.length) ?_ (w3b hS hcf (Nat.le_refl _) (by omega) hos ?_)
       ·rw[hS]
        simp only[S3b]
        (refine Imp.aut ?_ ?_<;>simp[NLe,Zg,hT,hC,t1,t2])
       ·intro s h6' hs
        show XC (Vm s [.t 6]) _;simp only[Vm,vI,h6'];refine ⟨_,rfl,?_⟩;show Imp 1 _ _;refine Imp.trans hs ?_;simp only[E3]
        (refine Imp.aut ?_ ?_<;>simp[NLe,Zg,hT,hC])
    ·have h4:d4 [.agg [.int .i64 a,.int .i64 b,.int .i64 nm,.int .i64 d,.int .i64 e1,.int .i64 f,.int .i64 gs]]=some ⟨.tup [.agg [.int .i64 0,.int .i64 0,.int .i64 0,.int .i64 0,.int .i64 0,.int .i64 0,.int .i64 0],.iface 83 .bot],[]⟩:=by
      simp only[d4];rw[if_neg hck]
     have hz:=vb a b nm d e1 f gs hck;obtain ⟨z,hzz⟩:∃ z,Yy a b nm d e1 f gs=z:=⟨_,rfl⟩;rw[hzz]at h5 hz;have hz1:¬ (z<0):=(by omega);unfold m3
     repeat' with_reducible (first|refine ZR.h ?_|refine zI ?_|((first|refine zK hE ?_|refine zM hE ?_);intro K hK;simp[hT,hC,hl,hD,h4,h5,h6,hz,hz1];(repeat' (first|refine hK _ _ ?_|apply And.intro|(intro hc;try subst hc)))<;>(try clear hK K))|(refine zJ (fun hc=>?_) (fun hc=>?_)<;>simp at hc<;>(try subst hc)))
     all_goals first|(simp;done)|(simp at *;omega)|((try simp[hT,hC]);refine Imp.aut ?_ ?_<;>simp[NLe,Zg,hT,hC])
   ·cases h
  ·cases h
 ·cases h
end Go.W
namespace Go.W
set_option linter.unusedSimpArgs false
set_option linter.unusedVariables false
open Go.ChangeShapes Go.WideShapes Go.ChangeAt Go.RowKit Go.Joins Go.Deep
def Yp (k:Bool) (a:AV) (v:Value):Prop:=if k=true then ∃ b,a=.bool b∧v=.bool b else ∃ n,a=.int .i64 n∧v=.int .i64 n∧-9223372036854775808≤n∧n≤9223372036854775807
def T9 (P:Program) (fl:TypeId→Option (List Bool)):List Field→Nat→Option (List Bool)
 | [],_=>some []
 | f :: r,off=>match fl f.type with
  | some ks=>if f.offset=off∧P.cellsOf f.type=ks.length then (match T9 P fl r (off+ks.length) with
   | some rs=>some (ks++rs)
   | none=>none) else none
  | none=>none
def vQ (P:Program):Nat→TypeId→Option (List Bool)
 | 0,_=>none
 | d+1,t=>match P.underlying t with
  | some (.int .i64)=>some [false]
  | some .bool=>some [true]
  | some (.struct fs)=>match T9 P (vQ P d) fs.toList 0 with
   | some ks=>if P.cellsOf t=ks.length then some ks else none
   | none=>none
  | _=>none
section
variable {H:Type} {enc:TypeId×Value→H} {P:Program} {w:World} {base:Nat} {spare:Nat→Bool} {held:Bool}
theorem UT {fl:TypeId→Option (List Bool)} (hfl:∀ (t:TypeId) (ks:List Bool) (fuel:Nat) (cs:List Value) (x:DataW H×List MemPlace),fl t=some ks→DataW.trod enc P w base spare held fuel t cs=some x→cs.length=ks.length∧∀ (j:Nat) (k:Bool),ks[j]?=some k→∃ a v,cs[j]?=some v∧Yp k a v) {cs:List Value} :
  ∀ (l:List Field) (off:Nat) (ks:List Bool),T9 P fl l off=some ks→(∀ f,f∈l→∃ fuel x,DataW.trod enc P w base spare held fuel f.type ((cs.drop f.offset).take (P.cellsOf f.type))=some x)→∀ (j:Nat) (k:Bool),ks[j]?=some k→∃ a v,cs[off+j]?=some v∧Yp k a v
 | [],off,ks,h,_=>by
  simp only[T9,Option.some.injEq]at h;subst h;intro j k hk;simp at hk
 | f :: r,off,ks,h,hx=>by
  simp only[T9]at h;split at h
  ·rename_i k0 hk0
   split at h
   ·rename_i hc
    split at h
    ·rename_i rs hrs
     simp only[Option.some.injEq]at h;subst h;have h2:=UT hfl r (off+k0.length) rs hrs fun g hg=>hx g (List.mem_cons_of_mem _ hg);obtain ⟨fuel,x,h3⟩:=hx f List.mem_cons_self;rw[hc.1,hc.2]at h3;obtain ⟨h4,h5⟩:=hfl _ _ _ _ _ hk0 h3;intro j k hk;by_cases hj:j<k0.length
     ·rw[List.getElem?_append_left hj]at hk
      obtain ⟨a,v,e1,e2⟩:=h5 j k hk;rw[List.getElem?_take,if_pos hj,List.getElem?_drop]at e1;exact ⟨a,v,e1,e2⟩
     ·rw[List.getElem?_append_right (by omega)]at hk
      obtain ⟨a,v,e1,e2⟩:=h2 _ k hk;rw[show off+k0.length+(j - k0.length)=off+j from by omega]at e1;exact ⟨a,v,e1,e2⟩
    ·cases h
   ·cases h
  ·cases h
theorem Ti:∀ (dp:Nat) (t:TypeId) (ks:List Bool) (fuel:Nat) (cs:List Value) (x:DataW H×List MemPlace),vQ P dp t=some ks→DataW.trod enc P w base spare held fuel t cs=some x→cs.length=ks.length∧∀ (j:Nat) (k:Bool),ks[j]?=some k→∃ a v,cs[j]?=some v∧Yp k a v
 | 0,t,ks,fuel,cs,x,h,_=>by simp[vQ]at h
 | d+1,t,ks,fuel,cs,x,h,hx=>by
  unfold vQ at h;split at h
  ·rename_i hu
   simp only[Option.some.injEq]at h;subst h;obtain ⟨n,rfl,_,hwf⟩:=DataW.trod_int hu hx;have hr:-9223372036854775808≤n∧n≤9223372036854775807:=(by simpa [Lit.wf,IntKind.min,IntKind.max,IntKind.bits,IntKind.signed] using hwf);refine ⟨rfl,fun j k hk=>?_⟩;cases j with
   | zero=>simp at hk;subst hk;exact ⟨.int .i64 n,.int .i64 n,rfl,by rw[Yp,if_neg (by simp)];exact ⟨n,rfl,rfl,hr⟩⟩
   | succ j=>simp at hk
  ·rename_i hu
   simp only[Option.some.injEq]at h;subst h;obtain ⟨b,rfl,_⟩:=DataW.trod_bool hu hx;refine ⟨rfl,fun j k hk=>?_⟩;cases j with
   | zero=>simp at hk;subst hk;exact ⟨.bool b,.bool b,rfl,by rw[Yp,if_pos rfl];exact ⟨b,rfl,rfl⟩⟩
   | succ j=>simp at hk
  ·rename_i fs hu
   split at h
   ·rename_i ks' hm
    split at h
    ·rename_i hc
     simp only[Option.some.injEq]at h;subst h;obtain ⟨xs,n,_,_,hl,hxl,hf⟩:=DataW.trod_struct hu hx;have:=UT (fun t k fuel cs x=>Ti d t k fuel cs x) fs.toList 0 ks' hm fun f hfm=>by
      obtain ⟨i,hi⟩:=List.getElem?_of_mem hfm;have hi':fs[i]?=some f:=(by rw[← Array.getElem?_toList];exact hi);have h1:=hf i f hi';have hlt:i<xs.length:=(by rw[hxl];exact (Array.getElem?_eq_some_iff.1 hi').1);rw[List.getElem?_eq_getElem hlt]at h1;exact ⟨n,_,h1⟩
     exact ⟨by rw[hl,hc],fun j k hk=>by have:=this j k hk;rwa [Nat.zero_add]at this⟩
    ·cases h
   ·cases h
  ·cases h
end
def ZcT (ks:List Bool) (c:List AV):Prop:=c.length=ks.length∧∀ (j:Nat) (k:Bool),ks[j]?=some k→∃ a v,c[j]?=some a∧Yp k a v
theorem TN {ks:List Bool} {c:List AV} (h:ZcT ks c):ZaI c=true:=by
 refine List.all_eq_true.2 fun a ha=>?_;obtain ⟨j,hj⟩:=List.getElem?_of_mem ha;have hlt:j<ks.length:=by rw[← h.1];exact (List.getElem?_eq_some_iff.1 hj).1
 obtain ⟨a',v,h1,h2⟩:=h.2 j _ (List.getElem?_eq_getElem hlt);rw[hj]at h1;simp only[Option.some.injEq]at h1;subst h1;unfold Yp at h2;split at h2
 ·obtain ⟨b,rfl,_⟩:=h2;rfl
 ·obtain ⟨n,rfl,_⟩:=h2;rfl
theorem ZbK {ρ:Env} {k:Bool} {a:AV} {v:Value} (h:Yp k a v):Rep ρ a v:=by
 unfold Yp at h;split at h
 ·obtain ⟨b,rfl,rfl⟩:=h;simp[Rep]
 ·obtain ⟨n,rfl,rfl,_⟩:=h;simp[Rep]
theorem xD {H:Type} {enc:TypeId×Value→H} {P:Program} {w:World} {base b0:Nat} {r:Reach} {t e:TypeId} {v:Value} {d:DataW H} {p:List MemPlace} (ht:P.underlying t=some (.slice e)) {ks:List Bool} {z:Nat} (hfl:vQ P 6 e=some ks) (hz:ks.length=z) (hz0:0<z) (hce:P.cellsOf e=z) (hv:Value.okWide P w r b0 t v) (h:DataW.Trod enc P w base (fun _=>true) true t v d p) :
  ∃ (els:List (List AV)) (L:Loc),(∀ c,c∈els→ZcT ks c)∧(∀ ρ nm,Z9 ρ L (flO nm (.view 0 z els)) w)∧(L.nil=false→L.blk<w.heap.size)∧(∀ (ρ:Env) nm,ρ nm=L→Rep ρ (.sl nm 0 els.length) v):=by
 obtain ⟨q,len0,cap0,rfl⟩:=okWide_slice ht hv
 obtain ⟨fuel,hf⟩:=h
 have hcs:(Value.slice q len0 cap0).cells.toList=[.slice q len0 cap0]:=rfl
 rw[hcs]at hf
 have nilcase:∀ (c:Option Addr),∃ (els:List (List AV)) (L:Loc),(∀ c,c∈els→ZcT ks c)∧(∀ ρ nm,Z9 ρ L (flO nm (.view 0 z els)) w)∧(L.nil=false→L.blk<w.heap.size)∧(∀ (ρ:Env) nm,ρ nm=L→Rep ρ (.sl nm 0 els.length) (.slice c 0 0)):=fun c =>
  ⟨[],Xx,fun c hc=>by simp at hc,fun ρ nm=>.inl ⟨rfl,rfl⟩,(fun h=>by simp[Xx]at h),(fun ρ nm hρ=>by
   rw[Rep];exact .inl ⟨by rw[hρ];rfl,rfl,rfl,c,rfl⟩)⟩
 rcases open_slice ht hf with ⟨h0,_⟩ | ⟨a,len,cap,m,n,D,Pl,h0,hb,hl,hm,hmm,_,hx⟩
 ·simp only[List.cons.injEq,and_true]at h0
  rw[h0];exact nilcase none
 ·simp only[List.cons.injEq,and_true]at h0
  rw[h0];simp only[if_true]at hmm;subst hmm;by_cases hc0:m=0
  ·subst hc0
   have:len=0:=(by omega);subst this;exact nilcase (some a)
  ·rw[hce]at hx
   have cell:∀ i,i<m→∃ f:Nat→AV,∀ j,j<z→∃ k v,ks[j]?=some k∧w.cell? (a.add (i*z+j))=some v∧Yp k (f j) v:=fun i hi=>by
    obtain ⟨cs',g1,g2⟩:=hx i hi;obtain ⟨_,g3,g4⟩:=World.cells?_some g1;obtain ⟨_,g6⟩:=Ti 6 e ks n cs' _ hfl g2;refine choose_lt (α:=AV) (n:=z) (p:=fun j a' => ∃ k v,ks[j]?=some k∧w.cell? (a.add (i*z+j))=some v∧Yp k a' v) fun j hj=>?_;have hk:=List.getElem?_eq_getElem (l:=ks) (show j<ks.length by omega);obtain ⟨a',v,e1,e2⟩:=g6 j _ hk;have:=g4 j hj;rw[add_add,e1]at this;exact ⟨a',_,v,hk,this,e2⟩
   obtain ⟨F,hF⟩:=choose_lt (α:=Nat→AV) (n:=m) (p:=fun i f=>∀ j,j<z→∃ k v,ks[j]?=some k∧w.cell? (a.add (i*z+j))=some v∧Yp k (f j) v) cell;obtain ⟨k00,u0,_,hu0,_⟩:=hF 0 (by omega) 0 hz0;rw[Nat.zero_mul,Nat.zero_add]at hu0;have ha0:a.add 0=a:=(by simp[Addr.add]);rw[ha0]at hu0;have hsp:a.spot=none:=by
    unfold World.cell? at hu0;split at hu0
    ·split at hu0
     ·cases hu0
     ·rename_i hs
      cases hsp:a.spot with
      | none=>rfl
      | some s=>rw[hsp]at hs;simp at hs
    ·cases hu0
   obtain ⟨blk,off,spt⟩:=a;simp only at hsp;subst hsp;have hblk:=World.block_lt_of_cell? w _ hu0;have hrow:∀ i,i<m→ZcT ks ((List.range z).map (F i)):=fun i hi=>⟨by rw[List.length_map,List.length_range,hz],fun j k hk=>by
    have hj:j<z:=(by rw[← hz];exact (List.getElem?_eq_some_iff.1 hk).1);obtain ⟨k',v,e1,e2,e3⟩:=hF i hi j hj;rw[hk]at e1;simp only[Option.some.injEq]at e1;subst e1;exact ⟨F i j,v,by rw[List.getElem?_map,List.getElem?_range hj];rfl,e3⟩⟩
   refine ⟨(List.range len).map fun i=>(List.range z).map (F i),⟨blk,off,z,m,false⟩,fun c hc=>?_,fun ρ nm=>?_,fun _=>hblk,fun ρ nm hρ=>?_⟩
   ·obtain ⟨i,hi,rfl⟩:=List.mem_map.1 hc
    exact hrow i (by have:=List.mem_range.1 hi;omega)
   ·refine .inr ⟨rfl,rfl,by rw[List.length_map,List.length_range];exact hl,fun i hi=>?_,fun i hi j v hv=>?_⟩
    ·simp only[List.length_map,List.length_range]at hi
     rw[Yl,List.getD_eq_getElem?_getD,List.getElem?_map,List.getElem?_range hi];show ((List.range z).map (F i)).length=z;rw[List.length_map,List.length_range]
    ·simp only[List.length_map,List.length_range]at hi
     have e1:((List.range len).map fun i=>(List.range z).map (F i)).getD i []=(List.range z).map (F i):=by
      rw[List.getD_eq_getElem?_getD,List.getElem?_map,List.getElem?_range hi];rfl
     rw[e1,Yf (YB (TN (hrow i (by omega)))),List.getElem?_map]at hv;by_cases hj:j<z
     ·rw[List.getElem?_range hj]at hv
      simp only[Option.map_some,Option.some.injEq]at hv;subst hv;obtain ⟨k,u,_,e3,e6⟩:=hF i (by omega) j hj;refine ⟨u,?_,ZbK e6,?_⟩
      ·rw[← e3]
       congr 1
       unfold Addr.add;split
       ·rename_i h0;simp[h0]
       ·rfl
      ·unfold Yp at e6
       split at e6
       ·obtain ⟨b,_,hn⟩:=e6;rw[hn];rfl
       ·obtain ⟨n,_,hn,_⟩:=e6;rw[hn];rfl
     ·rw[List.getElem?_eq_none (by rw[List.length_range];omega)]at hv
      simp only[Option.map_none,reduceCtorEq]at hv
   ·rw[Rep,List.length_map,List.length_range]
    refine .inr ⟨by rw[hρ],by rw[hρ,Nat.zero_add];exact hl,off,by rw[hρ];rfl,fun _=>by rw[hρ];simp⟩
theorem ZbJ {P:Program} {f:FuncId} {d:List AV→List NObj→Option AV} {ok:ROk d} (hs:Sound P f (rdS d ok)) {W:World} {hl:HL} {m:Nat} {Ls:Nat→Loc}
  (hv:∀ k,k<m→∃ sz els,hk hl k=.view 0 sz els∧(∀ c,c∈els→ZaI c=true)∧(∀ ρ,Z9 ρ (Ls k) (flO (.top k) (.view 0 sz els)) W)∧((Ls k).nil=false→(Ls k).blk<W.heap.size)) (hf:∀ k,m≤k→hk hl k=.free)
  {avs:List AV} {vs:List Value} {b:Bool} {rd:List Nat} (h:rdF d avs (hk hl) m=some ⟨.bool b,[],rd⟩) (hrep:∀ ρ:Env,(∀ k,k<m→ρ (.top k)=Ls k)→ZB ρ avs vs) :
  Calls P f vs.toArray W fun e W' => e=.returned (.bool b)∧Below W.heap.size W W':=by
 have hcase:∀ x:Nm,(∃ k,k<m∧x=.top k)∨Za (hk hl) x=.free:=fun x=>by
  by_cases hr:x.root<m
  ·obtain ⟨sz,els,h1,h2,_⟩:=hv x.root hr
   by_cases hx:x=.top x.root
   ·exact .inl ⟨x.root,hr,hx⟩
   ·exact .inr (Y1 (n:=x.root) (fun t j f=>by
     rw[h1];exact yG (sz:=sz) (w:=els) (fun j c hc=>YB (h2 c (List.mem_of_getElem? hc))) t j f) rfl hx)
  ·exact .inr (YC (n:=x.root) (hf _ (by omega)) rfl)
 have h0:∀ k,k<m→∃ sz els,hk hl k=.view 0 sz els∧HF (hk hl) (.top k)=flO (.top k) (.view 0 sz els)∧(∀ ρ,Z9 ρ (Ls k) (flO (.top k) (.view 0 sz els)) W)∧((Ls k).nil=false→(Ls k).blk<W.heap.size):=fun k hk0=>by
  obtain ⟨sz,els,h1,_,h2,h3⟩:=hv k hk0;refine ⟨sz,els,h1,?_,h2,h3⟩;unfold HF;rw[Za,h1]
 have:=hs.calls W noSc (fun ρ=>∀ k,k<m→ρ (.top k)=Ls k) (fun x=>m≤x.mx) (hk hl) W avs vs m _ ⟨fun x=>Ls x.root,fun k _=>rfl⟩ (fun ρ ρ' hρ he k hk0=>by rw[he (.top k) (by simp[Nm.mx];omega)];exact hρ k hk0) (fun x hx=>by
   rcases hcase x with ⟨k,hk0,rfl⟩ | e
   ·simp only[Nm.mx]at hx;omega
   ·exact Zi.2 e) (fun ρ ρ' h1 h2 x hx=>by
   rcases hcase x with ⟨k,hk0,rfl⟩ | e
   ·rw[h1 k hk0,h2 k hk0]
   ·exact absurd (Zi.2 e) hx)
  (fun ρ hρ=>⟨rfl,rfl,rfl,Nat.le_refl _,fun _ _ _=>rfl,fun x=>by
    rcases hcase x with ⟨k,hk0,rfl⟩ | e
    ·obtain ⟨sz,els,g1,g2,g3,g4⟩:=h0 k hk0
     rw[g2,hρ k hk0];exact g3 ρ
    ·rw[Zi.2 e];trivial,fun x hx=>by
    rcases hcase x with ⟨k,hk0,rfl⟩ | e
    ·obtain ⟨sz,els,g1,g2,g3,g4⟩:=h0 k hk0
     rw[g2]at hx;exact hx.elim
    ·rw[Zi.2 e]at hx;exact hx.elim,fun x y hx=>by
    rcases hcase x with ⟨k,hk0,rfl⟩ | e
    ·obtain ⟨sz,els,g1,g2,g3,g4⟩:=h0 k hk0
     rw[g2]at hx;exact hx.elim
    ·rw[Zi.2 e]at hx;exact hx.elim,fun x hx=>by
    rcases hcase x with ⟨k,hk0,rfl⟩ | e
    ·obtain ⟨sz,els,g1,g2,g3,g4⟩:=h0 k hk0
     rw[g2,hρ k hk0]at hx;rw[hρ k hk0];exact ⟨g4 hx,fun h=>h⟩
    ·rw[Zi.2 e]at hx;exact hx.elim,fun x hx=>absurd hx (Nat.not_lt_zero x)⟩) (fun ρ hρ=>hrep ρ hρ) h (fun x hx=>hx.1)
 refine this.mono fun e W' ⟨v,g,he,hv'⟩ => ?_
 obtain ⟨q1,q2⟩:=hv' (fun x=>if m≤x.mx then g x else Ls x.root) (fun k hk0=>by rw[if_neg (by simp only[Nm.mx];omega)];rfl) (fun x hx=>by simp[hx.1])
 simp only[Rep]at q1
 subst q1
 exact ⟨he,q2.below⟩
end Go.W
