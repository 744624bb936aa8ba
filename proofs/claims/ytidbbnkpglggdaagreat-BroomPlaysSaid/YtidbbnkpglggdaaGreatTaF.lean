/- The document's sweeper: its step. Reapers: both alike. The document's reaper: its step. What a broom tells of itself. Structs that a slice of pointers owns. Passes and steps: numbers. -/
import Derived.Test.YtidbbnkpglggdaaGreatPsQ
import Derived.Test.YtidbbnkpglggdaaGreatSbI
import Derived.Test.YtidbbnkpglggdaaGreatSbG
import Derived.Test.YtidbbnkpglggdaaGreatPaA
namespace Go.W
open Go.Proofs
set_option linter.unusedSimpArgs false
set_option linter.unusedVariables false
set_option maxHeartbeats 8000000
set_option maxRecDepth 100000
attribute [local irreducible] Wm WmA
attribute [local simp] YP lkp Vq prs V9 prT ddL idL Yy Ue Ren Ve NObj.none ZT
def sqT (Q:QZ) (z:SqZ):RZ:=if z.st % 14=0 then rOf (tz0 3 (z.st / 14 % (Q.a*Q.b*(Q.a*Q.b)) / (Q.a*Q.b)) 0 (z.st / 14 % (Q.a*Q.b*(Q.a*Q.b)) % (Q.a*Q.b)) z.sh) else z.R
theorem ZbO (Q:QZ) (z:SqZ):UQ Q z=(⟨z.sh,z.st+1,(ZG Q (sqT Q z)).1⟩,(ZG Q (sqT Q z)).2):=by
 unfold UQ sqT;split<;>rfl
def sqC (z:SqZ):List AV:=.int .i64 z.sh :: .int .i64 z.st :: rzC z.R
theorem yp {a b:Int} (h1:0≤a) (h2:a≤1000000000) (h3:1≤b):IntKind.wrap .i64 (a.tmod b)=a % b:=by
 rw[Int.tmod_eq_emod_of_nonneg h1];have h4:=Int.emod_nonneg a (show b≠0 by omega);have h5:=Int.emod_lt_of_pos a (show 0<b by omega);have h6:a % b≤a:=by have h7:=Int.mul_nonneg (show 0≤b by omega) (Int.ediv_nonneg h1 (show 0≤b by omega));have h8:=Int.emod_def a b;omega
 exact Zg (by omega) (by omega)
theorem rz0 (w x g y s:Int):rOf (tz0 w x g y s)=⟨w,x,g,y,s,0,Zu,Zu,Zu,Zu,⟨0,0,0,0,0⟩,⟨0,0,0,0,0⟩,false,false,false,0,0,0,0⟩:=by
 have h:Zc 0=Zu:=by simp[Zc,TU,Zu]
 simp only[rOf,tz0,h]
theorem e10w {Q:QZ} {R:RZ} (hr:okR R=true) (hok:okQ Q=true) (hsm:smQ Q=true) (hn:ZfC Q R=true) (sw sp:Int) (u v:Nat):d10 [.op u (.int .i64 sw :: .int .i64 sp :: rzC R),.op v (qzC Q)]=some ⟨.tup [],[.cells 0 (.int .i64 sw :: .int .i64 sp :: rzC (ZG Q R).1),.cells 0 (qzC (ZG Q R).2)]⟩:=by
 simp only[d10,vp,V6];rw[if_pos ⟨hr,hok,hsm,hn⟩]
def d23:List AV→Option Ans
 | [.op _ (.int .i64 sw :: .int .i64 sp :: r),.op _ q]=>(match Zje r,Zay q with
  | some R,some Q=>if okQ Q=true∧smQ Q=true∧0≤sp∧sp≤1000000∧okR (sqT Q ⟨sw,sp,R⟩)=true∧ZfC Q (sqT Q ⟨sw,sp,R⟩)=true then some ⟨.tup [],[.cells 0 (sqC (UQ Q ⟨sw,sp,R⟩).1),.cells 0 (qzC (UQ Q ⟨sw,sp,R⟩).2)]⟩ else none
  | _,_=>none)
 | _=>none
theorem ok23:NOk [(45,true),(13,true)] d23:=by
 intro xs aa h;unfold d23 at h;split at h
 ·rename_i t1 sw sp r t2 q
  split at h
  ·rename_i R Q hR hQ
   split at h
   ·rename_i hc
    obtain rfl:=Yv hQ;obtain rfl:=Ux hR;rw[ZbO]at h;injection h with h;subst h;have hok:=hc.1;have q8:=(Zr hok).2.2.2.2.2.2.2.1;have q82:=(Zr (xJ hok (sqT Q ⟨sw,sp,R⟩))).2.2.2.2.2.2.2.1;refine ⟨Zp ?_,?_⟩
    ·simp[sqC,Y3 Q q8,YA Q q8,YA _ q82,X3,X6]
    ·simp
   ·cases h
  ·cases h
 ·cases h
theorem s23:Sound Tryz.prog 23 (Zm [(45,true),(13,true)] d23 ok23):=by
 refine Zi (ac:=?ac) (res:=?res) Tryz.func23 (by kernel_rfl) (ha:=?ha) (hk:=?hk) (hok:=ok23) (fun xs a h=>?_) fun xs a h w0 S hS=>?_
 case ha=>conv=>lhs;cbv
 case hk=>kernel_rfl
 ·unfold d23 at h
  (repeat' (split at h))<;>first|(cases h;done)|exact Nat.le_of_ble_eq_true rfl
 unfold d23 at h;split at h
 ·rename_i t1 sw sp r t2 q
  split at h
  ·rename_i R Q hR hQ
   split at h
   ·rename_i hcond
    obtain rfl:=Yv hQ;obtain rfl:=Ux hR;rw[ZbO]at h;injection h with h;subst h;clear hQ hR;have hE:Zd Tryz.prog (EL [(10,Zhh 2 [(45,true),(13,true)] d10 ok10)]):=Ze (by simp only[List.mem_cons,List.not_mem_nil,or_false,forall_eq_or_imp,forall_eq];exact s10);obtain ⟨hok,hsm,p0,p1,hr,hn⟩:=hcond;have hS0:=Z4 Q.S;have hS1:=Z5 Q.S;have hT0:=Z7 Q.T;have hT1:=Z6 Q.T;have hJ0:=Z1 Q.J;have hJ1:=Z0 Q.J;obtain ⟨q1,q2,q3,q4,q5,q6,q7,q8,q9⟩:=Zr hok;have hL0:=ZC q8;have hL1:=ZD q8;have hcf:=ZE q1;have hall:=ZB q1;have hSl:=Uk Q.S;have h10:=e10w hr hok hsm hn;have hok2:=xJ hok (sqT Q ⟨sw,sp,R⟩);obtain ⟨T,hT⟩:∃ T,sqT Q ⟨sw,sp,R⟩=T:=⟨_,rfl⟩;rw[hT]at h10 hok2⊢;obtain ⟨⟨R2,Q2⟩,hq2⟩:∃ z,ZG Q T=z:=⟨_,rfl⟩;rw[hq2]at h10 hok2⊢;have q82:=(Zr hok2).2.2.2.2.2.2.2.1;have hz02:=Y3 Q2 q82;have hz12:=YA Q2 q82;have hzr2:=YR hok2;have hS02:=Z4 Q2.S;have hS12:=Z5 Q2.S;have hT02:=Z7 Q2.T;have hT12:=Z6 Q2.T;have hJ02:=Z1 Q2.J;have hJ12:=Z0 Q2.J;have hL02:=ZC (show Q2.lg.all row14=true from q82);have hL12:=ZD (show Q2.lg.all row14=true from q82);have hy02:=X3 R2;have hy12:=X6 R2;have hyr:=Za1 R2;have w14:IntKind.wrap .i64 (sp.tmod 14)=sp % 14:=yp (by omega) (by omega) (by omega);have e14:sp.tmod 14=sp % 14:=Int.tmod_eq_emod_of_nonneg p0;have w142:IntKind.wrap .i64 (sp % 14)=sp % 14:=(by rw[← e14];rw[w14,e14]);have wsp:IntKind.wrap .i64 (sp+1)=sp+1:=Zg (by omega) (by omega);by_cases h14:sp % 14=0
    ·obtain ⟨n,hn⟩:∃ n,Q.a*Q.b=n:=⟨_,rfl⟩
     rw[hn]at hall q2;have hnn:=Xh (show 0≤n by omega) hall.2 (show 0≤n by omega) hall.2;have hn1:1≤n*n:=(by have:=Int.mul_le_mul hall.1 hall.1 (by omega) (show 0≤n by omega);omega);have d14:IntKind.wrap .i64 (sp.tdiv 14)=sp / 14:=Xq (by omega) (by omega) (by omega);have dn:IntKind.wrap .i64 (n*n)=n*n:=Zg (by omega) (by omega);have b1:¬ n*n=0:=(by omega);have b2:¬ n=0:=(by omega);have k0:0≤sp / 14:=Int.ediv_nonneg p0 (by omega);have k1:sp / 14≤sp:=Int.ediv_le_self _ p0;have em:(sp / 14).tmod (n*n)=sp / 14 % (n*n):=Int.tmod_eq_emod_of_nonneg k0;have dm:IntKind.wrap .i64 ((sp / 14).tmod (n*n))=sp / 14 % (n*n):=yp k0 (by omega) hn1;have dm2:IntKind.wrap .i64 (sp / 14 % (n*n))=sp / 14 % (n*n):=(by rw[← em];rw[dm,em]);have k2:=Int.emod_nonneg (sp / 14) (show n*n≠0 by omega);have k3:=Int.emod_lt_of_pos (sp / 14) (show 0<n*n by omega);have dx:IntKind.wrap .i64 ((sp / 14 % (n*n)).tdiv n)=sp / 14 % (n*n) / n:=Xq k2 (by omega) (by omega);have dy:IntKind.wrap .i64 ((sp / 14 % (n*n)).tmod n)=sp / 14 % (n*n) % n:=yp k2 (by omega) (by omega);have ex:(sp / 14 % (n*n)).tdiv n=sp / 14 % (n*n) / n:=Int.tdiv_eq_ediv_of_nonneg k2;have ey:(sp / 14 % (n*n)).tmod n=sp / 14 % (n*n) % n:=Int.tmod_eq_emod_of_nonneg k2;have dx2:IntKind.wrap .i64 (sp / 14 % (n*n) / n)=sp / 14 % (n*n) / n:=(by rw[← ex];rw[dx,ex]);have dy2:IntKind.wrap .i64 (sp / 14 % (n*n) % n)=sp / 14 % (n*n) % n:=(by rw[← ey];rw[dy,ey]);have dz:sp / 14 % (n*n) % n=sp / 14 % n:=Int.emod_emod_of_dvd _ ⟨n,rfl⟩
     rw[dz]at dy2;have e:T=⟨3,sp / 14 % (n*n) / n,0,sp / 14 % n,sw,0,Zu,Zu,Zu,Zu,⟨0,0,0,0,0⟩,⟨0,0,0,0,0⟩,false,false,false,0,0,0,0⟩:=by
      rw[← hT,← rz0];unfold sqT;rw[if_pos h14,hn,dz]
     clear hT;subst e;simp only[rzC,Zu,qzC]at h10;simp only[rzC,qzC]at hS⊢
     repeat' with_reducible (first|refine ZR.h ?_|refine kI ?_|((first|refine kR hE ?_|refine kD hE Zq ?_);intro K hK;simp[hS0,hS1,hT0,hT1,hJ0,hJ1,hL0,hL1,hSl,q2,e14,w142,wsp,h14,d14,dn,b1,b2,em,dm2,ex,ey,dx2,dy2,h10,hz02,hz12,hzr2,hy02,hy12];(repeat' (first|refine hK _ _ ?_|apply And.intro|(intro hc;try subst hc)))<;>(try clear hK K))|(refine kT (fun hc=>?_) (fun hc=>?_)<;>simp at hc<;>(try subst hc)))
     all_goals try (show Zb _ _=true;kernel_rfl)
     all_goals first|(simp;done)|(exfalso;omega)|((try simp[sqC,qzC,rzC,hS02,hS12,hT02,hT12,hJ02,hJ12,hL02,hL12]);refine Imp.aut ?_ ?_<;>simp[NLe,sqC,qzC,rzC,hS02,hS12,hT02,hT12,hJ02,hJ12,hL02,hL12])
    ·have e:T=R:=by
      rw[← hT];unfold sqT;rw[if_neg h14]
     clear hT;subst e;have hy0:=X3 T;have hy1:=X6 T;simp only[qzC]at h10;simp only[qzC]at hS⊢
     repeat' with_reducible (first|refine ZR.h ?_|refine kI ?_|((first|refine kR hE ?_|refine kD hE Zq ?_);intro K hK;simp[hS0,hS1,hT0,hT1,hJ0,hJ1,hL0,hL1,hSl,e14,w142,wsp,h14,h10,hz02,hz12,hzr2,hy02,hy12,hy0,hy1];(repeat' (first|refine hK _ _ ?_|apply And.intro|(intro hc;try subst hc)))<;>(try clear hK K))|(refine kT (fun hc=>?_) (fun hc=>?_)<;>simp at hc<;>(try subst hc)))
     all_goals try (show Zb _ _=true;kernel_rfl)
     all_goals first|(simp;done)|(exfalso;omega)|((try simp[sqC,qzC,rzC,hS02,hS12,hT02,hT12,hJ02,hJ12,hL02,hL12]);refine Imp.aut ?_ ?_<;>simp[NLe,sqC,qzC,rzC,hS02,hS12,hT02,hT12,hJ02,hJ12,hL02,hL12])
   ·cases h
  ·cases h
 ·cases h
end Go.W
namespace Go.W
open Go.Proofs
set_option linter.unusedSimpArgs false
set_option linter.unusedVariables false
set_option maxHeartbeats 8000000
set_option maxRecDepth 100000
structure RqZ where
 sh:Int
 st:Int
 s:StZ
 t:TmZ
 dn:Bool
 ta:Int
def yM (Q:QZ) (z:RqZ) (c:Int):RqZ×QZ :=
 if z.st % 4=0 then ({ z with dn:=false,s:=vf Q c },YO Q)
 else if z.st % 4=1 then ({ z with t:=ZdV Q c },YO Q)
 else if z.st % 4=2 then
  (if ZA z.s.k=true∧ZK Q.c Q.d z.t.nm (Yj Q.d z.t.pr)=z.sh∧z.t.un≤Q.now then
   (if (ZO Q c z.s { z.s with k:=7 }).1=true then ({ z with dn:=true,s:={ z.s with k:=7 },ta:=Q.now },U5 (ZO Q c z.s { z.s with k:=7 }).2 5 c z.s.g 0 0 0 0 0) else (z,(ZO Q c z.s { z.s with k:=7 }).2))
  else (z,Q))
 else if z.dn=true then (z,Xa Q c z.s.g Q.f (ZJ z.s z.ta).1) else (z,Q)
def T4 (Q:QZ) (z:RqZ):RqZ×QZ:=({ (yM Q z (z.st / 4 % (Q.a*Q.b))).1 with st:=z.st+1 },(yM Q z (z.st / 4 % (Q.a*Q.b))).2)
def Zal (n:Int) (R:RpZ):RqZ:=⟨R.sh,4*(n*R.ps)+R.pc,R.st,R.tm,R.dn,R.ta⟩
def RpJ (G F n:Int) (R:RpZ):Prop:=0≤R.pc∧R.pc<4*n∧0≤R.ps∧ZfZ G F R.wd∧(0≤R.wd∧R.wd<18446744073709551616)∧okS R.st=true∧(0≤R.ta∧R.ta≤1000000)
 ∧ (R.pc % 4=1∨R.pc % 4=2→R.st=Zc R.wd∧R.dn=false)∧(R.pc % 4=3→R.dn=true→Zca G F R.st∧R.st.k=7)
theorem end7 {s:StZ} (h:s.k=7) (t:Int):(ZJ s t).2=true:=by
 unfold ZJ
 repeat' split
 all_goals first|rfl|omega
section
variable {W:WZ} {Q:QZ} {R:RpZ}
def ZgK (W:WZ) (Q:QZ) (R R':RpZ) (W':WZ) (z:RqZ×QZ):Prop:=∃ Q',z=(⟨R.sh,4*(W.a*W.b*R.ps)+R.pc,R'.st,R'.tm,R'.dn,R'.ta⟩,Q')∧R'.sh=R.sh∧R'.pc=R.pc∧R'.ps=R.ps∧Sim W' Q'∧yR W'∧W'.s - W.s=Q'.u - Q.u∧(∀ B was Ts,Vr B was W Ts→Vr B was W' Ts)∧X5 W'=X5 W∧W'.lg.length≤W.lg.length+1∧W.s≤W'.s∧W'.s≤W.s+1
 ∧ ZfZ W.g W.f R'.wd∧(0≤R'.wd∧R'.wd<18446744073709551616)∧okS R'.st=true∧(0≤R'.ta∧R'.ta≤1000000)∧(R.pc % 4=0∨R.pc % 4=1→R'.st=Zc R'.wd∧R'.dn=false)∧(R.pc % 4=2→R'.dn=true→Zca W.g W.f R'.st∧R'.st.k=7)
theorem ZfL (h:Sim W Q) (hg:yR W) (hR:RpJ W.g W.f (W.a*W.b) R):ZgK W Q R (Xm W R).1 (Xm W R).2 (yM Q (Zal (W.a*W.b) R) (R.pc / 4)):=by
 obtain ⟨r0,r1,r2,r3,r4,r5,r6,r7,r8⟩:=hR;obtain ⟨pa,pb,pc,pd,pf,pg⟩:=h.par;have c0:0≤R.pc / 4:=by omega
 have c1:R.pc / 4<W.a*W.b:=by omega
 have hm:(Zal (W.a*W.b) R).st % 4=R.pc % 4:=by show (4*(W.a*W.b*R.ps)+R.pc) % 4=R.pc % 4;omega
 have hcf:=ZE (Zk h.okw).1;have hwt:=Zk h.okw;have sub0:(Yn W).s - W.s=(YO Q).u - Q.u:=by show W.s+1 - W.s=Q.u+1 - Q.u;omega
 have nochg:W.s - W.s=Q.u - Q.u:=by omega
 obtain ⟨c,hc⟩:∃ c,R.pc / 4=c:=⟨_,rfl⟩;rw[hc]at c0 c1;unfold ZgK Xm yM;rw[hm,hc];by_cases k0:R.pc % 4=0
 ·rw[if_pos k0,if_pos k0]
  have hlo:=zu h.okw c0 c1;have hw:=(Zg8 hwt.2.1 (i:=(2*c).toNat) (by omega)).2;refine ⟨YO Q,?_,rfl,rfl,rfl,Vi h,hg,sub0,fun _ _ _ j=>Za7 j,rfl,by show W.lg.length≤W.lg.length+1;omega,by show W.s≤W.s+1;omega,by show W.s+1≤W.s+1;omega,hg c c0 c1,hw,XJ _,r6,fun _=>⟨rfl,rfl⟩,fun a=>by omega⟩;rw[sQ h c0 c1];rfl
 rw[if_neg k0,if_neg k0];by_cases k1:R.pc % 4=1
 ·rw[if_pos k1,if_pos k1]
  refine ⟨YO Q,?_,rfl,rfl,rfl,Vi h,hg,sub0,fun _ _ _ j=>Za7 j,rfl,by show W.lg.length≤W.lg.length+1;omega,by show W.s≤W.s+1;omega,by show W.s+1≤W.s+1;omega,r3,r4,r5,r6,fun _=>r7 (.inl k1),fun a=>by omega⟩;rw[tQ h c0 c1];rfl
 rw[if_neg k1,if_neg k1];by_cases k2:R.pc % 4=2
 ·rw[if_pos k2,if_pos k2]
  obtain ⟨e1,e2⟩:=r7 (.inr k2);have stay:∀ Q1:QZ,Q1=Q→∃ Q',((Zal (W.a*W.b) R,Q1):RqZ×QZ)=(⟨R.sh,4*(W.a*W.b*R.ps)+R.pc,R.st,R.tm,R.dn,R.ta⟩,Q')∧R.sh=R.sh∧R.pc=R.pc∧R.ps=R.ps∧Sim W Q'∧yR W∧W.s - W.s=Q'.u - Q.u∧(∀ B was Ts,Vr B was W Ts→Vr B was W Ts)∧X5 W=X5 W∧W.lg.length≤W.lg.length+1∧W.s≤W.s∧W.s≤W.s+1
    ∧ ZfZ W.g W.f R.wd∧(0≤R.wd∧R.wd<18446744073709551616)∧okS R.st=true∧(0≤R.ta∧R.ta≤1000000)∧(R.pc % 4=0∨R.pc % 4=1→R.st=Zc R.wd∧R.dn=false)∧(R.pc % 4=2→R.dn=true→Zca W.g W.f R.st∧R.st.k=7):=fun Q1 e=>by
   subst e
   exact ⟨_,rfl,rfl,rfl,rfl,h,hg,nochg,fun _ _ _ j=>j,rfl,by omega,by omega,by omega,r3,r4,r5,r6,fun _=>⟨e1,e2⟩,fun _ a=>by rw[e2]at a;cases a⟩
  unfold Tp;show ∃ Q',(if ZA R.st.k=true∧ZK Q.c Q.d R.tm.nm (Yj Q.d R.tm.pr)=R.sh∧R.tm.un≤Q.now then _ else _)=_∧_;rw[pc,pd,h.now];by_cases l:ZA R.st.k=true
  ·by_cases s:ZK W.c W.d R.tm.nm (Yj W.d R.tm.pr)=R.sh
   ·by_cases u:R.tm.un≤W.t
    ·rw[if_pos (show ZA R.st.k=true∧ZK W.c W.d R.tm.nm (Yj W.d R.tm.pr)=R.sh∧R.tm.un≤W.t from ⟨l,s,u⟩),if_neg (show ¬ (ZA R.st.k=false) by rw[l];simp),if_neg (show ¬ (ZK W.c W.d R.tm.nm (Yj W.d R.tm.pr)≠R.sh) from fun x=>x s),if_pos u]
     have hk:=Ul l;have g:=r3.2;obtain ⟨g1,g2,g3,g4,g5,g6,g7,g8,g9⟩:=g;rw[← e1]at g1 g2 g3 g4 g5 g6 g7 g8 g9;obtain ⟨v,hv⟩:=VL (s:={ R.st with k:=7 }) (by simp) (by simp) g3 g4 g5 g6 g7 g8;have st:=zE h c0 c1 (hg c c0 c1).1 r3.1 hv;have gw:=Tq h.okw hg (old:=R.wd) (s:={ R.st with k:=7 }) c0 c1 (fun _=>g9 (by omega));have hJ:∀ B was Ts,Vr B was W Ts→Vr B was (Zs W c R.wd { R.st with k:=7 }).2 Ts:=fun B was Ts j=>by
      have p:=Xd j.2.1;rw[e1]at l⊢;exact Zdr j c0 (by rw[← p.1,← p.2.1];exact c1) l
     have hp:=ZQ W c R.wd { R.st with k:=7 };have hlg:=(Xw W c R.wd { R.st with k:=7 }).2.1;rw[← e1]at st;show ∃ Q',(if (ZO Q c R.st { R.st with k:=7 }).1=true then _ else _)=_∧_;rw[← st.1];have hnk:({ R.st with k:=7 }:StZ).k=7:=rfl;have hng:Zca W.g W.f { R.st with k:=7 }:=⟨by simp,by simp,g3,g4,g5,g6,g7,g8,fun _=>g9 (by omega)⟩;have hno:okS { R.st with k:=7 }=true:=Zkr r5;by_cases t:(Zs W c R.wd { R.st with k:=7 }).1=true
     ·rw[if_pos t,if_pos t]
      have s2:=xY st.2.1 5 c R.st.g 0 0 0 0 0;refine ⟨_,rfl,rfl,rfl,rfl,s2,z6 gw _ _ _ _ _ _ _ _,?_,fun B was Ts j=>Zdd (hJ B was Ts j) _ _,hp,?_,?_,?_,r3,r4,hno,⟨hwt.2.2.2.2.1,hwt.2.2.2.2.2.1⟩,fun a=>by omega,fun _ _=>⟨hng,hnk⟩⟩
      ·show (Zs W c R.wd { R.st with k:=7 }).2.s - W.s=(ZO Q c R.st { R.st with k:=7 }).2.u - Q.u
       rw[st.2.2.1,st.2.2.2];omega
      ·show ((Zs W c R.wd { R.st with k:=7 }).2.lg++[_]).length≤_
       rw[List.length_append,hlg];simp
      ·show W.s≤(Zs W c R.wd { R.st with k:=7 }).2.s
       rw[st.2.2.1];omega
      ·show (Zs W c R.wd { R.st with k:=7 }).2.s≤_
       rw[st.2.2.1];omega
     ·rw[if_neg t,if_neg t]
      refine ⟨(ZO Q c R.st { R.st with k:=7 }).2,?_,rfl,rfl,rfl,st.2.1,gw,by rw[st.2.2.1,st.2.2.2];omega,hJ,hp,by rw[hlg];omega,by rw[st.2.2.1];omega,by rw[st.2.2.1];omega,r3,r4,r5,r6,fun a=>by omega,fun _ a=>by cases a⟩;show (RqZ.mk R.sh (4*(W.a*W.b*R.ps)+R.pc) R.st R.tm R.dn R.ta,(ZO Q c R.st { R.st with k:=7 }).2)=_;rw[e2]
    ·rw[if_neg (show ¬ (ZA R.st.k=true∧ZK W.c W.d R.tm.nm (Yj W.d R.tm.pr)=R.sh∧R.tm.un≤W.t) from fun x=>u x.2.2),if_neg (show ¬ (ZA R.st.k=false) by rw[l];simp),if_neg (show ¬ (ZK W.c W.d R.tm.nm (Yj W.d R.tm.pr)≠R.sh) from fun x=>x s),if_neg u]
     exact stay Q rfl
   ·rw[if_neg (show ¬ (ZA R.st.k=true∧ZK W.c W.d R.tm.nm (Yj W.d R.tm.pr)=R.sh∧R.tm.un≤W.t) from fun x=>s x.2.1),if_neg (show ¬ (ZA R.st.k=false) by rw[l];simp),if_pos s]
    exact stay Q rfl
  ·rw[if_neg (show ¬ (ZA R.st.k=true∧ZK W.c W.d R.tm.nm (Yj W.d R.tm.pr)=R.sh∧R.tm.un≤W.t) from fun x=>l x.1),if_pos (show ZA R.st.k=false by simpa using l)]
   exact stay Q rfl
 rw[if_neg k2,if_neg k2];have k3:R.pc % 4=3:=by omega
 show ∃ Q',(if R.dn=true then (Zal (W.a*W.b) R,Xa Q c R.st.g Q.f (ZJ R.st R.ta).1) else (Zal (W.a*W.b) R,Q))=_∧_;by_cases d:R.dn=true
 ·obtain ⟨g,gk⟩:=r8 k3 d
  have e7:=end7 gk R.ta;have g9:=g.2.2.2.2.2.2.2.2 (by omega);obtain ⟨v,hv⟩:=Zi5 g (show W.f≤200 by omega) r6.1 r6.2;have sn:=Tz h (gn:=R.st.g) (n:=W.f) c0 c1 g9.1 g9.2.1 (by omega) (by omega) hv;rw[if_pos d,if_pos ⟨e7,d⟩,pf];have hfr:=xB W c R.st.g W.f (ZJ R.st R.ta).1;refine ⟨_,rfl,rfl,rfl,rfl,sn.1,Uo h.okw hg _ _ _ _,?_,fun _ _ _ j=>ZfV j _ _ _ _,Ug _ _ _ _ _,by rw[hfr.2.1];omega,by rw[sn.2];omega,by rw[sn.2];omega,r3,r4,r5,r6,fun a=>by omega,fun a=>by omega⟩;rw[sn.2];show W.s+1 - W.s=Q.u+1 - Q.u;omega
 ·rw[if_neg d,if_neg (fun x=>d x.2)]
  exact ⟨Q,rfl,rfl,rfl,rfl,h,hg,nochg,fun _ _ _ j=>j,rfl,Nat.le_succ _,Int.le_refl _,by (show W.s≤W.s+1);omega,r3,r4,r5,r6,fun a=>by omega,fun a=>by omega⟩
theorem ZkO {Ts:List TZ} (h:vy W Q Ts) (hR:RpJ W.g W.f (W.a*W.b) R):∃ Q',T4 Q (Zal (W.a*W.b) R)=(Zal (W.a*W.b) (Yf W R).1,Q')∧vy (Yf W R).2 Q' Ts∧(Yf W R).2.s - W.s=Q'.u - Q.u∧RpJ W.g W.f (W.a*W.b) (Yf W R).1∧X5 (Yf W R).2=X5 W∧(Yf W R).2.lg.length≤W.lg.length+1∧W.s≤(Yf W R).2.s∧(Yf W R).2.s≤W.s+1:=by
 obtain ⟨⟨B,was,hJ⟩,hs,hg,hgt,hok⟩:=h;obtain ⟨pa,pb,_⟩:=hs.par;have hc:=ZfL hs hg hR;obtain ⟨r0,r1,r2,r3,r4,r5,r6,r7,r8⟩:=hR;obtain ⟨n,hn⟩:∃ n,W.a*W.b=n:=⟨_,rfl⟩;have hpl:(Zal (W.a*W.b) R).st / 4 % (Q.a*Q.b)=R.pc / 4:=by
  rw[pa,pb,hn];rw[hn]at r1;show (4*(n*R.ps)+R.pc) / 4 % n=R.pc / 4;rw[show (4*(n*R.ps)+R.pc) / 4=R.pc / 4+n*R.ps by omega,Int.add_mul_emod_self_left];exact Int.emod_eq_of_lt (by omega) (by omega)
 obtain ⟨Q',c1,c2,c3,c4,c5,c6,c7,c8,c9,c10,c11,c12,c13,c14,c15,c16,c17,c18⟩:=hc;have p:=Xd c9;have hst:(Zal (W.a*W.b) R).st=4*(W.a*W.b*R.ps)+R.pc:=rfl;refine ⟨Q',?_,⟨⟨B,was,c8 B was Ts hJ⟩,c5,c6,?_,hok⟩,c7,?_,c9,c10,c11,c12⟩
 ·unfold T4
  rw[hpl,c1,hst];unfold Yf vo Zal;simp only;rw[c3];by_cases e:R.pc+1=4*(W.a*W.b)
  ·rw[if_pos e]
   simp only;rw[c2,c4];have:4*(W.a*W.b*(R.ps+1))=4*(W.a*W.b*R.ps)+4*(W.a*W.b):=(by rw[Int.mul_add,Int.mul_one,Int.mul_add]);rw[this,show 4*(W.a*W.b*R.ps)+R.pc+1=4*(W.a*W.b*R.ps)+4*(W.a*W.b)+0 by omega]
  ·rw[if_neg e]
   simp only;rw[c2,c4,show 4*(W.a*W.b*R.ps)+R.pc+1=4*(W.a*W.b*R.ps)+(R.pc+1) by omega]
 ·rw[show (Yf W R).2.g=W.g from p.2.2.2.2.2.1,show (Yf W R).2.f=W.f from p.2.2.2.2.1]
  exact hgt
 ·unfold Yf vo
  simp only;rw[c3];by_cases e:R.pc+1=4*(W.a*W.b)
  ·rw[if_pos e]
   exact ⟨by show (0:Int)≤0;omega,by show (0:Int)<4*(W.a*W.b);omega,by show 0≤(Xm W R).1.ps+1;rw[c4];omega,c13,c14,c15,c16,fun a=>by (simp only at a;omega),fun a=>by (simp only at a;omega)⟩
  ·rw[if_neg e]
   refine ⟨by show 0≤R.pc+1;omega,by show R.pc+1<4*(W.a*W.b);omega,by show 0≤(Xm W R).1.ps;rw[c4];omega,c13,c14,c15,c16,fun a=>?_,fun a=>?_⟩
   ·replace a:(R.pc+1) % 4=1∨(R.pc+1) % 4=2:=a
    exact c17 (by omega)
   ·replace a:(R.pc+1) % 4=3:=a
    exact c18 (by omega)
end
attribute [local irreducible] Wm WmA
attribute [local simp] YP lkp Vq prs V9 prT ddL idL Yy Ue Ren Ve NObj.none ZT
def rqC (z:RqZ):List AV:=[.int .i64 z.sh,.int .i64 z.st,.int .i64 z.s.k,.bool z.s.fl,.int .i64 z.s.g,.int .i64 z.s.l,.int .i64 z.s.f,.int .i64 z.t.nm,.int .i64 z.t.sd,.int .i64 z.t.pr,.int .i64 z.t.le,.int .i64 z.t.un,.bool z.dn,.int .i64 z.ta]
def ZfX:List AV→Option RqZ
 | [.int .i64 a,.int .i64 b,.int .i64 k,.bool fl,.int .i64 g,.int .i64 l,.int .i64 f,.int .i64 nm,.int .i64 sd,.int .i64 pr,.int .i64 le,.int .i64 un,.bool dn,.int .i64 ta]=>some ⟨a,b,⟨k,fl,g,l,f⟩,⟨nm,sd,pr,le,un⟩,dn,ta⟩
 | _=>none
theorem ZiX (z:RqZ):ZfX (rqC z)=some z:=rfl
theorem Za6 {c:List AV} {z:RqZ} (h:ZfX c=some z):c=rqC z:=by
 unfold ZfX at h;split at h
 ·injection h with h;subst h;rfl
 ·cases h
theorem rq_t0 (z:RqZ):t0L (rqC z)=rqC z:=by simp[rqC,t0L,AV.t0]
theorem rq_cl (z:RqZ):clL (rqC z)=true:=by simp[rqC,clL,AV.cl]
theorem Zds {Q:QZ} (h:okQ Q=true) (z:RqZ) (p0:0≤z.st):okQ (T4 Q z).2=true:=by
 obtain ⟨q1,q2,q3,q4,q5,q6,q7,q8,q9⟩:=Zr h;have hall:=ZB q1;have c0:=Int.emod_nonneg (z.st / 4) (show Q.a*Q.b≠0 by omega);have c1:=Int.emod_lt_of_pos (z.st / 4) (show 0<Q.a*Q.b by omega);unfold T4 yM;simp only
 repeat' split
 all_goals first|exact UJ h|exact XB (Ye h _ _ _) _ _ _ _ _ _ _ _|exact Ye h _ _ _|exact XS h _ _ _ _ (by omega)|exact h
def d25:List AV→Option Ans
 | [.op _ r,.op _ q]=>(match ZfX r,Zay q with
  | some z,some Q=>if okQ Q=true∧smQ Q=true∧0≤z.st∧z.st≤1000000∧(z.st % 4=3→z.dn=true→1≤z.s.g∧z.s.g≤Q.g) then some ⟨.tup [],[.cells 0 (rqC (T4 Q z).1),.cells 0 (qzC (T4 Q z).2)]⟩ else none
  | _,_=>none)
 | _=>none
theorem ok25:NOk [(14,true),(13,true)] d25:=by
 intro xs aa h;unfold d25 at h;split at h
 ·rename_i t1 r t2 q
  split at h
  ·rename_i z Q hR hQ
   split at h
   ·rename_i hc
    obtain rfl:=Yv hQ;obtain rfl:=Za6 hR;injection h with h;subst h;have hok:=hc.1;have q8:=(Zr hok).2.2.2.2.2.2.2.1;have q82:=(Zr (Zds hok z hc.2.2.1)).2.2.2.2.2.2.2.1;refine ⟨Zp ?_,?_⟩
    ·simp[Y3 Q q8,YA Q q8,YA _ q82,rq_t0,rq_cl]
    ·simp
   ·cases h
  ·cases h
 ·cases h
theorem s25:Sound Tryz.prog 25 (Zm [(14,true),(13,true)] d25 ok25):=by
 refine Zi (ac:=?ac) (res:=?res) Tryz.func25 (by kernel_rfl) (ha:=?ha) (hk:=?hk) (hok:=ok25) (fun xs a h=>?_) fun xs a h w0 S hS=>?_
 case ha=>conv=>lhs;cbv
 case hk=>kernel_rfl
 ·unfold d25 at h
  (repeat' (split at h))<;>first|(cases h;done)|exact Nat.le_of_ble_eq_true rfl
 unfold d25 at h;split at h
 ·rename_i t1 r t2 q
  split at h
  ·rename_i z Q hR hQ
   split at h
   ·rename_i hcond
    obtain rfl:=Yv hQ;obtain rfl:=Za6 hR;injection h with h;subst h;clear hQ hR;have hE:Zd Tryz.prog (EL [(36,rdS d36 ok36),(45,rdS d45 ok45),(46,Zm [(13,true)] d46 ok46),(49,Zm [(13,true)] d49 ok49),(50,rdS d50 ok50),(67,Zm [(13,true)] d67 ok67)]):=Ze (by simp only[List.mem_cons,List.not_mem_nil,or_false,forall_eq_or_imp,forall_eq];exact ⟨s36,s45,s46,s49,s50,s67⟩);obtain ⟨hok,hsm,p0,p1,hdn⟩:=hcond;have hS0:=Z4 Q.S;have hS1:=Z5 Q.S;have hT0:=Z7 Q.T;have hT1:=Z6 Q.T;have hJ0:=Z1 Q.J;have hJ1:=Z0 Q.J;obtain ⟨q1,q2,q3,q4,q5,q6,q7,q8,q9⟩:=Zr hok;have hL0:=ZC q8;have hL1:=ZD q8;have hcf:=ZE q1;have hall:=ZB q1;obtain ⟨z1,z2⟩:=Xt hsm;have hSl:=Uk Q.S;have hTl:=vu Q.T;have w4:IntKind.wrap .i64 (z.st.tmod 4)=z.st % 4:=yp (by omega) (by omega) (by omega);have e4:z.st.tmod 4=z.st % 4:=Int.tmod_eq_emod_of_nonneg p0;have w42:IntKind.wrap .i64 (z.st % 4)=z.st % 4:=(by rw[← e4];rw[w4,e4]);have wst:IntKind.wrap .i64 (z.st+1)=z.st+1:=Zg (by omega) (by omega);have wu:IntKind.wrap .i64 (Q.u+1)=Q.u+1:=Zg (by omega) (by omega);have d4:IntKind.wrap .i64 (z.st.tdiv 4)=z.st / 4:=Xq (by omega) (by omega) (by omega);have k0:0≤z.st / 4:=Int.ediv_nonneg p0 (by omega);have k1:z.st / 4≤z.st:=Int.ediv_le_self _ p0;have dm:IntKind.wrap .i64 ((z.st / 4).tmod (Q.a*Q.b))=z.st / 4 % (Q.a*Q.b):=yp k0 (by omega) (by omega);have em:(z.st / 4).tmod (Q.a*Q.b)=z.st / 4 % (Q.a*Q.b):=Int.tmod_eq_emod_of_nonneg k0;have dm2:IntKind.wrap .i64 (z.st / 4 % (Q.a*Q.b))=z.st / 4 % (Q.a*Q.b):=by rw[← em];rw[dm,em]
    have c0:=Int.emod_nonneg (z.st / 4) (show Q.a*Q.b≠0 by omega);have c1:=Int.emod_lt_of_pos (z.st / 4) (show 0<Q.a*Q.b by omega);have b0:¬ Q.a*Q.b=0:=(by omega);unfold T4 yM;obtain ⟨c,hc⟩:∃ c,z.st / 4 % (Q.a*Q.b)=c:=⟨_,rfl⟩;rw[hc]at em dm2 c0 c1⊢;clear dm;obtain ⟨X,rfl⟩:=Int.eq_ofNat_of_zero_le c0;have n0:¬ (X:Int)<0:=(by omega);have n1:¬ Q.a*Q.b≤(X:Int):=(by omega);have m4:=Int.emod_nonneg z.st (show (4:Int)≠0 by omega);have m5:=Int.emod_lt_of_pos z.st (show (0:Int)<4 by omega);have cs:z.st % 4=0∨z.st % 4=1∨z.st % 4=2∨z.st % 4=3:=(by omega);rcases cs with m|m|m|m
    ·have hXl:X<Q.S.length:=by omega
     obtain ⟨s0,hs0⟩:∃ s0,Q.S[X]?=some s0:=⟨_,List.getElem?_eq_getElem hXl⟩;have hg:=T9 hs0;have hge:=Y5 hg;have e:vf Q (X:Int)=s0:=by
      unfold vf;rw[show ((X:Int)).toNat=X by omega,List.getD_eq_getElem?_getD,hs0];rfl
     rw[if_pos m,e];simp only[stL]at hg hge;simp only[rqC,qzC,YO]at hS⊢
     repeat' with_reducible (first|refine ZR.h ?_|refine kI ?_|((first|refine kR hE ?_|refine kD hE Zq ?_);intro K hK;simp[hS0,hS1,hT0,hT1,hJ0,hJ1,hL0,hL1,hSl,hTl,q2,q3,e4,w42,wst,wu,d4,em,dm2,b0,n0,n1,c1,m,hXl,hg,hge];(repeat' (first|refine hK _ _ ?_|apply And.intro|(intro hc;try subst hc)))<;>(try clear hK K))|(refine kT (fun hc=>?_) (fun hc=>?_)<;>simp at hc<;>(try subst hc)))
     all_goals try (show Zb _ _=true;kernel_rfl)
     all_goals first|(simp;done)|(exfalso;omega)|((try simp[hS0,hS1,hT0,hT1,hJ0,hJ1,hL0,hL1,m]);refine Imp.aut ?_ ?_<;>simp[NLe,hS0,hS1,hT0,hT1,hJ0,hJ1,hL0,hL1,m])
    ·have hXl:X<Q.T.length:=by omega
     obtain ⟨s0,hs0⟩:∃ s0,Q.T[X]?=some s0:=⟨_,List.getElem?_eq_getElem hXl⟩;have hg:=vL hs0;have hge:=Y5 hg;have e:ZdV Q (X:Int)=s0:=by
      unfold ZdV;rw[show ((X:Int)).toNat=X by omega,List.getD_eq_getElem?_getD,hs0];rfl
     rw[if_neg (by omega),if_pos m,e];simp only[tmC]at hg hge;simp only[rqC,qzC,YO]at hS⊢
     repeat' with_reducible (first|refine ZR.h ?_|refine kI ?_|((first|refine kR hE ?_|refine kD hE Zq ?_);intro K hK;simp[hS0,hS1,hT0,hT1,hJ0,hJ1,hL0,hL1,hSl,hTl,q2,q3,e4,w42,wst,wu,d4,em,dm2,b0,n0,n1,c1,m,hXl,hg,hge];(repeat' (first|refine hK _ _ ?_|apply And.intro|(intro hc;try subst hc)))<;>(try clear hK K))|(refine kT (fun hc=>?_) (fun hc=>?_)<;>simp at hc<;>(try subst hc)))
     all_goals try (show Zb _ _=true;kernel_rfl)
     all_goals first|(simp;done)|(exfalso;omega)|((try simp[hS0,hS1,hT0,hT1,hJ0,hJ1,hL0,hL1,m]);refine Imp.aut ?_ ?_<;>simp[NLe,hS0,hS1,hT0,hT1,hJ0,hJ1,hL0,hL1,m])
    ·rw[if_neg (by omega),if_neg (by omega),if_pos m]
     have hsh:d45 [.agg [.int .i64 Q.a,.int .i64 Q.b,.int .i64 Q.c,.int .i64 Q.d,.int .i64 Q.e,.int .i64 Q.f,.int .i64 Q.g],.agg [.int .i64 z.t.nm,.int .i64 z.t.sd,.int .i64 z.t.pr,.int .i64 z.t.le,.int .i64 z.t.un]] []=some (.int .i64 (ZK Q.c Q.d z.t.nm (Yj Q.d z.t.pr))):=by
      simp only[d45];rw[if_pos q1]
     obtain ⟨shv,hshv⟩:∃ v,ZK Q.c Q.d z.t.nm (Yj Q.d z.t.pr)=v:=⟨_,rfl⟩;rw[hshv]at hsh⊢;by_cases hl:ZA z.s.k=true
     ·by_cases hs:shv=z.sh
      ·by_cases hu:z.t.un≤Q.now
       ·rw[if_pos ⟨hl,hs,hu⟩]
        have htu:=fun u=>e46 hok hsm c0 c1 z.s { z.s with k:=7 } u;have hok2:=Ye hok (X:Int) z.s { z.s with k:=7 };have hsm2:=UC hsm (X:Int) z.s { z.s with k:=7 };have hnow:=VB Q (X:Int) z.s { z.s with k:=7 };obtain ⟨⟨tb,Q2⟩,hq2⟩:∃ v,ZO Q (X:Int) z.s { z.s with k:=7 }=v:=⟨_,rfl⟩;rw[hq2]at htu hok2 hsm2 hnow⊢;have q82:=(Zr hok2).2.2.2.2.2.2.2.1;have hS02:=Z4 Q2.S;have hS12:=Z5 Q2.S;have hT02:=Z7 Q2.T;have hT12:=Z6 Q2.T;have hJ02:=Z1 Q2.J;have hJ12:=Z0 Q2.J;have hL02:=ZC q82;have hL12:=ZD q82;simp only at hnow;cases tb
        ·rw[if_neg (by simp)]
         simp only[stA,qzC]at htu;simp only[rqC,qzC]at hS⊢
         repeat' with_reducible (first|refine ZR.h ?_|refine kI ?_|((first|refine kR hE ?_|refine kD hE Zq ?_);intro K hK;simp[hS0,hS1,hT0,hT1,hJ0,hJ1,hL0,hL1,hSl,hTl,q2,q3,e4,w42,wst,wu,d4,em,dm2,b0,n0,n1,c1,m,hS02,hS12,hT02,hT12,hJ02,hJ12,hL02,hL12,d36,hl,hsh,hs,hu,htu];(repeat' (first|refine hK _ _ ?_|apply And.intro|(intro hc;try subst hc)))<;>(try clear hK K))|(refine kT (fun hc=>?_) (fun hc=>?_)<;>simp at hc<;>(try subst hc)))
         all_goals try (show Zb _ _=true;kernel_rfl)
         all_goals first|(simp;done)|(exfalso;omega)|((try simp[hS0,hS1,hT0,hT1,hJ0,hJ1,hL0,hL1,m,hS02,hS12,hT02,hT12,hJ02,hJ12,hL02,hL12]);refine Imp.aut ?_ ?_<;>simp[NLe,hS0,hS1,hT0,hT1,hJ0,hJ1,hL0,hL1,m,hS02,hS12,hT02,hT12,hJ02,hJ12,hL02,hL12])
        ·rw[if_pos rfl]
         have htl:=fun u=>e67 hok2 hsm2 5 (X:Int) z.s.g 0 0 0 0 0 0 u;have hok3:=XB hok2 5 (X:Int) z.s.g 0 0 0 0 0;obtain ⟨Q3,hq3⟩:∃ v,U5 Q2 5 (X:Int) z.s.g 0 0 0 0 0=v:=⟨_,rfl⟩;rw[hq3]at htl hok3⊢;have q83:=(Zr hok3).2.2.2.2.2.2.2.1;have hS03:=Z4 Q3.S;have hS13:=Z5 Q3.S;have hT03:=Z7 Q3.T;have hT13:=Z6 Q3.T;have hJ03:=Z1 Q3.J;have hJ13:=Z0 Q3.J;have hL03:=ZC q83;have hL13:=ZD q83;rw[← hnow];rw[← hnow]at hu;simp only[stA,qzC,evC]at htu htl;simp only[rqC,qzC]at hS⊢
         repeat' with_reducible (first|refine ZR.h ?_|refine kI ?_|((first|refine kR hE ?_|refine kD hE Zq ?_);intro K hK;simp[hS0,hS1,hT0,hT1,hJ0,hJ1,hL0,hL1,hSl,hTl,q2,q3,e4,w42,wst,wu,d4,em,dm2,b0,n0,n1,c1,m,hS02,hS12,hT02,hT12,hJ02,hJ12,hL02,hL12,hS03,hS13,hT03,hT13,hJ03,hJ13,hL03,hL13,d36,hl,hsh,hs,hu,htu,htl];(repeat' (first|refine hK _ _ ?_|apply And.intro|(intro hc;try subst hc)))<;>(try clear hK K))|(refine kT (fun hc=>?_) (fun hc=>?_)<;>simp at hc<;>(try subst hc)))
         all_goals try (show Zb _ _=true;kernel_rfl)
         all_goals first|(simp;done)|(exfalso;omega)|((try simp[hS0,hS1,hT0,hT1,hJ0,hJ1,hL0,hL1,m,hS03,hS13,hT03,hT13,hJ03,hJ13,hL03,hL13]);refine Imp.aut ?_ ?_<;>simp[NLe,hS0,hS1,hT0,hT1,hJ0,hJ1,hL0,hL1,m,hS03,hS13,hT03,hT13,hJ03,hJ13,hL03,hL13])
       ·rw[if_neg (fun h=>hu h.2.2)]
        simp only[rqC,qzC]at hS⊢
        repeat' with_reducible (first|refine ZR.h ?_|refine kI ?_|((first|refine kR hE ?_|refine kD hE Zq ?_);intro K hK;simp[hS0,hS1,hT0,hT1,hJ0,hJ1,hL0,hL1,hSl,hTl,q2,q3,e4,w42,wst,wu,d4,em,dm2,b0,n0,n1,c1,m,d36,hl,hsh,hs,hu];(repeat' (first|refine hK _ _ ?_|apply And.intro|(intro hc;try subst hc)))<;>(try clear hK K))|(refine kT (fun hc=>?_) (fun hc=>?_)<;>simp at hc<;>(try subst hc)))
        all_goals try (show Zb _ _=true;kernel_rfl)
        all_goals first|(simp;done)|(exfalso;omega)|((try simp[hS0,hS1,hT0,hT1,hJ0,hJ1,hL0,hL1,m]);refine Imp.aut ?_ ?_<;>simp[NLe,hS0,hS1,hT0,hT1,hJ0,hJ1,hL0,hL1,m])
      ·rw[if_neg (fun h=>hs h.2.1)]
       simp only[rqC,qzC]at hS⊢
       repeat' with_reducible (first|refine ZR.h ?_|refine kI ?_|((first|refine kR hE ?_|refine kD hE Zq ?_);intro K hK;simp[hS0,hS1,hT0,hT1,hJ0,hJ1,hL0,hL1,hSl,hTl,q2,q3,e4,w42,wst,wu,d4,em,dm2,b0,n0,n1,c1,m,d36,hl,hsh,hs];(repeat' (first|refine hK _ _ ?_|apply And.intro|(intro hc;try subst hc)))<;>(try clear hK K))|(refine kT (fun hc=>?_) (fun hc=>?_)<;>simp at hc<;>(try subst hc)))
       all_goals try (show Zb _ _=true;kernel_rfl)
       all_goals first|(simp;done)|(exfalso;omega)|((try simp[hS0,hS1,hT0,hT1,hJ0,hJ1,hL0,hL1,m]);refine Imp.aut ?_ ?_<;>simp[NLe,hS0,hS1,hT0,hT1,hJ0,hJ1,hL0,hL1,m])
     ·rw[if_neg (fun h=>hl h.1)]
      have hl:ZA z.s.k=false:=(by simpa using hl);simp only[rqC,qzC]at hS⊢
      repeat' with_reducible (first|refine ZR.h ?_|refine kI ?_|((first|refine kR hE ?_|refine kD hE Zq ?_);intro K hK;simp[hS0,hS1,hT0,hT1,hJ0,hJ1,hL0,hL1,hSl,hTl,q2,q3,e4,w42,wst,wu,d4,em,dm2,b0,n0,n1,c1,m,d36,hl];(repeat' (first|refine hK _ _ ?_|apply And.intro|(intro hc;try subst hc)))<;>(try clear hK K))|(refine kT (fun hc=>?_) (fun hc=>?_)<;>simp at hc<;>(try subst hc)))
      all_goals try (show Zb _ _=true;kernel_rfl)
      all_goals first|(simp;done)|(exfalso;omega)|((try simp[hS0,hS1,hT0,hT1,hJ0,hJ1,hL0,hL1,m]);refine Imp.aut ?_ ?_<;>simp[NLe,hS0,hS1,hT0,hT1,hJ0,hJ1,hL0,hL1,m])
    ·rw[if_neg (by omega),if_neg (by omega),if_neg (by omega)]
     by_cases hd:z.dn=true
     ·obtain ⟨g0,g1⟩:=hdn m hd
      rw[if_pos hd];have hen:d50 [stA z.s,.int .i64 z.ta] []=some (.tup [rcA (ZJ z.s z.ta).1,.bool (ZJ z.s z.ta).2]):=rfl;have hno:=fun u=>e49 hok hsm c0 c1 g0 g1 (show 0≤Q.f by omega) (Int.le_refl _) (ZJ z.s z.ta).1 u;have hok2:=XS hok (X:Int) z.s.g Q.f (ZJ z.s z.ta).1 (by omega);obtain ⟨⟨rc,rb⟩,hrc⟩:∃ v,ZJ z.s z.ta=v:=⟨_,rfl⟩;rw[hrc]at hen hno hok2⊢;simp only at hen hno hok2⊢;obtain ⟨Q2,hq2⟩:∃ v,Xa Q (X:Int) z.s.g Q.f rc=v:=⟨_,rfl⟩;rw[hq2]at hno hok2⊢;have q82:=(Zr hok2).2.2.2.2.2.2.2.1;have hS02:=Z4 Q2.S;have hS12:=Z5 Q2.S;have hT02:=Z7 Q2.T;have hT12:=Z6 Q2.T;have hJ02:=Z1 Q2.J;have hJ12:=Z0 Q2.J;have hL02:=ZC q82;have hL12:=ZD q82;simp only[rcA,stA,qzC]at hno hen;simp only[rqC,qzC]at hS⊢
      repeat' with_reducible (first|refine ZR.h ?_|refine kI ?_|((first|refine kR hE ?_|refine kD hE Zq ?_);intro K hK;simp[hS0,hS1,hT0,hT1,hJ0,hJ1,hL0,hL1,hSl,hTl,q2,q3,e4,w42,wst,wu,d4,em,dm2,b0,n0,n1,c1,m,hS02,hS12,hT02,hT12,hJ02,hJ12,hL02,hL12,hd,hen,hno];(repeat' (first|refine hK _ _ ?_|apply And.intro|(intro hc;try subst hc)))<;>(try clear hK K))|(refine kT (fun hc=>?_) (fun hc=>?_)<;>simp at hc<;>(try subst hc)))
      all_goals try (show Zb _ _=true;kernel_rfl)
      all_goals first|(simp;done)|(exfalso;omega)|((try simp[hS0,hS1,hT0,hT1,hJ0,hJ1,hL0,hL1,m,hd,hS02,hS12,hT02,hT12,hJ02,hJ12,hL02,hL12]);refine Imp.aut ?_ ?_<;>simp[NLe,hS0,hS1,hT0,hT1,hJ0,hJ1,hL0,hL1,m,hd,hS02,hS12,hT02,hT12,hJ02,hJ12,hL02,hL12])
     ·rw[if_neg hd]
      have hd:z.dn=false:=(by simpa using hd);simp only[rqC,qzC]at hS⊢
      repeat' with_reducible (first|refine ZR.h ?_|refine kI ?_|((first|refine kR hE ?_|refine kD hE Zq ?_);intro K hK;simp[hS0,hS1,hT0,hT1,hJ0,hJ1,hL0,hL1,hSl,hTl,q2,q3,e4,w42,wst,wu,d4,em,dm2,b0,n0,n1,c1,m,hd];(repeat' (first|refine hK _ _ ?_|apply And.intro|(intro hc;try subst hc)))<;>(try clear hK K))|(refine kT (fun hc=>?_) (fun hc=>?_)<;>simp at hc<;>(try subst hc)))
      all_goals try (show Zb _ _=true;kernel_rfl)
      all_goals first|(simp;done)|(exfalso;omega)|((try simp[hS0,hS1,hT0,hT1,hJ0,hJ1,hL0,hL1,m,hd]);refine Imp.aut ?_ ?_<;>simp[NLe,hS0,hS1,hT0,hT1,hJ0,hJ1,hL0,hL1,m,hd])
   ·cases h
  ·cases h
 ·cases h
theorem ZcU {x y:RpZ} (h:rpC x=rpC y):x=y:=by
 have:=congrArg Zji h;rw[Zbe,Zbe]at this;exact Option.some.inj this
def F28:Fn RpZ:=⟨[(16,false)],fun _=>True,fun R=>[.op 0 (rpC R)],fun R=>⟨.int .i64 R.ps,[.free]⟩⟩
theorem Zf0:F28.Ok:=⟨fun x y _ _ h=>by
  simp only[F28,List.cons.injEq,AV.op.injEq,true_and,and_true]at h;rw[ZcU h],fun x hx=>⟨Zp (by simp[F28,rpC]),by simp[F28]⟩⟩
theorem s28:Sound Tryz.prog 28 (F28.spec Zf0):=by
 refine Fn.sound (ac:=?ac) (res:=?res) Zf0 Tryz.func28 (by kernel_rfl) (ha:=?ha) (hk:=?hk) (fun x hx=>rfl) fun x hx w0 S hS=>?w
 case ha=>conv=>lhs;cbv
 case hk=>kernel_rfl
 have hE:=E0;simp[F28,rpC]at hS⊢
 repeat' with_reducible (first|refine ZR.h ?_|refine kI ?_|((first|refine kR hE ?_|refine kD hE Zq ?_);intro K hK;simp[];(repeat' (first|refine hK _ _ ?_|apply And.intro|(intro hc;try subst hc)))<;>(try clear hK K))|(refine kT (fun hc=>?_) (fun hc=>?_)<;>simp at hc<;>(try subst hc)))
 all_goals try (show Zb _ _=true;kernel_rfl)
 all_goals first|(simp;done)|(exfalso;omega)|((try simp[]);refine Imp.aut ?_ ?_<;>simp[NLe,])
def F29:Fn RpZ:=⟨[(16,false)],fun _=>True,fun R=>[.op 0 (rpC R)],fun R=>⟨.bool (decide (R.pc=0)),[.free]⟩⟩
theorem Zf9:F29.Ok:=⟨fun x y _ _ h=>by
  simp only[F29,List.cons.injEq,AV.op.injEq,true_and,and_true]at h;rw[ZcU h],fun x hx=>⟨Zp (by simp[F29,rpC]),by simp[F29]⟩⟩
theorem s29:Sound Tryz.prog 29 (F29.spec Zf9):=by
 refine Fn.sound (ac:=?ac) (res:=?res) Zf9 Tryz.func29 (by kernel_rfl) (ha:=?ha) (hk:=?hk) (fun x hx=>rfl) fun x hx w0 S hS=>?w
 case ha=>conv=>lhs;cbv
 case hk=>kernel_rfl
 have hE:=E0;simp[F29,rpC]at hS⊢
 repeat' with_reducible (first|refine ZR.h ?_|refine kI ?_|((first|refine kR hE ?_|refine kD hE Zq ?_);intro K hK;simp[];(repeat' (first|refine hK _ _ ?_|apply And.intro|(intro hc;try subst hc)))<;>(try clear hK K))|(refine kT (fun hc=>?_) (fun hc=>?_)<;>simp at hc<;>(try subst hc)))
 all_goals try (show Zb _ _=true;kernel_rfl)
 all_goals first|(simp;done)|(exfalso;omega)|((try simp[]);refine Imp.aut ?_ ?_<;>simp[NLe,])
end Go.W
namespace Go.W
open Go.Proofs
set_option linter.unusedSimpArgs false
set_option linter.unusedVariables false
class Own {α:Type} (g:α→List AV):Prop where
 t0:∀ x,t0L (g x)=g x
 cl:∀ x,clL (g x)=true
 tl:∀ n x,0<n→tlL n (g x)=true
def ops {α:Type} (g:α→List AV) (l:List α):List (List AV):=l.map fun x=>[.op 0 (g x)]
section
variable {α:Type} {g:α→List AV}
@[simp] theorem Yx (l:List α):(ops g l).length=l.length:=List.length_map ..
theorem VT {l:List α} {k:Nat} {x:α} (h:l[k]?=some x):(ops g l)[k]?=some [.op 0 (g x)]:=by unfold ops;rw[List.getElem?_map,h];rfl
theorem T5 {l:List α} {k:Nat} {x:α} (h:l[k]?=some x):∀ hk,(ops g l)[k]'hk=[.op 0 (g x)]:=fun hk=>by
 have e:=VT (g:=g) h;rw[List.getElem?_eq_getElem hk]at e;exact Option.some.inj e
variable [Own g]
theorem Yd:∀ l:List α,Yo (ops g l)=ops g l
 | []=>rfl
 | x :: l=>by
  show t0L [.op 0 (g x)] :: Yo (ops g l)=_;rw[Yd l];simp only[t0L,AV.t0,Own.t0];rfl
theorem Ym:∀ l:List α,Xr (ops g l)=true
 | []=>rfl
 | x :: l=>by
  show (clL [.op 0 (g x)]&&Xr (ops g l))=true;rw[Ym l];simp[clL,AV.cl,Own.cl]
theorem vI {n:Nat} (hn:0<n):∀ l:List α,UR n (ops g l)=true
 | []=>rfl
 | x :: l=>by
  show (tlL n [.op 0 (g x)]&&UR n (ops g l))=true;rw[vI hn l];simp[tlL,AV.tl,Own.tl n x hn,hn]
theorem Zfn (l:List (List AV)) (k:Nat) (r:List AV):Yo (l.set k r)=(Yo l).set k (t0L r):=by
 induction l generalizing k with
 | nil=>rfl
 | cons a l ih =>
  cases k with
  | zero=>rfl
  | succ k=>show t0L a :: Yo (l.set k r)=_;rw[ih];rfl
theorem Zdy (l:List (List AV)) (x:List AV):Yo (l++[x])=Yo l++[t0L x]:=by
 induction l with
 | nil=>rfl
 | cons y l ih=>show t0L y :: Yo (l++[x])=_;rw[ih];rfl
theorem xp (l:List α) (k u:Nat) (x:α):Yo ((ops g l).set k [.op u (g x)])=ops g (l.set k x):=by
 rw[Zfn,Yd];have:t0L [AV.op u (g x)]=[.op 0 (g x)]:=by simp[t0L,AV.t0,Own.t0]
 rw[this];unfold ops;rw[List.map_set]
omit [Own g] in
theorem xr {l:List α} {k:Nat} (h:l.length=k) (r:List AV):(ops g l++[r])[k]?=some r:=by
 rw[List.getElem?_append_right (by rw[Yx];omega),Yx];simp[h]
theorem xW {l:List α} {k:Nat} (h:l.length=k) (r:List AV) (u:Nat) (x:α):Yo ((ops g l++[r]).set k [.op u (g x)])=ops g (l++[x]):=by
 have e:(ops g l++[r]).set k [.op u (g x)]=ops g l++[[.op u (g x)]]:=by
  rw[List.set_append_right _ _ (by rw[Yx];omega),Yx,h];simp
 rw[e,Zdy,Yd];have:t0L [AV.op u (g x)]=[.op 0 (g x)]:=by simp[t0L,AV.t0,Own.t0]
 rw[this];unfold ops;rw[List.map_append];rfl
end
theorem ZiF {m ps ix pc:Int} (h0:0≤ix) (h1:ix<m) (p0:0≤pc) (p1:pc<14):(14*(m*ps+ix)+pc) / (14*m)=ps∧((14*(m*ps+ix)+pc) % (14*m)=0↔ix=0∧pc=0):=by
 have e:14*(m*ps+ix)+pc=(14*ix+pc)+14*m*ps:=by rw[Int.mul_add,← Int.mul_assoc];omega
 have hb:14*ix+pc<14*m:=by omega
 rw[e,Int.add_mul_ediv_left _ _ (show 14*m≠0 by omega),Int.add_mul_emod_self_left,Int.ediv_eq_zero_of_lt (by omega) hb,Int.emod_eq_of_lt (by omega) hb];exact ⟨by omega,by omega⟩
theorem Zin {n ps pc:Int} (p0:0≤pc) (p1:pc<4*n):(4*(n*ps)+pc) / (4*n)=ps∧((4*(n*ps)+pc) % (4*n)=0↔pc=0):=by
 have e:4*(n*ps)+pc=pc+4*n*ps:=by rw[← Int.mul_assoc];omega
 rw[e,Int.add_mul_ediv_left _ _ (show 4*n≠0 by omega),Int.add_mul_emod_self_left,Int.ediv_eq_zero_of_lt p0 p1,Int.emod_eq_of_lt p0 p1];exact ⟨by omega,by omega⟩
end Go.W
