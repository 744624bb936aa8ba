/- The resolved code of the functions, by a program. -/
import Derived.Test.YtnjdphaopmikgaaLrX
import Derived.Test.YtnjdphaopmikgaaPsG
namespace Go.W
open Go.Proofs
set_option linter.unusedSimpArgs false
set_option linter.unusedVariables false
set_option maxHeartbeats 8000000
attribute [local irreducible] Wm
attribute [local simp] Yu lkp Ui prs Th prT ddL idL Yn U1 Ren Vz NObj.none ZZ
structure S3 where
 q:Int
 m:Int
 n:Int
def UQ (C:CfE) (nm:Int) (past:List EvZ) (e:EvZ) (r:S3):S3:=if e.k=2∧(nm<0∨XD C past e=nm) then ⟨r.q+e.q,r.m+e.q*e.p,r.n+2⟩ else r
def sum3 (C:CfE) (nm:Int) (L:List EvZ):S3:=yw (UQ C nm) [] L ⟨0,0,0⟩
theorem yy (C:CfE) (nm:Int) (L:List EvZ) (e:EvZ):sum3 C nm (L++[e])=UQ C nm L e (sum3 C nm L):=by
 unfold sum3;rw[Vo,List.nil_append]
theorem yQ {C:CfE} (hC:yI C) (nm:Int) {L:List EvZ} {os:List OrZ} (h:OkL C L os):0≤(sum3 C nm L).q∧(sum3 C nm L).q≤200000000*L.length∧0≤(sum3 C nm L).m∧(sum3 C nm L).m≤200000000*L.length∧0≤(sum3 C nm L).n∧(sum3 C nm L).n≤2*L.length:=by
 induction h with
 | nil=>exact ⟨Int.le_refl _,Int.le_refl _,Int.le_refl _,Int.le_refl _,Int.le_refl _,Int.le_refl _⟩
 | @snoc L os e h1 hc ih =>
  rw[yy,List.length_append];have hl:((L.length+[e].length:Nat):Int)=L.length+1:=by simp
  rw[hl];obtain ⟨g1,g2,g3,g4,g5,g6⟩:=ih;unfold UQ;by_cases k:e.k=2∧(nm<0∨XD C L e=nm)
  ·obtain ⟨f1,f2,f3,f4,_⟩:=Xs hC (YD hC h1) hc k.1
   have hm:=ZaQ f1 f2 f3 f4;rw[if_pos k];simp only;omega
  ·rw[if_neg k]
   omega
theorem vd {C:CfE} (nm:Int) (h:0≤nm):∀ (past L:List EvZ) (r:S3),(yw (UQ C nm) past L r).q=(yw (Zd9 C nm) past L (r.q,r.m)).1∧(yw (UQ C nm) past L r).m=(yw (Zd9 C nm) past L (r.q,r.m)).2
 | past,[],r=>⟨rfl,rfl⟩
 | past,e :: L,r=>by
  simp only[yw];have ih:=vd (C:=C) nm h (past++[e]) L (UQ C nm past e r);have e1:((UQ C nm past e r).q,(UQ C nm past e r).m)=Zd9 C nm past e (r.q,r.m):=by
   unfold UQ Zd9;by_cases k:e.k=2∧XD C past e=nm
   ·rw[if_pos k,if_pos ⟨k.1,.inr k.2⟩]
   ·rw[if_neg k,if_neg (fun q=>k ⟨q.1,q.2.resolve_left (by omega)⟩)]
  rw[e1]at ih;exact ih
open Classical in
noncomputable def d13:List AV→List NObj→Option AV
 | [.agg [.int .i64 a,.int .i64 b,.int .i64 nm,.int .i64 d,.int .i64 e1,.int .i64 f,.int .i64 gs],.sl (.top 0) 0 n,.int .i64 pt,.int .i64 x],[.view 0 14 els]=>(match Xm YO els with
  | some L=>if n=els.length∧pt=-1∧VA a b nm d e1 f gs=true∧L.length≤1000∧∃ os,OkL (cfC a b nm f gs) L os then some (.agg [.int .i64 (sum3 (cfC a b nm f gs) x L).q,.int .i64 (sum3 (cfC a b nm f gs) x L).q,.int .i64 (sum3 (cfC a b nm f gs) x L).m,.int .i64 (sum3 (cfC a b nm f gs) x L).m,.int .i64 (sum3 (cfC a b nm f gs) x L).n]) else none
  | none=>none)
 | _,_=>none
theorem ok13:ROk d13:=by
 intro xs os r h;unfold d13 at h
 (repeat' (split at h))<;>first|(cases h;done)|(injection h with h;subst h;simp)
def I13 (a b nm d e1 f gs x:Int) (L:List EvZ) (k:Nat):St:=⟨[(1,.sl (.top 0) 0 L.length),(2,.int .i64 (-1)),(3,.int .i64 x),(4,.ptr (.top 1) 0 0),(8,.ptr (.top 2) 0 0),(9,.ptr (.top 3) 0 0),(10,.int .i64 k)],[(0,.view 0 14 (Zy L)),(1,.cells 0 [.int .i64 a,.int .i64 b,.int .i64 nm,.int .i64 d,.int .i64 e1,.int .i64 f,.int .i64 gs]),(2,.cells 0 [.int .i64 0,.int .i64 0,.int .i64 0,.int .i64 0,.int .i64 0]),(3,.cells 0 [.int .i64 (sum3 (cfC a b nm f gs) x (L.take k)).q,.int .i64 (sum3 (cfC a b nm f gs) x (L.take k)).q,.int .i64 (sum3 (cfC a b nm f gs) x (L.take k)).m,.int .i64 (sum3 (cfC a b nm f gs) x (L.take k)).m,.int .i64 (sum3 (cfC a b nm f gs) x (L.take k)).n])],4⟩
theorem s13:Sound Try.prog 13 (rdS d13 ok13):=by
 refine Zn C13.a C13.b C13.c C13.d ok13 fun xs os r h vs ρ0 hvs=>⟨xs,?_,fun _ h=>h,fun w0 S hS=>?_⟩
 ·unfold d13 at h
  (repeat' (split at h))<;>first|(cases h;done)|exact Nat.le_of_ble_eq_true rfl
 unfold d13 at h;split at h
 ·rename_i a b nm d e1 f gs n pt x els
  split at h
  ·rename_i L hL
   obtain rfl:=ZI (g:=evR) (fun _ _=>ZD) hL;clear hL;split at h
   ·rename_i hcond
    injection h with h;subst h;obtain ⟨rfl,rfl,hcf,hlen,osF,hok⟩:=hcond;have hll:List.map evR L=Zy L:=rfl;rw[hll]at hvs⊢;change S.m=1 at hS;have hE:Zd Try.prog (EL [(23,rdS d23 ok23)]):=Zf (by simp only[List.mem_cons,List.not_mem_nil,or_false,forall_eq_or_imp,forall_eq];exact s23);have hT:=XO L;have hC:=XS L;have hl:=Z6 L;have hD:=YN L;have hCo:=Xz hcf;have h23:∀ (k:Nat) (c g:Int) (os:List OrZ),k<L.length→OkL (cfC a b nm f gs) (L.take k) os→d23 [.agg [.int .i64 a,.int .i64 b,.int .i64 nm,.int .i64 d,.int .i64 e1,.int .i64 f,.int .i64 gs],.sl (.top 0) 0 k,.int .i64 c,.int .i64 g] [.view 0 14 ((Zy L).take k)]=some (ofA (ofL f c g (L.take k))):=fun k c g os hk hos=>by
     have hm:Xm YO (Zy (L.take k))=some (L.take k):=Zv (f:=YO) (g:=evR) Yb _;rw[VQ];simp only[d23,hm];rw[if_pos ⟨by rw[Z6,List.length_take];omega,hcf,by rw[List.length_take];omega,os,hos⟩]
    have v2:IntKind.wrap .i64 2=2:=(by decide);have v3:IntKind.wrap .i64 3=3:=(by decide);have v1:IntKind.wrap .i64 1=1:=(by decide);change Wm _ _ _ _ _ _ ⟨U6 0 [.agg [.int .i64 a,.int .i64 b,.int .i64 nm,.int .i64 d,.int .i64 e1,.int .i64 f,.int .i64 gs],.sl (.top 0) 0 (Zy L).length,.int .i64 (-1),.int .i64 x],Zs 0 [.view 0 14 (Zy L)],_⟩ _;unfold m13
    repeat' with_reducible (first|refine ZR.h ?_|refine zI ?_|((first|refine zK hE ?_|refine zM hE ?_);intro K hK;simp[hT,hC,hl,hD];(repeat' (first|refine hK _ _ ?_|apply And.intro|(intro hc;try subst hc)))<;>(try clear hK K))|(refine zJ (fun hc=>?_) (fun hc=>?_)<;>simp at hc<;>(try subst hc)))
    all_goals (refine Z4 (fun k=>I13 a b nm d e1 f gs x L k) (fun k=>k≤L.length) (fun k=>L.length - k) 0 (Nat.zero_le _) ?_ ?_)
    ·simp only[I13,List.take_zero,show sum3 (cfC a b nm f gs) x []=⟨0,0,0⟩ from rfl]
     rw[hS]
     (refine Imp.aut ?_ ?_<;>simp[NLe,Zg,hT,hC,hl])
    intro k hk;replace hk:k≤L.length:=hk;simp only[I13];by_cases hkl:k<L.length
    ·obtain ⟨e,he⟩:∃ e,L[k]?=some e:=⟨_,List.getElem?_eq_getElem hkl⟩
     obtain ⟨os,hos,hcan⟩:=X1 hok k e he;have hb:=yQ hCo x hos;rw[List.length_take]at hb;have h23a:=h23 k e.c e.g os hkl hos;have h23b:=h23 k e.o e.w os hkl hos;have hdt:=XW (L:=L) k;have hsn:=Ys he;have hst:sum3 (cfC a b nm f gs) x (L.take (k+1))=UQ (cfC a b nm f gs) x (L.take k) e (sum3 (cfC a b nm f gs) x (L.take k)):=(by rw[hsn];exact yy _ _ _ _);have hnum:=fun q=>Xs hCo (YD hCo hos) hcan q;have hnmE:XD (cfC a b nm f gs) (L.take k) e=(ofL f e.c e.g (L.take k)).1.t.nm:=rfl;unfold UQ at hst;rw[hnmE]at hst;simp only[show ((cfC a b nm f gs)).F=f from rfl,hnmE]at hnum;obtain ⟨⟨o,bo⟩,hs⟩:∃ s,ofL f e.c e.g (L.take k)=s:=⟨_,rfl⟩;obtain ⟨⟨y,yo⟩,hsy⟩:∃ s,ofL f e.o e.w (L.take k)=s:=⟨_,rfl⟩;obtain ⟨s2,hs2⟩:∃ s,sum3 (cfC a b nm f gs) x (L.take (k+1))=s:=⟨_,rfl⟩;obtain ⟨s1,hs1⟩:∃ s,sum3 (cfC a b nm f gs) x (L.take k)=s:=⟨_,rfl⟩;rw[hs]at h23a hst hnum;rw[hsy]at h23b hnum;rw[hs1,hs2]at hst;rw[hs1]at hb⊢;simp only[ofA,orC]at h23a h23b hst hnum;have ww:IntKind.wrap .i64 ((k:Int)+1)=(k:Int)+1:=Zh (by omega) (by omega);have hg1:=VX he;have hg2:∀ hk,(Zy L)[k]'hk=evR e:=fun hk=>by rw[List.getElem?_eq_getElem hk]at hg1;exact Option.some.inj hg1
     have hkle:k≤L.length:=hk;simp only[evR]at hg1 hg2;clear hcan hos hsn hs hsy hs1 hnmE h23;by_cases hk2:e.k=2
     ·obtain ⟨f1,f2,f3,f4,_,_,_,_,_,_,hsd,hnn,_⟩:=hnum hk2
      have hmq:=ZaQ f1 f2 f3 f4;obtain ⟨m,hm⟩:∃ m,e.q*e.p=m:=⟨_,rfl⟩;rw[hm]at hmq hst;have u0:IntKind.wrap .i64 m=m:=Zh (by omega) (by omega);have u1:IntKind.wrap .i64 (s1.q+e.q)=s1.q+e.q:=Zh (by omega) (by omega);have u2:IntKind.wrap .i64 (s1.m+m)=s1.m+m:=Zh (by omega) (by omega);have u3:IntKind.wrap .i64 (s1.n+1)=s1.n+1:=Zh (by omega) (by omega);have u4:IntKind.wrap .i64 (s1.n+1+1)=s1.n+2:=(by rw[Zh (by omega) (by omega)];omega);by_cases hx0:x<0
      ·rw[if_pos ⟨hk2,.inl hx0⟩]at hst
       by_cases sd:o.t.sd=0
       ·have sd2:y.t.sd=1:=by rcases hsd with q|q<;>omega
        simp only[sd,sd2]at h23a h23b
        repeat' with_reducible (first|refine ZR.h ?_|refine zI ?_|((first|refine zK hE ?_|refine zM hE ?_);intro K hK;simp[hT,hC,hl,hD,hkl,hg1,hg2,ww,v1,v2,v3,hk2,hkle,hdt,hx0,h23a,h23b,hm,u0,u1,u2,u3,u4];(repeat' (first|refine hK _ _ ?_|apply And.intro|(intro hc;try subst hc)))<;>(try clear hK K))|(refine zJ (fun hc=>?_) (fun hc=>?_)<;>simp at hc<;>(try subst hc)))
        all_goals refine Yg 3 ?_
        repeat' with_reducible (first|refine ZR.h ?_|refine zI ?_|((first|refine zK hE ?_|refine zM hE ?_);intro K hK;simp[Zh,hT,hC,hl,hD,hkl,hg1,hg2,ww,v1,v2,v3,hk2,hkle,hdt,hx0,h23a,h23b,hm,u0,u1,u2,u3,u4];(repeat' (first|refine hK _ _ ?_|apply And.intro|(intro hc;try subst hc)))<;>(try clear hK K))|(refine zJ (fun hc=>?_) (fun hc=>?_)<;>simp at hc<;>(try subst hc)))
        all_goals first|(exfalso;omega)|skip
        all_goals refine ⟨k+1,hkl,Nat.sub_lt_sub_left hkl (Nat.lt_succ_self k),?_⟩
        all_goals simp only[I13,hs2,hst]
        all_goals rw[hS]
        all_goals (refine Imp.aut ?_ ?_<;>simp[NLe,Zg,hT,hC,hl])
       ·have sd1:o.t.sd=1:=by rcases hsd with q|q<;>omega
        have sd2:y.t.sd=0:=(by rcases hsd with q|q<;>omega);simp only[sd1,sd2]at h23a h23b
        repeat' with_reducible (first|refine ZR.h ?_|refine zI ?_|((first|refine zK hE ?_|refine zM hE ?_);intro K hK;simp[hT,hC,hl,hD,hkl,hg1,hg2,ww,v1,v2,v3,hk2,hkle,hdt,hx0,h23a,h23b,hm,u0,u1,u2,u3,u4];(repeat' (first|refine hK _ _ ?_|apply And.intro|(intro hc;try subst hc)))<;>(try clear hK K))|(refine zJ (fun hc=>?_) (fun hc=>?_)<;>simp at hc<;>(try subst hc)))
        all_goals refine Yg 3 ?_
        repeat' with_reducible (first|refine ZR.h ?_|refine zI ?_|((first|refine zK hE ?_|refine zM hE ?_);intro K hK;simp[Zh,hT,hC,hl,hD,hkl,hg1,hg2,ww,v1,v2,v3,hk2,hkle,hdt,hx0,h23a,h23b,hm,u0,u1,u2,u3,u4];(repeat' (first|refine hK _ _ ?_|apply And.intro|(intro hc;try subst hc)))<;>(try clear hK K))|(refine zJ (fun hc=>?_) (fun hc=>?_)<;>simp at hc<;>(try subst hc)))
        all_goals first|(exfalso;omega)|skip
        all_goals refine ⟨k+1,hkl,Nat.sub_lt_sub_left hkl (Nat.lt_succ_self k),?_⟩
        all_goals simp only[I13,hs2,hst]
        all_goals rw[hS]
        all_goals (refine Imp.aut ?_ ?_<;>simp[NLe,Zg,hT,hC,hl])
      ·by_cases hx:o.t.nm=x
       ·rw[if_pos ⟨hk2,.inr hx⟩]at hst
        rw[hx]at hnn;simp only[hx]at h23a;simp only[hnn]at h23b;by_cases sd:o.t.sd=0
        ·have sd2:y.t.sd=1:=by rcases hsd with q|q<;>omega
         simp only[sd,sd2]at h23a h23b
         repeat' with_reducible (first|refine ZR.h ?_|refine zI ?_|((first|refine zK hE ?_|refine zM hE ?_);intro K hK;simp[hT,hC,hl,hD,hkl,hg1,hg2,ww,v1,v2,v3,hk2,hkle,hdt,hx0,hx,h23a,h23b,hm,u0,u1,u2,u3,u4];(repeat' (first|refine hK _ _ ?_|apply And.intro|(intro hc;try subst hc)))<;>(try clear hK K))|(refine zJ (fun hc=>?_) (fun hc=>?_)<;>simp at hc<;>(try subst hc)))
         all_goals refine Yg 3 ?_
         repeat' with_reducible (first|refine ZR.h ?_|refine zI ?_|((first|refine zK hE ?_|refine zM hE ?_);intro K hK;simp[Zh,hT,hC,hl,hD,hkl,hg1,hg2,ww,v1,v2,v3,hk2,hkle,hdt,hx0,hx,h23a,h23b,hm,u0,u1,u2,u3,u4];(repeat' (first|refine hK _ _ ?_|apply And.intro|(intro hc;try subst hc)))<;>(try clear hK K))|(refine zJ (fun hc=>?_) (fun hc=>?_)<;>simp at hc<;>(try subst hc)))
         all_goals first|(exfalso;omega)|skip
         all_goals refine ⟨k+1,hkl,Nat.sub_lt_sub_left hkl (Nat.lt_succ_self k),?_⟩
         all_goals simp only[I13,hs2,hst]
         all_goals rw[hS]
         all_goals (refine Imp.aut ?_ ?_<;>simp[NLe,Zg,hT,hC,hl])
        ·have sd1:o.t.sd=1:=by rcases hsd with q|q<;>omega
         have sd2:y.t.sd=0:=(by rcases hsd with q|q<;>omega);simp only[sd1,sd2]at h23a h23b
         repeat' with_reducible (first|refine ZR.h ?_|refine zI ?_|((first|refine zK hE ?_|refine zM hE ?_);intro K hK;simp[hT,hC,hl,hD,hkl,hg1,hg2,ww,v1,v2,v3,hk2,hkle,hdt,hx0,hx,h23a,h23b,hm,u0,u1,u2,u3,u4];(repeat' (first|refine hK _ _ ?_|apply And.intro|(intro hc;try subst hc)))<;>(try clear hK K))|(refine zJ (fun hc=>?_) (fun hc=>?_)<;>simp at hc<;>(try subst hc)))
         all_goals refine Yg 3 ?_
         repeat' with_reducible (first|refine ZR.h ?_|refine zI ?_|((first|refine zK hE ?_|refine zM hE ?_);intro K hK;simp[Zh,hT,hC,hl,hD,hkl,hg1,hg2,ww,v1,v2,v3,hk2,hkle,hdt,hx0,hx,h23a,h23b,hm,u0,u1,u2,u3,u4];(repeat' (first|refine hK _ _ ?_|apply And.intro|(intro hc;try subst hc)))<;>(try clear hK K))|(refine zJ (fun hc=>?_) (fun hc=>?_)<;>simp at hc<;>(try subst hc)))
         all_goals first|(exfalso;omega)|skip
         all_goals refine ⟨k+1,hkl,Nat.sub_lt_sub_left hkl (Nat.lt_succ_self k),?_⟩
         all_goals simp only[I13,hs2,hst]
         all_goals rw[hS]
         all_goals (refine Imp.aut ?_ ?_<;>simp[NLe,Zg,hT,hC,hl])
       ·rw[if_neg (fun q=>by rcases q.2 with q|q;exact hx0 q;exact hx q)]at hst
        have hx2:¬ y.t.nm=x:=by rw[hnn];exact hx
        repeat' with_reducible (first|refine ZR.h ?_|refine zI ?_|((first|refine zK hE ?_|refine zM hE ?_);intro K hK;simp[hT,hC,hl,hD,hkl,hg1,hg2,ww,v1,v2,v3,hk2,hkle,hdt,h23a,h23b,hx0,hx,hx2];(repeat' (first|refine hK _ _ ?_|apply And.intro|(intro hc;try subst hc)))<;>(try clear hK K))|(refine zJ (fun hc=>?_) (fun hc=>?_)<;>simp at hc<;>(try subst hc)))
        all_goals refine Yg 3 ?_
        repeat' with_reducible (first|refine ZR.h ?_|refine zI ?_|((first|refine zK hE ?_|refine zM hE ?_);intro K hK;simp[Zh,hT,hC,hl,hD,hkl,hg1,hg2,ww,v1,v2,v3,hk2,hkle,hdt,h23a,h23b,hx0,hx,hx2];(repeat' (first|refine hK _ _ ?_|apply And.intro|(intro hc;try subst hc)))<;>(try clear hK K))|(refine zJ (fun hc=>?_) (fun hc=>?_)<;>simp at hc<;>(try subst hc)))
        all_goals first|(exfalso;omega)|skip
        all_goals refine ⟨k+1,hkl,Nat.sub_lt_sub_left hkl (Nat.lt_succ_self k),?_⟩
        all_goals simp only[I13,hs2,hst]
        all_goals rw[hS]
        all_goals (refine Imp.aut ?_ ?_<;>simp[NLe,Zg,hT,hC,hl])
     ·rw[if_neg (fun q=>hk2 q.1)]at hst
      repeat' with_reducible (first|refine ZR.h ?_|refine zI ?_|((first|refine zK hE ?_|refine zM hE ?_);intro K hK;simp[hT,hC,hl,hD,hkl,hg1,hg2,ww,v1,v2,v3,hk2];(repeat' (first|refine hK _ _ ?_|apply And.intro|(intro hc;try subst hc)))<;>(try clear hK K))|(refine zJ (fun hc=>?_) (fun hc=>?_)<;>simp at hc<;>(try subst hc)))
      all_goals first|(exfalso;omega)|skip
      all_goals refine ⟨k+1,hkl,Nat.sub_lt_sub_left hkl (Nat.lt_succ_self k),?_⟩
      all_goals simp only[I13,hs2,hst]
      all_goals rw[hS]
      all_goals (refine Imp.aut ?_ ?_<;>simp[NLe,Zg,hT,hC,hl])
    ·have hke:k=L.length:=by omega
     subst hke;rw[List.take_of_length_le (Nat.le_refl _)];obtain ⟨s1,hs1⟩:∃ s,sum3 (cfC a b nm f gs) x L=s:=⟨_,rfl⟩;rw[hs1]
     repeat' with_reducible (first|refine ZR.h ?_|refine zI ?_|((first|refine zK hE ?_|refine zM hE ?_);intro K hK;simp[hT,hC,hl,hD];(repeat' (first|refine hK _ _ ?_|apply And.intro|(intro hc;try subst hc)))<;>(try clear hK K))|(refine zJ (fun hc=>?_) (fun hc=>?_)<;>simp at hc<;>(try subst hc)))
     all_goals first|(simp;done)|(simp at *;omega)|((try simp[hT,hC]);refine Imp.aut ?_ ?_<;>simp[NLe,Zg,hT,hC])
   ·cases h
  ·cases h
 ·cases h
end Go.W
namespace Go.W
open Go.Proofs
set_option maxRecDepth 100000
@[simp] def q6_0:List MO:=[Ma 0 (.mv (.c (.bool false)))]
instance:KR Try.f6.ntmps q6_0:=.mk [] 1
@[simp] def q6_1:List MO:=[Ma 8 (.build [(.int .i64 0),(.int .i64 0),(.int .i64 0),(.int .i64 0),(.int .i64 0),(.int .i64 0),(.int .i64 0)] [(0,(1,(.c (.int .i64 2)))),(1,(1,(.c (.int .i64 1)))),(2,(1,(.c (.int .i64 1)))),(3,(1,(.c (.int .i64 1)))),(5,(1,(.c (.int .i64 2)))),(6,(1,(.c (.int .i64 1))))]),Ma 9 (.call (.c (.fn 4 [])) [(.t 8)]),Aa 7 9,Ak 10 7 0,Ak 11 7 1,Ma 1 (.alloc [(.int .i64 0),(.int .i64 0),(.int .i64 0),(.int .i64 0),(.int .i64 0),(.int .i64 0),(.int .i64 0)]),Ae 7 1 10,Aa 2 11]
instance:KR Try.f6.ntmps q6_1:=.mk [1,2] 8
@[simp] def q6_2:List MO:=[Ma 12 (.build [(.int .i64 0),(.int .i64 0),(.int .i64 0),(.int .i64 0),(.int .i64 0)] [(1,(1,(.c (.int .i64 0)))),(2,(1,(.c (.int .i64 10)))),(3,(1,(.c (.int .i64 1)))),(4,(1,(.c (.int .i64 5))))]),Ma 13 (.build [(.int .i64 0),(.int .i64 0),(.int .i64 0),(.int .i64 0),(.int .i64 0),(.int .i64 0),(.int .i64 0),(.int .i64 0),(.int .i64 0),(.int .i64 0),(.int .i64 0),(.int .i64 0),(.int .i64 0),(.int .i64 0)] [(0,(1,(.c (.int .i64 1)))),(1,(1,(.c (.int .i64 0)))),(2,(1,(.c (.int .i64 1)))),(5,(5,(.t 12))),(10,(1,(.c (.int .i64 5))))]),Ma 3 (.alloc [(.int .i64 0),(.int .i64 0),(.int .i64 0),(.int .i64 0),(.int .i64 0),(.int .i64 0),(.int .i64 0),(.int .i64 0),(.int .i64 0),(.int .i64 0),(.int .i64 0),(.int .i64 0),(.int .i64 0),(.int .i64 0)]),Ae 14 3 13]
instance:KR Try.f6.ntmps q6_2:=.mk [1,2,3] 4
@[simp] def q6_3:List MO:=[Ma 14 (.build [(.int .i64 0),(.int .i64 0),(.int .i64 0),(.int .i64 0),(.int .i64 0)] [(1,(1,(.c (.int .i64 1)))),(2,(1,(.c (.int .i64 8)))),(3,(1,(.c (.int .i64 1)))),(4,(1,(.c (.int .i64 5))))]),Ma 15 (.build [(.int .i64 0),(.int .i64 0),(.int .i64 0),(.int .i64 0),(.int .i64 0),(.int .i64 0),(.int .i64 0),(.int .i64 0),(.int .i64 0),(.int .i64 0),(.int .i64 0),(.int .i64 0),(.int .i64 0),(.int .i64 0)] [(0,(1,(.c (.int .i64 1)))),(1,(1,(.c (.int .i64 1)))),(2,(1,(.c (.int .i64 1)))),(5,(5,(.t 14))),(10,(1,(.c (.int .i64 3))))]),Ma 4 (.alloc [(.int .i64 0),(.int .i64 0),(.int .i64 0),(.int .i64 0),(.int .i64 0),(.int .i64 0),(.int .i64 0),(.int .i64 0),(.int .i64 0),(.int .i64 0),(.int .i64 0),(.int .i64 0),(.int .i64 0),(.int .i64 0)]),Ae 14 4 15]
instance:KR Try.f6.ntmps q6_3:=.mk [1,2,3,4] 4
@[simp] def q6_4:List MO:=[Ag 17 7 1,Ag 18 14 3,Ag 19 14 4,Ma 20 (.build [(.int .i64 0),(.int .i64 0),(.int .i64 0),(.int .i64 0),(.int .i64 0),(.int .i64 0),(.int .i64 0),(.int .i64 0),(.int .i64 0),(.int .i64 0),(.int .i64 0),(.int .i64 0),(.int .i64 0),(.int .i64 0)] [(0,(1,(.c (.int .i64 2)))),(1,(1,(.c (.int .i64 0)))),(2,(1,(.c (.int .i64 1)))),(3,(1,(.c (.int .i64 1)))),(4,(1,(.c (.int .i64 1)))),(10,(1,(.c (.int .i64 3)))),(11,(1,(.c (.int .i64 9))))]),Ma 21 (.bsl 14 3 [(.int .i64 0),(.int .i64 0),(.int .i64 0),(.int .i64 0),(.int .i64 0),(.int .i64 0),(.int .i64 0),(.int .i64 0),(.int .i64 0),(.int .i64 0),(.int .i64 0),(.int .i64 0),(.int .i64 0),(.int .i64 0)] [(0,(14,(.t 18))),(14,(14,(.t 19))),(28,(14,(.t 20)))]),Ma 22 (.call (.c (.fn 8 [])) [(.t 17),(.t 21)]),Aa 16 22,Ak 23 16 0,Ak 24 16 1,Aa 5 23,Aa 6 24]
instance:KR Try.f6.ntmps q6_4:=.mk [2,5,6] 11
@[simp] def q6_5:List MO:=[Aa 25 2,Ma 26 (.eq false .iface (.t 25) (.c (.raw .nilIface))),Aa 27 26,Aj 28 6 27 true,Mg 29 (.eq false .iface (.t 28) (.c (.raw .nilIface))) 27 true,Al 30 27 29,Aa 31 30,Aj 32 5 31 true,Mg 33 (.call (.c (.fn 17 [])) [(.t 32),(.c (.int .i64 0)),(.c (.int .i64 0))]) 31 true,Mg 34 (.build [(.int .i64 0),(.int .i64 0),(.int .i64 0),(.int .i64 0),(.int .i64 0)] [(0,(1,(.c (.int .i64 3)))),(2,(1,(.c (.int .i64 27)))),(4,(1,(.c (.int .i64 1))))]) 31 true,Mg 35 (.eq false (.flat [.i,.i,.i,.i,.i]) (.t 33) (.t 34)) 31 true,Al 36 31 35,Aa 37 36,Aj 38 5 37 true,Mg 39 (.call (.c (.fn 17 [])) [(.t 38),(.c (.int .i64 1)),(.c (.int .i64 0))]) 37 true,Mg 40 (.build [(.int .i64 0),(.int .i64 0),(.int .i64 0),(.int .i64 0),(.int .i64 0)] [(1,(1,(.c (.int .i64 3)))),(3,(1,(.c (.int .i64 27)))),(4,(1,(.c (.int .i64 1))))]) 37 true,Mg 41 (.eq false (.flat [.i,.i,.i,.i,.i]) (.t 39) (.t 40)) 37 true,Al 42 37 41,Aa 0 42]
instance:KR Try.f6.ntmps q6_5:=.mk [0] 19
def m6:MCode:=.seq (.reg q6_0) (.seq (.reg q6_1) (.seq (.reg q6_2) (.seq (.reg q6_3) (.seq (.reg q6_4) (.seq (.reg q6_5) .ret)))))
theorem C6:CO Try.prog 6 Try.f6 m6 [(.t 0)]:=.mk Try.func6
@[simp] def q3_0:List MO:=[An 3 0,Ma 6 (.mv (.c (.bool false)))]
instance:KR Try.f3.ntmps q3_0:=.mk [1,2,3] 2
@[simp] def q3_1:List MO:=[Ag 27 7 3,Ma 28 (.call (.c (.fn 4 [])) [(.t 27)]),Aa 26 28,Ak 29 26 0,Ak 30 26 1,Ma 7 (.alloc [(.int .i64 0),(.int .i64 0),(.int .i64 0),(.int .i64 0),(.int .i64 0),(.int .i64 0),(.int .i64 0)]),Ae 7 7 29,Aa 8 30]
instance:KR Try.f3.ntmps q3_1:=.mk [1,2,3,7,8] 8
@[simp] def q3_2:List MO:=[Ag 31 7 3,Ma 32 (.call (.c (.fn 5 [])) [(.t 31)]),Ma 33 (.bin .geq (.t 32) (.c (.int .i64 0))),Aa 34 33,Aj 35 1 34 false,Mg 36 (.len (.t 35)) 34 false,Mg 37 (.bin .gtr (.t 36) (.c (.int .i64 40))) 34 false,Af 38 34 37]
instance:KR Try.f3.ntmps q3_2:=.mk [1,2,3,7,8,38] 8
@[simp] def q3_3:List MO:=[Ma 39 (.call (.c (.fn 6 [])) []),Aa 40 39,Aj 41 8 40 true,Mg 42 (.eq false .iface (.t 41) (.c (.raw .nilIface))) 40 true,Mg 43 (.load true 7 (.t 3)) 40 true,Mg 44 (.call (.c (.fn 5 [])) [(.t 43)]) 40 true,Mg 45 (.bin .lss (.t 44) (.c (.int .i64 0))) 40 true,Mg 46 (.eq false .bool (.t 42) (.t 45)) 40 true,Al 47 40 46,Aa 6 47]
def p3_3:List (List Nat):=[[],[0,0],[1],[2,1],[1],[4,1,1],[5,1],[3,6,1],[1,7],[8,5,0,1,2,3,4,5,6,7,8]]
instance:KD Try.f3.ntmps q3_3 p3_3:=.mk [[],[0],[0,1],[0,1,2],[0,1],[0,1,4],[0,1,4,5],[0,1,2,3,4,5,6],[0,1,2,3,4,5,6,7],[0,1,2,3,4,5,6,7,8]] [6] 10
@[simp] def q3_4:List MO:=[Ma 9 (.mv (.c .nsl))]
instance:KR Try.f3.ntmps q3_4:=.mk [1,2,3,7,9] 1
@[simp] def q3_5:List MO:=[Aa 48 1,Ma 49 (.len (.t 48)),Ma 50 (.mv (.c (.int .i64 0)))]
instance:KR Try.f3.ntmps q3_5:=.mk [1,2,3,7,9,48,49,50] 3
@[simp] def q3_6:List MO:=[Ma 51 (.bin .lss (.t 50) (.t 49))]
instance:KR Try.f3.ntmps q3_6:=.mk [1,2,3,7,9,48,49,50,51] 1
@[simp] def q3_7:List MO:=[Aa 52 50,Am 53 14 48 50,Ag 54 14 53,Ma 11 (.alloc [(.int .i64 0),(.int .i64 0),(.int .i64 0),(.int .i64 0),(.int .i64 0),(.int .i64 0),(.int .i64 0),(.int .i64 0),(.int .i64 0),(.int .i64 0),(.int .i64 0),(.int .i64 0),(.int .i64 0),(.int .i64 0)]),Aa 10 52,Ae 14 11 54]
instance:KR Try.f3.ntmps q3_7:=.mk [1,2,3,7,9,10,11,48,49,50] 6
@[simp] def q3_8:List MO:=[Ag 56 7 3,Aa 57 1,Aa 58 10,Ma 59 (.bin .add (.t 58) (.c (.int .i64 1))),Ma 60 (.slc 14 (.t 57) none (some (.t 59))),Ma 61 (.call (.c (.fn 7 [])) [(.t 56),(.t 60)]),Aa 55 61,Ak 62 55 0,Ak 63 55 1,Aa 12 62,Aa 13 63]
def p3_8:List (List Nat):=[[],[],[],[2],[1,3],[0,4],[5],[6],[6],[7,5,0,1,2,3,4,5,6,7],[8,9,0,1,2,3,4,5,6,7,8,9]]
instance:KD Try.f3.ntmps q3_8 p3_8:=.mk [[],[],[],[2],[1,2,3],[0,1,2,3,4],[0,1,2,3,4,5],[0,1,2,3,4,5,6],[0,1,2,3,4,5,6],[0,1,2,3,4,5,6,7],[0,1,2,3,4,5,6,7,8,9]] [1,2,3,7,9,10,11,12,48,49,50] 11
@[simp] def q3_9:List MO:=[Aa 64 12,Ma 65 (.bin .lss (.t 64) (.c (.int .i64 0)))]
instance:KR Try.f3.ntmps q3_9:=.mk [1,2,3,7,9,10,11,48,49,50,65] 2
@[simp] def q3_10:List MO:=[Aa 66 9,Ag 67 14 11,Ma 68 (.bsl 14 1 [(.int .i64 0),(.int .i64 0),(.int .i64 0),(.int .i64 0),(.int .i64 0),(.int .i64 0),(.int .i64 0),(.int .i64 0),(.int .i64 0),(.int .i64 0),(.int .i64 0),(.int .i64 0),(.int .i64 0),(.int .i64 0)] [(0,(14,(.t 67)))]),Ma 69 (.app 14 112 (.t 66) (.t 68)),Aa 9 69]
instance:KR Try.f3.ntmps q3_10:=.mk [1,2,3,7,9,48,49,50] 5
@[simp] def q3_11:List MO:=[Aa 70 1,Aa 71 10,Ma 72 (.slc 14 (.t 70) none (some (.t 71))),Aa 1 72]
instance:KR Try.f3.ntmps q3_11:=.mk [1,2,3,7,9] 4
@[simp] def q3_12:List MO:=[Ma 73 (.bin .add (.t 50) (.c (.int .i64 1))),Aa 50 73]
instance:KR Try.f3.ntmps q3_12:=.mk [1,2,3,7,9,48,49,50] 2
@[simp] def q3_13:List MO:=[Ag 75 7 7,Aa 76 9,Ma 77 (.call (.c (.fn 8 [])) [(.t 75),(.t 76)]),Aa 74 77,Ak 78 74 0,Ak 79 74 1,Aa 14 78,Aa 15 79]
instance:KR Try.f3.ntmps q3_13:=.mk [1,2,3,14,15] 8
@[simp] def q3_14:List MO:=[Aa 80 14,Ma 81 (.eq false .ptr (.t 80) (.c (.raw (.pointer none)))),Aa 82 81,Aj 83 15 82 false,Mg 84 (.eq true .iface (.t 83) (.c (.raw .nilIface))) 82 false,Af 85 82 84]
instance:KR Try.f3.ntmps q3_14:=.mk [1,2,3,14,85] 6
@[simp] def q3_15:List MO:=[Ma 6 (.mv (.c (.bool false)))]
instance:KR Try.f3.ntmps q3_15:=.mk [6] 1
@[simp] def q3_16:List MO:=[Ag 86 7 3,Aa 87 1,Aa 88 2,Ma 89 (.call (.c (.fn 9 [])) [(.t 86),(.t 87),(.t 88)]),Aa 16 89]
instance:KR Try.f3.ntmps q3_16:=.mk [1,2,3,14,16] 5
@[simp] def q3_17:List MO:=[Aa 90 14,Aa 91 2,Ma 92 (.call (.c (.fn 10 [])) [(.t 90),(.t 91)]),Aa 17 92]
instance:KR Try.f3.ntmps q3_17:=.mk [1,2,3,14,16,17] 4
@[simp] def q3_18:List MO:=[Aa 93 2,Ma 94 (.bin .lss (.t 93) (.c (.int .i64 0))),Aa 95 94,Aj 96 2 95 false,Ah 97 2 3 95 false,Ai 98 1 97 95 false,Mg 99 (.bin .geq (.t 96) (.t 98)) 95 false,Af 100 95 99]
instance:KR Try.f3.ntmps q3_18:=.mk [1,2,3,14,16,17,100] 8
@[simp] def q3_19:List MO:=[Ma 16 (.mv (.c .nsl))]
instance:KR Try.f3.ntmps q3_19:=.mk [1,2,3,14,16,17] 1
@[simp] def q3_20:List MO:=[Aa 101 17,Ma 102 (.len (.t 101)),Aa 103 16,Ma 104 (.len (.t 103)),Ma 105 (.bin .neq (.t 102) (.t 104))]
instance:KR Try.f3.ntmps q3_20:=.mk [1,2,3,14,16,17,105] 5
@[simp] def q3_21:List MO:=[Ma 6 (.mv (.c (.bool false)))]
instance:KR Try.f3.ntmps q3_21:=.mk [6] 1
@[simp] def q3_22:List MO:=[Ma 18 (.alloc [(.int .i64 0),(.int .i64 0),(.int .i64 0),(.int .i64 0)])]
instance:KR Try.f3.ntmps q3_22:=.mk [1,2,3,14,16,17,18] 1
@[simp] def q3_23:List MO:=[Aa 106 16,Ma 107 (.len (.t 106)),Ma 108 (.mv (.c (.int .i64 0)))]
instance:KR Try.f3.ntmps q3_23:=.mk [1,2,3,14,16,17,18,106,107,108] 3
@[simp] def q3_24:List MO:=[Ma 109 (.bin .lss (.t 108) (.t 107))]
instance:KR Try.f3.ntmps q3_24:=.mk [1,2,3,14,16,17,18,106,107,108,109] 1
@[simp] def q3_25:List MO:=[Aa 110 108,Am 111 1 106 108,Ac 112 1 111,Aa 19 110,Aa 20 112]
instance:KR Try.f3.ntmps q3_25:=.mk [1,2,3,14,16,17,18,19,20,106,107,108] 5
@[simp] def q3_26:List MO:=[Aa 113 17,Aa 114 19,Am 115 1 113 114,Ac 116 1 115,Aa 117 20,Ma 118 (.bin .neq (.t 116) (.t 117))]
instance:KR Try.f3.ntmps q3_26:=.mk [1,2,3,14,16,17,18,19,20,106,107,108,118] 6
@[simp] def q3_27:List MO:=[Ma 6 (.mv (.c (.bool false)))]
instance:KR Try.f3.ntmps q3_27:=.mk [6] 1
@[simp] def q3_28:List MO:=[Aa 119 19,Ma 120 (.bin .eql (.t 119) (.c (.int .i64 0)))]
instance:KR Try.f3.ntmps q3_28:=.mk [1,2,3,14,16,17,18,20,106,107,108,120] 2
@[simp] def q3_29:List MO:=[Aa 121 20,Aa 122 20,Aa 123 20,Aa 124 20,Ma 125 (.build [(.int .i64 0),(.int .i64 0),(.int .i64 0),(.int .i64 0)] [(0,(1,(.t 121))),(1,(1,(.t 122))),(2,(1,(.t 123))),(3,(1,(.t 124)))]),Ae 4 18 125]
instance:KR Try.f3.ntmps q3_29:=.mk [1,2,3,14,16,17,18,20,106,107,108] 6
@[simp] def q3_30:List MO:=[Ma 126 (.paddr 4 1 (.t 18) (.c (.int .i64 0))),Ac 127 1 126,Ma 128 (.paddr 4 1 (.t 18) (.c (.int .i64 1))),Ac 129 1 128,Aa 130 20,Ma 131 (.mx [(.t 129),(.t 130)]),Ma 132 (.paddr 4 1 (.t 18) (.c (.int .i64 2))),Ac 133 1 132,Aa 134 20,Ma 135 (.mn [(.t 133),(.t 134)]),Aa 136 20,Ma 137 (.build [(.int .i64 0),(.int .i64 0),(.int .i64 0),(.int .i64 0)] [(0,(1,(.t 127))),(1,(1,(.t 131))),(2,(1,(.t 135))),(3,(1,(.t 136)))]),Ae 4 18 137]
instance:KR Try.f3.ntmps q3_30:=.mk [1,2,3,14,16,17,18,106,107,108] 13
@[simp] def q3_31:List MO:=[Ma 138 (.bin .add (.t 108) (.c (.int .i64 1))),Aa 108 138]
instance:KR Try.f3.ntmps q3_31:=.mk [1,2,3,14,16,17,18,106,107,108] 2
@[simp] def q3_32:List MO:=[Aa 140 14,Aa 141 2,Ma 142 (.call (.c (.fn 11 [])) [(.t 140),(.t 141)]),Aa 139 142,Ak 143 139 0,Ak 144 139 1,Ma 21 (.alloc [(.int .i64 0),(.int .i64 0),(.int .i64 0),(.int .i64 0)]),Ae 4 21 143,Aa 22 144]
instance:KR Try.f3.ntmps q3_32:=.mk [1,2,3,14,16,18,21,22] 9
@[simp] def q3_33:List MO:=[Aa 146 14,Aa 147 2,Ma 148 (.call (.c (.fn 12 [])) [(.t 146),(.t 147)]),Aa 145 148,Ak 149 145 0,Ak 150 145 1,Aa 23 149,Aa 24 150]
instance:KR Try.f3.ntmps q3_33:=.mk [1,2,3,16,18,21,22,23,24] 8
@[simp] def q3_34:List MO:=[Ag 151 7 3,Aa 152 1,Aa 153 2,Ma 154 (.call (.c (.fn 13 [])) [(.t 151),(.t 152),(.c (.int .i64 (-1))),(.t 153)]),Ma 25 (.alloc [(.int .i64 0),(.int .i64 0),(.int .i64 0),(.int .i64 0),(.int .i64 0)]),Ae 5 25 154]
instance:KR Try.f3.ntmps q3_34:=.mk [16,18,21,22,23,24,25] 6
@[simp] def q3_35:List MO:=[Aa 155 16,Ma 156 (.len (.t 155)),Ma 157 (.bin .eql (.t 156) (.c (.int .i64 0)))]
instance:KR Try.f3.ntmps q3_35:=.mk [16,18,21,22,23,24,25,157] 3
@[simp] def q3_36:List MO:=[Ma 158 (.build [(.int .i64 0),(.int .i64 0),(.int .i64 0),(.int .i64 0),(.int .i64 0)] []),Ae 5 25 158]
instance:KR Try.f3.ntmps q3_36:=.mk [16,18,21,22,23,24,25] 2
@[simp] def q3_37:List MO:=[Ma 159 (.call (.c (.fn 6 [])) []),Aa 160 159,Mg 161 (.load true 4 (.t 21)) 160 true,Mg 162 (.load true 4 (.t 18)) 160 true,Mg 163 (.eq false (.flat [.i,.i,.i,.i]) (.t 161) (.t 162)) 160 true,Al 164 160 163,Aa 165 164,Aj 166 22 165 true,Aj 167 16 165 true,Mg 168 (.len (.t 167)) 165 true,Mg 169 (.bin .gtr (.t 168) (.c (.int .i64 0))) 165 true,Mg 170 (.eq false .bool (.t 166) (.t 169)) 165 true,Al 171 165 170,Aa 172 171,Aj 173 24 172 true,Aj 174 22 172 true,Mg 175 (.eq false .bool (.t 173) (.t 174)) 172 true,Al 176 172 175,Aa 177 176,Aj 178 24 177 true,Mg 179 (.un .not (.t 178)) 177 true,Aj 180 179 177 true,Aj 181 23 180 false,Mg 182 (.paddr 5 1 (.t 25) (.c (.int .i64 2))) 180 false,Ai 183 1 182 180 false,Mg 184 (.paddr 5 1 (.t 25) (.c (.int .i64 0))) 180 false,Ai 185 1 184 180 false,Mg 186 (.bin .quo (.t 183) (.t 185)) 180 false,Mg 187 (.bin .eql (.t 181) (.t 186)) 180 false,Mg 188 (.pick (.t 180) (.c (.bool true)) (.t 187)) 177 true,Al 189 177 188,Aa 6 189]
instance:KR Try.f3.ntmps q3_37:=.mk [6] 32
def m3:MCode:=.seq (.reg q3_0) (.seq (.reg q3_1) (.seq (.seq (.reg q3_2) (.cond (.t 38) (.seq (.draw q3_3 p3_3) .ret) .skip)) (.seq (.reg q3_4) (.seq (.seq (.reg q3_5) (.block 0 (.loop (.seq (.reg q3_6) (.seq (.cond (.t 51) .skip (.exit 0)) (.seq (.block 1 (.seq (.reg q3_7) (.seq (.draw q3_8 p3_8) (.seq (.reg q3_9) (.cond (.t 65) (.reg q3_10) (.seq (.reg q3_11) (.exit 0))))))) (.reg q3_12))))))) (.seq (.reg q3_13) (.seq (.seq (.reg q3_14) (.cond (.t 85) (.seq (.reg q3_15) .ret) .skip)) (.seq (.reg q3_16) (.seq (.reg q3_17) (.seq (.seq (.reg q3_18) (.cond (.t 100) (.reg q3_19) .skip)) (.seq (.seq (.reg q3_20) (.cond (.t 105) (.seq (.reg q3_21) .ret) .skip)) (.seq (.reg q3_22) (.seq (.seq (.reg q3_23) (.block 2 (.loop (.seq (.reg q3_24) (.seq (.cond (.t 109) .skip (.exit 2)) (.seq (.block 3 (.seq (.reg q3_25) (.seq (.seq (.reg q3_26) (.cond (.t 118) (.seq (.reg q3_27) .ret) .skip)) (.seq (.seq (.reg q3_28) (.cond (.t 120) (.reg q3_29) .skip)) (.reg q3_30))))) (.reg q3_31))))))) (.seq (.reg q3_32) (.seq (.reg q3_33) (.seq (.reg q3_34) (.seq (.seq (.reg q3_35) (.cond (.t 157) (.reg q3_36) .skip)) (.seq (.reg q3_37) .ret)))))))))))))))))
theorem C3:CO Try.prog 3 Try.f3 m3 [(.t 6)]:=.mk Try.func3
end Go.W
