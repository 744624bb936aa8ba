/- Sweepers and reapers as owned rows. Sweepers and reapers of both: what keeps between acts. What a sweeper tells of itself, whether or not it has a try. -/
import Derived.Test.YtidbbnkpglggdaaGreatSbI
import Derived.Test.YtidbbnkpglggdaaGreatPsX
import Derived.Test.YtidbbnkpglggdaaGreatTaF
import Derived.Test.YtidbbnkpglggdaaGreatSbG
import Derived.Test.YtidbbnkpglggdaaGreatRaD
import Derived.Test.YtidbbnkpglggdaaGreatPaA
namespace Go.W
open Go.Proofs
set_option linter.unusedSimpArgs false
set_option linter.unusedVariables false
set_option maxHeartbeats 8000000
set_option maxRecDepth 100000
attribute [local irreducible] Wm WmA
attribute [local simp] YP lkp Vq prs V9 prT ddL idL Yy Ue Ren Ve NObj.none ZT
def d27:List AV→Option Ans
 | [.op _ [.int .i64 sh,.int .i64 ix,.int .i64 ps,.op _ tc]]=>(match ve tc with
  | some T=>some ⟨.bool (decide (ix=0)&&decide (14≤T.pc)),[.free]⟩
  | none=>none)
 | _=>none
theorem ok27:NOk [(4,false)] d27:=by
 intro xs aa h;unfold d27 at h;split at h
 ·rename_i u sh ix ps v tc
  split at h
  ·rename_i T hT
   obtain rfl:=ZL hT;injection h with h;subst h;refine ⟨Zp ?_,?_⟩<;>simp[tzC]
  ·cases h
 ·cases h
theorem s27:Sound Tryz.prog 27 (Zm [(4,false)] d27 ok27):=by
 refine Zi (ac:=?ac) (res:=?res) Tryz.func27 (by kernel_rfl) (ha:=?ha) (hk:=?hk) (hok:=ok27) (fun xs a h=>?_) fun xs a h w0 S hS=>?_
 case ha=>conv=>lhs;cbv
 case hk=>kernel_rfl
 ·unfold d27 at h
  (repeat' (split at h))<;>first|(cases h;done)|exact Nat.le_of_ble_eq_true rfl
 unfold d27 at h;split at h
 ·rename_i u sh ix ps v tc
  split at h
  ·rename_i T hT
   obtain rfl:=ZL hT;injection h with h;subst h;have hE:Zd Tryz.prog (EL [(11,Zm [(35,false)] d11 ok11)]):=Ze (by simp only[List.mem_cons,List.not_mem_nil,or_false,forall_eq_or_imp,forall_eq];exact s11);have h13:=e11 T;by_cases h1:ix=0
   ·subst h1
    simp only[tzC]at h13 hS⊢
    repeat' with_reducible (first|refine ZR.h ?_|refine kI ?_|(refine kR hE ?_;intro K hK;simp[h13];(repeat' (first|refine hK _ _ ?_|apply And.intro|(intro hc;try subst hc)))<;>(try clear hK K))|(refine kT (fun hc=>?_) (fun hc=>?_)<;>simp at hc<;>(try subst hc)))
    all_goals try (show Zb _ _=true;kernel_rfl)
    all_goals first|(show Zb _ _=true;kernel_rfl)|(simp;done)|(simp at *;omega)|((try simp);refine Imp.aut ?_ ?_<;>simp[NLe])
   ·simp only[tzC]at h13 hS⊢
    repeat' with_reducible (first|refine ZR.h ?_|refine kI ?_|(refine kR hE ?_;intro K hK;simp[h13,h1];(repeat' (first|refine hK _ _ ?_|apply And.intro|(intro hc;try subst hc)))<;>(try clear hK K))|(refine kT (fun hc=>?_) (fun hc=>?_)<;>simp at hc<;>(try subst hc)))
    all_goals try (show Zb _ _=true;kernel_rfl)
    all_goals first|(show Zb _ _=true;kernel_rfl)|(simp;done)|(simp at *;omega)|((try simp[h1]);refine Imp.aut ?_ ?_<;>simp[NLe,h1])
  ·cases h
 ·cases h
def d26:List AV→Option Ans
 | [.op _ [.int .i64 sh,.int .i64 ix,.int .i64 ps,.op _ tc]]=>(match ve tc with
  | some T=>some ⟨.int .i64 ps,[.free]⟩
  | none=>none)
 | _=>none
theorem ok26:NOk [(4,false)] d26:=by
 intro xs aa h;unfold d26 at h;split at h
 ·rename_i u sh ix ps v tc
  split at h
  ·rename_i T hT
   obtain rfl:=ZL hT;injection h with h;subst h;refine ⟨Zp ?_,?_⟩<;>simp[tzC]
  ·cases h
 ·cases h
theorem s26:Sound Tryz.prog 26 (Zm [(4,false)] d26 ok26):=by
 refine Zi (ac:=?ac) (res:=?res) Tryz.func26 (by kernel_rfl) (ha:=?ha) (hk:=?hk) (hok:=ok26) (fun xs a h=>?_) fun xs a h w0 S hS=>?_
 case ha=>conv=>lhs;cbv
 case hk=>kernel_rfl
 ·unfold d26 at h
  (repeat' (split at h))<;>first|(cases h;done)|exact Nat.le_of_ble_eq_true rfl
 unfold d26 at h;split at h
 ·rename_i u sh ix ps v tc
  split at h
  ·rename_i T hT
   obtain rfl:=ZL hT;injection h with h;subst h;have hE:Zd Tryz.prog (EL []):=Ze (by simp);simp only[tzC]at hS⊢
   repeat' with_reducible (first|refine ZR.h ?_|refine kI ?_|(refine kR hE ?_;intro K hK;simp[];(repeat' (first|refine hK _ _ ?_|apply And.intro|(intro hc;try subst hc)))<;>(try clear hK K))|(refine kT (fun hc=>?_) (fun hc=>?_)<;>simp at hc<;>(try subst hc)))
   all_goals try (show Zb _ _=true;kernel_rfl)
   all_goals first|(show Zb _ _=true;kernel_rfl)|(simp;done)|(simp at *;omega)|((try simp);refine Imp.aut ?_ ?_<;>simp[NLe])
  ·cases h
 ·cases h
theorem e9 {W:WZ} {T:TZ} (hT:okT T=true) (hW:okW W=true) (hs:smW W=true) (u v u1 u2 u3 u4:Nat):d9 [.op u (tzC T),.op v (wzL W u1 u2 u3 u4)]=some ⟨.tup [],[.cells 0 (tzC (Zw W T).1),.cells 0 (wzC (Zw W T).2)]⟩:=by
 simp only[d9,Vv,VC];rw[if_pos ⟨hT,hW,hs⟩]
def ELs:List (FuncId×Spec):=[(62,rdS d62 ok62),(11,ZaD),(7,Zm [] d7 ok7),(9,Zm [(35,true),(10,true)] d9 ok9)]
theorem ZkI:Zd Tryz.prog (EL ELs):=Ze (by
 simp only[ELs,List.mem_cons,List.not_mem_nil,or_false,forall_eq_or_imp,forall_eq];exact ⟨s62,Zfg,s7,s9⟩)
def d22:List AV→Option Ans
 | [.op _ sc,.op _ wc]=>(match Zjp sc,yF wc with
  | some s,some W=>if ZjQ s=true∧okW W=true∧smW W=true then some (⟨.tup [],[.cells 0 (swL (Yg W s).1 0),.cells 0 (wzC (Yg W s).2)]⟩) else none
  | _,_=>none)
 | _=>none
theorem ok22:NOk [(4,true),(10,true)] d22:=by
 intro xs aa h;unfold d22 at h;split at h
 ·rename_i t1 sc t2 wc
  split at h
  ·rename_i s W hSc hWc
   split at h
   ·rename_i hc
    obtain ⟨u1,u2,u3,u4,rfl⟩:=ZN hWc;obtain ⟨u,rfl⟩:=ZcE hSc;injection h with h;subst h;obtain ⟨i,q,hst⟩:=sw_p W s;rw[hst];have hW:=hc.2.1;obtain ⟨hcf,hw,hwl,hs0,ht0,ht1,hlg⟩:=Zk (hW);have hT:=ZW hw;have hC:=ZV hw;have hTl:=ZC hlg;have hCl:=ZD hlg;have hW2:=Te hW (swT W s);obtain ⟨hcf2,hw2,hwl2,hs02,ht02,ht12,hlg2⟩:=Zk (hW2);have hT2:=ZW hw2;have hC2:=ZV hw2;have hTl2:=ZC hlg2;have hCl2:=ZD hlg2;obtain ⟨sh,ix,ps,p⟩:=s;cases p<;>(refine ⟨Zp ?_,?_⟩<;>simp[swL,pC,tzC,wzL,wzC,hT,hC,hTl,hCl,hT2,hC2,hTl2,hCl2])
   ·cases h
  ·cases h
 ·cases h
def E29 (sh ix ps:Int) (T:TZ) (W:WZ):St:=⟨[(0,.tup [])],[(0,.cells 0 [.int .i64 sh,.int .i64 ix,.int .i64 ps,.ptr (.top 2) 0 0]),(1,.cells 0 (wzC W)),(2,.cells 0 (tzC T))],3⟩
theorem s22:Sound Tryz.prog 22 (Zm [(4,true),(10,true)] d22 ok22):=by
 refine Zi (ac:=?ac) (res:=?res) Tryz.func22 (by kernel_rfl) (ha:=?ha) (hk:=?hk) (hok:=ok22) (fun xs a h=>?_) fun xs a h w0 S hS=>?_
 case ha=>conv=>lhs;cbv
 case hk=>kernel_rfl
 ·unfold d22 at h
  (repeat' (split at h))<;>first|(cases h;done)|exact Nat.le_of_ble_eq_true rfl
 unfold d22 at h;split at h
 ·rename_i t1 sc t2 wc
  split at h
  ·rename_i s W hSc hWc
   split at h
   ·rename_i hcond
    obtain ⟨u1,u2,u3,u4,rfl⟩:=ZN hWc;obtain ⟨u,rfl⟩:=ZcE hSc;injection h with h;subst h;clear hSc hWc;have hE:=ZkI;obtain ⟨hok,hW,hsm⟩:=hcond;obtain ⟨hcf,hw,hwl,hs0,ht0,ht1,hlg⟩:=Zk (hW);have hT:=ZW hw;have hC:=ZV hw;have hTl:=ZC hlg;have hCl:=ZD hlg;have hcx:=ZE hcf;have hall:=ZB hcf;have h59:d62 [.agg [.int .i64 W.a,.int .i64 W.b,.int .i64 W.c,.int .i64 W.d,.int .i64 W.e,.int .i64 W.f,.int .i64 W.g]] []=some (.int .i64 (W.a*W.b)):=(by simp only[d62];rw[if_pos hcf]);obtain ⟨sh,ix,ps,p⟩:=s;obtain ⟨nn,hnn⟩:∃ z,W.a*W.b=z:=⟨_,rfl⟩;simp only[ZjQ,Bool.and_eq_true,decide_eq_true_eq]at hok;obtain ⟨⟨hx0,hx1,hp0,hp1⟩,hokp⟩:=hok;rw[hnn]at h59 hall;have hn0:¬ nn=0:=(by omega);have tq:IntKind.wrap .i64 (ix.tdiv nn)=ix / nn:=Xq (by omega) (by omega) (by omega);have tr:ix.tmod nn=ix % nn:=Int.tmod_eq_emod_of_nonneg hx0;have trr:=Int.emod_nonneg ix hn0;have tr2:=Int.emod_lt_of_pos ix (show 0<nn by omega);have tw:IntKind.wrap .i64 (ix % nn)=ix % nn:=Zg (by omega) (by omega);cases p with
    | none =>
     have hTT:swT W ⟨sh,ix,ps,none⟩=tz0 3 (ix / nn) 0 (ix % nn) sh:=(by rw[← hnn];rfl);have hst0:Yg W ⟨sh,ix,ps,none⟩=(⟨sh,ix,ps,some (Zw W (tz0 3 (ix / nn) 0 (ix % nn) sh)).1⟩,(Zw W (tz0 3 (ix / nn) 0 (ix % nn) sh)).2):=by
      unfold Yg;rw[hTT,if_neg (by rw[Tu];simp[tz0])]
     rw[hst0];have h11:d7 [.agg [.int .i64 3,.int .i64 (ix / nn),.int .i64 0,.int .i64 (ix % nn),.int .i64 sh]]=some ⟨.op 0 (tzC (tz0 3 (ix / nn) 0 (ix % nn) sh)),[]⟩:=rfl;have hk0:=ZcG 3 (ix / nn) 0 (ix % nn) sh;have hpc:(Zw W (tz0 3 (ix / nn) 0 (ix % nn) sh)).1.pc=1:=(by rw[Tu];simp[tz0]);have hW2:=Te hW (tz0 3 (ix / nn) 0 (ix % nn) sh);obtain ⟨T0,hT0⟩:∃ z,tz0 3 (ix / nn) 0 (ix % nn) sh=z:=⟨_,rfl⟩;rw[hT0]at h11 hk0 hpc hW2⊢;have hst:=e9 hk0 hW hsm;obtain ⟨r,hr⟩:∃ r,Zw W T0=r:=⟨_,rfl⟩;rw[hr]at hst hpc hW2⊢;have h13:=e11 r.1;rw[decide_eq_false (by omega)]at h13;obtain ⟨hcf2,hw2,hwl2,hs02,ht02,ht12,hlg2⟩:=Zk (hW2);have hT2:=ZW hw2;have hC2:=ZV hw2;have hTl2:=ZC hlg2;have hCl2:=ZD hlg2;simp only[swL,pC,tzC,wzL,wzC]at hst h11 h13 hS⊢
     repeat' with_reducible (first|refine ZR.h ?_|refine kI ?_|((first|refine kR hE ?_|refine kD hE Zq ?_);intro K hK;simp[hT,hC,hTl,hCl,hT2,hC2,hTl2,hCl2,h59,hn0,tq,tr,tw,h11,hst,h13,ELs,ZaD,yc,nil1,ZdB];(repeat' (first|refine hK _ _ ?_|apply And.intro|(intro hc;try subst hc)))<;>(try clear hK K))|(refine kT (fun hc=>?_) (fun hc=>?_)<;>simp at hc<;>(try subst hc)))
     all_goals try (show Zb _ _=true;kernel_rfl)
     all_goals (try simp[hT,hC,hTl,hCl,hT2,hC2,hTl2,hCl2])
     all_goals (refine Imp.trans (t:=E29 sh ix ps r.1 r.2) (Imp.aua (by kernel_rfl) ?_ ?_) ?_)
     all_goals first|(simp[E29,NLe,YH,V8,Uy,tzC,wzC,hT,hC,hTl,hCl,hT2,hC2,hTl2,hCl2];done)|skip
     all_goals (refine Imp.trans (Imp.absorb (.top 0) 0 3 2 (by rfl) (by rfl) (by rfl) (.inr ⟨0,_,by rfl,by rfl⟩) (by simp)) ?_)
     all_goals (simp only[E29];refine Imp.aut ?_ ?_<;>simp[NLe,YH,V8,Uy,tzC,wzC,hT,hC,hTl,hCl,hT2,hC2,hTl2,hCl2,Xb,ZZ])
    | some T =>
     replace hokp:okT T=true:=hokp;have h13a:=e11 T;by_cases h14:14≤T.pc
     ·rw[decide_eq_true h14]at h13a
      have hTT:swT W ⟨sh,ix,ps,some T⟩=tz0 3 (ix / nn) 0 (ix % nn) sh:=(by rw[← hnn];simp only[swT];rw[if_pos h14]);have hst0:Yg W ⟨sh,ix,ps,some T⟩=(⟨sh,ix,ps,some (Zw W (tz0 3 (ix / nn) 0 (ix % nn) sh)).1⟩,(Zw W (tz0 3 (ix / nn) 0 (ix % nn) sh)).2):=by
       unfold Yg;rw[hTT,if_neg (by rw[Tu];simp[tz0])]
      rw[hst0];have h11:d7 [.agg [.int .i64 3,.int .i64 (ix / nn),.int .i64 0,.int .i64 (ix % nn),.int .i64 sh]]=some ⟨.op 0 (tzC (tz0 3 (ix / nn) 0 (ix % nn) sh)),[]⟩:=rfl;have hk0:=ZcG 3 (ix / nn) 0 (ix % nn) sh;have hpc:(Zw W (tz0 3 (ix / nn) 0 (ix % nn) sh)).1.pc=1:=(by rw[Tu];simp[tz0]);have hW2:=Te hW (tz0 3 (ix / nn) 0 (ix % nn) sh);obtain ⟨T0,hT0⟩:∃ z,tz0 3 (ix / nn) 0 (ix % nn) sh=z:=⟨_,rfl⟩;rw[hT0]at h11 hk0 hpc hW2⊢;have hst:=e9 hk0 hW hsm;obtain ⟨r,hr⟩:∃ r,Zw W T0=r:=⟨_,rfl⟩;rw[hr]at hst hpc hW2⊢;have h13:=e11 r.1;rw[decide_eq_false (by omega)]at h13;obtain ⟨hcf2,hw2,hwl2,hs02,ht02,ht12,hlg2⟩:=Zk (hW2);have hT2:=ZW hw2;have hC2:=ZV hw2;have hTl2:=ZC hlg2;have hCl2:=ZD hlg2;simp only[swL,pC,tzC,wzL,wzC]at hst h11 h13 h13a hS⊢
      repeat' with_reducible (first|refine ZR.h ?_|refine kI ?_|((first|refine kR hE ?_|refine kD hE Zq ?_);intro K hK;simp[hT,hC,hTl,hCl,hT2,hC2,hTl2,hCl2,h59,hn0,tq,tr,tw,h11,hst,h13,h13a,ELs,ZaD,yc,nil1];(repeat' (first|refine hK _ _ ?_|apply And.intro|(intro hc;try subst hc)))<;>(try clear hK K))|(refine kT (fun hc=>?_) (fun hc=>?_)<;>simp at hc<;>(try subst hc)))
      all_goals try (show Zb _ _=true;kernel_rfl)
      all_goals (try simp[hT,hC,hTl,hCl,hT2,hC2,hTl2,hCl2])
      all_goals (refine Imp.trans (t:=E29 sh ix ps r.1 r.2) (Imp.aua (by kernel_rfl) ?_ ?_) ?_)
      all_goals first|(simp[E29,NLe,YH,V8,Uy,tzC,wzC,hT,hC,hTl,hCl,hT2,hC2,hTl2,hCl2];done)|skip
      all_goals (refine Imp.trans (Imp.absorb (.top 0) 0 3 2 (by rfl) (by rfl) (by rfl) (.inr ⟨0,_,by rfl,by rfl⟩) (by simp)) ?_)
      all_goals (simp only[E29];refine Imp.aut ?_ ?_<;>simp[NLe,YH,V8,Uy,tzC,wzC,hT,hC,hTl,hCl,hT2,hC2,hTl2,hCl2,Xb,ZZ])
     ·rw[decide_eq_false h14]at h13a
      have hTT:swT W ⟨sh,ix,ps,some T⟩=T:=(by simp only[swT];rw[if_neg h14]);have hst:=e9 hokp hW hsm;have hW2:=Te hW T;have h13:=e11 (Zw W T).1;have hsw:Yg W ⟨sh,ix,ps,some T⟩=if 14≤(Zw W T).1.pc then (if ix+1=nn*nn then (⟨sh,0,ps+1,some (Zw W T).1⟩,(Zw W T).2) else (⟨sh,ix+1,ps,some (Zw W T).1⟩,(Zw W T).2)) else (⟨sh,ix,ps,some (Zw W T).1⟩,(Zw W T).2):=by
       unfold Yg;rw[hTT,hnn]
      rw[hsw];obtain ⟨r,hr⟩:∃ r,Zw W T=r:=⟨_,rfl⟩;rw[hr]at hst hW2 h13⊢;obtain ⟨hcf2,hw2,hwl2,hs02,ht02,ht12,hlg2⟩:=Zk (hW2);have hT2:=ZW hw2;have hC2:=ZV hw2;have hTl2:=ZC hlg2;have hCl2:=ZD hlg2;have hmm:=Xh (show 0≤nn by omega) (show nn≤24 by omega) (show 0≤nn by omega) (show nn≤24 by omega);have w1:IntKind.wrap .i64 (ix+1)=ix+1:=Zg (by omega) (by omega);have w2:IntKind.wrap .i64 (nn*nn)=nn*nn:=Zg (by omega) (by omega);have w3:IntKind.wrap .i64 (ps+1)=ps+1:=Zg (by omega) (by omega);by_cases hd:14≤r.1.pc
      ·rw[decide_eq_true hd]at h13
       rw[if_pos hd];by_cases hl:ix+1=nn*nn
       ·rw[if_pos hl]
        simp only[swL,pC,tzC,wzL,wzC]at hst h13 h13a hS⊢
        repeat' with_reducible (first|refine ZR.h ?_|refine kI ?_|((first|refine kR hE ?_|refine kD hE Zq ?_);intro K hK;simp[hT,hC,hTl,hCl,hT2,hC2,hTl2,hCl2,h59,hst,h13,h13a,w1,w2,w3,hl,ELs,ZaD,yc,nil1];(repeat' (first|refine hK _ _ ?_|apply And.intro|(intro hc;try subst hc)))<;>(try clear hK K))|(refine kT (fun hc=>?_) (fun hc=>?_)<;>simp at hc<;>(try subst hc)))
        all_goals try (show Zb _ _=true;kernel_rfl)
        all_goals first|(show Zb _ _=true;kernel_rfl)|(simp;done)|(simp at *;omega)|((try simp[hT,hC,hTl,hCl,hT2,hC2,hTl2,hCl2]);refine Imp.aut ?_ ?_<;>simp[NLe,YH,V8,Uy,hT,hC,hTl,hCl,hT2,hC2,hTl2,hCl2])
       ·rw[if_neg hl]
        simp only[swL,pC,tzC,wzL,wzC]at hst h13 h13a hS⊢
        repeat' with_reducible (first|refine ZR.h ?_|refine kI ?_|((first|refine kR hE ?_|refine kD hE Zq ?_);intro K hK;simp[hT,hC,hTl,hCl,hT2,hC2,hTl2,hCl2,h59,hst,h13,h13a,w1,w2,w3,hl,ELs,ZaD,yc,nil1];(repeat' (first|refine hK _ _ ?_|apply And.intro|(intro hc;try subst hc)))<;>(try clear hK K))|(refine kT (fun hc=>?_) (fun hc=>?_)<;>simp at hc<;>(try subst hc)))
        all_goals try (show Zb _ _=true;kernel_rfl)
        all_goals first|(show Zb _ _=true;kernel_rfl)|(simp;done)|(simp at *;omega)|((try simp[hT,hC,hTl,hCl,hT2,hC2,hTl2,hCl2]);refine Imp.aut ?_ ?_<;>simp[NLe,YH,V8,Uy,hT,hC,hTl,hCl,hT2,hC2,hTl2,hCl2])
      ·rw[decide_eq_false hd]at h13
       rw[if_neg hd];simp only[swL,pC,tzC,wzL,wzC]at hst h13 h13a hS⊢
       repeat' with_reducible (first|refine ZR.h ?_|refine kI ?_|((first|refine kR hE ?_|refine kD hE Zq ?_);intro K hK;simp[hT,hC,hTl,hCl,hT2,hC2,hTl2,hCl2,h59,hst,h13,h13a,ELs,ZaD,yc,nil1];(repeat' (first|refine hK _ _ ?_|apply And.intro|(intro hc;try subst hc)))<;>(try clear hK K))|(refine kT (fun hc=>?_) (fun hc=>?_)<;>simp at hc<;>(try subst hc)))
       all_goals try (show Zb _ _=true;kernel_rfl)
       all_goals first|(show Zb _ _=true;kernel_rfl)|(simp;done)|(simp at *;omega)|((try simp[hT,hC,hTl,hCl,hT2,hC2,hTl2,hCl2]);refine Imp.aut ?_ ?_<;>simp[NLe,YH,V8,Uy,hT,hC,hTl,hCl,hT2,hC2,hTl2,hCl2])
   ·cases h
  ·cases h
 ·cases h
theorem e22 {W:WZ} {s:SwZ} (hs:ZjQ s=true) (hW:okW W=true) (hm:smW W=true) (u u' v u1 u2 u3 u4:Nat):d22 [.op u (swL s u'),.op v (wzL W u1 u2 u3 u4)]=some ⟨.tup [],[.cells 0 (swL (Yg W s).1 0),.cells 0 (wzC (Yg W s).2)]⟩:=by
 simp only[d22,Zd9,VC];rw[if_pos ⟨hs,hW,hm⟩]
end Go.W
namespace Go.W
open Go.Proofs
set_option linter.unusedSimpArgs false
set_option linter.unusedVariables false
def gSw (s:SwZ):List AV:=swL s 0
def gSq (m:Int) (s:SwZ):List AV:=sqC (UM m s)
def gRq (n:Int) (R:RpZ):List AV:=rqC (Zal n R)
instance:Own gSw:=⟨fun s=>by cases hs:s.p<;>simp[gSw,swL,pC,hs,t0L,AV.t0,tzC],fun s=>by cases hs:s.p<;>simp[gSw,swL,pC,hs,clL,AV.cl,tzC],fun n s hn=>by cases hs:s.p<;>simp[gSw,swL,pC,hs,tlL,AV.tl,tzC,hn]⟩
instance (m:Int):Own (gSq m):=⟨fun s=>by simp[gSq,sqC,t0L,AV.t0,rzC],fun s=>by simp[gSq,sqC,clL,AV.cl,rzC],fun n s hn=>by simp[gSq,sqC,tlL,AV.tl,rzC]⟩
instance:Own rpC:=⟨fun s=>by simp[t0L,AV.t0,rpC],fun s=>by simp[clL,AV.cl,rpC],fun n s hn=>by simp[tlL,AV.tl,rpC]⟩
instance (m:Int):Own (gRq m):=⟨fun s=>by simp[gRq,rqC,t0L,AV.t0],fun s=>by simp[gRq,rqC,clL,AV.cl],fun n s hn=>by simp[gRq,rqC,tlL,AV.tl]⟩
set_option maxHeartbeats 8000000
def ZeG (W:WZ):Int×Int×Int×Int×Int×Int×Int:=(W.a,W.b,W.c,W.d,W.e,W.f,W.g)
theorem Zek {W V:WZ} (h:X5 W=X5 V):ZeG W=ZeG V:=by
 simp only[X5,Prod.mk.injEq]at h;simp only[ZeG,Prod.mk.injEq];exact ⟨h.1,h.2.1,h.2.2.1,h.2.2.2.1,h.2.2.2.2.1,h.2.2.2.2.2.1,h.2.2.2.2.2.2.1⟩
theorem Zea {W V:WZ} (h:ZeG W=ZeG V):W.a=V.a∧W.b=V.b∧W.c=V.c∧W.d=V.d∧W.e=V.e∧W.f=V.f∧W.g=V.g:=by
 simp only[ZeG,Prod.mk.injEq]at h;exact h
def Zaa (m:Int) (s:SwZ):Int:=14*(m*s.ps+s.ix)+pcS s
def yL (n:Int) (R:RpZ):Int:=4*(n*R.ps)+R.pc
theorem ZgU {m:Int} {s:SwZ} (h:SwJ m s):0≤pcS s∧pcS s<14∧(pcS s=0↔s.p=none∨∃ T,s.p=some T∧14≤T.pc):=by
 obtain ⟨j0,j1,j2,j3⟩:=h;unfold pcS;cases hp:s.p with
 | none=>simp
 | some T =>
  have:=j3 T hp;simp only;split
  ·rename_i c
   exact ⟨by omega,by omega,⟨fun _=>.inr ⟨T,rfl,c⟩,fun _=>rfl⟩⟩
  ·rename_i c
   refine ⟨by omega,by omega,⟨fun e=>by omega,fun e=>?_⟩⟩;rcases e with e|⟨U,e,d⟩
   ·cases e
   ·injection e with e
    subst e;omega
theorem Zkb {m:Int} {s:SwZ} (h:SwJ m s):0≤m*s.ps∧s.ps≤Zaa m s∧0≤Zaa m s:=by
 obtain ⟨p0,p1,_⟩:=ZgU h;obtain ⟨j0,j1,j2,j3⟩:=h;have h1:1*s.ps≤m*s.ps:=Int.mul_le_mul (by omega) (Int.le_refl _) j2 (by omega);unfold Zaa;omega
theorem Zjs {G F n:Int} {R:RpZ} (h:RpJ G F n R):R.ps≤yL n R∧0≤yL n R:=by
 obtain ⟨r0,r1,r2,_⟩:=h;have h1:1*R.ps≤n*R.ps:=Int.mul_le_mul (by omega) (Int.le_refl _) r2 (by omega);unfold yL;omega
theorem ZgA {W:WZ} {Q:QZ} {Ss:List SwZ} (h:vy W Q (Ss.map pT)) {k:Nat} {s:SwZ} (hk:Ss[k]?=some s) {m:Int} (hm:W.a*W.b*(W.a*W.b)=m) (hj:SwJ m s):vy W Q ((Ss.map pT).set k (swT W s))∧sqT Q (UM m s)=rOf (swT W s):=by
 obtain ⟨j0,j1,j2,j3⟩:=hj;obtain ⟨pa,pb,_⟩:=h.2.1.par;have hkl:=(List.getElem?_eq_some_iff.1 hk).1;have hkT:(Ss.map pT)[k]?=some (pT s):=by rw[List.getElem?_map,hk];rfl
 have hdiv:(m*s.ps+s.ix) % m=s.ix:=by rw[Int.add_comm,Int.add_mul_emod_self_left];exact Int.emod_eq_of_lt j0 j1
 have e14:(14*(m*s.ps+s.ix)+0) / 14 % m=s.ix:=by rw[show (14*(m*s.ps+s.ix)+0) / 14=m*s.ps+s.ix by omega,hdiv]
 unfold UM sqT swT;rw[pa,pb,hm];cases hp:s.p with
 | none =>
  have e1:pcS s=0:=by unfold pcS;rw[hp]
  have e2:pT s=tz0 0 0 0 0 0:=by unfold pT;rw[hp]
  rw[e2]at hkT;simp only[e1,e14];exact ⟨xN h hkT (.inl rfl) _ _ _ _ _,by rw[if_pos (by omega)]⟩
 | some T =>
  have e2:pT s=T:=by unfold pT;rw[hp]
  rw[e2]at hkT;have jT:=j3 T hp;simp only;by_cases c:14≤T.pc
  ·have e1:pcS s=0:=by unfold pcS;rw[hp];simp only;rw[if_pos c]
   rw[e1,if_pos c,e14,if_pos (by omega)];exact ⟨xN h hkT (.inr (by omega)) _ _ _ _ _,rfl⟩
  ·have e1:pcS s=T.pc:=by unfold pcS;rw[hp];simp only;rw[if_neg c]
   rw[e1,if_neg c,e2,if_neg (by omega)];refine ⟨?_,rfl⟩;have:(Ss.map pT).set k T=Ss.map pT:=by
    refine List.ext_getElem? fun i=>?_;by_cases e:i=k
    ·subst e
     rw[List.getElem?_set_self (by rw[List.length_map];exact hkl),hkT]
    ·rw[List.getElem?_set_ne (by omega)]
   rw[this];exact h
structure BrJ (B W:WZ) (Q:QZ) (Ss:List SwZ) (Rs:List RpZ) (N i:Nat):Prop where
 all:vy W Q (Ss.map pT)
 par:ZeG W=ZeG B
 sw:∀ s,s∈Ss→SwJ (B.a*B.b*(B.a*B.b)) s∧Zaa (B.a*B.b*(B.a*B.b)) s≤i
 rp:∀ R,R∈Rs→RpJ B.g B.f (B.a*B.b) R∧yL (B.a*B.b) R≤i
 ls:Ss.length=N
 lr:Rs.length=N
 s:W.s≤48+i
 u:Q.u≤W.s
 lg:W.lg.length≤i
section
variable {B W:WZ} {Q:QZ} {Ss:List SwZ} {Rs:List RpZ} {N i:Nat}
theorem BrJ.mono (h:BrJ B W Q Ss Rs N i) {j:Nat} (hij:i≤j):BrJ B W Q Ss Rs N j:=by
 obtain ⟨h1,h2,h3,h4,h5,h6,h7,h8,h9⟩:=h;exact ⟨h1,h2,fun s hs=>⟨(h3 s hs).1,by have:=(h3 s hs).2;omega⟩,fun s hs=>⟨(h4 s hs).1,by have:=(h4 s hs).2;omega⟩,h5,h6,by omega,h8,by omega⟩
theorem ZaV {α:Type} {l:List α} {k:Nat} {x:α} {p:α→Prop} (h:∀ y,y∈l→p y) (hx:p x):∀ y,y∈l.set k x→p y:=fun y hy=>by
 rcases List.mem_or_eq_of_mem_set hy with h1|h1
 ·exact h y h1
 ·rw[h1];exact hx
theorem br_sw (h:BrJ B W Q Ss Rs N i) (hi:i≤600) {k:Nat} {s:SwZ} (hk:Ss[k]?=some s):∃ Q',UQ Q (UM (B.a*B.b*(B.a*B.b)) s)=(UM (B.a*B.b*(B.a*B.b)) (Yg W s).1,Q')∧BrJ B (Yg W s).2 Q' (Ss.set k (Yg W s).1) Rs N (i+1)∧(Yg W s).2.s - W.s=Q'.u - Q.u∧W.s≤(Yg W s).2.s∧(Yg W s).2.s≤W.s+1
  ∧ ZjQ s=true∧okR (sqT Q (UM (B.a*B.b*(B.a*B.b)) s))=true∧ZfC Q (sqT Q (UM (B.a*B.b*(B.a*B.b)) s))=true∧(0≤Zaa (B.a*B.b*(B.a*B.b)) s∧Zaa (B.a*B.b*(B.a*B.b)) s≤i):=by
 obtain ⟨h1,h2,h3,h4,h5,h6,h7,h8,h9⟩:=h
 have p:=Zea h2
 have hm:W.a*W.b*(W.a*W.b)=B.a*B.b*(B.a*B.b):=by rw[p.1,p.2.1]
 have hmem:=List.mem_of_getElem? hk
 obtain ⟨hj,hst⟩:=h3 s hmem
 have hx:=Zkb hj
 obtain ⟨a1,a2⟩:=ZgA h1 hk hm hj
 have hkl:=(List.getElem?_eq_some_iff.1 hk).1
 have hk2:((Ss.map pT).set k (swT W s))[k]?=some (swT W s):=List.getElem?_set_self (by rw[List.length_map];exact hkl)
 have hmem2:=List.mem_of_getElem? hk2
 have hl:=Zhn a1 hmem2
 obtain ⟨Q',c1,c2,c3,c4,c5,c6,c7⟩:=ZjU h1 hk (by rw[hm];exact hj)
 rw[hm]at c1 c4
 have hst2:Zaa (B.a*B.b*(B.a*B.b)) (Yg W s).1=Zaa (B.a*B.b*(B.a*B.b)) s+1:=by
  have e:=congrArg (fun z=>z.1.st) c1;have e2:(UQ Q (UM (B.a*B.b*(B.a*B.b)) s)).1.st=(UM (B.a*B.b*(B.a*B.b)) s).st+1:=by
   unfold UQ;split<;>rfl
  simp only[e2]at e;exact e.symm
 obtain ⟨n,hn⟩:∃ n,B.a*B.b=n:=⟨_,rfl⟩
 have hall:=ZB (Zk h1.2.1.okw).1
 rw[p.1,p.2.1,hn]at hall
 have hnn:=Int.mul_le_mul hall.2 hall.2 (by omega) (by omega)
 rw[hn]at hj hst hx c1 c4 a2 hst2⊢
 have hpar:ZeG (Yg W s).2=ZeG B:=by
  obtain ⟨i',q',e⟩:=sw_p W s;rw[e];exact (Zek (ZcL W (swT W s))).trans h2
 rw[hn]at h3
 refine ⟨Q',c1,⟨c2,hpar,by rw[hn];exact ZaV (fun y hy=>⟨(h3 y hy).1,by have:=(h3 y hy).2;omega⟩) ⟨c4,by omega⟩,fun R hR=>⟨(h4 R hR).1,by have:=(h4 R hR).2;omega⟩,by rw[List.length_set];exact h5,h6,by omega,by omega,by omega⟩,c3,c6,c7,?_,?_,?_,hx.2.2,hst⟩
 ·obtain ⟨j0,j1,j2,j3⟩:=hj
  unfold ZjQ;rw[Bool.and_eq_true];refine ⟨decide_eq_true ⟨j0,by omega,j2,by omega⟩,?_⟩;cases hp:s.p with
  | none=>rfl
  | some T =>
   have e2:pT s=T:=(by unfold pT;rw[hp]);have:=h1.2.2.2.2 (pT s) (List.mem_map_of_mem hmem);rw[e2]at this;exact this
 ·rw[a2];exact Zj4 (a1.2.2.2.2 _ hmem2)
 ·rw[a2];exact Zhv a1.2.1 (a1.2.2.2.1 _ hmem2) hl.1
theorem br_rp (h:BrJ B W Q Ss Rs N i) (hi:i≤600) {k:Nat} {R:RpZ} (hk:Rs[k]?=some R):∃ Q',T4 Q (Zal (B.a*B.b) R)=(Zal (B.a*B.b) (Yf W R).1,Q')∧BrJ B (Yf W R).2 Q' Ss (Rs.set k (Yf W R).1) N (i+1)∧(Yf W R).2.s - W.s=Q'.u - Q.u∧W.s≤(Yf W R).2.s∧(Yf W R).2.s≤W.s+1
  ∧ Zjo R=true∧R.pc<4*(W.a*W.b)∧(0≤yL (B.a*B.b) R∧yL (B.a*B.b) R≤i)∧(yL (B.a*B.b) R % 4=3→R.dn=true→1≤R.st.g∧R.st.g≤Q.g):=by
 obtain ⟨h1,h2,h3,h4,h5,h6,h7,h8,h9⟩:=h
 have p:=Zea h2
 have hmem:=List.mem_of_getElem? hk
 obtain ⟨hj,hst⟩:=h4 R hmem
 have hx:=Zjs hj
 have hab:W.a*W.b=B.a*B.b:=by rw[p.1,p.2.1]
 obtain ⟨Q',c1,c2,c3,c4,c5,c6,c7,c8⟩:=ZkO h1 (R:=R) (by rw[p.2.2.2.2.2.2,p.2.2.2.2.2.1,hab];exact hj)
 rw[hab]at c1 c4
 rw[p.2.2.2.2.2.2,p.2.2.2.2.2.1]at c4
 have hst2:yL (B.a*B.b) (Yf W R).1=yL (B.a*B.b) R+1:=by
  have e:=congrArg (fun z=>z.1.st) c1;exact e.symm
 obtain ⟨n,hn⟩:∃ n,B.a*B.b=n:=⟨_,rfl⟩
 have hall:=ZB (Zk h1.2.1.okw).1
 rw[hab,hn]at hall
 rw[hab]
 rw[hn]at hj hst hx c1 c4 hst2 h4⊢
 refine ⟨Q',c1,⟨c2,(Zek c5).trans h2,fun s hs=>⟨(h3 s hs).1,by have:=(h3 s hs).2;omega⟩,by rw[hn];exact ZaV (fun y hy=>⟨(h4 y hy).1,by have:=(h4 y hy).2;omega⟩) ⟨c4,by omega⟩,h5,by rw[List.length_set];exact h6,by omega,by omega,by omega⟩,c3,c7,c8,?_,hj.2.1,⟨hx.2,hst⟩,?_⟩
 ·obtain ⟨r0,r1,r2,r3,r4,r5,r6,r7,r8⟩:=hj
  exact decide_eq_true ⟨r0,by omega,r2,by omega,r4.1,r4.2,r5,r6.1,r6.2⟩
 ·obtain ⟨r0,r1,r2,r3,r4,r5,r6,r7,r8⟩:=hj
  intro e1 e2;have e3:R.pc % 4=3:=by unfold yL at e1;omega
  obtain ⟨g1,g2⟩:=r8 e3 e2;have g3:=g1.2.2.2.2.2.2.2.2 (by rw[g2];omega);obtain ⟨_,_,_,_,_,qg⟩:=h1.2.1.par;rw[qg,p.2.2.2.2.2.2];exact ⟨g3.1,g3.2.1⟩
theorem br_go (h:BrJ B W Q Ss Rs N i) {n:Int} (hn:n≤9223372036854775807):BrJ B (goW W n) (goQ Q n) Ss Rs N i:=by
 obtain ⟨h1,h2,h3,h4,h5,h6,h7,h8,h9⟩:=h;exact ⟨Zjx h1 hn,h2,h3,h4,h5,h6,h7,h8,h9⟩
end
def Zjl:List AV→Bool
 | [.int .i64 k,.int .i64 n]=>decide (n≤9223372036854775807)
 | _=>false
theorem Zec {r:List AV} (h:Zjl r=true):∃ k n:Int,r=[.int .i64 k,.int .i64 n]∧n≤9223372036854775807:=by
 unfold Zjl at h;split at h
 ·exact ⟨_,_,rfl,of_decide_eq_true h⟩
 ·cases h
theorem ZgX {els:List (List AV)} (h:els.all Zjl=true):els.all Zh1=true:=List.all_eq_true.2 fun c hc=>by
 obtain ⟨k,n,rfl,_⟩:=Zec (List.all_eq_true.1 h c hc)
 rfl
def Ss0 (k:Nat):List SwZ:=(List.range k).map fun i:Nat=>⟨(i:Int),0,0,none⟩
def rp00 (i:Int):RpZ:=⟨i,0,0,0,⟨0,false,0,0,0⟩,⟨0,0,0,0,0⟩,false,0⟩
def Rs0 (k:Nat):List RpZ:=(List.range k).map fun i:Nat=>rp00 i
theorem VS (k:Nat):(Ss0 k).length=k:=by unfold Ss0;rw[List.length_map,List.length_range]
theorem VY (k:Nat):(Rs0 k).length=k:=by unfold Rs0;rw[List.length_map,List.length_range]
theorem Zfa (k:Nat):Ss0 (k+1)=Ss0 k++[⟨(k:Int),0,0,none⟩]:=by unfold Ss0;rw[List.range_succ,List.map_append];rfl
theorem Zfb (k:Nat):Rs0 (k+1)=Rs0 k++[rp00 k]:=by unfold Rs0;rw[List.range_succ,List.map_append];rfl
theorem gSq0 (m k:Int):gSq m ⟨k,0,0,none⟩=[.int .i64 k,.int .i64 0,.int .i64 0,.int .i64 0,.int .i64 0,.int .i64 0,.int .i64 0,.int .i64 0,.int .i64 0,.bool false,.int .i64 0,.int .i64 0,.int .i64 0,.int .i64 0,.bool false,.int .i64 0,.int .i64 0,.int .i64 0,.int .i64 0,.bool false,.int .i64 0,.int .i64 0,.int .i64 0,.int .i64 0,.bool false,.int .i64 0,.int .i64 0,.int .i64 0,.int .i64 0,.int .i64 0,.int .i64 0,.int .i64 0,.int .i64 0,.int .i64 0,.int .i64 0,.int .i64 0,.int .i64 0,.int .i64 0,.bool false,.bool false,.bool false,.int .i64 0,.int .i64 0,.int .i64 0,.int .i64 0]:=by
 have e:UM m ⟨k,0,0,none⟩=⟨k,0,rOf (tz0 0 0 0 0 0)⟩:=by simp[UM,pcS,pT]
 unfold gSq;rw[e,rz0]
 rfl
theorem gRq0 (n k:Int):gRq n (rp00 k)=[.int .i64 k,.int .i64 0,.int .i64 0,.bool false,.int .i64 0,.int .i64 0,.int .i64 0,.int .i64 0,.int .i64 0,.int .i64 0,.int .i64 0,.int .i64 0,.bool false,.int .i64 0]:=by
 have e:Zal n (rp00 k)=⟨k,0,⟨0,false,0,0,0⟩,⟨0,0,0,0,0⟩,false,0⟩:=by simp[Zal,rp00]
 unfold gRq;rw[e]
 rfl
theorem br_0 {B:WZ} {Q:QZ} {N:Nat} (hJ:∀ Ts:List TZ,(∀ T,T∈Ts→∃ w x g y s,T=tz0 w x g y s)→vy B Q Ts) (hs:B.s≤48) (hu:Q.u≤B.s) (hl:B.lg.length=0):BrJ B B Q (Ss0 N) (Rs0 N) N 0:=by
 have hA:=hJ ((Ss0 N).map pT) (fun T hT=>by
  obtain ⟨s,hs,rfl⟩:=List.mem_map.1 hT;obtain ⟨i,_,rfl⟩:=List.mem_map.1 hs;exact ⟨0,0,0,0,0,rfl⟩)
 have hall:=ZB (Zk hA.2.1.okw).1;have hnn:=Int.mul_le_mul hall.1 hall.1 (by omega) (show 0≤B.a*B.b by omega);refine ⟨hA,rfl,fun s hs=>?_,fun R hR=>?_,VS N,VY N,by omega,hu,by omega⟩
 ·obtain ⟨i,_,rfl⟩:=List.mem_map.1 hs
  exact ⟨⟨Int.le_refl _,by show (0:Int)<_;omega,Int.le_refl _,fun T hT=>by cases hT⟩,by simp[Zaa,pcS]⟩
 ·obtain ⟨i,_,rfl⟩:=List.mem_map.1 hR
  exact ⟨⟨Int.le_refl _,by show (0:Int)<_;omega,Int.le_refl _,ZfU _ _,⟨by simp[rp00],by simp[rp00]⟩,by rfl,⟨by simp[rp00],by simp[rp00]⟩,fun _=>⟨by rfl,rfl⟩,fun _ e=>by cases e⟩,by simp[yL,rp00]⟩
set_option maxRecDepth 100000
attribute [local irreducible] Wm WmA
attribute [local simp] YP lkp Vq prs V9 prT ddL idL Yy Ue Ren Ve NObj.none ZT
theorem Zee {x y:SwZ} {u:Nat} (h:swL x u=swL y u):x=y:=by
 have:=congrArg Zjp h;rw[Zd9,Zd9]at this;exact Option.some.inj this
def ZbG (s:SwZ):Bool:=decide (s.ix=0)&&(match s.p with
 | none=>true
 | some T=>decide (14≤T.pc))
def F26:Fn SwZ:=⟨[(4,false)],fun _=>True,fun s=>[.op 0 (swL s 0)],fun s=>⟨.int .i64 s.ps,[.free]⟩⟩
def F27:Fn SwZ:=⟨[(4,false)],fun _=>True,fun s=>[.op 0 (swL s 0)],fun s=>⟨.bool (ZbG s),[.free]⟩⟩
theorem Zfu:F26.Ok:=⟨fun x y _ _ h=>by
  simp only[F26,List.cons.injEq,AV.op.injEq,true_and,and_true]at h;rw[Zee h],fun x hx=>by
  obtain ⟨sh,ix,ps,p⟩:=x;cases p<;>exact ⟨Zp (by simp[F26,swL,pC,tzC]),by simp[F26]⟩⟩
theorem s26x:Sound Tryz.prog 26 (F26.spec Zfu):=by
 refine Fn.sound (ac:=?ac) (res:=?res) Zfu Tryz.func26 (by kernel_rfl) (ha:=?ha) (hk:=?hk) (fun x hx=>rfl) fun x hx w0 S hS=>?w
 case ha=>conv=>lhs;cbv
 case hk=>kernel_rfl
 obtain ⟨sh,ix,ps,p⟩:=x;cases p with
 | none =>
  have hE:Zd Tryz.prog (EL [(11,Zm [] ZdB Zeg)]):=Ze (by simp only[List.mem_cons,List.not_mem_nil,or_false,forall_eq_or_imp,forall_eq];exact s11n);simp[F26,swL,pC]at hS⊢
  repeat' with_reducible (first|refine ZR.h ?_|refine kI ?_|((first|refine kR hE ?_|refine kD hE Zq ?_);intro K hK;simp[];(repeat' (first|refine hK _ _ ?_|apply And.intro|(intro hc;try subst hc)))<;>(try clear hK K))|(refine kT (fun hc=>?_) (fun hc=>?_)<;>simp at hc<;>(try subst hc)))
  all_goals try (show Zb _ _=true;kernel_rfl)
  all_goals first|(simp;done)|((try simp[]);refine Imp.aut ?_ ?_<;>simp[NLe,])
 | some T =>
  have hE:Zd Tryz.prog (EL [(11,Zm [(35,false)] d11 ok11)]):=Ze (by simp only[List.mem_cons,List.not_mem_nil,or_false,forall_eq_or_imp,forall_eq];exact s11);have h13:=e11 T;simp[F26,swL,pC,tzC]at h13 hS⊢
  repeat' with_reducible (first|refine ZR.h ?_|refine kI ?_|((first|refine kR hE ?_|refine kD hE Zq ?_);intro K hK;simp[h13];(repeat' (first|refine hK _ _ ?_|apply And.intro|(intro hc;try subst hc)))<;>(try clear hK K))|(refine kT (fun hc=>?_) (fun hc=>?_)<;>simp at hc<;>(try subst hc)))
  all_goals try (show Zb _ _=true;kernel_rfl)
  all_goals first|(simp;done)|((try simp[]);refine Imp.aut ?_ ?_<;>simp[NLe,])
theorem ZfI:F27.Ok:=⟨fun x y _ _ h=>by
  simp only[F27,List.cons.injEq,AV.op.injEq,true_and,and_true]at h;rw[Zee h],fun x hx=>by
  obtain ⟨sh,ix,ps,p⟩:=x;cases p<;>exact ⟨Zp (by simp[F27,swL,pC,tzC]),by simp[F27]⟩⟩
theorem s27x:Sound Tryz.prog 27 (F27.spec ZfI):=by
 refine Fn.sound (ac:=?ac) (res:=?res) ZfI Tryz.func27 (by kernel_rfl) (ha:=?ha) (hk:=?hk) (fun x hx=>rfl) fun x hx w0 S hS=>?w
 case ha=>conv=>lhs;cbv
 case hk=>kernel_rfl
 obtain ⟨sh,ix,ps,p⟩:=x;cases p with
 | none =>
  have hE:Zd Tryz.prog (EL [(11,Zm [] ZdB Zeg)]):=Ze (by simp only[List.mem_cons,List.not_mem_nil,or_false,forall_eq_or_imp,forall_eq];exact s11n);simp[F27,swL,pC]at hS⊢;by_cases h1:ix=0
  ·repeat' with_reducible (first|refine ZR.h ?_|refine kI ?_|((first|refine kR hE ?_|refine kD hE Zq ?_);intro K hK;simp[h1,ZdB];(repeat' (first|refine hK _ _ ?_|apply And.intro|(intro hc;try subst hc)))<;>(try clear hK K))|(refine kT (fun hc=>?_) (fun hc=>?_)<;>simp at hc<;>(try subst hc)))
   all_goals try (show Zb _ _=true;kernel_rfl)
   all_goals first|(simp;done)|((try simp[h1,ZbG]);refine Imp.aut ?_ ?_<;>simp[NLe,h1,ZbG])
  ·repeat' with_reducible (first|refine ZR.h ?_|refine kI ?_|((first|refine kR hE ?_|refine kD hE Zq ?_);intro K hK;simp[h1,ZdB];(repeat' (first|refine hK _ _ ?_|apply And.intro|(intro hc;try subst hc)))<;>(try clear hK K))|(refine kT (fun hc=>?_) (fun hc=>?_)<;>simp at hc<;>(try subst hc)))
   all_goals try (show Zb _ _=true;kernel_rfl)
   all_goals first|(simp;done)|((try simp[h1,ZbG]);refine Imp.aut ?_ ?_<;>simp[NLe,h1,ZbG])
 | some T =>
  have hE:Zd Tryz.prog (EL [(11,Zm [(35,false)] d11 ok11)]):=Ze (by simp only[List.mem_cons,List.not_mem_nil,or_false,forall_eq_or_imp,forall_eq];exact s11);have h13:=e11 T;simp[F27,swL,pC,tzC]at h13 hS⊢;by_cases h1:ix=0
  ·repeat' with_reducible (first|refine ZR.h ?_|refine kI ?_|((first|refine kR hE ?_|refine kD hE Zq ?_);intro K hK;simp[h1,h13];(repeat' (first|refine hK _ _ ?_|apply And.intro|(intro hc;try subst hc)))<;>(try clear hK K))|(refine kT (fun hc=>?_) (fun hc=>?_)<;>simp at hc<;>(try subst hc)))
   all_goals try (show Zb _ _=true;kernel_rfl)
   all_goals first|(simp;done)|((try simp[h1,ZbG]);refine Imp.aut ?_ ?_<;>simp[NLe,h1,ZbG])
  ·repeat' with_reducible (first|refine ZR.h ?_|refine kI ?_|((first|refine kR hE ?_|refine kD hE Zq ?_);intro K hK;simp[h1,h13];(repeat' (first|refine hK _ _ ?_|apply And.intro|(intro hc;try subst hc)))<;>(try clear hK K))|(refine kT (fun hc=>?_) (fun hc=>?_)<;>simp at hc<;>(try subst hc)))
   all_goals try (show Zb _ _=true;kernel_rfl)
   all_goals first|(simp;done)|((try simp[h1,ZbG]);refine Imp.aut ?_ ?_<;>simp[NLe,h1,ZbG])
theorem Zeu {els:List (List AV)} (h:els.all isW=true):XY els=true :=
 List.all_eq_true.2 fun c hc=>by obtain ⟨x,rfl,_,_⟩:=ZbI (List.all_eq_true.1 h c hc);rfl
theorem w_pl {els:List (List AV)} (h:els.all isW=true):(els.all fun c=>c.all AV.plain)=true :=
 List.all_eq_true.2 fun c hc=>Xx (List.all_eq_true.1 (Zeu h) c hc)
def d91:List AV→List NObj→Option AV
 | [.sl (.top 0) 0 n],[.view 0 1 els]=>if n=els.length∧els.all isW=true∧1≤els.length∧els.length≤200000 then some (.os 0 1 els) else none
 | _,_=>none
theorem ok91:ROk d91:=by
 intro xs os r h;unfold d91 at h
 (repeat' (split at h))<;>first|(cases h;done)|((rename_i hc;injection h with h;subst h;simp;exact Zeu hc.2.1))
theorem s91:Sound Tryz.prog 91 (rdS d91 ok91):=by
 refine Zo (ac:=?ac) (res:=?res) Tryz.func91 (by kernel_rfl) (ha:=?ha) (hk:=?hk) (hok:=ok91) fun xs os r h vs ρ0 hvs=>?w
 case ha=>conv=>lhs;cbv
 case hk=>kernel_rfl
 refine ⟨xs,?_,fun _ h=>h,fun w0 S hS=>?_⟩
 ·unfold d91 at h
  (repeat' (split at h))<;>first|(cases h;done)|exact Nat.le_of_ble_eq_true rfl
 unfold d91 at h;split at h
 ·split at h
  ·rename_i n els hcond
   injection h with h;subst h;have hE:Zd Tryz.prog (EL []):=Ze (by simp);obtain ⟨rfl,hrows,hpos,hlen⟩:=hcond;have hdat:=Zeu hrows;have hP:=w_pl hrows;have hT0:=ZW hrows;have hCl:=ZV hrows;have hp:0<els.length:=hpos;have hb1:els.length*8≤140737488355328:=(by omega);have hb2:els.length≤9223372036854775807:=by omega
   repeat' with_reducible (first|refine ZR.h ?_|refine kI ?_|(refine kR hE ?_;intro K hK;simp[hdat,hrows,hlen,hp,hb1,hb2,hP];(repeat' (first|refine hK _ _ ?_|apply And.intro|(intro hc;try subst hc)))<;>(try clear hK K))|(refine kT (fun hc=>?_) (fun hc=>?_)<;>simp at hc<;>(try subst hc)))
   all_goals try (show Zb _ _=true;kernel_rfl)
   all_goals first|(show Zb _ _=true;kernel_rfl)|(simp;done)|(simp at *;omega)|((try simp[hT0,hCl]);refine Imp.aut ?_ ?_<;>simp[NLe,hT0,hCl])
  ·cases h
 ·cases h
def d55:List AV→Option Ans
 | [.op _ [.os _ 1 ws,.int .i64 s,.bot,.bot,.bot,.bot,.bot]]=>if ws.all isW=true∧1≤ws.length∧ws.length≤200000 then some ⟨.os 0 1 ws,[.free]⟩ else none
 | _=>none
theorem ok55:NOk [(7,false)] d55:=by
 intro xs a h;unfold d55 at h
 (repeat' (split at h))<;>first|(cases h;done)|((rename_i hc;injection h with h;subst h;refine ⟨Zp ?_,?_⟩<;>simp[ZW hc.1,ZV hc.1]))
theorem s55:Sound Tryz.prog 55 (Zm [(7,false)] d55 ok55):=by
 refine Zi (ac:=?ac) (res:=?res) Tryz.func55 (by kernel_rfl) (ha:=?ha) (hk:=?hk) (hok:=ok55) (fun xs a h=>?_) fun xs a h w0 S hS=>?_
 case ha=>conv=>lhs;cbv
 case hk=>kernel_rfl
 ·unfold d55 at h
  (repeat' (split at h))<;>first|(cases h;done)|exact Nat.le_of_ble_eq_true rfl
 unfold d55 at h;split at h
 ·split at h
  ·rename_i t1 t2 ws s hcond
   injection h with h;subst h;have hE:Zd Tryz.prog (EL [(91,rdS d91 ok91)]):=Ze (by simp only[List.mem_cons,List.not_mem_nil,or_false,forall_eq_or_imp,forall_eq];exact s91);obtain ⟨hw,hpos,hlen⟩:=hcond;have hT:=ZW hw;have hC:=ZV hw;have hD:=Zeu hw
   repeat' with_reducible (first|refine ZR.h ?_|refine kI ?_|(refine kR hE ?_;intro K hK;simp[hT,hC,hw,hpos,hlen,hD,d91];(repeat' (first|refine hK _ _ ?_|apply And.intro|(intro hc;try subst hc)))<;>(try clear hK K))|(refine kT (fun hc=>?_) (fun hc=>?_)<;>simp at hc<;>(try subst hc)))
   all_goals try (show Zb _ _=true;kernel_rfl)
   all_goals first|(show Zb _ _=true;kernel_rfl)|(simp;done)|(simp at *;omega)|((try simp[hT,hC]);refine Imp.aut ?_ ?_<;>simp[NLe,hT,hC])
  ·cases h
 ·cases h
end Go.W
