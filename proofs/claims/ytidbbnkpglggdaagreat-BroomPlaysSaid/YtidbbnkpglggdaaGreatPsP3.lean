/- A part of the proofs about the pair's laws (PsP1, PsP2, PsP3). -/
import Derived.Test.YtidbbnkpglggdaaGreatPsQ
import Derived.Test.YtidbbnkpglggdaaGreatPaA
namespace Go.W
open Go.Proofs
set_option linter.unusedSimpArgs false
set_option linter.unusedVariables false
set_option maxHeartbeats 8000000
set_option maxRecDepth 100000
attribute [local irreducible] Wm WmA
attribute [local simp] YP lkp Vq prs V9 prT ddL idL Yy Ue Ren Ve NObj.none ZT
def d81:List AV→Option Ans
 | [.op _ tc,.op _ wc]=>(match ve tc,yF wc with
  | some T,some W=>if okT T=true∧okW W=true∧smW W=true∧YI W T=false then some (⟨.tup [],[.cells 0 (tzC (YE W T).1),.cells 0 (wzC (YE W T).2)]⟩) else none
  | _,_=>none)
 | _=>none
theorem ok81:NOk [(35,true),(10,true)] d81:=by
 intro xs aa h;unfold d81 at h;split at h
 ·rename_i t1 tc t2 wc
  split at h
  ·rename_i T W hTc hWc
   split at h
   ·rename_i hc
    obtain ⟨u1,u2,u3,u4,rfl⟩:=ZN hWc;obtain rfl:=ZL hTc;injection h with h;subst h;have hW:=hc.2.1;obtain ⟨hcf,hw,hwl,hs0,ht0,ht1,hlg⟩:=Zk hW;have hT:=ZW hw;have hC:=ZV hw;have hTl:=ZC hlg;have hCl:=ZD hlg;have hW2:=xx hW T;obtain ⟨hcf2,hw2,hwl2,hs02,ht02,ht12,hlg2⟩:=Zk hW2;have hT2:=ZW hw2;have hC2:=ZV hw2;have hTl2:=ZC hlg2;have hCl2:=ZD hlg2;refine ⟨Zp ?_,?_⟩<;>simp[tzC,wzL,wzC,hT,hC,hTl,hCl,hT2,hC2,hTl2,hCl2]
   ·cases h
  ·cases h
 ·cases h
theorem s81:Sound Tryz.prog 81 (Zm [(35,true),(10,true)] d81 ok81):=by
 refine Zi (ac:=?ac) (res:=?res) Tryz.func81 (by kernel_rfl) (ha:=?ha) (hk:=?hk) (hok:=ok81) (fun xs a h=>?_) fun xs a h w0 S hS=>?_
 case ha=>conv=>lhs;cbv
 case hk=>kernel_rfl
 ·unfold d81 at h
  (repeat' (split at h))<;>first|(cases h;done)|exact Nat.le_of_ble_eq_true rfl
 unfold d81 at h;split at h
 ·rename_i t1 tc t2 wc
  split at h
  ·rename_i T W hTc hWc
   split at h
   ·rename_i hcond
    obtain ⟨u1,u2,u3,u4,rfl⟩:=ZN hWc;obtain rfl:=ZL hTc;injection h with h;subst h;clear hTc hWc;have hE:Zd Tryz.prog (EL [(42,Zm [(10,true)] d42 ok42)]):=Ze (by simp only[List.mem_cons,List.not_mem_nil,or_false,forall_eq_or_imp,forall_eq];exact s42);obtain ⟨hokT,hW,hsm,hid⟩:=hcond;obtain ⟨hpc0,hpc1,hx0,hx1,hy0,hy1,htx0,htx1,hty0,hty1,hq0,hq1,hp0,hp1,hta0,hta1,hen0,hen1,hnx,hny⟩:=XQ hokT;obtain ⟨hcf,hw,hwl,hs0,ht0,ht1,hlg⟩:=Zk hW;have hlo:=U8 hsm;obtain ⟨hsm1,hsm2⟩:=TD hsm;obtain ⟨hX0,hX1,hY0,hY1,hAB⟩:=Xc hW hid;have hT:=ZW hw;have hC:=ZV hw;have hTl:=ZC hlg;have hCl:=ZD hlg;have h14:=e42 hW hlo hX0 hX1;simp only[tzC,wzL,wzC,stA,tmA,tmC,rcA,evC]at h14;by_cases h1:T.held=true
    ·by_cases h2:T.free=false
     ·have hh:YE W T=({ T with wx:=sAt W T.x },Yn W):=by unfold YE;rw[if_pos ⟨h1,h2⟩]
      rw[hh];simp only[tzC,wzL,wzC,Yn]at hS h14⊢
      repeat' with_reducible (first|refine ZR.h ?_|refine kI ?_|(refine kR hE ?_;intro K hK;simp[hT,hC,hTl,hCl,h1,h2,h14];(repeat' (first|refine hK _ _ ?_|apply And.intro|(intro hc;try subst hc)))<;>(try clear hK K))|(refine kT (fun hc=>?_) (fun hc=>?_)<;>simp at hc<;>(try subst hc)))
      all_goals first|(show Zb _ _=true;kernel_rfl)|(simp;done)|(simp at *;omega)|((try simp[hT,hC,hTl,hCl,h1,h2]);refine Imp.aut ?_ ?_<;>simp[NLe,hT,hC,hTl,hCl,h1,h2])
     ·have h2:T.free=true:=by simpa using h2
      have hh:YE W T=(T,W):=(by unfold YE;rw[if_neg (by simp[h2])]);rw[hh];simp only[tzC,wzL,wzC]at hS⊢
      repeat' with_reducible (first|refine ZR.h ?_|refine kI ?_|(refine kR hE ?_;intro K hK;simp[hT,hC,hTl,hCl,h1,h2];(repeat' (first|refine hK _ _ ?_|apply And.intro|(intro hc;try subst hc)))<;>(try clear hK K))|(refine kT (fun hc=>?_) (fun hc=>?_)<;>simp at hc<;>(try subst hc)))
      all_goals first|(show Zb _ _=true;kernel_rfl)|(simp;done)|(simp at *;omega)|((try simp[hT,hC,hTl,hCl,h1,h2]);refine Imp.aut ?_ ?_<;>simp[NLe,hT,hC,hTl,hCl,h1,h2])
    ·have h1:T.held=false:=by simpa using h1
     have hh:YE W T=(T,W):=(by unfold YE;rw[if_neg (by simp[h1])]);rw[hh];simp only[tzC,wzL,wzC]at hS⊢
     repeat' with_reducible (first|refine ZR.h ?_|refine kI ?_|(refine kR hE ?_;intro K hK;simp[hT,hC,hTl,hCl,h1];(repeat' (first|refine hK _ _ ?_|apply And.intro|(intro hc;try subst hc)))<;>(try clear hK K))|(refine kT (fun hc=>?_) (fun hc=>?_)<;>simp at hc<;>(try subst hc)))
     all_goals first|(show Zb _ _=true;kernel_rfl)|(simp;done)|(simp at *;omega)|((try simp[hT,hC,hTl,hCl,h1]);refine Imp.aut ?_ ?_<;>simp[NLe,hT,hC,hTl,hCl,h1])
   ·cases h
  ·cases h
 ·cases h
def d79:List AV→Option Ans
 | [.op _ tc,.op _ wc]=>(match ve tc,yF wc with
  | some T,some W=>if okT T=true∧okW W=true∧smW W=true∧YI W T=false then some (⟨.tup [],[.cells 0 (tzC (Xj W T).1),.cells 0 (wzC (Xj W T).2)]⟩) else none
  | _,_=>none)
 | _=>none
theorem ok79:NOk [(35,true),(10,true)] d79:=by
 intro xs aa h;unfold d79 at h;split at h
 ·rename_i t1 tc t2 wc
  split at h
  ·rename_i T W hTc hWc
   split at h
   ·rename_i hc
    obtain ⟨u1,u2,u3,u4,rfl⟩:=ZN hWc;obtain rfl:=ZL hTc;injection h with h;subst h;have hW:=hc.2.1;obtain ⟨hcf,hw,hwl,hs0,ht0,ht1,hlg⟩:=Zk hW;have hT:=ZW hw;have hC:=ZV hw;have hTl:=ZC hlg;have hCl:=ZD hlg;have hW2:=Zao hW T;obtain ⟨hcf2,hw2,hwl2,hs02,ht02,ht12,hlg2⟩:=Zk hW2;have hT2:=ZW hw2;have hC2:=ZV hw2;have hTl2:=ZC hlg2;have hCl2:=ZD hlg2;refine ⟨Zp ?_,?_⟩<;>simp[tzC,wzL,wzC,hT,hC,hTl,hCl,hT2,hC2,hTl2,hCl2]
   ·cases h
  ·cases h
 ·cases h
theorem s79:Sound Tryz.prog 79 (Zm [(35,true),(10,true)] d79 ok79):=by
 refine Zi (ac:=?ac) (res:=?res) Tryz.func79 (by kernel_rfl) (ha:=?ha) (hk:=?hk) (hok:=ok79) (fun xs a h=>?_) fun xs a h w0 S hS=>?_
 case ha=>conv=>lhs;cbv
 case hk=>kernel_rfl
 ·unfold d79 at h
  (repeat' (split at h))<;>first|(cases h;done)|exact Nat.le_of_ble_eq_true rfl
 unfold d79 at h;split at h
 ·rename_i t1 tc t2 wc
  split at h
  ·rename_i T W hTc hWc
   split at h
   ·rename_i hcond
    obtain ⟨u1,u2,u3,u4,rfl⟩:=ZN hWc;obtain rfl:=ZL hTc;injection h with h;subst h;clear hTc hWc;have hE:Zd Tryz.prog (EL [(58,rdS d58 ok58),(102,Zm [(35,false),(10,false)] d102 ok102),(103,rdS d103 ok103),(53,Zm [(10,true)] d53 ok53)]):=Ze (by simp only[List.mem_cons,List.not_mem_nil,or_false,forall_eq_or_imp,forall_eq];exact ⟨s58,s102,s103,s53⟩);obtain ⟨hokT,hW,hsm,hid⟩:=hcond;obtain ⟨hpc0,hpc1,hx0,hx1,hy0,hy1,htx0,htx1,hty0,hty1,hq0,hq1,hp0,hp1,hta0,hta1,hen0,hen1,hnx,hny⟩:=XQ hokT;obtain ⟨hcf,hw,hwl,hs0,ht0,ht1,hlg⟩:=Zk hW;have hlo:=U8 hsm;obtain ⟨hsm1,hsm2⟩:=TD hsm;obtain ⟨hX0,hX1,hY0,hY1,hAB⟩:=Xc hW hid;have hT:=ZW hw;have hC:=ZV hw;have hTl:=ZC hlg;have hCl:=ZD hlg;have hsx:=XJ T.wx;have h55:d58 [.int .u64 T.wx] []=some (stA (Zc T.wx)):=(by simp only[d58];rw[if_pos ⟨hx0,hx1⟩]);have hh:Xj W T=if Z9 W T (Zc T.wx)=true then ({ T with held:=(Zs W T.x T.wx (YX (Zc T.wx))).1 },(Zs W T.x T.wx (YX (Zc T.wx))).2) else (T,W):=rfl;obtain ⟨sx,hsxe⟩:∃ z,Zc T.wx=z:=⟨_,rfl⟩;rw[hsxe]at hsx h55 hh;have h93:d103 [stA sx] []=some (stA (YX sx)):=rfl;have hs3:=Zft hsx;have h92:=e102 hW T sx;have h26:=e53 hW hlo hX0 hX1 T.wx hs3;obtain ⟨s3,hs3e⟩:∃ z,YX sx=z:=⟨_,rfl⟩;rw[hs3e]at h93 hs3 h26 hh;have hW2:=Yi hW T.x T.wx s3;obtain ⟨r,hr⟩:∃ z,Zs W T.x T.wx s3=z:=⟨_,rfl⟩;rw[hr]at h26 hW2 hh;obtain ⟨hcf2,hw2,hwl2,hs02,ht02,ht12,hlg2⟩:=Zk hW2;have hT2:=ZW hw2;have hC2:=ZV hw2
    have hTl2:=ZC hlg2;have hCl2:=ZD hlg2;simp only[tzC,wzL,wzC,stA]at h55 h93 h92 h26;by_cases h1:Z9 W T sx=true
    ·rw[if_pos h1]at hh
     rw[hh];rw[h1]at h92;simp only[tzC,wzL,wzC]at hS⊢
     repeat' with_reducible (first|refine ZR.h ?_|refine kI ?_|((first|refine kR hE ?_|refine kD hE Zq ?_);intro K hK;simp[hT,hC,hTl,hCl,hT2,hC2,hTl2,hCl2,h55,h92,h93,h26];(repeat' (first|refine hK _ _ ?_|apply And.intro|(intro hc;try subst hc)))<;>(try clear hK K))|(refine kT (fun hc=>?_) (fun hc=>?_)<;>simp at hc<;>(try subst hc)))
     all_goals first|(show Zb _ _=true;kernel_rfl)|(simp;done)|(simp at *;omega)|((try simp[hT,hC,hTl,hCl,hT2,hC2,hTl2,hCl2]);refine Imp.aut ?_ ?_<;>simp[NLe,hT,hC,hTl,hCl,hT2,hC2,hTl2,hCl2])
    ·rw[if_neg h1]at hh
     rw[hh];have h1:Z9 W T sx=false:=(by simpa using h1);rw[h1]at h92;simp only[tzC,wzL,wzC]at hS⊢
     repeat' with_reducible (first|refine ZR.h ?_|refine kI ?_|((first|refine kR hE ?_|refine kD hE Zq ?_);intro K hK;simp[hT,hC,hTl,hCl,hT2,hC2,hTl2,hCl2,h55,h92];(repeat' (first|refine hK _ _ ?_|apply And.intro|(intro hc;try subst hc)))<;>(try clear hK K))|(refine kT (fun hc=>?_) (fun hc=>?_)<;>simp at hc<;>(try subst hc)))
     all_goals first|(show Zb _ _=true;kernel_rfl)|(simp;done)|(simp at *;omega)|((try simp[hT,hC,hTl,hCl,hT2,hC2,hTl2,hCl2]);refine Imp.aut ?_ ?_<;>simp[NLe,hT,hC,hTl,hCl,hT2,hC2,hTl2,hCl2])
   ·cases h
  ·cases h
 ·cases h
def d80:List AV→Option Ans
 | [.op _ tc,.op _ wc]=>(match ve tc,yF wc with
  | some T,some W=>if okT T=true∧okW W=true∧smW W=true∧YI W T=false then some (⟨.tup [],[.cells 0 (tzC (Y7 W T).1),.cells 0 (wzC (Y7 W T).2)]⟩) else none
  | _,_=>none)
 | _=>none
theorem ok80:NOk [(35,true),(10,true)] d80:=by
 intro xs aa h;unfold d80 at h;split at h
 ·rename_i t1 tc t2 wc
  split at h
  ·rename_i T W hTc hWc
   split at h
   ·rename_i hc
    obtain ⟨u1,u2,u3,u4,rfl⟩:=ZN hWc;obtain rfl:=ZL hTc;injection h with h;subst h;have hW:=hc.2.1;obtain ⟨hcf,hw,hwl,hs0,ht0,ht1,hlg⟩:=Zk hW;have hT:=ZW hw;have hC:=ZV hw;have hTl:=ZC hlg;have hCl:=ZD hlg;have hW2:=ZaE hW T;obtain ⟨hcf2,hw2,hwl2,hs02,ht02,ht12,hlg2⟩:=Zk hW2;have hT2:=ZW hw2;have hC2:=ZV hw2;have hTl2:=ZC hlg2;have hCl2:=ZD hlg2;refine ⟨Zp ?_,?_⟩<;>simp[tzC,wzL,wzC,hT,hC,hTl,hCl,hT2,hC2,hTl2,hCl2]
   ·cases h
  ·cases h
 ·cases h
theorem s80:Sound Tryz.prog 80 (Zm [(35,true),(10,true)] d80 ok80):=by
 refine Zi (ac:=?ac) (res:=?res) Tryz.func80 (by kernel_rfl) (ha:=?ha) (hk:=?hk) (hok:=ok80) (fun xs a h=>?_) fun xs a h w0 S hS=>?_
 case ha=>conv=>lhs;cbv
 case hk=>kernel_rfl
 ·unfold d80 at h
  (repeat' (split at h))<;>first|(cases h;done)|exact Nat.le_of_ble_eq_true rfl
 unfold d80 at h;split at h
 ·rename_i t1 tc t2 wc
  split at h
  ·rename_i T W hTc hWc
   split at h
   ·rename_i hcond
    obtain ⟨u1,u2,u3,u4,rfl⟩:=ZN hWc;obtain rfl:=ZL hTc;injection h with h;subst h;clear hTc hWc;have hE:Zd Tryz.prog (EL [(58,rdS d58 ok58),(104,Zm [(35,false),(10,false)] d104 ok104),(105,rdS d105 ok105),(106,rdS d106 ok106),(53,Zm [(10,true)] d53 ok53),(57,Zm [(1,false)] d57 ok57),(99,Zm [(10,true)] d99 ok99)]):=Ze (by simp only[List.mem_cons,List.not_mem_nil,or_false,forall_eq_or_imp,forall_eq];exact ⟨s58,s104,s105,s106,s53,s57,s99⟩);obtain ⟨hokT,hW,hsm,hid⟩:=hcond;obtain ⟨hpc0,hpc1,hx0,hx1,hy0,hy1,htx0,htx1,hty0,hty1,hq0,hq1,hp0,hp1,hta0,hta1,hen0,hen1,hnx,hny⟩:=XQ hokT;obtain ⟨hcf,hw,hwl,hs0,ht0,ht1,hlg⟩:=Zk hW;have hlo:=U8 hsm;obtain ⟨hsm1,hsm2⟩:=TD hsm;obtain ⟨hX0,hX1,hY0,hY1,hAB⟩:=Xc hW hid;have hT:=ZW hw;have hC:=ZV hw;have hTl:=ZC hlg;have hCl:=ZD hlg;have hsx:=XJ T.wx;have hsy:=XJ T.wy;have h55:d58 [.int .u64 T.wx] []=some (stA (Zc T.wx)):=(by simp only[d58];rw[if_pos ⟨hx0,hx1⟩]);have h55y:d58 [.int .u64 T.wy] []=some (stA (Zc T.wy)):=(by simp only[d58];rw[if_pos ⟨hy0,hy1⟩]);have hrx:=stR T.wx;have hry:=stR T.wy;have hnok:=fun q F=>Zby T.wy q F;have h94:=e104 hW T (Zc T.wy);have hh:Y7 W T=Y7 W T:=rfl
    conv at hh=>rhs;unfold Y7
    obtain ⟨sx,hsxe⟩:∃ z,Zc T.wx=z:=⟨_,rfl⟩;obtain ⟨sy,hsye⟩:∃ z,Zc T.wy=z:=⟨_,rfl⟩;rw[hsxe]at hsx h55 hrx hh;rw[hsye]at hsy h55y hry h94 hnok hh;by_cases h1:T.held=true
    ·by_cases h2:YG W T sy=true
     ·rw[h2]at h94
      simp only[tzC,h1]at h94;rw[if_pos ⟨h1,h2⟩]at hh;have hmi:=Zbj htx0 htx1 hty0 hty1 (show sx.l≤1000000 by omega) (show sy.l≤1000000 by omega);have h95:d105 [tmA T.tx,tmA T.ty,.int .i64 sx.l,.int .i64 sy.l] []=some (.agg [.int .i64 (Zf T.tx T.ty sx.l sy.l).1,.int .i64 (Zf T.tx T.ty sx.l sy.l).2]):=by
       simp only[tmA,tmC,d105];rw[if_pos ⟨htx0,htx1,hty0,hty1⟩]
      obtain ⟨q,p,hm⟩:∃ q p,Zf T.tx T.ty sx.l sy.l=(q,p):=⟨_,_,rfl⟩;rw[hm]at hmi h95 hh;simp only at hmi h95 hh;have h96:d106 [stA sy,.int .i64 q,.int .i64 W.f] []=some (Xk (Zz sy q W.f).1 (Zz sy q W.f).2):=by
       simp only[stA,d106];rw[if_pos ⟨by omega,by omega,by omega,by omega⟩]
      have hnk:=hnok q W.f;obtain ⟨nx,e,hr⟩:∃ a b,Zz sy q W.f=(a,b):=⟨_,_,rfl⟩;rw[hr]at h96 hnk hh;simp only at h96 hnk hh;by_cases h3:e=0
      ·rw[if_pos h3]at hh
       subst h3;simp only[Xk,if_true]at h96;have h26:=e53 hW hlo hY0 hY1 T.wy hnk;have hfr:=Xw W T.y T.wy nx;have hW2:=Yi hW T.y T.wy nx;obtain ⟨r,hrr⟩:∃ r,Zs W T.y T.wy nx=r:=⟨_,rfl⟩;rw[hrr]at h26 hW2 hh hfr;obtain ⟨tb,W2⟩:=r;simp only at h26 hW2 hh hfr;by_cases h4:tb=true
       ·rw[if_pos h4]at hh
        subst h4;have hlo2:loW W2=true:=decide_eq_true (by rw[hfr.2.1];rcases hfr.1 with h|h<;>rw[h]<;>omega);have htt:W2.t=W.t:=hfr.2.2.1;have h24:∀ u,d57 [.op u [.int .u64 W2.t]]=some ⟨.int .i64 W.t,[.free]⟩:=fun u=>by simp only[d57,htt];rw[if_pos ⟨ht0,ht1⟩]
        have h23:=e99 hW2 hlo2 2 T.x sx.g T.y sy.g q p 0 0;have hW3:=Vl hW2 2 T.x sx.g T.y sy.g q p 0;obtain ⟨W3,hw3e⟩:∃ z,Vz W2 2 T.x sx.g T.y sy.g q p 0=z:=⟨_,rfl⟩;rw[hw3e]at h23 hW3 hh;obtain ⟨hcf2,hw2,hwl2,hs02,ht02,ht12,hlg2⟩:=Zk hW2;have hT2:=ZW hw2;have hC2:=ZV hw2;have hTl2:=ZC hlg2;have hCl2:=ZD hlg2;obtain ⟨hcf3,hw3,hwl3,hs03,ht03,ht13,hlg3⟩:=Zk hW3;have hT3:=ZW hw3;have hC3:=ZV hw3;have hTl3:=ZC hlg3;have hCl3:=ZD hlg3;rw[hh];simp only[tzC,wzL,wzC,stA,tmA,tmC,evC]at hS h55 h55y h94 h95 h96 h26 h23⊢
        repeat' with_reducible (first|refine ZR.h ?_|refine kI ?_|((first|refine kR hE ?_|refine kD hE Zq ?_);intro K hK;simp[hT,hC,hTl,hCl,hT2,hC2,hTl2,hCl2,hT3,hC3,hTl3,hCl3,h1,h55,h55y,h94,h95,h96,h26,h23,h24];(repeat' (first|refine hK _ _ ?_|apply And.intro|(intro hc;try subst hc)))<;>(try clear hK K))|(refine kT (fun hc=>?_) (fun hc=>?_)<;>simp at hc<;>(try subst hc)))
        all_goals first|(show Zb _ _=true;kernel_rfl)|(simp;done)|(simp at *;omega)|((try simp[hT,hC,hTl,hCl,hT2,hC2,hTl2,hCl2,hT3,hC3,hTl3,hCl3,h1]);refine Imp.aut ?_ ?_<;>simp[NLe,hT,hC,hTl,hCl,hT2,hC2,hTl2,hCl2,hT3,hC3,hTl3,hCl3,h1])
       ·rw[if_neg h4]at hh
        have h4:tb=false:=(by simpa using h4);subst h4;obtain ⟨hcf2,hw2,hwl2,hs02,ht02,ht12,hlg2⟩:=Zk hW2;have hT2:=ZW hw2;have hC2:=ZV hw2;have hTl2:=ZC hlg2;have hCl2:=ZD hlg2;rw[hh];simp only[tzC,wzL,wzC,stA,tmA,tmC]at hS h55 h55y h94 h95 h96 h26⊢
        repeat' with_reducible (first|refine ZR.h ?_|refine kI ?_|((first|refine kR hE ?_|refine kD hE Zq ?_);intro K hK;simp[hT,hC,hTl,hCl,hT2,hC2,hTl2,hCl2,h1,h55,h55y,h94,h95,h96,h26];(repeat' (first|refine hK _ _ ?_|apply And.intro|(intro hc;try subst hc)))<;>(try clear hK K))|(refine kT (fun hc=>?_) (fun hc=>?_)<;>simp at hc<;>(try subst hc)))
        all_goals first|(show Zb _ _=true;kernel_rfl)|(simp;done)|(simp at *;omega)|((try simp[hT,hC,hTl,hCl,hT2,hC2,hTl2,hCl2,h1]);refine Imp.aut ?_ ?_<;>simp[NLe,hT,hC,hTl,hCl,hT2,hC2,hTl2,hCl2,h1])
      ·rw[if_neg h3]at hh
       simp only[Xk,if_neg h3]at h96;rw[hh];simp only[tzC,wzL,wzC,stA,tmA,tmC]at hS h55 h55y h94 h95 h96⊢
       repeat' with_reducible (first|refine ZR.h ?_|refine kI ?_|((first|refine kR hE ?_|refine kD hE Zq ?_);intro K hK;simp[hT,hC,hTl,hCl,h1,h55,h55y,h94,h95,h96];(repeat' (first|refine hK _ _ ?_|apply And.intro|(intro hc;try subst hc)))<;>(try clear hK K))|(refine kT (fun hc=>?_) (fun hc=>?_)<;>simp at hc<;>(try subst hc)))
       all_goals first|(show Zb _ _=true;kernel_rfl)|(simp;done)|(simp at *;omega)|((try simp[hT,hC,hTl,hCl,h1]);refine Imp.aut ?_ ?_<;>simp[NLe,hT,hC,hTl,hCl,h1])
     ·rw[if_neg (by simp[h2])]at hh
      have h2:YG W T sy=false:=(by simpa using h2);rw[h2]at h94;simp only[tzC,h1]at h94;rw[hh];simp only[tzC,wzL,wzC,stA]at hS h55 h55y h94⊢
      repeat' with_reducible (first|refine ZR.h ?_|refine kI ?_|((first|refine kR hE ?_|refine kD hE Zq ?_);intro K hK;simp[hT,hC,hTl,hCl,h1,h55,h55y,h94];(repeat' (first|refine hK _ _ ?_|apply And.intro|(intro hc;try subst hc)))<;>(try clear hK K))|(refine kT (fun hc=>?_) (fun hc=>?_)<;>simp at hc<;>(try subst hc)))
      all_goals first|(show Zb _ _=true;kernel_rfl)|(simp;done)|(simp at *;omega)|((try simp[hT,hC,hTl,hCl,h1]);refine Imp.aut ?_ ?_<;>simp[NLe,hT,hC,hTl,hCl,h1])
    ·rw[if_neg (by simp[h1])]at hh
     have h1:T.held=false:=(by simpa using h1);rw[hh];simp only[tzC,wzL,wzC,stA]at hS h55 h55y⊢
     repeat' with_reducible (first|refine ZR.h ?_|refine kI ?_|((first|refine kR hE ?_|refine kD hE Zq ?_);intro K hK;simp[hT,hC,hTl,hCl,h1,h55,h55y];(repeat' (first|refine hK _ _ ?_|apply And.intro|(intro hc;try subst hc)))<;>(try clear hK K))|(refine kT (fun hc=>?_) (fun hc=>?_)<;>simp at hc<;>(try subst hc)))
     all_goals first|(show Zb _ _=true;kernel_rfl)|(simp;done)|(simp at *;omega)|((try simp[hT,hC,hTl,hCl,h1]);refine Imp.aut ?_ ?_<;>simp[NLe,hT,hC,hTl,hCl,h1])
   ·cases h
  ·cases h
 ·cases h
def d82:List AV→Option Ans
 | [.op _ tc,.op _ wc]=>(match ve tc,yF wc with
  | some T,some W=>if okT T=true∧okW W=true∧smW W=true∧YI W T=false then some (⟨.tup [],[.cells 0 (tzC (Uf W T).1),.cells 0 (wzC (Uf W T).2)]⟩) else none
  | _,_=>none)
 | _=>none
theorem ok82:NOk [(35,true),(10,true)] d82:=by
 intro xs aa h;unfold d82 at h;split at h
 ·rename_i t1 tc t2 wc
  split at h
  ·rename_i T W hTc hWc
   split at h
   ·rename_i hc
    obtain ⟨u1,u2,u3,u4,rfl⟩:=ZN hWc;obtain rfl:=ZL hTc;injection h with h;subst h;have hW:=hc.2.1;obtain ⟨hcf,hw,hwl,hs0,ht0,ht1,hlg⟩:=Zk hW;have hT:=ZW hw;have hC:=ZV hw;have hTl:=ZC hlg;have hCl:=ZD hlg;have hW2:=ZbD hW T;obtain ⟨hcf2,hw2,hwl2,hs02,ht02,ht12,hlg2⟩:=Zk hW2;have hT2:=ZW hw2;have hC2:=ZV hw2;have hTl2:=ZC hlg2;have hCl2:=ZD hlg2;refine ⟨Zp ?_,?_⟩<;>simp[tzC,wzL,wzC,hT,hC,hTl,hCl,hT2,hC2,hTl2,hCl2]
   ·cases h
  ·cases h
 ·cases h
theorem s82:Sound Tryz.prog 82 (Zm [(35,true),(10,true)] d82 ok82):=by
 refine Zi (ac:=?ac) (res:=?res) Tryz.func82 (by kernel_rfl) (ha:=?ha) (hk:=?hk) (hok:=ok82) (fun xs a h=>?_) fun xs a h w0 S hS=>?_
 case ha=>conv=>lhs;cbv
 case hk=>kernel_rfl
 ·unfold d82 at h
  (repeat' (split at h))<;>first|(cases h;done)|exact Nat.le_of_ble_eq_true rfl
 unfold d82 at h;split at h
 ·rename_i t1 tc t2 wc
  split at h
  ·rename_i T W hTc hWc
   split at h
   ·rename_i hcond
    obtain ⟨u1,u2,u3,u4,rfl⟩:=ZN hWc;obtain rfl:=ZL hTc;injection h with h;subst h;clear hTc hWc;have hE:Zd Tryz.prog (EL [(58,rdS d58 ok58),(107,rdS d107 ok107),(53,Zm [(10,true)] d53 ok53),(57,Zm [(1,false)] d57 ok57),(99,Zm [(10,true)] d99 ok99),(108,rdS d108 ok108)]):=Ze (by simp only[List.mem_cons,List.not_mem_nil,or_false,forall_eq_or_imp,forall_eq];exact ⟨s58,s107,s53,s57,s99,s108⟩);obtain ⟨hokT,hW,hsm,hid⟩:=hcond;obtain ⟨hpc0,hpc1,hx0,hx1,hy0,hy1,htx0,htx1,hty0,hty1,hq0,hq1,hp0,hp1,hta0,hta1,hen0,hen1,hnx,hny⟩:=XQ hokT;obtain ⟨hcf,hw,hwl,hs0,ht0,ht1,hlg⟩:=Zk hW;have hlo:=U8 hsm;obtain ⟨hsm1,hsm2⟩:=TD hsm;obtain ⟨hX0,hX1,hY0,hY1,hAB⟩:=Xc hW hid;have hT:=ZW hw;have hC:=ZV hw;have hTl:=ZC hlg;have hCl:=ZD hlg;have hsx:=XJ T.wx;have h55:d58 [.int .u64 T.wx] []=some (stA (Zc T.wx)):=(by simp only[d58];rw[if_pos ⟨hx0,hx1⟩]);have hrx:=stR T.wx;have hnk:=Zdn T.wx (XK T) W.f;have hh:Uf W T=Uf W T:=rfl
    conv at hh=>rhs;unfold Uf
    obtain ⟨sx,hsxe⟩:∃ z,Zc T.wx=z:=⟨_,rfl⟩;rw[hsxe]at hsx h55 hrx hnk hh;by_cases h1:T.held=true
    ·by_cases h2:T.free=false
     ·rw[if_pos ⟨h1,h2⟩]at hh
      have h97:d107 [stA sx,.int .i64 (XK T),.int .i64 W.f] []=some (Xk (Zh sx (XK T) W.f).1 (Zh sx (XK T) W.f).2):=by
       simp only[stA,d107];rw[if_pos ⟨by omega,by omega,by omega,by omega⟩]
      obtain ⟨nx,e,hr⟩:∃ a b,Zh sx (XK T) W.f=(a,b):=⟨_,_,rfl⟩;rw[hr]at h97 hnk hh;simp only at h97 hnk hh;by_cases h3:e=0
      ·rw[if_pos h3]at hh
       subst h3;simp only[Xk,if_true]at h97;have h26:=e53 hW hlo hX0 hX1 T.wx hnk;have hfr:=Xw W T.x T.wx nx;have hW2:=Yi hW T.x T.wx nx;obtain ⟨r,hrr⟩:∃ r,Zs W T.x T.wx nx=r:=⟨_,rfl⟩;rw[hrr]at h26 hW2 hh hfr;obtain ⟨tb,W2⟩:=r;simp only at h26 hW2 hh hfr;by_cases h4:tb=true
       ·rw[if_pos h4]at hh
        subst h4;have hlo2:loW W2=true:=decide_eq_true (by rw[hfr.2.1];rcases hfr.1 with h|h<;>rw[h]<;>omega);have htt:W2.t=W.t:=hfr.2.2.1;have h24:∀ u,d57 [.op u [.int .u64 W2.t]]=some ⟨.int .i64 W.t,[.free]⟩:=fun u=>by simp only[d57,htt];rw[if_pos ⟨ht0,ht1⟩]
        have h98:d108 [stA nx] []=some (.bool (zJ nx.k)):=rfl;obtain ⟨hcf2,hw2,hwl2,hs02,ht02,ht12,hlg2⟩:=Zk hW2;have hT2:=ZW hw2;have hC2:=ZV hw2;have hTl2:=ZC hlg2;have hCl2:=ZD hlg2;by_cases h5:zJ nx.k=true
        ·rw[if_pos h5]at hh
         rw[h5]at h98;have h23:=e99 hW2 hlo2 7 T.x nx.g 0 0 0 0 0 nx.k;have hW3:=Vl hW2 7 T.x nx.g 0 0 0 0 nx.k;obtain ⟨W3,hw3e⟩:∃ z,Vz W2 7 T.x nx.g 0 0 0 0 nx.k=z:=⟨_,rfl⟩;rw[hw3e]at h23 hW3 hh;obtain ⟨hcf3,hw3,hwl3,hs03,ht03,ht13,hlg3⟩:=Zk hW3;have hT3:=ZW hw3;have hC3:=ZV hw3;have hTl3:=ZC hlg3;have hCl3:=ZD hlg3;rw[hh];simp only[tzC,wzL,wzC,stA,evC]at hS h55 h97 h26 h23 h98⊢;by_cases h6:T.made=true
         ·have h7:XK T=T.q:=by simp[XK,h6]
          rw[h7]at h97
          repeat' with_reducible (first|refine ZR.h ?_|refine kI ?_|((first|refine kR hE ?_|refine kD hE Zq ?_);intro K hK;simp[hT,hC,hTl,hCl,hT2,hC2,hTl2,hCl2,hT3,hC3,hTl3,hCl3,h1,h2,h6,h55,h97,h26,h23,h24,h98];(repeat' (first|refine hK _ _ ?_|apply And.intro|(intro hc;try subst hc)))<;>(try clear hK K))|(refine kT (fun hc=>?_) (fun hc=>?_)<;>simp at hc<;>(try subst hc)))
          all_goals first|(show Zb _ _=true;kernel_rfl)|(simp;done)|(simp at *;omega)|((try simp[hT,hC,hTl,hCl,hT2,hC2,hTl2,hCl2,hT3,hC3,hTl3,hCl3,h1,h2,h6]);refine Imp.aut ?_ ?_<;>simp[NLe,hT,hC,hTl,hCl,hT2,hC2,hTl2,hCl2,hT3,hC3,hTl3,hCl3,h1,h2,h6])
         ·have h6:T.made=false:=by simpa using h6
          have h7:XK T=0:=(by simp[XK,h6]);rw[h7]at h97
          repeat' with_reducible (first|refine ZR.h ?_|refine kI ?_|((first|refine kR hE ?_|refine kD hE Zq ?_);intro K hK;simp[hT,hC,hTl,hCl,hT2,hC2,hTl2,hCl2,hT3,hC3,hTl3,hCl3,h1,h2,h6,h55,h97,h26,h23,h24,h98];(repeat' (first|refine hK _ _ ?_|apply And.intro|(intro hc;try subst hc)))<;>(try clear hK K))|(refine kT (fun hc=>?_) (fun hc=>?_)<;>simp at hc<;>(try subst hc)))
          all_goals first|(show Zb _ _=true;kernel_rfl)|(simp;done)|(simp at *;omega)|((try simp[hT,hC,hTl,hCl,hT2,hC2,hTl2,hCl2,hT3,hC3,hTl3,hCl3,h1,h2,h6]);refine Imp.aut ?_ ?_<;>simp[NLe,hT,hC,hTl,hCl,hT2,hC2,hTl2,hCl2,hT3,hC3,hTl3,hCl3,h1,h2,h6])
        ·rw[if_neg h5]at hh
         have h5:zJ nx.k=false:=(by simpa using h5);rw[h5]at h98;rw[hh];simp only[tzC,wzL,wzC,stA]at hS h55 h97 h26 h98⊢;by_cases h6:T.made=true
         ·have h7:XK T=T.q:=by simp[XK,h6]
          rw[h7]at h97
          repeat' with_reducible (first|refine ZR.h ?_|refine kI ?_|((first|refine kR hE ?_|refine kD hE Zq ?_);intro K hK;simp[hT,hC,hTl,hCl,hT2,hC2,hTl2,hCl2,h1,h2,h6,h55,h97,h26,h24,h98];(repeat' (first|refine hK _ _ ?_|apply And.intro|(intro hc;try subst hc)))<;>(try clear hK K))|(refine kT (fun hc=>?_) (fun hc=>?_)<;>simp at hc<;>(try subst hc)))
          all_goals first|(show Zb _ _=true;kernel_rfl)|(simp;done)|(simp at *;omega)|((try simp[hT,hC,hTl,hCl,hT2,hC2,hTl2,hCl2,h1,h2,h6]);refine Imp.aut ?_ ?_<;>simp[NLe,hT,hC,hTl,hCl,hT2,hC2,hTl2,hCl2,h1,h2,h6])
         ·have h6:T.made=false:=by simpa using h6
          have h7:XK T=0:=(by simp[XK,h6]);rw[h7]at h97
          repeat' with_reducible (first|refine ZR.h ?_|refine kI ?_|((first|refine kR hE ?_|refine kD hE Zq ?_);intro K hK;simp[hT,hC,hTl,hCl,hT2,hC2,hTl2,hCl2,h1,h2,h6,h55,h97,h26,h24,h98];(repeat' (first|refine hK _ _ ?_|apply And.intro|(intro hc;try subst hc)))<;>(try clear hK K))|(refine kT (fun hc=>?_) (fun hc=>?_)<;>simp at hc<;>(try subst hc)))
          all_goals first|(show Zb _ _=true;kernel_rfl)|(simp;done)|(simp at *;omega)|((try simp[hT,hC,hTl,hCl,hT2,hC2,hTl2,hCl2,h1,h2,h6]);refine Imp.aut ?_ ?_<;>simp[NLe,hT,hC,hTl,hCl,hT2,hC2,hTl2,hCl2,h1,h2,h6])
       ·rw[if_neg h4]at hh
        have h4:tb=false:=(by simpa using h4);subst h4;obtain ⟨hcf2,hw2,hwl2,hs02,ht02,ht12,hlg2⟩:=Zk hW2;have hT2:=ZW hw2;have hC2:=ZV hw2;have hTl2:=ZC hlg2;have hCl2:=ZD hlg2;rw[hh];simp only[tzC,wzL,wzC,stA]at hS h55 h97 h26⊢;by_cases h6:T.made=true
        ·have h7:XK T=T.q:=by simp[XK,h6]
         rw[h7]at h97
         repeat' with_reducible (first|refine ZR.h ?_|refine kI ?_|((first|refine kR hE ?_|refine kD hE Zq ?_);intro K hK;simp[hT,hC,hTl,hCl,hT2,hC2,hTl2,hCl2,h1,h2,h6,h55,h97,h26];(repeat' (first|refine hK _ _ ?_|apply And.intro|(intro hc;try subst hc)))<;>(try clear hK K))|(refine kT (fun hc=>?_) (fun hc=>?_)<;>simp at hc<;>(try subst hc)))
         all_goals first|(show Zb _ _=true;kernel_rfl)|(simp;done)|(simp at *;omega)|((try simp[hT,hC,hTl,hCl,hT2,hC2,hTl2,hCl2,h1,h2,h6]);refine Imp.aut ?_ ?_<;>simp[NLe,hT,hC,hTl,hCl,hT2,hC2,hTl2,hCl2,h1,h2,h6])
        ·have h6:T.made=false:=by simpa using h6
         have h7:XK T=0:=(by simp[XK,h6]);rw[h7]at h97
         repeat' with_reducible (first|refine ZR.h ?_|refine kI ?_|((first|refine kR hE ?_|refine kD hE Zq ?_);intro K hK;simp[hT,hC,hTl,hCl,hT2,hC2,hTl2,hCl2,h1,h2,h6,h55,h97,h26];(repeat' (first|refine hK _ _ ?_|apply And.intro|(intro hc;try subst hc)))<;>(try clear hK K))|(refine kT (fun hc=>?_) (fun hc=>?_)<;>simp at hc<;>(try subst hc)))
         all_goals first|(show Zb _ _=true;kernel_rfl)|(simp;done)|(simp at *;omega)|((try simp[hT,hC,hTl,hCl,hT2,hC2,hTl2,hCl2,h1,h2,h6]);refine Imp.aut ?_ ?_<;>simp[NLe,hT,hC,hTl,hCl,hT2,hC2,hTl2,hCl2,h1,h2,h6])
      ·rw[if_neg h3]at hh
       simp only[Xk,if_neg h3]at h97;rw[hh];simp only[tzC,wzL,wzC,stA]at hS h55 h97⊢;by_cases h6:T.made=true
       ·have h7:XK T=T.q:=by simp[XK,h6]
        rw[h7]at h97
        repeat' with_reducible (first|refine ZR.h ?_|refine kI ?_|((first|refine kR hE ?_|refine kD hE Zq ?_);intro K hK;simp[hT,hC,hTl,hCl,h1,h2,h6,h55,h97];(repeat' (first|refine hK _ _ ?_|apply And.intro|(intro hc;try subst hc)))<;>(try clear hK K))|(refine kT (fun hc=>?_) (fun hc=>?_)<;>simp at hc<;>(try subst hc)))
        all_goals first|(show Zb _ _=true;kernel_rfl)|(simp;done)|(simp at *;omega)|((try simp[hT,hC,hTl,hCl,h1,h2,h6]);refine Imp.aut ?_ ?_<;>simp[NLe,hT,hC,hTl,hCl,h1,h2,h6])
       ·have h6:T.made=false:=by simpa using h6
        have h7:XK T=0:=(by simp[XK,h6]);rw[h7]at h97
        repeat' with_reducible (first|refine ZR.h ?_|refine kI ?_|((first|refine kR hE ?_|refine kD hE Zq ?_);intro K hK;simp[hT,hC,hTl,hCl,h1,h2,h6,h55,h97];(repeat' (first|refine hK _ _ ?_|apply And.intro|(intro hc;try subst hc)))<;>(try clear hK K))|(refine kT (fun hc=>?_) (fun hc=>?_)<;>simp at hc<;>(try subst hc)))
        all_goals first|(show Zb _ _=true;kernel_rfl)|(simp;done)|(simp at *;omega)|((try simp[hT,hC,hTl,hCl,h1,h2,h6]);refine Imp.aut ?_ ?_<;>simp[NLe,hT,hC,hTl,hCl,h1,h2,h6])
     ·rw[if_neg (by simp[h2])]at hh
      have h2:T.free=true:=(by simpa using h2);rw[hh];simp only[tzC,wzL,wzC]at hS⊢
      repeat' with_reducible (first|refine ZR.h ?_|refine kI ?_|((first|refine kR hE ?_|refine kD hE Zq ?_);intro K hK;simp[hT,hC,hTl,hCl,h1,h2];(repeat' (first|refine hK _ _ ?_|apply And.intro|(intro hc;try subst hc)))<;>(try clear hK K))|(refine kT (fun hc=>?_) (fun hc=>?_)<;>simp at hc<;>(try subst hc)))
      all_goals first|(show Zb _ _=true;kernel_rfl)|(simp;done)|(simp at *;omega)|((try simp[hT,hC,hTl,hCl,h1,h2]);refine Imp.aut ?_ ?_<;>simp[NLe,hT,hC,hTl,hCl,h1,h2])
    ·rw[if_neg (by simp[h1])]at hh
     have h1:T.held=false:=(by simpa using h1);rw[hh];simp only[tzC,wzL,wzC]at hS⊢
     repeat' with_reducible (first|refine ZR.h ?_|refine kI ?_|((first|refine kR hE ?_|refine kD hE Zq ?_);intro K hK;simp[hT,hC,hTl,hCl,h1];(repeat' (first|refine hK _ _ ?_|apply And.intro|(intro hc;try subst hc)))<;>(try clear hK K))|(refine kT (fun hc=>?_) (fun hc=>?_)<;>simp at hc<;>(try subst hc)))
     all_goals first|(show Zb _ _=true;kernel_rfl)|(simp;done)|(simp at *;omega)|((try simp[hT,hC,hTl,hCl,h1]);refine Imp.aut ?_ ?_<;>simp[NLe,hT,hC,hTl,hCl,h1])
   ·cases h
  ·cases h
 ·cases h
end Go.W
