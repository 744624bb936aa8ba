/- A part of the proofs about the pair's laws (PsP4, PsP5, PsX). -/
import Derived.Test.YtidbbnkpglggdaaGreatPsQ
import Derived.Test.YtidbbnkpglggdaaGreatPaA
import Derived.Test.YtidbbnkpglggdaaGreatPsP3
namespace Go.W
open Go.Proofs
set_option linter.unusedSimpArgs false
set_option linter.unusedVariables false
set_option maxHeartbeats 8000000
set_option maxRecDepth 100000
attribute [local irreducible] Wm WmA
attribute [local simp] YP lkp Vq prs V9 prT ddL idL Yy Ue Ren Ve NObj.none ZT
def d83:List AV→Option Ans
 | [.op _ tc,.op _ wc]=>(match ve tc,yF wc with
  | some T,some W=>if okT T=true∧okW W=true∧smW W=true∧YI W T=false then some (⟨.tup [],[.cells 0 (tzC T),.cells 0 (wzC (YC W T))]⟩) else none
  | _,_=>none)
 | _=>none
theorem ok83:NOk [(35,true),(10,true)] d83:=by
 intro xs aa h;unfold d83 at h;split at h
 ·rename_i t1 tc t2 wc
  split at h
  ·rename_i T W hTc hWc
   split at h
   ·rename_i hc
    obtain ⟨u1,u2,u3,u4,rfl⟩:=ZN hWc;obtain rfl:=ZL hTc;injection h with h;subst h;have hW:=hc.2.1;obtain ⟨hcf,hw,hwl,hs0,ht0,ht1,hlg⟩:=Zk hW;have hT:=ZW hw;have hC:=ZV hw;have hTl:=ZC hlg;have hCl:=ZD hlg;have hW2:=zm hW T;obtain ⟨hcf2,hw2,hwl2,hs02,ht02,ht12,hlg2⟩:=Zk hW2;have hT2:=ZW hw2;have hC2:=ZV hw2;have hTl2:=ZC hlg2;have hCl2:=ZD hlg2;refine ⟨Zp ?_,?_⟩<;>simp[tzC,wzL,wzC,hT,hC,hTl,hCl,hT2,hC2,hTl2,hCl2]
   ·cases h
  ·cases h
 ·cases h
theorem s83:Sound Tryz.prog 83 (Zm [(35,true),(10,true)] d83 ok83):=by
 refine Zi (ac:=?ac) (res:=?res) Tryz.func83 (by kernel_rfl) (ha:=?ha) (hk:=?hk) (hok:=ok83) (fun xs a h=>?_) fun xs a h w0 S hS=>?_
 case ha=>conv=>lhs;cbv
 case hk=>kernel_rfl
 ·unfold d83 at h
  (repeat' (split at h))<;>first|(cases h;done)|exact Nat.le_of_ble_eq_true rfl
 unfold d83 at h;split at h
 ·rename_i t1 tc t2 wc
  split at h
  ·rename_i T W hTc hWc
   split at h
   ·rename_i hcond
    obtain ⟨u1,u2,u3,u4,rfl⟩:=ZN hWc;obtain rfl:=ZL hTc;injection h with h;subst h;clear hTc hWc;have hE:Zd Tryz.prog (EL [(109,Zm [(35,false)] d109 ok109),(66,Zm [(10,true)] d66 ok66),(65,rdS d65 ok65)]):=Ze (by simp only[List.mem_cons,List.not_mem_nil,or_false,forall_eq_or_imp,forall_eq];exact ⟨s109,s66,s65⟩);obtain ⟨hokT,hW,hsm,hid⟩:=hcond;obtain ⟨hpc0,hpc1,hx0,hx1,hy0,hy1,htx0,htx1,hty0,hty1,hq0,hq1,hp0,hp1,hta0,hta1,hen0,hen1,hnx,hny⟩:=XQ hokT;obtain ⟨hcf,hw,hwl,hs0,ht0,ht1,hlg⟩:=Zk hW;have hlo:=U8 hsm;obtain ⟨hsm1,hsm2⟩:=TD hsm;obtain ⟨hX0,hX1,hY0,hY1,hAB⟩:=Xc hW hid;have hT:=ZW hw;have hC:=ZV hw;have hTl:=ZC hlg;have hCl:=ZD hlg;obtain ⟨nxk0,nxk1,nxg0,nxg1,nxl0,nxl1,nxf0,nxf1⟩:=UP hnx;obtain ⟨nyk0,nyk1,nyg0,nyg1,nyl0,nyl1,nyf0,nyf1⟩:=UP hny;by_cases h1:T.pc=10
    ·by_cases hm:T.made=true
     ·have hh:YC W T=ZH W T.x T.nx.g (T.nx.f - 1) (Ud T T.y T.ny.g):=by simp[YC,h1,hm]
      have h99:=e109 T T.y T.ny.g;have ww:IntKind.wrap .i64 (T.nx.f - 1)=T.nx.f - 1:=Zg (by omega) (by omega);have h68:=e66 hW hlo T.x T.nx.g (T.nx.f - 1) (r:=Ud T T.y T.ny.g) (by simp only[Ud];omega);have hW2:=VX hW (T.x) (T.nx.g) (T.nx.f - 1) (Ud T T.y T.ny.g);obtain ⟨W2,hw2e⟩:∃ z,ZH W (T.x) (T.nx.g) (T.nx.f - 1) (Ud T T.y T.ny.g)=z:=⟨_,rfl⟩;rw[hw2e]at h68 hW2 hh;obtain ⟨hcf2,hw2,hwl2,hs02,ht02,ht12,hlg2⟩:=Zk hW2;have hT2:=ZW hw2;have hC2:=ZV hw2;have hTl2:=ZC hlg2;have hCl2:=ZD hlg2;rw[hh];simp only[tzC,wzL,wzC,rcA,stA,Ud]at hS h68 h99⊢;simp only[h1,hm]at h99
      repeat' with_reducible (first|refine ZR.h ?_|refine kI ?_|((first|refine kR hE ?_|refine kD hE Zq ?_);intro K hK;simp[hT,hC,hTl,hCl,hT2,hC2,hTl2,hCl2,h1,hm,h99,h68,ww];(repeat' (first|refine hK _ _ ?_|apply And.intro|(intro hc;try subst hc)))<;>(try clear hK K))|(refine kT (fun hc=>?_) (fun hc=>?_)<;>simp at hc<;>(try subst hc)))
      all_goals first|(show Zb _ _=true;kernel_rfl)|(simp;done)|(simp at *;omega)|((try simp[hT,hC,hTl,hCl,hT2,hC2,hTl2,hCl2,h1,hm]);refine Imp.aut ?_ ?_<;>simp[NLe,hT,hC,hTl,hCl,hT2,hC2,hTl2,hCl2,h1,hm])
     ·have hm:T.made=false:=by simpa using hm
      have hh:YC W T=W:=(by simp[YC,h1,hm]);rw[hh];simp only[tzC,wzL,wzC]at hS⊢
      repeat' with_reducible (first|refine ZR.h ?_|refine kI ?_|((first|refine kR hE ?_|refine kD hE Zq ?_);intro K hK;simp[hT,hC,hTl,hCl,h1,hm];(repeat' (first|refine hK _ _ ?_|apply And.intro|(intro hc;try subst hc)))<;>(try clear hK K))|(refine kT (fun hc=>?_) (fun hc=>?_)<;>simp at hc<;>(try subst hc)))
      all_goals first|(show Zb _ _=true;kernel_rfl)|(simp;done)|(simp at *;omega)|((try simp[hT,hC,hTl,hCl,h1,hm]);refine Imp.aut ?_ ?_<;>simp[NLe,hT,hC,hTl,hCl,h1,hm])
    ·have g10:=h1
     clear h1;by_cases h1:T.pc=11
     ·by_cases hm:T.made=true
      ·have hh:YC W T=ZH W T.y T.ny.g (T.ny.f - 1) (Ud T T.x T.nx.g):=by simp[YC,h1,hm]
       have h99:=e109 T T.x T.nx.g;have ww:IntKind.wrap .i64 (T.ny.f - 1)=T.ny.f - 1:=Zg (by omega) (by omega);have h68:=e66 hW hlo T.y T.ny.g (T.ny.f - 1) (r:=Ud T T.x T.nx.g) (by simp only[Ud];omega);have hW2:=VX hW (T.y) (T.ny.g) (T.ny.f - 1) (Ud T T.x T.nx.g);obtain ⟨W2,hw2e⟩:∃ z,ZH W (T.y) (T.ny.g) (T.ny.f - 1) (Ud T T.x T.nx.g)=z:=⟨_,rfl⟩;rw[hw2e]at h68 hW2 hh;obtain ⟨hcf2,hw2,hwl2,hs02,ht02,ht12,hlg2⟩:=Zk hW2;have hT2:=ZW hw2;have hC2:=ZV hw2;have hTl2:=ZC hlg2;have hCl2:=ZD hlg2;rw[hh];simp only[tzC,wzL,wzC,rcA,stA,Ud]at hS h68 h99⊢;simp only[h1,hm]at h99
       repeat' with_reducible (first|refine ZR.h ?_|refine kI ?_|((first|refine kR hE ?_|refine kD hE Zq ?_);intro K hK;simp[hT,hC,hTl,hCl,hT2,hC2,hTl2,hCl2,h1,hm,h99,h68,ww];(repeat' (first|refine hK _ _ ?_|apply And.intro|(intro hc;try subst hc)))<;>(try clear hK K))|(refine kT (fun hc=>?_) (fun hc=>?_)<;>simp at hc<;>(try subst hc)))
       all_goals first|(show Zb _ _=true;kernel_rfl)|(simp;done)|(simp at *;omega)|((try simp[hT,hC,hTl,hCl,hT2,hC2,hTl2,hCl2,h1,hm]);refine Imp.aut ?_ ?_<;>simp[NLe,hT,hC,hTl,hCl,hT2,hC2,hTl2,hCl2,h1,hm])
      ·have hm:T.made=false:=by simpa using hm
       have hh:YC W T=W:=(by simp[YC,h1,hm]);rw[hh];simp only[tzC,wzL,wzC]at hS⊢
       repeat' with_reducible (first|refine ZR.h ?_|refine kI ?_|((first|refine kR hE ?_|refine kD hE Zq ?_);intro K hK;simp[hT,hC,hTl,hCl,h1,hm];(repeat' (first|refine hK _ _ ?_|apply And.intro|(intro hc;try subst hc)))<;>(try clear hK K))|(refine kT (fun hc=>?_) (fun hc=>?_)<;>simp at hc<;>(try subst hc)))
       all_goals first|(show Zb _ _=true;kernel_rfl)|(simp;done)|(simp at *;omega)|((try simp[hT,hC,hTl,hCl,h1,hm]);refine Imp.aut ?_ ?_<;>simp[NLe,hT,hC,hTl,hCl,h1,hm])
     ·have g11:=h1
      clear h1;by_cases h1:T.pc=12
      ·by_cases hm:T.made=true
       ·have h67:d65 [stA T.ny,.int .i64 T.ta] []=some (.tup [rcA (ZJ T.ny T.ta).1,.bool (ZJ T.ny T.ta).2]):=rfl
        have hin:=Zdt hny (t:=T.ta) (by omega) (by omega);by_cases h2:(ZJ T.ny T.ta).2=true
        ·have hh:YC W T=ZH W T.y T.ny.g W.f (ZJ T.ny T.ta).1:=by simp[YC,h1,hm,h2]
         rw[h2]at h67;have h68:=e66 hW hlo T.y T.ny.g W.f hin;have hW2:=VX hW (T.y) (T.ny.g) (W.f) ((ZJ T.ny T.ta).1);obtain ⟨W2,hw2e⟩:∃ z,ZH W (T.y) (T.ny.g) (W.f) ((ZJ T.ny T.ta).1)=z:=⟨_,rfl⟩;rw[hw2e]at h68 hW2 hh;obtain ⟨hcf2,hw2,hwl2,hs02,ht02,ht12,hlg2⟩:=Zk hW2;have hT2:=ZW hw2;have hC2:=ZV hw2;have hTl2:=ZC hlg2;have hCl2:=ZD hlg2;rw[hh];simp only[tzC,wzL,wzC,rcA,stA,Ud]at hS h68 h67⊢
         repeat' with_reducible (first|refine ZR.h ?_|refine kI ?_|((first|refine kR hE ?_|refine kD hE Zq ?_);intro K hK;simp[hT,hC,hTl,hCl,hT2,hC2,hTl2,hCl2,h1,hm,h67,h68];(repeat' (first|refine hK _ _ ?_|apply And.intro|(intro hc;try subst hc)))<;>(try clear hK K))|(refine kT (fun hc=>?_) (fun hc=>?_)<;>simp at hc<;>(try subst hc)))
         all_goals first|(show Zb _ _=true;kernel_rfl)|(simp;done)|(simp at *;omega)|((try simp[hT,hC,hTl,hCl,hT2,hC2,hTl2,hCl2,h1,hm]);refine Imp.aut ?_ ?_<;>simp[NLe,hT,hC,hTl,hCl,hT2,hC2,hTl2,hCl2,h1,hm])
        ·have hh:YC W T=W:=by simp[YC,h1,hm,h2]
         have h2:(ZJ T.ny T.ta).2=false:=(by simpa using h2);rw[h2]at h67;rw[hh];simp only[tzC,wzL,wzC,rcA,stA]at hS h67⊢
         repeat' with_reducible (first|refine ZR.h ?_|refine kI ?_|((first|refine kR hE ?_|refine kD hE Zq ?_);intro K hK;simp[hT,hC,hTl,hCl,h1,hm,h67];(repeat' (first|refine hK _ _ ?_|apply And.intro|(intro hc;try subst hc)))<;>(try clear hK K))|(refine kT (fun hc=>?_) (fun hc=>?_)<;>simp at hc<;>(try subst hc)))
         all_goals first|(show Zb _ _=true;kernel_rfl)|(simp;done)|(simp at *;omega)|((try simp[hT,hC,hTl,hCl,h1,hm]);refine Imp.aut ?_ ?_<;>simp[NLe,hT,hC,hTl,hCl,h1,hm])
       ·have hm:T.made=false:=by simpa using hm
        have hh:YC W T=W:=(by simp[YC,h1,hm]);rw[hh];simp only[tzC,wzL,wzC]at hS⊢
        repeat' with_reducible (first|refine ZR.h ?_|refine kI ?_|((first|refine kR hE ?_|refine kD hE Zq ?_);intro K hK;simp[hT,hC,hTl,hCl,h1,hm];(repeat' (first|refine hK _ _ ?_|apply And.intro|(intro hc;try subst hc)))<;>(try clear hK K))|(refine kT (fun hc=>?_) (fun hc=>?_)<;>simp at hc<;>(try subst hc)))
        all_goals first|(show Zb _ _=true;kernel_rfl)|(simp;done)|(simp at *;omega)|((try simp[hT,hC,hTl,hCl,h1,hm]);refine Imp.aut ?_ ?_<;>simp[NLe,hT,hC,hTl,hCl,h1,hm])
      ·have g12:=h1
       clear h1;by_cases h1:T.pc=13
       ·by_cases hd:T.held=true
        ·have h67:d65 [stA T.nx,.int .i64 T.en] []=some (.tup [rcA (ZJ T.nx T.en).1,.bool (ZJ T.nx T.en).2]):=rfl
         have hin:=Zdt hnx (t:=T.en) (by omega) (by omega);by_cases h2:(ZJ T.nx T.en).2=true
         ·have hh:YC W T=ZH W T.x T.nx.g W.f (ZJ T.nx T.en).1:=by simp[YC,h1,hd,h2]
          rw[h2]at h67;have h68:=e66 hW hlo T.x T.nx.g W.f hin;have hW2:=VX hW (T.x) (T.nx.g) (W.f) ((ZJ T.nx T.en).1);obtain ⟨W2,hw2e⟩:∃ z,ZH W (T.x) (T.nx.g) (W.f) ((ZJ T.nx T.en).1)=z:=⟨_,rfl⟩;rw[hw2e]at h68 hW2 hh;obtain ⟨hcf2,hw2,hwl2,hs02,ht02,ht12,hlg2⟩:=Zk hW2;have hT2:=ZW hw2;have hC2:=ZV hw2;have hTl2:=ZC hlg2;have hCl2:=ZD hlg2;rw[hh];simp only[tzC,wzL,wzC,rcA,stA,Ud]at hS h68 h67⊢
          repeat' with_reducible (first|refine ZR.h ?_|refine kI ?_|((first|refine kR hE ?_|refine kD hE Zq ?_);intro K hK;simp[hT,hC,hTl,hCl,hT2,hC2,hTl2,hCl2,h1,hd,h67,h68];(repeat' (first|refine hK _ _ ?_|apply And.intro|(intro hc;try subst hc)))<;>(try clear hK K))|(refine kT (fun hc=>?_) (fun hc=>?_)<;>simp at hc<;>(try subst hc)))
          all_goals first|(show Zb _ _=true;kernel_rfl)|(simp;done)|(simp at *;omega)|((try simp[hT,hC,hTl,hCl,hT2,hC2,hTl2,hCl2,h1,hd]);refine Imp.aut ?_ ?_<;>simp[NLe,hT,hC,hTl,hCl,hT2,hC2,hTl2,hCl2,h1,hd])
         ·have hh:YC W T=W:=by simp[YC,h1,hd,h2]
          have h2:(ZJ T.nx T.en).2=false:=(by simpa using h2);rw[h2]at h67;rw[hh];simp only[tzC,wzL,wzC,rcA,stA]at hS h67⊢
          repeat' with_reducible (first|refine ZR.h ?_|refine kI ?_|((first|refine kR hE ?_|refine kD hE Zq ?_);intro K hK;simp[hT,hC,hTl,hCl,h1,hd,h67];(repeat' (first|refine hK _ _ ?_|apply And.intro|(intro hc;try subst hc)))<;>(try clear hK K))|(refine kT (fun hc=>?_) (fun hc=>?_)<;>simp at hc<;>(try subst hc)))
          all_goals first|(show Zb _ _=true;kernel_rfl)|(simp;done)|(simp at *;omega)|((try simp[hT,hC,hTl,hCl,h1,hd]);refine Imp.aut ?_ ?_<;>simp[NLe,hT,hC,hTl,hCl,h1,hd])
        ·have hd:T.held=false:=by simpa using hd
         have hh:YC W T=W:=(by simp[YC,h1,hd]);rw[hh];simp only[tzC,wzL,wzC]at hS⊢
         repeat' with_reducible (first|refine ZR.h ?_|refine kI ?_|((first|refine kR hE ?_|refine kD hE Zq ?_);intro K hK;simp[hT,hC,hTl,hCl,h1,hd];(repeat' (first|refine hK _ _ ?_|apply And.intro|(intro hc;try subst hc)))<;>(try clear hK K))|(refine kT (fun hc=>?_) (fun hc=>?_)<;>simp at hc<;>(try subst hc)))
         all_goals first|(show Zb _ _=true;kernel_rfl)|(simp;done)|(simp at *;omega)|((try simp[hT,hC,hTl,hCl,h1,hd]);refine Imp.aut ?_ ?_<;>simp[NLe,hT,hC,hTl,hCl,h1,hd])
       ·have g13:=h1
        clear h1;have hh:YC W T=W:=(by simp[YC,g10,g11,g12,g13]);rw[hh];simp only[tzC,wzL,wzC]at hS⊢
        repeat' with_reducible (first|refine ZR.h ?_|refine kI ?_|((first|refine kR hE ?_|refine kD hE Zq ?_);intro K hK;simp[hT,hC,hTl,hCl,g10,g11,g12,g13];(repeat' (first|refine hK _ _ ?_|apply And.intro|(intro hc;try subst hc)))<;>(try clear hK K))|(refine kT (fun hc=>?_) (fun hc=>?_)<;>simp at hc<;>(try subst hc)))
        all_goals first|(show Zb _ _=true;kernel_rfl)|(simp;done)|(simp at *;omega)|((try simp[hT,hC,hTl,hCl]);refine Imp.aut ?_ ?_<;>simp[NLe,hT,hC,hTl,hCl])
   ·cases h
  ·cases h
 ·cases h
theorem ZhS (W:WZ) (T:TZ):(Xj W T).1.pc=T.pc:=by unfold Xj;split<;>rfl
theorem ZhM (W:WZ) (T:TZ):(YE W T).1.pc=T.pc:=by unfold YE;split<;>rfl
theorem ZiE (W:WZ) (T:TZ):(Y7 W T).1.pc=T.pc:=by unfold Y7;(repeat' split)<;>rfl
theorem ZjZ (W:WZ) (T:TZ):(Uf W T).1.pc=T.pc:=by
 unfold Uf;split
 ·split
  ·split<;>rfl
  ·rfl
 ·rfl
theorem ZeU (W:WZ) (T:TZ):(ZP W T).1.pc=T.pc:=by
 unfold ZP
 repeat' split
 all_goals first|exact ZhS W T|exact ZhM W T|exact ZiE W T|exact ZjZ W T|rfl
theorem e79 {W:WZ} {T:TZ} (hT:okT T=true) (hW:okW W=true) (hs:smW W=true) (hi:YI W T=false) (u v u1 u2 u3 u4:Nat):d79 [.op u (tzC T),.op v (wzL W u1 u2 u3 u4)]=some ⟨.tup [],[.cells 0 (tzC (Xj W T).1),.cells 0 (wzC (Xj W T).2)]⟩:=by
 simp only[d79,Vv,VC];rw[if_pos ⟨hT,hW,hs,hi⟩]
theorem e80 {W:WZ} {T:TZ} (hT:okT T=true) (hW:okW W=true) (hs:smW W=true) (hi:YI W T=false) (u v u1 u2 u3 u4:Nat):d80 [.op u (tzC T),.op v (wzL W u1 u2 u3 u4)]=some ⟨.tup [],[.cells 0 (tzC (Y7 W T).1),.cells 0 (wzC (Y7 W T).2)]⟩:=by
 simp only[d80,Vv,VC];rw[if_pos ⟨hT,hW,hs,hi⟩]
theorem e81 {W:WZ} {T:TZ} (hT:okT T=true) (hW:okW W=true) (hs:smW W=true) (hi:YI W T=false) (u v u1 u2 u3 u4:Nat):d81 [.op u (tzC T),.op v (wzL W u1 u2 u3 u4)]=some ⟨.tup [],[.cells 0 (tzC (YE W T).1),.cells 0 (wzC (YE W T).2)]⟩:=by
 simp only[d81,Vv,VC];rw[if_pos ⟨hT,hW,hs,hi⟩]
theorem e82 {W:WZ} {T:TZ} (hT:okT T=true) (hW:okW W=true) (hs:smW W=true) (hi:YI W T=false) (u v u1 u2 u3 u4:Nat):d82 [.op u (tzC T),.op v (wzL W u1 u2 u3 u4)]=some ⟨.tup [],[.cells 0 (tzC (Uf W T).1),.cells 0 (wzC (Uf W T).2)]⟩:=by
 simp only[d82,Vv,VC];rw[if_pos ⟨hT,hW,hs,hi⟩]
theorem e83 {W:WZ} {T:TZ} (hT:okT T=true) (hW:okW W=true) (hs:smW W=true) (hi:YI W T=false) (u v u1 u2 u3 u4:Nat):d83 [.op u (tzC T),.op v (wzL W u1 u2 u3 u4)]=some ⟨.tup [],[.cells 0 (tzC T),.cells 0 (wzC (YC W T))]⟩:=by
 simp only[d83,Vv,VC];rw[if_pos ⟨hT,hW,hs,hi⟩]
def d44:List AV→Option Ans
 | [.op _ tc,.op _ wc]=>(match ve tc,yF wc with
  | some T,some W=>if okT T=true∧okW W=true∧smW W=true∧YI W T=false then some (⟨.tup [],[.cells 0 (tzC (ZP W T).1),.cells 0 (wzC (ZP W T).2)]⟩) else none
  | _,_=>none)
 | _=>none
theorem ok44:NOk [(35,true),(10,true)] d44:=by
 intro xs aa h;unfold d44 at h;split at h
 ·rename_i t1 tc t2 wc
  split at h
  ·rename_i T W hTc hWc
   split at h
   ·rename_i hc
    obtain ⟨u1,u2,u3,u4,rfl⟩:=ZN hWc;obtain rfl:=ZL hTc;injection h with h;subst h;have hW:=hc.2.1;obtain ⟨hcf,hw,hwl,hs0,ht0,ht1,hlg⟩:=Zk hW;have hT:=ZW hw;have hC:=ZV hw;have hTl:=ZC hlg;have hCl:=ZD hlg;have hW2:=va hW T;obtain ⟨hcf2,hw2,hwl2,hs02,ht02,ht12,hlg2⟩:=Zk hW2;have hT2:=ZW hw2;have hC2:=ZV hw2;have hTl2:=ZC hlg2;have hCl2:=ZD hlg2;refine ⟨Zp ?_,?_⟩<;>simp[tzC,wzL,wzC,hT,hC,hTl,hCl,hT2,hC2,hTl2,hCl2]
   ·cases h
  ·cases h
 ·cases h
theorem s44:Sound Tryz.prog 44 (Zm [(35,true),(10,true)] d44 ok44):=by
 refine Zi (ac:=?ac) (res:=?res) Tryz.func44 (by kernel_rfl) (ha:=?ha) (hk:=?hk) (hok:=ok44) (fun xs a h=>?_) fun xs a h w0 S hS=>?_
 case ha=>conv=>lhs;cbv
 case hk=>kernel_rfl
 ·unfold d44 at h
  (repeat' (split at h))<;>first|(cases h;done)|exact Nat.le_of_ble_eq_true rfl
 unfold d44 at h;split at h
 ·rename_i t1 tc t2 wc
  split at h
  ·rename_i T W hTc hWc
   split at h
   ·rename_i hcond
    obtain ⟨u1,u2,u3,u4,rfl⟩:=ZN hWc;obtain rfl:=ZL hTc;injection h with h;subst h;clear hTc hWc;have hE:Zd Tryz.prog (EL [(42,Zm [(10,true)] d42 ok42),(63,Zm [(10,true)] d63 ok63),(79,Zm [(35,true),(10,true)] d79 ok79),(80,Zm [(35,true),(10,true)] d80 ok80),(81,Zm [(35,true),(10,true)] d81 ok81),(82,Zm [(35,true),(10,true)] d82 ok82),(83,Zm [(35,true),(10,true)] d83 ok83)]):=Ze (by simp only[List.mem_cons,List.not_mem_nil,or_false,forall_eq_or_imp,forall_eq];exact ⟨s42,s63,s79,s80,s81,s82,s83⟩);obtain ⟨hokT,hW,hsm,hid⟩:=hcond;obtain ⟨hpc0,hpc1,hx0,hx1,hy0,hy1,htx0,htx1,hty0,hty1,hq0,hq1,hp0,hp1,hta0,hta1,hen0,hen1,hnx,hny⟩:=XQ hokT;obtain ⟨hcf,hw,hwl,hs0,ht0,ht1,hlg⟩:=Zk hW;have hlo:=U8 hsm;obtain ⟨hsm1,hsm2⟩:=TD hsm;obtain ⟨hX0,hX1,hY0,hY1,hAB⟩:=Xc hW hid;have hT:=ZW hw;have hC:=ZV hw;have hTl:=ZC hlg;have hCl:=ZD hlg;by_cases h1:T.pc=0
    ·have hh:ZP W T=({ T with wx:=sAt W T.x },Yn W):=by simp[ZP,h1]
     have hk:=e42 hW hlo hX0 hX1;rw[hh];simp only[tzC,wzL,wzC,Yn,stA,tmA,tmC]at hS hk⊢
     repeat' with_reducible (first|refine ZR.h ?_|refine kI ?_|(refine kR hE ?_;intro K hK;simp[hT,hC,hTl,hCl,h1,hk];(repeat' (first|refine hK _ _ ?_|apply And.intro|(intro hc;try subst hc)))<;>(try clear hK K))|(refine kT (fun hc=>?_) (fun hc=>?_)<;>simp at hc<;>(try subst hc)))
     all_goals first|(show Zb _ _=true;kernel_rfl)|(simp;done)|(simp at *;omega)|((try simp[hT,hC,hTl,hCl,h1]);refine Imp.aut ?_ ?_<;>simp[NLe,hT,hC,hTl,hCl,h1])
    ·have g0:=h1
     clear h1;by_cases h1:T.pc=1
     ·have hh:ZP W T=({ T with tx:=Yc (tAt W T.x) },Yn W):=by simp[ZP,h1]
      have hk:=e63 hW hlo hX0 hX1;rw[hh];simp only[tzC,wzL,wzC,Yn,stA,tmA,tmC]at hS hk⊢
      repeat' with_reducible (first|refine ZR.h ?_|refine kI ?_|(refine kR hE ?_;intro K hK;simp[hT,hC,hTl,hCl,h1,hk];(repeat' (first|refine hK _ _ ?_|apply And.intro|(intro hc;try subst hc)))<;>(try clear hK K))|(refine kT (fun hc=>?_) (fun hc=>?_)<;>simp at hc<;>(try subst hc)))
      all_goals first|(show Zb _ _=true;kernel_rfl)|(simp;done)|(simp at *;omega)|((try simp[hT,hC,hTl,hCl,h1]);refine Imp.aut ?_ ?_<;>simp[NLe,hT,hC,hTl,hCl,h1])
     ·have g1:=h1
      clear h1;by_cases h1:T.pc=2
      ·have hh:ZP W T=Xj W T:=by simp[ZP,h1]
       have hk:=e79 hokT hW hsm hid;have hW2:=Zao hW T;obtain ⟨r,hr⟩:∃ r,Xj W T=r:=⟨_,rfl⟩;rw[hh,hr];rw[hr]at hk hW2;obtain ⟨hcf2,hw2,hwl2,hs02,ht02,ht12,hlg2⟩:=Zk hW2;have hT2:=ZW hw2;have hC2:=ZV hw2;have hTl2:=ZC hlg2;have hCl2:=ZD hlg2;simp only[tzC,wzL,wzC]at hS hk⊢;simp only[h1]at hk
       repeat' with_reducible (first|refine ZR.h ?_|refine kI ?_|(refine kR hE ?_;intro K hK;simp[hT,hC,hTl,hCl,hT2,hC2,hTl2,hCl2,h1,hk];(repeat' (first|refine hK _ _ ?_|apply And.intro|(intro hc;try subst hc)))<;>(try clear hK K))|(refine kT (fun hc=>?_) (fun hc=>?_)<;>simp at hc<;>(try subst hc)))
       all_goals first|(show Zb _ _=true;kernel_rfl)|(simp;done)|(simp at *;omega)|((try simp[hT,hC,hTl,hCl,hT2,hC2,hTl2,hCl2,h1]);refine Imp.aut ?_ ?_<;>simp[NLe,hT,hC,hTl,hCl,hT2,hC2,hTl2,hCl2,h1])
      ·have g2:=h1
       clear h1;by_cases h1:T.pc=3
       ·have hh:ZP W T=({ T with wy:=sAt W T.y },Yn W):=by simp[ZP,h1]
        have hk:=e42 hW hlo hY0 hY1;rw[hh];simp only[tzC,wzL,wzC,Yn,stA,tmA,tmC]at hS hk⊢
        repeat' with_reducible (first|refine ZR.h ?_|refine kI ?_|(refine kR hE ?_;intro K hK;simp[hT,hC,hTl,hCl,h1,hk];(repeat' (first|refine hK _ _ ?_|apply And.intro|(intro hc;try subst hc)))<;>(try clear hK K))|(refine kT (fun hc=>?_) (fun hc=>?_)<;>simp at hc<;>(try subst hc)))
        all_goals first|(show Zb _ _=true;kernel_rfl)|(simp;done)|(simp at *;omega)|((try simp[hT,hC,hTl,hCl,h1]);refine Imp.aut ?_ ?_<;>simp[NLe,hT,hC,hTl,hCl,h1])
       ·have g3:=h1
        clear h1;by_cases h1:T.pc=4
        ·have hh:ZP W T=({ T with ty:=Yc (tAt W T.y) },Yn W):=by simp[ZP,h1]
         have hk:=e63 hW hlo hY0 hY1;rw[hh];simp only[tzC,wzL,wzC,Yn,stA,tmA,tmC]at hS hk⊢
         repeat' with_reducible (first|refine ZR.h ?_|refine kI ?_|(refine kR hE ?_;intro K hK;simp[hT,hC,hTl,hCl,h1,hk];(repeat' (first|refine hK _ _ ?_|apply And.intro|(intro hc;try subst hc)))<;>(try clear hK K))|(refine kT (fun hc=>?_) (fun hc=>?_)<;>simp at hc<;>(try subst hc)))
         all_goals first|(show Zb _ _=true;kernel_rfl)|(simp;done)|(simp at *;omega)|((try simp[hT,hC,hTl,hCl,h1]);refine Imp.aut ?_ ?_<;>simp[NLe,hT,hC,hTl,hCl,h1])
        ·have g4:=h1
         clear h1;by_cases h1:T.pc=5
         ·have hh:ZP W T=Y7 W T:=by simp[ZP,h1]
          have hk:=e80 hokT hW hsm hid;have hW2:=ZaE hW T;obtain ⟨r,hr⟩:∃ r,Y7 W T=r:=⟨_,rfl⟩;rw[hh,hr];rw[hr]at hk hW2;obtain ⟨hcf2,hw2,hwl2,hs02,ht02,ht12,hlg2⟩:=Zk hW2;have hT2:=ZW hw2;have hC2:=ZV hw2;have hTl2:=ZC hlg2;have hCl2:=ZD hlg2;simp only[tzC,wzL,wzC]at hS hk⊢;simp only[h1]at hk
          repeat' with_reducible (first|refine ZR.h ?_|refine kI ?_|(refine kR hE ?_;intro K hK;simp[hT,hC,hTl,hCl,hT2,hC2,hTl2,hCl2,h1,hk];(repeat' (first|refine hK _ _ ?_|apply And.intro|(intro hc;try subst hc)))<;>(try clear hK K))|(refine kT (fun hc=>?_) (fun hc=>?_)<;>simp at hc<;>(try subst hc)))
          all_goals first|(show Zb _ _=true;kernel_rfl)|(simp;done)|(simp at *;omega)|((try simp[hT,hC,hTl,hCl,hT2,hC2,hTl2,hCl2,h1]);refine Imp.aut ?_ ?_<;>simp[NLe,hT,hC,hTl,hCl,hT2,hC2,hTl2,hCl2,h1])
         ·have g5:=h1
          clear h1;by_cases h1:T.pc=6
          ·have hh:ZP W T=YE W T:=by simp[ZP,h1]
           have hk:=e81 hokT hW hsm hid;have hW2:=xx hW T;obtain ⟨r,hr⟩:∃ r,YE W T=r:=⟨_,rfl⟩;rw[hh,hr];rw[hr]at hk hW2;obtain ⟨hcf2,hw2,hwl2,hs02,ht02,ht12,hlg2⟩:=Zk hW2;have hT2:=ZW hw2;have hC2:=ZV hw2;have hTl2:=ZC hlg2;have hCl2:=ZD hlg2;simp only[tzC,wzL,wzC]at hS hk⊢;simp only[h1]at hk
           repeat' with_reducible (first|refine ZR.h ?_|refine kI ?_|(refine kR hE ?_;intro K hK;simp[hT,hC,hTl,hCl,hT2,hC2,hTl2,hCl2,h1,hk];(repeat' (first|refine hK _ _ ?_|apply And.intro|(intro hc;try subst hc)))<;>(try clear hK K))|(refine kT (fun hc=>?_) (fun hc=>?_)<;>simp at hc<;>(try subst hc)))
           all_goals first|(show Zb _ _=true;kernel_rfl)|(simp;done)|(simp at *;omega)|((try simp[hT,hC,hTl,hCl,hT2,hC2,hTl2,hCl2,h1]);refine Imp.aut ?_ ?_<;>simp[NLe,hT,hC,hTl,hCl,hT2,hC2,hTl2,hCl2,h1])
          ·have g6:=h1
           clear h1;by_cases h1:T.pc=7
           ·have hh:ZP W T=Uf W T:=by simp[ZP,h1]
            have hk:=e82 hokT hW hsm hid;have hW2:=ZbD hW T;obtain ⟨r,hr⟩:∃ r,Uf W T=r:=⟨_,rfl⟩;rw[hh,hr];rw[hr]at hk hW2;obtain ⟨hcf2,hw2,hwl2,hs02,ht02,ht12,hlg2⟩:=Zk hW2;have hT2:=ZW hw2;have hC2:=ZV hw2;have hTl2:=ZC hlg2;have hCl2:=ZD hlg2;simp only[tzC,wzL,wzC]at hS hk⊢;simp only[h1]at hk
            repeat' with_reducible (first|refine ZR.h ?_|refine kI ?_|(refine kR hE ?_;intro K hK;simp[hT,hC,hTl,hCl,hT2,hC2,hTl2,hCl2,h1,hk];(repeat' (first|refine hK _ _ ?_|apply And.intro|(intro hc;try subst hc)))<;>(try clear hK K))|(refine kT (fun hc=>?_) (fun hc=>?_)<;>simp at hc<;>(try subst hc)))
            all_goals first|(show Zb _ _=true;kernel_rfl)|(simp;done)|(simp at *;omega)|((try simp[hT,hC,hTl,hCl,hT2,hC2,hTl2,hCl2,h1]);refine Imp.aut ?_ ?_<;>simp[NLe,hT,hC,hTl,hCl,hT2,hC2,hTl2,hCl2,h1])
           ·have g7:=h1
            clear h1;by_cases h1:T.pc=8
            ·have hh:ZP W T=YE W T:=by simp[ZP,h1]
             have hk:=e81 hokT hW hsm hid;have hW2:=xx hW T;obtain ⟨r,hr⟩:∃ r,YE W T=r:=⟨_,rfl⟩;rw[hh,hr];rw[hr]at hk hW2;obtain ⟨hcf2,hw2,hwl2,hs02,ht02,ht12,hlg2⟩:=Zk hW2;have hT2:=ZW hw2;have hC2:=ZV hw2;have hTl2:=ZC hlg2;have hCl2:=ZD hlg2;simp only[tzC,wzL,wzC]at hS hk⊢;simp only[h1]at hk
             repeat' with_reducible (first|refine ZR.h ?_|refine kI ?_|(refine kR hE ?_;intro K hK;simp[hT,hC,hTl,hCl,hT2,hC2,hTl2,hCl2,h1,hk];(repeat' (first|refine hK _ _ ?_|apply And.intro|(intro hc;try subst hc)))<;>(try clear hK K))|(refine kT (fun hc=>?_) (fun hc=>?_)<;>simp at hc<;>(try subst hc)))
             all_goals first|(show Zb _ _=true;kernel_rfl)|(simp;done)|(simp at *;omega)|((try simp[hT,hC,hTl,hCl,hT2,hC2,hTl2,hCl2,h1]);refine Imp.aut ?_ ?_<;>simp[NLe,hT,hC,hTl,hCl,hT2,hC2,hTl2,hCl2,h1])
            ·have g8:=h1
             clear h1;by_cases h1:T.pc=9
             ·have hh:ZP W T=Uf W T:=by simp[ZP,h1]
              have hk:=e82 hokT hW hsm hid;have hW2:=ZbD hW T;obtain ⟨r,hr⟩:∃ r,Uf W T=r:=⟨_,rfl⟩;rw[hh,hr];rw[hr]at hk hW2;obtain ⟨hcf2,hw2,hwl2,hs02,ht02,ht12,hlg2⟩:=Zk hW2;have hT2:=ZW hw2;have hC2:=ZV hw2;have hTl2:=ZC hlg2;have hCl2:=ZD hlg2;simp only[tzC,wzL,wzC]at hS hk⊢;simp only[h1]at hk
              repeat' with_reducible (first|refine ZR.h ?_|refine kI ?_|(refine kR hE ?_;intro K hK;simp[hT,hC,hTl,hCl,hT2,hC2,hTl2,hCl2,h1,hk];(repeat' (first|refine hK _ _ ?_|apply And.intro|(intro hc;try subst hc)))<;>(try clear hK K))|(refine kT (fun hc=>?_) (fun hc=>?_)<;>simp at hc<;>(try subst hc)))
              all_goals first|(show Zb _ _=true;kernel_rfl)|(simp;done)|(simp at *;omega)|((try simp[hT,hC,hTl,hCl,hT2,hC2,hTl2,hCl2,h1]);refine Imp.aut ?_ ?_<;>simp[NLe,hT,hC,hTl,hCl,hT2,hC2,hTl2,hCl2,h1])
             ·have g9:=h1
              clear h1;have hh:ZP W T=(T,YC W T):=(by simp[ZP,g0,g1,g2,g3,g4,g5,g6,g7,g8,g9]);have hk:=e83 hokT hW hsm hid;have hW2:=zm hW T;obtain ⟨W2,hr⟩:∃ r,YC W T=r:=⟨_,rfl⟩;rw[hh,hr];rw[hr]at hk hW2;obtain ⟨hcf2,hw2,hwl2,hs02,ht02,ht12,hlg2⟩:=Zk hW2;have hT2:=ZW hw2;have hC2:=ZV hw2;have hTl2:=ZC hlg2;have hCl2:=ZD hlg2;simp only[tzC,wzL,wzC]at hS hk⊢
              repeat' with_reducible (first|refine ZR.h ?_|refine kI ?_|(refine kR hE ?_;intro K hK;simp[hT,hC,hTl,hCl,hT2,hC2,hTl2,hCl2,g0,g1,g2,g3,g4,g5,g6,g7,g8,g9,hk];(repeat' (first|refine hK _ _ ?_|apply And.intro|(intro hc;try subst hc)))<;>(try clear hK K))|(refine kT (fun hc=>?_) (fun hc=>?_)<;>simp at hc<;>(try subst hc)))
              all_goals first|(show Zb _ _=true;kernel_rfl)|(simp;done)|(simp at *;omega)|((try simp[hT,hC,hTl,hCl,hT2,hC2,hTl2,hCl2]);refine Imp.aut ?_ ?_<;>simp[NLe,hT,hC,hTl,hCl,hT2,hC2,hTl2,hCl2])
   ·cases h
  ·cases h
 ·cases h
theorem e44 {W:WZ} {T:TZ} (hT:okT T=true) (hW:okW W=true) (hs:smW W=true) (hi:YI W T=false) (u v u1 u2 u3 u4:Nat):d44 [.op u (tzC T),.op v (wzL W u1 u2 u3 u4)]=some ⟨.tup [],[.cells 0 (tzC (ZP W T).1),.cells 0 (wzC (ZP W T).2)]⟩:=by
 simp only[d44,Vv,VC];rw[if_pos ⟨hT,hW,hs,hi⟩]
def d9:List AV→Option Ans
 | [.op _ tc,.op _ wc]=>(match ve tc,yF wc with
  | some T,some W=>if okT T=true∧okW W=true∧smW W=true then some (⟨.tup [],[.cells 0 (tzC (Zw W T).1),.cells 0 (wzC (Zw W T).2)]⟩) else none
  | _,_=>none)
 | _=>none
theorem ok9:NOk [(35,true),(10,true)] d9:=by
 intro xs aa h;unfold d9 at h;split at h
 ·rename_i t1 tc t2 wc
  split at h
  ·rename_i T W hTc hWc
   split at h
   ·rename_i hc
    obtain ⟨u1,u2,u3,u4,rfl⟩:=ZN hWc;obtain rfl:=ZL hTc;injection h with h;subst h;have hW:=hc.2.1;obtain ⟨hcf,hw,hwl,hs0,ht0,ht1,hlg⟩:=Zk hW;have hT:=ZW hw;have hC:=ZV hw;have hTl:=ZC hlg;have hCl:=ZD hlg;have hW2:=Te hW T;obtain ⟨hcf2,hw2,hwl2,hs02,ht02,ht12,hlg2⟩:=Zk hW2;have hT2:=ZW hw2;have hC2:=ZV hw2;have hTl2:=ZC hlg2;have hCl2:=ZD hlg2;refine ⟨Zp ?_,?_⟩<;>simp[tzC,wzL,wzC,hT,hC,hTl,hCl,hT2,hC2,hTl2,hCl2]
   ·cases h
  ·cases h
 ·cases h
theorem s9:Sound Tryz.prog 9 (Zm [(35,true),(10,true)] d9 ok9):=by
 refine Zi (ac:=?ac) (res:=?res) Tryz.func9 (by kernel_rfl) (ha:=?ha) (hk:=?hk) (hok:=ok9) (fun xs a h=>?_) fun xs a h w0 S hS=>?_
 case ha=>conv=>lhs;cbv
 case hk=>kernel_rfl
 ·unfold d9 at h
  (repeat' (split at h))<;>first|(cases h;done)|exact Nat.le_of_ble_eq_true rfl
 unfold d9 at h;split at h
 ·rename_i t1 tc t2 wc
  split at h
  ·rename_i T W hTc hWc
   split at h
   ·rename_i hcond
    obtain ⟨u1,u2,u3,u4,rfl⟩:=ZN hWc;obtain rfl:=ZL hTc;injection h with h;subst h;clear hTc hWc;have hE:Zd Tryz.prog (EL [(11,Zm [(35,false)] d11 ok11),(43,Zm [(35,false),(10,false)] d43 ok43),(44,Zm [(35,true),(10,true)] d44 ok44)]):=Ze (by simp only[List.mem_cons,List.not_mem_nil,or_false,forall_eq_or_imp,forall_eq];exact ⟨s11,s43,s44⟩);obtain ⟨hokT,hW,hsm⟩:=hcond;obtain ⟨hpc0,hpc1,hx0,hx1,hy0,hy1,htx0,htx1,hty0,hty1,hq0,hq1,hp0,hp1,hta0,hta1,hen0,hen1,hnx,hny⟩:=XQ hokT;obtain ⟨hcf,hw,hwl,hs0,ht0,ht1,hlg⟩:=Zk hW;have hlo:=U8 hsm;obtain ⟨hsm1,hsm2⟩:=TD hsm;have hT:=ZW hw;have hC:=ZV hw;have hTl:=ZC hlg;have hCl:=ZD hlg;have h13:=e11 T;have h53:=e43 hW T;by_cases h1:14≤T.pc
    ·have hh:Zw W T=(T,W):=by unfold Zw;rw[if_pos h1]
     rw[decide_eq_true h1]at h13;rw[hh];simp only[tzC,wzL,wzC]at hS h13⊢
     repeat' with_reducible (first|refine ZR.h ?_|refine kI ?_|(refine kR hE ?_;intro K hK;simp[hT,hC,hTl,hCl,h13];(repeat' (first|refine hK _ _ ?_|apply And.intro|(intro hc;try subst hc)))<;>(try clear hK K))|(refine kT (fun hc=>?_) (fun hc=>?_)<;>simp at hc<;>(try subst hc)))
     all_goals first|(show Zb _ _=true;kernel_rfl)|(simp;done)|(simp at *;omega)|((try simp[hT,hC,hTl,hCl]);refine Imp.aut ?_ ?_<;>simp[NLe,hT,hC,hTl,hCl])
    ·rw[decide_eq_false h1]at h13
     by_cases h2:YI W T=true
     ·have hh:Zw W T=({ T with pc:=T.pc+1 },W):=by unfold Zw;rw[if_neg h1,if_pos h2]
      rw[h2]at h53;have ww:IntKind.wrap .i64 (T.pc+1)=T.pc+1:=Zg (by omega) (by omega);rw[hh];simp only[tzC,wzL,wzC]at hS h13 h53⊢
      repeat' with_reducible (first|refine ZR.h ?_|refine kI ?_|(refine kR hE ?_;intro K hK;simp[hT,hC,hTl,hCl,h13,h53,ww];(repeat' (first|refine hK _ _ ?_|apply And.intro|(intro hc;try subst hc)))<;>(try clear hK K))|(refine kT (fun hc=>?_) (fun hc=>?_)<;>simp at hc<;>(try subst hc)))
      all_goals first|(show Zb _ _=true;kernel_rfl)|(simp;done)|(simp at *;omega)|((try simp[hT,hC,hTl,hCl]);refine Imp.aut ?_ ?_<;>simp[NLe,hT,hC,hTl,hCl])
     ·have hh:Zw W T=({ (ZP W T).1 with pc:=T.pc+1 },(ZP W T).2):=by unfold Zw;rw[if_neg h1,if_neg h2]
      have hid:YI W T=false:=(by simpa using h2);rw[hid]at h53;have hk:=e44 hokT hW hsm hid;have hpc:=ZeU W T;have hW2:=va hW T;obtain ⟨r,hr⟩:∃ r,ZP W T=r:=⟨_,rfl⟩;rw[hr]at hk hW2 hh hpc;have ww:IntKind.wrap .i64 (T.pc+1)=T.pc+1:=Zg (by omega) (by omega);obtain ⟨hcf2,hw2,hwl2,hs02,ht02,ht12,hlg2⟩:=Zk hW2;have hT2:=ZW hw2;have hC2:=ZV hw2;have hTl2:=ZC hlg2;have hCl2:=ZD hlg2;rw[hh];simp only[tzC,wzL,wzC]at hS h13 h53 hk⊢;simp only[hpc]at hk
      repeat' with_reducible (first|refine ZR.h ?_|refine kI ?_|(refine kR hE ?_;intro K hK;simp[hT,hC,hTl,hCl,hT2,hC2,hTl2,hCl2,h13,h53,hk,ww];(repeat' (first|refine hK _ _ ?_|apply And.intro|(intro hc;try subst hc)))<;>(try clear hK K))|(refine kT (fun hc=>?_) (fun hc=>?_)<;>simp at hc<;>(try subst hc)))
      all_goals first|(show Zb _ _=true;kernel_rfl)|(simp;done)|(simp at *;omega)|((try simp[hT,hC,hTl,hCl,hT2,hC2,hTl2,hCl2]);refine Imp.aut ?_ ?_<;>simp[NLe,hT,hC,hTl,hCl,hT2,hC2,hTl2,hCl2])
   ·cases h
  ·cases h
 ·cases h
def ifS (c:List AV→Bool) (s1 s2:Spec):Spec where
 fn:=fun args G nb=>if c args=true then s1.fn args G nb else s2.fn args G nb
 loc:=fun args G G' nb r h hG=>by
  by_cases hc:c args=true
  ·simp only[hc,if_true]at h⊢;exact s1.loc args G G' nb r h hG
  ·simp only[hc,if_false]at h⊢;exact s2.loc args G G' nb r h hG
 nm:=fun args G nb r h=>by
  by_cases hc:c args=true
  ·simp only[hc,if_true]at h;exact s1.nm args G nb r h
  ·simp only[hc,if_false]at h;exact s2.nm args G nb r h
theorem yc (c:List AV→Bool) (s1 s2:Spec) (args:List AV) (G:NH) (nb:Nat):(ifS c s1 s2).fn args G nb=if c args=true then s1.fn args G nb else s2.fn args G nb:=rfl
theorem Zdl {P:Program} {f:FuncId} {c:List AV→Bool} {s1 s2:Spec} (h1:Sound P f s1) (h2:Sound P f s2):Sound P f (ifS c s1 s2):=by
 refine ⟨h1.fn,fun w0 S Es U H w avs vs nb r=>?_⟩;by_cases hc:c avs=true
 ·simp only[yc,hc,if_true];exact h1.calls w0 S Es U H w avs vs nb r
 ·simp only[yc,hc];exact h2.calls w0 S Es U H w avs vs nb r
def nil1:List AV→Bool
 | .raw (.pointer none) :: _=>true
 | _=>false
def ZdB:List AV→Option Ans
 | [.raw (.pointer none)]=>some ⟨.bool true,[]⟩
 | _=>none
theorem Zeg:NOk [] ZdB:=by
 intro xs a h;unfold ZdB at h
 (repeat' (split at h))<;>first|(cases h;done)|(injection h with h;subst h;refine ⟨Zp ?_,?_⟩<;>simp)
theorem s11n:Sound Tryz.prog 11 (Zm [] ZdB Zeg):=by
 refine Zi (ac:=?ac) (res:=?res) Tryz.func11 (by kernel_rfl) (ha:=?ha) (hk:=?hk) (hok:=Zeg) (fun xs a h=>?_) fun xs a h w0 S hS=>?_
 case ha=>conv=>lhs;cbv
 case hk=>kernel_rfl
 ·unfold ZdB at h
  (repeat' (split at h))<;>first|(cases h;done)|exact Nat.le_of_ble_eq_true rfl
 unfold ZdB at h;split at h
 ·skip
  injection h with h;subst h;have hE:Zd Tryz.prog (EL []):=Ze (by simp)
  repeat' with_reducible (first|refine ZR.h ?_|refine kI ?_|(refine kR hE ?_;intro K hK;simp[];(repeat' (first|refine hK _ _ ?_|apply And.intro|(intro hc;try subst hc)))<;>(try clear hK K))|(refine kT (fun hc=>?_) (fun hc=>?_)<;>simp at hc<;>(try subst hc)))
  all_goals try (show Zb _ _=true;kernel_rfl)
  all_goals first|(show Zb _ _=true;kernel_rfl)|(simp;done)|(simp at *;omega)|((try simp);refine Imp.aut ?_ ?_<;>simp[NLe])
 ·cases h
def ZaD:Spec:=ifS nil1 (Zm [] ZdB Zeg) (Zm [(35,false)] d11 ok11)
theorem Zfg:Sound Tryz.prog 11 ZaD:=Zdl s11n s11
end Go.W
