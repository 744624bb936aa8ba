/- A part of the proofs about the pair's laws (PsP4, PsP5, PsX). -/
import Derived.Test.YtidbbnkpglggdaaGreatPsO
import Derived.Test.YtidbbnkpglggdaaGreatPqB
import Derived.Test.YtidbbnkpglggdaaGreatPsP3
import Derived.Test.YtidbbnkpglggdaaGreatPsQ
namespace Go.W
open Go.Proofs
set_option linter.unusedSimpArgs false
set_option linter.unusedVariables false
set_option maxHeartbeats 8000000
attribute [local irreducible] Wm
attribute [local simp] Y5 lkp VW prs Uv prT ddL idL YN Um Ren Vt NObj.none Z4
def d83:List AV→Option Ans
 | [.op _ tc,.op _ wc]=>(match vg tc,xM wc with
  | some T,some W=>if okT T=true∧okW W=true∧smW W=true∧YD W T=false then some (⟨.tup [],[.cells 0 (tzC T),.cells 0 (wzC (Yw W T))]⟩) else none
  | _,_=>none)
 | _=>none
theorem ok83:NOk [(35,true),(10,true)] d83:=by
 intro xs aa h;unfold d83 at h;split at h
 ·rename_i t1 tc t2 wc
  split at h
  ·rename_i T W hTc hWc
   split at h
   ·rename_i hc
    obtain ⟨u1,u2,u3,u4,rfl⟩:=Z1 hWc;obtain rfl:=ZS hTc;injection h with h;subst h;have hW:=hc.2.1;obtain ⟨hcf,hw,hwl,hs0,ht0,ht1,hlg⟩:=Zl hW;have hT:=ZZ hw;have hC:=Z0 hw;have hTl:=ZF hlg;have hCl:=ZE hlg;have hW2:=TY hW T;obtain ⟨hcf2,hw2,hwl2,hs02,ht02,ht12,hlg2⟩:=Zl hW2;have hT2:=ZZ hw2;have hC2:=Z0 hw2;have hTl2:=ZF hlg2;have hCl2:=ZE hlg2;refine ⟨Zq ?_,?_⟩<;>simp[tzC,wzL,wzC,hT,hC,hTl,hCl,hT2,hC2,hTl2,hCl2]
   ·cases h
  ·cases h
 ·cases h
theorem s83:Sound Tryz.prog 83 (Zi [(35,true),(10,true)] d83 ok83):=by
 refine Zj C83.a C83.b C83.c C83.d ok83 (fun xs a h=>?_) fun xs a h w0 S hS=>?_
 ·unfold d83 at h
  (repeat' (split at h))<;>first|(cases h;done)|exact Nat.le_of_ble_eq_true rfl
 unfold d83 at h;split at h
 ·rename_i t1 tc t2 wc
  split at h
  ·rename_i T W hTc hWc
   split at h
   ·rename_i hcond
    obtain ⟨u1,u2,u3,u4,rfl⟩:=Z1 hWc;obtain rfl:=ZS hTc;injection h with h;subst h;clear hTc hWc;have hE:Zb Tryz.prog (EL [(109,Zi [(35,false)] d109 ok109),(66,Zi [(10,true)] d66 ok66),(65,rdS d65 ok65)]):=Zd (by simp only[List.mem_cons,List.not_mem_nil,or_false,forall_eq_or_imp,forall_eq];exact ⟨s109,s66,s65⟩);obtain ⟨hokT,hW,hsm,hid⟩:=hcond;obtain ⟨hpc0,hpc1,hx0,hx1,hy0,hy1,htx0,htx1,hty0,hty1,hq0,hq1,hp0,hp1,hta0,hta1,hen0,hen1,hnx,hny⟩:=XM hokT;obtain ⟨hcf,hw,hwl,hs0,ht0,ht1,hlg⟩:=Zl hW;have hlo:=Tw hsm;obtain ⟨hsm1,hsm2⟩:=Tu hsm;obtain ⟨hX0,hX1,hY0,hY1,hAB⟩:=Y6 hW hid;have hT:=ZZ hw;have hC:=Z0 hw;have hTl:=ZF hlg;have hCl:=ZE hlg;obtain ⟨nxk0,nxk1,nxg0,nxg1,nxl0,nxl1,nxf0,nxf1⟩:=Un hnx;obtain ⟨nyk0,nyk1,nyg0,nyg1,nyl0,nyl1,nyf0,nyf1⟩:=Un hny;by_cases h1:T.pc=10
    ·by_cases hm:T.made=true
     ·have hh:Yw W T=Z2 W T.x T.nx.g (T.nx.f - 1) (VI T T.y T.ny.g):=by simp[Yw,h1,hm]
      have h99:=e109 T T.y T.ny.g;have ww:IntKind.wrap .i64 (T.nx.f - 1)=T.nx.f - 1:=Zh (by omega) (by omega);have h68:=e66 hW hlo T.x T.nx.g (T.nx.f - 1) (r:=VI T T.y T.ny.g) (by simp only[VI];omega);have hW2:=Ta hW (T.x) (T.nx.g) (T.nx.f - 1) (VI T T.y T.ny.g);obtain ⟨W2,hw2e⟩:∃ z,Z2 W (T.x) (T.nx.g) (T.nx.f - 1) (VI T T.y T.ny.g)=z:=⟨_,rfl⟩;rw[hw2e]at h68 hW2 hh;obtain ⟨hcf2,hw2,hwl2,hs02,ht02,ht12,hlg2⟩:=Zl hW2;have hT2:=ZZ hw2;have hC2:=Z0 hw2;have hTl2:=ZF hlg2;have hCl2:=ZE hlg2;rw[hh];simp only[tzC,wzL,wzC,rcA,stA,VI]at hS h68 h99⊢;simp only[h1,hm]at h99;unfold m83
      repeat' with_reducible (first|refine ZR.h ?_|refine zI ?_|((first|refine zK hE ?_|refine zM hE ?_);intro K hK;simp[hT,hC,hTl,hCl,hT2,hC2,hTl2,hCl2,h1,hm,h99,h68,ww];(repeat' (first|refine hK _ _ ?_|apply And.intro|(intro hc;try subst hc)))<;>(try clear hK K))|(refine zJ (fun hc=>?_) (fun hc=>?_)<;>simp at hc<;>(try subst hc)))
      all_goals first|(simp;done)|(simp at *;omega)|((try simp[hT,hC,hTl,hCl,hT2,hC2,hTl2,hCl2,h1,hm]);refine Imp.aut ?_ ?_<;>simp[NLe,hT,hC,hTl,hCl,hT2,hC2,hTl2,hCl2,h1,hm])
     ·have hm:T.made=false:=by simpa using hm
      have hh:Yw W T=W:=(by simp[Yw,h1,hm]);rw[hh];simp only[tzC,wzL,wzC]at hS⊢;unfold m83
      repeat' with_reducible (first|refine ZR.h ?_|refine zI ?_|((first|refine zK hE ?_|refine zM hE ?_);intro K hK;simp[hT,hC,hTl,hCl,h1,hm];(repeat' (first|refine hK _ _ ?_|apply And.intro|(intro hc;try subst hc)))<;>(try clear hK K))|(refine zJ (fun hc=>?_) (fun hc=>?_)<;>simp at hc<;>(try subst hc)))
      all_goals first|(simp;done)|(simp at *;omega)|((try simp[hT,hC,hTl,hCl,h1,hm]);refine Imp.aut ?_ ?_<;>simp[NLe,hT,hC,hTl,hCl,h1,hm])
    ·have g10:=h1
     clear h1;by_cases h1:T.pc=11
     ·by_cases hm:T.made=true
      ·have hh:Yw W T=Z2 W T.y T.ny.g (T.ny.f - 1) (VI T T.x T.nx.g):=by simp[Yw,h1,hm]
       have h99:=e109 T T.x T.nx.g;have ww:IntKind.wrap .i64 (T.ny.f - 1)=T.ny.f - 1:=Zh (by omega) (by omega);have h68:=e66 hW hlo T.y T.ny.g (T.ny.f - 1) (r:=VI T T.x T.nx.g) (by simp only[VI];omega);have hW2:=Ta hW (T.y) (T.ny.g) (T.ny.f - 1) (VI T T.x T.nx.g);obtain ⟨W2,hw2e⟩:∃ z,Z2 W (T.y) (T.ny.g) (T.ny.f - 1) (VI T T.x T.nx.g)=z:=⟨_,rfl⟩;rw[hw2e]at h68 hW2 hh;obtain ⟨hcf2,hw2,hwl2,hs02,ht02,ht12,hlg2⟩:=Zl hW2;have hT2:=ZZ hw2;have hC2:=Z0 hw2;have hTl2:=ZF hlg2;have hCl2:=ZE hlg2;rw[hh];simp only[tzC,wzL,wzC,rcA,stA,VI]at hS h68 h99⊢;simp only[h1,hm]at h99;unfold m83
       repeat' with_reducible (first|refine ZR.h ?_|refine zI ?_|((first|refine zK hE ?_|refine zM hE ?_);intro K hK;simp[hT,hC,hTl,hCl,hT2,hC2,hTl2,hCl2,h1,hm,h99,h68,ww];(repeat' (first|refine hK _ _ ?_|apply And.intro|(intro hc;try subst hc)))<;>(try clear hK K))|(refine zJ (fun hc=>?_) (fun hc=>?_)<;>simp at hc<;>(try subst hc)))
       all_goals first|(simp;done)|(simp at *;omega)|((try simp[hT,hC,hTl,hCl,hT2,hC2,hTl2,hCl2,h1,hm]);refine Imp.aut ?_ ?_<;>simp[NLe,hT,hC,hTl,hCl,hT2,hC2,hTl2,hCl2,h1,hm])
      ·have hm:T.made=false:=by simpa using hm
       have hh:Yw W T=W:=(by simp[Yw,h1,hm]);rw[hh];simp only[tzC,wzL,wzC]at hS⊢;unfold m83
       repeat' with_reducible (first|refine ZR.h ?_|refine zI ?_|((first|refine zK hE ?_|refine zM hE ?_);intro K hK;simp[hT,hC,hTl,hCl,h1,hm];(repeat' (first|refine hK _ _ ?_|apply And.intro|(intro hc;try subst hc)))<;>(try clear hK K))|(refine zJ (fun hc=>?_) (fun hc=>?_)<;>simp at hc<;>(try subst hc)))
       all_goals first|(simp;done)|(simp at *;omega)|((try simp[hT,hC,hTl,hCl,h1,hm]);refine Imp.aut ?_ ?_<;>simp[NLe,hT,hC,hTl,hCl,h1,hm])
     ·have g11:=h1
      clear h1;by_cases h1:T.pc=12
      ·by_cases hm:T.made=true
       ·have h67:d65 [stA T.ny,.int .i64 T.ta] []=some (.tup [rcA (ZW T.ny T.ta).1,.bool (ZW T.ny T.ta).2]):=rfl
        have hin:=Ze4 hny (t:=T.ta) (by omega) (by omega);by_cases h2:(ZW T.ny T.ta).2=true
        ·have hh:Yw W T=Z2 W T.y T.ny.g W.f (ZW T.ny T.ta).1:=by simp[Yw,h1,hm,h2]
         rw[h2]at h67;have h68:=e66 hW hlo T.y T.ny.g W.f hin;have hW2:=Ta hW (T.y) (T.ny.g) (W.f) ((ZW T.ny T.ta).1);obtain ⟨W2,hw2e⟩:∃ z,Z2 W (T.y) (T.ny.g) (W.f) ((ZW T.ny T.ta).1)=z:=⟨_,rfl⟩;rw[hw2e]at h68 hW2 hh;obtain ⟨hcf2,hw2,hwl2,hs02,ht02,ht12,hlg2⟩:=Zl hW2;have hT2:=ZZ hw2;have hC2:=Z0 hw2;have hTl2:=ZF hlg2;have hCl2:=ZE hlg2;rw[hh];simp only[tzC,wzL,wzC,rcA,stA,VI]at hS h68 h67⊢;unfold m83
         repeat' with_reducible (first|refine ZR.h ?_|refine zI ?_|((first|refine zK hE ?_|refine zM hE ?_);intro K hK;simp[hT,hC,hTl,hCl,hT2,hC2,hTl2,hCl2,h1,hm,h67,h68];(repeat' (first|refine hK _ _ ?_|apply And.intro|(intro hc;try subst hc)))<;>(try clear hK K))|(refine zJ (fun hc=>?_) (fun hc=>?_)<;>simp at hc<;>(try subst hc)))
         all_goals first|(simp;done)|(simp at *;omega)|((try simp[hT,hC,hTl,hCl,hT2,hC2,hTl2,hCl2,h1,hm]);refine Imp.aut ?_ ?_<;>simp[NLe,hT,hC,hTl,hCl,hT2,hC2,hTl2,hCl2,h1,hm])
        ·have hh:Yw W T=W:=by simp[Yw,h1,hm,h2]
         have h2:(ZW T.ny T.ta).2=false:=(by simpa using h2);rw[h2]at h67;rw[hh];simp only[tzC,wzL,wzC,rcA,stA]at hS h67⊢;unfold m83
         repeat' with_reducible (first|refine ZR.h ?_|refine zI ?_|((first|refine zK hE ?_|refine zM hE ?_);intro K hK;simp[hT,hC,hTl,hCl,h1,hm,h67];(repeat' (first|refine hK _ _ ?_|apply And.intro|(intro hc;try subst hc)))<;>(try clear hK K))|(refine zJ (fun hc=>?_) (fun hc=>?_)<;>simp at hc<;>(try subst hc)))
         all_goals first|(simp;done)|(simp at *;omega)|((try simp[hT,hC,hTl,hCl,h1,hm]);refine Imp.aut ?_ ?_<;>simp[NLe,hT,hC,hTl,hCl,h1,hm])
       ·have hm:T.made=false:=by simpa using hm
        have hh:Yw W T=W:=(by simp[Yw,h1,hm]);rw[hh];simp only[tzC,wzL,wzC]at hS⊢;unfold m83
        repeat' with_reducible (first|refine ZR.h ?_|refine zI ?_|((first|refine zK hE ?_|refine zM hE ?_);intro K hK;simp[hT,hC,hTl,hCl,h1,hm];(repeat' (first|refine hK _ _ ?_|apply And.intro|(intro hc;try subst hc)))<;>(try clear hK K))|(refine zJ (fun hc=>?_) (fun hc=>?_)<;>simp at hc<;>(try subst hc)))
        all_goals first|(simp;done)|(simp at *;omega)|((try simp[hT,hC,hTl,hCl,h1,hm]);refine Imp.aut ?_ ?_<;>simp[NLe,hT,hC,hTl,hCl,h1,hm])
      ·have g12:=h1
       clear h1;by_cases h1:T.pc=13
       ·by_cases hd:T.held=true
        ·have h67:d65 [stA T.nx,.int .i64 T.en] []=some (.tup [rcA (ZW T.nx T.en).1,.bool (ZW T.nx T.en).2]):=rfl
         have hin:=Ze4 hnx (t:=T.en) (by omega) (by omega);by_cases h2:(ZW T.nx T.en).2=true
         ·have hh:Yw W T=Z2 W T.x T.nx.g W.f (ZW T.nx T.en).1:=by simp[Yw,h1,hd,h2]
          rw[h2]at h67;have h68:=e66 hW hlo T.x T.nx.g W.f hin;have hW2:=Ta hW (T.x) (T.nx.g) (W.f) ((ZW T.nx T.en).1);obtain ⟨W2,hw2e⟩:∃ z,Z2 W (T.x) (T.nx.g) (W.f) ((ZW T.nx T.en).1)=z:=⟨_,rfl⟩;rw[hw2e]at h68 hW2 hh;obtain ⟨hcf2,hw2,hwl2,hs02,ht02,ht12,hlg2⟩:=Zl hW2;have hT2:=ZZ hw2;have hC2:=Z0 hw2;have hTl2:=ZF hlg2;have hCl2:=ZE hlg2;rw[hh];simp only[tzC,wzL,wzC,rcA,stA,VI]at hS h68 h67⊢;unfold m83
          repeat' with_reducible (first|refine ZR.h ?_|refine zI ?_|((first|refine zK hE ?_|refine zM hE ?_);intro K hK;simp[hT,hC,hTl,hCl,hT2,hC2,hTl2,hCl2,h1,hd,h67,h68];(repeat' (first|refine hK _ _ ?_|apply And.intro|(intro hc;try subst hc)))<;>(try clear hK K))|(refine zJ (fun hc=>?_) (fun hc=>?_)<;>simp at hc<;>(try subst hc)))
          all_goals first|(simp;done)|(simp at *;omega)|((try simp[hT,hC,hTl,hCl,hT2,hC2,hTl2,hCl2,h1,hd]);refine Imp.aut ?_ ?_<;>simp[NLe,hT,hC,hTl,hCl,hT2,hC2,hTl2,hCl2,h1,hd])
         ·have hh:Yw W T=W:=by simp[Yw,h1,hd,h2]
          have h2:(ZW T.nx T.en).2=false:=(by simpa using h2);rw[h2]at h67;rw[hh];simp only[tzC,wzL,wzC,rcA,stA]at hS h67⊢;unfold m83
          repeat' with_reducible (first|refine ZR.h ?_|refine zI ?_|((first|refine zK hE ?_|refine zM hE ?_);intro K hK;simp[hT,hC,hTl,hCl,h1,hd,h67];(repeat' (first|refine hK _ _ ?_|apply And.intro|(intro hc;try subst hc)))<;>(try clear hK K))|(refine zJ (fun hc=>?_) (fun hc=>?_)<;>simp at hc<;>(try subst hc)))
          all_goals first|(simp;done)|(simp at *;omega)|((try simp[hT,hC,hTl,hCl,h1,hd]);refine Imp.aut ?_ ?_<;>simp[NLe,hT,hC,hTl,hCl,h1,hd])
        ·have hd:T.held=false:=by simpa using hd
         have hh:Yw W T=W:=(by simp[Yw,h1,hd]);rw[hh];simp only[tzC,wzL,wzC]at hS⊢;unfold m83
         repeat' with_reducible (first|refine ZR.h ?_|refine zI ?_|((first|refine zK hE ?_|refine zM hE ?_);intro K hK;simp[hT,hC,hTl,hCl,h1,hd];(repeat' (first|refine hK _ _ ?_|apply And.intro|(intro hc;try subst hc)))<;>(try clear hK K))|(refine zJ (fun hc=>?_) (fun hc=>?_)<;>simp at hc<;>(try subst hc)))
         all_goals first|(simp;done)|(simp at *;omega)|((try simp[hT,hC,hTl,hCl,h1,hd]);refine Imp.aut ?_ ?_<;>simp[NLe,hT,hC,hTl,hCl,h1,hd])
       ·have g13:=h1
        clear h1;have hh:Yw W T=W:=(by simp[Yw,g10,g11,g12,g13]);rw[hh];simp only[tzC,wzL,wzC]at hS⊢;unfold m83
        repeat' with_reducible (first|refine ZR.h ?_|refine zI ?_|((first|refine zK hE ?_|refine zM hE ?_);intro K hK;simp[hT,hC,hTl,hCl,g10,g11,g12,g13];(repeat' (first|refine hK _ _ ?_|apply And.intro|(intro hc;try subst hc)))<;>(try clear hK K))|(refine zJ (fun hc=>?_) (fun hc=>?_)<;>simp at hc<;>(try subst hc)))
        all_goals first|(simp;done)|(simp at *;omega)|((try simp[hT,hC,hTl,hCl]);refine Imp.aut ?_ ?_<;>simp[NLe,hT,hC,hTl,hCl])
   ·cases h
  ·cases h
 ·cases h
theorem ZgR (W:WZ) (T:TZ):(Xk W T).1.pc=T.pc:=by unfold Xk;split<;>rfl
theorem ZgG (W:WZ) (T:TZ):(YH W T).1.pc=T.pc:=by unfold YH;split<;>rfl
theorem ZgW (W:WZ) (T:TZ):(Xb W T).1.pc=T.pc:=by unfold Xb;(repeat' split)<;>rfl
theorem Zix (W:WZ) (T:TZ):(Uh W T).1.pc=T.pc:=by
 unfold Uh;split
 ·split
  ·split<;>rfl
  ·rfl
 ·rfl
theorem Ze0 (W:WZ) (T:TZ):(ZP W T).1.pc=T.pc:=by
 unfold ZP
 repeat' split
 all_goals first|exact ZgR W T|exact ZgG W T|exact ZgW W T|exact Zix W T|rfl
theorem e79 {W:WZ} {T:TZ} (hT:okT T=true) (hW:okW W=true) (hs:smW W=true) (hi:YD W T=false) (u v u1 u2 u3 u4:Nat):d79 [.op u (tzC T),.op v (wzL W u1 u2 u3 u4)]=some ⟨.tup [],[.cells 0 (tzC (Xk W T).1),.cells 0 (wzC (Xk W T).2)]⟩:=by
 simp only[d79,Vb,Ul];rw[if_pos ⟨hT,hW,hs,hi⟩]
theorem e80 {W:WZ} {T:TZ} (hT:okT T=true) (hW:okW W=true) (hs:smW W=true) (hi:YD W T=false) (u v u1 u2 u3 u4:Nat):d80 [.op u (tzC T),.op v (wzL W u1 u2 u3 u4)]=some ⟨.tup [],[.cells 0 (tzC (Xb W T).1),.cells 0 (wzC (Xb W T).2)]⟩:=by
 simp only[d80,Vb,Ul];rw[if_pos ⟨hT,hW,hs,hi⟩]
theorem e81 {W:WZ} {T:TZ} (hT:okT T=true) (hW:okW W=true) (hs:smW W=true) (hi:YD W T=false) (u v u1 u2 u3 u4:Nat):d81 [.op u (tzC T),.op v (wzL W u1 u2 u3 u4)]=some ⟨.tup [],[.cells 0 (tzC (YH W T).1),.cells 0 (wzC (YH W T).2)]⟩:=by
 simp only[d81,Vb,Ul];rw[if_pos ⟨hT,hW,hs,hi⟩]
theorem e82 {W:WZ} {T:TZ} (hT:okT T=true) (hW:okW W=true) (hs:smW W=true) (hi:YD W T=false) (u v u1 u2 u3 u4:Nat):d82 [.op u (tzC T),.op v (wzL W u1 u2 u3 u4)]=some ⟨.tup [],[.cells 0 (tzC (Uh W T).1),.cells 0 (wzC (Uh W T).2)]⟩:=by
 simp only[d82,Vb,Ul];rw[if_pos ⟨hT,hW,hs,hi⟩]
theorem e83 {W:WZ} {T:TZ} (hT:okT T=true) (hW:okW W=true) (hs:smW W=true) (hi:YD W T=false) (u v u1 u2 u3 u4:Nat):d83 [.op u (tzC T),.op v (wzL W u1 u2 u3 u4)]=some ⟨.tup [],[.cells 0 (tzC T),.cells 0 (wzC (Yw W T))]⟩:=by
 simp only[d83,Vb,Ul];rw[if_pos ⟨hT,hW,hs,hi⟩]
def d44:List AV→Option Ans
 | [.op _ tc,.op _ wc]=>(match vg tc,xM wc with
  | some T,some W=>if okT T=true∧okW W=true∧smW W=true∧YD W T=false then some (⟨.tup [],[.cells 0 (tzC (ZP W T).1),.cells 0 (wzC (ZP W T).2)]⟩) else none
  | _,_=>none)
 | _=>none
theorem ok44:NOk [(35,true),(10,true)] d44:=by
 intro xs aa h;unfold d44 at h;split at h
 ·rename_i t1 tc t2 wc
  split at h
  ·rename_i T W hTc hWc
   split at h
   ·rename_i hc
    obtain ⟨u1,u2,u3,u4,rfl⟩:=Z1 hWc;obtain rfl:=ZS hTc;injection h with h;subst h;have hW:=hc.2.1;obtain ⟨hcf,hw,hwl,hs0,ht0,ht1,hlg⟩:=Zl hW;have hT:=ZZ hw;have hC:=Z0 hw;have hTl:=ZF hlg;have hCl:=ZE hlg;have hW2:=yH hW T;obtain ⟨hcf2,hw2,hwl2,hs02,ht02,ht12,hlg2⟩:=Zl hW2;have hT2:=ZZ hw2;have hC2:=Z0 hw2;have hTl2:=ZF hlg2;have hCl2:=ZE hlg2;refine ⟨Zq ?_,?_⟩<;>simp[tzC,wzL,wzC,hT,hC,hTl,hCl,hT2,hC2,hTl2,hCl2]
   ·cases h
  ·cases h
 ·cases h
theorem s44:Sound Tryz.prog 44 (Zi [(35,true),(10,true)] d44 ok44):=by
 refine Zj C44.a C44.b C44.c C44.d ok44 (fun xs a h=>?_) fun xs a h w0 S hS=>?_
 ·unfold d44 at h
  (repeat' (split at h))<;>first|(cases h;done)|exact Nat.le_of_ble_eq_true rfl
 unfold d44 at h;split at h
 ·rename_i t1 tc t2 wc
  split at h
  ·rename_i T W hTc hWc
   split at h
   ·rename_i hcond
    obtain ⟨u1,u2,u3,u4,rfl⟩:=Z1 hWc;obtain rfl:=ZS hTc;injection h with h;subst h;clear hTc hWc;have hE:Zb Tryz.prog (EL [(42,Zi [(10,true)] d42 ok42),(63,Zi [(10,true)] d63 ok63),(79,Zi [(35,true),(10,true)] d79 ok79),(80,Zi [(35,true),(10,true)] d80 ok80),(81,Zi [(35,true),(10,true)] d81 ok81),(82,Zi [(35,true),(10,true)] d82 ok82),(83,Zi [(35,true),(10,true)] d83 ok83)]):=Zd (by simp only[List.mem_cons,List.not_mem_nil,or_false,forall_eq_or_imp,forall_eq];exact ⟨s42,s63,s79,s80,s81,s82,s83⟩);obtain ⟨hokT,hW,hsm,hid⟩:=hcond;obtain ⟨hpc0,hpc1,hx0,hx1,hy0,hy1,htx0,htx1,hty0,hty1,hq0,hq1,hp0,hp1,hta0,hta1,hen0,hen1,hnx,hny⟩:=XM hokT;obtain ⟨hcf,hw,hwl,hs0,ht0,ht1,hlg⟩:=Zl hW;have hlo:=Tw hsm;obtain ⟨hsm1,hsm2⟩:=Tu hsm;obtain ⟨hX0,hX1,hY0,hY1,hAB⟩:=Y6 hW hid;have hT:=ZZ hw;have hC:=Z0 hw;have hTl:=ZF hlg;have hCl:=ZE hlg;by_cases h1:T.pc=0
    ·have hh:ZP W T=({ T with wx:=sAt W T.x },ZO W):=by simp[ZP,h1]
     have hk:=e42 hW hlo hX0 hX1;rw[hh];simp only[tzC,wzL,wzC,ZO,stA,tmA,tmC]at hS hk⊢;unfold m44
     repeat' with_reducible (first|refine ZR.h ?_|refine zI ?_|(refine zK hE ?_;intro K hK;simp[hT,hC,hTl,hCl,h1,hk];(repeat' (first|refine hK _ _ ?_|apply And.intro|(intro hc;try subst hc)))<;>(try clear hK K))|(refine zJ (fun hc=>?_) (fun hc=>?_)<;>simp at hc<;>(try subst hc)))
     all_goals first|(simp;done)|(simp at *;omega)|((try simp[hT,hC,hTl,hCl,h1]);refine Imp.aut ?_ ?_<;>simp[NLe,hT,hC,hTl,hCl,h1])
    ·have g0:=h1
     clear h1;by_cases h1:T.pc=1
     ·have hh:ZP W T=({ T with tx:=Yg (tAt W T.x) },ZO W):=by simp[ZP,h1]
      have hk:=e63 hW hlo hX0 hX1;rw[hh];simp only[tzC,wzL,wzC,ZO,stA,tmA,tmC]at hS hk⊢;unfold m44
      repeat' with_reducible (first|refine ZR.h ?_|refine zI ?_|(refine zK hE ?_;intro K hK;simp[hT,hC,hTl,hCl,h1,hk];(repeat' (first|refine hK _ _ ?_|apply And.intro|(intro hc;try subst hc)))<;>(try clear hK K))|(refine zJ (fun hc=>?_) (fun hc=>?_)<;>simp at hc<;>(try subst hc)))
      all_goals first|(simp;done)|(simp at *;omega)|((try simp[hT,hC,hTl,hCl,h1]);refine Imp.aut ?_ ?_<;>simp[NLe,hT,hC,hTl,hCl,h1])
     ·have g1:=h1
      clear h1;by_cases h1:T.pc=2
      ·have hh:ZP W T=Xk W T:=by simp[ZP,h1]
       have hk:=e79 hokT hW hsm hid;have hW2:=vB hW T;obtain ⟨r,hr⟩:∃ r,Xk W T=r:=⟨_,rfl⟩;rw[hh,hr];rw[hr]at hk hW2;obtain ⟨hcf2,hw2,hwl2,hs02,ht02,ht12,hlg2⟩:=Zl hW2;have hT2:=ZZ hw2;have hC2:=Z0 hw2;have hTl2:=ZF hlg2;have hCl2:=ZE hlg2;simp only[tzC,wzL,wzC]at hS hk⊢;simp only[h1]at hk;unfold m44
       repeat' with_reducible (first|refine ZR.h ?_|refine zI ?_|(refine zK hE ?_;intro K hK;simp[hT,hC,hTl,hCl,hT2,hC2,hTl2,hCl2,h1,hk];(repeat' (first|refine hK _ _ ?_|apply And.intro|(intro hc;try subst hc)))<;>(try clear hK K))|(refine zJ (fun hc=>?_) (fun hc=>?_)<;>simp at hc<;>(try subst hc)))
       all_goals first|(simp;done)|(simp at *;omega)|((try simp[hT,hC,hTl,hCl,hT2,hC2,hTl2,hCl2,h1]);refine Imp.aut ?_ ?_<;>simp[NLe,hT,hC,hTl,hCl,hT2,hC2,hTl2,hCl2,h1])
      ·have g2:=h1
       clear h1;by_cases h1:T.pc=3
       ·have hh:ZP W T=({ T with wy:=sAt W T.y },ZO W):=by simp[ZP,h1]
        have hk:=e42 hW hlo hY0 hY1;rw[hh];simp only[tzC,wzL,wzC,ZO,stA,tmA,tmC]at hS hk⊢;unfold m44
        repeat' with_reducible (first|refine ZR.h ?_|refine zI ?_|(refine zK hE ?_;intro K hK;simp[hT,hC,hTl,hCl,h1,hk];(repeat' (first|refine hK _ _ ?_|apply And.intro|(intro hc;try subst hc)))<;>(try clear hK K))|(refine zJ (fun hc=>?_) (fun hc=>?_)<;>simp at hc<;>(try subst hc)))
        all_goals first|(simp;done)|(simp at *;omega)|((try simp[hT,hC,hTl,hCl,h1]);refine Imp.aut ?_ ?_<;>simp[NLe,hT,hC,hTl,hCl,h1])
       ·have g3:=h1
        clear h1;by_cases h1:T.pc=4
        ·have hh:ZP W T=({ T with ty:=Yg (tAt W T.y) },ZO W):=by simp[ZP,h1]
         have hk:=e63 hW hlo hY0 hY1;rw[hh];simp only[tzC,wzL,wzC,ZO,stA,tmA,tmC]at hS hk⊢;unfold m44
         repeat' with_reducible (first|refine ZR.h ?_|refine zI ?_|(refine zK hE ?_;intro K hK;simp[hT,hC,hTl,hCl,h1,hk];(repeat' (first|refine hK _ _ ?_|apply And.intro|(intro hc;try subst hc)))<;>(try clear hK K))|(refine zJ (fun hc=>?_) (fun hc=>?_)<;>simp at hc<;>(try subst hc)))
         all_goals first|(simp;done)|(simp at *;omega)|((try simp[hT,hC,hTl,hCl,h1]);refine Imp.aut ?_ ?_<;>simp[NLe,hT,hC,hTl,hCl,h1])
        ·have g4:=h1
         clear h1;by_cases h1:T.pc=5
         ·have hh:ZP W T=Xb W T:=by simp[ZP,h1]
          have hk:=e80 hokT hW hsm hid;have hW2:=vG hW T;obtain ⟨r,hr⟩:∃ r,Xb W T=r:=⟨_,rfl⟩;rw[hh,hr];rw[hr]at hk hW2;obtain ⟨hcf2,hw2,hwl2,hs02,ht02,ht12,hlg2⟩:=Zl hW2;have hT2:=ZZ hw2;have hC2:=Z0 hw2;have hTl2:=ZF hlg2;have hCl2:=ZE hlg2;simp only[tzC,wzL,wzC]at hS hk⊢;simp only[h1]at hk;unfold m44
          repeat' with_reducible (first|refine ZR.h ?_|refine zI ?_|(refine zK hE ?_;intro K hK;simp[hT,hC,hTl,hCl,hT2,hC2,hTl2,hCl2,h1,hk];(repeat' (first|refine hK _ _ ?_|apply And.intro|(intro hc;try subst hc)))<;>(try clear hK K))|(refine zJ (fun hc=>?_) (fun hc=>?_)<;>simp at hc<;>(try subst hc)))
          all_goals first|(simp;done)|(simp at *;omega)|((try simp[hT,hC,hTl,hCl,hT2,hC2,hTl2,hCl2,h1]);refine Imp.aut ?_ ?_<;>simp[NLe,hT,hC,hTl,hCl,hT2,hC2,hTl2,hCl2,h1])
         ·have g5:=h1
          clear h1;by_cases h1:T.pc=6
          ·have hh:ZP W T=YH W T:=by simp[ZP,h1]
           have hk:=e81 hokT hW hsm hid;have hW2:=yu hW T;obtain ⟨r,hr⟩:∃ r,YH W T=r:=⟨_,rfl⟩;rw[hh,hr];rw[hr]at hk hW2;obtain ⟨hcf2,hw2,hwl2,hs02,ht02,ht12,hlg2⟩:=Zl hW2;have hT2:=ZZ hw2;have hC2:=Z0 hw2;have hTl2:=ZF hlg2;have hCl2:=ZE hlg2;simp only[tzC,wzL,wzC]at hS hk⊢;simp only[h1]at hk;unfold m44
           repeat' with_reducible (first|refine ZR.h ?_|refine zI ?_|(refine zK hE ?_;intro K hK;simp[hT,hC,hTl,hCl,hT2,hC2,hTl2,hCl2,h1,hk];(repeat' (first|refine hK _ _ ?_|apply And.intro|(intro hc;try subst hc)))<;>(try clear hK K))|(refine zJ (fun hc=>?_) (fun hc=>?_)<;>simp at hc<;>(try subst hc)))
           all_goals first|(simp;done)|(simp at *;omega)|((try simp[hT,hC,hTl,hCl,hT2,hC2,hTl2,hCl2,h1]);refine Imp.aut ?_ ?_<;>simp[NLe,hT,hC,hTl,hCl,hT2,hC2,hTl2,hCl2,h1])
          ·have g6:=h1
           clear h1;by_cases h1:T.pc=7
           ·have hh:ZP W T=Uh W T:=by simp[ZP,h1]
            have hk:=e82 hokT hW hsm hid;have hW2:=Zad hW T;obtain ⟨r,hr⟩:∃ r,Uh W T=r:=⟨_,rfl⟩;rw[hh,hr];rw[hr]at hk hW2;obtain ⟨hcf2,hw2,hwl2,hs02,ht02,ht12,hlg2⟩:=Zl hW2;have hT2:=ZZ hw2;have hC2:=Z0 hw2;have hTl2:=ZF hlg2;have hCl2:=ZE hlg2;simp only[tzC,wzL,wzC]at hS hk⊢;simp only[h1]at hk;unfold m44
            repeat' with_reducible (first|refine ZR.h ?_|refine zI ?_|(refine zK hE ?_;intro K hK;simp[hT,hC,hTl,hCl,hT2,hC2,hTl2,hCl2,h1,hk];(repeat' (first|refine hK _ _ ?_|apply And.intro|(intro hc;try subst hc)))<;>(try clear hK K))|(refine zJ (fun hc=>?_) (fun hc=>?_)<;>simp at hc<;>(try subst hc)))
            all_goals first|(simp;done)|(simp at *;omega)|((try simp[hT,hC,hTl,hCl,hT2,hC2,hTl2,hCl2,h1]);refine Imp.aut ?_ ?_<;>simp[NLe,hT,hC,hTl,hCl,hT2,hC2,hTl2,hCl2,h1])
           ·have g7:=h1
            clear h1;by_cases h1:T.pc=8
            ·have hh:ZP W T=YH W T:=by simp[ZP,h1]
             have hk:=e81 hokT hW hsm hid;have hW2:=yu hW T;obtain ⟨r,hr⟩:∃ r,YH W T=r:=⟨_,rfl⟩;rw[hh,hr];rw[hr]at hk hW2;obtain ⟨hcf2,hw2,hwl2,hs02,ht02,ht12,hlg2⟩:=Zl hW2;have hT2:=ZZ hw2;have hC2:=Z0 hw2;have hTl2:=ZF hlg2;have hCl2:=ZE hlg2;simp only[tzC,wzL,wzC]at hS hk⊢;simp only[h1]at hk;unfold m44
             repeat' with_reducible (first|refine ZR.h ?_|refine zI ?_|(refine zK hE ?_;intro K hK;simp[hT,hC,hTl,hCl,hT2,hC2,hTl2,hCl2,h1,hk];(repeat' (first|refine hK _ _ ?_|apply And.intro|(intro hc;try subst hc)))<;>(try clear hK K))|(refine zJ (fun hc=>?_) (fun hc=>?_)<;>simp at hc<;>(try subst hc)))
             all_goals first|(simp;done)|(simp at *;omega)|((try simp[hT,hC,hTl,hCl,hT2,hC2,hTl2,hCl2,h1]);refine Imp.aut ?_ ?_<;>simp[NLe,hT,hC,hTl,hCl,hT2,hC2,hTl2,hCl2,h1])
            ·have g8:=h1
             clear h1;by_cases h1:T.pc=9
             ·have hh:ZP W T=Uh W T:=by simp[ZP,h1]
              have hk:=e82 hokT hW hsm hid;have hW2:=Zad hW T;obtain ⟨r,hr⟩:∃ r,Uh W T=r:=⟨_,rfl⟩;rw[hh,hr];rw[hr]at hk hW2;obtain ⟨hcf2,hw2,hwl2,hs02,ht02,ht12,hlg2⟩:=Zl hW2;have hT2:=ZZ hw2;have hC2:=Z0 hw2;have hTl2:=ZF hlg2;have hCl2:=ZE hlg2;simp only[tzC,wzL,wzC]at hS hk⊢;simp only[h1]at hk;unfold m44
              repeat' with_reducible (first|refine ZR.h ?_|refine zI ?_|(refine zK hE ?_;intro K hK;simp[hT,hC,hTl,hCl,hT2,hC2,hTl2,hCl2,h1,hk];(repeat' (first|refine hK _ _ ?_|apply And.intro|(intro hc;try subst hc)))<;>(try clear hK K))|(refine zJ (fun hc=>?_) (fun hc=>?_)<;>simp at hc<;>(try subst hc)))
              all_goals first|(simp;done)|(simp at *;omega)|((try simp[hT,hC,hTl,hCl,hT2,hC2,hTl2,hCl2,h1]);refine Imp.aut ?_ ?_<;>simp[NLe,hT,hC,hTl,hCl,hT2,hC2,hTl2,hCl2,h1])
             ·have g9:=h1
              clear h1;have hh:ZP W T=(T,Yw W T):=(by simp[ZP,g0,g1,g2,g3,g4,g5,g6,g7,g8,g9]);have hk:=e83 hokT hW hsm hid;have hW2:=TY hW T;obtain ⟨W2,hr⟩:∃ r,Yw W T=r:=⟨_,rfl⟩;rw[hh,hr];rw[hr]at hk hW2;obtain ⟨hcf2,hw2,hwl2,hs02,ht02,ht12,hlg2⟩:=Zl hW2;have hT2:=ZZ hw2;have hC2:=Z0 hw2;have hTl2:=ZF hlg2;have hCl2:=ZE hlg2;simp only[tzC,wzL,wzC]at hS hk⊢;unfold m44
              repeat' with_reducible (first|refine ZR.h ?_|refine zI ?_|(refine zK hE ?_;intro K hK;simp[hT,hC,hTl,hCl,hT2,hC2,hTl2,hCl2,g0,g1,g2,g3,g4,g5,g6,g7,g8,g9,hk];(repeat' (first|refine hK _ _ ?_|apply And.intro|(intro hc;try subst hc)))<;>(try clear hK K))|(refine zJ (fun hc=>?_) (fun hc=>?_)<;>simp at hc<;>(try subst hc)))
              all_goals first|(simp;done)|(simp at *;omega)|((try simp[hT,hC,hTl,hCl,hT2,hC2,hTl2,hCl2]);refine Imp.aut ?_ ?_<;>simp[NLe,hT,hC,hTl,hCl,hT2,hC2,hTl2,hCl2])
   ·cases h
  ·cases h
 ·cases h
theorem e44 {W:WZ} {T:TZ} (hT:okT T=true) (hW:okW W=true) (hs:smW W=true) (hi:YD W T=false) (u v u1 u2 u3 u4:Nat):d44 [.op u (tzC T),.op v (wzL W u1 u2 u3 u4)]=some ⟨.tup [],[.cells 0 (tzC (ZP W T).1),.cells 0 (wzC (ZP W T).2)]⟩:=by
 simp only[d44,Vb,Ul];rw[if_pos ⟨hT,hW,hs,hi⟩]
def d9:List AV→Option Ans
 | [.op _ tc,.op _ wc]=>(match vg tc,xM wc with
  | some T,some W=>if okT T=true∧okW W=true∧smW W=true then some (⟨.tup [],[.cells 0 (tzC (ZC W T).1),.cells 0 (wzC (ZC W T).2)]⟩) else none
  | _,_=>none)
 | _=>none
theorem ok9:NOk [(35,true),(10,true)] d9:=by
 intro xs aa h;unfold d9 at h;split at h
 ·rename_i t1 tc t2 wc
  split at h
  ·rename_i T W hTc hWc
   split at h
   ·rename_i hc
    obtain ⟨u1,u2,u3,u4,rfl⟩:=Z1 hWc;obtain rfl:=ZS hTc;injection h with h;subst h;have hW:=hc.2.1;obtain ⟨hcf,hw,hwl,hs0,ht0,ht1,hlg⟩:=Zl hW;have hT:=ZZ hw;have hC:=Z0 hw;have hTl:=ZF hlg;have hCl:=ZE hlg;have hW2:=ZaO hW T;obtain ⟨hcf2,hw2,hwl2,hs02,ht02,ht12,hlg2⟩:=Zl hW2;have hT2:=ZZ hw2;have hC2:=Z0 hw2;have hTl2:=ZF hlg2;have hCl2:=ZE hlg2;refine ⟨Zq ?_,?_⟩<;>simp[tzC,wzL,wzC,hT,hC,hTl,hCl,hT2,hC2,hTl2,hCl2]
   ·cases h
  ·cases h
 ·cases h
theorem s9:Sound Tryz.prog 9 (Zi [(35,true),(10,true)] d9 ok9):=by
 refine Zj C9.a C9.b C9.c C9.d ok9 (fun xs a h=>?_) fun xs a h w0 S hS=>?_
 ·unfold d9 at h
  (repeat' (split at h))<;>first|(cases h;done)|exact Nat.le_of_ble_eq_true rfl
 unfold d9 at h;split at h
 ·rename_i t1 tc t2 wc
  split at h
  ·rename_i T W hTc hWc
   split at h
   ·rename_i hcond
    obtain ⟨u1,u2,u3,u4,rfl⟩:=Z1 hWc;obtain rfl:=ZS hTc;injection h with h;subst h;clear hTc hWc;have hE:Zb Tryz.prog (EL [(11,Zi [(35,false)] d11 ok11),(43,Zi [(35,false),(10,false)] d43 ok43),(44,Zi [(35,true),(10,true)] d44 ok44)]):=Zd (by simp only[List.mem_cons,List.not_mem_nil,or_false,forall_eq_or_imp,forall_eq];exact ⟨s11,s43,s44⟩);obtain ⟨hokT,hW,hsm⟩:=hcond;obtain ⟨hpc0,hpc1,hx0,hx1,hy0,hy1,htx0,htx1,hty0,hty1,hq0,hq1,hp0,hp1,hta0,hta1,hen0,hen1,hnx,hny⟩:=XM hokT;obtain ⟨hcf,hw,hwl,hs0,ht0,ht1,hlg⟩:=Zl hW;have hlo:=Tw hsm;obtain ⟨hsm1,hsm2⟩:=Tu hsm;have hT:=ZZ hw;have hC:=Z0 hw;have hTl:=ZF hlg;have hCl:=ZE hlg;have h13:=e11 T;have h53:=e43 hW T;by_cases h1:14≤T.pc
    ·have hh:ZC W T=(T,W):=by unfold ZC;rw[if_pos h1]
     rw[decide_eq_true h1]at h13;rw[hh];simp only[tzC,wzL,wzC]at hS h13⊢;unfold m9
     repeat' with_reducible (first|refine ZR.h ?_|refine zI ?_|(refine zK hE ?_;intro K hK;simp[hT,hC,hTl,hCl,h13];(repeat' (first|refine hK _ _ ?_|apply And.intro|(intro hc;try subst hc)))<;>(try clear hK K))|(refine zJ (fun hc=>?_) (fun hc=>?_)<;>simp at hc<;>(try subst hc)))
     all_goals first|(simp;done)|(simp at *;omega)|((try simp[hT,hC,hTl,hCl]);refine Imp.aut ?_ ?_<;>simp[NLe,hT,hC,hTl,hCl])
    ·rw[decide_eq_false h1]at h13
     by_cases h2:YD W T=true
     ·have hh:ZC W T=({ T with pc:=T.pc+1 },W):=by unfold ZC;rw[if_neg h1,if_pos h2]
      rw[h2]at h53;have ww:IntKind.wrap .i64 (T.pc+1)=T.pc+1:=Zh (by omega) (by omega);rw[hh];simp only[tzC,wzL,wzC]at hS h13 h53⊢;unfold m9
      repeat' with_reducible (first|refine ZR.h ?_|refine zI ?_|(refine zK hE ?_;intro K hK;simp[hT,hC,hTl,hCl,h13,h53,ww];(repeat' (first|refine hK _ _ ?_|apply And.intro|(intro hc;try subst hc)))<;>(try clear hK K))|(refine zJ (fun hc=>?_) (fun hc=>?_)<;>simp at hc<;>(try subst hc)))
      all_goals first|(simp;done)|(simp at *;omega)|((try simp[hT,hC,hTl,hCl]);refine Imp.aut ?_ ?_<;>simp[NLe,hT,hC,hTl,hCl])
     ·have hh:ZC W T=({ (ZP W T).1 with pc:=T.pc+1 },(ZP W T).2):=by unfold ZC;rw[if_neg h1,if_neg h2]
      have hid:YD W T=false:=(by simpa using h2);rw[hid]at h53;have hk:=e44 hokT hW hsm hid;have hpc:=Ze0 W T;have hW2:=yH hW T;obtain ⟨r,hr⟩:∃ r,ZP W T=r:=⟨_,rfl⟩;rw[hr]at hk hW2 hh hpc;have ww:IntKind.wrap .i64 (T.pc+1)=T.pc+1:=Zh (by omega) (by omega);obtain ⟨hcf2,hw2,hwl2,hs02,ht02,ht12,hlg2⟩:=Zl hW2;have hT2:=ZZ hw2;have hC2:=Z0 hw2;have hTl2:=ZF hlg2;have hCl2:=ZE hlg2;rw[hh];simp only[tzC,wzL,wzC]at hS h13 h53 hk⊢;simp only[hpc]at hk;unfold m9
      repeat' with_reducible (first|refine ZR.h ?_|refine zI ?_|(refine zK hE ?_;intro K hK;simp[hT,hC,hTl,hCl,hT2,hC2,hTl2,hCl2,h13,h53,hk,ww];(repeat' (first|refine hK _ _ ?_|apply And.intro|(intro hc;try subst hc)))<;>(try clear hK K))|(refine zJ (fun hc=>?_) (fun hc=>?_)<;>simp at hc<;>(try subst hc)))
      all_goals first|(simp;done)|(simp at *;omega)|((try simp[hT,hC,hTl,hCl,hT2,hC2,hTl2,hCl2]);refine Imp.aut ?_ ?_<;>simp[NLe,hT,hC,hTl,hCl,hT2,hC2,hTl2,hCl2])
   ·cases h
  ·cases h
 ·cases h
end Go.W
