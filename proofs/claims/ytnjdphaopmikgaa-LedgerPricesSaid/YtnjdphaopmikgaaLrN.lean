/- A part of the proofs about the pair's laws (LrH, LrI, LrJ, LrK, LrL, LrM, LrN). -/
import Derived.Test.YtnjdphaopmikgaaLrG
import Derived.Test.YtnjdphaopmikgaaLqB
import Derived.Test.YtnjdphaopmikgaaPsI
import Derived.Test.YtnjdphaopmikgaaLrB
namespace Go.W
open Go.Proofs
set_option linter.unusedSimpArgs false
set_option linter.unusedVariables false
set_option maxHeartbeats 8000000
attribute [local irreducible] Wm
attribute [local simp] Yu lkp Ui prs Th prT ddL idL Yn U1 Ren Vz NObj.none ZZ
def o0L:List AV:=[.int .i64 0,.int .i64 0,.int .i64 0,.int .i64 0,.int .i64 0,.int .i64 0,.int .i64 0,.int .i64 0,.int .i64 0,.int .i64 0,.bool false,.bool false,.int .i64 0]
def ZbU (c g:Int) (os:List OrZ):AV:=match ZC c g os with
 | some i=>(match os[i]? with
  | some x=>.tup [.agg (orC x),.bool true]
  | none=>.tup [.agg o0L,.bool false])
 | none=>.tup [.agg o0L,.bool false]
def d36:List AV→Option Ans
 | [.op _ mc,.int .i64 c,.int .i64 g]=>(match zE mc with
  | some M=>if M.os.length≤100000 then some ⟨ZbU c g M.os,[.free]⟩ else none
  | none=>none)
 | _=>none
theorem ok36:NOk [(9,false)] d36:=by
 intro xs aa h;unfold d36 at h
 (repeat' (split at h))<;>first|(cases h;done)|(rename_i hm _;obtain rfl:=ZA hm;injection h with h;subst h;unfold ZbU;refine ⟨Zz ?_,?_⟩<;>(repeat' split)<;>simp[Vv,Vt,orC,o0L])
theorem s36:Sound Try.prog 36 (Zw [(9,false)] d36 ok36):=by
 refine Zm C36.a C36.b C36.c C36.d ok36 (fun xs a h=>?_) fun xs a h w0 S hS=>?_
 ·unfold d36 at h
  (repeat' (split at h))<;>first|(cases h;done)|exact Nat.le_of_ble_eq_true rfl
 unfold d36 at h;split at h
 ·rename_i u mc c g
  split at h
  ·rename_i M hM
   split at h
   ·rename_i hn
    obtain rfl:=ZA hM;injection h with h;subst h;clear hM;have hE:Zd Try.prog (EL [(45,Zw [(9,false)] d45 ok45)]):=Zf (by simp only[List.mem_cons,List.not_mem_nil,or_false,forall_eq_or_imp,forall_eq];exact s45);have hT:=ZP M.os;have hC:=ZO M.os;have hl:=Yk M.os;have h45:∀ u,d45 [.op u (mdC M),.int .i64 c,.int .i64 g]=some ⟨.int .i64 (zF (ZC c g M.os)),[.free]⟩:=fun u=>by
     simp only[d45,Yh];rw[if_pos hn]
    cases hi:ZC c g M.os with
    | none =>
     have hv:ZbU c g M.os=.tup [.agg o0L,.bool false]:=(by unfold ZbU;rw[hi]);rw[hv];rw[hi]at h45;simp only[zF]at h45;simp only[mdC,o0L]at hS h45⊢;unfold m36
     repeat' with_reducible (first|refine ZR.h ?_|refine zI ?_|(refine zK hE ?_;intro K hK;simp[hT,hC,hl,h45];(repeat' (first|refine hK _ _ ?_|apply And.intro|(intro hc;try subst hc)))<;>(try clear hK K))|(refine zJ (fun hc=>?_) (fun hc=>?_)<;>simp at hc<;>(try subst hc)))
     all_goals first|(simp;done)|(simp at *;omega)|((try simp[hT,hC,hl]);refine Imp.aut ?_ ?_<;>simp[NLe,hT,hC,hl])
    | some i =>
     obtain ⟨x,hx,hxc,hxg⟩:=zS hi;have hv:ZbU c g M.os=.tup [.agg (orC x),.bool true]:=(by unfold ZbU;rw[hi];simp only[hx]);rw[hv];rw[hi]at h45;simp only[zF]at h45;have hg:=VY hx;have hge:∀ hk,(YZ M.os)[i]'hk=orC x:=fun hk=>by rw[List.getElem?_eq_getElem hk]at hg;exact Option.some.inj hg
     have hil:i<M.os.length:=(List.getElem?_eq_some_iff.1 hx).1;have hi0:¬ ((i:Int)<0):=(by omega);simp only[orC]at hg hge;simp only[mdC,orC]at hS h45⊢;unfold m36
     repeat' with_reducible (first|refine ZR.h ?_|refine zI ?_|(refine zK hE ?_;intro K hK;simp[hT,hC,hl,h45,hg,hge,hil,hi0];(repeat' (first|refine hK _ _ ?_|apply And.intro|(intro hc;try subst hc)))<;>(try clear hK K))|(refine zJ (fun hc=>?_) (fun hc=>?_)<;>simp at hc<;>(try subst hc)))
     all_goals first|(simp;done)|(simp at *;omega)|((try simp[hT,hC,hl]);refine Imp.aut ?_ ?_<;>simp[NLe,hT,hC,hl])
   ·cases h
  ·cases h
 ·cases h
def Zdc (e:EvZ) (x:OrZ):OrZ:=if e.k=6 then { x with r:=true } else { x with a:=true }
def Zdr (e:EvZ) (x:OrZ):Bool:=if e.k=6 then !x.r else !x.a
def d35:List AV→Option Ans
 | [.op _ mc,.agg ec]=>(match zE mc,YO ec with
  | some M,some e=>(match ZC e.c e.g M.os with
   | some i=>(match M.os[i]? with
    | some x=>if M.os.length≤100000∧x.e=0∧Zdr e x=true then some ⟨.raw .nilIface,[.cells 0 (mdC { M with os:=M.os.set i (Zdc e x) })]⟩ else none
    | none=>none)
   | none=>none)
  | _,_=>none)
 | _=>none
theorem ok35:NOk [(9,true)] d35:=by
 intro xs aa h;unfold d35 at h;split at h
 ·split at h
  ·rename_i M e hm he
   obtain rfl:=ZA hm;obtain rfl:=ZD he
   (repeat' (split at h))<;>first|(cases h;done)|(injection h with h;subst h;refine ⟨Zz ?_,?_⟩<;>simp[Vv,Vt,evR])
  ·cases h
 ·cases h
theorem s35:Sound Try.prog 35 (Zw [(9,true)] d35 ok35):=by
 refine Zm C35.a C35.b C35.c C35.d ok35 (fun xs a h=>?_) fun xs a h w0 S hS=>?_
 ·unfold d35 at h
  (repeat' (split at h))<;>first|(cases h;done)|exact Nat.le_of_ble_eq_true rfl
 unfold d35 at h;split at h
 ·rename_i u mc ec
  split at h
  ·rename_i M e hM he
   obtain rfl:=ZA hM;obtain rfl:=ZD he;clear hM he;split at h
   ·rename_i i hi
    split at h
    ·rename_i x hx
     split at h
     ·rename_i hcond
      injection h with h;subst h;obtain ⟨hn,h0,hc⟩:=hcond;have hE:Zd Try.prog (EL [(41,Zw [(9,false)] d41 ok41)]):=Zf (by simp only[List.mem_cons,List.not_mem_nil,or_false,forall_eq_or_imp,forall_eq];exact s41);have hT:=ZP M.os;have hC:=ZO M.os;have hl:=Yk M.os;have h41:∀ u,d41 [.op u (mdC M),.int .i64 e.c,.int .i64 e.g]=some ⟨.tup [.int .i64 (i:Int),.raw .nilIface],[.free]⟩:=fun u=>by
       simp only[d41,Yh,hi,hx];rw[if_pos ⟨hn,h0⟩]
      have hg:=VY hx;have hge:∀ hk,(YZ M.os)[i]'hk=orC x:=fun hk=>by rw[List.getElem?_eq_getElem hk]at hg;exact Option.some.inj hg
      have hil:i<M.os.length:=(List.getElem?_eq_some_iff.1 hx).1;have hi0:¬ ((i:Int)<0):=(by omega);have hs:=Zac M.os i (Zdc e x);by_cases hk6:e.k=6
      ·have hf:x.r=false:=by simpa [Zdr,hk6] using hc
       simp only[Zdc,if_pos hk6]at hs⊢;simp only[orC]at hg hge hs;simp only[mdC,evR]at hS h41⊢;unfold m35
       repeat' with_reducible (first|refine ZR.h ?_|refine zI ?_|(refine zK hE ?_;intro K hK;simp[hT,hC,hl,h41,hg,hge,hil,hi0,hk6,hf,hs];(repeat' (first|refine hK _ _ ?_|apply And.intro|(intro hc;try subst hc)))<;>(try clear hK K))|(refine zJ (fun hc=>?_) (fun hc=>?_)<;>simp at hc<;>(try subst hc)))
       all_goals first|(simp;done)|(simp at *;omega)|((try simp[hT,hC,hl,hs,ZP,ZO]);refine Imp.aut ?_ ?_<;>simp[NLe,hT,hC,hl,hs,ZP,ZO])
      ·have hf:x.a=false:=by simpa [Zdr,hk6] using hc
       simp only[Zdc,if_neg hk6]at hs⊢;simp only[orC]at hg hge hs;simp only[mdC,evR]at hS h41⊢;unfold m35
       repeat' with_reducible (first|refine ZR.h ?_|refine zI ?_|(refine zK hE ?_;intro K hK;simp[hT,hC,hl,h41,hg,hge,hil,hi0,hk6,hf,hs];(repeat' (first|refine hK _ _ ?_|apply And.intro|(intro hc;try subst hc)))<;>(try clear hK K))|(refine zJ (fun hc=>?_) (fun hc=>?_)<;>simp at hc<;>(try subst hc)))
       all_goals first|(simp;done)|(simp at *;omega)|((try simp[hT,hC,hl,hs,ZP,ZO]);refine Imp.aut ?_ ?_<;>simp[NLe,hT,hC,hl,hs,ZP,ZO])
     ·cases h
    ·cases h
   ·cases h
  ·cases h
 ·cases h
def yE (e:EvZ) (x:OrZ):OrZ:={ x with e:=if e.k=3 then 6 else if e.k=5 then 7 else e.e }
def Zcz (F:Int) (e:EvZ) (x:OrZ):Bool :=
 (decide (e.k=3)&&decide (UP F x=0)&&!x.a) || (decide (e.k=5)&&decide (UP F x=0)&&!x.a&&decide (x.t.un≤e.tk)) || (decide (e.k=7)&&((decide (UP F x=0)&&x.a&&decide (e.e=6)) || (!decide (UP F x=0)&&decide (UP F x=e.e))))
def d34:List AV→Option Ans
 | [.op _ mc,.agg ec]=>(match zE mc,YO ec with
  | some M,some e=>(match ZC e.c e.g M.os with
   | some i=>(match M.os[i]? with
    | some x=>if M.os.length≤100000∧x.e=0∧Zcz M.f e x=true then some ⟨.raw .nilIface,[.cells 0 (mdC { M with os:=M.os.set i (yE e x) })]⟩ else none
    | none=>none)
   | none=>none)
  | _,_=>none)
 | _=>none
theorem ok34:NOk [(9,true)] d34:=by
 intro xs aa h;unfold d34 at h;split at h
 ·split at h
  ·rename_i M e hm he
   obtain rfl:=ZA hm;obtain rfl:=ZD he
   (repeat' (split at h))<;>first|(cases h;done)|(injection h with h;subst h;refine ⟨Zz ?_,?_⟩<;>simp[Vv,Vt,evR])
  ·cases h
 ·cases h
theorem s34:Sound Try.prog 34 (Zw [(9,true)] d34 ok34):=by
 refine Zm C34.a C34.b C34.c C34.d ok34 (fun xs a h=>?_) fun xs a h w0 S hS=>?_
 ·unfold d34 at h
  (repeat' (split at h))<;>first|(cases h;done)|exact Nat.le_of_ble_eq_true rfl
 unfold d34 at h;split at h
 ·rename_i u mc ec
  split at h
  ·rename_i M e hM he
   obtain rfl:=ZA hM;obtain rfl:=ZD he;clear hM he;split at h
   ·rename_i i hi
    split at h
    ·rename_i x hx
     split at h
     ·rename_i hcond
      injection h with h;subst h;obtain ⟨hn,h0,hc⟩:=hcond;have hE:Zd Try.prog (EL [(41,Zw [(9,false)] d41 ok41),(43,Zw [(9,false)] d43 ok43)]):=Zf (by simp only[List.mem_cons,List.not_mem_nil,or_false,forall_eq_or_imp,forall_eq];exact ⟨s41,s43⟩);have hT:=ZP M.os;have hC:=ZO M.os;have hl:=Yk M.os;have h41:∀ u,d41 [.op u (mdC M),.int .i64 e.c,.int .i64 e.g]=some ⟨.tup [.int .i64 (i:Int),.raw .nilIface],[.free]⟩:=fun u=>by
       simp only[d41,Yh,hi,hx];rw[if_pos ⟨hn,h0⟩]
      have hg:=VY hx;have hge:∀ hk,(YZ M.os)[i]'hk=orC x:=fun hk=>by rw[List.getElem?_eq_getElem hk]at hg;exact Option.some.inj hg
      have hil:i<M.os.length:=(List.getElem?_eq_some_iff.1 hx).1;have hi0:¬ ((i:Int)<0):=(by omega);have hs:=Zac M.os i (yE e x);have h43:∀ u,d43 [.op u (mdC M),.agg (orC x)]=some ⟨.int .i64 (UP M.f x),[.free]⟩:=fun u=>by
       simp only[d43,Yh,XM]
      have hc2:(e.k=3∧UP M.f x=0∧x.a=false)∨(e.k=5∧UP M.f x=0∧x.a=false∧x.t.un≤e.tk)∨(e.k=7∧UP M.f x=0∧x.a=true∧e.e=6)∨(e.k=7∧UP M.f x≠0∧UP M.f x=e.e):=by
       simp only[Zcz,Bool.or_eq_true,Bool.and_eq_true,decide_eq_true_eq,Bool.not_eq_true',decide_eq_false_iff_not]at hc;rcases hc with (⟨⟨a1,a2⟩,a3⟩ | ⟨⟨⟨a1,a2⟩,a3⟩,a4⟩)|⟨a1,⟨⟨a2,a3⟩,a4⟩ | ⟨a2,a3⟩⟩
       ·exact .inl ⟨a1,a2,a3⟩
       ·exact .inr (.inl ⟨a1,a2,a3,a4⟩)
       ·exact .inr (.inr (.inl ⟨a1,a2,a3,a4⟩))
       ·exact .inr (.inr (.inr ⟨a1,a2,a3⟩))
      rcases hc2 with ⟨hk,ho,ha⟩ | ⟨hk,ho,ha,ht⟩ | ⟨hk,ho,ha,h6⟩ | ⟨hk,ho,h6⟩
      ·rw[ho]at h43
       have hz:yE e x={ x with e:=6 }:=(by simp[yE,hk]);rw[hz]at hs⊢;simp only[orC]at hg hge hs h43;simp only[ha]at h43 hg hge hs;simp only[mdC,evR,hk]at hS h41 h43 hs⊢;unfold m34
       repeat' with_reducible (first|refine ZR.h ?_|refine zI ?_|((first|refine zK hE ?_|refine zM hE ?_);intro K hK;simp[hT,hC,hl,h41,h43,hg,hge,hil,hi0,hs,hk,ha];(repeat' (first|refine hK _ _ ?_|apply And.intro|(intro hc;try subst hc)))<;>(try clear hK K))|(refine zJ (fun hc=>?_) (fun hc=>?_)<;>simp at hc<;>(try subst hc)))
       all_goals first|(simp;done)|(simp at *;omega)|((try simp[hT,hC,hl,hs,ZP,ZO,ha]);refine Imp.aut ?_ ?_<;>simp[NLe,hT,hC,hl,hs,ZP,ZO,ha])
      ·rw[ho]at h43
       have ht2:¬ (e.tk<x.t.un):=(by omega);have hz:yE e x={ x with e:=7 }:=(by simp[yE,hk]);rw[hz]at hs⊢;simp only[orC]at hg hge hs h43;simp only[ha]at h43 hg hge hs;simp only[mdC,evR,hk]at hS h41 h43 hs⊢;unfold m34
       repeat' with_reducible (first|refine ZR.h ?_|refine zI ?_|((first|refine zK hE ?_|refine zM hE ?_);intro K hK;simp[hT,hC,hl,h41,h43,hg,hge,hil,hi0,hs,hk,ha,ht2,ht];(repeat' (first|refine hK _ _ ?_|apply And.intro|(intro hc;try subst hc)))<;>(try clear hK K))|(refine zJ (fun hc=>?_) (fun hc=>?_)<;>simp at hc<;>(try subst hc)))
       all_goals first|(simp;done)|(simp at *;omega)|((try simp[hT,hC,hl,hs,ZP,ZO,ha]);refine Imp.aut ?_ ?_<;>simp[NLe,hT,hC,hl,hs,ZP,ZO,ha])
      ·rw[ho]at h43
       have hz:yE e x={ x with e:=6 }:=(by simp[yE,hk,h6]);rw[hz]at hs⊢;simp only[orC]at hg hge hs h43;simp only[ha]at h43 hg hge hs;simp only[mdC,evR,hk]at hS h41 h43 hs⊢;unfold m34
       repeat' with_reducible (first|refine ZR.h ?_|refine zI ?_|((first|refine zK hE ?_|refine zM hE ?_);intro K hK;simp[hT,hC,hl,h41,h43,hg,hge,hil,hi0,hs,hk,ha,h6];(repeat' (first|refine hK _ _ ?_|apply And.intro|(intro hc;try subst hc)))<;>(try clear hK K))|(refine zJ (fun hc=>?_) (fun hc=>?_)<;>simp at hc<;>(try subst hc)))
       all_goals first|(simp;done)|(simp at *;omega)|((try simp[hT,hC,hl,hs,ZP,ZO,ha]);refine Imp.aut ?_ ?_<;>simp[NLe,hT,hC,hl,hs,ZP,ZO,ha])
      ·rw[h6]at h43 ho
       have hz:yE e x={ x with e:=e.e }:=(by simp[yE,hk]);rw[hz]at hs⊢;simp only[orC]at hg hge hs h43;simp only[mdC,evR,hk]at hS h41 h43 hs⊢;unfold m34
       repeat' with_reducible (first|refine ZR.h ?_|refine zI ?_|((first|refine zK hE ?_|refine zM hE ?_);intro K hK;simp[hT,hC,hl,h41,h43,hg,hge,hil,hi0,hs,hk,ho];(repeat' (first|refine hK _ _ ?_|apply And.intro|(intro hc;try subst hc)))<;>(try clear hK K))|(refine zJ (fun hc=>?_) (fun hc=>?_)<;>simp at hc<;>(try subst hc)))
       all_goals first|(simp;done)|(simp at *;omega)|((try simp[hT,hC,hl,hs,ZP,ZO]);refine Imp.aut ?_ ?_<;>simp[NLe,hT,hC,hl,hs,ZP,ZO])
     ·cases h
    ·cases h
   ·cases h
  ·cases h
 ·cases h
def Zdv (F:Int) (y:OrZ):OrZ:={ y with e:=UP F y }
def filK (M:MdZ) (x y:OrZ) (e:EvZ):Bool:=decide (VA M.a M.b M.c M.d M.e M.f M.g=true∧Xw M.a M.b x.c≠Xw M.a M.b y.c∧UP M.f x=0∧UP M.f y=0∧y.a=false∧(0≤x.t.pr∧x.t.pr≤1000000∧0≤y.t.pr∧y.t.pr≤1000000)∧(Zb x.t y.t x.l y.l).1=e.q∧(Zb x.t y.t x.l y.l).2=e.p∧e.q≠0∧x.l≤1000000∧y.l≤1000000∧0≤x.f∧0≤y.f∧x.f≤1000∧y.f≤1000)
def d33:List AV→Option Ans
 | [.op _ mc,.agg ec]=>(match zE mc,YO ec with
  | some M,some e=>(match ZC e.c e.g M.os,ZC e.o e.w M.os with
   | some i,some j=>(match M.os[i]?,M.os[j]? with
    | some x,some y=>if M.os.length≤100000∧x.e=0∧y.e=0∧filK M x y e=true then some ⟨.raw .nilIface,[.cells 0 (mdC { M with os:=(M.os.set i (Zt x e.q)).set j (Zdv M.f (Zt y e.q)) })]⟩ else none
    | _,_=>none)
   | _,_=>none)
  | _,_=>none)
 | _=>none
theorem ok33:NOk [(9,true)] d33:=by
 intro xs aa h;unfold d33 at h;split at h
 ·split at h
  ·rename_i M e hm he
   obtain rfl:=ZA hm;obtain rfl:=ZD he
   (repeat' (split at h))<;>first|(cases h;done)|(injection h with h;subst h;refine ⟨Zz ?_,?_⟩<;>simp[Vv,Vt,evR])
  ·cases h
 ·cases h
theorem xj {L:List OrZ} {k:Nat} {x:OrZ} (h:L[k]?=some x):(YZ L)[k]?=some (orC x)∧∀ hk,(YZ L)[k]'hk=orC x:=by
 have hg:=VY h;exact ⟨hg,fun hk=>by rw[List.getElem?_eq_getElem hk]at hg;exact Option.some.inj hg⟩
theorem UM {L:List OrZ} {k:Nat} {x:OrZ} (h:L[k]?=some x) (x1:OrZ):∃ L1,L1=L.set k x1∧(YZ L).set k (orC x1)=YZ L1∧L1.length=L.length∧L1[k]?=some x1∧∀ k2,k2≠k→L1[k2]?=L[k2]?:=by
 have hk:=(List.getElem?_eq_some_iff.1 h).1;refine ⟨_,rfl,Zac L k x1,List.length_set ..,?_,fun k2 h2=>?_⟩
 ·rw[List.getElem?_set_self hk]
 ·rw[List.getElem?_set_ne (fun e=>h2 e.symm)]
theorem s33:Sound Try.prog 33 (Zw [(9,true)] d33 ok33):=by
 refine Zm C33.a C33.b C33.c C33.d ok33 (fun xs a h=>?_) fun xs a h w0 S hS=>?_
 ·unfold d33 at h
  (repeat' (split at h))<;>first|(cases h;done)|exact Nat.le_of_ble_eq_true rfl
 unfold d33 at h;split at h
 ·rename_i u mc ec
  split at h
  ·rename_i M e hM he
   obtain rfl:=ZA hM;obtain rfl:=ZD he;clear hM he;split at h
   ·rename_i i j hi hj
    split at h
    ·rename_i x y hx hy
     split at h
     ·rename_i hcond
      injection h with h;subst h;obtain ⟨hn,hx0,hy0,hc⟩:=hcond;obtain ⟨hcfg,hown,hox,hoy,hya,⟨hx1,hx2,hy1,hy2⟩,hq,hp,hq0,hxl,hyl,hxf,hyf,hxf1,hyf1⟩:=of_decide_eq_true hc;obtain ⟨hq1,hq2,hq3⟩:=zB (a:=x.t) (b:=y.t) (l:=x.l) (o:=y.l) (by rw[hq];exact hq0);rw[hq]at hq1 hq2 hq3;have hE:Zd Try.prog (EL [(37,rdS d37 ok37),(41,Zw [(9,false)] d41 ok41),(42,rdS d42 ok42),(43,Zw [(9,false)] d43 ok43),(44,rdS d44 ok44)]):=Zf (by simp only[List.mem_cons,List.not_mem_nil,or_false,forall_eq_or_imp,forall_eq];exact ⟨s37,s41,s42,s43,s44⟩);have hij:j≠i:=fun q=>by
       subst q;rw[hx]at hy;injection hy with hy;subst hy;exact hown rfl
      obtain ⟨a,b,c,d,e1,f,g,os0,now⟩:=M;simp only at hi hj hx hy hn hcfg hown hox hoy⊢;have hil:i<os0.length:=(List.getElem?_eq_some_iff.1 hx).1;have hjl:j<os0.length:=(List.getElem?_eq_some_iff.1 hy).1;have hi0:¬ ((i:Int)<0):=(by omega);have hj0:¬ ((j:Int)<0):=(by omega);obtain ⟨os1,e1q,hs1,hl1,hx1q,hn1⟩:=UM hx { x with l:=x.l - e.q };obtain ⟨os2,e2q,hs2,hl2,hx2q,hn2⟩:=UM hx1q { x with l:=x.l - e.q,f:=x.f+1 };have hy2q:os2[j]?=some y:=(by rw[hn2 j hij,hn1 j hij];exact hy);obtain ⟨os3,e3q,hs3,hl3,hy3q,hn3⟩:=UM hy2q { y with l:=y.l - e.q };obtain ⟨os4,e4q,hs4,hl4,hy4q,hn4⟩:=UM hy3q { y with l:=y.l - e.q,f:=y.f+1 };obtain ⟨os5,e5q,hs5,hl5,hy5q,hn5⟩:=UM hy4q (Zdv f { y with l:=y.l - e.q,f:=y.f+1 });have hfin:(os0.set i (Zt x e.q)).set j (Zdv f (Zt y e.q))=os5:=by
       rw[e5q,e4q,e3q,e2q,e1q];simp only[List.set_set,Zt]
      rw[hfin];have h41a:∀ u,d41 [.op u (mdC ⟨a,b,c,d,e1,f,g,os0,now⟩),.int .i64 e.c,.int .i64 e.g]=some ⟨.tup [.int .i64 (i:Int),.raw .nilIface],[.free]⟩:=fun u=>by
       simp only[d41,Yh,hi,hx];rw[if_pos ⟨hn,hx0⟩]
      have h41b:∀ u,d41 [.op u (mdC ⟨a,b,c,d,e1,f,g,os0,now⟩),.int .i64 e.o,.int .i64 e.w]=some ⟨.tup [.int .i64 (j:Int),.raw .nilIface],[.free]⟩:=fun u=>by
       simp only[d41,Yh,hj,hy];rw[if_pos ⟨hn,hy0⟩]
      have h43a:∀ u,d43 [.op u (mdC ⟨a,b,c,d,e1,f,g,os0,now⟩),.agg (orC x)]=some ⟨.int .i64 0,[.free]⟩:=fun u=>by
       simp only[d43,Yh,XM,hox]
      have h43b:∀ u,d43 [.op u (mdC ⟨a,b,c,d,e1,f,g,os0,now⟩),.agg (orC y)]=some ⟨.int .i64 0,[.free]⟩:=fun u=>by
       simp only[d43,Yh,XM,hoy]
      obtain ⟨z,hz⟩:∃ z,UP f { y with l:=y.l - e.q,f:=y.f+1 }=z:=⟨_,rfl⟩;have h43c:∀ u,d43 [.op u (mdC ⟨a,b,c,d,e1,f,g,os4,now⟩),.agg (orC { y with l:=y.l - e.q,f:=y.f+1 })]=some ⟨.int .i64 z,[.free]⟩:=fun u=>by
       simp only[d43,Yh,XM,hz]
      have h37a:d37 [.agg [.int .i64 a,.int .i64 b,.int .i64 c,.int .i64 d,.int .i64 e1,.int .i64 f,.int .i64 g],.int .i64 x.c] []=some (.int .i64 (Xw a b x.c)):=(by simp only[d37];rw[if_pos hcfg]);have h37b:d37 [.agg [.int .i64 a,.int .i64 b,.int .i64 c,.int .i64 d,.int .i64 e1,.int .i64 f,.int .i64 g],.int .i64 y.c] []=some (.int .i64 (Xw a b y.c)):=(by simp only[d37];rw[if_pos hcfg]);have h44:d44 [.agg [.int .i64 x.t.nm,.int .i64 x.t.sd,.int .i64 x.t.pr,.int .i64 x.t.le,.int .i64 x.t.un],.agg [.int .i64 y.t.nm,.int .i64 y.t.sd,.int .i64 y.t.pr,.int .i64 y.t.le,.int .i64 y.t.un],.int .i64 x.l,.int .i64 y.l] []=some (.agg [.int .i64 e.q,.int .i64 e.p]):=by
       simp only[d44];rw[if_pos ⟨hx1,hx2,hy1,hy2⟩];show some (AV.agg [.int .i64 (Zb x.t y.t x.l y.l).1,.int .i64 (Zb x.t y.t x.l y.l).2])=_;rw[hq,hp]
      have hl0:=Yk os0;have hm1:=(Yk os1).trans hl1;have hm2:=(Yk os2).trans (hl2.trans hl1);have hm3:=(Yk os3).trans (hl3.trans (hl2.trans hl1));have hm4:=(Yk os4).trans (hl4.trans (hl3.trans (hl2.trans hl1)));have hm5:=(Yk os5).trans (hl5.trans (hl4.trans (hl3.trans (hl2.trans hl1))));obtain ⟨ha0,hae0⟩:=xj hx;obtain ⟨hb0,hbe0⟩:=xj hy;obtain ⟨ha1,hae1⟩:=xj hx1q;obtain ⟨hb2,hbe2⟩:=xj hy2q;obtain ⟨hb3,hbe3⟩:=xj hy3q;obtain ⟨hb4,hbe4⟩:=xj hy4q;have w1:IntKind.wrap .i64 (x.l - e.q)=x.l - e.q:=Zh (by omega) (by omega);have w2:IntKind.wrap .i64 (x.f+1)=x.f+1:=Zh (by omega) (by omega);have w3:IntKind.wrap .i64 (y.l - e.q)=y.l - e.q:=Zh (by omega) (by omega);have w4:IntKind.wrap .i64 (y.f+1)=y.f+1:=Zh (by omega) (by omega);clear hl1 hl2 hl3 hl4 hl5 e1q e2q e3q e4q e5q hn1 hn2 hn3 hn4 hn5 hfin hx hy hx1q hx2q hy2q hy3q hy4q hy5q;have hT0:=ZP os0;have hC0:=ZO os0;have hT1:=ZP os1;have hC1:=ZO os1;have hT2:=ZP os2;have hC2:=ZO os2;have hT3:=ZP os3;have hC3:=ZO os3;have hT4:=ZP os4;have hC4:=ZO os4;have hT5:=ZP os5;have hC5:=ZO os5;simp only[orC,Zdv,hz]at ha0 hae0 hb0 hbe0 ha1 hae1 hb2 hbe2 hb3 hbe3 hb4 hbe4 hs1 hs2 hs3 hs4 hs5 h43a h43b h43c;simp only[hya]at ha0 hae0 hb0 hbe0 ha1 hae1 hb2 hbe2 hb3 hbe3 hb4 hbe4 hs1 hs2 hs3 hs4 hs5 h43a h43b h43c;clear hz;simp only[mdC,evR]at hS h41a h41b h43a h43b h43c⊢;unfold m33
      repeat' with_reducible (first|refine ZR.h ?_|refine zI ?_|((first|refine zK hE ?_|refine zM hE ?_);intro K hK;simp[hT0,hC0,hl0,hT1,hC1,hm1,hT2,hC2,hm2,hT3,hC3,hm3,hT4,hC4,hm4,hT5,hC5,hm5,ha0,hae0,hb0,hbe0,ha1,hae1,hb2,hbe2,hb3,hbe3,hb4,hbe4,hs1,hs2,hs3,hs4,hs5,h41a,h41b,d42,h43a,h43b,h43c,h44,h37a,h37b,hil,hjl,hi0,hj0,hij,hown,hq0,w1,w2,w3,w4];(repeat' (first|refine hK _ _ ?_|apply And.intro|(intro hc;try subst hc)))<;>(try clear hK K))|(refine zJ (fun hc=>?_) (fun hc=>?_)<;>simp at hc<;>(try subst hc)))
      all_goals refine Yg 3 ?_
      repeat' with_reducible (first|refine ZR.h ?_|refine zI ?_|((first|refine zK hE ?_|refine zM hE ?_);intro K hK;simp[Zh,hT0,hC0,hl0,hT1,hC1,hm1,hT2,hC2,hm2,hT3,hC3,hm3,hT4,hC4,hm4,hT5,hC5,hm5,ha0,hae0,hb0,hbe0,ha1,hae1,hb2,hbe2,hb3,hbe3,hb4,hbe4,hs1,hs2,hs3,hs4,hs5,h43c,hil,hjl,hi0,hj0,hij,w1,w2,w3,w4];(repeat' (first|refine hK _ _ ?_|apply And.intro|(intro hc;try subst hc)))<;>(try clear hK K))|(refine zJ (fun hc=>?_) (fun hc=>?_)<;>simp at hc<;>(try subst hc)))
      all_goals first|(simp;done)|(simp at *;omega)|((try simp[hT0,hC0,hl0,hT1,hC1,hm1,hT2,hC2,hm2,hT3,hC3,hm3,hT4,hC4,hm4,hT5,hC5,hm5,hs5,ZP,ZO]);refine Imp.aut ?_ ?_<;>simp[NLe,hT0,hC0,hl0,hT1,hC1,hm1,hT2,hC2,hm2,hT3,hC3,hm3,hT4,hC4,hm4,hT5,hC5,hm5,hs5,ZP,ZO])
     ·cases h
    ·cases h
   ·cases h
  ·cases h
 ·cases h
def Zd6 (c:Int) (os:List OrZ):Option Int:=match X3 c os with
 | none=>some 0
 | some i=>(match os[i]? with
  | some x=>if x.e=0 then none else some x.g
  | none=>none)
def d32:List AV→Option Ans
 | [.op _ mc,.agg ec]=>(match zE mc,YO ec with
  | some M,some e=>(match Zd6 e.c M.os with
   | some G=>if M.os.length≤100000∧VA M.a M.b M.c M.d M.e M.f M.g=true∧0≤Xw M.a M.b e.c∧G<M.g∧e.g=G+1∧0≤G∧ZL M.c e.t e.q 0=0 then some ⟨.raw .nilIface,[.cells 0 (mdC { M with os:=M.os++[U0 e] })]⟩ else none
   | none=>none)
  | _,_=>none)
 | _=>none
theorem ok32:NOk [(9,true)] d32:=by
 intro xs aa h;unfold d32 at h;split at h
 ·split at h
  ·rename_i M e hm he
   obtain rfl:=ZA hm;obtain rfl:=ZD he
   (repeat' (split at h))<;>first|(cases h;done)|(injection h with h;subst h;refine ⟨Zz ?_,?_⟩<;>simp[Vv,Vt,evR])
  ·cases h
 ·cases h
theorem s32:Sound Try.prog 32 (Zw [(9,true)] d32 ok32):=by
 refine Zm C32.a C32.b C32.c C32.d ok32 (fun xs a h=>?_) fun xs a h w0 S hS=>?_
 ·unfold d32 at h
  (repeat' (split at h))<;>first|(cases h;done)|exact Nat.le_of_ble_eq_true rfl
 unfold d32 at h;split at h
 ·rename_i u mc ec
  split at h
  ·rename_i M e hM he
   obtain rfl:=ZA hM;obtain rfl:=ZD he;clear hM he;split at h
   ·rename_i G hG
    split at h
    ·rename_i hcond
     injection h with h;subst h;obtain ⟨hn,hcfg,hown,hGg,hge1,hG0,hchk⟩:=hcond;have hE:Zd Try.prog (EL [(37,rdS d37 ok37),(39,Zw [(9,false)] d39 ok39),(40,rdS d40 ok40)]):=Zf (by simp only[List.mem_cons,List.not_mem_nil,or_false,forall_eq_or_imp,forall_eq];exact ⟨s37,s39,s40⟩);have h39:∀ u,d39 [.op u (mdC M),.int .i64 e.c]=some ⟨.int .i64 (zF (X3 e.c M.os)),[.free]⟩:=fun u=>by
      simp only[d39,Yh];rw[if_pos hn]
     obtain ⟨a,b,c,d,e1,f,g,os,now⟩:=M;simp only at hG hn hcfg hown hGg hchk h39⊢;have hg15:=(YF hcfg).2.2.2.2.2.2.2.2.2.2.2.2.2;have hT:=ZP os;have hC:=ZO os;have hl:=Yk os;have hs:=ZdR os (U0 e);obtain ⟨os2,hq⟩:∃ o,o=os++[U0 e]:=⟨_,rfl⟩;have hl2:(YZ os2).length=os.length+1:=(by rw[hq,Yk,List.length_append];rfl);rw[← hq]at hs⊢;have hT2:=ZP os2;have hC2:=ZO os2;clear hq;have hlt:os.length+1≤100001:=(by omega);have h37:d37 [.agg [.int .i64 a,.int .i64 b,.int .i64 c,.int .i64 d,.int .i64 e1,.int .i64 f,.int .i64 g],.int .i64 e.c] []=some (.int .i64 (Xw a b e.c)):=(by simp only[d37];rw[if_pos hcfg]);have hown2:¬ (Xw a b e.c<0):=(by omega);have h40:d40 [.agg [.int .i64 a,.int .i64 b,.int .i64 c,.int .i64 d,.int .i64 e1,.int .i64 f,.int .i64 g],.agg [.int .i64 e.t.nm,.int .i64 e.t.sd,.int .i64 e.t.pr,.int .i64 e.t.le,.int .i64 e.t.un],.int .i64 e.q,.int .i64 0] []=some (.raw .nilIface):=by
      simp only[d40];exact if_pos hchk
     have hw:IntKind.wrap .i64 (G+1)=G+1:=Zh (by omega) (by omega);have hGg2:¬ (g≤G):=(by omega);unfold Zd6 at hG;cases hi:X3 e.c os with
     | none =>
      rw[hi]at hG h39;injection hG with hG;subst hG;simp only[zF]at h39;simp only[Int.zero_add]at hw hge1;simp only[U0,orC,hge1]at hs;simp only[mdC,evR]at hS h39⊢;unfold m32
      repeat' with_reducible (first|refine ZR.h ?_|refine zI ?_|((first|refine zK hE ?_|refine zM hE ?_);intro K hK;simp[ZdO,hT,hC,hl,h37,h39,h40,hown2,hw,hGg2,hge1,hs];(repeat' (first|refine hK _ _ ?_|apply And.intro|(intro hc;try subst hc)))<;>(try clear hK K))|(refine zJ (fun hc=>?_) (fun hc=>?_)<;>simp at hc<;>(try subst hc)))
      all_goals first|(simp;done)|(simp at *;omega)|skip
      all_goals ((try simp);refine Imp.trans (Imp.absorb (.top 0) 0 7 497 (by rfl) (by rfl) (by rfl) (.inl ⟨0,13,YZ os2,by simp[hl2],by rfl⟩) (by simp)) ?_)
      all_goals (refine Imp.aut ?_ ?_<;>simp[NLe,Zg,hT,hC,hl,hT2,hC2,hl2,Z5,Zx])
     | some i =>
      rw[hi]at hG h39;simp only[zF]at h39 hG;split at hG
      ·rename_i x hx
       split at hG
       ·cases hG
       ·rename_i hxe
        injection hG with hG;subst hG;have hg:=VY hx;have hgt:∀ hk,(YZ os)[i]'hk=orC x:=fun hk=>by rw[List.getElem?_eq_getElem hk]at hg;exact Option.some.inj hg
        have hil:i<os.length:=(List.getElem?_eq_some_iff.1 hx).1;have hi0:¬ ((i:Int)<0):=(by omega);have hi1:(0:Int)≤(i:Int):=(by omega);simp only[U0,orC,hge1]at hs hg hgt;simp only[mdC,evR]at hS h39⊢;unfold m32
        repeat' with_reducible (first|refine ZR.h ?_|refine zI ?_|((first|refine zK hE ?_|refine zM hE ?_);intro K hK;simp[ZdO,hT,hC,hl,h37,h39,h40,hown2,hw,hGg2,hge1,hs,hg,hgt,hil,hi0,hi1,hxe];(repeat' (first|refine hK _ _ ?_|apply And.intro|(intro hc;try subst hc)))<;>(try clear hK K))|(refine zJ (fun hc=>?_) (fun hc=>?_)<;>simp at hc<;>(try subst hc)))
        all_goals first|(simp;done)|(simp at *;omega)|skip
        all_goals ((try simp);refine Imp.trans (Imp.absorb (.top 0) 0 7 641 (by rfl) (by rfl) (by rfl) (.inl ⟨0,13,YZ os2,by simp[hl2],by rfl⟩) (by simp)) ?_)
        all_goals (refine Imp.aut ?_ ?_<;>simp[NLe,Zg,hT,hC,hl,hT2,hC2,hl2,Z5,Zx])
      ·cases hG
    ·cases h
   ·cases h
  ·cases h
 ·cases h
def subX (M:MdZ) (e:EvZ):Option (List OrZ):=match Zd6 e.c M.os with
 | some G=>if M.os.length≤100000∧VA M.a M.b M.c M.d M.e M.f M.g=true∧0≤Xw M.a M.b e.c∧G<M.g∧e.g=G+1∧0≤G∧ZL M.c e.t e.q 0=0 then some (M.os++[U0 e]) else none
 | none=>none
def filX (M:MdZ) (e:EvZ):Option (List OrZ):=match ZC e.c e.g M.os,ZC e.o e.w M.os with
 | some i,some j=>(match M.os[i]?,M.os[j]? with
  | some x,some y=>if M.os.length≤100000∧x.e=0∧y.e=0∧filK M x y e=true then some ((M.os.set i (Zt x e.q)).set j (Zdv M.f (Zt y e.q))) else none
  | _,_=>none)
 | _,_=>none
def Zb2 (M:MdZ) (e:EvZ):Option (List OrZ):=match ZC e.c e.g M.os with
 | some i=>(match M.os[i]? with
  | some x=>if M.os.length≤100000∧x.e=0∧Zcz M.f e x=true then some (M.os.set i (yE e x)) else none
  | none=>none)
 | none=>none
def Zdt (M:MdZ) (e:EvZ):Option (List OrZ):=match ZC e.c e.g M.os with
 | some i=>(match M.os[i]? with
  | some x=>if M.os.length≤100000∧x.e=0∧Zdr e x=true then some (M.os.set i (Zdc e x)) else none
  | none=>none)
 | none=>none
def doX (M:MdZ) (e:EvZ):Option (List OrZ):=if e.k=1 then subX M e else if e.k=2 then filX M e else if e.k=3 then Zb2 M e else if e.k=5 then Zb2 M e else if e.k=7 then Zb2 M e else if e.k=4 then Zdt M e else if e.k=6 then Zdt M e else none
theorem x32 {M:MdZ} {e:EvZ} {os2:List OrZ} (h:subX M e=some os2) (u:Nat):d32 [.op u (mdC M),.agg (evR e)]=some ⟨.raw .nilIface,[.cells 0 (mdC { M with os:=os2 })]⟩:=by
 unfold subX at h;simp only[d32,Yh,Yb]
 (repeat' (split at h))<;>first|(cases h;done)|(injection h with h;subst h;simp only[*];first|rfl|exact if_pos ‹_› | simp_all)
theorem x33 {M:MdZ} {e:EvZ} {os2:List OrZ} (h:filX M e=some os2) (u:Nat):d33 [.op u (mdC M),.agg (evR e)]=some ⟨.raw .nilIface,[.cells 0 (mdC { M with os:=os2 })]⟩:=by
 unfold filX at h;simp only[d33,Yh,Yb]
 (repeat' (split at h))<;>first|(cases h;done)|(injection h with h;subst h;simp only[*];first|rfl|exact if_pos ‹_› | simp_all)
theorem x34 {M:MdZ} {e:EvZ} {os2:List OrZ} (h:Zb2 M e=some os2) (u:Nat):d34 [.op u (mdC M),.agg (evR e)]=some ⟨.raw .nilIface,[.cells 0 (mdC { M with os:=os2 })]⟩:=by
 unfold Zb2 at h;simp only[d34,Yh,Yb]
 (repeat' (split at h))<;>first|(cases h;done)|(injection h with h;subst h;simp only[*];first|rfl|exact if_pos ‹_› | simp_all)
theorem x35 {M:MdZ} {e:EvZ} {os2:List OrZ} (h:Zdt M e=some os2) (u:Nat):d35 [.op u (mdC M),.agg (evR e)]=some ⟨.raw .nilIface,[.cells 0 (mdC { M with os:=os2 })]⟩:=by
 unfold Zdt at h;simp only[d35,Yh,Yb]
 (repeat' (split at h))<;>first|(cases h;done)|(injection h with h;subst h;simp only[*];first|rfl|exact if_pos ‹_› | simp_all)
def d21:List AV→Option Ans
 | [.op _ mc,.agg ec]=>(match zE mc,YO ec with
  | some M,some e=>(match doX M e with
   | some os2=>if M.now≤e.tk then some ⟨.raw .nilIface,[.cells 0 (mdC { M with os:=os2,now:=e.tk })]⟩ else none
   | none=>none)
  | _,_=>none)
 | _=>none
theorem ok21:NOk [(9,true)] d21:=by
 intro xs aa h;unfold d21 at h;split at h
 ·split at h
  ·rename_i M e hm he
   obtain rfl:=ZA hm;obtain rfl:=ZD he
   (repeat' (split at h))<;>first|(cases h;done)|(injection h with h;subst h;refine ⟨Zz ?_,?_⟩<;>simp[Vv,Vt,evR])
  ·cases h
 ·cases h
theorem s21:Sound Try.prog 21 (Zw [(9,true)] d21 ok21):=by
 refine Zm C21.a C21.b C21.c C21.d ok21 (fun xs a h=>?_) fun xs a h w0 S hS=>?_
 ·unfold d21 at h
  (repeat' (split at h))<;>first|(cases h;done)|exact Nat.le_of_ble_eq_true rfl
 unfold d21 at h;split at h
 ·rename_i u mc ec
  split at h
  ·rename_i M e hM he
   obtain rfl:=ZA hM;obtain rfl:=ZD he;clear hM he;split at h
   ·rename_i os2 hX
    split at h
    ·rename_i hnow
     injection h with h;subst h;have hE:Zd Try.prog (EL [(32,Zw [(9,true)] d32 ok32),(33,Zw [(9,true)] d33 ok33),(34,Zw [(9,true)] d34 ok34),(35,Zw [(9,true)] d35 ok35)]):=Zf (by simp only[List.mem_cons,List.not_mem_nil,or_false,forall_eq_or_imp,forall_eq];exact ⟨s32,s33,s34,s35⟩);have hT:=ZP M.os;have hC:=ZO M.os;have hl:=Yk M.os;have hT2:=ZP os2;have hC2:=ZO os2;have hnow2:¬ (e.tk<M.now):=(by omega);unfold doX at hX;by_cases k1:e.k=1
     ·rw[if_pos k1]at hX
      have hx:=x32 hX;clear hX;simp only[mdC,evR,k1]at hS hx⊢;unfold m21
      repeat' with_reducible (first|refine ZR.h ?_|refine zI ?_|((first|refine zK hE ?_|refine zM hE ?_);intro K hK;simp[hT,hC,hl,hx,hnow2,k1];(repeat' (first|refine hK _ _ ?_|apply And.intro|(intro hc;try subst hc)))<;>(try clear hK K))|(refine zJ (fun hc=>?_) (fun hc=>?_)<;>simp at hc<;>(try subst hc)))
      all_goals first|(simp;done)|(simp at *;omega)|((try simp[hT,hC,hl,hT2,hC2]);refine Imp.aut ?_ ?_<;>simp[NLe,hT,hC,hl,hT2,hC2])
     rw[if_neg k1]at hX;by_cases k2:e.k=2
     ·rw[if_pos k2]at hX
      have hx:=x33 hX;clear hX;simp only[mdC,evR,k2]at hS hx⊢;unfold m21
      repeat' with_reducible (first|refine ZR.h ?_|refine zI ?_|((first|refine zK hE ?_|refine zM hE ?_);intro K hK;simp[hT,hC,hl,hx,hnow2,k2];(repeat' (first|refine hK _ _ ?_|apply And.intro|(intro hc;try subst hc)))<;>(try clear hK K))|(refine zJ (fun hc=>?_) (fun hc=>?_)<;>simp at hc<;>(try subst hc)))
      all_goals first|(simp;done)|(simp at *;omega)|((try simp[hT,hC,hl,hT2,hC2]);refine Imp.aut ?_ ?_<;>simp[NLe,hT,hC,hl,hT2,hC2])
     rw[if_neg k2]at hX;by_cases k3:e.k=3
     ·rw[if_pos k3]at hX
      have hx:=x34 hX;clear hX;simp only[mdC,evR,k3]at hS hx⊢;unfold m21
      repeat' with_reducible (first|refine ZR.h ?_|refine zI ?_|((first|refine zK hE ?_|refine zM hE ?_);intro K hK;simp[hT,hC,hl,hx,hnow2,k3];(repeat' (first|refine hK _ _ ?_|apply And.intro|(intro hc;try subst hc)))<;>(try clear hK K))|(refine zJ (fun hc=>?_) (fun hc=>?_)<;>simp at hc<;>(try subst hc)))
      all_goals first|(simp;done)|(simp at *;omega)|((try simp[hT,hC,hl,hT2,hC2]);refine Imp.aut ?_ ?_<;>simp[NLe,hT,hC,hl,hT2,hC2])
     rw[if_neg k3]at hX;by_cases k5:e.k=5
     ·rw[if_pos k5]at hX
      have hx:=x34 hX;clear hX;simp only[mdC,evR,k5]at hS hx⊢;unfold m21
      repeat' with_reducible (first|refine ZR.h ?_|refine zI ?_|((first|refine zK hE ?_|refine zM hE ?_);intro K hK;simp[hT,hC,hl,hx,hnow2,k5];(repeat' (first|refine hK _ _ ?_|apply And.intro|(intro hc;try subst hc)))<;>(try clear hK K))|(refine zJ (fun hc=>?_) (fun hc=>?_)<;>simp at hc<;>(try subst hc)))
      all_goals first|(simp;done)|(simp at *;omega)|((try simp[hT,hC,hl,hT2,hC2]);refine Imp.aut ?_ ?_<;>simp[NLe,hT,hC,hl,hT2,hC2])
     rw[if_neg k5]at hX;by_cases k7:e.k=7
     ·rw[if_pos k7]at hX
      have hx:=x34 hX;clear hX;simp only[mdC,evR,k7]at hS hx⊢;unfold m21
      repeat' with_reducible (first|refine ZR.h ?_|refine zI ?_|((first|refine zK hE ?_|refine zM hE ?_);intro K hK;simp[hT,hC,hl,hx,hnow2,k7];(repeat' (first|refine hK _ _ ?_|apply And.intro|(intro hc;try subst hc)))<;>(try clear hK K))|(refine zJ (fun hc=>?_) (fun hc=>?_)<;>simp at hc<;>(try subst hc)))
      all_goals first|(simp;done)|(simp at *;omega)|((try simp[hT,hC,hl,hT2,hC2]);refine Imp.aut ?_ ?_<;>simp[NLe,hT,hC,hl,hT2,hC2])
     rw[if_neg k7]at hX;by_cases k4:e.k=4
     ·rw[if_pos k4]at hX
      have hx:=x35 hX;clear hX;simp only[mdC,evR,k4]at hS hx⊢;unfold m21
      repeat' with_reducible (first|refine ZR.h ?_|refine zI ?_|((first|refine zK hE ?_|refine zM hE ?_);intro K hK;simp[hT,hC,hl,hx,hnow2,k4];(repeat' (first|refine hK _ _ ?_|apply And.intro|(intro hc;try subst hc)))<;>(try clear hK K))|(refine zJ (fun hc=>?_) (fun hc=>?_)<;>simp at hc<;>(try subst hc)))
      all_goals first|(simp;done)|(simp at *;omega)|((try simp[hT,hC,hl,hT2,hC2]);refine Imp.aut ?_ ?_<;>simp[NLe,hT,hC,hl,hT2,hC2])
     rw[if_neg k4]at hX;by_cases k6:e.k=6
     ·rw[if_pos k6]at hX
      have hx:=x35 hX;clear hX;simp only[mdC,evR,k6]at hS hx⊢;unfold m21
      repeat' with_reducible (first|refine ZR.h ?_|refine zI ?_|((first|refine zK hE ?_|refine zM hE ?_);intro K hK;simp[hT,hC,hl,hx,hnow2,k6];(repeat' (first|refine hK _ _ ?_|apply And.intro|(intro hc;try subst hc)))<;>(try clear hK K))|(refine zJ (fun hc=>?_) (fun hc=>?_)<;>simp at hc<;>(try subst hc)))
      all_goals first|(simp;done)|(simp at *;omega)|((try simp[hT,hC,hl,hT2,hC2]);refine Imp.aut ?_ ?_<;>simp[NLe,hT,hC,hl,hT2,hC2])
     rw[if_neg k6]at hX;cases hX
    ·cases h
   ·cases h
  ·cases h
 ·cases h
def A20 (a b c d e f g:Int):St:=⟨[(0,.ptr (.top 0) 0 0)],[(0,.cells 0 [.int .i64 a,.int .i64 b,.int .i64 c,.int .i64 d,.int .i64 e,.int .i64 f,.int .i64 g,.sl (.top 1) 0 0,.int .i64 0]),(1,.arr 0 13 [])],2⟩
def d20:List AV→Option Ans
 | [.agg [.int .i64 a,.int .i64 b,.int .i64 c,.int .i64 d,.int .i64 e,.int .i64 f,.int .i64 g]]=>some ⟨.op 0 (mdC ⟨a,b,c,d,e,f,g,[],0⟩),[]⟩
 | _=>none
theorem ok20:NOk [] d20:=by
 intro xs a h;unfold d20 at h
 (repeat' (split at h))<;>first|(cases h;done)|(injection h with h;subst h;refine ⟨Zz ?_,?_⟩<;>simp[mdC,YZ])
theorem s20:Sound Try.prog 20 (Zw [] d20 ok20):=by
 refine Zm C20.a C20.b C20.c C20.d ok20 (fun xs a h=>?_) fun xs a h w0 S hS=>?_
 ·unfold d20 at h
  (repeat' (split at h))<;>first|(cases h;done)|exact Nat.le_of_ble_eq_true rfl
 unfold d20 at h;split at h
 ·rename_i a b c d e f g
  injection h with h;subst h;have hE:Zd Try.prog (EL []):=Zf (by simp);simp only[mdC,YZ,List.map_nil];unfold m20
  repeat' with_reducible (first|refine ZR.h ?_|refine zI ?_|(refine zK hE ?_;intro K hK;simp;(repeat' (first|refine hK _ _ ?_|apply And.intro|(intro hc;try subst hc)))<;>(try clear hK K))|(refine zJ (fun hc=>?_) (fun hc=>?_)<;>simp at hc<;>(try subst hc)))
  all_goals (try simp)
  all_goals (refine Imp.trans (t:=A20 a b c d e f g) (Imp.autoX [(1,none)] (by kernel_rfl) ?_ ?_) ?_)
  all_goals first|(simp[A20,NLe,Zg];done)|skip
  all_goals (refine Imp.trans (Imp.absorb (.top 0) 0 7 1 (by rfl) (by rfl) (by rfl) (.inl ⟨0,13,[],by rfl,by rfl⟩) (by simp)) ?_)
  all_goals (simp only[A20];refine Imp.aut ?_ ?_<;>simp[NLe,Zg,Z5,Zx])
 ·cases h
end Go.W
