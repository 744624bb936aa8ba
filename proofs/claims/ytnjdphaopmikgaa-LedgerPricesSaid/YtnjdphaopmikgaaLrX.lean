/- A part of the proofs about the pair's laws (LrY, LrR, LrX). -/
import Derived.Test.YtnjdphaopmikgaaLrW
import Derived.Test.YtnjdphaopmikgaaLaR
import Derived.Test.YtnjdphaopmikgaaLrB
namespace Go.W
open Go.Proofs
set_option linter.unusedSimpArgs false
set_option linter.unusedVariables false
set_option maxHeartbeats 8000000
attribute [local irreducible] Wm
attribute [local simp] Yu lkp Ui prs Th prT ddL idL Yn U1 Ren Vz NObj.none ZZ
open Classical in
noncomputable def d18:List AV→List NObj→Option AV
 | [.agg [.int .i64 a,.int .i64 b,.int .i64 nm,.int .i64 d,.int .i64 e1,.int .i64 f,.int .i64 gs],.sl (.top 0) 0 n,.agg ec],[.view 0 14 els]=>(match Xm YO els,YO ec with
  | some L,some e=>if n=els.length∧VA a b nm d e1 f gs=true∧L.length≤1000∧∃ os,OkL (cfC a b nm f gs) L os then some (.int .i64 (ZE (cfC a b nm f gs) L e)) else none
  | _,_=>none)
 | _,_=>none
theorem ok18:ROk d18:=by
 intro xs os r h;unfold d18 at h
 (repeat' (split at h))<;>first|(cases h;done)|(injection h with h;subst h;simp)
theorem Zc9 {L:List EvZ} {k:Nat} {x:EvZ} (h:L[k]?=some x) (hl:L.length=k+1):ZS L=x.tk:=by
 unfold ZS;have:L.getLast?=some x:=by rw[List.getLast?_eq_getElem?,hl];exact h
 rw[this]
theorem s18:Sound Try.prog 18 (rdS d18 ok18):=by
 refine Zn C18.a C18.b C18.c C18.d ok18 fun xs os r h vs ρ0 hvs=>⟨xs,?_,fun _ h=>h,fun w0 S hS=>?_⟩
 ·unfold d18 at h
  (repeat' (split at h))<;>first|(cases h;done)|exact Nat.le_of_ble_eq_true rfl
 unfold d18 at h;split at h
 ·rename_i a b nm d e1 f gs n ec els
  split at h
  ·rename_i L e hL he
   obtain rfl:=ZI (g:=evR) (fun _ _=>ZD) hL;obtain rfl:=ZD he;clear hL he;split at h
   ·rename_i hcond
    injection h with h;subst h;obtain ⟨rfl,hcf,hlen,os,hos⟩:=hcond;have hll:List.map evR L=Zy L:=rfl;rw[hll]at hvs⊢;change S.m=1 at hS;have hE:Zd Try.prog (EL [(23,rdS d23 ok23),(28,rdS d28 ok28),(29,rdS d29 ok29),(30,rdS d30 ok30),(31,rdS d31 ok31)]):=Zf (by simp only[List.mem_cons,List.not_mem_nil,or_false,forall_eq_or_imp,forall_eq];exact ⟨s23,s28,s29,s30,s31⟩);have hT:=XO L;have hC:=XS L;have hl:=Z6 L;have hD:=YN L;have htk:(Zy L).take L.length=Zy L:=List.take_of_length_le (by rw[hl];exact Nat.le_refl _);have hm:Xm YO (Zy L)=some L:=Zv (f:=YO) (g:=evR) Yb L;have hCo:=Xz hcf;have hcx:=YF hcf;have hca:=XU hcf;change Wm _ _ _ _ _ _ ⟨U6 0 [.agg [.int .i64 a,.int .i64 b,.int .i64 nm,.int .i64 d,.int .i64 e1,.int .i64 f,.int .i64 gs],.sl (.top 0) 0 (Zy L).length,.agg [.int .i64 e.k,.int .i64 e.c,.int .i64 e.g,.int .i64 e.o,.int .i64 e.w,.int .i64 e.t.nm,.int .i64 e.t.sd,.int .i64 e.t.pr,.int .i64 e.t.le,.int .i64 e.t.un,.int .i64 e.q,.int .i64 e.p,.int .i64 e.tk,.int .i64 e.e]],Zs 0 [.view 0 14 (Zy L)],1⟩ _;rw[Zd7];by_cases hne:L=[]
    ·have hlz:L.length=0:=by rw[hne];rfl
     have htz:ZS L=0:=(by rw[hne];rfl);by_cases h5:e.tk<0
     ·rw[ZbR (by rw[htz];exact h5)]
      repeat' with_reducible (first|refine ZR.h ?_|refine zI ?_|((first|refine zK hE ?_|refine zM hE ?_);intro K hK;simp[hT,hC,hl,hD,htk,h5,hlz];(repeat' (first|refine hK _ _ ?_|apply And.intro|(intro hc;try subst hc)))<;>(try clear hK K))|(refine zJ (fun hc=>?_) (fun hc=>?_)<;>simp at hc<;>(try subst hc)))
      all_goals first|(simp;done)|(simp at *;omega)|((try simp[hT,hC]);refine Imp.aut ?_ ?_<;>simp[NLe,Zg,hT,hC])
     ·have htk0:¬ e.tk<ZS L:=by rw[htz];exact h5
      repeat' with_reducible (first|refine ZR.h ?_|refine zI ?_|((first|refine zK hE ?_|refine zM hE ?_);intro K hK;simp[hT,hC,hl,hD,htk,h5,hlz];(repeat' (first|refine hK _ _ ?_|apply And.intro|(intro hc;try subst hc)))<;>(try clear hK K))|(refine zJ (fun hc=>?_) (fun hc=>?_)<;>simp at hc<;>(try subst hc)))
      all_goals refine Xv (s':=S18 a b nm d e1 f gs L e []) ?_ (w18m hS hcf hlen hos htk0 ?_)
      ·rw[hS]
       simp only[S18,List.append_nil]
       (refine Imp.aut ?_ ?_<;>simp[NLe,Zg,hT,hC,hlz])
      ·intro s h6 hs
       show XC (Vm s [.t 6]) _;simp only[Vm,vI,h6];refine ⟨_,rfl,?_⟩;show Imp 1 _ _;refine Imp.trans hs ?_;simp only[E18]
       (refine Imp.aut ?_ ?_<;>simp[NLe,Zg,hT,hC])
    ·obtain ⟨m,hm1⟩:∃ m,L.length=m+1:=⟨L.length - 1,by have:=List.length_pos_iff.2 hne;omega⟩
     obtain ⟨x,hx⟩:∃ x,L[m]?=some x:=⟨_,List.getElem?_eq_getElem (by omega)⟩;have htx:=Zc9 hx hm1;have hr1:=VX hx;have hr2:∀ hk,(Zy L)[m]'hk=evR x:=fun hk=>by rw[List.getElem?_eq_getElem hk]at hr1;exact Option.some.inj hr1
     have hpos:0<L.length:=(by omega);have hpos2:¬ L.length=0:=(by omega);have hw1:IntKind.wrap .i64 ((L.length:Int) - 1)=(m:Int):=(by rw[Zh (by omega) (by omega)];omega);have hml:m<L.length:=(by omega);simp only[evR]at hr1 hr2;by_cases h5:e.tk<x.tk
     ·rw[ZbR (by rw[htx];exact h5)]
      repeat' with_reducible (first|refine ZR.h ?_|refine zI ?_|((first|refine zK hE ?_|refine zM hE ?_);intro K hK;simp[hT,hC,hl,hD,htk,hpos,hpos2,hw1,hml,hr1,hr2,h5,hne];(repeat' (first|refine hK _ _ ?_|apply And.intro|(intro hc;try subst hc)))<;>(try clear hK K))|(refine zJ (fun hc=>?_) (fun hc=>?_)<;>simp at hc<;>(try subst hc)))
      all_goals first|(simp;done)|(simp at *;omega)|((try simp[hT,hC]);refine Imp.aut ?_ ?_<;>simp[NLe,Zg,hT,hC])
     ·have htk0:¬ e.tk<ZS L:=by rw[htx];exact h5
      repeat' with_reducible (first|refine ZR.h ?_|refine zI ?_|((first|refine zK hE ?_|refine zM hE ?_);intro K hK;simp[hT,hC,hl,hD,htk,hpos,hpos2,hw1,hml,hr1,hr2,h5,hne];(repeat' (first|refine hK _ _ ?_|apply And.intro|(intro hc;try subst hc)))<;>(try clear hK K))|(refine zJ (fun hc=>?_) (fun hc=>?_)<;>simp at hc<;>(try subst hc)))
      all_goals refine Xv (s':=S18 a b nm d e1 f gs L e []) ?_ (w18m hS hcf hlen hos htk0 ?_)
      ·rw[hS]
       simp only[S18,List.append_nil]
       (refine Imp.aut ?_ ?_<;>simp[NLe,Zg,hT,hC])
      ·intro s h6 hs
       show XC (Vm s [.t 6]) _;simp only[Vm,vI,h6];refine ⟨_,rfl,?_⟩;show Imp 1 _ _;refine Imp.trans hs ?_;simp only[E18]
       (refine Imp.aut ?_ ?_<;>simp[NLe,Zg,hT,hC])
   ·cases h
  ·cases h
 ·cases h
theorem Va (L:List Int):YJ (ZY L)=true:=List.all_eq_true.2 fun c hc=>by obtain ⟨o,_,rfl⟩:=List.mem_map.1 hc;rfl
theorem ZdF (L:List Int):∀ x,x∈ZY L→∀ y,y∈x→AV.plain y=true:=fun x hx y hy=>by
 obtain ⟨o,_,rfl⟩:=List.mem_map.1 hx;rw[List.mem_singleton.1 hy];rfl
theorem ZdB (L:List Int):((ZY L).all fun c=>c.all AV.plain)=true:=List.all_eq_true.2 fun x hx=>List.all_eq_true.2 fun y hy=>ZdF L x hx y hy
def d24:List AV→List NObj→Option AV
 | [.sl (.top 0) 0 n],[.view 0 1 els]=>(match Xm xM els with
  | some l=>if n=els.length∧els.length≤100000 then some (.os 0 1 els) else none
  | none=>none)
 | _,_=>none
theorem ok24:ROk d24:=by
 intro xs os r h;unfold d24 at h;split at h
 ·split at h
  ·rename_i l hl
   obtain rfl:=ZI (g:=inC) (fun _ _=>Uy) hl;split at h
   ·injection h with h;subst h;simp;exact Va l
   ·cases h
  ·cases h
 ·cases h
theorem s24:Sound Try.prog 24 (rdS d24 ok24):=by
 refine Zn C24.a C24.b C24.c C24.d ok24 fun xs os r h vs ρ0 hvs=>?_;have hE:Zd Try.prog (EL []):=Zf (by simp);unfold d24 at h;split at h
 ·split at h
  ·rename_i n els l hml
   obtain rfl:=ZI (g:=inC) (fun _ _=>Uy) hml;clear hml;split at h
   ·rename_i hcond
    injection h with h;subst h;obtain ⟨rfl,hlen⟩:=hcond;have hll:List.map inC l=ZY l:=rfl;rw[hll]at hlen hvs⊢;have hl:=X7 l;have hdat:=Va l;have hP:=ZdB l;have hP2:=ZdF l;have hT0:=YT l;have hCl:=YV l;by_cases hpos:0<(ZY l).length
    ·have hb1:(ZY l).length*8≤140737488355328:=by omega
     have hb2:(ZY l).length≤9223372036854775807:=(by omega);refine ⟨_,Nat.le_of_ble_eq_true rfl,fun _ h=>h,fun w0 S hS=>?_⟩;unfold m24
     repeat' with_reducible (first|refine ZR.h ?_|refine zI ?_|(refine zK hE ?_;intro K hK;simp[hdat,hlen,hpos,hb1,hb2,hP,hP2];(repeat' (first|refine hK _ _ ?_|apply And.intro|(intro hc;try subst hc)))<;>(try clear hK K))|(refine zJ (fun hc=>?_) (fun hc=>?_)<;>simp at hc<;>(try subst hc)))
     all_goals first|(simp;done)|(simp at *;omega)|((try simp[hT0,hCl]);refine Imp.aut ?_ ?_<;>simp[NLe,hT0,hCl])
    ·have he:l=[]:=List.length_eq_zero_iff.1 (by omega)
     subst he;obtain ⟨ad,c,rfl⟩:∃ ad c,vs=[.slice ad 0 c]:=by
      simp only[ZB,Rep]at hvs;obtain ⟨v,r,rfl,hv,rfl⟩:=hvs;rcases hv with ⟨_,_,_,ad,rfl⟩ | ⟨_,_,off,rfl,_⟩
      ·exact ⟨_,_,rfl⟩
      ·exact ⟨_,_,rfl⟩
     cases ad with
     | none =>
      refine ⟨[.raw (.slice none 0 c)],Nat.le_of_ble_eq_true rfl,fun ρ _=>⟨_,[],rfl,by rw[Rep],rfl⟩,fun w0 S hS=>?_⟩;simp only[ZY,List.map_nil];unfold m24
      repeat' with_reducible (first|refine ZR.h ?_|refine zI ?_|(refine zK hE ?_;intro K hK;simp;(repeat' (first|refine hK _ _ ?_|apply And.intro|(intro hc;try subst hc)))<;>(try clear hK K))|(refine zJ (fun hc=>?_) (fun hc=>?_)<;>simp at hc<;>(try subst hc)))
      all_goals first|(simp;done)|(simp at *;omega)|((try simp);refine Imp.aut ?_ ?_<;>simp[NLe])
     | some ad =>
      refine ⟨[.raw (.slice (some ad) 0 c)],Nat.le_of_ble_eq_true rfl,fun ρ _=>⟨_,[],rfl,by rw[Rep],rfl⟩,fun w0 S hS=>?_⟩;simp only[ZY,List.map_nil];unfold m24
      repeat' with_reducible (first|refine ZR.h ?_|refine zI ?_|(refine zK hE ?_;intro K hK;simp;(repeat' (first|refine hK _ _ ?_|apply And.intro|(intro hc;try subst hc)))<;>(try clear hK K))|(refine zJ (fun hc=>?_) (fun hc=>?_)<;>simp at hc<;>(try subst hc)))
      all_goals first|(simp;done)|(simp at *;omega)|((try simp);refine Imp.aut ?_ ?_<;>simp[NLe])
   ·cases h
  ·cases h
 ·cases h
def mxL (l:List Int):Int:=(l.drop 1).foldl (fun a b=>if a<b then b else a) (l.headD 0)
theorem ZbT (l:List Int) (k:Nat) (x:Int) (h1:1≤k) (h:l[k]?=some x):mxL (l.take (k+1))=if (mxL (l.take k))<x then x else (mxL (l.take k)):=by
 unfold mxL;cases l with
 | nil=>simp at h
 | cons y r =>
  obtain ⟨j,rfl⟩:∃ j,k=j+1:=⟨k - 1,by omega⟩;simp only[List.take_succ_cons,List.drop_succ_cons,List.drop_zero,List.headD_cons];rw[List.getElem?_cons_succ]at h;rw[List.take_add_one,h,Option.toList_some,List.foldl_append];rfl
def d25:List AV→List NObj→Option AV
 | [.sl (.top 0) 0 n],[.view 0 1 els]=>(match Xm xM els with
  | some l=>if n=els.length∧0<els.length∧els.length≤100000 then some (.int .i64 (mxL l)) else none
  | none=>none)
 | _,_=>none
theorem ok25:ROk d25:=by
 intro xs os r h;unfold d25 at h
 (repeat' (split at h))<;>first|(cases h;done)|(injection h with h;subst h;simp)
def I25 (l:List Int) (i:Nat):St:=⟨[(0,.sl (.top 0) 0 l.length),(3,.int .i64 (mxL (l.take i))),(4,.int .i64 i)],[(0,.view 0 1 (ZY l))],1⟩
theorem s25:Sound Try.prog 25 (rdS d25 ok25):=by
 refine Zn C25.a C25.b C25.c C25.d ok25 fun xs os r h vs ρ0 hvs=>⟨xs,?_,fun _ h=>h,fun w0 S hS=>?_⟩
 ·unfold d25 at h
  (repeat' (split at h))<;>first|(cases h;done)|exact Nat.le_of_ble_eq_true rfl
 unfold d25 at h;split at h
 ·split at h
  ·rename_i n els l hml
   obtain rfl:=ZI (g:=inC) (fun _ _=>Uy) hml;clear hml;split at h
   ·rename_i hcond
    injection h with h;subst h;obtain ⟨rfl,hpos,hlen⟩:=hcond;have hll:List.map inC l=ZY l:=rfl;rw[hll]at hlen hpos hvs⊢;have hl:=X7 l;rw[hl]at hlen hpos;have hdat:=Va l;have hT0:=YT l;have hCl:=YV l;have hE:Zd Try.prog (EL []):=Zf (by simp);obtain ⟨y,hy⟩:∃ y,l[0]?=some y:=⟨_,List.getElem?_eq_getElem hpos⟩;obtain ⟨hy1,hy2⟩:=ya hy;simp only[inC]at hy1 hy2;have hpos2:¬ (l.length:Int)<1:=(by omega);have h1:mxL (l.take 1)=y:=by
     cases l with
     | nil=>simp at hy
     | cons z r=>simp at hy;subst hy;rfl
    change Wm _ _ _ _ _ _ ⟨U6 0 [.sl (.top 0) 0 (ZY l).length],Zs 0 [.view 0 1 (ZY l)],_⟩ _;unfold m25
    repeat' with_reducible (first|refine ZR.h ?_|refine zI ?_|(refine zK hE ?_;intro K hK;simp[hdat,hl,hpos,hpos2,hy1,hy2];(repeat' (first|refine hK _ _ ?_|apply And.intro|(intro hc;try subst hc)))<;>(try clear hK K))|(refine zJ (fun hc=>?_) (fun hc=>?_)<;>simp at hc<;>(try subst hc)))
    all_goals (refine Z4 (fun i=>I25 l i) (fun i=>1≤i∧i≤l.length) (fun i=>l.length - i) 1 ⟨Nat.le_refl _,hpos⟩ ?_ ?_)
    ·simp only[I25,h1]
     rw[hS]
     (refine Imp.aut ?_ ?_<;>simp[NLe,hT0,hCl,hl])
    ·rintro i ⟨hi1,hi⟩
     (try simp only at hi1 hi)
     simp only[I25];by_cases hil:i<l.length
     ·obtain ⟨x,hx⟩:∃ x,l[i]?=some x:=⟨_,List.getElem?_eq_getElem hil⟩
      obtain ⟨hg,hge⟩:=ya hx;simp only[inC]at hg hge;have hst:=ZbT l i x hi1 hx;have ww:IntKind.wrap .i64 ((i:Int)+1)=(i:Int)+1:=Zh (by omega) (by omega)
      repeat' with_reducible (first|refine ZR.h ?_|refine zI ?_|(refine zK hE ?_;intro K hK;simp[hdat,hl,hil,hg,hge,ww];(repeat' (first|refine hK _ _ ?_|apply And.intro|(intro hc;try subst hc)))<;>(try clear hK K))|(refine zJ (fun hc=>?_) (fun hc=>?_)<;>simp at hc<;>(try subst hc)))
      all_goals refine ⟨i+1,⟨by omega,hil⟩,Nat.sub_lt_sub_left hil (Nat.lt_succ_self i),?_⟩
      all_goals simp only[I25,hst]
      all_goals rw[hS]
      all_goals (refine Imp.aut ?_ ?_<;>simp[NLe,hT0,hCl,hl])
     ·have hie:i=l.length:=by omega
      subst hie;rw[List.take_of_length_le (Nat.le_refl _)]
      repeat' with_reducible (first|refine ZR.h ?_|refine zI ?_|(refine zK hE ?_;intro K hK;simp[hdat,hl];(repeat' (first|refine hK _ _ ?_|apply And.intro|(intro hc;try subst hc)))<;>(try clear hK K))|(refine zJ (fun hc=>?_) (fun hc=>?_)<;>simp at hc<;>(try subst hc)))
      all_goals first|(simp;done)|(simp at *;omega)|((try simp[hT0,hCl]);refine Imp.aut ?_ ?_<;>simp[NLe,hT0,hCl])
   ·cases h
  ·cases h
 ·cases h
def mnL (l:List Int):Int:=(l.drop 1).foldl (fun a b=>if b<a then b else a) (l.headD 0)
theorem ZbX (l:List Int) (k:Nat) (x:Int) (h1:1≤k) (h:l[k]?=some x):mnL (l.take (k+1))=if x<(mnL (l.take k)) then x else (mnL (l.take k)):=by
 unfold mnL;cases l with
 | nil=>simp at h
 | cons y r =>
  obtain ⟨j,rfl⟩:∃ j,k=j+1:=⟨k - 1,by omega⟩;simp only[List.take_succ_cons,List.drop_succ_cons,List.drop_zero,List.headD_cons];rw[List.getElem?_cons_succ]at h;rw[List.take_add_one,h,Option.toList_some,List.foldl_append];rfl
def d26:List AV→List NObj→Option AV
 | [.sl (.top 0) 0 n],[.view 0 1 els]=>(match Xm xM els with
  | some l=>if n=els.length∧0<els.length∧els.length≤100000 then some (.int .i64 (mnL l)) else none
  | none=>none)
 | _,_=>none
theorem ok26:ROk d26:=by
 intro xs os r h;unfold d26 at h
 (repeat' (split at h))<;>first|(cases h;done)|(injection h with h;subst h;simp)
def I26 (l:List Int) (i:Nat):St:=⟨[(0,.sl (.top 0) 0 l.length),(3,.int .i64 (mnL (l.take i))),(4,.int .i64 i)],[(0,.view 0 1 (ZY l))],1⟩
theorem s26:Sound Try.prog 26 (rdS d26 ok26):=by
 refine Zn C26.a C26.b C26.c C26.d ok26 fun xs os r h vs ρ0 hvs=>⟨xs,?_,fun _ h=>h,fun w0 S hS=>?_⟩
 ·unfold d26 at h
  (repeat' (split at h))<;>first|(cases h;done)|exact Nat.le_of_ble_eq_true rfl
 unfold d26 at h;split at h
 ·split at h
  ·rename_i n els l hml
   obtain rfl:=ZI (g:=inC) (fun _ _=>Uy) hml;clear hml;split at h
   ·rename_i hcond
    injection h with h;subst h;obtain ⟨rfl,hpos,hlen⟩:=hcond;have hll:List.map inC l=ZY l:=rfl;rw[hll]at hlen hpos hvs⊢;have hl:=X7 l;rw[hl]at hlen hpos;have hdat:=Va l;have hT0:=YT l;have hCl:=YV l;have hE:Zd Try.prog (EL []):=Zf (by simp);obtain ⟨y,hy⟩:∃ y,l[0]?=some y:=⟨_,List.getElem?_eq_getElem hpos⟩;obtain ⟨hy1,hy2⟩:=ya hy;simp only[inC]at hy1 hy2;have hpos2:¬ (l.length:Int)<1:=(by omega);have h1:mnL (l.take 1)=y:=by
     cases l with
     | nil=>simp at hy
     | cons z r=>simp at hy;subst hy;rfl
    change Wm _ _ _ _ _ _ ⟨U6 0 [.sl (.top 0) 0 (ZY l).length],Zs 0 [.view 0 1 (ZY l)],_⟩ _;unfold m26
    repeat' with_reducible (first|refine ZR.h ?_|refine zI ?_|(refine zK hE ?_;intro K hK;simp[hdat,hl,hpos,hpos2,hy1,hy2];(repeat' (first|refine hK _ _ ?_|apply And.intro|(intro hc;try subst hc)))<;>(try clear hK K))|(refine zJ (fun hc=>?_) (fun hc=>?_)<;>simp at hc<;>(try subst hc)))
    all_goals (refine Z4 (fun i=>I26 l i) (fun i=>1≤i∧i≤l.length) (fun i=>l.length - i) 1 ⟨Nat.le_refl _,hpos⟩ ?_ ?_)
    ·simp only[I26,h1]
     rw[hS]
     (refine Imp.aut ?_ ?_<;>simp[NLe,hT0,hCl,hl])
    ·rintro i ⟨hi1,hi⟩
     (try simp only at hi1 hi)
     simp only[I26];by_cases hil:i<l.length
     ·obtain ⟨x,hx⟩:∃ x,l[i]?=some x:=⟨_,List.getElem?_eq_getElem hil⟩
      obtain ⟨hg,hge⟩:=ya hx;simp only[inC]at hg hge;have hst:=ZbX l i x hi1 hx;have ww:IntKind.wrap .i64 ((i:Int)+1)=(i:Int)+1:=Zh (by omega) (by omega)
      repeat' with_reducible (first|refine ZR.h ?_|refine zI ?_|(refine zK hE ?_;intro K hK;simp[hdat,hl,hil,hg,hge,ww];(repeat' (first|refine hK _ _ ?_|apply And.intro|(intro hc;try subst hc)))<;>(try clear hK K))|(refine zJ (fun hc=>?_) (fun hc=>?_)<;>simp at hc<;>(try subst hc)))
      all_goals refine ⟨i+1,⟨by omega,hil⟩,Nat.sub_lt_sub_left hil (Nat.lt_succ_self i),?_⟩
      all_goals simp only[I26,hst]
      all_goals rw[hS]
      all_goals (refine Imp.aut ?_ ?_<;>simp[NLe,hT0,hCl,hl])
     ·have hie:i=l.length:=by omega
      subst hie;rw[List.take_of_length_le (Nat.le_refl _)]
      repeat' with_reducible (first|refine ZR.h ?_|refine zI ?_|(refine zK hE ?_;intro K hK;simp[hdat,hl];(repeat' (first|refine hK _ _ ?_|apply And.intro|(intro hc;try subst hc)))<;>(try clear hK K))|(refine zJ (fun hc=>?_) (fun hc=>?_)<;>simp at hc<;>(try subst hc)))
      all_goals first|(simp;done)|(simp at *;omega)|((try simp[hT0,hCl]);refine Imp.aut ?_ ?_<;>simp[NLe,hT0,hCl])
   ·cases h
  ·cases h
 ·cases h
theorem VQ (L:List EvZ) (k:Nat):(Zy L).take k=Zy (L.take k):=(List.map_take ..).symm
theorem XW {L:List EvZ} (k:Nat):YJ ((Zy L).take k)=true:=by rw[VQ];exact YN _
def Zca (C:CfE) (L:List EvZ):AV:=match L.getLast? with
 | none=>.tup [.int .i64 (-1),.int .i64 0]
 | some e=>if ZE C L.dropLast e=0 then .tup [.int .i64 (-1),.int .i64 0] else .tup [.int .i64 ((L.length:Int) - 1),.int .i64 (ZE C L.dropLast e)]
open Classical in
noncomputable def d7:List AV→List NObj→Option AV
 | [.agg [.int .i64 a,.int .i64 b,.int .i64 nm,.int .i64 d,.int .i64 e1,.int .i64 f,.int .i64 gs],.sl (.top 0) 0 n],[.view 0 14 els]=>(match Xm YO els with
  | some L=>if n=els.length∧VA a b nm d e1 f gs=true∧L.length≤1000∧∃ os,OkL (cfC a b nm f gs) L.dropLast os then some (Zca (cfC a b nm f gs) L) else none
  | none=>none)
 | _,_=>none
theorem ok7:ROk d7:=by
 intro xs os r h;unfold d7 at h
 (repeat' (split at h))<;>first|(cases h;done)|(injection h with h;subst h;unfold Zca;(repeat' split)<;>simp)
def I7 (a b nm d e1 f gs:Int) (L:List EvZ) (k:Nat):St:=⟨[(1,.sl (.top 0) 0 L.length),(2,.ptr (.top 1) 0 0),(6,.int .i64 k)],[(0,.view 0 14 (Zy L)),(1,.cells 0 [.int .i64 a,.int .i64 b,.int .i64 nm,.int .i64 d,.int .i64 e1,.int .i64 f,.int .i64 gs])],2⟩
theorem s7:Sound Try.prog 7 (rdS d7 ok7):=by
 refine Zn C7.a C7.b C7.c C7.d ok7 fun xs os r h vs ρ0 hvs=>⟨xs,?_,fun _ h=>h,fun w0 S hS=>?_⟩
 ·unfold d7 at h
  (repeat' (split at h))<;>first|(cases h;done)|exact Nat.le_of_ble_eq_true rfl
 unfold d7 at h;split at h
 ·rename_i a b nm d e1 f gs n els
  split at h
  ·rename_i L hL
   obtain rfl:=ZI (g:=evR) (fun _ _=>ZD) hL;clear hL;split at h
   ·rename_i hcond
    injection h with h;subst h;obtain ⟨rfl,hcf,hlen,osF,hok⟩:=hcond;have hll:List.map evR L=Zy L:=rfl;rw[hll]at hvs⊢;change S.m=1 at hS;have hE:Zd Try.prog (EL [(18,rdS d18 ok18)]):=Zf (by simp only[List.mem_cons,List.not_mem_nil,or_false,forall_eq_or_imp,forall_eq];exact s18);have hT:=XO L;have hC:=XS L;have hl:=Z6 L;have hD:=YN L;have h18:∀ (k:Nat) (e:EvZ) (os:List OrZ),k<L.length→OkL (cfC a b nm f gs) (L.take k) os→d18 [.agg [.int .i64 a,.int .i64 b,.int .i64 nm,.int .i64 d,.int .i64 e1,.int .i64 f,.int .i64 gs],.sl (.top 0) 0 k,.agg (evR e)] [.view 0 14 ((Zy L).take k)]=some (.int .i64 (ZE (cfC a b nm f gs) (L.take k) e)):=fun k e os hk hos=>by
     have hm:Xm YO (Zy (L.take k))=some (L.take k):=Zv (f:=YO) (g:=evR) Yb _;rw[VQ];simp only[d18,hm,Yb];rw[if_pos ⟨by rw[Z6,List.length_take];omega,hcf,by rw[List.length_take];omega,os,hos⟩]
    change Wm _ _ _ _ _ _ ⟨U6 0 [.agg [.int .i64 a,.int .i64 b,.int .i64 nm,.int .i64 d,.int .i64 e1,.int .i64 f,.int .i64 gs],.sl (.top 0) 0 (Zy L).length],Zs 0 [.view 0 14 (Zy L)],_⟩ _;unfold m7
    repeat' with_reducible (first|refine ZR.h ?_|refine zI ?_|((first|refine zK hE ?_|refine zM hE ?_);intro K hK;simp[hT,hC,hl,hD];(repeat' (first|refine hK _ _ ?_|apply And.intro|(intro hc;try subst hc)))<;>(try clear hK K))|(refine zJ (fun hc=>?_) (fun hc=>?_)<;>simp at hc<;>(try subst hc)))
    all_goals (refine Z4 (fun k=>I7 a b nm d e1 f gs L k) (fun k=>k≤L.length∧(∃ os,OkL (cfC a b nm f gs) (L.take k) os)∧(k=L.length→Zca (cfC a b nm f gs) L=.tup [.int .i64 (-1),.int .i64 0])) (fun k=>L.length - k) 0 ⟨Nat.zero_le _,⟨[],OkL.nil⟩,fun q=>by rw[List.length_eq_zero_iff.1 q.symm];rfl⟩ ?_ ?_)
    ·simp only[I7]
     rw[hS]
     (refine Imp.aut ?_ ?_<;>simp[NLe,Zg,hT,hC,hl])
    rintro k ⟨hk,⟨os,hos⟩,hend⟩
    (try simp only at hk hos hend)
    simp only[I7];by_cases hkl:k<L.length
    ·obtain ⟨e,he⟩:∃ e,L[k]?=some e:=⟨_,List.getElem?_eq_getElem hkl⟩
     have h18k:=h18 k e os hkl hos;have hdt:=XW (L:=L) k;have hsn:=Ys he;have ww:IntKind.wrap .i64 ((k:Int)+1)=(k:Int)+1:=Zh (by omega) (by omega);have hg1:=VX he;have hg2:∀ hk,(Zy L)[k]'hk=evR e:=fun hk=>by rw[List.getElem?_eq_getElem hk]at hg1;exact Option.some.inj hg1
     have hkle:k≤L.length:=hk;obtain ⟨cz,hcz⟩:∃ z,ZE (cfC a b nm f gs) (L.take k) e=z:=⟨_,rfl⟩;rw[hcz]at h18k;simp only[evR]at hg1 hg2 h18k;have hlast:k+1=L.length→L.getLast?=some e∧L.dropLast=L.take k:=fun q=>⟨by rw[List.getLast?_eq_getElem?,← q];exact he,by rw[List.dropLast_eq_take,← q];rfl⟩;by_cases hc0:cz=0
     ·have hos2:∃ os,OkL (cfC a b nm f gs) (L.take (k+1)) os:=⟨_,by rw[hsn];exact OkL.snoc hos (by rw[hcz];exact hc0)⟩
      have hend2:k+1=L.length→Zca (cfC a b nm f gs) L=.tup [.int .i64 (-1),.int .i64 0]:=fun q=>by
       unfold Zca;rw[(hlast q).1];simp only;rw[(hlast q).2,hcz,if_pos hc0]
      repeat' with_reducible (first|refine ZR.h ?_|refine zI ?_|((first|refine zK hE ?_|refine zM hE ?_);intro K hK;simp[hT,hC,hl,hD,hkl,hkle,hg1,hg2,h18k,hdt,ww,hc0];(repeat' (first|refine hK _ _ ?_|apply And.intro|(intro hc;try subst hc)))<;>(try clear hK K))|(refine zJ (fun hc=>?_) (fun hc=>?_)<;>simp at hc<;>(try subst hc)))
      all_goals first|(exfalso;omega)|skip
      all_goals refine ⟨k+1,⟨hkl,hos2,hend2⟩,Nat.sub_lt_sub_left hkl (Nat.lt_succ_self k),?_⟩
      all_goals simp only[I7]
      all_goals rw[hS]
      all_goals (refine Imp.aut ?_ ?_<;>simp[NLe,Zg,hT,hC,hl])
     ·have hkl2:k+1=L.length:=by
       by_cases q:k+1=L.length
       ·exact q
       ·exfalso
        obtain ⟨os',_,h2⟩:=X1 hok k e (by rw[List.dropLast_eq_take,List.getElem?_take,if_pos (by omega)];exact he);rw[List.dropLast_eq_take,List.take_take,Nat.min_eq_left (by omega),hcz]at h2;exact hc0 h2
      have hv:Zca (cfC a b nm f gs) L=.tup [.int .i64 (k:Int),.int .i64 cz]:=by
       unfold Zca;rw[(hlast hkl2).1];simp only;rw[(hlast hkl2).2,hcz,if_neg hc0,← hkl2]
       congr 3
       omega
      rw[hv]
      repeat' with_reducible (first|refine ZR.h ?_|refine zI ?_|((first|refine zK hE ?_|refine zM hE ?_);intro K hK;simp[hT,hC,hl,hD,hkl,hkle,hg1,hg2,h18k,hdt,ww,hc0];(repeat' (first|refine hK _ _ ?_|apply And.intro|(intro hc;try subst hc)))<;>(try clear hK K))|(refine zJ (fun hc=>?_) (fun hc=>?_)<;>simp at hc<;>(try subst hc)))
      all_goals first|(simp;done)|(simp at *;omega)|((try simp[hT,hC]);refine Imp.aut ?_ ?_<;>simp[NLe,hT,hC])
    ·have hke:k=L.length:=by omega
     rw[hend hke];subst hke
     repeat' with_reducible (first|refine ZR.h ?_|refine zI ?_|((first|refine zK hE ?_|refine zM hE ?_);intro K hK;simp[hT,hC,hl,hD];(repeat' (first|refine hK _ _ ?_|apply And.intro|(intro hc;try subst hc)))<;>(try clear hK K))|(refine zJ (fun hc=>?_) (fun hc=>?_)<;>simp at hc<;>(try subst hc)))
     all_goals first|(simp;done)|(simp at *;omega)|((try simp[hT,hC]);refine Imp.aut ?_ ?_<;>simp[NLe,hT,hC])
   ·cases h
  ·cases h
 ·cases h
open Classical in
noncomputable def d9:List AV→List NObj→Option AV
 | [.agg [.int .i64 a,.int .i64 b,.int .i64 nm,.int .i64 d,.int .i64 e1,.int .i64 f,.int .i64 gs],.sl (.top 0) 0 n,.int .i64 x],[.view 0 14 els]=>(match Xm YO els with
  | some L=>if n=els.length∧VA a b nm d e1 f gs=true∧L.length≤1000∧∃ os,OkL (cfC a b nm f gs) L os then some (.os 0 1 (ZY (Zr (cfC a b nm f gs) x L))) else none
  | none=>none)
 | _,_=>none
theorem ok9:ROk d9:=by
 intro xs os r h;unfold d9 at h
 (repeat' (split at h))<;>first|(cases h;done)|(injection h with h;subst h;simp;exact Va _)
def I9 (a b nm d e1 f gs x:Int) (L:List EvZ) (k:Nat):St:=⟨[(1,.sl (.top 0) 0 L.length),(2,.int .i64 x),(3,.ptr (.top 1) 0 0),(7,.sl (.top 2) 0 (Zr (cfC a b nm f gs) x (L.take k)).length),(8,.int .i64 k)],[(0,.view 0 14 (Zy L)),(1,.cells 0 [.int .i64 a,.int .i64 b,.int .i64 nm,.int .i64 d,.int .i64 e1,.int .i64 f,.int .i64 gs]),(2,.arr 0 1 (ZY (Zr (cfC a b nm f gs) x (L.take k))))],3⟩
theorem s9:Sound Try.prog 9 (rdS d9 ok9):=by
 refine Zn C9.a C9.b C9.c C9.d ok9 fun xs os r h vs ρ0 hvs=>⟨xs,?_,fun _ h=>h,fun w0 S hS=>?_⟩
 ·unfold d9 at h
  (repeat' (split at h))<;>first|(cases h;done)|exact Nat.le_of_ble_eq_true rfl
 unfold d9 at h;split at h
 ·rename_i a b nm d e1 f gs n x els
  split at h
  ·rename_i L hL
   obtain rfl:=ZI (g:=evR) (fun _ _=>ZD) hL;clear hL;split at h
   ·rename_i hcond
    injection h with h;subst h;obtain ⟨rfl,hcf,hlen,osF,hok⟩:=hcond;have hll:List.map evR L=Zy L:=rfl;rw[hll]at hvs⊢;change S.m=1 at hS;have hE:Zd Try.prog (EL [(23,rdS d23 ok23)]):=Zf (by simp only[List.mem_cons,List.not_mem_nil,or_false,forall_eq_or_imp,forall_eq];exact s23);have hT:=XO L;have hC:=XS L;have hl:=Z6 L;have hD:=YN L;have hCo:=Xz hcf;have h23:∀ (k:Nat) (c g:Int) (os:List OrZ),k<L.length→OkL (cfC a b nm f gs) (L.take k) os→d23 [.agg [.int .i64 a,.int .i64 b,.int .i64 nm,.int .i64 d,.int .i64 e1,.int .i64 f,.int .i64 gs],.sl (.top 0) 0 k,.int .i64 c,.int .i64 g] [.view 0 14 ((Zy L).take k)]=some (ofA (ofL f c g (L.take k))):=fun k c g os hk hos=>by
     have hm:Xm YO (Zy (L.take k))=some (L.take k):=Zv (f:=YO) (g:=evR) Yb _;rw[VQ];simp only[d23,hm];rw[if_pos ⟨by rw[Z6,List.length_take];omega,hcf,by rw[List.length_take];omega,os,hos⟩]
    change Wm _ _ _ _ _ _ ⟨U6 0 [.agg [.int .i64 a,.int .i64 b,.int .i64 nm,.int .i64 d,.int .i64 e1,.int .i64 f,.int .i64 gs],.sl (.top 0) 0 (Zy L).length,.int .i64 x],Zs 0 [.view 0 14 (Zy L)],_⟩ _;unfold m9
    repeat' with_reducible (first|refine ZR.h ?_|refine zI ?_|((first|refine zK hE ?_|refine zM hE ?_);intro K hK;simp[hT,hC,hl,hD];(repeat' (first|refine hK _ _ ?_|apply And.intro|(intro hc;try subst hc)))<;>(try clear hK K))|(refine zJ (fun hc=>?_) (fun hc=>?_)<;>simp at hc<;>(try subst hc)))
    all_goals (refine Z4 (fun k=>I9 a b nm d e1 f gs x L k) (fun k=>k≤L.length) (fun k=>L.length - k) 0 (Nat.zero_le _) ?_ ?_)
    ·simp only[I9,List.take_zero,show Zr (cfC a b nm f gs) x []=[] from rfl,ZY,List.map_nil]
     rw[hS]
     (refine Imp.aut ?_ ?_<;>simp[NLe,Zg,hT,hC,hl])
    intro k hk;replace hk:k≤L.length:=hk;simp only[I9];have hpl:(Zr (cfC a b nm f gs) x (L.take k)).length≤1000:=by
     by_cases hkl:k<L.length
     ·obtain ⟨e,he⟩:∃ e,L[k]?=some e:=⟨_,List.getElem?_eq_getElem hkl⟩
      obtain ⟨os,hos,hcan⟩:=X1 hok k e he;have:=(TD hCo x hos).2.2.2.2.1;rw[List.length_take]at this;omega
     ·rw[List.take_of_length_le (by omega)]
      have:=(TD hCo x hok).2.2.2.2.1;omega
    obtain ⟨pr,hpr⟩:∃ p,Zr (cfC a b nm f gs) x (L.take k)=p:=⟨_,rfl⟩;rw[hpr]at hpl⊢;have y1:=YT pr;have y2:=YV pr;have y3:=Va pr;have y4:=X7 pr;have htl:∀ q,V4 q (ZY pr)=true:=fun q=>Zc0 q pr;by_cases hkl:k<L.length
    ·obtain ⟨e,he⟩:∃ e,L[k]?=some e:=⟨_,List.getElem?_eq_getElem hkl⟩
     obtain ⟨os,hos,hcan⟩:=X1 hok k e he;have h23k:=h23 k e.c e.g os hkl hos;have hdt:=XW (L:=L) k;have hsn:=Ys he;have hst:Zr (cfC a b nm f gs) x (L.take (k+1))=if e.k=2∧(ofL f e.c e.g (L.take k)).1.t.nm=x then pr++[e.p] else pr:=by
      rw[hsn,XX,hpr];rfl
     obtain ⟨⟨o,bo⟩,hs⟩:∃ s,ofL f e.c e.g (L.take k)=s:=⟨_,rfl⟩;rw[hs]at h23k hst;obtain ⟨p2,hp2⟩:∃ p,Zr (cfC a b nm f gs) x (L.take (k+1))=p:=⟨_,rfl⟩;rw[hp2]at hst;simp only[ofA,orC]at h23k hst;have ww:IntKind.wrap .i64 ((k:Int)+1)=(k:Int)+1:=Zh (by omega) (by omega);have hg1:=VX he;have hg2:∀ hk,(Zy L)[k]'hk=evR e:=fun hk=>by rw[List.getElem?_eq_getElem hk]at hg1;exact Option.some.inj hg1
     have hkle:k≤L.length:=hk;simp only[evR]at hg1 hg2;by_cases hk2:e.k=2
     ·by_cases hx:o.t.nm=x
      ·rw[if_pos ⟨hk2,hx⟩]at hst
       have q6:=Zb7 pr e.p;rw[← hst]at q6;have hp2l:p2.length=pr.length+1:=(by rw[hst,List.length_append];rfl);have hp2c:((pr.length+1:Nat):Int)=(pr.length:Int)+1:=(by omega);have y5:=YT p2;have y6:=YV p2;simp only[inC]at q6;have b1:(pr.length+1)*8≤140737488355328:=(by omega);have b2:pr.length+1≤9223372036854775807:=(by omega);have b3:pr.length≤9223372036854775806:=by omega
       repeat' with_reducible (first|refine ZR.h ?_|refine zI ?_|((first|refine zK hE ?_|refine zM hE ?_);intro K hK;simp[hT,hC,hl,hD,hkl,hkle,hg1,hg2,h23k,hdt,ww,y1,y2,y4,hk2,hx,q6,b1,b2,b3,htl];(repeat' (first|refine hK _ _ ?_|apply And.intro|(intro hc;try subst hc)))<;>(try clear hK K))|(refine zJ (fun hc=>?_) (fun hc=>?_)<;>simp at hc<;>(try subst hc)))
       all_goals first|(exfalso;omega)|omega|skip
       all_goals refine ⟨k+1,hkl,Nat.sub_lt_sub_left hkl (Nat.lt_succ_self k),?_⟩
       all_goals simp only[I9,hp2]
       all_goals rw[hS]
       all_goals (refine Imp.aut ?_ ?_<;>simp[NLe,Zg,hT,hC,hl,y1,y2,y4,q6,hp2l,y5,y6])
      ·rw[if_neg (fun q=>hx q.2)]at hst
       subst hst
       repeat' with_reducible (first|refine ZR.h ?_|refine zI ?_|((first|refine zK hE ?_|refine zM hE ?_);intro K hK;simp[hT,hC,hl,hD,hkl,hkle,hg1,hg2,h23k,hdt,ww,y1,y2,y4,hk2,hx];(repeat' (first|refine hK _ _ ?_|apply And.intro|(intro hc;try subst hc)))<;>(try clear hK K))|(refine zJ (fun hc=>?_) (fun hc=>?_)<;>simp at hc<;>(try subst hc)))
       all_goals first|(exfalso;omega)|omega|skip
       all_goals refine ⟨k+1,hkl,Nat.sub_lt_sub_left hkl (Nat.lt_succ_self k),?_⟩
       all_goals simp only[I9,hp2]
       all_goals rw[hS]
       all_goals (refine Imp.aut ?_ ?_<;>simp[NLe,Zg,hT,hC,hl,y1,y2,y4])
     ·rw[if_neg (fun q=>hk2 q.1)]at hst
      subst hst
      repeat' with_reducible (first|refine ZR.h ?_|refine zI ?_|((first|refine zK hE ?_|refine zM hE ?_);intro K hK;simp[hT,hC,hl,hD,hkl,hkle,hg1,hg2,h23k,hdt,ww,y1,y2,y4,hk2];(repeat' (first|refine hK _ _ ?_|apply And.intro|(intro hc;try subst hc)))<;>(try clear hK K))|(refine zJ (fun hc=>?_) (fun hc=>?_)<;>simp at hc<;>(try subst hc)))
      all_goals first|(exfalso;omega)|omega|skip
      all_goals refine ⟨k+1,hkl,Nat.sub_lt_sub_left hkl (Nat.lt_succ_self k),?_⟩
      all_goals simp only[I9,hp2]
      all_goals rw[hS]
      all_goals (refine Imp.aut ?_ ?_<;>simp[NLe,Zg,hT,hC,hl,y1,y2,y4])
    ·have hke:k=L.length:=by omega
     subst hke;rw[List.take_of_length_le (Nat.le_refl _)]at hpr;rw[hpr]
     repeat' with_reducible (first|refine ZR.h ?_|refine zI ?_|((first|refine zK hE ?_|refine zM hE ?_);intro K hK;simp[hT,hC,hl,hD,y1,y2,y4];(repeat' (first|refine hK _ _ ?_|apply And.intro|(intro hc;try subst hc)))<;>(try clear hK K))|(refine zJ (fun hc=>?_) (fun hc=>?_)<;>simp at hc<;>(try subst hc)))
     all_goals first|(simp;done)|(simp at *;omega)|((try simp[hT,hC,y1,y2,y4]);refine Imp.aut ?_ ?_<;>simp[NLe,Zg,hT,hC,y1,y2,y4])
   ·cases h
  ·cases h
 ·cases h
end Go.W
