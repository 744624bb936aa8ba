/- A part of the proofs about the pair's laws (LrC, LrD, LrE, LrF, LrG). -/
import Derived.Test.YtnjdphaopmikgaaLrB
namespace Go.W
open Go.Proofs
set_option linter.unusedSimpArgs false
set_option linter.unusedVariables false
set_option maxHeartbeats 8000000
attribute [local irreducible] Wm
attribute [local simp] Yu lkp Ui prs Th prT ddL idL Yn U1 Ren Vz NObj.none ZZ
def d45:List AV→Option Ans
 | [.op _ mc,.int .i64 c,.int .i64 g]=>(match zE mc with
  | some M=>if M.os.length≤100000 then some ⟨.int .i64 (zF (ZC c g M.os)),[.free]⟩ else none
  | none=>none)
 | _=>none
theorem ok45:NOk [(9,false)] d45:=by
 intro xs aa h;unfold d45 at h
 (repeat' (split at h))<;>first|(cases h;done)|(rename_i hm _;obtain rfl:=ZA hm;injection h with h;subst h;refine ⟨Zz ?_,?_⟩<;>simp[Vv,Vt])|(rename_i hm;obtain rfl:=ZA hm;injection h with h;subst h;refine ⟨Zz ?_,?_⟩<;>simp[Vv,Vt])
theorem s45:Sound Try.prog 45 (Zw [(9,false)] d45 ok45):=by
 refine Zm C45.a C45.b C45.c C45.d ok45 (fun xs a h=>?_) fun xs a h w0 S hS=>?_
 ·unfold d45 at h
  (repeat' (split at h))<;>first|(cases h;done)|exact Nat.le_of_ble_eq_true rfl
 unfold d45 at h;split at h
 ·rename_i u mc c g
  split at h
  ·rename_i M hM
   split at h
   ·rename_i hcond
    obtain rfl:=ZA hM;injection h with h;subst h;clear hM;have hE:Zd Try.prog (EL [(48,rdS d48 ok48)]):=Zf (by simp only[List.mem_cons,List.not_mem_nil,or_false,forall_eq_or_imp,forall_eq];exact s48);have hT:=ZP M.os;have hC:=ZO M.os;have hD:=ZaG M.os;have hl:=Yk M.os;have hk:(YZ M.os).take M.os.length=YZ M.os:=List.take_of_length_le (by rw[hl];exact Nat.le_refl _);have hv:Xm vz (YZ M.os)=some M.os:=Zv (f:=vz) (g:=orC) XM M.os;have h48:d48 [.sl (.top 0) 0 M.os.length,.fn 49 [.ptr (.top 1) 0 0,.ptr (.top 2) 0 0]] [.view 0 13 (YZ M.os),.view 0 1 [[.int .i64 c]],.view 0 1 [[.int .i64 g]]]=some (.int .i64 (zF (ZC c g M.os))):=by
     simp only[d48,hv];rw[if_pos ⟨hl.symm,by rw[hl];exact hcond⟩]
    simp only[mdC]at hS⊢;unfold m45
    repeat' with_reducible (first|refine ZR.h ?_|refine zI ?_|(refine zK hE ?_;intro K hK;simp[hT,hC,hD,hl,hk,h48];(repeat' (first|refine hK _ _ ?_|apply And.intro|(intro hc;try subst hc)))<;>(try clear hK K))|(refine zJ (fun hc=>?_) (fun hc=>?_)<;>simp at hc<;>(try subst hc)))
    all_goals first|(simp;done)|(simp at *;omega)|((try simp[hT,hC,hl]);refine Imp.aut ?_ ?_<;>simp[NLe,hT,hC,hl])
   ·cases h
  ·cases h
 ·cases h
theorem Zct {c q:Int} {t:TmZ} (h:ZL c t q 0=0):1≤t.le∧t.le≤q∧0<t.un:=by
 have k:=vR h;unfold ZL at h;rw[if_neg (by omega),if_neg (by omega),if_neg (by omega),if_neg (by omega),if_neg (by omega),if_neg (by omega),if_neg (by omega)]at h;by_cases c8:t.le<1
 ·rw[if_pos c8]at h;omega
 rw[if_neg c8]at h;by_cases c9:q<t.le
 ·rw[if_pos c9]at h;omega
 rw[if_neg c9]at h;by_cases d1:t.un≤0
 ·rw[if_pos d1]at h;omega
 exact ⟨by omega,by omega,by omega⟩
def d40:List AV→List NObj→Option AV
 | [.agg [.int .i64 a,.int .i64 b,.int .i64 c,.int .i64 d,.int .i64 e,.int .i64 f,.int .i64 g],.agg [.int .i64 n0,.int .i64 n1,.int .i64 n2,.int .i64 n3,.int .i64 n4],.int .i64 q,.int .i64 0],[]=>if ZL c ⟨n0,n1,n2,n3,n4⟩ q 0=0 then some (.raw .nilIface) else none
 | _,_=>none
theorem ok40:ROk d40:=by
 intro xs os r h;unfold d40 at h
 (repeat' (split at h))<;>first|(cases h;done)|(injection h with h;subst h;simp)
theorem s40:Sound Try.prog 40 (rdS d40 ok40):=by
 refine Zn C40.a C40.b C40.c C40.d ok40 fun xs os r h vs ρ0 hvs=>⟨xs,?_,fun _ h=>h,fun w0 S hS=>?_⟩
 ·unfold d40 at h
  (repeat' (split at h))<;>first|(cases h;done)|exact Nat.le_of_ble_eq_true rfl
 unfold d40 at h;split at h
 ·split at h
  ·rename_i a b c d e f g n0 n1 n2 n3 n4 q hcond
   injection h with h;subst h;have hE:Zd Try.prog (EL []):=Zf (by simp);obtain ⟨g1,g2,g3,g4,g5,g6,g7,g8⟩:=vR hcond;obtain ⟨g9,g10,g11⟩:=Zct hcond;simp only at g1 g2 g3 g4 g5 g6 g7 g8 g9 g10 g11;have k1:¬ n0<0:=(by omega);have k2:¬ c≤n0:=(by omega);have k4:¬ q<1:=(by omega);have k5:¬ 9999<q:=(by omega);have k6:¬ n2<1:=(by omega);have k7:¬ 9999<n2:=(by omega);have k8:¬ n3<1:=(by omega);have k9:¬ q<n3:=(by omega);have k10:¬ n4≤0:=(by omega);have k11:¬ 1000000<n4:=(by omega);clear hcond;rcases g3 with g3|g3
   ·subst g3
    unfold m40
    repeat' with_reducible (first|refine ZR.h ?_|refine zI ?_|(refine zK hE ?_;intro K hK;simp[k1,k2,k4,k5,k6,k7,k8,k9,k10,k11];(repeat' (first|refine hK _ _ ?_|apply And.intro|(intro hc;try subst hc)))<;>(try clear hK K))|(refine zJ (fun hc=>?_) (fun hc=>?_)<;>simp at hc<;>(try subst hc)))
    all_goals first|(simp;done)|(simp at *;omega)|((try simp);refine Imp.aut ?_ ?_<;>simp[NLe])
   ·subst g3
    unfold m40
    repeat' with_reducible (first|refine ZR.h ?_|refine zI ?_|(refine zK hE ?_;intro K hK;simp[k1,k2,k4,k5,k6,k7,k8,k9,k10,k11];(repeat' (first|refine hK _ _ ?_|apply And.intro|(intro hc;try subst hc)))<;>(try clear hK K))|(refine zJ (fun hc=>?_) (fun hc=>?_)<;>simp at hc<;>(try subst hc)))
    all_goals first|(simp;done)|(simp at *;omega)|((try simp);refine Imp.aut ?_ ?_<;>simp[NLe])
  ·cases h
 ·cases h
def d42:List AV→List NObj→Option AV
 | [.sl (.top 0) 0 2],[.view 0 1 [[.raw .nilIface],[.raw .nilIface]]]=>some (.raw .nilIface)
 | _,_=>none
theorem ok42:ROk d42:=by
 intro xs os r h;unfold d42 at h
 (repeat' (split at h))<;>first|(cases h;done)|(injection h with h;subst h;simp)
theorem s42:Sound Try.prog 42 (rdS d42 ok42):=by
 refine Zn C42.a C42.b C42.c C42.d ok42 fun xs os r h vs ρ0 hvs=>⟨xs,?_,fun _ h=>h,fun w0 S hS=>?_⟩
 ·unfold d42 at h
  (repeat' (split at h))<;>first|(cases h;done)|exact Nat.le_of_ble_eq_true rfl
 unfold d42 at h;split at h
 ·skip
  injection h with h;subst h;have hE:Zd Try.prog (EL []):=Zf (by simp);unfold m42
  repeat' with_reducible (first|refine ZR.h ?_|refine zI ?_|(refine zK hE ?_;intro K hK;simp;(repeat' (first|refine hK _ _ ?_|apply And.intro|(intro hc;try subst hc)))<;>(try clear hK K))|(refine zJ (fun hc=>?_) (fun hc=>?_)<;>simp at hc<;>(try subst hc)))
  all_goals refine Yg 3 ?_
  repeat' with_reducible (first|refine ZR.h ?_|refine zI ?_|(refine zK hE ?_;intro K hK;simp[Zh];(repeat' (first|refine hK _ _ ?_|apply And.intro|(intro hc;try subst hc)))<;>(try clear hK K))|(refine zJ (fun hc=>?_) (fun hc=>?_)<;>simp at hc<;>(try subst hc)))
  all_goals first|(simp;done)|(simp at *;omega)|((try simp);refine Imp.aut ?_ ?_<;>simp[NLe])
 ·cases h
def d41:List AV→Option Ans
 | [.op _ mc,.int .i64 c,.int .i64 g]=>(match zE mc with
  | some M=>(match ZC c g M.os with
   | some i=>(match M.os[i]? with
    | some x=>if M.os.length≤100000∧x.e=0 then some ⟨.tup [.int .i64 (i:Int),.raw .nilIface],[.free]⟩ else none
    | none=>none)
   | none=>none)
  | none=>none)
 | _=>none
theorem ok41:NOk [(9,false)] d41:=by
 intro xs aa h;unfold d41 at h;split at h
 ·split at h
  ·rename_i M hm
   obtain rfl:=ZA hm
   (repeat' (split at h))<;>first|(cases h;done)|(injection h with h;subst h;refine ⟨Zz ?_,?_⟩<;>simp[Vv,Vt])
  ·cases h
 ·cases h
theorem s41:Sound Try.prog 41 (Zw [(9,false)] d41 ok41):=by
 refine Zm C41.a C41.b C41.c C41.d ok41 (fun xs a h=>?_) fun xs a h w0 S hS=>?_
 ·unfold d41 at h
  (repeat' (split at h))<;>first|(cases h;done)|exact Nat.le_of_ble_eq_true rfl
 unfold d41 at h;split at h
 ·rename_i u mc c g
  split at h
  ·rename_i M hM
   split at h
   ·rename_i i hi
    split at h
    ·rename_i x hx
     split at h
     ·rename_i hcond
      obtain rfl:=ZA hM;injection h with h;subst h;clear hM;obtain ⟨hn,he⟩:=hcond;have hE:Zd Try.prog (EL [(45,Zw [(9,false)] d45 ok45)]):=Zf (by simp only[List.mem_cons,List.not_mem_nil,or_false,forall_eq_or_imp,forall_eq];exact s45);have hT:=ZP M.os;have hC:=ZO M.os;have hl:=Yk M.os;have h45:∀ u,d45 [.op u (mdC M),.int .i64 c,.int .i64 g]=some ⟨.int .i64 (i:Int),[.free]⟩:=fun u=>by
       simp only[d45,Yh,hi];rw[if_pos hn];rfl
      have hg:=VY hx;have hge:∀ hk,(YZ M.os)[i]'hk=orC x:=fun hk=>by rw[List.getElem?_eq_getElem hk]at hg;exact Option.some.inj hg
      have hil:i<M.os.length:=(List.getElem?_eq_some_iff.1 hx).1;have hi0:¬ ((i:Int)<0):=(by omega);simp only[orC]at hg hge;simp only[mdC]at hS h45⊢;unfold m41
      repeat' with_reducible (first|refine ZR.h ?_|refine zI ?_|(refine zK hE ?_;intro K hK;simp[hT,hC,hl,h45,hg,hge,hil,hi0,he];(repeat' (first|refine hK _ _ ?_|apply And.intro|(intro hc;try subst hc)))<;>(try clear hK K))|(refine zJ (fun hc=>?_) (fun hc=>?_)<;>simp at hc<;>(try subst hc)))
      all_goals first|(simp;done)|(simp at *;omega)|((try simp[hT,hC,hl]);refine Imp.aut ?_ ?_<;>simp[NLe,hT,hC,hl])
     ·cases h
    ·cases h
   ·cases h
  ·cases h
 ·cases h
def UP (F:Int) (x:OrZ):Int:=if x.l=0 then 5 else if F≤x.f then 8 else 0
def d43:List AV→Option Ans
 | [.op _ mc,.agg oc]=>(match zE mc,vz oc with
  | some M,some x=>some ⟨.int .i64 (UP M.f x),[.free]⟩
  | _,_=>none)
 | _=>none
theorem ok43:NOk [(9,false)] d43:=by
 intro xs aa h;unfold d43 at h;split at h
 ·split at h
  ·rename_i M x hm hx
   obtain rfl:=ZA hm;obtain rfl:=VK hx;injection h with h;subst h;refine ⟨Zz ?_,?_⟩<;>simp[Vv,Vt,orC]
  ·cases h
 ·cases h
theorem s43:Sound Try.prog 43 (Zw [(9,false)] d43 ok43):=by
 refine Zm C43.a C43.b C43.c C43.d ok43 (fun xs a h=>?_) fun xs a h w0 S hS=>?_
 ·unfold d43 at h
  (repeat' (split at h))<;>first|(cases h;done)|exact Nat.le_of_ble_eq_true rfl
 unfold d43 at h;split at h
 ·rename_i u mc oc
  split at h
  ·rename_i M x hM hx
   obtain rfl:=ZA hM;obtain rfl:=VK hx;injection h with h;subst h;clear hM hx;have hE:Zd Try.prog (EL []):=Zf (by simp only[List.not_mem_nil,false_imp_iff,implies_true]);have hT:=ZP M.os;have hC:=ZO M.os;have hl:=Yk M.os;simp only[mdC,orC]at hS⊢;by_cases h1:x.l=0
   ·have hv:UP M.f x=5:=by simp[UP,h1]
    rw[hv];unfold m43
    repeat' with_reducible (first|refine ZR.h ?_|refine zI ?_|((first|refine zK hE ?_|refine zM hE ?_);intro K hK;simp[hT,hC,hl,h1];(repeat' (first|refine hK _ _ ?_|apply And.intro|(intro hc;try subst hc)))<;>(try clear hK K))|(refine zJ (fun hc=>?_) (fun hc=>?_)<;>simp at hc<;>(try subst hc)))
    all_goals first|(simp;done)|(simp at *;omega)|((try simp[hT,hC,hl]);refine Imp.aut ?_ ?_<;>simp[NLe,hT,hC,hl])
   ·by_cases h2:M.f≤x.f
    ·have hv:UP M.f x=8:=by simp[UP,h1,h2]
     rw[hv];unfold m43
     repeat' with_reducible (first|refine ZR.h ?_|refine zI ?_|((first|refine zK hE ?_|refine zM hE ?_);intro K hK;simp[hT,hC,hl,h1,h2];(repeat' (first|refine hK _ _ ?_|apply And.intro|(intro hc;try subst hc)))<;>(try clear hK K))|(refine zJ (fun hc=>?_) (fun hc=>?_)<;>simp at hc<;>(try subst hc)))
     all_goals first|(simp;done)|(simp at *;omega)|((try simp[hT,hC,hl]);refine Imp.aut ?_ ?_<;>simp[NLe,hT,hC,hl])
    ·have hv:UP M.f x=0:=by simp[UP,h1,h2]
     rw[hv];unfold m43
     repeat' with_reducible (first|refine ZR.h ?_|refine zI ?_|((first|refine zK hE ?_|refine zM hE ?_);intro K hK;simp[hT,hC,hl,h1,h2];(repeat' (first|refine hK _ _ ?_|apply And.intro|(intro hc;try subst hc)))<;>(try clear hK K))|(refine zJ (fun hc=>?_) (fun hc=>?_)<;>simp at hc<;>(try subst hc)))
     all_goals first|(simp;done)|(simp at *;omega)|((try simp[hT,hC,hl]);refine Imp.aut ?_ ?_<;>simp[NLe,hT,hC,hl])
  ·cases h
 ·cases h
theorem zc {c:Int} {x:OrZ}:∀ (L:List OrZ),X3 c (L++[x])=if x.c=c then some L.length else X3 c L
 | []=>rfl
 | y :: r=>by
  have h:=zc (c:=c) (x:=x) r;simp only[List.cons_append,X3,h];by_cases e:x.c=c
  ·simp[e]
  ·simp only[if_neg e]
theorem xl {c:Int} {os:List OrZ} {k:Nat} {x:OrZ} (hx:os[k]?=some x):X3 c (os.take (k+1))=if x.c=c then some k else X3 c (os.take k):=by
 obtain ⟨h1,h2⟩:=List.getElem?_eq_some_iff.1 hx;rw[List.take_add_one,hx,Option.toList_some,zc,List.length_take,Nat.min_eq_left (Nat.le_of_lt h1)]
def d39:List AV→Option Ans
 | [.op _ mc,.int .i64 c]=>(match zE mc with
  | some M=>if M.os.length≤100000 then some ⟨.int .i64 (zF (X3 c M.os)),[.free]⟩ else none
  | none=>none)
 | _=>none
theorem ok39:NOk [(9,false)] d39:=by
 intro xs aa h;unfold d39 at h
 (repeat' (split at h))<;>first|(cases h;done)|(rename_i hm _;obtain rfl:=ZA hm;injection h with h;subst h;refine ⟨Zz ?_,?_⟩<;>simp[Vv,Vt])|(rename_i hm;obtain rfl:=ZA hm;injection h with h;subst h;refine ⟨Zz ?_,?_⟩<;>simp[Vv,Vt])
def I39 (M:MdZ) (c:Int) (i:Nat):St:=⟨[(1,.int .i64 c),(5,.int .i64 (zF (X3 c (M.os.take i)))),(11,.sl ((Nm.top 0).sub 0 0 7) 0 M.os.length),(12,.int .i64 M.os.length),(13,.int .i64 i)],[(0,.view 0 9 [[.int .i64 M.a,.int .i64 M.b,.int .i64 M.c,.int .i64 M.d,.int .i64 M.e,.int .i64 M.f,.int .i64 M.g,.os 0 13 (YZ M.os),.int .i64 M.now]])],1⟩
theorem s39:Sound Try.prog 39 (Zw [(9,false)] d39 ok39):=by
 refine Zm C39.a C39.b C39.c C39.d ok39 (fun xs a h=>?_) fun xs a h w0 S hS=>?_
 ·unfold d39 at h
  (repeat' (split at h))<;>first|(cases h;done)|exact Nat.le_of_ble_eq_true rfl
 unfold d39 at h;split at h
 ·rename_i u mc c
  split at h
  ·rename_i M hM
   split at h
   ·rename_i hcond
    obtain rfl:=ZA hM;injection h with h;subst h;clear hM;have hE:Zd Try.prog (EL []):=Zf (by simp only[List.not_mem_nil,false_imp_iff,implies_true]);have hT:=ZP M.os;have hC:=ZO M.os;have hD:=ZaG M.os;have hl:=Yk M.os;simp only[mdC]at hS⊢;unfold m39
    repeat' with_reducible (first|refine ZR.h ?_|refine zI ?_|(refine zK hE ?_;intro K hK;simp[hT,hC,hD,hl];(repeat' (first|refine hK _ _ ?_|apply And.intro|(intro hc;try subst hc)))<;>(try clear hK K))|(refine zJ (fun hc=>?_) (fun hc=>?_)<;>simp at hc<;>(try subst hc)))
    all_goals (refine Z4 (fun i=>I39 M c i) (fun i=>i≤M.os.length) (fun i=>M.os.length - i) 0 (Nat.zero_le _) ?_ ?_)
    ·simp only[I39]
     rw[hS]
     (refine Imp.aut ?_ ?_<;>simp[NLe,Zg,hT,hC,hl,zF,X3])
    ·intro i hi
     (try simp only at hi)
     simp only[I39];by_cases hil:i<M.os.length
     ·obtain ⟨x,hx⟩:∃ x,M.os[i]?=some x:=⟨_,List.getElem?_eq_getElem hil⟩
      have hg:=VY hx;have hge:∀ hk,(YZ M.os)[i]'hk=orC x:=fun hk=>by rw[List.getElem?_eq_getElem hk]at hg;exact Option.some.inj hg
      have ww:IntKind.wrap .i64 ((i:Int)+1)=(i:Int)+1:=Zh (by omega) (by omega);have hk:=xl (c:=c) hx;simp only[orC]at hg hge;by_cases hb:x.c=c
      ·rw[if_pos hb]at hk
       repeat' with_reducible (first|refine ZR.h ?_|refine zI ?_|(refine zK hE ?_;intro K hK;simp[hT,hC,hD,hl,hil,hg,hge,hb,ww];(repeat' (first|refine hK _ _ ?_|apply And.intro|(intro hc;try subst hc)))<;>(try clear hK K))|(refine zJ (fun hc=>?_) (fun hc=>?_)<;>simp at hc<;>(try subst hc)))
       all_goals refine ⟨i+1,hil,Nat.sub_lt_sub_left hil (Nat.lt_succ_self i),?_⟩
       all_goals rw[hS]
       all_goals simp only[I39,hk,zF]
       all_goals (refine Imp.aut ?_ ?_<;>simp[NLe,Zg,hT,hC,hl])
      ·rw[if_neg hb]at hk
       repeat' with_reducible (first|refine ZR.h ?_|refine zI ?_|(refine zK hE ?_;intro K hK;simp[hT,hC,hD,hl,hil,hg,hge,hb,ww];(repeat' (first|refine hK _ _ ?_|apply And.intro|(intro hc;try subst hc)))<;>(try clear hK K))|(refine zJ (fun hc=>?_) (fun hc=>?_)<;>simp at hc<;>(try subst hc)))
       all_goals refine ⟨i+1,hil,Nat.sub_lt_sub_left hil (Nat.lt_succ_self i),?_⟩
       all_goals rw[hS]
       all_goals simp only[I39,hk]
       all_goals (refine Imp.aut ?_ ?_<;>simp[NLe,Zg,hT,hC,hl])
     ·have hie:i=M.os.length:=by omega
      subst hie;rw[List.take_length]
      repeat' with_reducible (first|refine ZR.h ?_|refine zI ?_|(refine zK hE ?_;intro K hK;simp[hT,hC,hD,hl];(repeat' (first|refine hK _ _ ?_|apply And.intro|(intro hc;try subst hc)))<;>(try clear hK K))|(refine zJ (fun hc=>?_) (fun hc=>?_)<;>simp at hc<;>(try subst hc)))
      all_goals first|(simp;done)|(simp at *;omega)|((try simp[hT,hC,hl]);refine Imp.aut ?_ ?_<;>simp[NLe,hT,hC,hl])
   ·cases h
  ·cases h
 ·cases h
end Go.W
