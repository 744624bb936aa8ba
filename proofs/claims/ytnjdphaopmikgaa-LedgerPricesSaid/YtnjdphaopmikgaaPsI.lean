/- A part of the proofs about the pair's laws (PsH, PsI). -/
import Derived.Test.YtnjdphaopmikgaaPsG
namespace Go.W
open Go.Proofs
set_option linter.unusedSimpArgs false
set_option linter.unusedVariables false
set_option maxHeartbeats 8000000
attribute [local irreducible] Wm
attribute [local simp] Yu lkp Ui prs Th prT ddL idL Yn U1 Ren Vz NObj.none ZZ
def d50:List AV→List NObj→Option AV
 | [.int .i64 a,.int .i64 b],[]=>if a≤b then some (.int .i64 0) else none
 | _,_=>none
theorem ok50:ROk d50:=by
 intro xs os r h;unfold d50 at h
 (repeat' (split at h))<;>first|(cases h;done)|(injection h with h;subst h;simp)
theorem s50:Sound Try.prog 50 (rdS d50 ok50):=by
 refine Zn C50.a C50.b C50.c C50.d ok50 fun xs os r h vs ρ0 hvs=>⟨xs,?_,fun _ h=>h,fun w0 S hS=>?_⟩
 ·unfold d50 at h
  (repeat' (split at h))<;>first|(cases h;done)|exact Nat.le_of_ble_eq_true rfl
 unfold d50 at h;split at h
 ·split at h
  ·rename_i a b hcond
   injection h with h;subst h;have hE:Zd Try.prog (EL []):=Zf (by simp);have h1:¬ b<a:=(by omega);unfold m50
   repeat' with_reducible (first|refine ZR.h ?_|refine zI ?_|(refine zK hE ?_;intro K hK;simp[h1];(repeat' (first|refine hK _ _ ?_|apply And.intro|(intro hc;try subst hc)))<;>(try clear hK K))|(refine zJ (fun hc=>?_) (fun hc=>?_)<;>simp at hc<;>(try subst hc)))
   all_goals first|(simp;done)|(simp at *;omega)|((try simp);refine Imp.aut ?_ ?_<;>simp[NLe])
  ·cases h
 ·cases h
def d47:List AV→List NObj→Option AV
 | [.int .i64 a,.int .i64 b],[]=>if 0≤a∧a≤b∧b≤1000000 then some (.int .i64 (a+(b - a) / 2)) else none
 | _,_=>none
theorem ok47:ROk d47:=by
 intro xs os r h;unfold d47 at h
 (repeat' (split at h))<;>first|(cases h;done)|(injection h with h;subst h;simp)
theorem s47:Sound Try.prog 47 (rdS d47 ok47):=by
 refine Zn C47.a C47.b C47.c C47.d ok47 fun xs os r h vs ρ0 hvs=>⟨xs,?_,fun _ h=>h,fun w0 S hS=>?_⟩
 ·unfold d47 at h
  (repeat' (split at h))<;>first|(cases h;done)|exact Nat.le_of_ble_eq_true rfl
 unfold d47 at h;split at h
 ·split at h
  ·rename_i a b hcond
   injection h with h;subst h;have hE:Zd Try.prog (EL [(50,rdS d50 ok50)]):=Zf (by simp only[List.mem_cons,List.not_mem_nil,or_false,forall_eq_or_imp,forall_eq];exact s50);obtain ⟨h0,h1,h2⟩:=hcond;have w1:IntKind.wrap .i64 (b - a)=b - a:=Zh (by omega) (by omega);have w2:IntKind.wrap .i64 ((b - a).tdiv 2)=(b - a) / 2:=VE (by omega) (by omega) (by omega);have w3:IntKind.wrap .i64 (a+(b - a) / 2)=a+(b - a) / 2:=Zh (by omega) (by omega);unfold m47
   repeat' with_reducible (first|refine ZR.h ?_|refine zI ?_|(refine zK hE ?_;intro K hK;simp[h1,w1,w2,w3,d50];(repeat' (first|refine hK _ _ ?_|apply And.intro|(intro hc;try subst hc)))<;>(try clear hK K))|(refine zJ (fun hc=>?_) (fun hc=>?_)<;>simp at hc<;>(try subst hc)))
   all_goals first|(simp;done)|(simp at *;omega)|((try simp);refine Imp.aut ?_ ?_<;>simp[NLe])
  ·cases h
 ·cases h
def Zb (a b:TmZ) (l o:Int):Int×Int :=
 if (if a.sd=1 then b.sd else a.sd)≠0 then (0,0) else if (if a.sd=1 then a.sd else b.sd)≠1 then (0,0) else if a.nm≠b.nm then (0,0)
 else if (if a.sd=1 then b.pr else a.pr)<(if a.sd=1 then a.pr else b.pr) then (0,0)
 else if (if o<l then o else l)<1 then (0,0) else if (if o<l then o else l)<(if a.le<b.le then b.le else a.le) then (0,0)
 else (if o<l then o else l,(if a.sd=1 then a.pr else b.pr)+((if a.sd=1 then b.pr else a.pr) - (if a.sd=1 then a.pr else b.pr)) / 2)
def d44:List AV→List NObj→Option AV
 | [.agg [.int .i64 a0,.int .i64 a1,.int .i64 a2,.int .i64 a3,.int .i64 a4],.agg [.int .i64 b0,.int .i64 b1,.int .i64 b2,.int .i64 b3,.int .i64 b4],.int .i64 l,.int .i64 o],[]=>if 0≤a2∧a2≤1000000∧0≤b2∧b2≤1000000 then some (.agg [.int .i64 (Zb ⟨a0,a1,a2,a3,a4⟩ ⟨b0,b1,b2,b3,b4⟩ l o).1,.int .i64 (Zb ⟨a0,a1,a2,a3,a4⟩ ⟨b0,b1,b2,b3,b4⟩ l o).2]) else none
 | _,_=>none
theorem ok44:ROk d44:=by
 intro xs os r h;unfold d44 at h
 (repeat' (split at h))<;>first|(cases h;done)|(injection h with h;subst h;simp)
theorem s44:Sound Try.prog 44 (rdS d44 ok44):=by
 refine Zn C44.a C44.b C44.c C44.d ok44 fun xs os r h vs ρ0 hvs=>⟨xs,?_,fun _ h=>h,fun w0 S hS=>?_⟩
 ·unfold d44 at h
  (repeat' (split at h))<;>first|(cases h;done)|exact Nat.le_of_ble_eq_true rfl
 unfold d44 at h;split at h
 ·split at h
  ·rename_i a0 a1 a2 a3 a4 b0 b1 b2 b3 b4 l o hcond
   injection h with h;subst h;have hE:Zd Try.prog (EL [(47,rdS d47 ok47)]):=Zf (by simp only[List.mem_cons,List.not_mem_nil,or_false,forall_eq_or_imp,forall_eq];exact s47);obtain ⟨hp0,hp1,hp2,hp3⟩:=hcond;obtain ⟨q,hq⟩:∃ q,(if o<l then o else l)=q:=⟨_,rfl⟩;obtain ⟨mx,hm⟩:∃ mx,(if a3<b3 then b3 else a3)=mx:=⟨_,rfl⟩;by_cases h0:a1=1
   ·skip
    by_cases h1:b1≠0
    ·unfold m44
     repeat' with_reducible (first|refine ZR.h ?_|refine zI ?_|((first|refine zK hE ?_|refine zM hE ?_);intro K hK;simp[h1,h0,hq,hm,Zb,d47];(repeat' (first|refine hK _ _ ?_|apply And.intro|(intro hc;try subst hc)))<;>(try clear hK K))|(refine zJ (fun hc=>?_) (fun hc=>?_)<;>simp at hc<;>(try subst hc)))
     all_goals first|(simp;done)|(simp at *;omega)|((try simp[h1,h0,hq,hm,Zb]);refine Imp.aut ?_ ?_<;>simp[NLe,h1,h0,hq,hm,Zb])
    ·have h1':b1=0:=by omega
     by_cases h3:a0≠b0
     ·unfold m44
      repeat' with_reducible (first|refine ZR.h ?_|refine zI ?_|((first|refine zK hE ?_|refine zM hE ?_);intro K hK;simp[h1',h3,h0,hq,hm,Zb,d47];(repeat' (first|refine hK _ _ ?_|apply And.intro|(intro hc;try subst hc)))<;>(try clear hK K))|(refine zJ (fun hc=>?_) (fun hc=>?_)<;>simp at hc<;>(try subst hc)))
      all_goals first|(simp;done)|(simp at *;omega)|((try simp[h1',h3,h0,hq,hm,Zb]);refine Imp.aut ?_ ?_<;>simp[NLe,h1',h3,h0,hq,hm,Zb])
     ·have h3':a0=b0:=by omega
      by_cases h4:b2<a2
      ·unfold m44
       repeat' with_reducible (first|refine ZR.h ?_|refine zI ?_|((first|refine zK hE ?_|refine zM hE ?_);intro K hK;simp[h1',h3',h4,h0,hq,hm,Zb,d47];(repeat' (first|refine hK _ _ ?_|apply And.intro|(intro hc;try subst hc)))<;>(try clear hK K))|(refine zJ (fun hc=>?_) (fun hc=>?_)<;>simp at hc<;>(try subst hc)))
       all_goals first|(simp;done)|(simp at *;omega)|((try simp[h1',h3',h4,h0,hq,hm,Zb]);refine Imp.aut ?_ ?_<;>simp[NLe,h1',h3',h4,h0,hq,hm,Zb])
      ·by_cases h5:q<1
       ·unfold m44
        repeat' with_reducible (first|refine ZR.h ?_|refine zI ?_|((first|refine zK hE ?_|refine zM hE ?_);intro K hK;simp[h1',h3',h4,h5,h0,hq,hm,Zb,d47];(repeat' (first|refine hK _ _ ?_|apply And.intro|(intro hc;try subst hc)))<;>(try clear hK K))|(refine zJ (fun hc=>?_) (fun hc=>?_)<;>simp at hc<;>(try subst hc)))
        all_goals first|(simp;done)|(simp at *;omega)|((try simp[h1',h3',h4,h5,h0,hq,hm,Zb]);refine Imp.aut ?_ ?_<;>simp[NLe,h1',h3',h4,h5,h0,hq,hm,Zb])
       ·by_cases h6:q<mx
        ·unfold m44
         repeat' with_reducible (first|refine ZR.h ?_|refine zI ?_|((first|refine zK hE ?_|refine zM hE ?_);intro K hK;simp[h1',h3',h4,h5,h6,h0,hq,hm,Zb,d47];(repeat' (first|refine hK _ _ ?_|apply And.intro|(intro hc;try subst hc)))<;>(try clear hK K))|(refine zJ (fun hc=>?_) (fun hc=>?_)<;>simp at hc<;>(try subst hc)))
         all_goals first|(simp;done)|(simp at *;omega)|((try simp[h1',h3',h4,h5,h6,h0,hq,hm,Zb]);refine Imp.aut ?_ ?_<;>simp[NLe,h1',h3',h4,h5,h6,h0,hq,hm,Zb])
        ·have hr1:0≤a2∧a2≤b2∧b2≤1000000:=by omega
         have hr2:a2≤b2:=(by omega);unfold m44
         repeat' with_reducible (first|refine ZR.h ?_|refine zI ?_|((first|refine zK hE ?_|refine zM hE ?_);intro K hK;simp[h1',h3',h4,h5,h6,h0,hq,hm,Zb,hr1,hr2,d47];(repeat' (first|refine hK _ _ ?_|apply And.intro|(intro hc;try subst hc)))<;>(try clear hK K))|(refine zJ (fun hc=>?_) (fun hc=>?_)<;>simp at hc<;>(try subst hc)))
         all_goals first|(simp;done)|(simp at *;omega)|((try simp[h1',h3',h4,h5,h6,h0,hq,hm,Zb,hr1,hr2]);refine Imp.aut ?_ ?_<;>simp[NLe,h1',h3',h4,h5,h6,h0,hq,hm,Zb,hr1,hr2])
   ·skip
    by_cases h1:a1≠0
    ·unfold m44
     repeat' with_reducible (first|refine ZR.h ?_|refine zI ?_|((first|refine zK hE ?_|refine zM hE ?_);intro K hK;simp[h1,h0,hq,hm,Zb,d47];(repeat' (first|refine hK _ _ ?_|apply And.intro|(intro hc;try subst hc)))<;>(try clear hK K))|(refine zJ (fun hc=>?_) (fun hc=>?_)<;>simp at hc<;>(try subst hc)))
     all_goals first|(simp;done)|(simp at *;omega)|((try simp[h1,h0,hq,hm,Zb]);refine Imp.aut ?_ ?_<;>simp[NLe,h1,h0,hq,hm,Zb])
    ·have h1':a1=0:=by omega
     by_cases h2:b1≠1
     ·unfold m44
      repeat' with_reducible (first|refine ZR.h ?_|refine zI ?_|((first|refine zK hE ?_|refine zM hE ?_);intro K hK;simp[h1',h2,h0,hq,hm,Zb,d47];(repeat' (first|refine hK _ _ ?_|apply And.intro|(intro hc;try subst hc)))<;>(try clear hK K))|(refine zJ (fun hc=>?_) (fun hc=>?_)<;>simp at hc<;>(try subst hc)))
      all_goals first|(simp;done)|(simp at *;omega)|((try simp[h1',h2,h0,hq,hm,Zb]);refine Imp.aut ?_ ?_<;>simp[NLe,h1',h2,h0,hq,hm,Zb])
     ·have h2':b1=1:=by omega
      by_cases h3:a0≠b0
      ·unfold m44
       repeat' with_reducible (first|refine ZR.h ?_|refine zI ?_|((first|refine zK hE ?_|refine zM hE ?_);intro K hK;simp[h1',h2',h3,h0,hq,hm,Zb,d47];(repeat' (first|refine hK _ _ ?_|apply And.intro|(intro hc;try subst hc)))<;>(try clear hK K))|(refine zJ (fun hc=>?_) (fun hc=>?_)<;>simp at hc<;>(try subst hc)))
       all_goals first|(simp;done)|(simp at *;omega)|((try simp[h1',h2',h3,h0,hq,hm,Zb]);refine Imp.aut ?_ ?_<;>simp[NLe,h1',h2',h3,h0,hq,hm,Zb])
      ·have h3':a0=b0:=by omega
       by_cases h4:a2<b2
       ·unfold m44
        repeat' with_reducible (first|refine ZR.h ?_|refine zI ?_|((first|refine zK hE ?_|refine zM hE ?_);intro K hK;simp[h1',h2',h3',h4,h0,hq,hm,Zb,d47];(repeat' (first|refine hK _ _ ?_|apply And.intro|(intro hc;try subst hc)))<;>(try clear hK K))|(refine zJ (fun hc=>?_) (fun hc=>?_)<;>simp at hc<;>(try subst hc)))
        all_goals first|(simp;done)|(simp at *;omega)|((try simp[h1',h2',h3',h4,h0,hq,hm,Zb]);refine Imp.aut ?_ ?_<;>simp[NLe,h1',h2',h3',h4,h0,hq,hm,Zb])
       ·by_cases h5:q<1
        ·unfold m44
         repeat' with_reducible (first|refine ZR.h ?_|refine zI ?_|((first|refine zK hE ?_|refine zM hE ?_);intro K hK;simp[h1',h2',h3',h4,h5,h0,hq,hm,Zb,d47];(repeat' (first|refine hK _ _ ?_|apply And.intro|(intro hc;try subst hc)))<;>(try clear hK K))|(refine zJ (fun hc=>?_) (fun hc=>?_)<;>simp at hc<;>(try subst hc)))
         all_goals first|(simp;done)|(simp at *;omega)|((try simp[h1',h2',h3',h4,h5,h0,hq,hm,Zb]);refine Imp.aut ?_ ?_<;>simp[NLe,h1',h2',h3',h4,h5,h0,hq,hm,Zb])
        ·by_cases h6:q<mx
         ·unfold m44
          repeat' with_reducible (first|refine ZR.h ?_|refine zI ?_|((first|refine zK hE ?_|refine zM hE ?_);intro K hK;simp[h1',h2',h3',h4,h5,h6,h0,hq,hm,Zb,d47];(repeat' (first|refine hK _ _ ?_|apply And.intro|(intro hc;try subst hc)))<;>(try clear hK K))|(refine zJ (fun hc=>?_) (fun hc=>?_)<;>simp at hc<;>(try subst hc)))
          all_goals first|(simp;done)|(simp at *;omega)|((try simp[h1',h2',h3',h4,h5,h6,h0,hq,hm,Zb]);refine Imp.aut ?_ ?_<;>simp[NLe,h1',h2',h3',h4,h5,h6,h0,hq,hm,Zb])
         ·have hr1:0≤b2∧b2≤a2∧a2≤1000000:=by omega
          have hr2:b2≤a2:=(by omega);unfold m44
          repeat' with_reducible (first|refine ZR.h ?_|refine zI ?_|((first|refine zK hE ?_|refine zM hE ?_);intro K hK;simp[h1',h2',h3',h4,h5,h6,h0,hq,hm,Zb,hr1,hr2,d47];(repeat' (first|refine hK _ _ ?_|apply And.intro|(intro hc;try subst hc)))<;>(try clear hK K))|(refine zJ (fun hc=>?_) (fun hc=>?_)<;>simp at hc<;>(try subst hc)))
          all_goals first|(simp;done)|(simp at *;omega)|((try simp[h1',h2',h3',h4,h5,h6,h0,hq,hm,Zb,hr1,hr2]);refine Imp.aut ?_ ?_<;>simp[NLe,h1',h2',h3',h4,h5,h6,h0,hq,hm,Zb,hr1,hr2])
  ·cases h
 ·cases h
def d16:List AV→List NObj→Option AV
 | [.str _,.iface _ _],[]=>some (.iface 86 .bot)
 | _,_=>none
theorem ok16:ROk d16:=by
 intro xs os r h;unfold d16 at h
 (repeat' (split at h))<;>first|(cases h;done)|(injection h with h;subst h;simp)
theorem s16:Sound Try.prog 16 (rdS d16 ok16):=by
 refine Zn C16.a C16.b C16.c C16.d ok16 fun xs os r h vs ρ0 hvs=>⟨xs,?_,fun _ h=>h,fun w0 S hS=>?_⟩
 ·unfold d16 at h
  (repeat' (split at h))<;>first|(cases h;done)|exact Nat.le_of_ble_eq_true rfl
 unfold d16 at h;split at h
 ·skip
  injection h with h;subst h;have hE:Zd Try.prog (EL []):=Zf (by simp);unfold m16
  repeat' with_reducible (first|refine ZR.h ?_|refine zI ?_|(refine zK hE ?_;intro K hK;simp;(repeat' (first|refine hK _ _ ?_|apply And.intro|(intro hc;try subst hc)))<;>(try clear hK K))|(refine zJ (fun hc=>?_) (fun hc=>?_)<;>simp at hc<;>(try subst hc)))
  all_goals first|(simp;done)|(simp at *;omega)|((try simp);refine Imp.aut ?_ ?_<;>simp[NLe])
 ·cases h
def d14:List AV→Option Ans
 | [.agg [.int .i64 a,.int .i64 b,.int .i64 c,.int .i64 d,.int .i64 e,.int .i64 f,.int .i64 g]]=>some ⟨.os 0 4 [[(.str (ByteArray.mk #[112,97,114,116,115])),.int .i64 a,.int .i64 1,.int .i64 6],[(.str (ByteArray.mk #[99,101,108,108,115])),.int .i64 b,.int .i64 1,.int .i64 4],[(.str (ByteArray.mk #[110,97,109,101,115])),.int .i64 c,.int .i64 1,.int .i64 3],[(.str (ByteArray.mk #[98,97,110,100,115])),.int .i64 d,.int .i64 1,.int .i64 4],[(.str (ByteArray.mk #[112,114,111,98,101,115])),.int .i64 e,.int .i64 0,.int .i64 4],[(.str (ByteArray.mk #[102,105,108,108,115])),.int .i64 f,.int .i64 1,.int .i64 4],[(.str (ByteArray.mk #[103,101,110,115])),.int .i64 g,.int .i64 1,.int .i64 15]],[]⟩
 | _=>none
theorem ok14:NOk [] d14:=by
 intro xs a h;unfold d14 at h
 (repeat' (split at h))<;>first|(cases h;done)|(injection h with h;subst h;refine ⟨Zz ?_,?_⟩<;>simp)
theorem s14:Sound Try.prog 14 (Zw [] d14 ok14):=by
 refine Zm C14.a C14.b C14.c C14.d ok14 (fun xs a h=>?_) fun xs a h w0 S hS=>?_
 ·unfold d14 at h
  (repeat' (split at h))<;>first|(cases h;done)|exact Nat.le_of_ble_eq_true rfl
 unfold d14 at h;split at h
 ·rename_i a b c d e f g
  injection h with h;subst h;have hE:Zd Try.prog (EL []):=Zf (by simp);unfold m14
  repeat' with_reducible (first|refine ZR.h ?_|refine zI ?_|(refine zK hE ?_;intro K hK;simp;(repeat' (first|refine hK _ _ ?_|apply And.intro|(intro hc;try subst hc)))<;>(try clear hK K))|(refine zJ (fun hc=>?_) (fun hc=>?_)<;>simp at hc<;>(try subst hc)))
  all_goals first|(simp;done)|(simp at *;omega)|((try simp);refine Imp.aut ?_ ?_<;>simp[NLe])
 ·cases h
def Yy (a b c d e f g:Int):Int :=
 if a<1∨6<a then 0 else if b<1∨4<b then 1 else if c<1∨3<c then 2 else if d<1∨4<d then 3 else if e<0∨4<e then 4 else if f<1∨4<f then 5 else if g<1∨15<g then 6 else -1
theorem Zak (a b c d e f g:Int):(Yy a b c d e f g=-1)=(VA a b c d e f g=true):=by
 unfold Yy VA;rw[decide_eq_true_eq];apply propext
 repeat' split
 all_goals omega
def d5:List AV→Option Ans
 | [.agg [.int .i64 a,.int .i64 b,.int .i64 c,.int .i64 d,.int .i64 e,.int .i64 f,.int .i64 g]]=>some ⟨.int .i64 (Yy a b c d e f g),[]⟩
 | _=>none
theorem ok5:NOk [] d5:=by
 intro xs a h;unfold d5 at h
 (repeat' (split at h))<;>first|(cases h;done)|(injection h with h;subst h;refine ⟨Zz ?_,?_⟩<;>simp)
theorem s5:Sound Try.prog 5 (Zw [] d5 ok5):=by
 refine Zm C5.a C5.b C5.c C5.d ok5 (fun xs a h=>?_) fun xs a h w0 S hS=>?_
 ·unfold d5 at h
  (repeat' (split at h))<;>first|(cases h;done)|exact Nat.le_of_ble_eq_true rfl
 unfold d5 at h;split at h
 ·rename_i a b c d e f g
  injection h with h;subst h;have hE:Zd Try.prog (EL []):=Zf (by simp);unfold m5
  repeat' with_reducible (first|refine ZR.h ?_|refine zI ?_|((first|refine zK hE ?_|refine zM hE ?_);intro K hK;simp;(repeat' (first|refine hK _ _ ?_|apply And.intro|(intro hc;try subst hc)))<;>(try clear hK K))|(refine zJ (fun hc=>?_) (fun hc=>?_)<;>simp at hc<;>(try subst hc)))
  all_goals refine Yg 8 ?_
  repeat' with_reducible (first|refine ZR.h ?_|refine zI ?_|((first|refine zK hE ?_|refine zM hE ?_);intro K hK;simp[Zh];(repeat' (first|refine hK _ _ ?_|apply And.intro|(intro hc;try subst hc)))<;>(try clear hK K))|(refine zJ (fun hc=>?_) (fun hc=>?_)<;>simp at hc<;>(try subst hc)))
  all_goals first|(simp;done)|((try simp[Yy]);refine Imp.aut ?_ ?_<;>simp[NLe]<;>grind)
 ·cases h
def d4:List AV→Option Ans
 | [.agg [.int .i64 a,.int .i64 b,.int .i64 c,.int .i64 d,.int .i64 e,.int .i64 f,.int .i64 g]]=>some ⟨if Yy a b c d e f g=-1 then .tup [.agg [.int .i64 a,.int .i64 b,.int .i64 c,.int .i64 d,.int .i64 e,.int .i64 f,.int .i64 g],.raw .nilIface] else .tup [.agg [.int .i64 0,.int .i64 0,.int .i64 0,.int .i64 0,.int .i64 0,.int .i64 0,.int .i64 0],.iface 83 .bot],[]⟩
 | _=>none
theorem ok4:NOk [] d4:=by
 intro xs a h;unfold d4 at h;split at h
 ·injection h with h;subst h
  split<;>refine ⟨Zz ?_,?_⟩<;>simp
 ·cases h
theorem s4:Sound Try.prog 4 (Zw [] d4 ok4):=by
 refine Zm C4.a C4.b C4.c C4.d ok4 (fun xs a h=>?_) fun xs a h w0 S hS=>?_
 ·unfold d4 at h
  (repeat' (split at h))<;>first|(cases h;done)|exact Nat.le_of_ble_eq_true rfl
 unfold d4 at h;split at h
 ·rename_i a b c d e f g
  injection h with h;subst h;have hE:Zd Try.prog (EL [(14,Zw [] d14 ok14),(15,rdS d15 ok15),(16,rdS d16 ok16)]):=Zf (by simp only[List.mem_cons,List.not_mem_nil,or_false,forall_eq_or_imp,forall_eq];exact ⟨s14,s15,s16⟩);unfold m4
  repeat' with_reducible (first|refine ZR.h ?_|refine zI ?_|(refine zK hE ?_;intro K hK;simp[d14,d15,d16];(repeat' (first|refine hK _ _ ?_|apply And.intro|(intro hc;try subst hc)))<;>(try clear hK K))|(refine zJ (fun hc=>?_) (fun hc=>?_)<;>simp at hc<;>(try subst hc)))
  all_goals refine Yg 8 ?_
  repeat' with_reducible (first|refine ZR.h ?_|refine zI ?_|(refine zK hE ?_;intro K hK;simp[Zh,d14,d15,d16];(repeat' (first|refine hK _ _ ?_|apply And.intro|(intro hc;try subst hc)))<;>(try clear hK K))|(refine zJ (fun hc=>?_) (fun hc=>?_)<;>simp at hc<;>(try subst hc)))
  all_goals first|(simp;done)|(have hz:Yy a b c d e f g=-1:=(by simp[Yy];omega);simp[hz];refine Imp.aut ?_ ?_<;>simp[NLe];done)|(have hz:¬ Yy a b c d e f g=-1:=(by simp[Yy];(repeat' split)<;>omega);simp[hz];refine Imp.aut ?_ ?_<;>simp[NLe])
 ·cases h
def ZL (c:Int) (t:TmZ) (q now:Int):Int:=if t.nm<0 then 22 else if c≤t.nm then 22 else if t.sd≠0∧t.sd≠1 then 1 else if q<1 then 23 else if 9999<q then 23 else if t.pr<1 then 24 else if 9999<t.pr then 24 else if t.le<1 then 25 else if q<t.le then 25 else if t.un≤now then 26 else if 1000000<t.un then 26 else 0
def d28:List AV→List NObj→Option AV
 | [.agg [.int .i64 a,.int .i64 b,.int .i64 c,.int .i64 d,.int .i64 e,.int .i64 f,.int .i64 g],.agg [.int .i64 n0,.int .i64 n1,.int .i64 n2,.int .i64 n3,.int .i64 n4],.int .i64 q,.int .i64 now],[]=>some (.int .i64 (ZL c ⟨n0,n1,n2,n3,n4⟩ q now))
 | _,_=>none
theorem ok28:ROk d28:=by
 intro xs os r h;unfold d28 at h
 (repeat' (split at h))<;>first|(cases h;done)|(injection h with h;subst h;simp)
theorem s28:Sound Try.prog 28 (rdS d28 ok28):=by
 refine Zn C28.a C28.b C28.c C28.d ok28 fun xs os r h vs ρ0 hvs=>⟨xs,?_,fun _ h=>h,fun w0 S hS=>?_⟩
 ·unfold d28 at h
  (repeat' (split at h))<;>first|(cases h;done)|exact Nat.le_of_ble_eq_true rfl
 unfold d28 at h;split at h
 ·rename_i a b c d e f g n0 n1 n2 n3 n4 q now
  injection h with h;subst h;have hE:Zd Try.prog (EL []):=Zf (by simp);by_cases h1:n0<0
  ·unfold m28
   repeat' with_reducible (first|refine ZR.h ?_|refine zI ?_|(refine zK hE ?_;intro K hK;simp[h1,ZL];(repeat' (first|refine hK _ _ ?_|apply And.intro|(intro hc;try subst hc)))<;>(try clear hK K))|(refine zJ (fun hc=>?_) (fun hc=>?_)<;>simp at hc<;>(try subst hc)))
   all_goals first|(simp;done)|(simp at *;omega)|((try simp[h1,ZL]);refine Imp.aut ?_ ?_<;>simp[NLe,h1,ZL])
  ·by_cases h2:c≤n0
   ·unfold m28
    repeat' with_reducible (first|refine ZR.h ?_|refine zI ?_|(refine zK hE ?_;intro K hK;simp[h1,h2,ZL];(repeat' (first|refine hK _ _ ?_|apply And.intro|(intro hc;try subst hc)))<;>(try clear hK K))|(refine zJ (fun hc=>?_) (fun hc=>?_)<;>simp at hc<;>(try subst hc)))
    all_goals first|(simp;done)|(simp at *;omega)|((try simp[h1,h2,ZL]);refine Imp.aut ?_ ?_<;>simp[NLe,h1,h2,ZL])
   ·by_cases h3:n1≠0∧n1≠1
    ·have h3a:¬ n1=0:=h3.1
     have h3b:¬ n1=1:=h3.2;unfold m28
     repeat' with_reducible (first|refine ZR.h ?_|refine zI ?_|(refine zK hE ?_;intro K hK;simp[h1,h2,h3a,h3b,ZL];(repeat' (first|refine hK _ _ ?_|apply And.intro|(intro hc;try subst hc)))<;>(try clear hK K))|(refine zJ (fun hc=>?_) (fun hc=>?_)<;>simp at hc<;>(try subst hc)))
     all_goals first|(simp;done)|(simp at *;omega)|((try simp[h1,h2,h3a,h3b,ZL]);refine Imp.aut ?_ ?_<;>simp[NLe,h1,h2,h3a,h3b,ZL])
    ·have hs:n1=0∨n1=1:=by omega
     rcases hs with hs|hs
     ·skip
      by_cases h4:q<1
      ·unfold m28
       repeat' with_reducible (first|refine ZR.h ?_|refine zI ?_|(refine zK hE ?_;intro K hK;simp[h4,h1,h2,hs,ZL];(repeat' (first|refine hK _ _ ?_|apply And.intro|(intro hc;try subst hc)))<;>(try clear hK K))|(refine zJ (fun hc=>?_) (fun hc=>?_)<;>simp at hc<;>(try subst hc)))
       all_goals first|(simp;done)|(simp at *;omega)|((try simp[h4,h1,h2,hs,ZL]);refine Imp.aut ?_ ?_<;>simp[NLe,h4,h1,h2,hs,ZL])
      ·by_cases h5:9999<q
       ·unfold m28
        repeat' with_reducible (first|refine ZR.h ?_|refine zI ?_|(refine zK hE ?_;intro K hK;simp[h4,h5,h1,h2,hs,ZL];(repeat' (first|refine hK _ _ ?_|apply And.intro|(intro hc;try subst hc)))<;>(try clear hK K))|(refine zJ (fun hc=>?_) (fun hc=>?_)<;>simp at hc<;>(try subst hc)))
        all_goals first|(simp;done)|(simp at *;omega)|((try simp[h4,h5,h1,h2,hs,ZL]);refine Imp.aut ?_ ?_<;>simp[NLe,h4,h5,h1,h2,hs,ZL])
       ·by_cases h6:n2<1
        ·unfold m28
         repeat' with_reducible (first|refine ZR.h ?_|refine zI ?_|(refine zK hE ?_;intro K hK;simp[h4,h5,h6,h1,h2,hs,ZL];(repeat' (first|refine hK _ _ ?_|apply And.intro|(intro hc;try subst hc)))<;>(try clear hK K))|(refine zJ (fun hc=>?_) (fun hc=>?_)<;>simp at hc<;>(try subst hc)))
         all_goals first|(simp;done)|(simp at *;omega)|((try simp[h4,h5,h6,h1,h2,hs,ZL]);refine Imp.aut ?_ ?_<;>simp[NLe,h4,h5,h6,h1,h2,hs,ZL])
        ·by_cases h7:9999<n2
         ·unfold m28
          repeat' with_reducible (first|refine ZR.h ?_|refine zI ?_|(refine zK hE ?_;intro K hK;simp[h4,h5,h6,h7,h1,h2,hs,ZL];(repeat' (first|refine hK _ _ ?_|apply And.intro|(intro hc;try subst hc)))<;>(try clear hK K))|(refine zJ (fun hc=>?_) (fun hc=>?_)<;>simp at hc<;>(try subst hc)))
          all_goals first|(simp;done)|(simp at *;omega)|((try simp[h4,h5,h6,h7,h1,h2,hs,ZL]);refine Imp.aut ?_ ?_<;>simp[NLe,h4,h5,h6,h7,h1,h2,hs,ZL])
         ·by_cases h8:n3<1
          ·unfold m28
           repeat' with_reducible (first|refine ZR.h ?_|refine zI ?_|(refine zK hE ?_;intro K hK;simp[h4,h5,h6,h7,h8,h1,h2,hs,ZL];(repeat' (first|refine hK _ _ ?_|apply And.intro|(intro hc;try subst hc)))<;>(try clear hK K))|(refine zJ (fun hc=>?_) (fun hc=>?_)<;>simp at hc<;>(try subst hc)))
           all_goals first|(simp;done)|(simp at *;omega)|((try simp[h4,h5,h6,h7,h8,h1,h2,hs,ZL]);refine Imp.aut ?_ ?_<;>simp[NLe,h4,h5,h6,h7,h8,h1,h2,hs,ZL])
          ·by_cases h9:q<n3
           ·unfold m28
            repeat' with_reducible (first|refine ZR.h ?_|refine zI ?_|(refine zK hE ?_;intro K hK;simp[h4,h5,h6,h7,h8,h9,h1,h2,hs,ZL];(repeat' (first|refine hK _ _ ?_|apply And.intro|(intro hc;try subst hc)))<;>(try clear hK K))|(refine zJ (fun hc=>?_) (fun hc=>?_)<;>simp at hc<;>(try subst hc)))
            all_goals first|(simp;done)|(simp at *;omega)|((try simp[h4,h5,h6,h7,h8,h9,h1,h2,hs,ZL]);refine Imp.aut ?_ ?_<;>simp[NLe,h4,h5,h6,h7,h8,h9,h1,h2,hs,ZL])
           ·by_cases h10:n4≤now
            ·unfold m28
             repeat' with_reducible (first|refine ZR.h ?_|refine zI ?_|(refine zK hE ?_;intro K hK;simp[h4,h5,h6,h7,h8,h9,h10,h1,h2,hs,ZL];(repeat' (first|refine hK _ _ ?_|apply And.intro|(intro hc;try subst hc)))<;>(try clear hK K))|(refine zJ (fun hc=>?_) (fun hc=>?_)<;>simp at hc<;>(try subst hc)))
             all_goals first|(simp;done)|(simp at *;omega)|((try simp[h4,h5,h6,h7,h8,h9,h10,h1,h2,hs,ZL]);refine Imp.aut ?_ ?_<;>simp[NLe,h4,h5,h6,h7,h8,h9,h10,h1,h2,hs,ZL])
            ·by_cases h11:1000000<n4
             ·unfold m28
              repeat' with_reducible (first|refine ZR.h ?_|refine zI ?_|(refine zK hE ?_;intro K hK;simp[h4,h5,h6,h7,h8,h9,h10,h11,h1,h2,hs,ZL];(repeat' (first|refine hK _ _ ?_|apply And.intro|(intro hc;try subst hc)))<;>(try clear hK K))|(refine zJ (fun hc=>?_) (fun hc=>?_)<;>simp at hc<;>(try subst hc)))
              all_goals first|(simp;done)|(simp at *;omega)|((try simp[h4,h5,h6,h7,h8,h9,h10,h11,h1,h2,hs,ZL]);refine Imp.aut ?_ ?_<;>simp[NLe,h4,h5,h6,h7,h8,h9,h10,h11,h1,h2,hs,ZL])
             ·unfold m28
              repeat' with_reducible (first|refine ZR.h ?_|refine zI ?_|(refine zK hE ?_;intro K hK;simp[h4,h5,h6,h7,h8,h9,h10,h11,h1,h2,hs,ZL];(repeat' (first|refine hK _ _ ?_|apply And.intro|(intro hc;try subst hc)))<;>(try clear hK K))|(refine zJ (fun hc=>?_) (fun hc=>?_)<;>simp at hc<;>(try subst hc)))
              all_goals first|(simp;done)|(simp at *;omega)|((try simp[h4,h5,h6,h7,h8,h9,h10,h11,h1,h2,hs,ZL]);refine Imp.aut ?_ ?_<;>simp[NLe,h4,h5,h6,h7,h8,h9,h10,h11,h1,h2,hs,ZL])
     ·skip
      by_cases h4:q<1
      ·unfold m28
       repeat' with_reducible (first|refine ZR.h ?_|refine zI ?_|(refine zK hE ?_;intro K hK;simp[h4,h1,h2,hs,ZL];(repeat' (first|refine hK _ _ ?_|apply And.intro|(intro hc;try subst hc)))<;>(try clear hK K))|(refine zJ (fun hc=>?_) (fun hc=>?_)<;>simp at hc<;>(try subst hc)))
       all_goals first|(simp;done)|(simp at *;omega)|((try simp[h4,h1,h2,hs,ZL]);refine Imp.aut ?_ ?_<;>simp[NLe,h4,h1,h2,hs,ZL])
      ·by_cases h5:9999<q
       ·unfold m28
        repeat' with_reducible (first|refine ZR.h ?_|refine zI ?_|(refine zK hE ?_;intro K hK;simp[h4,h5,h1,h2,hs,ZL];(repeat' (first|refine hK _ _ ?_|apply And.intro|(intro hc;try subst hc)))<;>(try clear hK K))|(refine zJ (fun hc=>?_) (fun hc=>?_)<;>simp at hc<;>(try subst hc)))
        all_goals first|(simp;done)|(simp at *;omega)|((try simp[h4,h5,h1,h2,hs,ZL]);refine Imp.aut ?_ ?_<;>simp[NLe,h4,h5,h1,h2,hs,ZL])
       ·by_cases h6:n2<1
        ·unfold m28
         repeat' with_reducible (first|refine ZR.h ?_|refine zI ?_|(refine zK hE ?_;intro K hK;simp[h4,h5,h6,h1,h2,hs,ZL];(repeat' (first|refine hK _ _ ?_|apply And.intro|(intro hc;try subst hc)))<;>(try clear hK K))|(refine zJ (fun hc=>?_) (fun hc=>?_)<;>simp at hc<;>(try subst hc)))
         all_goals first|(simp;done)|(simp at *;omega)|((try simp[h4,h5,h6,h1,h2,hs,ZL]);refine Imp.aut ?_ ?_<;>simp[NLe,h4,h5,h6,h1,h2,hs,ZL])
        ·by_cases h7:9999<n2
         ·unfold m28
          repeat' with_reducible (first|refine ZR.h ?_|refine zI ?_|(refine zK hE ?_;intro K hK;simp[h4,h5,h6,h7,h1,h2,hs,ZL];(repeat' (first|refine hK _ _ ?_|apply And.intro|(intro hc;try subst hc)))<;>(try clear hK K))|(refine zJ (fun hc=>?_) (fun hc=>?_)<;>simp at hc<;>(try subst hc)))
          all_goals first|(simp;done)|(simp at *;omega)|((try simp[h4,h5,h6,h7,h1,h2,hs,ZL]);refine Imp.aut ?_ ?_<;>simp[NLe,h4,h5,h6,h7,h1,h2,hs,ZL])
         ·by_cases h8:n3<1
          ·unfold m28
           repeat' with_reducible (first|refine ZR.h ?_|refine zI ?_|(refine zK hE ?_;intro K hK;simp[h4,h5,h6,h7,h8,h1,h2,hs,ZL];(repeat' (first|refine hK _ _ ?_|apply And.intro|(intro hc;try subst hc)))<;>(try clear hK K))|(refine zJ (fun hc=>?_) (fun hc=>?_)<;>simp at hc<;>(try subst hc)))
           all_goals first|(simp;done)|(simp at *;omega)|((try simp[h4,h5,h6,h7,h8,h1,h2,hs,ZL]);refine Imp.aut ?_ ?_<;>simp[NLe,h4,h5,h6,h7,h8,h1,h2,hs,ZL])
          ·by_cases h9:q<n3
           ·unfold m28
            repeat' with_reducible (first|refine ZR.h ?_|refine zI ?_|(refine zK hE ?_;intro K hK;simp[h4,h5,h6,h7,h8,h9,h1,h2,hs,ZL];(repeat' (first|refine hK _ _ ?_|apply And.intro|(intro hc;try subst hc)))<;>(try clear hK K))|(refine zJ (fun hc=>?_) (fun hc=>?_)<;>simp at hc<;>(try subst hc)))
            all_goals first|(simp;done)|(simp at *;omega)|((try simp[h4,h5,h6,h7,h8,h9,h1,h2,hs,ZL]);refine Imp.aut ?_ ?_<;>simp[NLe,h4,h5,h6,h7,h8,h9,h1,h2,hs,ZL])
           ·by_cases h10:n4≤now
            ·unfold m28
             repeat' with_reducible (first|refine ZR.h ?_|refine zI ?_|(refine zK hE ?_;intro K hK;simp[h4,h5,h6,h7,h8,h9,h10,h1,h2,hs,ZL];(repeat' (first|refine hK _ _ ?_|apply And.intro|(intro hc;try subst hc)))<;>(try clear hK K))|(refine zJ (fun hc=>?_) (fun hc=>?_)<;>simp at hc<;>(try subst hc)))
             all_goals first|(simp;done)|(simp at *;omega)|((try simp[h4,h5,h6,h7,h8,h9,h10,h1,h2,hs,ZL]);refine Imp.aut ?_ ?_<;>simp[NLe,h4,h5,h6,h7,h8,h9,h10,h1,h2,hs,ZL])
            ·by_cases h11:1000000<n4
             ·unfold m28
              repeat' with_reducible (first|refine ZR.h ?_|refine zI ?_|(refine zK hE ?_;intro K hK;simp[h4,h5,h6,h7,h8,h9,h10,h11,h1,h2,hs,ZL];(repeat' (first|refine hK _ _ ?_|apply And.intro|(intro hc;try subst hc)))<;>(try clear hK K))|(refine zJ (fun hc=>?_) (fun hc=>?_)<;>simp at hc<;>(try subst hc)))
              all_goals first|(simp;done)|(simp at *;omega)|((try simp[h4,h5,h6,h7,h8,h9,h10,h11,h1,h2,hs,ZL]);refine Imp.aut ?_ ?_<;>simp[NLe,h4,h5,h6,h7,h8,h9,h10,h11,h1,h2,hs,ZL])
             ·unfold m28
              repeat' with_reducible (first|refine ZR.h ?_|refine zI ?_|(refine zK hE ?_;intro K hK;simp[h4,h5,h6,h7,h8,h9,h10,h11,h1,h2,hs,ZL];(repeat' (first|refine hK _ _ ?_|apply And.intro|(intro hc;try subst hc)))<;>(try clear hK K))|(refine zJ (fun hc=>?_) (fun hc=>?_)<;>simp at hc<;>(try subst hc)))
              all_goals first|(simp;done)|(simp at *;omega)|((try simp[h4,h5,h6,h7,h8,h9,h10,h11,h1,h2,hs,ZL]);refine Imp.aut ?_ ?_<;>simp[NLe,h4,h5,h6,h7,h8,h9,h10,h11,h1,h2,hs,ZL])
 ·cases h
end Go.W
