/- A part of the proofs about the pair's laws (PsI, PsJ). -/
import Derived.Test.YtidbbnkpglggdaaGreatPsH
import Derived.Test.YtidbbnkpglggdaaGreatPaA
namespace Go.W
open Go.Proofs
set_option linter.unusedSimpArgs false
set_option linter.unusedVariables false
set_option maxHeartbeats 8000000
set_option maxRecDepth 100000
attribute [local irreducible] Wm WmA
attribute [local simp] YP lkp Vq prs V9 prT ddL idL Yy Ue Ren Ve NObj.none ZT
def d70:List AV→List NObj→Option AV
 | [.str _,.iface _ _],[]=>some (.iface 190 .bot)
 | _,_=>none
theorem ok70:ROk d70:=by
 intro xs os r h;unfold d70 at h
 (repeat' (split at h))<;>first|(cases h;done)|(injection h with h;subst h;simp)
theorem s70:Sound Tryz.prog 70 (rdS d70 ok70):=by
 refine Zo (ac:=?ac) (res:=?res) Tryz.func70 (by kernel_rfl) (ha:=?ha) (hk:=?hk) (hok:=ok70) fun xs os r h vs ρ0 hvs=>?w
 case ha=>conv=>lhs;cbv
 case hk=>kernel_rfl
 refine ⟨xs,?_,fun _ h=>h,fun w0 S hS=>?_⟩
 ·unfold d70 at h
  (repeat' (split at h))<;>first|(cases h;done)|exact Nat.le_of_ble_eq_true rfl
 unfold d70 at h;split at h
 ·skip
  injection h with h;subst h;have hE:Zd Tryz.prog (EL []):=Ze (by simp)
  repeat' with_reducible (first|refine ZR.h ?_|refine kI ?_|(refine kR hE ?_;intro K hK;simp[];(repeat' (first|refine hK _ _ ?_|apply And.intro|(intro hc;try subst hc)))<;>(try clear hK K))|(refine kT (fun hc=>?_) (fun hc=>?_)<;>simp at hc<;>(try subst hc)))
  all_goals first|(show Zb _ _=true;kernel_rfl)|(simp;done)|(simp at *;omega)|((try simp);refine Imp.aut ?_ ?_<;>simp[NLe])
 ·cases h
def d68:List AV→Option Ans
 | [.agg [.int .i64 a,.int .i64 b,.int .i64 c,.int .i64 d,.int .i64 e,.int .i64 f,.int .i64 g]]=>some ⟨.os 0 4 [[(.str (ByteArray.mk #[112,97,114,116,115])),.int .i64 a,.int .i64 1,.int .i64 6],[(.str (ByteArray.mk #[99,101,108,108,115])),.int .i64 b,.int .i64 1,.int .i64 4],[(.str (ByteArray.mk #[110,97,109,101,115])),.int .i64 c,.int .i64 1,.int .i64 3],[(.str (ByteArray.mk #[98,97,110,100,115])),.int .i64 d,.int .i64 1,.int .i64 4],[(.str (ByteArray.mk #[112,114,111,98,101,115])),.int .i64 e,.int .i64 0,.int .i64 4],[(.str (ByteArray.mk #[102,105,108,108,115])),.int .i64 f,.int .i64 1,.int .i64 4],[(.str (ByteArray.mk #[103,101,110,115])),.int .i64 g,.int .i64 1,.int .i64 15]],[]⟩
 | _=>none
theorem ok68:NOk [] d68:=by
 intro xs a h;unfold d68 at h
 (repeat' (split at h))<;>first|(cases h;done)|(injection h with h;subst h;refine ⟨Zp ?_,?_⟩<;>simp)
theorem s68:Sound Tryz.prog 68 (Zm [] d68 ok68):=by
 refine Zi (ac:=?ac) (res:=?res) Tryz.func68 (by kernel_rfl) (ha:=?ha) (hk:=?hk) (hok:=ok68) (fun xs a h=>?_) fun xs a h w0 S hS=>?_
 case ha=>conv=>lhs;cbv
 case hk=>kernel_rfl
 ·unfold d68 at h
  (repeat' (split at h))<;>first|(cases h;done)|exact Nat.le_of_ble_eq_true rfl
 unfold d68 at h;split at h
 ·rename_i a b c d e f g
  injection h with h;subst h;have hE:Zd Tryz.prog (EL []):=Ze (by simp)
  repeat' with_reducible (first|refine ZR.h ?_|refine kI ?_|(refine kR hE ?_;intro K hK;simp[];(repeat' (first|refine hK _ _ ?_|apply And.intro|(intro hc;try subst hc)))<;>(try clear hK K))|(refine kT (fun hc=>?_) (fun hc=>?_)<;>simp at hc<;>(try subst hc)))
  all_goals first|(show Zb _ _=true;kernel_rfl)|(simp;done)|(simp at *;omega)|((try simp);refine Imp.aut ?_ ?_<;>simp[NLe])
 ·cases h
def Xs (a b c d e f g:Int):Int :=
 if a<1∨6<a then 0 else if b<1∨4<b then 1 else if c<1∨3<c then 2 else if d<1∨4<d then 3 else if e<0∨4<e then 4 else if f<1∨4<f then 5 else if g<1∨15<g then 6 else -1
theorem Tg (a b c d e f g:Int):(Xs a b c d e f g=-1)=(X7 a b c d e f g=true):=by
 unfold Xs X7;rw[decide_eq_true_eq];apply propext
 repeat' split
 all_goals omega
theorem ZcC (a b c d e f g:Int):decide (Xs a b c d e f g<0)=X7 a b c d e f g:=by
 have h:=Tg a b c d e f g;have h2:Xs a b c d e f g=-1∨0≤Xs a b c d e f g:=by
  unfold Xs
  repeat' split
  all_goals omega
 cases hb:X7 a b c d e f g
 ·rw[hb]at h
  have:¬ Xs a b c d e f g=-1:=by rw[h];simp
  rw[decide_eq_false_iff_not];omega
 ·rw[hb]at h
  have:Xs a b c d e f g=-1:=by rw[h]
  rw[decide_eq_true_iff];omega
def d71:List AV→Option Ans
 | [.agg [.int .i64 a,.int .i64 b,.int .i64 c,.int .i64 d,.int .i64 e,.int .i64 f,.int .i64 g]]=>some ⟨.int .i64 (Xs a b c d e f g),[]⟩
 | _=>none
theorem ok71:NOk [] d71:=by
 intro xs a h;unfold d71 at h
 (repeat' (split at h))<;>first|(cases h;done)|(injection h with h;subst h;refine ⟨Zp ?_,?_⟩<;>simp)
theorem s71:Sound Tryz.prog 71 (Zm [] d71 ok71):=by
 refine Zi (ac:=?ac) (res:=?res) Tryz.func71 (by kernel_rfl) (ha:=?ha) (hk:=?hk) (hok:=ok71) (fun xs a h=>?_) fun xs a h w0 S hS=>?_
 case ha=>conv=>lhs;cbv
 case hk=>kernel_rfl
 ·unfold d71 at h
  (repeat' (split at h))<;>first|(cases h;done)|exact Nat.le_of_ble_eq_true rfl
 unfold d71 at h;split at h
 ·rename_i a b c d e f g
  injection h with h;subst h;have hE:Zd Tryz.prog (EL []):=Ze (by simp)
  repeat' with_reducible (first|refine ZR.h ?_|refine kI ?_|((first|refine kR hE ?_|refine kD hE Zq ?_);intro K hK;simp[];(repeat' (first|refine hK _ _ ?_|apply And.intro|(intro hc;try subst hc)))<;>(try clear hK K))|(refine kT (fun hc=>?_) (fun hc=>?_)<;>simp at hc<;>(try subst hc)))
  all_goals refine Yk 8 ?_
  repeat' with_reducible (first|refine ZR.h ?_|refine kI ?_|((first|refine kR hE ?_|refine kD hE Zq ?_);intro K hK;simp[Zg];(repeat' (first|refine hK _ _ ?_|apply And.intro|(intro hc;try subst hc)))<;>(try clear hK K))|(refine kT (fun hc=>?_) (fun hc=>?_)<;>simp at hc<;>(try subst hc)))
  all_goals first|(show Zb _ _=true;kernel_rfl)|(simp;done)|((try simp[Xs]);refine Imp.aut ?_ ?_<;>simp[NLe]<;>grind)
 ·cases h
def d30:List AV→Option Ans
 | [.agg [.int .i64 a,.int .i64 b,.int .i64 c,.int .i64 d,.int .i64 e,.int .i64 f,.int .i64 g]]=>some ⟨if Xs a b c d e f g=-1 then .tup [.agg [.int .i64 a,.int .i64 b,.int .i64 c,.int .i64 d,.int .i64 e,.int .i64 f,.int .i64 g],.raw .nilIface] else .tup [.agg [.int .i64 0,.int .i64 0,.int .i64 0,.int .i64 0,.int .i64 0,.int .i64 0,.int .i64 0],.iface 187 .bot],[]⟩
 | _=>none
theorem ok30:NOk [] d30:=by
 intro xs a h;unfold d30 at h;split at h
 ·injection h with h;subst h
  split<;>refine ⟨Zp ?_,?_⟩<;>simp
 ·cases h
theorem s30:Sound Tryz.prog 30 (Zm [] d30 ok30):=by
 refine Zi (ac:=?ac) (res:=?res) Tryz.func30 (by kernel_rfl) (ha:=?ha) (hk:=?hk) (hok:=ok30) (fun xs a h=>?_) fun xs a h w0 S hS=>?_
 case ha=>conv=>lhs;cbv
 case hk=>kernel_rfl
 ·unfold d30 at h
  (repeat' (split at h))<;>first|(cases h;done)|exact Nat.le_of_ble_eq_true rfl
 unfold d30 at h;split at h
 ·rename_i a b c d e f g
  injection h with h;subst h;have hE:Zd Tryz.prog (EL [(68,Zm [] d68 ok68),(69,rdS d69 ok69),(70,rdS d70 ok70)]):=Ze (by simp only[List.mem_cons,List.not_mem_nil,or_false,forall_eq_or_imp,forall_eq];exact ⟨s68,s69,s70⟩)
  repeat' with_reducible (first|refine ZR.h ?_|refine kI ?_|(refine kR hE ?_;intro K hK;simp[d68,d69,d70];(repeat' (first|refine hK _ _ ?_|apply And.intro|(intro hc;try subst hc)))<;>(try clear hK K))|(refine kT (fun hc=>?_) (fun hc=>?_)<;>simp at hc<;>(try subst hc)))
  all_goals refine Yk 8 ?_
  repeat' with_reducible (first|refine ZR.h ?_|refine kI ?_|(refine kR hE ?_;intro K hK;simp[Zg,d68,d69,d70];(repeat' (first|refine hK _ _ ?_|apply And.intro|(intro hc;try subst hc)))<;>(try clear hK K))|(refine kT (fun hc=>?_) (fun hc=>?_)<;>simp at hc<;>(try subst hc)))
  all_goals first|(show Zb _ _=true;kernel_rfl)|(simp;done)|(have hz:Xs a b c d e f g=-1:=(by simp[Xs];omega);simp[hz];refine Imp.aut ?_ ?_<;>simp[NLe];done)|(have hz:¬ Xs a b c d e f g=-1:=(by simp[Xs];(repeat' split)<;>omega);simp[hz];refine Imp.aut ?_ ?_<;>simp[NLe])
 ·cases h
def d31:List AV→Option Ans
 | [.agg [.int .i64 a,.int .i64 b,.int .i64 c,.int .i64 d,.int .i64 e,.int .i64 f,.int .i64 g]]=>some ⟨.bool (X7 a b c d e f g),[]⟩
 | _=>none
theorem ok31:NOk [] d31:=by
 intro xs a h;unfold d31 at h
 (repeat' (split at h))<;>first|(cases h;done)|(injection h with h;subst h;refine ⟨Zp ?_,?_⟩<;>simp)
theorem s31:Sound Tryz.prog 31 (Zm [] d31 ok31):=by
 refine Zi (ac:=?ac) (res:=?res) Tryz.func31 (by kernel_rfl) (ha:=?ha) (hk:=?hk) (hok:=ok31) (fun xs a h=>?_) fun xs a h w0 S hS=>?_
 case ha=>conv=>lhs;cbv
 case hk=>kernel_rfl
 ·unfold d31 at h
  (repeat' (split at h))<;>first|(cases h;done)|exact Nat.le_of_ble_eq_true rfl
 unfold d31 at h;split at h
 ·rename_i a b c d e f g
  injection h with h;subst h;have hE:Zd Tryz.prog (EL [(71,Zm [] d71 ok71)]):=Ze (by simp only[List.mem_cons,List.not_mem_nil,or_false,forall_eq_or_imp,forall_eq];exact s71);have hn:=ZcC a b c d e f g
  repeat' with_reducible (first|refine ZR.h ?_|refine kI ?_|(refine kR hE ?_;intro K hK;simp[hn,d71];(repeat' (first|refine hK _ _ ?_|apply And.intro|(intro hc;try subst hc)))<;>(try clear hK K))|(refine kT (fun hc=>?_) (fun hc=>?_)<;>simp at hc<;>(try subst hc)))
  all_goals first|(show Zb _ _=true;kernel_rfl)|(simp;done)|(simp at *;omega)|((try simp);refine Imp.aut ?_ ?_<;>simp[NLe])
 ·cases h
def d36:List AV→List NObj→Option AV
 | [.int .i64 k],[]=>some (.bool (ZA k))
 | _,_=>none
theorem ok36:ROk d36:=by
 intro xs os r h;unfold d36 at h
 (repeat' (split at h))<;>first|(cases h;done)|(injection h with h;subst h;simp)
theorem s36:Sound Tryz.prog 36 (rdS d36 ok36):=by
 refine Zo (ac:=?ac) (res:=?res) Tryz.func36 (by kernel_rfl) (ha:=?ha) (hk:=?hk) (hok:=ok36) fun xs os r h vs ρ0 hvs=>?w
 case ha=>conv=>lhs;cbv
 case hk=>kernel_rfl
 refine ⟨xs,?_,fun _ h=>h,fun w0 S hS=>?_⟩
 ·unfold d36 at h
  (repeat' (split at h))<;>first|(cases h;done)|exact Nat.le_of_ble_eq_true rfl
 unfold d36 at h;split at h
 ·rename_i k
  injection h with h;subst h;have hE:Zd Tryz.prog (EL []):=Ze (by simp)
  repeat' with_reducible (first|refine ZR.h ?_|refine kI ?_|(refine kR hE ?_;intro K hK;simp[];(repeat' (first|refine hK _ _ ?_|apply And.intro|(intro hc;try subst hc)))<;>(try clear hK K))|(refine kT (fun hc=>?_) (fun hc=>?_)<;>simp at hc<;>(try subst hc)))
  all_goals first|(show Zb _ _=true;kernel_rfl)|(simp;done)|((try simp[ZA]);refine Imp.aut ?_ ?_<;>simp[NLe,ZA]<;>grind)
 ·cases h
def YW (c:Int) (t:TmZ) (q now:Int):Int:=if t.nm<0 then 22 else if c≤t.nm then 22 else if t.sd≠0∧t.sd≠1 then 1 else if q<1 then 23 else if 9999<q then 23 else if t.pr<1 then 24 else if 9999<t.pr then 24 else if t.le<1 then 25 else if q<t.le then 25 else if t.un≤now then 26 else if 1000000<t.un then 26 else 0
def d37:List AV→List NObj→Option AV
 | [.agg [.int .i64 a,.int .i64 b,.int .i64 c,.int .i64 d,.int .i64 e,.int .i64 f,.int .i64 g],.agg [.int .i64 n0,.int .i64 n1,.int .i64 n2,.int .i64 n3,.int .i64 n4],.int .i64 q,.int .i64 now],[]=>some (.int .i64 (YW c ⟨n0,n1,n2,n3,n4⟩ q now))
 | _,_=>none
theorem ok37:ROk d37:=by
 intro xs os r h;unfold d37 at h
 (repeat' (split at h))<;>first|(cases h;done)|(injection h with h;subst h;simp)
theorem s37:Sound Tryz.prog 37 (rdS d37 ok37):=by
 refine Zo (ac:=?ac) (res:=?res) Tryz.func37 (by kernel_rfl) (ha:=?ha) (hk:=?hk) (hok:=ok37) fun xs os r h vs ρ0 hvs=>?w
 case ha=>conv=>lhs;cbv
 case hk=>kernel_rfl
 refine ⟨xs,?_,fun _ h=>h,fun w0 S hS=>?_⟩
 ·unfold d37 at h
  (repeat' (split at h))<;>first|(cases h;done)|exact Nat.le_of_ble_eq_true rfl
 unfold d37 at h;split at h
 ·rename_i a b c d e f g n0 n1 n2 n3 n4 q now
  injection h with h;subst h;have hE:Zd Tryz.prog (EL []):=Ze (by simp);by_cases h1:n0<0
  ·skip
   repeat' with_reducible (first|refine ZR.h ?_|refine kI ?_|(refine kR hE ?_;intro K hK;simp[h1,YW];(repeat' (first|refine hK _ _ ?_|apply And.intro|(intro hc;try subst hc)))<;>(try clear hK K))|(refine kT (fun hc=>?_) (fun hc=>?_)<;>simp at hc<;>(try subst hc)))
   all_goals first|(show Zb _ _=true;kernel_rfl)|(simp;done)|(simp at *;omega)|((try simp[h1,YW]);refine Imp.aut ?_ ?_<;>simp[NLe,h1,YW])
  ·by_cases h2:c≤n0
   ·skip
    repeat' with_reducible (first|refine ZR.h ?_|refine kI ?_|(refine kR hE ?_;intro K hK;simp[h1,h2,YW];(repeat' (first|refine hK _ _ ?_|apply And.intro|(intro hc;try subst hc)))<;>(try clear hK K))|(refine kT (fun hc=>?_) (fun hc=>?_)<;>simp at hc<;>(try subst hc)))
    all_goals first|(show Zb _ _=true;kernel_rfl)|(simp;done)|(simp at *;omega)|((try simp[h1,h2,YW]);refine Imp.aut ?_ ?_<;>simp[NLe,h1,h2,YW])
   ·by_cases h3:n1≠0∧n1≠1
    ·have h3a:¬ n1=0:=h3.1
     have h3b:¬ n1=1:=h3.2
     repeat' with_reducible (first|refine ZR.h ?_|refine kI ?_|(refine kR hE ?_;intro K hK;simp[h1,h2,h3a,h3b,YW];(repeat' (first|refine hK _ _ ?_|apply And.intro|(intro hc;try subst hc)))<;>(try clear hK K))|(refine kT (fun hc=>?_) (fun hc=>?_)<;>simp at hc<;>(try subst hc)))
     all_goals first|(show Zb _ _=true;kernel_rfl)|(simp;done)|(simp at *;omega)|((try simp[h1,h2,h3a,h3b,YW]);refine Imp.aut ?_ ?_<;>simp[NLe,h1,h2,h3a,h3b,YW])
    ·have hs:n1=0∨n1=1:=by omega
     rcases hs with hs|hs
     ·skip
      by_cases h4:q<1
      ·skip
       repeat' with_reducible (first|refine ZR.h ?_|refine kI ?_|(refine kR hE ?_;intro K hK;simp[h4,h1,h2,hs,YW];(repeat' (first|refine hK _ _ ?_|apply And.intro|(intro hc;try subst hc)))<;>(try clear hK K))|(refine kT (fun hc=>?_) (fun hc=>?_)<;>simp at hc<;>(try subst hc)))
       all_goals first|(show Zb _ _=true;kernel_rfl)|(simp;done)|(simp at *;omega)|((try simp[h4,h1,h2,hs,YW]);refine Imp.aut ?_ ?_<;>simp[NLe,h4,h1,h2,hs,YW])
      ·by_cases h5:9999<q
       ·skip
        repeat' with_reducible (first|refine ZR.h ?_|refine kI ?_|(refine kR hE ?_;intro K hK;simp[h4,h5,h1,h2,hs,YW];(repeat' (first|refine hK _ _ ?_|apply And.intro|(intro hc;try subst hc)))<;>(try clear hK K))|(refine kT (fun hc=>?_) (fun hc=>?_)<;>simp at hc<;>(try subst hc)))
        all_goals first|(show Zb _ _=true;kernel_rfl)|(simp;done)|(simp at *;omega)|((try simp[h4,h5,h1,h2,hs,YW]);refine Imp.aut ?_ ?_<;>simp[NLe,h4,h5,h1,h2,hs,YW])
       ·by_cases h6:n2<1
        ·skip
         repeat' with_reducible (first|refine ZR.h ?_|refine kI ?_|(refine kR hE ?_;intro K hK;simp[h4,h5,h6,h1,h2,hs,YW];(repeat' (first|refine hK _ _ ?_|apply And.intro|(intro hc;try subst hc)))<;>(try clear hK K))|(refine kT (fun hc=>?_) (fun hc=>?_)<;>simp at hc<;>(try subst hc)))
         all_goals first|(show Zb _ _=true;kernel_rfl)|(simp;done)|(simp at *;omega)|((try simp[h4,h5,h6,h1,h2,hs,YW]);refine Imp.aut ?_ ?_<;>simp[NLe,h4,h5,h6,h1,h2,hs,YW])
        ·by_cases h7:9999<n2
         ·skip
          repeat' with_reducible (first|refine ZR.h ?_|refine kI ?_|(refine kR hE ?_;intro K hK;simp[h4,h5,h6,h7,h1,h2,hs,YW];(repeat' (first|refine hK _ _ ?_|apply And.intro|(intro hc;try subst hc)))<;>(try clear hK K))|(refine kT (fun hc=>?_) (fun hc=>?_)<;>simp at hc<;>(try subst hc)))
          all_goals first|(show Zb _ _=true;kernel_rfl)|(simp;done)|(simp at *;omega)|((try simp[h4,h5,h6,h7,h1,h2,hs,YW]);refine Imp.aut ?_ ?_<;>simp[NLe,h4,h5,h6,h7,h1,h2,hs,YW])
         ·by_cases h8:n3<1
          ·skip
           repeat' with_reducible (first|refine ZR.h ?_|refine kI ?_|(refine kR hE ?_;intro K hK;simp[h4,h5,h6,h7,h8,h1,h2,hs,YW];(repeat' (first|refine hK _ _ ?_|apply And.intro|(intro hc;try subst hc)))<;>(try clear hK K))|(refine kT (fun hc=>?_) (fun hc=>?_)<;>simp at hc<;>(try subst hc)))
           all_goals first|(show Zb _ _=true;kernel_rfl)|(simp;done)|(simp at *;omega)|((try simp[h4,h5,h6,h7,h8,h1,h2,hs,YW]);refine Imp.aut ?_ ?_<;>simp[NLe,h4,h5,h6,h7,h8,h1,h2,hs,YW])
          ·by_cases h9:q<n3
           ·skip
            repeat' with_reducible (first|refine ZR.h ?_|refine kI ?_|(refine kR hE ?_;intro K hK;simp[h4,h5,h6,h7,h8,h9,h1,h2,hs,YW];(repeat' (first|refine hK _ _ ?_|apply And.intro|(intro hc;try subst hc)))<;>(try clear hK K))|(refine kT (fun hc=>?_) (fun hc=>?_)<;>simp at hc<;>(try subst hc)))
            all_goals first|(show Zb _ _=true;kernel_rfl)|(simp;done)|(simp at *;omega)|((try simp[h4,h5,h6,h7,h8,h9,h1,h2,hs,YW]);refine Imp.aut ?_ ?_<;>simp[NLe,h4,h5,h6,h7,h8,h9,h1,h2,hs,YW])
           ·by_cases h10:n4≤now
            ·skip
             repeat' with_reducible (first|refine ZR.h ?_|refine kI ?_|(refine kR hE ?_;intro K hK;simp[h4,h5,h6,h7,h8,h9,h10,h1,h2,hs,YW];(repeat' (first|refine hK _ _ ?_|apply And.intro|(intro hc;try subst hc)))<;>(try clear hK K))|(refine kT (fun hc=>?_) (fun hc=>?_)<;>simp at hc<;>(try subst hc)))
             all_goals first|(show Zb _ _=true;kernel_rfl)|(simp;done)|(simp at *;omega)|((try simp[h4,h5,h6,h7,h8,h9,h10,h1,h2,hs,YW]);refine Imp.aut ?_ ?_<;>simp[NLe,h4,h5,h6,h7,h8,h9,h10,h1,h2,hs,YW])
            ·by_cases h11:1000000<n4
             ·skip
              repeat' with_reducible (first|refine ZR.h ?_|refine kI ?_|(refine kR hE ?_;intro K hK;simp[h4,h5,h6,h7,h8,h9,h10,h11,h1,h2,hs,YW];(repeat' (first|refine hK _ _ ?_|apply And.intro|(intro hc;try subst hc)))<;>(try clear hK K))|(refine kT (fun hc=>?_) (fun hc=>?_)<;>simp at hc<;>(try subst hc)))
              all_goals first|(show Zb _ _=true;kernel_rfl)|(simp;done)|(simp at *;omega)|((try simp[h4,h5,h6,h7,h8,h9,h10,h11,h1,h2,hs,YW]);refine Imp.aut ?_ ?_<;>simp[NLe,h4,h5,h6,h7,h8,h9,h10,h11,h1,h2,hs,YW])
             ·skip
              repeat' with_reducible (first|refine ZR.h ?_|refine kI ?_|(refine kR hE ?_;intro K hK;simp[h4,h5,h6,h7,h8,h9,h10,h11,h1,h2,hs,YW];(repeat' (first|refine hK _ _ ?_|apply And.intro|(intro hc;try subst hc)))<;>(try clear hK K))|(refine kT (fun hc=>?_) (fun hc=>?_)<;>simp at hc<;>(try subst hc)))
              all_goals first|(show Zb _ _=true;kernel_rfl)|(simp;done)|(simp at *;omega)|((try simp[h4,h5,h6,h7,h8,h9,h10,h11,h1,h2,hs,YW]);refine Imp.aut ?_ ?_<;>simp[NLe,h4,h5,h6,h7,h8,h9,h10,h11,h1,h2,hs,YW])
     ·skip
      by_cases h4:q<1
      ·skip
       repeat' with_reducible (first|refine ZR.h ?_|refine kI ?_|(refine kR hE ?_;intro K hK;simp[h4,h1,h2,hs,YW];(repeat' (first|refine hK _ _ ?_|apply And.intro|(intro hc;try subst hc)))<;>(try clear hK K))|(refine kT (fun hc=>?_) (fun hc=>?_)<;>simp at hc<;>(try subst hc)))
       all_goals first|(show Zb _ _=true;kernel_rfl)|(simp;done)|(simp at *;omega)|((try simp[h4,h1,h2,hs,YW]);refine Imp.aut ?_ ?_<;>simp[NLe,h4,h1,h2,hs,YW])
      ·by_cases h5:9999<q
       ·skip
        repeat' with_reducible (first|refine ZR.h ?_|refine kI ?_|(refine kR hE ?_;intro K hK;simp[h4,h5,h1,h2,hs,YW];(repeat' (first|refine hK _ _ ?_|apply And.intro|(intro hc;try subst hc)))<;>(try clear hK K))|(refine kT (fun hc=>?_) (fun hc=>?_)<;>simp at hc<;>(try subst hc)))
        all_goals first|(show Zb _ _=true;kernel_rfl)|(simp;done)|(simp at *;omega)|((try simp[h4,h5,h1,h2,hs,YW]);refine Imp.aut ?_ ?_<;>simp[NLe,h4,h5,h1,h2,hs,YW])
       ·by_cases h6:n2<1
        ·skip
         repeat' with_reducible (first|refine ZR.h ?_|refine kI ?_|(refine kR hE ?_;intro K hK;simp[h4,h5,h6,h1,h2,hs,YW];(repeat' (first|refine hK _ _ ?_|apply And.intro|(intro hc;try subst hc)))<;>(try clear hK K))|(refine kT (fun hc=>?_) (fun hc=>?_)<;>simp at hc<;>(try subst hc)))
         all_goals first|(show Zb _ _=true;kernel_rfl)|(simp;done)|(simp at *;omega)|((try simp[h4,h5,h6,h1,h2,hs,YW]);refine Imp.aut ?_ ?_<;>simp[NLe,h4,h5,h6,h1,h2,hs,YW])
        ·by_cases h7:9999<n2
         ·skip
          repeat' with_reducible (first|refine ZR.h ?_|refine kI ?_|(refine kR hE ?_;intro K hK;simp[h4,h5,h6,h7,h1,h2,hs,YW];(repeat' (first|refine hK _ _ ?_|apply And.intro|(intro hc;try subst hc)))<;>(try clear hK K))|(refine kT (fun hc=>?_) (fun hc=>?_)<;>simp at hc<;>(try subst hc)))
          all_goals first|(show Zb _ _=true;kernel_rfl)|(simp;done)|(simp at *;omega)|((try simp[h4,h5,h6,h7,h1,h2,hs,YW]);refine Imp.aut ?_ ?_<;>simp[NLe,h4,h5,h6,h7,h1,h2,hs,YW])
         ·by_cases h8:n3<1
          ·skip
           repeat' with_reducible (first|refine ZR.h ?_|refine kI ?_|(refine kR hE ?_;intro K hK;simp[h4,h5,h6,h7,h8,h1,h2,hs,YW];(repeat' (first|refine hK _ _ ?_|apply And.intro|(intro hc;try subst hc)))<;>(try clear hK K))|(refine kT (fun hc=>?_) (fun hc=>?_)<;>simp at hc<;>(try subst hc)))
           all_goals first|(show Zb _ _=true;kernel_rfl)|(simp;done)|(simp at *;omega)|((try simp[h4,h5,h6,h7,h8,h1,h2,hs,YW]);refine Imp.aut ?_ ?_<;>simp[NLe,h4,h5,h6,h7,h8,h1,h2,hs,YW])
          ·by_cases h9:q<n3
           ·skip
            repeat' with_reducible (first|refine ZR.h ?_|refine kI ?_|(refine kR hE ?_;intro K hK;simp[h4,h5,h6,h7,h8,h9,h1,h2,hs,YW];(repeat' (first|refine hK _ _ ?_|apply And.intro|(intro hc;try subst hc)))<;>(try clear hK K))|(refine kT (fun hc=>?_) (fun hc=>?_)<;>simp at hc<;>(try subst hc)))
            all_goals first|(show Zb _ _=true;kernel_rfl)|(simp;done)|(simp at *;omega)|((try simp[h4,h5,h6,h7,h8,h9,h1,h2,hs,YW]);refine Imp.aut ?_ ?_<;>simp[NLe,h4,h5,h6,h7,h8,h9,h1,h2,hs,YW])
           ·by_cases h10:n4≤now
            ·skip
             repeat' with_reducible (first|refine ZR.h ?_|refine kI ?_|(refine kR hE ?_;intro K hK;simp[h4,h5,h6,h7,h8,h9,h10,h1,h2,hs,YW];(repeat' (first|refine hK _ _ ?_|apply And.intro|(intro hc;try subst hc)))<;>(try clear hK K))|(refine kT (fun hc=>?_) (fun hc=>?_)<;>simp at hc<;>(try subst hc)))
             all_goals first|(show Zb _ _=true;kernel_rfl)|(simp;done)|(simp at *;omega)|((try simp[h4,h5,h6,h7,h8,h9,h10,h1,h2,hs,YW]);refine Imp.aut ?_ ?_<;>simp[NLe,h4,h5,h6,h7,h8,h9,h10,h1,h2,hs,YW])
            ·by_cases h11:1000000<n4
             ·skip
              repeat' with_reducible (first|refine ZR.h ?_|refine kI ?_|(refine kR hE ?_;intro K hK;simp[h4,h5,h6,h7,h8,h9,h10,h11,h1,h2,hs,YW];(repeat' (first|refine hK _ _ ?_|apply And.intro|(intro hc;try subst hc)))<;>(try clear hK K))|(refine kT (fun hc=>?_) (fun hc=>?_)<;>simp at hc<;>(try subst hc)))
              all_goals first|(show Zb _ _=true;kernel_rfl)|(simp;done)|(simp at *;omega)|((try simp[h4,h5,h6,h7,h8,h9,h10,h11,h1,h2,hs,YW]);refine Imp.aut ?_ ?_<;>simp[NLe,h4,h5,h6,h7,h8,h9,h10,h11,h1,h2,hs,YW])
             ·skip
              repeat' with_reducible (first|refine ZR.h ?_|refine kI ?_|(refine kR hE ?_;intro K hK;simp[h4,h5,h6,h7,h8,h9,h10,h11,h1,h2,hs,YW];(repeat' (first|refine hK _ _ ?_|apply And.intro|(intro hc;try subst hc)))<;>(try clear hK K))|(refine kT (fun hc=>?_) (fun hc=>?_)<;>simp at hc<;>(try subst hc)))
              all_goals first|(show Zb _ _=true;kernel_rfl)|(simp;done)|(simp at *;omega)|((try simp[h4,h5,h6,h7,h8,h9,h10,h11,h1,h2,hs,YW]);refine Imp.aut ?_ ?_<;>simp[NLe,h4,h5,h6,h7,h8,h9,h10,h11,h1,h2,hs,YW])
 ·cases h
def d97:List AV→List NObj→Option AV
 | [.agg [.int .i64 a,.int .i64 b,.int .i64 c,.int .i64 d,.int .i64 e,.int .i64 f,.int .i64 g],.agg [.int .i64 n0,.int .i64 n1,.int .i64 n2,.int .i64 n3,.int .i64 n4]],[]=>if X7 a b c d e f g=true then some (.int .i64 (ZK c d n0 (Yj d n2))) else none
 | _,_=>none
theorem ok97:ROk d97:=by
 intro xs os r h;unfold d97 at h
 (repeat' (split at h))<;>first|(cases h;done)|(injection h with h;subst h;simp)
theorem s97:Sound Tryz.prog 97 (rdS d97 ok97):=by
 refine Zo (ac:=?ac) (res:=?res) Tryz.func97 (by kernel_rfl) (ha:=?ha) (hk:=?hk) (hok:=ok97) fun xs os r h vs ρ0 hvs=>?w
 case ha=>conv=>lhs;cbv
 case hk=>kernel_rfl
 refine ⟨xs,?_,fun _ h=>h,fun w0 S hS=>?_⟩
 ·unfold d97 at h
  (repeat' (split at h))<;>first|(cases h;done)|exact Nat.le_of_ble_eq_true rfl
 unfold d97 at h;split at h
 ·split at h
  ·rename_i a b c d e f g n0 n1 n2 n3 n4 hcond
   injection h with h;subst h;have hE:Zd Tryz.prog (EL [(116,rdS d116 ok116),(117,rdS d117 ok117)]):=Ze (by simp only[List.mem_cons,List.not_mem_nil,or_false,forall_eq_or_imp,forall_eq];exact ⟨s116,s117⟩)
   repeat' with_reducible (first|refine ZR.h ?_|refine kI ?_|((first|refine kR hE ?_|refine kD hE Zq ?_);intro K hK;simp[hcond,d116,d117];(repeat' (first|refine hK _ _ ?_|apply And.intro|(intro hc;try subst hc)))<;>(try clear hK K))|(refine kT (fun hc=>?_) (fun hc=>?_)<;>simp at hc<;>(try subst hc)))
   all_goals first|(show Zb _ _=true;kernel_rfl)|(simp;done)|(simp at *;omega)|((try simp);refine Imp.aut ?_ ?_<;>simp[NLe])
  ·cases h
 ·cases h
def Zgx (c:List AV):Bool:=c.all (fun v=>match v with|.int .i64 _=>true|_=>false)
def row14 (c:List AV):Bool:=Zgx c&&decide (c.length=14)
theorem ZdZ:∀ {c:List AV},Zgx c=true→t0L c=c
 | [],_=>rfl
 | v :: r,h=>by
  simp only[Zgx,List.all_cons,Bool.and_eq_true]at h;have:=ZdZ (c:=r) h.2;cases v<;>simp at h;simp[t0L,AV.t0,this]
theorem Zc7:∀ {c:List AV},Zgx c=true→clL c=true
 | [],_=>rfl
 | v :: r,h=>by
  simp only[Zgx,List.all_cons,Bool.and_eq_true]at h;have:=Zc7 (c:=r) h.2;cases v<;>simp at h;simp[clL,AV.cl,this]
theorem Zeh {n:Nat}:∀ {c:List AV},Zgx c=true→tlL n c=true
 | [],_=>rfl
 | v :: r,h=>by
  simp only[Zgx,List.all_cons,Bool.and_eq_true]at h;have:=Zeh (n:=n) (c:=r) h.2;cases v<;>simp at h;simp[tlL,AV.tl,this]
theorem ZC:∀ {els:List (List AV)},els.all row14=true→Yo els=els
 | [],_=>rfl
 | c :: r,h=>by
  simp only[List.all_cons,Bool.and_eq_true,row14]at h;simp[Yo,ZdZ h.1.1,ZC (els:=r) (by simpa [row14] using h.2)]
theorem ZD:∀ {els:List (List AV)},els.all row14=true→Xr els=true
 | [],_=>rfl
 | c :: r,h=>by
  simp only[List.all_cons,Bool.and_eq_true,row14]at h;simp[Xr,Zc7 h.1.1,ZD (els:=r) (by simpa [row14] using h.2)]
theorem l_tl {n:Nat}:∀ {els:List (List AV)},els.all row14=true→UR n els=true
 | [],_=>rfl
 | c :: r,h=>by
  simp only[List.all_cons,Bool.and_eq_true,row14]at h;simp[UR,Zeh h.1.1,l_tl (els:=r) (by simpa [row14] using h.2)]
def d42:List AV→Option Ans
 | [.op _ [.int .i64 a,.int .i64 b,.int .i64 c,.int .i64 d,.int .i64 e,.int .i64 f,.int .i64 g,.op _ [.os _ 1 ws,.int .i64 s,.bot,.bot,.bot,.bot,.bot],.op _ [.int .u64 t],.os _ 14 lg],.int .i64 x]=>if X7 a b c d e f g=true∧ws.all isW=true∧ws.length=(a*b*2+a*b*g*(f+1)).toNat∧0≤s∧s≤100000000∧0≤t∧t≤1000000∧lg.all row14=true∧lg.length≤100000∧0≤x∧x<a*b then some ⟨.tup [.int .u64 (wAt ws (2*x).toNat),stA (Zc (wAt ws (2*x).toNat))],[.cells 0 [.int .i64 a,.int .i64 b,.int .i64 c,.int .i64 d,.int .i64 e,.int .i64 f,.int .i64 g,.op 0 [.os 0 1 ws,.int .i64 (s+1),.bot,.bot,.bot,.bot,.bot],.op 0 [.int .u64 t],.os 0 14 lg]]⟩ else none
 | _=>none
theorem ok42:NOk [(10,true)] d42:=by
 intro xs a h;unfold d42 at h
 (repeat' (split at h))<;>first|(cases h;done)|(rename_i hc;have h1:=ZW hc.2.1;have h2:=ZV hc.2.1;have h3:=ZC hc.2.2.2.2.2.2.2.1;have h4:=ZD hc.2.2.2.2.2.2.2.1;injection h with h;subst h;refine ⟨Zp ?_,?_⟩<;>simp[h1,h2,h3,h4,stA])
theorem s42:Sound Tryz.prog 42 (Zm [(10,true)] d42 ok42):=by
 refine Zi (ac:=?ac) (res:=?res) Tryz.func42 (by kernel_rfl) (ha:=?ha) (hk:=?hk) (hok:=ok42) (fun xs a h=>?_) fun xs a h w0 S hS=>?_
 case ha=>conv=>lhs;cbv
 case hk=>kernel_rfl
 ·unfold d42 at h
  (repeat' (split at h))<;>first|(cases h;done)|exact Nat.le_of_ble_eq_true rfl
 unfold d42 at h;split at h
 ·split at h
  ·rename_i t0 a b c d e f g t1 t2 ws s t3 t t4 lg x hcond
   injection h with h;subst h;have hE:Zd Tryz.prog (EL [(39,rdS d39 ok39),(77,Zm [(7,true)] d77 ok77),(58,rdS d58 ok58)]):=Ze (by simp only[List.mem_cons,List.not_mem_nil,or_false,forall_eq_or_imp,forall_eq];exact ⟨s39,s77,s58⟩);obtain ⟨hcf,hw,hwl,hs0,hs1,ht0,ht1,hlg,hlgl,hx0,hx1⟩:=hcond;have hc:=ZE hcf;have hall:=ZB hcf;have hwd:=Yt (f:=f) (g:=g) (show 0≤a*b by omega) hall.2 (by omega) (by omega);have hT:=ZW hw;have hC:=ZV hw;have hTl:=ZC hlg;have hCl:=ZD hlg;have hs2:s≤1000000000:=(by omega);have hi:(((2*x).toNat:Nat):Int)=2*x:=(by omega);have hlt:(2*x).toNat<ws.length:=(by omega);have hltI:2*x<(ws.length:Int):=(by omega);have hn0:0≤2*x:=(by omega);have hx9:x≤1000:=(by omega);obtain ⟨hg,hv0,hv1⟩:=Zg8 hw hlt;obtain ⟨v,hv⟩:∃ v,wAt ws (2*x).toNat=v:=⟨_,rfl⟩;rw[hv]at hg hv0 hv1⊢
   repeat' with_reducible (first|refine ZR.h ?_|refine kI ?_|((first|refine kR hE ?_|refine kD hE Zq ?_);intro K hK;simp[hcf,hw,hs0,hs1,hs2,ht0,ht1,hT,hC,hTl,hCl,hx0,hx1,hx9,hltI,hn0,hv,hv0,hv1,stA,d39,d77,d58];(repeat' (first|refine hK _ _ ?_|apply And.intro|(intro hc;try subst hc)))<;>(try clear hK K))|(refine kT (fun hc=>?_) (fun hc=>?_)<;>simp at hc<;>(try subst hc)))
   all_goals first|(show Zb _ _=true;kernel_rfl)|(simp;done)|(simp at *;omega)|((try simp[hT,hC,hTl,hCl,stA]);refine Imp.aut ?_ ?_<;>simp[NLe,hT,hC,hTl,hCl,stA])
  ·cases h
 ·cases h
def d63:List AV→Option Ans
 | [.op _ [.int .i64 a,.int .i64 b,.int .i64 c,.int .i64 d,.int .i64 e,.int .i64 f,.int .i64 g,.op _ [.os _ 1 ws,.int .i64 s,.bot,.bot,.bot,.bot,.bot],.op _ [.int .u64 t],.os _ 14 lg],.int .i64 x]=>if X7 a b c d e f g=true∧ws.all isW=true∧ws.length=(a*b*2+a*b*g*(f+1)).toNat∧0≤s∧s≤100000000∧0≤t∧t≤1000000∧lg.all row14=true∧lg.length≤100000∧0≤x∧x<a*b then some ⟨tmA (Yc (wAt ws (2*x+1).toNat)),[.cells 0 [.int .i64 a,.int .i64 b,.int .i64 c,.int .i64 d,.int .i64 e,.int .i64 f,.int .i64 g,.op 0 [.os 0 1 ws,.int .i64 (s+1),.bot,.bot,.bot,.bot,.bot],.op 0 [.int .u64 t],.os 0 14 lg]]⟩ else none
 | _=>none
theorem ok63:NOk [(10,true)] d63:=by
 intro xs a h;unfold d63 at h
 (repeat' (split at h))<;>first|(cases h;done)|(rename_i hc;have h1:=ZW hc.2.1;have h2:=ZV hc.2.1;have h3:=ZC hc.2.2.2.2.2.2.2.1;have h4:=ZD hc.2.2.2.2.2.2.2.1;injection h with h;subst h;refine ⟨Zp ?_,?_⟩<;>simp[h1,h2,h3,h4,tmA,tmC])
theorem s63:Sound Tryz.prog 63 (Zm [(10,true)] d63 ok63):=by
 refine Zi (ac:=?ac) (res:=?res) Tryz.func63 (by kernel_rfl) (ha:=?ha) (hk:=?hk) (hok:=ok63) (fun xs a h=>?_) fun xs a h w0 S hS=>?_
 case ha=>conv=>lhs;cbv
 case hk=>kernel_rfl
 ·unfold d63 at h
  (repeat' (split at h))<;>first|(cases h;done)|exact Nat.le_of_ble_eq_true rfl
 unfold d63 at h;split at h
 ·split at h
  ·rename_i t0 a b c d e f g t1 t2 ws s t3 t t4 lg x hcond
   injection h with h;subst h;have hE:Zd Tryz.prog (EL [(40,rdS d40 ok40),(77,Zm [(7,true)] d77 ok77),(59,rdS d59 ok59)]):=Ze (by simp only[List.mem_cons,List.not_mem_nil,or_false,forall_eq_or_imp,forall_eq];exact ⟨s40,s77,s59⟩);obtain ⟨hcf,hw,hwl,hs0,hs1,ht0,ht1,hlg,hlgl,hx0,hx1⟩:=hcond;have hc:=ZE hcf;have hall:=ZB hcf;have hwd:=Yt (f:=f) (g:=g) (show 0≤a*b by omega) hall.2 (by omega) (by omega);have hT:=ZW hw;have hC:=ZV hw;have hTl:=ZC hlg;have hCl:=ZD hlg;have hs2:s≤1000000000:=(by omega);have hi:(((2*x+1).toNat:Nat):Int)=2*x+1:=(by omega);have hlt:(2*x+1).toNat<ws.length:=(by omega);have hltI:2*x+1<(ws.length:Int):=(by omega);have hn0:0≤2*x+1:=(by omega);have hx9:x≤1000:=(by omega);obtain ⟨hg,hv0,hv1⟩:=Zg8 hw hlt;obtain ⟨v,hv⟩:∃ v,wAt ws (2*x+1).toNat=v:=⟨_,rfl⟩;rw[hv]at hg hv0 hv1⊢
   repeat' with_reducible (first|refine ZR.h ?_|refine kI ?_|((first|refine kR hE ?_|refine kD hE Zq ?_);intro K hK;simp[hcf,hw,hs0,hs1,hs2,ht0,ht1,hT,hC,hTl,hCl,hx0,hx1,hx9,hltI,hn0,hv,hv0,hv1,tmA,tmC,d40,d77,d59];(repeat' (first|refine hK _ _ ?_|apply And.intro|(intro hc;try subst hc)))<;>(try clear hK K))|(refine kT (fun hc=>?_) (fun hc=>?_)<;>simp at hc<;>(try subst hc)))
   all_goals first|(show Zb _ _=true;kernel_rfl)|(simp;done)|(simp at *;omega)|((try simp[hT,hC,hTl,hCl,tmA,tmC]);refine Imp.aut ?_ ?_<;>simp[NLe,hT,hC,hTl,hCl,tmA,tmC])
  ·cases h
 ·cases h
end Go.W
