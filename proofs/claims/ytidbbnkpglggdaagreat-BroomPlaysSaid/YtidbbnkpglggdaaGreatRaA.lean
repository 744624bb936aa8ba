/- A part of the proofs about the pair's laws (RaA). -/
import Derived.Test.YtidbbnkpglggdaaGreatPsJ
import Derived.Test.YtidbbnkpglggdaaGreatPaA
namespace Go.W
open Go.Proofs
set_option linter.unusedSimpArgs false
set_option linter.unusedVariables false
set_option maxHeartbeats 8000000
set_option maxRecDepth 100000
attribute [local irreducible] Wm WmA
attribute [local simp] YP lkp Vq prs V9 prT ddL idL Yy Ue Ren Ve NObj.none ZT
def d90:List AV→List NObj→Option AV
 | [.int .i64 k],[]=>some (.bool (Yb k))
 | _,_=>none
theorem ok90:ROk d90:=by
 intro xs os r h;unfold d90 at h
 (repeat' (split at h))<;>first|(cases h;done)|(injection h with h;subst h;simp)
theorem s90:Sound Tryz.prog 90 (rdS d90 ok90):=by
 refine Zo (ac:=?ac) (res:=?res) Tryz.func90 (by kernel_rfl) (ha:=?ha) (hk:=?hk) (hok:=ok90) fun xs os r h vs ρ0 hvs=>?w
 case ha=>conv=>lhs;cbv
 case hk=>kernel_rfl
 refine ⟨xs,?_,fun _ h=>h,fun w0 S hS=>?_⟩
 ·unfold d90 at h
  (repeat' (split at h))<;>first|(cases h;done)|exact Nat.le_of_ble_eq_true rfl
 unfold d90 at h;split at h
 ·rename_i k
  injection h with h;subst h;have hE:Zd Tryz.prog (EL []):=Ze (by simp);by_cases h3:k=3
  ·subst h3
   repeat' with_reducible (first|refine ZR.h ?_|refine kI ?_|(refine kR hE ?_;intro K hK;simp[Yb];(repeat' (first|refine hK _ _ ?_|apply And.intro|(intro hc;try subst hc)))<;>(try clear hK K))|(refine kT (fun hc=>?_) (fun hc=>?_)<;>simp at hc<;>(try subst hc)))
   all_goals first|(show Zb _ _=true;kernel_rfl)|(simp;done)|(simp at *;omega)|((try simp[Yb]);refine Imp.aut ?_ ?_<;>simp[NLe,Yb])
  ·by_cases h4:k=4
   ·subst h4
    repeat' with_reducible (first|refine ZR.h ?_|refine kI ?_|(refine kR hE ?_;intro K hK;simp[Yb];(repeat' (first|refine hK _ _ ?_|apply And.intro|(intro hc;try subst hc)))<;>(try clear hK K))|(refine kT (fun hc=>?_) (fun hc=>?_)<;>simp at hc<;>(try subst hc)))
    all_goals first|(show Zb _ _=true;kernel_rfl)|(simp;done)|(simp at *;omega)|((try simp[Yb]);refine Imp.aut ?_ ?_<;>simp[NLe,Yb])
   ·have hh:Yb k=false:=by simp[Yb,h3,h4]
    rw[hh]
    repeat' with_reducible (first|refine ZR.h ?_|refine kI ?_|(refine kR hE ?_;intro K hK;simp[h3,h4];(repeat' (first|refine hK _ _ ?_|apply And.intro|(intro hc;try subst hc)))<;>(try clear hK K))|(refine kT (fun hc=>?_) (fun hc=>?_)<;>simp at hc<;>(try subst hc)))
    all_goals first|(show Zb _ _=true;kernel_rfl)|(simp;done)|(simp at *;omega)|((try simp[h3,h4]);refine Imp.aut ?_ ?_<;>simp[NLe,h3,h4])
 ·cases h
def Y0 (s:StZ) (q F:Int):StZ:=Z2 (if 0<q then { s with l:=s.l - q,f:=s.f+1 } else s) F
def d110:List AV→List NObj→Option AV
 | [.agg [.int .i64 k,.bool fl,.int .i64 sg,.int .i64 sl,.int .i64 sf],.int .i64 q,.int .i64 F],[]=>if 0≤sl∧sl≤1000000∧0≤sf∧sf≤1000000∧0≤q∧q≤1000000 then some (stA (Y0 ⟨k,fl,sg,sl,sf⟩ q F)) else none
 | _,_=>none
theorem ok110:ROk d110:=by
 intro xs os r h;unfold d110 at h
 (repeat' (split at h))<;>first|(cases h;done)|(injection h with h;subst h;simp[stA])
theorem s110:Sound Tryz.prog 110 (rdS d110 ok110):=by
 refine Zo (ac:=?ac) (res:=?res) Tryz.func110 (by kernel_rfl) (ha:=?ha) (hk:=?hk) (hok:=ok110) fun xs os r h vs ρ0 hvs=>?w
 case ha=>conv=>lhs;cbv
 case hk=>kernel_rfl
 refine ⟨xs,?_,fun _ h=>h,fun w0 S hS=>?_⟩
 ·unfold d110 at h
  (repeat' (split at h))<;>first|(cases h;done)|exact Nat.le_of_ble_eq_true rfl
 unfold d110 at h;split at h
 ·split at h
  ·rename_i k fl sg sl sf q F hcond
   injection h with h;subst h;have hE:Zd Tryz.prog (EL []):=Ze (by simp);obtain ⟨c1,c2,c3,c4,c5,c6⟩:=hcond;have w1:IntKind.wrap .i64 (sl - q)=sl - q:=Zg (by omega) (by omega);have w2:IntKind.wrap .i64 (sf+1)=sf+1:=Zg (by omega) (by omega);have w0:IntKind.wrap .i64 0=0:=rfl;unfold Y0 Z2;by_cases hq:0<q
   ·by_cases hl:sl - q=0
    ·simp only[if_pos hq,hl,if_true,stA]
     repeat' with_reducible (first|refine ZR.h ?_|refine kI ?_|(refine kR hE ?_;intro K hK;simp[w0,w1,w2,hq,hl];(repeat' (first|refine hK _ _ ?_|apply And.intro|(intro hc;try subst hc)))<;>(try clear hK K))|(refine kT (fun hc=>?_) (fun hc=>?_)<;>simp at hc<;>(try subst hc)))
     all_goals first|(show Zb _ _=true;kernel_rfl)|(simp;done)|(simp at *;omega)|((try simp[w0,w1,w2,hq,hl]);refine Imp.aut ?_ ?_<;>simp[NLe,w0,w1,w2,hq,hl])
    ·by_cases hf:F≤sf+1
     ·simp only[if_pos hq,if_neg hl,if_pos hf,stA]
      repeat' with_reducible (first|refine ZR.h ?_|refine kI ?_|(refine kR hE ?_;intro K hK;simp[w1,w2,hq,hl,hf];(repeat' (first|refine hK _ _ ?_|apply And.intro|(intro hc;try subst hc)))<;>(try clear hK K))|(refine kT (fun hc=>?_) (fun hc=>?_)<;>simp at hc<;>(try subst hc)))
      all_goals first|(show Zb _ _=true;kernel_rfl)|(simp;done)|(simp at *;omega)|((try simp[w1,w2,hq,hl,hf]);refine Imp.aut ?_ ?_<;>simp[NLe,w1,w2,hq,hl,hf])
     ·simp only[if_pos hq,if_neg hl,if_neg hf,stA]
      repeat' with_reducible (first|refine ZR.h ?_|refine kI ?_|(refine kR hE ?_;intro K hK;simp[w1,w2,hq,hl,hf];(repeat' (first|refine hK _ _ ?_|apply And.intro|(intro hc;try subst hc)))<;>(try clear hK K))|(refine kT (fun hc=>?_) (fun hc=>?_)<;>simp at hc<;>(try subst hc)))
      all_goals first|(show Zb _ _=true;kernel_rfl)|(simp;done)|(simp at *;omega)|((try simp[w1,w2,hq,hl,hf]);refine Imp.aut ?_ ?_<;>simp[NLe,w1,w2,hq,hl,hf])
   ·by_cases hl:sl=0
    ·simp only[if_neg hq,hl,if_true,stA]
     repeat' with_reducible (first|refine ZR.h ?_|refine kI ?_|(refine kR hE ?_;intro K hK;simp[w0,w1,w2,hq,hl];(repeat' (first|refine hK _ _ ?_|apply And.intro|(intro hc;try subst hc)))<;>(try clear hK K))|(refine kT (fun hc=>?_) (fun hc=>?_)<;>simp at hc<;>(try subst hc)))
     all_goals first|(show Zb _ _=true;kernel_rfl)|(simp;done)|(simp at *;omega)|((try simp[w0,w1,w2,hq,hl]);refine Imp.aut ?_ ?_<;>simp[NLe,w0,w1,w2,hq,hl])
    ·by_cases hf:F≤sf
     ·simp only[if_neg hq,if_neg hl,if_pos hf,stA]
      repeat' with_reducible (first|refine ZR.h ?_|refine kI ?_|(refine kR hE ?_;intro K hK;simp[w1,w2,hq,hl,hf];(repeat' (first|refine hK _ _ ?_|apply And.intro|(intro hc;try subst hc)))<;>(try clear hK K))|(refine kT (fun hc=>?_) (fun hc=>?_)<;>simp at hc<;>(try subst hc)))
      all_goals first|(show Zb _ _=true;kernel_rfl)|(simp;done)|(simp at *;omega)|((try simp[w1,w2,hq,hl,hf]);refine Imp.aut ?_ ?_<;>simp[NLe,w1,w2,hq,hl,hf])
     ·simp only[if_neg hq,if_neg hl,if_neg hf,stA]
      repeat' with_reducible (first|refine ZR.h ?_|refine kI ?_|(refine kR hE ?_;intro K hK;simp[w1,w2,hq,hl,hf];(repeat' (first|refine hK _ _ ?_|apply And.intro|(intro hc;try subst hc)))<;>(try clear hK K))|(refine kT (fun hc=>?_) (fun hc=>?_)<;>simp at hc<;>(try subst hc)))
      all_goals first|(show Zb _ _=true;kernel_rfl)|(simp;done)|(simp at *;omega)|((try simp[w1,w2,hq,hl,hf]);refine Imp.aut ?_ ?_<;>simp[NLe,w1,w2,hq,hl,hf])
  ·cases h
 ·cases h
def d86:List AV→List NObj→Option AV
 | [.agg [.int .i64 k,.bool fl,.int .i64 sg,.int .i64 sl,.int .i64 sf],.int .i64 q,.int .i64 F],[]=>if 0≤sl∧sl≤1000000∧0≤sf∧sf≤1000000 then some (.tup [stA (Zz ⟨k,fl,sg,sl,sf⟩ q F).1,.int .i64 (Zz ⟨k,fl,sg,sl,sf⟩ q F).2]) else none
 | _,_=>none
theorem ok86:ROk d86:=by
 intro xs os r h;unfold d86 at h
 (repeat' (split at h))<;>first|(cases h;done)|(injection h with h;subst h;simp[stA])
theorem s86:Sound Tryz.prog 86 (rdS d86 ok86):=by
 refine Zo (ac:=?ac) (res:=?res) Tryz.func86 (by kernel_rfl) (ha:=?ha) (hk:=?hk) (hok:=ok86) fun xs os r h vs ρ0 hvs=>?w
 case ha=>conv=>lhs;cbv
 case hk=>kernel_rfl
 refine ⟨xs,?_,fun _ h=>h,fun w0 S hS=>?_⟩
 ·unfold d86 at h
  (repeat' (split at h))<;>first|(cases h;done)|exact Nat.le_of_ble_eq_true rfl
 unfold d86 at h;split at h
 ·split at h
  ·rename_i k fl sg sl sf q F hcond
   injection h with h;subst h;have hE:Zd Tryz.prog (EL [(36,rdS d36 ok36),(110,rdS d110 ok110)]):=Ze (by simp only[List.mem_cons,List.not_mem_nil,or_false,forall_eq_or_imp,forall_eq];exact ⟨s36,s110⟩);obtain ⟨c1,c2,c3,c4⟩:=hcond;have hLo:d36 [.int .i64 k] []=some (.bool (ZA k)):=rfl;by_cases h1:ZA k=false
   ·rw[h1]at hLo
    have ht:Zz ⟨k,fl,sg,sl,sf⟩ q F=(Zu,27):=(by unfold Zz;rw[if_pos h1]);rw[ht];simp only[stA,Zu]
    repeat' with_reducible (first|refine ZR.h ?_|refine kI ?_|(refine kR hE ?_;intro K hK;simp[hLo];(repeat' (first|refine hK _ _ ?_|apply And.intro|(intro hc;try subst hc)))<;>(try clear hK K))|(refine kT (fun hc=>?_) (fun hc=>?_)<;>simp at hc<;>(try subst hc)))
    all_goals first|(show Zb _ _=true;kernel_rfl)|(simp;done)|(simp at *;omega)|((try simp[hLo]);refine Imp.aut ?_ ?_<;>simp[NLe,hLo])
   ·rw[show ZA k=true by simpa using h1]at hLo
    by_cases h2:q<1
    ·have ht:Zz ⟨k,fl,sg,sl,sf⟩ q F=(Zu,23):=by unfold Zz;rw[if_neg h1,if_pos h2]
     rw[ht];simp only[stA,Zu]
     repeat' with_reducible (first|refine ZR.h ?_|refine kI ?_|(refine kR hE ?_;intro K hK;simp[hLo,h2];(repeat' (first|refine hK _ _ ?_|apply And.intro|(intro hc;try subst hc)))<;>(try clear hK K))|(refine kT (fun hc=>?_) (fun hc=>?_)<;>simp at hc<;>(try subst hc)))
     all_goals first|(show Zb _ _=true;kernel_rfl)|(simp;done)|(simp at *;omega)|((try simp[hLo,h2]);refine Imp.aut ?_ ?_<;>simp[NLe,hLo,h2])
    ·by_cases h3:sl<q
     ·have ht:Zz ⟨k,fl,sg,sl,sf⟩ q F=(Zu,23):=by unfold Zz;rw[if_neg h1,if_neg h2,if_pos h3]
      rw[ht];simp only[stA,Zu]
      repeat' with_reducible (first|refine ZR.h ?_|refine kI ?_|(refine kR hE ?_;intro K hK;simp[hLo,h2,h3];(repeat' (first|refine hK _ _ ?_|apply And.intro|(intro hc;try subst hc)))<;>(try clear hK K))|(refine kT (fun hc=>?_) (fun hc=>?_)<;>simp at hc<;>(try subst hc)))
      all_goals first|(show Zb _ _=true;kernel_rfl)|(simp;done)|(simp at *;omega)|((try simp[hLo,h2,h3]);refine Imp.aut ?_ ?_<;>simp[NLe,hLo,h2,h3])
     ·by_cases h4:F≤sf
      ·have ht:Zz ⟨k,fl,sg,sl,sf⟩ q F=(Zu,4):=by unfold Zz;rw[if_neg h1,if_neg h2,if_neg h3,if_pos h4]
       rw[ht];simp only[stA,Zu]
       repeat' with_reducible (first|refine ZR.h ?_|refine kI ?_|(refine kR hE ?_;intro K hK;simp[hLo,h2,h3,h4];(repeat' (first|refine hK _ _ ?_|apply And.intro|(intro hc;try subst hc)))<;>(try clear hK K))|(refine kT (fun hc=>?_) (fun hc=>?_)<;>simp at hc<;>(try subst hc)))
       all_goals first|(show Zb _ _=true;kernel_rfl)|(simp;done)|(simp at *;omega)|((try simp[hLo,h2,h3,h4]);refine Imp.aut ?_ ?_<;>simp[NLe,hLo,h2,h3,h4])
      ·have ht:Zz ⟨k,fl,sg,sl,sf⟩ q F=(Y0 ⟨k,fl,sg,sl,sf⟩ q F,0):=by unfold Zz Y0;rw[if_neg h1,if_neg h2,if_neg h3,if_neg h4,if_pos (show 0<q by omega)]
       have h5:d110 [.agg [.int .i64 k,.bool fl,.int .i64 sg,.int .i64 sl,.int .i64 sf],.int .i64 q,.int .i64 F] []=some (stA (Y0 ⟨k,fl,sg,sl,sf⟩ q F)):=(by simp only[d110];rw[if_pos ⟨c1,c2,c3,c4,by omega,by omega⟩]);rw[ht];obtain ⟨z,hz⟩:∃ z,Y0 ⟨k,fl,sg,sl,sf⟩ q F=z:=⟨_,rfl⟩;rw[hz]at h5⊢;simp only[stA]at h5⊢
       repeat' with_reducible (first|refine ZR.h ?_|refine kI ?_|(refine kR hE ?_;intro K hK;simp[hLo,h2,h3,h4,h5];(repeat' (first|refine hK _ _ ?_|apply And.intro|(intro hc;try subst hc)))<;>(try clear hK K))|(refine kT (fun hc=>?_) (fun hc=>?_)<;>simp at hc<;>(try subst hc)))
       all_goals first|(show Zb _ _=true;kernel_rfl)|(simp;done)|(simp at *;omega)|((try simp[hLo,h2,h3,h4,h5]);refine Imp.aut ?_ ?_<;>simp[NLe,hLo,h2,h3,h4,h5])
  ·cases h
 ·cases h
theorem ZbQ {s:StZ} {q F:Int} (h:Yb s.k=true):Yz (if 0<q then { s with l:=s.l - q,f:=s.f+1 } else s) F=(if (Y0 { s with k:=s.k - 2 } q F).fl=true then { Y0 { s with k:=s.k - 2 } q F with k:=6,fl:=false } else Y0 { s with k:=s.k - 2 } q F):=by
 obtain ⟨k,fl,g,l,f⟩:=s;have hk:k=3∨k=4:=by simp only[Yb,Bool.or_eq_true,decide_eq_true_eq]at h;exact h
 have e:Z2 (Z3 (if 0<q then (⟨k,fl,g,l - q,f+1⟩:StZ) else ⟨k,fl,g,l,f⟩)) F=Y0 ⟨k - 2,fl,g,l,f⟩ q F:=by
  unfold Y0;by_cases hq:0<q
  ·rw[if_pos hq,if_pos hq]
   unfold Z3;rcases hk with rfl|rfl<;>rfl
  ·rw[if_neg hq,if_neg hq]
   unfold Z3;rcases hk with rfl|rfl<;>rfl
 unfold Yz;simp only at e⊢;rw[e]
def d87:List AV→List NObj→Option AV
 | [.agg [.int .i64 k,.bool fl,.int .i64 sg,.int .i64 sl,.int .i64 sf],.int .i64 q,.int .i64 F],[]=>if 0≤sl∧sl≤1000000∧0≤sf∧sf≤1000000 then some (.tup [stA (Zh ⟨k,fl,sg,sl,sf⟩ q F).1,.int .i64 (Zh ⟨k,fl,sg,sl,sf⟩ q F).2]) else none
 | _,_=>none
theorem ok87:ROk d87:=by
 intro xs os r h;unfold d87 at h
 (repeat' (split at h))<;>first|(cases h;done)|(injection h with h;subst h;simp[stA])
theorem s87:Sound Tryz.prog 87 (rdS d87 ok87):=by
 refine Zo (ac:=?ac) (res:=?res) Tryz.func87 (by kernel_rfl) (ha:=?ha) (hk:=?hk) (hok:=ok87) fun xs os r h vs ρ0 hvs=>?w
 case ha=>conv=>lhs;cbv
 case hk=>kernel_rfl
 refine ⟨xs,?_,fun _ h=>h,fun w0 S hS=>?_⟩
 ·unfold d87 at h
  (repeat' (split at h))<;>first|(cases h;done)|exact Nat.le_of_ble_eq_true rfl
 unfold d87 at h;split at h
 ·split at h
  ·rename_i k fl sg sl sf q F hcond
   injection h with h;subst h;have hE:Zd Tryz.prog (EL [(90,rdS d90 ok90),(110,rdS d110 ok110)]):=Ze (by simp only[List.mem_cons,List.not_mem_nil,or_false,forall_eq_or_imp,forall_eq];exact ⟨s90,s110⟩);obtain ⟨c1,c2,c3,c4⟩:=hcond;have hHe:d90 [.int .i64 k] []=some (.bool (Yb k)):=rfl;by_cases h1:Yb k=false
   ·rw[h1]at hHe
    have ht:Zh ⟨k,fl,sg,sl,sf⟩ q F=(Zu,1):=(by unfold Zh;rw[if_pos h1]);rw[ht];simp only[stA,Zu]
    repeat' with_reducible (first|refine ZR.h ?_|refine kI ?_|(refine kR hE ?_;intro K hK;simp[hHe];(repeat' (first|refine hK _ _ ?_|apply And.intro|(intro hc;try subst hc)))<;>(try clear hK K))|(refine kT (fun hc=>?_) (fun hc=>?_)<;>simp at hc<;>(try subst hc)))
    all_goals first|(show Zb _ _=true;kernel_rfl)|(simp;done)|(simp at *;omega)|((try simp[hHe]);refine Imp.aut ?_ ?_<;>simp[NLe,hHe])
   ·have h1t:Yb k=true:=by simpa using h1
    rw[h1t]at hHe;by_cases h2:q<0
    ·have ht:Zh ⟨k,fl,sg,sl,sf⟩ q F=(Zu,23):=by unfold Zh;rw[if_neg h1,if_pos h2]
     rw[ht];simp only[stA,Zu]
     repeat' with_reducible (first|refine ZR.h ?_|refine kI ?_|(refine kR hE ?_;intro K hK;simp[hHe,h2];(repeat' (first|refine hK _ _ ?_|apply And.intro|(intro hc;try subst hc)))<;>(try clear hK K))|(refine kT (fun hc=>?_) (fun hc=>?_)<;>simp at hc<;>(try subst hc)))
     all_goals first|(show Zb _ _=true;kernel_rfl)|(simp;done)|(simp at *;omega)|((try simp[hHe,h2]);refine Imp.aut ?_ ?_<;>simp[NLe,hHe,h2])
    ·by_cases h3:sl<q
     ·have ht:Zh ⟨k,fl,sg,sl,sf⟩ q F=(Zu,23):=by unfold Zh;rw[if_neg h1,if_neg h2,if_pos h3]
      rw[ht];simp only[stA,Zu]
      repeat' with_reducible (first|refine ZR.h ?_|refine kI ?_|(refine kR hE ?_;intro K hK;simp[hHe,h2,h3];(repeat' (first|refine hK _ _ ?_|apply And.intro|(intro hc;try subst hc)))<;>(try clear hK K))|(refine kT (fun hc=>?_) (fun hc=>?_)<;>simp at hc<;>(try subst hc)))
      all_goals first|(show Zb _ _=true;kernel_rfl)|(simp;done)|(simp at *;omega)|((try simp[hHe,h2,h3]);refine Imp.aut ?_ ?_<;>simp[NLe,hHe,h2,h3])
     ·by_cases h4:0<q∧F≤sf
      ·have ht:Zh ⟨k,fl,sg,sl,sf⟩ q F=(Zu,4):=by unfold Zh;rw[if_neg h1,if_neg h2,if_neg h3,if_pos h4.1,if_pos h4.2]
       rw[ht];simp only[stA,Zu]
       repeat' with_reducible (first|refine ZR.h ?_|refine kI ?_|(refine kR hE ?_;intro K hK;simp[hHe,h2,h3,h4.1,h4.2];(repeat' (first|refine hK _ _ ?_|apply And.intro|(intro hc;try subst hc)))<;>(try clear hK K))|(refine kT (fun hc=>?_) (fun hc=>?_)<;>simp at hc<;>(try subst hc)))
       all_goals first|(show Zb _ _=true;kernel_rfl)|(simp;done)|(simp at *;omega)|((try simp[hHe,h2,h3,h4.1,h4.2]);refine Imp.aut ?_ ?_<;>simp[NLe,hHe,h2,h3,h4.1,h4.2])
      ·have ht:Zh ⟨k,fl,sg,sl,sf⟩ q F=(if (Y0 ⟨k - 2,fl,sg,sl,sf⟩ q F).fl=true then { Y0 ⟨k - 2,fl,sg,sl,sf⟩ q F with k:=6,fl:=false } else Y0 ⟨k - 2,fl,sg,sl,sf⟩ q F,0):=by
        have key:=ZbQ (s:=⟨k,fl,sg,sl,sf⟩) (q:=q) (F:=F) h1t;unfold Zh;rw[if_neg h1,if_neg h2,if_neg h3];by_cases hq:0<q
        ·rw[if_pos hq,if_neg (fun x=>h4 ⟨hq,x⟩)]
         rw[if_pos hq]at key;rw[← key]
        ·rw[if_neg hq]
         rw[if_neg hq]at key;rw[← key]
       have h5:d110 [.agg [.int .i64 (k - 2),.bool fl,.int .i64 sg,.int .i64 sl,.int .i64 sf],.int .i64 q,.int .i64 F] []=some (stA (Y0 ⟨k - 2,fl,sg,sl,sf⟩ q F)):=(by simp only[d110];rw[if_pos ⟨c1,c2,c3,c4,by omega,by omega⟩]);have hk:k=3∨k=4:=(by simp only[Yb,Bool.or_eq_true,decide_eq_true_eq]at h1t;exact h1t);have wk:IntKind.wrap .i64 (k - 2)=k - 2:=Zg (by omega) (by omega);rw[ht];obtain ⟨⟨zk,zf,zg,zl,zn⟩,hz⟩:∃ z,Y0 ⟨k - 2,fl,sg,sl,sf⟩ q F=z:=⟨_,rfl⟩;rw[hz]at h5⊢;simp only[stA]at h5⊢;clear hz ht;by_cases hq:0<q
       ·have hf:¬ F≤sf:=fun x=>h4 ⟨hq,x⟩
        cases zf
        ·skip
         repeat' with_reducible (first|refine ZR.h ?_|refine kI ?_|(refine kR hE ?_;intro K hK;simp[hHe,h2,h3,hq,hf,wk,h5];(repeat' (first|refine hK _ _ ?_|apply And.intro|(intro hc;try subst hc)))<;>(try clear hK K))|(refine kT (fun hc=>?_) (fun hc=>?_)<;>simp at hc<;>(try subst hc)))
         all_goals first|(show Zb _ _=true;kernel_rfl)|(simp;done)|(simp at *;omega)|((try simp[hHe,h2,h3,hq,hf,wk,h5]);refine Imp.aut ?_ ?_<;>simp[NLe,hHe,h2,h3,hq,hf,wk,h5])
        ·skip
         repeat' with_reducible (first|refine ZR.h ?_|refine kI ?_|(refine kR hE ?_;intro K hK;simp[hHe,h2,h3,hq,hf,wk,h5];(repeat' (first|refine hK _ _ ?_|apply And.intro|(intro hc;try subst hc)))<;>(try clear hK K))|(refine kT (fun hc=>?_) (fun hc=>?_)<;>simp at hc<;>(try subst hc)))
         all_goals first|(show Zb _ _=true;kernel_rfl)|(simp;done)|(simp at *;omega)|((try simp[hHe,h2,h3,hq,hf,wk,h5]);refine Imp.aut ?_ ?_<;>simp[NLe,hHe,h2,h3,hq,hf,wk,h5])
       ·cases zf
        ·skip
         repeat' with_reducible (first|refine ZR.h ?_|refine kI ?_|(refine kR hE ?_;intro K hK;simp[hHe,h2,h3,hq,wk,h5];(repeat' (first|refine hK _ _ ?_|apply And.intro|(intro hc;try subst hc)))<;>(try clear hK K))|(refine kT (fun hc=>?_) (fun hc=>?_)<;>simp at hc<;>(try subst hc)))
         all_goals first|(show Zb _ _=true;kernel_rfl)|(simp;done)|(simp at *;omega)|((try simp[hHe,h2,h3,hq,wk,h5]);refine Imp.aut ?_ ?_<;>simp[NLe,hHe,h2,h3,hq,wk,h5])
        ·skip
         repeat' with_reducible (first|refine ZR.h ?_|refine kI ?_|(refine kR hE ?_;intro K hK;simp[hHe,h2,h3,hq,wk,h5];(repeat' (first|refine hK _ _ ?_|apply And.intro|(intro hc;try subst hc)))<;>(try clear hK K))|(refine kT (fun hc=>?_) (fun hc=>?_)<;>simp at hc<;>(try subst hc)))
         all_goals first|(show Zb _ _=true;kernel_rfl)|(simp;done)|(simp at *;omega)|((try simp[hHe,h2,h3,hq,wk,h5]);refine Imp.aut ?_ ?_<;>simp[NLe,hHe,h2,h3,hq,wk,h5])
  ·cases h
 ·cases h
def d50:List AV→List NObj→Option AV
 | [.agg [.int .i64 k,.bool fl,.int .i64 sg,.int .i64 sl,.int .i64 sf],.int .i64 t],[]=>some (.tup [rcA (ZJ ⟨k,fl,sg,sl,sf⟩ t).1,.bool (ZJ ⟨k,fl,sg,sl,sf⟩ t).2])
 | _,_=>none
theorem ok50:ROk d50:=by
 intro xs os r h;unfold d50 at h
 (repeat' (split at h))<;>first|(cases h;done)|(injection h with h;subst h;simp[rcA])
theorem s50:Sound Tryz.prog 50 (rdS d50 ok50):=by
 refine Zo (ac:=?ac) (res:=?res) Tryz.func50 (by kernel_rfl) (ha:=?ha) (hk:=?hk) (hok:=ok50) fun xs os r h vs ρ0 hvs=>?w
 case ha=>conv=>lhs;cbv
 case hk=>kernel_rfl
 refine ⟨xs,?_,fun _ h=>h,fun w0 S hS=>?_⟩
 ·unfold d50 at h
  (repeat' (split at h))<;>first|(cases h;done)|exact Nat.le_of_ble_eq_true rfl
 unfold d50 at h;split at h
 ·rename_i k fl sg sl sf t
  injection h with h;subst h;have hE:Zd Tryz.prog (EL []):=Ze (by simp);have w2:IntKind.wrap .i64 2=2:=rfl;have w3:IntKind.wrap .i64 3=3:=rfl;have w4:IntKind.wrap .i64 4=4:=rfl;have w5:IntKind.wrap .i64 5=5:=rfl;by_cases h5:k=5
  ·subst h5
   simp only[ZJ,if_true,rcA]
   repeat' with_reducible (first|refine ZR.h ?_|refine kI ?_|(refine kR hE ?_;intro K hK;simp[w2,w3,w4,w5];(repeat' (first|refine hK _ _ ?_|apply And.intro|(intro hc;try subst hc)))<;>(try clear hK K))|(refine kT (fun hc=>?_) (fun hc=>?_)<;>simp at hc<;>(try subst hc)))
   all_goals first|(show Zb _ _=true;kernel_rfl)|(simp;done)|(simp at *;omega)|((try simp[w2,w3,w4,w5]);refine Imp.aut ?_ ?_<;>simp[NLe,w2,w3,w4,w5])
  ·by_cases h6:k=6
   ·subst h6
    simp only[ZJ,if_neg h5,if_true,rcA]
    repeat' with_reducible (first|refine ZR.h ?_|refine kI ?_|(refine kR hE ?_;intro K hK;simp[w2,w3,w4,w5];(repeat' (first|refine hK _ _ ?_|apply And.intro|(intro hc;try subst hc)))<;>(try clear hK K))|(refine kT (fun hc=>?_) (fun hc=>?_)<;>simp at hc<;>(try subst hc)))
    all_goals first|(show Zb _ _=true;kernel_rfl)|(simp;done)|(simp at *;omega)|((try simp[w2,w3,w4,w5]);refine Imp.aut ?_ ?_<;>simp[NLe,w2,w3,w4,w5])
   ·by_cases h7:k=7
    ·subst h7
     simp only[ZJ,if_neg h5,if_neg h6,if_true,rcA]
     repeat' with_reducible (first|refine ZR.h ?_|refine kI ?_|(refine kR hE ?_;intro K hK;simp[w2,w3,w4,w5];(repeat' (first|refine hK _ _ ?_|apply And.intro|(intro hc;try subst hc)))<;>(try clear hK K))|(refine kT (fun hc=>?_) (fun hc=>?_)<;>simp at hc<;>(try subst hc)))
     all_goals first|(show Zb _ _=true;kernel_rfl)|(simp;done)|(simp at *;omega)|((try simp[w2,w3,w4,w5]);refine Imp.aut ?_ ?_<;>simp[NLe,w2,w3,w4,w5])
    ·by_cases h8:k=8
     ·subst h8
      simp only[ZJ,if_neg h5,if_neg h6,if_neg h7,if_true,rcA]
      repeat' with_reducible (first|refine ZR.h ?_|refine kI ?_|(refine kR hE ?_;intro K hK;simp[w2,w3,w4,w5];(repeat' (first|refine hK _ _ ?_|apply And.intro|(intro hc;try subst hc)))<;>(try clear hK K))|(refine kT (fun hc=>?_) (fun hc=>?_)<;>simp at hc<;>(try subst hc)))
      all_goals first|(show Zb _ _=true;kernel_rfl)|(simp;done)|(simp at *;omega)|((try simp[w2,w3,w4,w5]);refine Imp.aut ?_ ?_<;>simp[NLe,w2,w3,w4,w5])
     ·simp only[ZJ,if_neg h5,if_neg h6,if_neg h7,if_neg h8,rcA]
      by_cases hl:k<5
      ·skip
       repeat' with_reducible (first|refine ZR.h ?_|refine kI ?_|(refine kR hE ?_;intro K hK;simp[hl];(repeat' (first|refine hK _ _ ?_|apply And.intro|(intro hc;try subst hc)))<;>(try clear hK K))|(refine kT (fun hc=>?_) (fun hc=>?_)<;>simp at hc<;>(try subst hc)))
       all_goals first|(show Zb _ _=true;kernel_rfl)|(simp;done)|(simp at *;omega)|((try simp[hl]);refine Imp.aut ?_ ?_<;>simp[NLe,hl])
      ·have hm:8<k:=by omega
       repeat' with_reducible (first|refine ZR.h ?_|refine kI ?_|(refine kR hE ?_;intro K hK;simp[hl,hm];(repeat' (first|refine hK _ _ ?_|apply And.intro|(intro hc;try subst hc)))<;>(try clear hK K))|(refine kT (fun hc=>?_) (fun hc=>?_)<;>simp at hc<;>(try subst hc)))
       all_goals first|(show Zb _ _=true;kernel_rfl)|(simp;done)|(simp at *;omega)|((try simp[hl,hm]);refine Imp.aut ?_ ?_<;>simp[NLe,hl,hm])
 ·cases h
end Go.W
