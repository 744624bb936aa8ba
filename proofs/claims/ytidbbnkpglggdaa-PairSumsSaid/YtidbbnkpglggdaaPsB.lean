/- A part of the proofs about the pair's laws (PsB). -/
import Derived.Test.YtidbbnkpglggdaaPsA
namespace Go.W
open Go.Proofs
set_option linter.unusedSimpArgs false
set_option linter.unusedVariables false
set_option maxHeartbeats 8000000
attribute [local irreducible] Wm
attribute [local simp] nmap lkp mkPl prs prsL prT ddL idL CRenL CRen Ren RenL NObj.none CRenLL
theorem words_in {a b f g:Int} (h:0≤a*b) (h':a*b≤24) (hf:1≤f∧f≤4) (hg:1≤g∧g≤15):(0≤a*b*g∧a*b*g≤360)∧0≤a*b*g*(f+1)∧a*b*g*(f+1)≤1800:=by
 have h1:=mul_in h h' (show 0≤g by omega) (show g≤15 by omega)
 have h2:=mul_in h1.1 h1.2 (show 0≤f+1 by omega) (show f+1≤5 by omega)
 omega
def d74:List AV→List NObj→Option AV
 | [.agg [.int .i64 a,.int .i64 b,.int .i64 c,.int .i64 d,.int .i64 e,.int .i64 f,.int .i64 g]],[]=>if cfgB a b c d e f g=true then some (.int .i64 (a*b*2+a*b*g*(f+1))) else none
 | _,_=>none
theorem ok74:ROk d74:=by
 intro xs os r h
 unfold d74 at h
 (repeat' (split at h))<;>first|(cases h;done)|(injection h with h;subst h;simp)
theorem s74:Sound Try.prog 74 (rdS d74 ok74):=by
 refine rd_sound Try.func74 nm74 rc74 rv74 ok74 fun xs os r h vs ρ0 hvs=>⟨xs,?_,fun _ h=>h,fun w0 S hS=>?_⟩
 ·unfold d74 at h
  (repeat' (split at h))<;>first|(cases h;done)|exact Nat.le_of_ble_eq_true rfl
 unfold d74 at h
 split at h
 ·split at h
  ·rename_i a b c d e f g hcond
   injection h with h
   subst h
   have hE:SoundAll Try.prog (EL [(59,rdS d59 ok59)]):=EL_sound (by simp only[List.mem_cons,List.not_mem_nil,or_false,forall_eq_or_imp,forall_eq];exact s59)
   have hc:=cfg_ex hcond
   have hm:=cfg_all hcond
   have hw:=words_in (f:=f) (g:=g) (show 0≤a*b by omega) hm.2 (by omega) (by omega)
   have w1:IntKind.wrap .i64 (a*b*2)=a*b*2:=wrap_in (by omega) (by omega)
   have w2:IntKind.wrap .i64 (a*b*g)=a*b*g:=wrap_in (by omega) (by omega)
   have w3:IntKind.wrap .i64 (f+1)=f+1:=wrap_in (by omega) (by omega)
   have w4:IntKind.wrap .i64 (a*b*g*(f+1))=a*b*g*(f+1):=wrap_in (by omega) (by omega)
   have w5:IntKind.wrap .i64 (a*b*2+a*b*g*(f+1))=a*b*2+a*b*g*(f+1):=wrap_in (by omega) (by omega)
   unfold m74
   repeat' with_reducible (first
    | refine ZR.h ?_ | refine zI (by decide) ?_
    | ((first | refine zK hE ?_ | refine zL hE mixT ?_);intro K hK;simp[KR.ks,KD.ks,KD.cl,q74_0,q74_1,hcond,w1,w2,w3,w4,w5,d59];(repeat' (first | refine hK _ _ ?_ | refine And.intro ?_ ?_ | (intro hc;try subst hc)))<;>(try clear hK K))
    | (refine zJ (b:=_) (by with_unfolding_all rfl) (fun hc=>?_) (fun hc=>?_)<;>simp at hc<;>(try subst hc)))
   all_goals first|(simp;done)|(simp at *;omega)|((try simp);refine Imp.auto (by kernel_rfl) ?_ ?_<;>simp[NLe])
  ·cases h
 ·cases h
def slotZ (a b f g x gen n:Int):Int:=if x<0 then -1 else if a*b≤x then -1 else if gen<1 then -1 else if g<gen then -1 else if n<0 then -1 else if f<n then -1 else a*b*2+(x*g+gen - 1)*(f+1)+n
def d20:List AV→List NObj→Option AV
 | [.agg [.int .i64 a,.int .i64 b,.int .i64 c,.int .i64 d,.int .i64 e,.int .i64 f,.int .i64 g],.int .i64 x,.int .i64 y,.int .i64 z],[]=>if cfgB a b c d e f g=true then some (.int .i64 (slotZ a b f g x y z)) else none
 | _,_=>none
theorem ok20:ROk d20:=by
 intro xs os r h
 unfold d20 at h
 (repeat' (split at h))<;>first|(cases h;done)|(injection h with h;subst h;simp)
theorem s20:Sound Try.prog 20 (rdS d20 ok20):=by
 refine rd_sound Try.func20 nm20 rc20 rv20 ok20 fun xs os r h vs ρ0 hvs=>⟨xs,?_,fun _ h=>h,fun w0 S hS=>?_⟩
 ·unfold d20 at h
  (repeat' (split at h))<;>first|(cases h;done)|exact Nat.le_of_ble_eq_true rfl
 unfold d20 at h
 split at h
 ·split at h
  ·rename_i a b c d e f g x y z hcond
   injection h with h
   subst h
   have hE:SoundAll Try.prog (EL [(59,rdS d59 ok59)]):=EL_sound (by simp only[List.mem_cons,List.not_mem_nil,or_false,forall_eq_or_imp,forall_eq];exact s59)
   have hc:=cfg_ex hcond
   have hm:=cfg_all hcond
   by_cases h1:x<0
   ·unfold m20
    repeat' with_reducible (first
     | refine ZR.h ?_ | refine zI (by decide) ?_
     | ((first | refine zK hE ?_ | refine zL hE mixT ?_);intro K hK;simp[KR.ks,KD.ks,KD.cl,q20_0,q20_1,q20_2,q20_3,h1,hcond,slotZ,d59];(repeat' (first | refine hK _ _ ?_ | refine And.intro ?_ ?_ | (intro hc;try subst hc)))<;>(try clear hK K))
     | (refine zJ (b:=_) (by with_unfolding_all rfl) (fun hc=>?_) (fun hc=>?_)<;>simp at hc<;>(try subst hc)))
    all_goals first|(simp;done)|(simp at *;omega)|((try simp[h1,hcond,slotZ]);refine Imp.auto (by kernel_rfl) ?_ ?_<;>simp[NLe,h1,hcond,slotZ])
   ·by_cases h2:a*b≤x
    ·unfold m20
     repeat' with_reducible (first
      | refine ZR.h ?_ | refine zI (by decide) ?_
      | ((first | refine zK hE ?_ | refine zL hE mixT ?_);intro K hK;simp[KR.ks,KD.ks,KD.cl,q20_0,q20_1,q20_2,q20_3,h1,h2,hcond,slotZ,d59];(repeat' (first | refine hK _ _ ?_ | refine And.intro ?_ ?_ | (intro hc;try subst hc)))<;>(try clear hK K))
      | (refine zJ (b:=_) (by with_unfolding_all rfl) (fun hc=>?_) (fun hc=>?_)<;>simp at hc<;>(try subst hc)))
     all_goals first|(simp;done)|(simp at *;omega)|((try simp[h1,h2,hcond,slotZ]);refine Imp.auto (by kernel_rfl) ?_ ?_<;>simp[NLe,h1,h2,hcond,slotZ])
    ·by_cases h3:y<1
     ·unfold m20
      repeat' with_reducible (first
       | refine ZR.h ?_ | refine zI (by decide) ?_
       | ((first | refine zK hE ?_ | refine zL hE mixT ?_);intro K hK;simp[KR.ks,KD.ks,KD.cl,q20_0,q20_1,q20_2,q20_3,h1,h2,h3,hcond,slotZ,d59];(repeat' (first | refine hK _ _ ?_ | refine And.intro ?_ ?_ | (intro hc;try subst hc)))<;>(try clear hK K))
       | (refine zJ (b:=_) (by with_unfolding_all rfl) (fun hc=>?_) (fun hc=>?_)<;>simp at hc<;>(try subst hc)))
      all_goals first|(simp;done)|(simp at *;omega)|((try simp[h1,h2,h3,hcond,slotZ]);refine Imp.auto (by kernel_rfl) ?_ ?_<;>simp[NLe,h1,h2,h3,hcond,slotZ])
     ·by_cases h4:g<y
      ·unfold m20
       repeat' with_reducible (first
        | refine ZR.h ?_ | refine zI (by decide) ?_
        | ((first | refine zK hE ?_ | refine zL hE mixT ?_);intro K hK;simp[KR.ks,KD.ks,KD.cl,q20_0,q20_1,q20_2,q20_3,h1,h2,h3,h4,hcond,slotZ,d59];(repeat' (first | refine hK _ _ ?_ | refine And.intro ?_ ?_ | (intro hc;try subst hc)))<;>(try clear hK K))
        | (refine zJ (b:=_) (by with_unfolding_all rfl) (fun hc=>?_) (fun hc=>?_)<;>simp at hc<;>(try subst hc)))
       all_goals first|(simp;done)|(simp at *;omega)|((try simp[h1,h2,h3,h4,hcond,slotZ]);refine Imp.auto (by kernel_rfl) ?_ ?_<;>simp[NLe,h1,h2,h3,h4,hcond,slotZ])
      ·by_cases h5:z<0
       ·unfold m20
        repeat' with_reducible (first
         | refine ZR.h ?_ | refine zI (by decide) ?_
         | ((first | refine zK hE ?_ | refine zL hE mixT ?_);intro K hK;simp[KR.ks,KD.ks,KD.cl,q20_0,q20_1,q20_2,q20_3,h1,h2,h3,h4,h5,hcond,slotZ,d59];(repeat' (first | refine hK _ _ ?_ | refine And.intro ?_ ?_ | (intro hc;try subst hc)))<;>(try clear hK K))
         | (refine zJ (b:=_) (by with_unfolding_all rfl) (fun hc=>?_) (fun hc=>?_)<;>simp at hc<;>(try subst hc)))
        all_goals first|(simp;done)|(simp at *;omega)|((try simp[h1,h2,h3,h4,h5,hcond,slotZ]);refine Imp.auto (by kernel_rfl) ?_ ?_<;>simp[NLe,h1,h2,h3,h4,h5,hcond,slotZ])
       ·by_cases h6:f<z
        ·unfold m20
         repeat' with_reducible (first
          | refine ZR.h ?_ | refine zI (by decide) ?_
          | ((first | refine zK hE ?_ | refine zL hE mixT ?_);intro K hK;simp[KR.ks,KD.ks,KD.cl,q20_0,q20_1,q20_2,q20_3,h1,h2,h3,h4,h5,h6,hcond,slotZ,d59];(repeat' (first | refine hK _ _ ?_ | refine And.intro ?_ ?_ | (intro hc;try subst hc)))<;>(try clear hK K))
          | (refine zJ (b:=_) (by with_unfolding_all rfl) (fun hc=>?_) (fun hc=>?_)<;>simp at hc<;>(try subst hc)))
         all_goals first|(simp;done)|(simp at *;omega)|((try simp[h1,h2,h3,h4,h5,h6,hcond,slotZ]);refine Imp.auto (by kernel_rfl) ?_ ?_<;>simp[NLe,h1,h2,h3,h4,h5,h6,hcond,slotZ])
        ·have k1:=mul_in (show 0≤x by omega) (show x≤23 by omega) (show 0≤g by omega) (show g≤15 by omega)
         have k2:=mul_in (show 0≤x*g+y - 1 by omega) (show x*g+y - 1≤360 by omega) (show 0≤f+1 by omega) (show f+1≤5 by omega)
         have w1:IntKind.wrap .i64 (a*b*2)=a*b*2:=wrap_in (by omega) (by omega)
         have w2:IntKind.wrap .i64 (x*g)=x*g:=wrap_in (by omega) (by omega)
         have w3:IntKind.wrap .i64 (x*g+y)=x*g+y:=wrap_in (by omega) (by omega)
         have w4:IntKind.wrap .i64 (x*g+y - 1)=x*g+y - 1:=wrap_in (by omega) (by omega)
         have w5:IntKind.wrap .i64 (f+1)=f+1:=wrap_in (by omega) (by omega)
         have w6:IntKind.wrap .i64 ((x*g+y - 1)*(f+1))=(x*g+y - 1)*(f+1):=wrap_in (by omega) (by omega)
         have w7:IntKind.wrap .i64 (a*b*2+(x*g+y - 1)*(f+1))=a*b*2+(x*g+y - 1)*(f+1):=wrap_in (by omega) (by omega)
         have w8:IntKind.wrap .i64 (a*b*2+(x*g+y - 1)*(f+1)+z)=a*b*2+(x*g+y - 1)*(f+1)+z:=wrap_in (by omega) (by omega)
         unfold m20
         repeat' with_reducible (first
          | refine ZR.h ?_ | refine zI (by decide) ?_
          | ((first | refine zK hE ?_ | refine zL hE mixT ?_);intro K hK;simp[KR.ks,KD.ks,KD.cl,q20_0,q20_1,q20_2,q20_3,h1,h2,h3,h4,h5,h6,hcond,slotZ,w1,w2,w3,w4,w5,w6,w7,w8,d59];(repeat' (first | refine hK _ _ ?_ | refine And.intro ?_ ?_ | (intro hc;try subst hc)))<;>(try clear hK K))
          | (refine zJ (b:=_) (by with_unfolding_all rfl) (fun hc=>?_) (fun hc=>?_)<;>simp at hc<;>(try subst hc)))
         all_goals first|(simp;done)|(simp at *;omega)|((try simp[h1,h2,h3,h4,h5,h6,hcond,slotZ,w1,w2,w3,w4,w5,w6,w7,w8]);refine Imp.auto (by kernel_rfl) ?_ ?_<;>simp[NLe,h1,h2,h3,h4,h5,h6,hcond,slotZ,w1,w2,w3,w4,w5,w6,w7,w8])
  ·cases h
 ·cases h
structure StZ where
 k:Int
 fl:Bool
 g:Int
 l:Int
 f:Int
 deriving DecidableEq,Inhabited
def stA (s:StZ):AV:=.agg [.int .i64 s.k,.bool s.fl,.int .i64 s.g,.int .i64 s.l,.int .i64 s.f]
def zeroS:StZ:=⟨0,false,0,0,0⟩
def errA (s:StZ) (e:Int):AV:=.tup [stA s,if e=0 then .raw .nilIface else .iface 132 (.int .i64 e)]
def holdS (s:StZ):StZ:=if s.k=1 then { s with k:=3 } else if s.k=2 then { s with k:=4 } else s
def loosenS (s:StZ):StZ:=if s.k=3 then { s with k:=1 } else if s.k=4 then { s with k:=2 } else s
def endedS (s:StZ) (fills:Int):StZ:=if s.l=0 then { s with k:=5,fl:=false } else if fills≤s.f then { s with k:=8,fl:=false } else s
def d93:List AV→List NObj→Option AV
 | [.agg [.int .i64 k,.bool fl,.int .i64 sg,.int .i64 sl,.int .i64 sf]],[]=>some (stA (holdS ⟨k,fl,sg,sl,sf⟩))
 | _,_=>none
theorem ok93:ROk d93:=by
 intro xs os r h
 unfold d93 at h
 (repeat' (split at h))<;>first|(cases h;done)|(injection h with h;subst h;unfold stA;simp)
theorem s93:Sound Try.prog 93 (rdS d93 ok93):=by
 refine rd_sound Try.func93 nm93 rc93 rv93 ok93 fun xs os r h vs ρ0 hvs=>⟨xs,?_,fun _ h=>h,fun w0 S hS=>?_⟩
 ·unfold d93 at h
  (repeat' (split at h))<;>first|(cases h;done)|exact Nat.le_of_ble_eq_true rfl
 unfold d93 at h
 split at h
 ·rename_i k fl sg sl sf
  injection h with h
  subst h
  have hE:SoundAll Try.prog (EL []):=EL_sound (by simp)
  by_cases h1:k=1
  ·unfold m93
   repeat' with_reducible (first
    | refine ZR.h ?_ | refine zI (by decide) ?_
    | (refine zK hE ?_;intro K hK;simp[KR.ks,q93_0,q93_1,q93_2,q93_3,q93_4,q93_5,q93_6,h1,holdS,stA];(repeat' (first | refine hK _ _ ?_ | refine And.intro ?_ ?_ | (intro hc;try subst hc)))<;>(try clear hK K))
    | (refine zJ (b:=_) (by with_unfolding_all rfl) (fun hc=>?_) (fun hc=>?_)<;>simp at hc<;>(try subst hc)))
   all_goals first|(simp;done)|(simp at *;omega)|((try simp[h1,holdS,stA]);refine Imp.auto (by kernel_rfl) ?_ ?_<;>simp[NLe,h1,holdS,stA])
  ·by_cases h2:k=2
   ·unfold m93
    repeat' with_reducible (first
     | refine ZR.h ?_ | refine zI (by decide) ?_
     | (refine zK hE ?_;intro K hK;simp[KR.ks,q93_0,q93_1,q93_2,q93_3,q93_4,q93_5,q93_6,h1,h2,holdS,stA];(repeat' (first | refine hK _ _ ?_ | refine And.intro ?_ ?_ | (intro hc;try subst hc)))<;>(try clear hK K))
     | (refine zJ (b:=_) (by with_unfolding_all rfl) (fun hc=>?_) (fun hc=>?_)<;>simp at hc<;>(try subst hc)))
    all_goals first|(simp;done)|(simp at *;omega)|((try simp[h1,h2,holdS,stA]);refine Imp.auto (by kernel_rfl) ?_ ?_<;>simp[NLe,h1,h2,holdS,stA])
   ·unfold m93
    repeat' with_reducible (first
     | refine ZR.h ?_ | refine zI (by decide) ?_
     | (refine zK hE ?_;intro K hK;simp[KR.ks,q93_0,q93_1,q93_2,q93_3,q93_4,q93_5,q93_6,h1,h2,holdS,stA];(repeat' (first | refine hK _ _ ?_ | refine And.intro ?_ ?_ | (intro hc;try subst hc)))<;>(try clear hK K))
     | (refine zJ (b:=_) (by with_unfolding_all rfl) (fun hc=>?_) (fun hc=>?_)<;>simp at hc<;>(try subst hc)))
    all_goals first|(simp;done)|(simp at *;omega)|((try simp[h1,h2,holdS,stA]);refine Imp.auto (by kernel_rfl) ?_ ?_<;>simp[NLe,h1,h2,holdS,stA])
 ·cases h
def d105:List AV→List NObj→Option AV
 | [.agg [.int .i64 k,.bool fl,.int .i64 sg,.int .i64 sl,.int .i64 sf]],[]=>some (stA (loosenS ⟨k,fl,sg,sl,sf⟩))
 | _,_=>none
theorem ok105:ROk d105:=by
 intro xs os r h
 unfold d105 at h
 (repeat' (split at h))<;>first|(cases h;done)|(injection h with h;subst h;unfold stA;simp)
theorem s105:Sound Try.prog 105 (rdS d105 ok105):=by
 refine rd_sound Try.func105 nm105 rc105 rv105 ok105 fun xs os r h vs ρ0 hvs=>⟨xs,?_,fun _ h=>h,fun w0 S hS=>?_⟩
 ·unfold d105 at h
  (repeat' (split at h))<;>first|(cases h;done)|exact Nat.le_of_ble_eq_true rfl
 unfold d105 at h
 split at h
 ·rename_i k fl sg sl sf
  injection h with h
  subst h
  have hE:SoundAll Try.prog (EL []):=EL_sound (by simp)
  by_cases h1:k=3
  ·unfold m105
   repeat' with_reducible (first
    | refine ZR.h ?_ | refine zI (by decide) ?_
    | (refine zK hE ?_;intro K hK;simp[KR.ks,q105_0,q105_1,q105_2,q105_3,q105_4,q105_5,q105_6,h1,loosenS,stA];(repeat' (first | refine hK _ _ ?_ | refine And.intro ?_ ?_ | (intro hc;try subst hc)))<;>(try clear hK K))
    | (refine zJ (b:=_) (by with_unfolding_all rfl) (fun hc=>?_) (fun hc=>?_)<;>simp at hc<;>(try subst hc)))
   all_goals first|(simp;done)|(simp at *;omega)|((try simp[h1,loosenS,stA]);refine Imp.auto (by kernel_rfl) ?_ ?_<;>simp[NLe,h1,loosenS,stA])
  ·by_cases h2:k=4
   ·unfold m105
    repeat' with_reducible (first
     | refine ZR.h ?_ | refine zI (by decide) ?_
     | (refine zK hE ?_;intro K hK;simp[KR.ks,q105_0,q105_1,q105_2,q105_3,q105_4,q105_5,q105_6,h1,h2,loosenS,stA];(repeat' (first | refine hK _ _ ?_ | refine And.intro ?_ ?_ | (intro hc;try subst hc)))<;>(try clear hK K))
     | (refine zJ (b:=_) (by with_unfolding_all rfl) (fun hc=>?_) (fun hc=>?_)<;>simp at hc<;>(try subst hc)))
    all_goals first|(simp;done)|(simp at *;omega)|((try simp[h1,h2,loosenS,stA]);refine Imp.auto (by kernel_rfl) ?_ ?_<;>simp[NLe,h1,h2,loosenS,stA])
   ·unfold m105
    repeat' with_reducible (first
     | refine ZR.h ?_ | refine zI (by decide) ?_
     | (refine zK hE ?_;intro K hK;simp[KR.ks,q105_0,q105_1,q105_2,q105_3,q105_4,q105_5,q105_6,h1,h2,loosenS,stA];(repeat' (first | refine hK _ _ ?_ | refine And.intro ?_ ?_ | (intro hc;try subst hc)))<;>(try clear hK K))
     | (refine zJ (b:=_) (by with_unfolding_all rfl) (fun hc=>?_) (fun hc=>?_)<;>simp at hc<;>(try subst hc)))
    all_goals first|(simp;done)|(simp at *;omega)|((try simp[h1,h2,loosenS,stA]);refine Imp.auto (by kernel_rfl) ?_ ?_<;>simp[NLe,h1,h2,loosenS,stA])
 ·cases h
def d104:List AV→List NObj→Option AV
 | [.agg [.int .i64 k,.bool fl,.int .i64 sg,.int .i64 sl,.int .i64 sf],.int .i64 F],[]=>some (stA (endedS ⟨k,fl,sg,sl,sf⟩ F))
 | _,_=>none
theorem ok104:ROk d104:=by
 intro xs os r h
 unfold d104 at h
 (repeat' (split at h))<;>first|(cases h;done)|(injection h with h;subst h;unfold stA;simp)
theorem s104:Sound Try.prog 104 (rdS d104 ok104):=by
 refine rd_sound Try.func104 nm104 rc104 rv104 ok104 fun xs os r h vs ρ0 hvs=>⟨xs,?_,fun _ h=>h,fun w0 S hS=>?_⟩
 ·unfold d104 at h
  (repeat' (split at h))<;>first|(cases h;done)|exact Nat.le_of_ble_eq_true rfl
 unfold d104 at h
 split at h
 ·rename_i k fl sg sl sf F
  injection h with h
  subst h
  have hE:SoundAll Try.prog (EL []):=EL_sound (by simp)
  by_cases h1:sl=0
  ·unfold m104
   repeat' with_reducible (first
    | refine ZR.h ?_ | refine zI (by decide) ?_
    | (refine zK hE ?_;intro K hK;simp[KR.ks,q104_0,q104_1,q104_2,q104_3,q104_4,q104_5,h1,endedS,stA];(repeat' (first | refine hK _ _ ?_ | refine And.intro ?_ ?_ | (intro hc;try subst hc)))<;>(try clear hK K))
    | (refine zJ (b:=_) (by with_unfolding_all rfl) (fun hc=>?_) (fun hc=>?_)<;>simp at hc<;>(try subst hc)))
   all_goals first|(simp;done)|(simp at *;omega)|((try simp[h1,endedS,stA]);refine Imp.auto (by kernel_rfl) ?_ ?_<;>simp[NLe,h1,endedS,stA])
  ·by_cases h2:F≤sf
   ·unfold m104
    repeat' with_reducible (first
     | refine ZR.h ?_ | refine zI (by decide) ?_
     | (refine zK hE ?_;intro K hK;simp[KR.ks,q104_0,q104_1,q104_2,q104_3,q104_4,q104_5,h1,h2,endedS,stA];(repeat' (first | refine hK _ _ ?_ | refine And.intro ?_ ?_ | (intro hc;try subst hc)))<;>(try clear hK K))
     | (refine zJ (b:=_) (by with_unfolding_all rfl) (fun hc=>?_) (fun hc=>?_)<;>simp at hc<;>(try subst hc)))
    all_goals first|(simp;done)|(simp at *;omega)|((try simp[h1,h2,endedS,stA]);refine Imp.auto (by kernel_rfl) ?_ ?_<;>simp[NLe,h1,h2,endedS,stA])
   ·unfold m104
    repeat' with_reducible (first
     | refine ZR.h ?_ | refine zI (by decide) ?_
     | (refine zK hE ?_;intro K hK;simp[KR.ks,q104_0,q104_1,q104_2,q104_3,q104_4,q104_5,h1,h2,endedS,stA];(repeat' (first | refine hK _ _ ?_ | refine And.intro ?_ ?_ | (intro hc;try subst hc)))<;>(try clear hK K))
     | (refine zJ (b:=_) (by with_unfolding_all rfl) (fun hc=>?_) (fun hc=>?_)<;>simp at hc<;>(try subst hc)))
    all_goals first|(simp;done)|(simp at *;omega)|((try simp[h1,h2,endedS,stA]);refine Imp.auto (by kernel_rfl) ?_ ?_<;>simp[NLe,h1,h2,endedS,stA])
 ·cases h
def takeS (s:StZ) (q F:Int):StZ×Int:=if looseZ s.k=false then (zeroS,27) else if q<1 then (zeroS,23) else if s.l<q then (zeroS,23) else if F≤s.f then (zeroS,4) else (endedS { s with l:=s.l - q,f:=s.f+1 } F,0)
def relS1 (s:StZ) (F:Int):StZ:=if (endedS (loosenS s) F).fl=true then { endedS (loosenS s) F with k:=6,fl:=false } else endedS (loosenS s) F
def releaseS (s:StZ) (q F:Int):StZ×Int:=if heldZ s.k=false then (zeroS,1) else if q<0 then (zeroS,23) else if s.l<q then (zeroS,23) else if 0<q then (if F≤s.f then (zeroS,4) else (relS1 { s with l:=s.l - q,f:=s.f+1 } F,0)) else (relS1 s F,0)
def cancelS (s:StZ):StZ×Int:=if s.k=1 then ({ s with k:=6 },0) else if s.k=2 then ({ s with k:=6 },0) else if s.k=3 then ({ s with fl:=true },0) else if s.k=4 then ({ s with fl:=true },0) else (zeroS,29)
def d96:List AV→List NObj→Option AV
 | [.agg [.int .i64 k,.bool fl,.int .i64 sg,.int .i64 sl,.int .i64 sf],.int .i64 q,.int .i64 F],[]=>if 0≤sl∧sl≤1000000∧0≤sf∧sf≤1000000 then some (errA (takeS ⟨k,fl,sg,sl,sf⟩ q F).1 (takeS ⟨k,fl,sg,sl,sf⟩ q F).2) else none
 | _,_=>none
theorem ok96:ROk d96:=by
 intro xs os r h
 unfold d96 at h
 (repeat' (split at h))<;>first|(cases h;done)|(injection h with h;subst h;unfold errA stA;split<;>simp)
theorem s96:Sound Try.prog 96 (rdS d96 ok96):=by
 refine rd_sound Try.func96 nm96 rc96 rv96 ok96 fun xs os r h vs ρ0 hvs=>⟨xs,?_,fun _ h=>h,fun w0 S hS=>?_⟩
 ·unfold d96 at h
  (repeat' (split at h))<;>first|(cases h;done)|exact Nat.le_of_ble_eq_true rfl
 unfold d96 at h
 split at h
 ·split at h
  ·rename_i k fl sg sl sf q F hcond
   injection h with h
   subst h
   have hE:SoundAll Try.prog (EL [(41,rdS d41 ok41),(104,rdS d104 ok104)]):=EL_sound (by simp only[List.mem_cons,List.not_mem_nil,or_false,forall_eq_or_imp,forall_eq];exact ⟨s41,s104⟩)
   by_cases h1:looseZ k=false
   ·unfold m96
    repeat' with_reducible (first
     | refine ZR.h ?_ | refine zI (by decide) ?_
     | (refine zK hE ?_;intro K hK;simp[KR.ks,q96_0,q96_1,q96_2,q96_3,q96_4,q96_5,q96_6,q96_7,q96_8,q96_9,h1,takeS,errA,stA,zeroS,d41,d104];(repeat' (first | refine hK _ _ ?_ | refine And.intro ?_ ?_ | (intro hc;try subst hc)))<;>(try clear hK K))
     | (refine zJ (b:=_) (by with_unfolding_all rfl) (fun hc=>?_) (fun hc=>?_)<;>simp at hc<;>(try subst hc)))
    all_goals first|(simp;done)|(simp at *;omega)|((try simp[h1,takeS,errA,stA,zeroS]);refine Imp.auto (by kernel_rfl) ?_ ?_<;>simp[NLe,h1,takeS,errA,stA,zeroS])
   ·by_cases h2:q<1
    ·unfold m96
     repeat' with_reducible (first
      | refine ZR.h ?_ | refine zI (by decide) ?_
      | (refine zK hE ?_;intro K hK;simp[KR.ks,q96_0,q96_1,q96_2,q96_3,q96_4,q96_5,q96_6,q96_7,q96_8,q96_9,h1,h2,takeS,errA,stA,zeroS,d41,d104];(repeat' (first | refine hK _ _ ?_ | refine And.intro ?_ ?_ | (intro hc;try subst hc)))<;>(try clear hK K))
      | (refine zJ (b:=_) (by with_unfolding_all rfl) (fun hc=>?_) (fun hc=>?_)<;>simp at hc<;>(try subst hc)))
     all_goals first|(simp;done)|(simp at *;omega)|((try simp[h1,h2,takeS,errA,stA,zeroS]);refine Imp.auto (by kernel_rfl) ?_ ?_<;>simp[NLe,h1,h2,takeS,errA,stA,zeroS])
    ·by_cases h3:sl<q
     ·unfold m96
      repeat' with_reducible (first
       | refine ZR.h ?_ | refine zI (by decide) ?_
       | (refine zK hE ?_;intro K hK;simp[KR.ks,q96_0,q96_1,q96_2,q96_3,q96_4,q96_5,q96_6,q96_7,q96_8,q96_9,h1,h2,h3,takeS,errA,stA,zeroS,d41,d104];(repeat' (first | refine hK _ _ ?_ | refine And.intro ?_ ?_ | (intro hc;try subst hc)))<;>(try clear hK K))
       | (refine zJ (b:=_) (by with_unfolding_all rfl) (fun hc=>?_) (fun hc=>?_)<;>simp at hc<;>(try subst hc)))
      all_goals first|(simp;done)|(simp at *;omega)|((try simp[h1,h2,h3,takeS,errA,stA,zeroS]);refine Imp.auto (by kernel_rfl) ?_ ?_<;>simp[NLe,h1,h2,h3,takeS,errA,stA,zeroS])
     ·by_cases h4:F≤sf
      ·unfold m96
       repeat' with_reducible (first
        | refine ZR.h ?_ | refine zI (by decide) ?_
        | (refine zK hE ?_;intro K hK;simp[KR.ks,q96_0,q96_1,q96_2,q96_3,q96_4,q96_5,q96_6,q96_7,q96_8,q96_9,h1,h2,h3,h4,takeS,errA,stA,zeroS,d41,d104];(repeat' (first | refine hK _ _ ?_ | refine And.intro ?_ ?_ | (intro hc;try subst hc)))<;>(try clear hK K))
        | (refine zJ (b:=_) (by with_unfolding_all rfl) (fun hc=>?_) (fun hc=>?_)<;>simp at hc<;>(try subst hc)))
       all_goals first|(simp;done)|(simp at *;omega)|((try simp[h1,h2,h3,h4,takeS,errA,stA,zeroS]);refine Imp.auto (by kernel_rfl) ?_ ?_<;>simp[NLe,h1,h2,h3,h4,takeS,errA,stA,zeroS])
      ·have h1':looseZ k=true:=by simpa using h1
       have w1:IntKind.wrap .i64 (sl - q)=sl - q:=wrap_in (by omega) (by omega)
       have w2:IntKind.wrap .i64 (sf+1)=sf+1:=wrap_in (by omega) (by omega)
       unfold m96
       repeat' with_reducible (first
        | refine ZR.h ?_ | refine zI (by decide) ?_
        | (refine zK hE ?_;intro K hK;simp[KR.ks,q96_0,q96_1,q96_2,q96_3,q96_4,q96_5,q96_6,q96_7,q96_8,q96_9,h1,h2,h3,h4,takeS,errA,stA,zeroS,h1',w1,w2,d41,d104];(repeat' (first | refine hK _ _ ?_ | refine And.intro ?_ ?_ | (intro hc;try subst hc)))<;>(try clear hK K))
        | (refine zJ (b:=_) (by with_unfolding_all rfl) (fun hc=>?_) (fun hc=>?_)<;>simp at hc<;>(try subst hc)))
       all_goals first|(simp;done)|(simp at *;omega)|((try simp[h1,h2,h3,h4,takeS,errA,stA,zeroS,h1',w1,w2]);refine Imp.auto (by kernel_rfl) ?_ ?_<;>simp[NLe,h1,h2,h3,h4,takeS,errA,stA,zeroS,h1',w1,w2])
  ·cases h
 ·cases h
def d97:List AV→List NObj→Option AV
 | [.agg [.int .i64 k,.bool fl,.int .i64 sg,.int .i64 sl,.int .i64 sf],.int .i64 q,.int .i64 F],[]=>if 0≤sl∧sl≤1000000∧0≤sf∧sf≤1000000 then some (errA (releaseS ⟨k,fl,sg,sl,sf⟩ q F).1 (releaseS ⟨k,fl,sg,sl,sf⟩ q F).2) else none
 | _,_=>none
theorem ok97:ROk d97:=by
 intro xs os r h
 unfold d97 at h
 (repeat' (split at h))<;>first|(cases h;done)|(injection h with h;subst h;unfold errA stA;split<;>simp)
theorem s97:Sound Try.prog 97 (rdS d97 ok97):=by
 refine rd_sound Try.func97 nm97 rc97 rv97 ok97 fun xs os r h vs ρ0 hvs=>⟨xs,?_,fun _ h=>h,fun w0 S hS=>?_⟩
 ·unfold d97 at h
  (repeat' (split at h))<;>first|(cases h;done)|exact Nat.le_of_ble_eq_true rfl
 unfold d97 at h
 split at h
 ·split at h
  ·rename_i k fl sg sl sf q F hcond
   injection h with h
   subst h
   have hE:SoundAll Try.prog (EL [(16,rdS d16 ok16),(105,rdS d105 ok105),(104,rdS d104 ok104)]):=EL_sound (by simp only[List.mem_cons,List.not_mem_nil,or_false,forall_eq_or_imp,forall_eq];exact ⟨s16,s105,s104⟩)
   by_cases h1:heldZ k=false
   ·unfold m97
    repeat' with_reducible (first
     | refine ZR.h ?_ | refine zI (by decide) ?_
     | (refine zK hE ?_;intro K hK;simp[KR.ks,q97_0,q97_1,q97_2,q97_3,q97_4,q97_5,q97_6,q97_7,q97_8,q97_9,q97_10,q97_11,q97_12,q97_13,h1,releaseS,relS1,errA,stA,zeroS,d16,d105,d104];(repeat' (first | refine hK _ _ ?_ | refine And.intro ?_ ?_ | (intro hc;try subst hc)))<;>(try clear hK K))
     | (refine zJ (b:=_) (by with_unfolding_all rfl) (fun hc=>?_) (fun hc=>?_)<;>simp at hc<;>(try subst hc)))
    all_goals first|(simp;done)|(simp at *;omega)|((try simp[h1,releaseS,relS1,errA,stA,zeroS]);refine Imp.auto (by kernel_rfl) ?_ ?_<;>simp[NLe,h1,releaseS,relS1,errA,stA,zeroS])
   ·have h1':heldZ k=true:=by simpa using h1
    by_cases h2:q<0
    ·unfold m97
     repeat' with_reducible (first
      | refine ZR.h ?_ | refine zI (by decide) ?_
      | (refine zK hE ?_;intro K hK;simp[KR.ks,q97_0,q97_1,q97_2,q97_3,q97_4,q97_5,q97_6,q97_7,q97_8,q97_9,q97_10,q97_11,q97_12,q97_13,h1',h2,releaseS,relS1,errA,stA,zeroS,d16,d105,d104];(repeat' (first | refine hK _ _ ?_ | refine And.intro ?_ ?_ | (intro hc;try subst hc)))<;>(try clear hK K))
      | (refine zJ (b:=_) (by with_unfolding_all rfl) (fun hc=>?_) (fun hc=>?_)<;>simp at hc<;>(try subst hc)))
     all_goals first|(simp;done)|(simp at *;omega)|((try simp[h1,h1',h2,releaseS,relS1,errA,stA,zeroS]);refine Imp.auto (by kernel_rfl) ?_ ?_<;>simp[NLe,h1,h1',h2,releaseS,relS1,errA,stA,zeroS])
    ·by_cases h3:sl<q
     ·unfold m97
      repeat' with_reducible (first
       | refine ZR.h ?_ | refine zI (by decide) ?_
       | (refine zK hE ?_;intro K hK;simp[KR.ks,q97_0,q97_1,q97_2,q97_3,q97_4,q97_5,q97_6,q97_7,q97_8,q97_9,q97_10,q97_11,q97_12,q97_13,h1',h2,h3,releaseS,relS1,errA,stA,zeroS,d16,d105,d104];(repeat' (first | refine hK _ _ ?_ | refine And.intro ?_ ?_ | (intro hc;try subst hc)))<;>(try clear hK K))
       | (refine zJ (b:=_) (by with_unfolding_all rfl) (fun hc=>?_) (fun hc=>?_)<;>simp at hc<;>(try subst hc)))
      all_goals first|(simp;done)|(simp at *;omega)|((try simp[h1,h1',h2,h3,releaseS,relS1,errA,stA,zeroS]);refine Imp.auto (by kernel_rfl) ?_ ?_<;>simp[NLe,h1,h1',h2,h3,releaseS,relS1,errA,stA,zeroS])
     ·by_cases h4:0<q
      ·by_cases h5:F≤sf
       ·unfold m97
        repeat' with_reducible (first
         | refine ZR.h ?_ | refine zI (by decide) ?_
         | (refine zK hE ?_;intro K hK;simp[KR.ks,q97_0,q97_1,q97_2,q97_3,q97_4,q97_5,q97_6,q97_7,q97_8,q97_9,q97_10,q97_11,q97_12,q97_13,h1',h2,h3,h4,h5,releaseS,relS1,errA,stA,zeroS,d16,d105,d104];(repeat' (first | refine hK _ _ ?_ | refine And.intro ?_ ?_ | (intro hc;try subst hc)))<;>(try clear hK K))
         | (refine zJ (b:=_) (by with_unfolding_all rfl) (fun hc=>?_) (fun hc=>?_)<;>simp at hc<;>(try subst hc)))
        all_goals first|(simp;done)|(simp at *;omega)|((try simp[h1,h1',h2,h3,h4,h5,releaseS,relS1,errA,stA,zeroS]);refine Imp.auto (by kernel_rfl) ?_ ?_<;>simp[NLe,h1,h1',h2,h3,h4,h5,releaseS,relS1,errA,stA,zeroS])
       ·have w1:IntKind.wrap .i64 (sl - q)=sl - q:=wrap_in (by omega) (by omega)
        have w2:IntKind.wrap .i64 (sf+1)=sf+1:=wrap_in (by omega) (by omega)
        obtain ⟨s1,hs1⟩:∃ s1,loosenS ⟨k,fl,sg,sl - q,sf+1⟩=s1:=⟨_,rfl⟩
        obtain ⟨s2,hs2⟩:∃ s2,endedS s1 F=s2:=⟨_,rfl⟩
        obtain ⟨k2,fl2,g2,l2,f2⟩:=s2
        have e1:endedS ⟨s1.k,s1.fl,s1.g,s1.l,s1.f⟩ F=⟨k2,fl2,g2,l2,f2⟩:=hs2
        by_cases h9:fl2=true
        ·subst h9
         unfold m97
         repeat' with_reducible (first
          | refine ZR.h ?_ | refine zI (by decide) ?_
          | (refine zK hE ?_;intro K hK;simp[KR.ks,q97_0,q97_1,q97_2,q97_3,q97_4,q97_5,q97_6,q97_7,q97_8,q97_9,q97_10,q97_11,q97_12,q97_13,hs1,hs2,e1,h1',h2,h3,h4,h5,w1,w2,releaseS,relS1,errA,stA,zeroS,d16,d105,d104];(repeat' (first | refine hK _ _ ?_ | refine And.intro ?_ ?_ | (intro hc;try subst hc)))<;>(try clear hK K))
          | (refine zJ (b:=_) (by with_unfolding_all rfl) (fun hc=>?_) (fun hc=>?_)<;>simp at hc<;>(try subst hc)))
         all_goals first|(simp;done)|(simp at *;omega)|((try simp[hs1,hs2,e1,h1',h2,h3,h4,h5,w1,w2,releaseS,relS1,errA,stA,zeroS]);refine Imp.auto (by kernel_rfl) ?_ ?_<;>simp[NLe,hs1,hs2,e1,h1',h2,h3,h4,h5,w1,w2,releaseS,relS1,errA,stA,zeroS])
        ·have h9':fl2=false:=by simpa using h9
         subst h9'
         unfold m97
         repeat' with_reducible (first
          | refine ZR.h ?_ | refine zI (by decide) ?_
          | (refine zK hE ?_;intro K hK;simp[KR.ks,q97_0,q97_1,q97_2,q97_3,q97_4,q97_5,q97_6,q97_7,q97_8,q97_9,q97_10,q97_11,q97_12,q97_13,hs1,hs2,e1,h1',h2,h3,h4,h5,w1,w2,releaseS,relS1,errA,stA,zeroS,d16,d105,d104];(repeat' (first | refine hK _ _ ?_ | refine And.intro ?_ ?_ | (intro hc;try subst hc)))<;>(try clear hK K))
          | (refine zJ (b:=_) (by with_unfolding_all rfl) (fun hc=>?_) (fun hc=>?_)<;>simp at hc<;>(try subst hc)))
         all_goals first|(simp;done)|(simp at *;omega)|((try simp[hs1,hs2,e1,h1',h2,h3,h4,h5,w1,w2,releaseS,relS1,errA,stA,zeroS]);refine Imp.auto (by kernel_rfl) ?_ ?_<;>simp[NLe,hs1,hs2,e1,h1',h2,h3,h4,h5,w1,w2,releaseS,relS1,errA,stA,zeroS])
      ·skip
       obtain ⟨s1,hs1⟩:∃ s1,loosenS ⟨k,fl,sg,sl,sf⟩=s1:=⟨_,rfl⟩
       obtain ⟨s2,hs2⟩:∃ s2,endedS s1 F=s2:=⟨_,rfl⟩
       obtain ⟨k2,fl2,g2,l2,f2⟩:=s2
       have e1:endedS ⟨s1.k,s1.fl,s1.g,s1.l,s1.f⟩ F=⟨k2,fl2,g2,l2,f2⟩:=hs2
       by_cases h9:fl2=true
       ·subst h9
        unfold m97
        repeat' with_reducible (first
         | refine ZR.h ?_ | refine zI (by decide) ?_
         | (refine zK hE ?_;intro K hK;simp[KR.ks,q97_0,q97_1,q97_2,q97_3,q97_4,q97_5,q97_6,q97_7,q97_8,q97_9,q97_10,q97_11,q97_12,q97_13,hs1,hs2,e1,h1',h2,h3,h4,releaseS,relS1,errA,stA,zeroS,d16,d105,d104];(repeat' (first | refine hK _ _ ?_ | refine And.intro ?_ ?_ | (intro hc;try subst hc)))<;>(try clear hK K))
         | (refine zJ (b:=_) (by with_unfolding_all rfl) (fun hc=>?_) (fun hc=>?_)<;>simp at hc<;>(try subst hc)))
        all_goals first|(simp;done)|(simp at *;omega)|((try simp[hs1,hs2,e1,h1',h2,h3,h4,releaseS,relS1,errA,stA,zeroS]);refine Imp.auto (by kernel_rfl) ?_ ?_<;>simp[NLe,hs1,hs2,e1,h1',h2,h3,h4,releaseS,relS1,errA,stA,zeroS])
       ·have h9':fl2=false:=by simpa using h9
        subst h9'
        unfold m97
        repeat' with_reducible (first
         | refine ZR.h ?_ | refine zI (by decide) ?_
         | (refine zK hE ?_;intro K hK;simp[KR.ks,q97_0,q97_1,q97_2,q97_3,q97_4,q97_5,q97_6,q97_7,q97_8,q97_9,q97_10,q97_11,q97_12,q97_13,hs1,hs2,e1,h1',h2,h3,h4,releaseS,relS1,errA,stA,zeroS,d16,d105,d104];(repeat' (first | refine hK _ _ ?_ | refine And.intro ?_ ?_ | (intro hc;try subst hc)))<;>(try clear hK K))
         | (refine zJ (b:=_) (by with_unfolding_all rfl) (fun hc=>?_) (fun hc=>?_)<;>simp at hc<;>(try subst hc)))
        all_goals first|(simp;done)|(simp at *;omega)|((try simp[hs1,hs2,e1,h1',h2,h3,h4,releaseS,relS1,errA,stA,zeroS]);refine Imp.auto (by kernel_rfl) ?_ ?_<;>simp[NLe,hs1,hs2,e1,h1',h2,h3,h4,releaseS,relS1,errA,stA,zeroS])
  ·cases h
 ·cases h
def d25:List AV→List NObj→Option AV
 | [.agg [.int .i64 k,.bool fl,.int .i64 sg,.int .i64 sl,.int .i64 sf]],[]=>some (errA (cancelS ⟨k,fl,sg,sl,sf⟩).1 (cancelS ⟨k,fl,sg,sl,sf⟩).2)
 | _,_=>none
theorem ok25:ROk d25:=by
 intro xs os r h
 unfold d25 at h
 (repeat' (split at h))<;>first|(cases h;done)|(injection h with h;subst h;unfold errA stA;split<;>simp)
theorem s25:Sound Try.prog 25 (rdS d25 ok25):=by
 refine rd_sound Try.func25 nm25 rc25 rv25 ok25 fun xs os r h vs ρ0 hvs=>⟨xs,?_,fun _ h=>h,fun w0 S hS=>?_⟩
 ·unfold d25 at h
  (repeat' (split at h))<;>first|(cases h;done)|exact Nat.le_of_ble_eq_true rfl
 unfold d25 at h
 split at h
 ·rename_i k fl sg sl sf
  injection h with h
  subst h
  have hE:SoundAll Try.prog (EL []):=EL_sound (by simp)
  by_cases h1:k=1
  ·unfold m25
   repeat' with_reducible (first
    | refine ZR.h ?_ | refine zI (by decide) ?_
    | (refine zK hE ?_;intro K hK;simp[KR.ks,q25_0,q25_1,q25_2,q25_3,q25_4,q25_5,q25_6,q25_7,q25_8,q25_9,h1,cancelS,errA,stA,zeroS];(repeat' (first | refine hK _ _ ?_ | refine And.intro ?_ ?_ | (intro hc;try subst hc)))<;>(try clear hK K))
    | (refine zJ (b:=_) (by with_unfolding_all rfl) (fun hc=>?_) (fun hc=>?_)<;>simp at hc<;>(try subst hc)))
   all_goals first|(simp;done)|(simp at *;omega)|((try simp[h1,cancelS,errA,stA,zeroS]);refine Imp.auto (by kernel_rfl) ?_ ?_<;>simp[NLe,h1,cancelS,errA,stA,zeroS])
  ·by_cases h2:k=2
   ·unfold m25
    repeat' with_reducible (first
     | refine ZR.h ?_ | refine zI (by decide) ?_
     | (refine zK hE ?_;intro K hK;simp[KR.ks,q25_0,q25_1,q25_2,q25_3,q25_4,q25_5,q25_6,q25_7,q25_8,q25_9,h1,h2,cancelS,errA,stA,zeroS];(repeat' (first | refine hK _ _ ?_ | refine And.intro ?_ ?_ | (intro hc;try subst hc)))<;>(try clear hK K))
     | (refine zJ (b:=_) (by with_unfolding_all rfl) (fun hc=>?_) (fun hc=>?_)<;>simp at hc<;>(try subst hc)))
    all_goals first|(simp;done)|(simp at *;omega)|((try simp[h1,h2,cancelS,errA,stA,zeroS]);refine Imp.auto (by kernel_rfl) ?_ ?_<;>simp[NLe,h1,h2,cancelS,errA,stA,zeroS])
   ·by_cases h3:k=3
    ·unfold m25
     repeat' with_reducible (first
      | refine ZR.h ?_ | refine zI (by decide) ?_
      | (refine zK hE ?_;intro K hK;simp[KR.ks,q25_0,q25_1,q25_2,q25_3,q25_4,q25_5,q25_6,q25_7,q25_8,q25_9,h1,h2,h3,cancelS,errA,stA,zeroS];(repeat' (first | refine hK _ _ ?_ | refine And.intro ?_ ?_ | (intro hc;try subst hc)))<;>(try clear hK K))
      | (refine zJ (b:=_) (by with_unfolding_all rfl) (fun hc=>?_) (fun hc=>?_)<;>simp at hc<;>(try subst hc)))
     all_goals first|(simp;done)|(simp at *;omega)|((try simp[h1,h2,h3,cancelS,errA,stA,zeroS]);refine Imp.auto (by kernel_rfl) ?_ ?_<;>simp[NLe,h1,h2,h3,cancelS,errA,stA,zeroS])
    ·by_cases h4:k=4
     ·unfold m25
      repeat' with_reducible (first
       | refine ZR.h ?_ | refine zI (by decide) ?_
       | (refine zK hE ?_;intro K hK;simp[KR.ks,q25_0,q25_1,q25_2,q25_3,q25_4,q25_5,q25_6,q25_7,q25_8,q25_9,h1,h2,h3,h4,cancelS,errA,stA,zeroS];(repeat' (first | refine hK _ _ ?_ | refine And.intro ?_ ?_ | (intro hc;try subst hc)))<;>(try clear hK K))
       | (refine zJ (b:=_) (by with_unfolding_all rfl) (fun hc=>?_) (fun hc=>?_)<;>simp at hc<;>(try subst hc)))
      all_goals first|(simp;done)|(simp at *;omega)|((try simp[h1,h2,h3,h4,cancelS,errA,stA,zeroS]);refine Imp.auto (by kernel_rfl) ?_ ?_<;>simp[NLe,h1,h2,h3,h4,cancelS,errA,stA,zeroS])
     ·unfold m25
      repeat' with_reducible (first
       | refine ZR.h ?_ | refine zI (by decide) ?_
       | (refine zK hE ?_;intro K hK;simp[KR.ks,q25_0,q25_1,q25_2,q25_3,q25_4,q25_5,q25_6,q25_7,q25_8,q25_9,h1,h2,h3,h4,cancelS,errA,stA,zeroS];(repeat' (first | refine hK _ _ ?_ | refine And.intro ?_ ?_ | (intro hc;try subst hc)))<;>(try clear hK K))
       | (refine zJ (b:=_) (by with_unfolding_all rfl) (fun hc=>?_) (fun hc=>?_)<;>simp at hc<;>(try subst hc)))
      all_goals first|(simp;done)|(simp at *;omega)|((try simp[h1,h2,h3,h4,cancelS,errA,stA,zeroS]);refine Imp.auto (by kernel_rfl) ?_ ?_<;>simp[NLe,h1,h2,h3,h4,cancelS,errA,stA,zeroS])
 ·cases h
end Go.W

