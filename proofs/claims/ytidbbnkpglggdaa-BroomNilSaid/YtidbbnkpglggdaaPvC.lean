/- A part of the proofs about the pair's laws (PvA, PvB, PvC). -/
import Derived.Test.YtidbbnkpglggdaaPsW
import Derived.Test.YtidbbnkpglggdaaPqG
import Derived.Test.YtidbbnkpglggdaaPsX
namespace Go.W
open Go.Proofs
set_option linter.unusedSimpArgs false
set_option linter.unusedVariables false
set_option maxHeartbeats 8000000
attribute [local irreducible] Wm
attribute [local simp] nmap lkp mkPl prs prsL prT ddL idL CRenL CRen Ren RenL NObj.none CRenLL
structure SwZ where
 sh : Int
 ix : Int
 ps : Int
 p : Option TZ
def pC (u : Nat) : Option TZ→AV
 | none=>.raw (.pointer none)
 | some T=>.op u (tzC T)
def swL (s : SwZ) (u : Nat) : List AV:=[.int .i64 s.sh,.int .i64 s.ix,.int .i64 s.ps,pC u s.p]
def swOf : List AV→Option SwZ
 | [.int .i64 sh,.int .i64 ix,.int .i64 ps,.raw (.pointer none)]=>some ⟨sh,ix,ps,none⟩
 | [.int .i64 sh,.int .i64 ix,.int .i64 ps,.op _ tc]=>(match tzOf tc with
  | some T=>some ⟨sh,ix,ps,some T⟩
  | none=>none)
 | _=>none
theorem swOf_C (s : SwZ) (u : Nat) : swOf (swL s u) = some s:=by
 obtain ⟨sh,ix,ps,p⟩:=s
 cases p with
 | none=>rfl
 | some T=>simp[swL,pC,swOf,tzOf_C]
theorem swOf_ex {c : List AV} {s : SwZ} (h : swOf c = some s) : ∃ u,c = swL s u:=by
 unfold swOf at h
 split at h
 ·injection h with h;subst h;exact ⟨0,rfl⟩
 ·rename_i sh ix ps u tc
  split at h
  ·rename_i T hT
   injection h with h;subst h
   obtain rfl:=tzOf_ex hT
   exact ⟨u,rfl⟩
  ·cases h
 ·cases h
def okSw (s : SwZ) : Bool:=decide (0≤s.ix∧s.ix≤1000∧0≤s.ps∧s.ps≤1000000) && (match s.p with
 | none=>true
 | some T=>okT T)
def swT (W : WZ) (s : SwZ) : TZ:=match s.p with
 | none=>tz0 3 (s.ix / (W.a * W.b)) 0 (s.ix % (W.a * W.b)) s.sh
 | some T=>if 14≤T.pc then tz0 3 (s.ix / (W.a * W.b)) 0 (s.ix % (W.a * W.b)) s.sh else T
def swStep (W : WZ) (s : SwZ) : SwZ × WZ :=
 if 14≤(StepT W (swT W s)).1.pc then
  (if s.ix + 1 = W.a * W.b * (W.a * W.b) then (⟨s.sh,0,s.ps + 1,some (StepT W (swT W s)).1⟩,(StepT W (swT W s)).2) else (⟨s.sh,s.ix + 1,s.ps,some (StepT W (swT W s)).1⟩,(StepT W (swT W s)).2))
 else (⟨s.sh,s.ix,s.ps,some (StepT W (swT W s)).1⟩,(StepT W (swT W s)).2)
theorem sw_p (W : WZ) (s : SwZ) : ∃ i q,swStep W s = (⟨s.sh,i,q,some (StepT W (swT W s)).1⟩,(StepT W (swT W s)).2):=by
 unfold swStep
 split
 ·split
  ·exact ⟨_,_,rfl⟩
  ·exact ⟨_,_,rfl⟩
 ·exact ⟨_,_,rfl⟩
theorem tz0_oks (w x g y s : Int) : okT (tz0 w x g y s) = true:=by
 unfold okT tz0 zeroS okS
 simp
theorem swT_ok {W : WZ} {s : SwZ} (h : okSw s = true) : okT (swT W s) = true:=by
 obtain ⟨sh,ix,ps,p⟩:=s
 simp only[okSw,Bool.and_eq_true]at h
 cases p with
 | none=>exact tz0_oks _ _ _ _ _
 | some T =>
  simp only[swT]
  split
  ·exact tz0_oks _ _ _ _ _
  ·exact h.2
def d31 : List AV→Option Ans
 | [.int .i64 sh]=>some ⟨.op 0 [.int .i64 sh,.int .i64 0,.int .i64 0,.raw (.pointer none)],[]⟩
 | _=>none
theorem ok31 : NOk [] d31:=by
 intro xs a h
 unfold d31 at h
 (repeat' (split at h))<;>first|(cases h;done)|(injection h with h;subst h;refine ⟨Ends_of ?_,?_⟩<;>simp)
theorem s31 : Sound Try.prog 31 (nestS [] d31 ok31):=by
 refine nest_sound Try.func31 nm31 rc31 rv31 ok31 (fun xs a h=>?_) fun xs a h w0 S hS=>?_
 ·unfold d31 at h
  (repeat' (split at h))<;>first|(cases h;done)|exact Nat.le_of_ble_eq_true rfl
 unfold d31 at h
 split at h
 ·rename_i sh
  injection h with h
  subst h
  have hE : SoundAll Try.prog (EL []):=EL_sound (by simp)
  have hp : (Value.pointer none).oneCell' = true:=rfl
  unfold m31
  repeat' with_reducible (first
   | refine ZR.h ?_ | refine zI (by decide) ?_
   | (refine zK hE ?_;intro K hK;simp[KR.ks,q31_0,q31_1,hp];(repeat' (first | refine hK _ _ ?_ | refine And.intro ?_ ?_ | (intro hc;try subst hc)))<;>(try clear hK K))
   | (refine zJ (b:=_) (by with_unfolding_all rfl) (fun hc=>?_) (fun hc=>?_)<;>simp at hc<;>(try subst hc)))
  all_goals first|(simp;done)|(simp at *;omega)|((try simp);refine Imp.auto (by kernel_rfl) ?_ ?_<;>simp[NLe])
 ·cases h
def d32 : List AV→Option Ans
 | [.int .i64 sh]=>some ⟨.op 0 [.int .i64 sh,.int .i64 0,.int .i64 0,.int .u64 0,.int .i64 0,.bool false,.int .i64 0,.int .i64 0,.int .i64 0,.int .i64 0,.int .i64 0,.int .i64 0,.int .i64 0,.int .i64 0,.bool false,.int .i64 0],[]⟩
 | _=>none
theorem ok32 : NOk [] d32:=by
 intro xs a h
 unfold d32 at h
 (repeat' (split at h))<;>first|(cases h;done)|(injection h with h;subst h;refine ⟨Ends_of ?_,?_⟩<;>simp)
theorem s32 : Sound Try.prog 32 (nestS [] d32 ok32):=by
 refine nest_sound Try.func32 nm32 rc32 rv32 ok32 (fun xs a h=>?_) fun xs a h w0 S hS=>?_
 ·unfold d32 at h
  (repeat' (split at h))<;>first|(cases h;done)|exact Nat.le_of_ble_eq_true rfl
 unfold d32 at h
 split at h
 ·rename_i sh
  injection h with h
  subst h
  have hE : SoundAll Try.prog (EL []):=EL_sound (by simp)
  unfold m32
  repeat' with_reducible (first
   | refine ZR.h ?_ | refine zI (by decide) ?_
   | (refine zK hE ?_;intro K hK;simp[KR.ks,q32_0,q32_1];(repeat' (first | refine hK _ _ ?_ | refine And.intro ?_ ?_ | (intro hc;try subst hc)))<;>(try clear hK K))
   | (refine zJ (b:=_) (by with_unfolding_all rfl) (fun hc=>?_) (fun hc=>?_)<;>simp at hc<;>(try subst hc)))
  all_goals first|(simp;done)|(simp at *;omega)|((try simp);refine Imp.auto (by kernel_rfl) ?_ ?_<;>simp[NLe])
 ·cases h
def d30n : List AV→Option Ans
 | [.raw (.pointer none),.raw (.pointer none)]=>some ⟨.tup [],[]⟩
 | _=>none
theorem ok30n : NOk [] d30n:=by
 intro xs a h
 unfold d30n at h
 (repeat' (split at h))<;>first|(cases h;done)|(injection h with h;subst h;refine ⟨Ends_of ?_,?_⟩<;>simp)
theorem s30n : Sound Try.prog 30 (nestS [] d30n ok30n):=by
 refine nest_sound Try.func30 nm30 rc30 rv30 ok30n (fun xs a h=>?_) fun xs a h w0 S hS=>?_
 ·unfold d30n at h
  (repeat' (split at h))<;>first|(cases h;done)|exact Nat.le_of_ble_eq_true rfl
 unfold d30n at h
 split at h
 ·skip
  injection h with h
  subst h
  have hE : SoundAll Try.prog (EL []):=EL_sound (by simp)
  unfold m30
  repeat' with_reducible (first
   | refine ZR.h ?_ | refine zI (by decide) ?_
   | ((first | refine zK hE ?_ | refine zL hE mixT ?_);intro K hK;simp[KR.ks,KD.ks,KD.cl,q30_0,q30_1,q30_2,q30_3,q30_4,q30_5,q30_6,q30_7,q30_8,q30_9,q30_10,q30_11,q30_12,q30_13,q30_14,q30_15,q30_16];(repeat' (first | refine hK _ _ ?_ | refine And.intro ?_ ?_ | (intro hc;try subst hc)))<;>(try clear hK K))
   | (refine zJ (b:=_) (by with_unfolding_all rfl) (fun hc=>?_) (fun hc=>?_)<;>simp at hc<;>(try subst hc)))
  all_goals first|(simp;done)|(simp at *;omega)|((try simp);refine Imp.auto (by kernel_rfl) ?_ ?_<;>simp[NLe])
 ·cases h
def d30w : List AV→Option Ans
 | [.op _ [.int .i64 sh,.int .i64 0,.int .i64 0,.int .u64 0,.int .i64 0,.bool false,.int .i64 0,.int .i64 0,.int .i64 0,.int .i64 0,.int .i64 0,.int .i64 0,.int .i64 0,.int .i64 0,.bool false,.int .i64 0],.raw (.pointer none)]=>some ⟨.tup [],[.free]⟩
 | _=>none
theorem ok30w : NOk [(16,false)] d30w:=by
 intro xs a h
 unfold d30w at h
 (repeat' (split at h))<;>first|(cases h;done)|(injection h with h;subst h;refine ⟨Ends_of ?_,?_⟩<;>simp)
theorem s30w : Sound Try.prog 30 (nestS [(16,false)] d30w ok30w):=by
 refine nest_sound Try.func30 nm30 rc30 rv30 ok30w (fun xs a h=>?_) fun xs a h w0 S hS=>?_
 ·unfold d30w at h
  (repeat' (split at h))<;>first|(cases h;done)|exact Nat.le_of_ble_eq_true rfl
 unfold d30w at h
 split at h
 ·rename_i u sh
  injection h with h
  subst h
  have hE : SoundAll Try.prog (EL []):=EL_sound (by simp)
  unfold m30
  repeat' with_reducible (first
   | refine ZR.h ?_ | refine zI (by decide) ?_
   | ((first | refine zK hE ?_ | refine zL hE mixT ?_);intro K hK;simp[KR.ks,KD.ks,KD.cl,q30_0,q30_1,q30_2,q30_3,q30_4,q30_5,q30_6,q30_7,q30_8,q30_9,q30_10,q30_11,q30_12,q30_13,q30_14,q30_15,q30_16];(repeat' (first | refine hK _ _ ?_ | refine And.intro ?_ ?_ | (intro hc;try subst hc)))<;>(try clear hK K))
   | (refine zJ (b:=_) (by with_unfolding_all rfl) (fun hc=>?_) (fun hc=>?_)<;>simp at hc<;>(try subst hc)))
  all_goals first|(simp;done)|(simp at *;omega)|((try simp);refine Imp.auto (by kernel_rfl) ?_ ?_<;>simp[NLe])
 ·cases h
def d29n : List AV→Option Ans
 | [.raw (.pointer none),.raw (.pointer none)]=>some ⟨.tup [],[]⟩
 | _=>none
theorem ok29n : NOk [] d29n:=by
 intro xs a h
 unfold d29n at h
 (repeat' (split at h))<;>first|(cases h;done)|(injection h with h;subst h;refine ⟨Ends_of ?_,?_⟩<;>simp)
theorem s29n : Sound Try.prog 29 (nestS [] d29n ok29n):=by
 refine nest_sound Try.func29 nm29 rc29 rv29 ok29n (fun xs a h=>?_) fun xs a h w0 S hS=>?_
 ·unfold d29n at h
  (repeat' (split at h))<;>first|(cases h;done)|exact Nat.le_of_ble_eq_true rfl
 unfold d29n at h
 split at h
 ·skip
  injection h with h
  subst h
  have hE : SoundAll Try.prog (EL []):=EL_sound (by simp)
  unfold m29
  repeat' with_reducible (first
   | refine ZR.h ?_ | refine zI (by decide) ?_
   | ((first | refine zK hE ?_ | refine zL hE mixT ?_);intro K hK;simp[KR.ks,KD.ks,KD.cl,q29_0,q29_1,q29_2,q29_3,q29_4,q29_5,q29_6,q29_7,q29_8,q29_9];(repeat' (first | refine hK _ _ ?_ | refine And.intro ?_ ?_ | (intro hc;try subst hc)))<;>(try clear hK K))
   | (refine zJ (b:=_) (by with_unfolding_all rfl) (fun hc=>?_) (fun hc=>?_)<;>simp at hc<;>(try subst hc)))
  all_goals first|(simp;done)|(simp at *;omega)|((try simp);refine Imp.auto (by kernel_rfl) ?_ ?_<;>simp[NLe])
 ·cases h
def d29w : List AV→Option Ans
 | [.op _ [.int .i64 sh,.int .i64 ix,.int .i64 ps,.raw (.pointer none)],.raw (.pointer none)]=>some ⟨.tup [],[.free]⟩
 | _=>none
theorem ok29w : NOk [(4,false)] d29w:=by
 intro xs a h
 unfold d29w at h
 (repeat' (split at h))<;>first|(cases h;done)|(injection h with h;subst h;refine ⟨Ends_of ?_,?_⟩<;>simp)
theorem s29w : Sound Try.prog 29 (nestS [(4,false)] d29w ok29w):=by
 refine nest_sound Try.func29 nm29 rc29 rv29 ok29w (fun xs a h=>?_) fun xs a h w0 S hS=>?_
 ·unfold d29w at h
  (repeat' (split at h))<;>first|(cases h;done)|exact Nat.le_of_ble_eq_true rfl
 unfold d29w at h
 split at h
 ·rename_i u sh ix ps
  injection h with h
  subst h
  have hE : SoundAll Try.prog (EL []):=EL_sound (by simp)
  unfold m29
  repeat' with_reducible (first
   | refine ZR.h ?_ | refine zI (by decide) ?_
   | ((first | refine zK hE ?_ | refine zL hE mixT ?_);intro K hK;simp[KR.ks,KD.ks,KD.cl,q29_0,q29_1,q29_2,q29_3,q29_4,q29_5,q29_6,q29_7,q29_8,q29_9];(repeat' (first | refine hK _ _ ?_ | refine And.intro ?_ ?_ | (intro hc;try subst hc)))<;>(try clear hK K))
   | (refine zJ (b:=_) (by with_unfolding_all rfl) (fun hc=>?_) (fun hc=>?_)<;>simp at hc<;>(try subst hc)))
  all_goals first|(simp;done)|(simp at *;omega)|((try simp);refine Imp.auto (by kernel_rfl) ?_ ?_<;>simp[NLe])
 ·cases h
def d33n : List AV→Option Ans
 | [.raw (.pointer none)]=>some ⟨.bool true,[]⟩
 | _=>none
theorem ok33n : NOk [] d33n:=by
 intro xs a h
 unfold d33n at h
 (repeat' (split at h))<;>first|(cases h;done)|(injection h with h;subst h;refine ⟨Ends_of ?_,?_⟩<;>simp)
theorem s33n : Sound Try.prog 33 (nestS [] d33n ok33n):=by
 refine nest_sound Try.func33 nm33 rc33 rv33 ok33n (fun xs a h=>?_) fun xs a h w0 S hS=>?_
 ·unfold d33n at h
  (repeat' (split at h))<;>first|(cases h;done)|exact Nat.le_of_ble_eq_true rfl
 unfold d33n at h
 split at h
 ·skip
  injection h with h
  subst h
  have hE : SoundAll Try.prog (EL []):=EL_sound (by simp)
  unfold m33
  repeat' with_reducible (first
   | refine ZR.h ?_ | refine zI (by decide) ?_
   | (refine zK hE ?_;intro K hK;simp[KR.ks,q33_0,q33_1];(repeat' (first | refine hK _ _ ?_ | refine And.intro ?_ ?_ | (intro hc;try subst hc)))<;>(try clear hK K))
   | (refine zJ (b:=_) (by with_unfolding_all rfl) (fun hc=>?_) (fun hc=>?_)<;>simp at hc<;>(try subst hc)))
  all_goals first|(simp;done)|(simp at *;omega)|((try simp);refine Imp.auto (by kernel_rfl) ?_ ?_<;>simp[NLe])
 ·cases h
def d34n : List AV→Option Ans
 | [.raw (.pointer none)]=>some ⟨.bool true,[]⟩
 | _=>none
theorem ok34n : NOk [] d34n:=by
 intro xs a h
 unfold d34n at h
 (repeat' (split at h))<;>first|(cases h;done)|(injection h with h;subst h;refine ⟨Ends_of ?_,?_⟩<;>simp)
theorem s34n : Sound Try.prog 34 (nestS [] d34n ok34n):=by
 refine nest_sound Try.func34 nm34 rc34 rv34 ok34n (fun xs a h=>?_) fun xs a h w0 S hS=>?_
 ·unfold d34n at h
  (repeat' (split at h))<;>first|(cases h;done)|exact Nat.le_of_ble_eq_true rfl
 unfold d34n at h
 split at h
 ·skip
  injection h with h
  subst h
  have hE : SoundAll Try.prog (EL []):=EL_sound (by simp)
  unfold m34
  repeat' with_reducible (first
   | refine ZR.h ?_ | refine zI (by decide) ?_
   | (refine zK hE ?_;intro K hK;simp[KR.ks,q34_0,q34_1];(repeat' (first | refine hK _ _ ?_ | refine And.intro ?_ ?_ | (intro hc;try subst hc)))<;>(try clear hK K))
   | (refine zJ (b:=_) (by with_unfolding_all rfl) (fun hc=>?_) (fun hc=>?_)<;>simp at hc<;>(try subst hc)))
  all_goals first|(simp;done)|(simp at *;omega)|((try simp);refine Imp.auto (by kernel_rfl) ?_ ?_<;>simp[NLe])
 ·cases h
def d35n : List AV→Option Ans
 | [.raw (.pointer none)]=>some ⟨.int .i64 0,[]⟩
 | _=>none
theorem ok35n : NOk [] d35n:=by
 intro xs a h
 unfold d35n at h
 (repeat' (split at h))<;>first|(cases h;done)|(injection h with h;subst h;refine ⟨Ends_of ?_,?_⟩<;>simp)
theorem s35n : Sound Try.prog 35 (nestS [] d35n ok35n):=by
 refine nest_sound Try.func35 nm35 rc35 rv35 ok35n (fun xs a h=>?_) fun xs a h w0 S hS=>?_
 ·unfold d35n at h
  (repeat' (split at h))<;>first|(cases h;done)|exact Nat.le_of_ble_eq_true rfl
 unfold d35n at h
 split at h
 ·skip
  injection h with h
  subst h
  have hE : SoundAll Try.prog (EL []):=EL_sound (by simp)
  unfold m35
  repeat' with_reducible (first
   | refine ZR.h ?_ | refine zI (by decide) ?_
   | (refine zK hE ?_;intro K hK;simp[KR.ks,q35_0,q35_1,q35_2,q35_3];(repeat' (first | refine hK _ _ ?_ | refine And.intro ?_ ?_ | (intro hc;try subst hc)))<;>(try clear hK K))
   | (refine zJ (b:=_) (by with_unfolding_all rfl) (fun hc=>?_) (fun hc=>?_)<;>simp at hc<;>(try subst hc)))
  all_goals first|(simp;done)|(simp at *;omega)|((try simp);refine Imp.auto (by kernel_rfl) ?_ ?_<;>simp[NLe])
 ·cases h
def d36n : List AV→Option Ans
 | [.raw (.pointer none)]=>some ⟨.int .i64 0,[]⟩
 | _=>none
theorem ok36n : NOk [] d36n:=by
 intro xs a h
 unfold d36n at h
 (repeat' (split at h))<;>first|(cases h;done)|(injection h with h;subst h;refine ⟨Ends_of ?_,?_⟩<;>simp)
theorem s36n : Sound Try.prog 36 (nestS [] d36n ok36n):=by
 refine nest_sound Try.func36 nm36 rc36 rv36 ok36n (fun xs a h=>?_) fun xs a h w0 S hS=>?_
 ·unfold d36n at h
  (repeat' (split at h))<;>first|(cases h;done)|exact Nat.le_of_ble_eq_true rfl
 unfold d36n at h
 split at h
 ·skip
  injection h with h
  subst h
  have hE : SoundAll Try.prog (EL []):=EL_sound (by simp)
  unfold m36
  repeat' with_reducible (first
   | refine ZR.h ?_ | refine zI (by decide) ?_
   | (refine zK hE ?_;intro K hK;simp[KR.ks,q36_0,q36_1,q36_2,q36_3];(repeat' (first | refine hK _ _ ?_ | refine And.intro ?_ ?_ | (intro hc;try subst hc)))<;>(try clear hK K))
   | (refine zJ (b:=_) (by with_unfolding_all rfl) (fun hc=>?_) (fun hc=>?_)<;>simp at hc<;>(try subst hc)))
  all_goals first|(simp;done)|(simp at *;omega)|((try simp);refine Imp.auto (by kernel_rfl) ?_ ?_<;>simp[NLe])
 ·cases h
def d39 : List AV→Option Ans
 | [.agg [.int .i64 a,.int .i64 b,.int .i64 c,.int .i64 d,.int .i64 e,.int .i64 f,.int .i64 g]]=>if cfgB a b c d e f g = true then some ⟨.int .i64 (4 * (a * b)),[]⟩ else none
 | _=>none
theorem ok39 : NOk [] d39:=by
 intro xs a h
 unfold d39 at h
 (repeat' (split at h))<;>first|(cases h;done)|(injection h with h;subst h;refine ⟨Ends_of ?_,?_⟩<;>simp)
theorem s39 : Sound Try.prog 39 (nestS [] d39 ok39):=by
 refine nest_sound Try.func39 nm39 rc39 rv39 ok39 (fun xs a h=>?_) fun xs a h w0 S hS=>?_
 ·unfold d39 at h
  (repeat' (split at h))<;>first|(cases h;done)|exact Nat.le_of_ble_eq_true rfl
 unfold d39 at h
 split at h
 ·split at h
  ·rename_i a b c d e f g hcond
   injection h with h
   subst h
   have hE : SoundAll Try.prog (EL [(59,rdS d59 ok59)]):=EL_sound (by simp only[List.mem_cons,List.not_mem_nil,or_false,forall_eq_or_imp,forall_eq];exact s59)
   have hall:=cfg_all hcond
   have w1 : IntKind.wrap .i64 (4 * (a * b)) = 4 * (a * b):=wrap_in (by omega) (by omega)
   unfold m39
   repeat' with_reducible (first
    | refine ZR.h ?_ | refine zI (by decide) ?_
    | (refine zK hE ?_;intro K hK;simp[KR.ks,q39_0,q39_1,hcond,w1,d59];(repeat' (first | refine hK _ _ ?_ | refine And.intro ?_ ?_ | (intro hc;try subst hc)))<;>(try clear hK K))
    | (refine zJ (b:=_) (by with_unfolding_all rfl) (fun hc=>?_) (fun hc=>?_)<;>simp at hc<;>(try subst hc)))
   all_goals first|(simp;done)|(simp at *;omega)|((try simp);refine Imp.auto (by kernel_rfl) ?_ ?_<;>simp[NLe])
  ·cases h
 ·cases h
def d40 : List AV→Option Ans
 | [.agg [.int .i64 a,.int .i64 b,.int .i64 c,.int .i64 d,.int .i64 e,.int .i64 f,.int .i64 g]]=>if cfgB a b c d e f g = true then some ⟨.int .i64 (14 * (a * b) * (a * b)),[]⟩ else none
 | _=>none
theorem ok40 : NOk [] d40:=by
 intro xs a h
 unfold d40 at h
 (repeat' (split at h))<;>first|(cases h;done)|(injection h with h;subst h;refine ⟨Ends_of ?_,?_⟩<;>simp)
theorem s40 : Sound Try.prog 40 (nestS [] d40 ok40):=by
 refine nest_sound Try.func40 nm40 rc40 rv40 ok40 (fun xs a h=>?_) fun xs a h w0 S hS=>?_
 ·unfold d40 at h
  (repeat' (split at h))<;>first|(cases h;done)|exact Nat.le_of_ble_eq_true rfl
 unfold d40 at h
 split at h
 ·split at h
  ·rename_i a b c d e f g hcond
   injection h with h
   subst h
   have hE : SoundAll Try.prog (EL [(59,rdS d59 ok59)]):=EL_sound (by simp only[List.mem_cons,List.not_mem_nil,or_false,forall_eq_or_imp,forall_eq];exact s59)
   have hall:=cfg_all hcond
   have hm:=mul_in (show 0≤14 * (a * b) by omega) (show 14 * (a * b)≤400 by omega) (show 0≤a * b by omega) (show a * b≤24 by omega)
   have w1 : IntKind.wrap .i64 (14 * (a * b)) = 14 * (a * b):=wrap_in (by omega) (by omega)
   have w2 : IntKind.wrap .i64 (14 * (a * b) * (a * b)) = 14 * (a * b) * (a * b):=wrap_in (by omega) (by omega)
   unfold m40
   repeat' with_reducible (first
    | refine ZR.h ?_ | refine zI (by decide) ?_
    | ((first | refine zK hE ?_ | refine zL hE mixT ?_);intro K hK;simp[KR.ks,KD.ks,KD.cl,q40_0,q40_1,hcond,w1,w2,d59];(repeat' (first | refine hK _ _ ?_ | refine And.intro ?_ ?_ | (intro hc;try subst hc)))<;>(try clear hK K))
    | (refine zJ (b:=_) (by with_unfolding_all rfl) (fun hc=>?_) (fun hc=>?_)<;>simp at hc<;>(try subst hc)))
   all_goals first|(simp;done)|(simp at *;omega)|((try simp);refine Imp.auto (by kernel_rfl) ?_ ?_<;>simp[NLe])
  ·cases h
 ·cases h
end Go.W
namespace Go.W
open Go.Proofs
set_option linter.unusedSimpArgs false
set_option linter.unusedVariables false
set_option maxHeartbeats 8000000
attribute [local irreducible] Wm
attribute [local simp] nmap lkp mkPl prs prsL prT ddL idL CRenL CRen Ren RenL NObj.none CRenLL
def d33 : List AV→Option Ans
 | [.op _ [.int .i64 sh,.int .i64 ix,.int .i64 ps,.op _ tc]]=>(match tzOf tc with
  | some T=>some ⟨.bool (decide (ix = 0) && decide (14≤T.pc)),[.free]⟩
  | none=>none)
 | _=>none
theorem ok33 : NOk [(4,false)] d33:=by
 intro xs aa h
 unfold d33 at h
 split at h
 ·rename_i u sh ix ps v tc
  split at h
  ·rename_i T hT
   obtain rfl:=tzOf_ex hT
   injection h with h;subst h
   refine ⟨Ends_of ?_,?_⟩<;>simp[tzC]
  ·cases h
 ·cases h
theorem s33 : Sound Try.prog 33 (nestS [(4,false)] d33 ok33):=by
 refine nest_sound Try.func33 nm33 rc33 rv33 ok33 (fun xs a h=>?_) fun xs a h w0 S hS=>?_
 ·unfold d33 at h
  (repeat' (split at h))<;>first|(cases h;done)|exact Nat.le_of_ble_eq_true rfl
 unfold d33 at h
 split at h
 ·rename_i u sh ix ps v tc
  split at h
  ·rename_i T hT
   obtain rfl:=tzOf_ex hT
   injection h with h
   subst h
   have hE : SoundAll Try.prog (EL [(13,nestS [(35,false)] d13 ok13)]):=EL_sound (by simp only[List.mem_cons,List.not_mem_nil,or_false,forall_eq_or_imp,forall_eq];exact s13)
   have h13:=e13 T
   by_cases h1 : ix = 0
   ·subst h1
    simp only[tzC]at h13 hS ⊢
    unfold m33
    repeat' with_reducible (first
     | refine ZR.h ?_ | refine zI (by decide) ?_
     | (refine zK hE ?_;intro K hK;simp[KR.ks,q33_0,q33_1,h13];(repeat' (first | refine hK _ _ ?_ | refine And.intro ?_ ?_ | (intro hc;try subst hc)))<;>(try clear hK K))
     | (refine zJ (b:=_) (by with_unfolding_all rfl) (fun hc=>?_) (fun hc=>?_)<;>simp at hc<;>(try subst hc)))
    all_goals first|(simp;done)|(simp at *;omega)|((try simp);refine Imp.auto (by kernel_rfl) ?_ ?_<;>simp[NLe])
   ·simp only[tzC]at h13 hS ⊢
    unfold m33
    repeat' with_reducible (first
     | refine ZR.h ?_ | refine zI (by decide) ?_
     | (refine zK hE ?_;intro K hK;simp[KR.ks,q33_0,q33_1,h13,h1];(repeat' (first | refine hK _ _ ?_ | refine And.intro ?_ ?_ | (intro hc;try subst hc)))<;>(try clear hK K))
     | (refine zJ (b:=_) (by with_unfolding_all rfl) (fun hc=>?_) (fun hc=>?_)<;>simp at hc<;>(try subst hc)))
    all_goals first|(simp;done)|(simp at *;omega)|((try simp[h1]);refine Imp.auto (by kernel_rfl) ?_ ?_<;>simp[NLe,h1])
  ·cases h
 ·cases h
def d35 : List AV→Option Ans
 | [.op _ [.int .i64 sh,.int .i64 ix,.int .i64 ps,.op _ tc]]=>(match tzOf tc with
  | some T=>some ⟨.int .i64 ps,[.free]⟩
  | none=>none)
 | _=>none
theorem ok35 : NOk [(4,false)] d35:=by
 intro xs aa h
 unfold d35 at h
 split at h
 ·rename_i u sh ix ps v tc
  split at h
  ·rename_i T hT
   obtain rfl:=tzOf_ex hT
   injection h with h;subst h
   refine ⟨Ends_of ?_,?_⟩<;>simp[tzC]
  ·cases h
 ·cases h
theorem s35 : Sound Try.prog 35 (nestS [(4,false)] d35 ok35):=by
 refine nest_sound Try.func35 nm35 rc35 rv35 ok35 (fun xs a h=>?_) fun xs a h w0 S hS=>?_
 ·unfold d35 at h
  (repeat' (split at h))<;>first|(cases h;done)|exact Nat.le_of_ble_eq_true rfl
 unfold d35 at h
 split at h
 ·rename_i u sh ix ps v tc
  split at h
  ·rename_i T hT
   obtain rfl:=tzOf_ex hT
   injection h with h
   subst h
   have hE : SoundAll Try.prog (EL []):=EL_sound (by simp)
   simp only[tzC]at hS ⊢
   unfold m35
   repeat' with_reducible (first
    | refine ZR.h ?_ | refine zI (by decide) ?_
    | (refine zK hE ?_;intro K hK;simp[KR.ks,q35_0,q35_1,q35_2,q35_3];(repeat' (first | refine hK _ _ ?_ | refine And.intro ?_ ?_ | (intro hc;try subst hc)))<;>(try clear hK K))
    | (refine zJ (b:=_) (by with_unfolding_all rfl) (fun hc=>?_) (fun hc=>?_)<;>simp at hc<;>(try subst hc)))
   all_goals first|(simp;done)|(simp at *;omega)|((try simp);refine Imp.auto (by kernel_rfl) ?_ ?_<;>simp[NLe])
  ·cases h
 ·cases h
def sbegS : Spec:=ifS nil1 (nestS [] d33n ok33n) (nestS [(4,false)] d33 ok33)
def spasS : Spec:=ifS nil1 (nestS [] d35n ok35n) (nestS [(4,false)] d35 ok35)
theorem sbegS_ok : Sound Try.prog 33 sbegS:=ifS_sound s33n s33
theorem spasS_ok : Sound Try.prog 35 spasS:=ifS_sound s35n s35
end Go.W
namespace Go.W
open Go.Proofs
set_option linter.unusedSimpArgs false
set_option linter.unusedVariables false
set_option maxHeartbeats 8000000
attribute [local irreducible] Wm
attribute [local simp] nmap lkp mkPl prs prsL prT ddL idL CRenL CRen Ren RenL NObj.none CRenLL
def ELs : List (FuncId × Spec):=[(59,rdS d59 ok59),(13,doneS),(11,nestS [] d11 ok11),(12,nestS [(35,true),(10,true)] d12 ok12)]
theorem ELs_ok : SoundAll Try.prog (EL ELs):=EL_sound (by
 simp only[ELs,List.mem_cons,List.not_mem_nil,or_false,forall_eq_or_imp,forall_eq]
 exact ⟨s59,doneS_ok,s11,s12⟩)
def d29 : List AV→Option Ans
 | [.op _ sc,.op _ wc]=>(match swOf sc,wzOf wc with
  | some s,some W=>if okSw s = true∧okW W = true∧smW W = true then some (⟨.tup [],[.cells 0 (swL (swStep W s).1 0),.cells 0 (wzC (swStep W s).2)]⟩) else none
  | _,_=>none)
 | _=>none
theorem ok29 : NOk [(4,true),(10,true)] d29:=by
 intro xs aa h
 unfold d29 at h
 split at h
 ·rename_i t1 sc t2 wc
  split at h
  ·rename_i s W hSc hWc
   split at h
   ·rename_i hc
    obtain ⟨u1,u2,u3,u4,rfl⟩:=wzOf_ex hWc
    obtain ⟨u,rfl⟩:=swOf_ex hSc
    injection h with h;subst h
    obtain ⟨i,q,hst⟩:=sw_p W s
    rw[hst]
    have hW:=hc.2.1
    obtain ⟨hcf,hw,hwl,hs0,ht0,ht1,hlg⟩:=okW_ex (hW)
    have hT:=w_t0 hw
    have hC:=w_cl hw
    have hTl:=l_t0 hlg
    have hCl:=l_cl hlg
    have hW2:=StepT_ok hW (swT W s)
    obtain ⟨hcf2,hw2,hwl2,hs02,ht02,ht12,hlg2⟩:=okW_ex (hW2)
    have hT2:=w_t0 hw2
    have hC2:=w_cl hw2
    have hTl2:=l_t0 hlg2
    have hCl2:=l_cl hlg2
    obtain ⟨sh,ix,ps,p⟩:=s
    cases p<;>(refine ⟨Ends_of ?_,?_⟩<;>simp[swL,pC,tzC,wzL,wzC,hT,hC,hTl,hCl,hT2,hC2,hTl2,hCl2])
   ·cases h
  ·cases h
 ·cases h
def E29 (sh ix ps : Int) (T : TZ) (W : WZ) : St:=⟨[(0,.tup [])],[(0,.cells 0 [.int .i64 sh,.int .i64 ix,.int .i64 ps,.ptr (.top 2) 0 0]),(1,.cells 0 (wzC W)),(2,.cells 0 (tzC T))],3⟩
theorem s29 : Sound Try.prog 29 (nestS [(4,true),(10,true)] d29 ok29):=by
 refine nest_sound Try.func29 nm29 rc29 rv29 ok29 (fun xs a h=>?_) fun xs a h w0 S hS=>?_
 ·unfold d29 at h
  (repeat' (split at h))<;>first|(cases h;done)|exact Nat.le_of_ble_eq_true rfl
 unfold d29 at h
 split at h
 ·rename_i t1 sc t2 wc
  split at h
  ·rename_i s W hSc hWc
   split at h
   ·rename_i hcond
    obtain ⟨u1,u2,u3,u4,rfl⟩:=wzOf_ex hWc
    obtain ⟨u,rfl⟩:=swOf_ex hSc
    injection h with h
    subst h
    clear hSc hWc
    have hE:=ELs_ok
    obtain ⟨hok,hW,hsm⟩:=hcond
    obtain ⟨hcf,hw,hwl,hs0,ht0,ht1,hlg⟩:=okW_ex (hW)
    have hT:=w_t0 hw
    have hC:=w_cl hw
    have hTl:=l_t0 hlg
    have hCl:=l_cl hlg
    have hcx:=cfg_ex hcf
    have hall:=cfg_all hcf
    have h59 : d59 [.agg [.int .i64 W.a,.int .i64 W.b,.int .i64 W.c,.int .i64 W.d,.int .i64 W.e,.int .i64 W.f,.int .i64 W.g]] [] = some (.int .i64 (W.a * W.b)):=by simp only[d59];rw[if_pos hcf]
    obtain ⟨sh,ix,ps,p⟩:=s
    obtain ⟨nn,hnn⟩ : ∃ z,W.a * W.b = z:=⟨_,rfl⟩
    simp only[okSw,Bool.and_eq_true,decide_eq_true_eq]at hok
    obtain ⟨⟨hx0,hx1,hp0,hp1⟩,hokp⟩:=hok
    rw[hnn]at h59 hall
    have hn0 : ¬ nn = 0:=by omega
    have tq : IntKind.wrap .i64 (ix.tdiv nn) = ix / nn:=tdiv_in (by omega) (by omega) (by omega)
    have tr : ix.tmod nn = ix % nn:=Int.tmod_eq_emod_of_nonneg hx0
    have trr:=Int.emod_nonneg ix hn0
    have tr2:=Int.emod_lt_of_pos ix (show 0 < nn by omega)
    have tw : IntKind.wrap .i64 (ix % nn) = ix % nn:=wrap_in (by omega) (by omega)
    cases p with
    | none =>
     have hTT : swT W ⟨sh,ix,ps,none⟩ = tz0 3 (ix / nn) 0 (ix % nn) sh:=by rw[← hnn];rfl
     have hst0 : swStep W ⟨sh,ix,ps,none⟩ = (⟨sh,ix,ps,some (StepT W (tz0 3 (ix / nn) 0 (ix % nn) sh)).1⟩,(StepT W (tz0 3 (ix / nn) 0 (ix % nn) sh)).2):=by
      unfold swStep
      rw[hTT,if_neg (by rw[StepT_pc];simp[tz0])]
     rw[hst0]
     have h11 : d11 [.agg [.int .i64 3,.int .i64 (ix / nn),.int .i64 0,.int .i64 (ix % nn),.int .i64 sh]] = some ⟨.op 0 (tzC (tz0 3 (ix / nn) 0 (ix % nn) sh)),[]⟩:=rfl
     have hk0:=tz0_oks 3 (ix / nn) 0 (ix % nn) sh
     have hpc : (StepT W (tz0 3 (ix / nn) 0 (ix % nn) sh)).1.pc = 1:=by rw[StepT_pc];simp[tz0]
     have hW2:=StepT_ok hW (tz0 3 (ix / nn) 0 (ix % nn) sh)
     obtain ⟨T0,hT0⟩ : ∃ z,tz0 3 (ix / nn) 0 (ix % nn) sh = z:=⟨_,rfl⟩
     rw[hT0]at h11 hk0 hpc hW2 ⊢
     have hst:=e12 hk0 hW hsm
     obtain ⟨r,hr⟩ : ∃ r,StepT W T0 = r:=⟨_,rfl⟩
     rw[hr]at hst hpc hW2 ⊢
     have h13:=e13 r.1
     rw[decide_eq_false (by omega)]at h13
     obtain ⟨hcf2,hw2,hwl2,hs02,ht02,ht12,hlg2⟩:=okW_ex (hW2)
     have hT2:=w_t0 hw2
     have hC2:=w_cl hw2
     have hTl2:=l_t0 hlg2
     have hCl2:=l_cl hlg2
     simp only[swL,pC,tzC,wzL,wzC]at hst h11 h13 hS ⊢
     unfold m29
     repeat' with_reducible (first
      | refine ZR.h ?_ | refine zI (by decide) ?_
      | ((first | refine zK hE ?_ | refine zL hE mixT ?_);intro K hK;simp[KR.ks,KD.ks,KD.cl,q29_0,q29_1,q29_2,q29_3,q29_4,q29_5,q29_6,q29_7,q29_8,q29_9,hT,hC,hTl,hCl,hT2,hC2,hTl2,hCl2,h59,hn0,tq,tr,tw,h11,hst,h13,ELs,doneS,ifS_fn,nil1,d13n];(repeat' (first | refine hK _ _ ?_ | refine And.intro ?_ ?_ | (intro hc;try subst hc)))<;>(try clear hK K))
      | (refine zJ (b:=_) (by with_unfolding_all rfl) (fun hc=>?_) (fun hc=>?_)<;>simp at hc<;>(try subst hc)))
     all_goals (try simp[hT,hC,hTl,hCl,hT2,hC2,hTl2,hCl2])
     all_goals (refine Imp.trans (t:=E29 sh ix ps r.1 r.2) (Imp.autoX [(2,some 282)] (by kernel_rfl) ?_ ?_) ?_)
     all_goals first|(simp[E29,NLe,mkPlX,tzC,wzC,hT,hC,hTl,hCl,hT2,hC2,hTl2,hCl2];done)|skip
     all_goals (refine Imp.trans (Imp.absorb (.top 0) 0 3 2 (by rfl) (by rfl) (by rfl) (.inr ⟨0,_,by rfl,by rfl⟩) (by simp)) ?_)
     all_goals (simp only[E29];refine Imp.auto (by kernel_rfl) ?_ ?_<;>simp[NLe,mkPlX,tzC,wzC,hT,hC,hTl,hCl,hT2,hC2,hTl2,hCl2,absorbG,newcell])
    | some T =>
     replace hokp : okT T = true:=hokp
     have h13a:=e13 T
     by_cases h14 : 14≤T.pc
     ·rw[decide_eq_true h14]at h13a
      have hTT : swT W ⟨sh,ix,ps,some T⟩ = tz0 3 (ix / nn) 0 (ix % nn) sh:=by rw[← hnn];simp only[swT];rw[if_pos h14]
      have hst0 : swStep W ⟨sh,ix,ps,some T⟩ = (⟨sh,ix,ps,some (StepT W (tz0 3 (ix / nn) 0 (ix % nn) sh)).1⟩,(StepT W (tz0 3 (ix / nn) 0 (ix % nn) sh)).2):=by
       unfold swStep
       rw[hTT,if_neg (by rw[StepT_pc];simp[tz0])]
      rw[hst0]
      have h11 : d11 [.agg [.int .i64 3,.int .i64 (ix / nn),.int .i64 0,.int .i64 (ix % nn),.int .i64 sh]] = some ⟨.op 0 (tzC (tz0 3 (ix / nn) 0 (ix % nn) sh)),[]⟩:=rfl
      have hk0:=tz0_oks 3 (ix / nn) 0 (ix % nn) sh
      have hpc : (StepT W (tz0 3 (ix / nn) 0 (ix % nn) sh)).1.pc = 1:=by rw[StepT_pc];simp[tz0]
      have hW2:=StepT_ok hW (tz0 3 (ix / nn) 0 (ix % nn) sh)
      obtain ⟨T0,hT0⟩ : ∃ z,tz0 3 (ix / nn) 0 (ix % nn) sh = z:=⟨_,rfl⟩
      rw[hT0]at h11 hk0 hpc hW2 ⊢
      have hst:=e12 hk0 hW hsm
      obtain ⟨r,hr⟩ : ∃ r,StepT W T0 = r:=⟨_,rfl⟩
      rw[hr]at hst hpc hW2 ⊢
      have h13:=e13 r.1
      rw[decide_eq_false (by omega)]at h13
      obtain ⟨hcf2,hw2,hwl2,hs02,ht02,ht12,hlg2⟩:=okW_ex (hW2)
      have hT2:=w_t0 hw2
      have hC2:=w_cl hw2
      have hTl2:=l_t0 hlg2
      have hCl2:=l_cl hlg2
      simp only[swL,pC,tzC,wzL,wzC]at hst h11 h13 h13a hS ⊢
      unfold m29
      repeat' with_reducible (first
       | refine ZR.h ?_ | refine zI (by decide) ?_
       | ((first | refine zK hE ?_ | refine zL hE mixT ?_);intro K hK;simp[KR.ks,KD.ks,KD.cl,q29_0,q29_1,q29_2,q29_3,q29_4,q29_5,q29_6,q29_7,q29_8,q29_9,hT,hC,hTl,hCl,hT2,hC2,hTl2,hCl2,h59,hn0,tq,tr,tw,h11,hst,h13,h13a,ELs,doneS,ifS_fn,nil1];(repeat' (first | refine hK _ _ ?_ | refine And.intro ?_ ?_ | (intro hc;try subst hc)))<;>(try clear hK K))
       | (refine zJ (b:=_) (by with_unfolding_all rfl) (fun hc=>?_) (fun hc=>?_)<;>simp at hc<;>(try subst hc)))
      all_goals (try simp[hT,hC,hTl,hCl,hT2,hC2,hTl2,hCl2])
      all_goals (refine Imp.trans (t:=E29 sh ix ps r.1 r.2) (Imp.autoX [(2,some 282)] (by kernel_rfl) ?_ ?_) ?_)
      all_goals first|(simp[E29,NLe,mkPlX,tzC,wzC,hT,hC,hTl,hCl,hT2,hC2,hTl2,hCl2];done)|skip
      all_goals (refine Imp.trans (Imp.absorb (.top 0) 0 3 2 (by rfl) (by rfl) (by rfl) (.inr ⟨0,_,by rfl,by rfl⟩) (by simp)) ?_)
      all_goals (simp only[E29];refine Imp.auto (by kernel_rfl) ?_ ?_<;>simp[NLe,mkPlX,tzC,wzC,hT,hC,hTl,hCl,hT2,hC2,hTl2,hCl2,absorbG,newcell])
     ·rw[decide_eq_false h14]at h13a
      have hTT : swT W ⟨sh,ix,ps,some T⟩ = T:=by simp only[swT];rw[if_neg h14]
      have hst:=e12 hokp hW hsm
      have hW2:=StepT_ok hW T
      have h13:=e13 (StepT W T).1
      have hsw : swStep W ⟨sh,ix,ps,some T⟩ = if 14≤(StepT W T).1.pc then (if ix + 1 = nn * nn then (⟨sh,0,ps + 1,some (StepT W T).1⟩,(StepT W T).2) else (⟨sh,ix + 1,ps,some (StepT W T).1⟩,(StepT W T).2)) else (⟨sh,ix,ps,some (StepT W T).1⟩,(StepT W T).2):=by
       unfold swStep;rw[hTT,hnn]
      rw[hsw]
      obtain ⟨r,hr⟩ : ∃ r,StepT W T = r:=⟨_,rfl⟩
      rw[hr]at hst hW2 h13 ⊢
      obtain ⟨hcf2,hw2,hwl2,hs02,ht02,ht12,hlg2⟩:=okW_ex (hW2)
      have hT2:=w_t0 hw2
      have hC2:=w_cl hw2
      have hTl2:=l_t0 hlg2
      have hCl2:=l_cl hlg2
      have hmm:=mul_in (show 0≤nn by omega) (show nn≤24 by omega) (show 0≤nn by omega) (show nn≤24 by omega)
      have w1 : IntKind.wrap .i64 (ix + 1) = ix + 1:=wrap_in (by omega) (by omega)
      have w2 : IntKind.wrap .i64 (nn * nn) = nn * nn:=wrap_in (by omega) (by omega)
      have w3 : IntKind.wrap .i64 (ps + 1) = ps + 1:=wrap_in (by omega) (by omega)
      by_cases hd : 14≤r.1.pc
      ·rw[decide_eq_true hd]at h13
       rw[if_pos hd]
       by_cases hl : ix + 1 = nn * nn
       ·rw[if_pos hl]
        simp only[swL,pC,tzC,wzL,wzC]at hst h13 h13a hS ⊢
        unfold m29
        repeat' with_reducible (first
         | refine ZR.h ?_ | refine zI (by decide) ?_
         | ((first | refine zK hE ?_ | refine zL hE mixT ?_);intro K hK;simp[KR.ks,KD.ks,KD.cl,q29_0,q29_1,q29_2,q29_3,q29_4,q29_5,q29_6,q29_7,q29_8,q29_9,hT,hC,hTl,hCl,hT2,hC2,hTl2,hCl2,h59,hst,h13,h13a,w1,w2,w3,hl,ELs,doneS,ifS_fn,nil1];(repeat' (first | refine hK _ _ ?_ | refine And.intro ?_ ?_ | (intro hc;try subst hc)))<;>(try clear hK K))
         | (refine zJ (b:=_) (by with_unfolding_all rfl) (fun hc=>?_) (fun hc=>?_)<;>simp at hc<;>(try subst hc)))
        all_goals first|(simp;done)|(simp at *;omega)|((try simp[hT,hC,hTl,hCl,hT2,hC2,hTl2,hCl2]);refine Imp.auto (by kernel_rfl) ?_ ?_<;>simp[NLe,mkPlX,hT,hC,hTl,hCl,hT2,hC2,hTl2,hCl2])
       ·rw[if_neg hl]
        simp only[swL,pC,tzC,wzL,wzC]at hst h13 h13a hS ⊢
        unfold m29
        repeat' with_reducible (first
         | refine ZR.h ?_ | refine zI (by decide) ?_
         | ((first | refine zK hE ?_ | refine zL hE mixT ?_);intro K hK;simp[KR.ks,KD.ks,KD.cl,q29_0,q29_1,q29_2,q29_3,q29_4,q29_5,q29_6,q29_7,q29_8,q29_9,hT,hC,hTl,hCl,hT2,hC2,hTl2,hCl2,h59,hst,h13,h13a,w1,w2,w3,hl,ELs,doneS,ifS_fn,nil1];(repeat' (first | refine hK _ _ ?_ | refine And.intro ?_ ?_ | (intro hc;try subst hc)))<;>(try clear hK K))
         | (refine zJ (b:=_) (by with_unfolding_all rfl) (fun hc=>?_) (fun hc=>?_)<;>simp at hc<;>(try subst hc)))
        all_goals first|(simp;done)|(simp at *;omega)|((try simp[hT,hC,hTl,hCl,hT2,hC2,hTl2,hCl2]);refine Imp.auto (by kernel_rfl) ?_ ?_<;>simp[NLe,mkPlX,hT,hC,hTl,hCl,hT2,hC2,hTl2,hCl2])
      ·rw[decide_eq_false hd]at h13
       rw[if_neg hd]
       simp only[swL,pC,tzC,wzL,wzC]at hst h13 h13a hS ⊢
       unfold m29
       repeat' with_reducible (first
        | refine ZR.h ?_ | refine zI (by decide) ?_
        | ((first | refine zK hE ?_ | refine zL hE mixT ?_);intro K hK;simp[KR.ks,KD.ks,KD.cl,q29_0,q29_1,q29_2,q29_3,q29_4,q29_5,q29_6,q29_7,q29_8,q29_9,hT,hC,hTl,hCl,hT2,hC2,hTl2,hCl2,h59,hst,h13,h13a,ELs,doneS,ifS_fn,nil1];(repeat' (first | refine hK _ _ ?_ | refine And.intro ?_ ?_ | (intro hc;try subst hc)))<;>(try clear hK K))
        | (refine zJ (b:=_) (by with_unfolding_all rfl) (fun hc=>?_) (fun hc=>?_)<;>simp at hc<;>(try subst hc)))
       all_goals first|(simp;done)|(simp at *;omega)|((try simp[hT,hC,hTl,hCl,hT2,hC2,hTl2,hCl2]);refine Imp.auto (by kernel_rfl) ?_ ?_<;>simp[NLe,mkPlX,hT,hC,hTl,hCl,hT2,hC2,hTl2,hCl2])
   ·cases h
  ·cases h
 ·cases h
def swpS : Spec:=ifS nil1 (nestS [] d29n ok29n) (ifS nil2 (nestS [(4,false)] d29w ok29w) (nestS [(4,true),(10,true)] d29 ok29))
theorem swpS_ok : Sound Try.prog 29 swpS:=ifS_sound s29n (ifS_sound s29w s29)
theorem e29 {W : WZ} {s : SwZ} (hs : okSw s = true) (hW : okW W = true) (hm : smW W = true) (u u' v u1 u2 u3 u4 : Nat) : d29 [.op u (swL s u'),.op v (wzL W u1 u2 u3 u4)] = some ⟨.tup [],[.cells 0 (swL (swStep W s).1 0),.cells 0 (wzC (swStep W s).2)]⟩:=by
 simp only[d29,swOf_C,wzOf_C]
 rw[if_pos ⟨hs,hW,hm⟩]
end Go.W
