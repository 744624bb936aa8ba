/- What tries do that come one behind the other, with nobody else about. -/
import Derived.Test.YtidbbnkpglggdaaPuB
import Derived.Test.YtidbbnkpglggdaaPqG
namespace Go.W
open Go.Proofs
set_option linter.unusedSimpArgs false
set_option linter.unusedVariables false
set_option maxHeartbeats 8000000
attribute [local irreducible] Wm
attribute [local simp] nmap lkp mkPl prs prsL prT ddL idL CRenL CRen Ren RenL NObj.none CRenLL
structure SwZ where
 sh:Int
 ix:Int
 ps:Int
 p:Option TZ
def pC (u:Nat):Option TZ→AV
 | none=>.raw (.pointer none)
 | some T=>.op u (tzC T)
def swL (s:SwZ) (u:Nat):List AV:=[.int .i64 s.sh,.int .i64 s.ix,.int .i64 s.ps,pC u s.p]
def swOf:List AV→Option SwZ
 | [.int .i64 sh,.int .i64 ix,.int .i64 ps,.raw (.pointer none)]=>some ⟨sh,ix,ps,none⟩
 | [.int .i64 sh,.int .i64 ix,.int .i64 ps,.op _ tc]=>(match tzOf tc with
  | some T=>some ⟨sh,ix,ps,some T⟩
  | none=>none)
 | _=>none
theorem swOf_C (s:SwZ) (u:Nat):swOf (swL s u)=some s:=by
 obtain ⟨sh,ix,ps,p⟩:=s
 cases p with
 | none=>rfl
 | some T=>simp[swL,pC,swOf,tzOf_C]
theorem swOf_ex {c:List AV} {s:SwZ} (h:swOf c=some s):∃ u,c=swL s u:=by
 unfold swOf at h
 split at h
 ·injection h with h;subst h;exact ⟨0,rfl⟩
 ·rename_i sh ix ps u tc
  split at h
  ·rename_i T hT
   injection h with h;subst h
   obtain rfl:=tzOf_ex hT
   exact ⟨u,rfl⟩
  ·cases h
 ·cases h
def okSw (s:SwZ):Bool:=decide (0≤s.ix∧s.ix≤1000∧0≤s.ps∧s.ps≤1000000)&&(match s.p with
 | none=>true
 | some T=>okT T)
def swT (W:WZ) (s:SwZ):TZ:=match s.p with
 | none=>tz0 3 (s.ix / (W.a*W.b)) 0 (s.ix % (W.a*W.b)) s.sh
 | some T=>if 14≤T.pc then tz0 3 (s.ix / (W.a*W.b)) 0 (s.ix % (W.a*W.b)) s.sh else T
def swStep (W:WZ) (s:SwZ):SwZ×WZ :=
 if 14≤(StepT W (swT W s)).1.pc then
  (if s.ix+1=W.a*W.b*(W.a*W.b) then (⟨s.sh,0,s.ps+1,some (StepT W (swT W s)).1⟩,(StepT W (swT W s)).2) else (⟨s.sh,s.ix+1,s.ps,some (StepT W (swT W s)).1⟩,(StepT W (swT W s)).2))
 else (⟨s.sh,s.ix,s.ps,some (StepT W (swT W s)).1⟩,(StepT W (swT W s)).2)
theorem sw_p (W:WZ) (s:SwZ):∃ i q,swStep W s=(⟨s.sh,i,q,some (StepT W (swT W s)).1⟩,(StepT W (swT W s)).2):=by
 unfold swStep
 split
 ·split
  ·exact ⟨_,_,rfl⟩
  ·exact ⟨_,_,rfl⟩
 ·exact ⟨_,_,rfl⟩
theorem tz0_oks (w x g y s:Int):okT (tz0 w x g y s)=true:=by
 unfold okT tz0 zeroS okS
 simp
def d31:List AV→Option Ans
 | [.int .i64 sh]=>some ⟨.op 0 [.int .i64 sh,.int .i64 0,.int .i64 0,.raw (.pointer none)],[]⟩
 | _=>none
theorem ok31:NOk [] d31:=by
 intro xs a h
 unfold d31 at h
 (repeat' (split at h))<;>first|(cases h;done)|(injection h with h;subst h;refine ⟨Ends_of ?_,?_⟩<;>simp)
theorem s31:Sound Try.prog 31 (nestS [] d31 ok31):=by
 refine nest_sound Try.func31 nm31 rc31 rv31 ok31 (fun xs a h=>?_) fun xs a h w0 S hS=>?_
 ·unfold d31 at h
  (repeat' (split at h))<;>first|(cases h;done)|exact Nat.le_of_ble_eq_true rfl
 unfold d31 at h
 split at h
 ·rename_i sh
  injection h with h
  subst h
  have hE:SoundAll Try.prog (EL []):=EL_sound (by simp)
  have hp:(Value.pointer none).oneCell'=true:=rfl
  unfold m31
  repeat' with_reducible (first
   | refine ZR.h ?_ | refine zI (by decide) ?_
   | (refine zK hE ?_;intro K hK;simp[KR.ks,q31_0,q31_1,hp];(repeat' (first | refine hK _ _ ?_ | refine And.intro ?_ ?_ | (intro hc;try subst hc)))<;>(try clear hK K))
   | (refine zJ (b:=_) (by with_unfolding_all rfl) (fun hc=>?_) (fun hc=>?_)<;>simp at hc<;>(try subst hc)))
  all_goals first|(simp;done)|(simp at *;omega)|((try simp);refine Imp.auto (by kernel_rfl) ?_ ?_<;>simp[NLe])
 ·cases h
def d32:List AV→Option Ans
 | [.int .i64 sh]=>some ⟨.op 0 [.int .i64 sh,.int .i64 0,.int .i64 0,.int .u64 0,.int .i64 0,.bool false,.int .i64 0,.int .i64 0,.int .i64 0,.int .i64 0,.int .i64 0,.int .i64 0,.int .i64 0,.int .i64 0,.bool false,.int .i64 0],[]⟩
 | _=>none
theorem ok32:NOk [] d32:=by
 intro xs a h
 unfold d32 at h
 (repeat' (split at h))<;>first|(cases h;done)|(injection h with h;subst h;refine ⟨Ends_of ?_,?_⟩<;>simp)
theorem s32:Sound Try.prog 32 (nestS [] d32 ok32):=by
 refine nest_sound Try.func32 nm32 rc32 rv32 ok32 (fun xs a h=>?_) fun xs a h w0 S hS=>?_
 ·unfold d32 at h
  (repeat' (split at h))<;>first|(cases h;done)|exact Nat.le_of_ble_eq_true rfl
 unfold d32 at h
 split at h
 ·rename_i sh
  injection h with h
  subst h
  have hE:SoundAll Try.prog (EL []):=EL_sound (by simp)
  unfold m32
  repeat' with_reducible (first
   | refine ZR.h ?_ | refine zI (by decide) ?_
   | (refine zK hE ?_;intro K hK;simp[KR.ks,q32_0,q32_1];(repeat' (first | refine hK _ _ ?_ | refine And.intro ?_ ?_ | (intro hc;try subst hc)))<;>(try clear hK K))
   | (refine zJ (b:=_) (by with_unfolding_all rfl) (fun hc=>?_) (fun hc=>?_)<;>simp at hc<;>(try subst hc)))
  all_goals first|(simp;done)|(simp at *;omega)|((try simp);refine Imp.auto (by kernel_rfl) ?_ ?_<;>simp[NLe])
 ·cases h
def d39:List AV→Option Ans
 | [.agg [.int .i64 a,.int .i64 b,.int .i64 c,.int .i64 d,.int .i64 e,.int .i64 f,.int .i64 g]]=>if cfgB a b c d e f g=true then some ⟨.int .i64 (4*(a*b)),[]⟩ else none
 | _=>none
theorem ok39:NOk [] d39:=by
 intro xs a h
 unfold d39 at h
 (repeat' (split at h))<;>first|(cases h;done)|(injection h with h;subst h;refine ⟨Ends_of ?_,?_⟩<;>simp)
theorem s39:Sound Try.prog 39 (nestS [] d39 ok39):=by
 refine nest_sound Try.func39 nm39 rc39 rv39 ok39 (fun xs a h=>?_) fun xs a h w0 S hS=>?_
 ·unfold d39 at h
  (repeat' (split at h))<;>first|(cases h;done)|exact Nat.le_of_ble_eq_true rfl
 unfold d39 at h
 split at h
 ·split at h
  ·rename_i a b c d e f g hcond
   injection h with h
   subst h
   have hE:SoundAll Try.prog (EL [(59,rdS d59 ok59)]):=EL_sound (by simp only[List.mem_cons,List.not_mem_nil,or_false,forall_eq_or_imp,forall_eq];exact s59)
   have hall:=cfg_all hcond
   have w1:IntKind.wrap .i64 (4*(a*b))=4*(a*b):=wrap_in (by omega) (by omega)
   unfold m39
   repeat' with_reducible (first
    | refine ZR.h ?_ | refine zI (by decide) ?_
    | (refine zK hE ?_;intro K hK;simp[KR.ks,q39_0,q39_1,hcond,w1,d59];(repeat' (first | refine hK _ _ ?_ | refine And.intro ?_ ?_ | (intro hc;try subst hc)))<;>(try clear hK K))
    | (refine zJ (b:=_) (by with_unfolding_all rfl) (fun hc=>?_) (fun hc=>?_)<;>simp at hc<;>(try subst hc)))
   all_goals first|(simp;done)|(simp at *;omega)|((try simp);refine Imp.auto (by kernel_rfl) ?_ ?_<;>simp[NLe])
  ·cases h
 ·cases h
def d40:List AV→Option Ans
 | [.agg [.int .i64 a,.int .i64 b,.int .i64 c,.int .i64 d,.int .i64 e,.int .i64 f,.int .i64 g]]=>if cfgB a b c d e f g=true then some ⟨.int .i64 (14*(a*b)*(a*b)),[]⟩ else none
 | _=>none
theorem ok40:NOk [] d40:=by
 intro xs a h
 unfold d40 at h
 (repeat' (split at h))<;>first|(cases h;done)|(injection h with h;subst h;refine ⟨Ends_of ?_,?_⟩<;>simp)
theorem s40:Sound Try.prog 40 (nestS [] d40 ok40):=by
 refine nest_sound Try.func40 nm40 rc40 rv40 ok40 (fun xs a h=>?_) fun xs a h w0 S hS=>?_
 ·unfold d40 at h
  (repeat' (split at h))<;>first|(cases h;done)|exact Nat.le_of_ble_eq_true rfl
 unfold d40 at h
 split at h
 ·split at h
  ·rename_i a b c d e f g hcond
   injection h with h
   subst h
   have hE:SoundAll Try.prog (EL [(59,rdS d59 ok59)]):=EL_sound (by simp only[List.mem_cons,List.not_mem_nil,or_false,forall_eq_or_imp,forall_eq];exact s59)
   have hall:=cfg_all hcond
   have hm:=mul_in (show 0≤14*(a*b) by omega) (show 14*(a*b)≤400 by omega) (show 0≤a*b by omega) (show a*b≤24 by omega)
   have w1:IntKind.wrap .i64 (14*(a*b))=14*(a*b):=wrap_in (by omega) (by omega)
   have w2:IntKind.wrap .i64 (14*(a*b)*(a*b))=14*(a*b)*(a*b):=wrap_in (by omega) (by omega)
   unfold m40
   repeat' with_reducible (first
    | refine ZR.h ?_ | refine zI (by decide) ?_
    | ((first | refine zK hE ?_ | refine zL hE mixT ?_);intro K hK;simp[KR.ks,KD.ks,KD.cl,q40_0,q40_1,hcond,w1,w2,d59];(repeat' (first | refine hK _ _ ?_ | refine And.intro ?_ ?_ | (intro hc;try subst hc)))<;>(try clear hK K))
    | (refine zJ (b:=_) (by with_unfolding_all rfl) (fun hc=>?_) (fun hc=>?_)<;>simp at hc<;>(try subst hc)))
   all_goals first|(simp;done)|(simp at *;omega)|((try simp);refine Imp.auto (by kernel_rfl) ?_ ?_<;>simp[NLe])
  ·cases h
 ·cases h
end Go.W

namespace Go.W
open Go.Proofs
set_option linter.unusedSimpArgs false
set_option linter.unusedVariables false
set_option maxHeartbeats 8000000
attribute [local irreducible] Wm
attribute [local simp] nmap lkp mkPl prs prsL prT ddL idL CRenL CRen Ren RenL NObj.none CRenLL
def d33:List AV→Option Ans
 | [.op _ [.int .i64 sh,.int .i64 ix,.int .i64 ps,.op _ tc]]=>(match tzOf tc with
  | some T=>some ⟨.bool (decide (ix=0)&&decide (14≤T.pc)),[.free]⟩
  | none=>none)
 | _=>none
theorem ok33:NOk [(4,false)] d33:=by
 intro xs aa h
 unfold d33 at h
 split at h
 ·rename_i u sh ix ps v tc
  split at h
  ·rename_i T hT
   obtain rfl:=tzOf_ex hT
   injection h with h;subst h
   refine ⟨Ends_of ?_,?_⟩<;>simp[tzC]
  ·cases h
 ·cases h
theorem s33:Sound Try.prog 33 (nestS [(4,false)] d33 ok33):=by
 refine nest_sound Try.func33 nm33 rc33 rv33 ok33 (fun xs a h=>?_) fun xs a h w0 S hS=>?_
 ·unfold d33 at h
  (repeat' (split at h))<;>first|(cases h;done)|exact Nat.le_of_ble_eq_true rfl
 unfold d33 at h
 split at h
 ·rename_i u sh ix ps v tc
  split at h
  ·rename_i T hT
   obtain rfl:=tzOf_ex hT
   injection h with h
   subst h
   have hE:SoundAll Try.prog (EL [(13,nestS [(35,false)] d13 ok13)]):=EL_sound (by simp only[List.mem_cons,List.not_mem_nil,or_false,forall_eq_or_imp,forall_eq];exact s13)
   have h13:=e13 T
   by_cases h1:ix=0
   ·subst h1
    simp only[tzC]at h13 hS⊢
    unfold m33
    repeat' with_reducible (first
     | refine ZR.h ?_ | refine zI (by decide) ?_
     | (refine zK hE ?_;intro K hK;simp[KR.ks,q33_0,q33_1,h13];(repeat' (first | refine hK _ _ ?_ | refine And.intro ?_ ?_ | (intro hc;try subst hc)))<;>(try clear hK K))
     | (refine zJ (b:=_) (by with_unfolding_all rfl) (fun hc=>?_) (fun hc=>?_)<;>simp at hc<;>(try subst hc)))
    all_goals first|(simp;done)|(simp at *;omega)|((try simp);refine Imp.auto (by kernel_rfl) ?_ ?_<;>simp[NLe])
   ·simp only[tzC]at h13 hS⊢
    unfold m33
    repeat' with_reducible (first
     | refine ZR.h ?_ | refine zI (by decide) ?_
     | (refine zK hE ?_;intro K hK;simp[KR.ks,q33_0,q33_1,h13,h1];(repeat' (first | refine hK _ _ ?_ | refine And.intro ?_ ?_ | (intro hc;try subst hc)))<;>(try clear hK K))
     | (refine zJ (b:=_) (by with_unfolding_all rfl) (fun hc=>?_) (fun hc=>?_)<;>simp at hc<;>(try subst hc)))
    all_goals first|(simp;done)|(simp at *;omega)|((try simp[h1]);refine Imp.auto (by kernel_rfl) ?_ ?_<;>simp[NLe,h1])
  ·cases h
 ·cases h
def d35:List AV→Option Ans
 | [.op _ [.int .i64 sh,.int .i64 ix,.int .i64 ps,.op _ tc]]=>(match tzOf tc with
  | some T=>some ⟨.int .i64 ps,[.free]⟩
  | none=>none)
 | _=>none
theorem ok35:NOk [(4,false)] d35:=by
 intro xs aa h
 unfold d35 at h
 split at h
 ·rename_i u sh ix ps v tc
  split at h
  ·rename_i T hT
   obtain rfl:=tzOf_ex hT
   injection h with h;subst h
   refine ⟨Ends_of ?_,?_⟩<;>simp[tzC]
  ·cases h
 ·cases h
theorem s35:Sound Try.prog 35 (nestS [(4,false)] d35 ok35):=by
 refine nest_sound Try.func35 nm35 rc35 rv35 ok35 (fun xs a h=>?_) fun xs a h w0 S hS=>?_
 ·unfold d35 at h
  (repeat' (split at h))<;>first|(cases h;done)|exact Nat.le_of_ble_eq_true rfl
 unfold d35 at h
 split at h
 ·rename_i u sh ix ps v tc
  split at h
  ·rename_i T hT
   obtain rfl:=tzOf_ex hT
   injection h with h
   subst h
   have hE:SoundAll Try.prog (EL []):=EL_sound (by simp)
   simp only[tzC]at hS⊢
   unfold m35
   repeat' with_reducible (first
    | refine ZR.h ?_ | refine zI (by decide) ?_
    | (refine zK hE ?_;intro K hK;simp[KR.ks,q35_0,q35_1,q35_2,q35_3];(repeat' (first | refine hK _ _ ?_ | refine And.intro ?_ ?_ | (intro hc;try subst hc)))<;>(try clear hK K))
    | (refine zJ (b:=_) (by with_unfolding_all rfl) (fun hc=>?_) (fun hc=>?_)<;>simp at hc<;>(try subst hc)))
   all_goals first|(simp;done)|(simp at *;omega)|((try simp);refine Imp.auto (by kernel_rfl) ?_ ?_<;>simp[NLe])
  ·cases h
 ·cases h
end Go.W

namespace Go.W
open Go.Proofs
set_option linter.unusedSimpArgs false
set_option linter.unusedVariables false
set_option maxHeartbeats 8000000
attribute [local irreducible] Wm
attribute [local simp] nmap lkp mkPl prs prsL prT ddL idL CRenL CRen Ren RenL NObj.none CRenLL
def ELs:List (FuncId×Spec):=[(59,rdS d59 ok59),(13,doneS),(11,nestS [] d11 ok11),(12,nestS [(35,true),(10,true)] d12 ok12)]
theorem ELs_ok:SoundAll Try.prog (EL ELs):=EL_sound (by
 simp only[ELs,List.mem_cons,List.not_mem_nil,or_false,forall_eq_or_imp,forall_eq]
 exact ⟨s59,doneS_ok,s11,s12⟩)
def d29:List AV→Option Ans
 | [.op _ sc,.op _ wc]=>(match swOf sc,wzOf wc with
  | some s,some W=>if okSw s=true∧okW W=true∧smW W=true then some (⟨.tup [],[.cells 0 (swL (swStep W s).1 0),.cells 0 (wzC (swStep W s).2)]⟩) else none
  | _,_=>none)
 | _=>none
theorem ok29:NOk [(4,true),(10,true)] d29:=by
 intro xs aa h
 unfold d29 at h
 split at h
 ·rename_i t1 sc t2 wc
  split at h
  ·rename_i s W hSc hWc
   split at h
   ·rename_i hc
    obtain ⟨u1,u2,u3,u4,rfl⟩:=wzOf_ex hWc
    obtain ⟨u,rfl⟩:=swOf_ex hSc
    injection h with h;subst h
    obtain ⟨i,q,hst⟩:=sw_p W s
    rw[hst]
    have hW:=hc.2.1
    obtain ⟨hcf,hw,hwl,hs0,ht0,ht1,hlg⟩:=okW_ex (hW)
    have hT:=w_t0 hw
    have hC:=w_cl hw
    have hTl:=l_t0 hlg
    have hCl:=l_cl hlg
    have hW2:=StepT_ok hW (swT W s)
    obtain ⟨hcf2,hw2,hwl2,hs02,ht02,ht12,hlg2⟩:=okW_ex (hW2)
    have hT2:=w_t0 hw2
    have hC2:=w_cl hw2
    have hTl2:=l_t0 hlg2
    have hCl2:=l_cl hlg2
    obtain ⟨sh,ix,ps,p⟩:=s
    cases p<;>(refine ⟨Ends_of ?_,?_⟩<;>simp[swL,pC,tzC,wzL,wzC,hT,hC,hTl,hCl,hT2,hC2,hTl2,hCl2])
   ·cases h
  ·cases h
 ·cases h
def E29 (sh ix ps:Int) (T:TZ) (W:WZ):St:=⟨[(0,.tup [])],[(0,.cells 0 [.int .i64 sh,.int .i64 ix,.int .i64 ps,.ptr (.top 2) 0 0]),(1,.cells 0 (wzC W)),(2,.cells 0 (tzC T))],3⟩
theorem s29:Sound Try.prog 29 (nestS [(4,true),(10,true)] d29 ok29):=by
 refine nest_sound Try.func29 nm29 rc29 rv29 ok29 (fun xs a h=>?_) fun xs a h w0 S hS=>?_
 ·unfold d29 at h
  (repeat' (split at h))<;>first|(cases h;done)|exact Nat.le_of_ble_eq_true rfl
 unfold d29 at h
 split at h
 ·rename_i t1 sc t2 wc
  split at h
  ·rename_i s W hSc hWc
   split at h
   ·rename_i hcond
    obtain ⟨u1,u2,u3,u4,rfl⟩:=wzOf_ex hWc
    obtain ⟨u,rfl⟩:=swOf_ex hSc
    injection h with h
    subst h
    clear hSc hWc
    have hE:=ELs_ok
    obtain ⟨hok,hW,hsm⟩:=hcond
    obtain ⟨hcf,hw,hwl,hs0,ht0,ht1,hlg⟩:=okW_ex (hW)
    have hT:=w_t0 hw
    have hC:=w_cl hw
    have hTl:=l_t0 hlg
    have hCl:=l_cl hlg
    have hcx:=cfg_ex hcf
    have hall:=cfg_all hcf
    have h59:d59 [.agg [.int .i64 W.a,.int .i64 W.b,.int .i64 W.c,.int .i64 W.d,.int .i64 W.e,.int .i64 W.f,.int .i64 W.g]] []=some (.int .i64 (W.a*W.b)):=by simp only[d59];rw[if_pos hcf]
    obtain ⟨sh,ix,ps,p⟩:=s
    obtain ⟨nn,hnn⟩:∃ z,W.a*W.b=z:=⟨_,rfl⟩
    simp only[okSw,Bool.and_eq_true,decide_eq_true_eq]at hok
    obtain ⟨⟨hx0,hx1,hp0,hp1⟩,hokp⟩:=hok
    rw[hnn]at h59 hall
    have hn0:¬ nn=0:=by omega
    have tq:IntKind.wrap .i64 (ix.tdiv nn)=ix / nn:=tdiv_in (by omega) (by omega) (by omega)
    have tr:ix.tmod nn=ix % nn:=Int.tmod_eq_emod_of_nonneg hx0
    have trr:=Int.emod_nonneg ix hn0
    have tr2:=Int.emod_lt_of_pos ix (show 0<nn by omega)
    have tw:IntKind.wrap .i64 (ix % nn)=ix % nn:=wrap_in (by omega) (by omega)
    cases p with
    | none =>
     have hTT:swT W ⟨sh,ix,ps,none⟩=tz0 3 (ix / nn) 0 (ix % nn) sh:=by rw[← hnn];rfl
     have hst0:swStep W ⟨sh,ix,ps,none⟩=(⟨sh,ix,ps,some (StepT W (tz0 3 (ix / nn) 0 (ix % nn) sh)).1⟩,(StepT W (tz0 3 (ix / nn) 0 (ix % nn) sh)).2):=by
      unfold swStep
      rw[hTT,if_neg (by rw[StepT_pc];simp[tz0])]
     rw[hst0]
     have h11:d11 [.agg [.int .i64 3,.int .i64 (ix / nn),.int .i64 0,.int .i64 (ix % nn),.int .i64 sh]]=some ⟨.op 0 (tzC (tz0 3 (ix / nn) 0 (ix % nn) sh)),[]⟩:=rfl
     have hk0:=tz0_oks 3 (ix / nn) 0 (ix % nn) sh
     have hpc:(StepT W (tz0 3 (ix / nn) 0 (ix % nn) sh)).1.pc=1:=by rw[StepT_pc];simp[tz0]
     have hW2:=StepT_ok hW (tz0 3 (ix / nn) 0 (ix % nn) sh)
     obtain ⟨T0,hT0⟩:∃ z,tz0 3 (ix / nn) 0 (ix % nn) sh=z:=⟨_,rfl⟩
     rw[hT0]at h11 hk0 hpc hW2⊢
     have hst:=e12 hk0 hW hsm
     obtain ⟨r,hr⟩:∃ r,StepT W T0=r:=⟨_,rfl⟩
     rw[hr]at hst hpc hW2⊢
     have h13:=e13 r.1
     rw[decide_eq_false (by omega)]at h13
     obtain ⟨hcf2,hw2,hwl2,hs02,ht02,ht12,hlg2⟩:=okW_ex (hW2)
     have hT2:=w_t0 hw2
     have hC2:=w_cl hw2
     have hTl2:=l_t0 hlg2
     have hCl2:=l_cl hlg2
     simp only[swL,pC,tzC,wzL,wzC]at hst h11 h13 hS⊢
     unfold m29
     repeat' with_reducible (first
      | refine ZR.h ?_ | refine zI (by decide) ?_
      | ((first | refine zK hE ?_ | refine zL hE mixT ?_);intro K hK;simp[KR.ks,KD.ks,KD.cl,q29_0,q29_1,q29_2,q29_3,q29_4,q29_5,q29_6,q29_7,q29_8,q29_9,hT,hC,hTl,hCl,hT2,hC2,hTl2,hCl2,h59,hn0,tq,tr,tw,h11,hst,h13,ELs,doneS,ifS_fn,nil1,d13n];(repeat' (first | refine hK _ _ ?_ | refine And.intro ?_ ?_ | (intro hc;try subst hc)))<;>(try clear hK K))
      | (refine zJ (b:=_) (by with_unfolding_all rfl) (fun hc=>?_) (fun hc=>?_)<;>simp at hc<;>(try subst hc)))
     all_goals (try simp[hT,hC,hTl,hCl,hT2,hC2,hTl2,hCl2])
     all_goals (refine Imp.trans (t:=E29 sh ix ps r.1 r.2) (Imp.autoX [(2,some 282)] (by kernel_rfl) ?_ ?_) ?_)
     all_goals first|(simp[E29,NLe,mkPlX,tzC,wzC,hT,hC,hTl,hCl,hT2,hC2,hTl2,hCl2];done)|skip
     all_goals (refine Imp.trans (Imp.absorb (.top 0) 0 3 2 (by rfl) (by rfl) (by rfl) (.inr ⟨0,_,by rfl,by rfl⟩) (by simp)) ?_)
     all_goals (simp only[E29];refine Imp.auto (by kernel_rfl) ?_ ?_<;>simp[NLe,mkPlX,tzC,wzC,hT,hC,hTl,hCl,hT2,hC2,hTl2,hCl2,absorbG,newcell])
    | some T =>
     replace hokp:okT T=true:=hokp
     have h13a:=e13 T
     by_cases h14:14≤T.pc
     ·rw[decide_eq_true h14]at h13a
      have hTT:swT W ⟨sh,ix,ps,some T⟩=tz0 3 (ix / nn) 0 (ix % nn) sh:=by rw[← hnn];simp only[swT];rw[if_pos h14]
      have hst0:swStep W ⟨sh,ix,ps,some T⟩=(⟨sh,ix,ps,some (StepT W (tz0 3 (ix / nn) 0 (ix % nn) sh)).1⟩,(StepT W (tz0 3 (ix / nn) 0 (ix % nn) sh)).2):=by
       unfold swStep
       rw[hTT,if_neg (by rw[StepT_pc];simp[tz0])]
      rw[hst0]
      have h11:d11 [.agg [.int .i64 3,.int .i64 (ix / nn),.int .i64 0,.int .i64 (ix % nn),.int .i64 sh]]=some ⟨.op 0 (tzC (tz0 3 (ix / nn) 0 (ix % nn) sh)),[]⟩:=rfl
      have hk0:=tz0_oks 3 (ix / nn) 0 (ix % nn) sh
      have hpc:(StepT W (tz0 3 (ix / nn) 0 (ix % nn) sh)).1.pc=1:=by rw[StepT_pc];simp[tz0]
      have hW2:=StepT_ok hW (tz0 3 (ix / nn) 0 (ix % nn) sh)
      obtain ⟨T0,hT0⟩:∃ z,tz0 3 (ix / nn) 0 (ix % nn) sh=z:=⟨_,rfl⟩
      rw[hT0]at h11 hk0 hpc hW2⊢
      have hst:=e12 hk0 hW hsm
      obtain ⟨r,hr⟩:∃ r,StepT W T0=r:=⟨_,rfl⟩
      rw[hr]at hst hpc hW2⊢
      have h13:=e13 r.1
      rw[decide_eq_false (by omega)]at h13
      obtain ⟨hcf2,hw2,hwl2,hs02,ht02,ht12,hlg2⟩:=okW_ex (hW2)
      have hT2:=w_t0 hw2
      have hC2:=w_cl hw2
      have hTl2:=l_t0 hlg2
      have hCl2:=l_cl hlg2
      simp only[swL,pC,tzC,wzL,wzC]at hst h11 h13 h13a hS⊢
      unfold m29
      repeat' with_reducible (first
       | refine ZR.h ?_ | refine zI (by decide) ?_
       | ((first | refine zK hE ?_ | refine zL hE mixT ?_);intro K hK;simp[KR.ks,KD.ks,KD.cl,q29_0,q29_1,q29_2,q29_3,q29_4,q29_5,q29_6,q29_7,q29_8,q29_9,hT,hC,hTl,hCl,hT2,hC2,hTl2,hCl2,h59,hn0,tq,tr,tw,h11,hst,h13,h13a,ELs,doneS,ifS_fn,nil1];(repeat' (first | refine hK _ _ ?_ | refine And.intro ?_ ?_ | (intro hc;try subst hc)))<;>(try clear hK K))
       | (refine zJ (b:=_) (by with_unfolding_all rfl) (fun hc=>?_) (fun hc=>?_)<;>simp at hc<;>(try subst hc)))
      all_goals (try simp[hT,hC,hTl,hCl,hT2,hC2,hTl2,hCl2])
      all_goals (refine Imp.trans (t:=E29 sh ix ps r.1 r.2) (Imp.autoX [(2,some 282)] (by kernel_rfl) ?_ ?_) ?_)
      all_goals first|(simp[E29,NLe,mkPlX,tzC,wzC,hT,hC,hTl,hCl,hT2,hC2,hTl2,hCl2];done)|skip
      all_goals (refine Imp.trans (Imp.absorb (.top 0) 0 3 2 (by rfl) (by rfl) (by rfl) (.inr ⟨0,_,by rfl,by rfl⟩) (by simp)) ?_)
      all_goals (simp only[E29];refine Imp.auto (by kernel_rfl) ?_ ?_<;>simp[NLe,mkPlX,tzC,wzC,hT,hC,hTl,hCl,hT2,hC2,hTl2,hCl2,absorbG,newcell])
     ·rw[decide_eq_false h14]at h13a
      have hTT:swT W ⟨sh,ix,ps,some T⟩=T:=by simp only[swT];rw[if_neg h14]
      have hst:=e12 hokp hW hsm
      have hW2:=StepT_ok hW T
      have h13:=e13 (StepT W T).1
      have hsw:swStep W ⟨sh,ix,ps,some T⟩=if 14≤(StepT W T).1.pc then (if ix+1=nn*nn then (⟨sh,0,ps+1,some (StepT W T).1⟩,(StepT W T).2) else (⟨sh,ix+1,ps,some (StepT W T).1⟩,(StepT W T).2)) else (⟨sh,ix,ps,some (StepT W T).1⟩,(StepT W T).2):=by
       unfold swStep;rw[hTT,hnn]
      rw[hsw]
      obtain ⟨r,hr⟩:∃ r,StepT W T=r:=⟨_,rfl⟩
      rw[hr]at hst hW2 h13⊢
      obtain ⟨hcf2,hw2,hwl2,hs02,ht02,ht12,hlg2⟩:=okW_ex (hW2)
      have hT2:=w_t0 hw2
      have hC2:=w_cl hw2
      have hTl2:=l_t0 hlg2
      have hCl2:=l_cl hlg2
      have hmm:=mul_in (show 0≤nn by omega) (show nn≤24 by omega) (show 0≤nn by omega) (show nn≤24 by omega)
      have w1:IntKind.wrap .i64 (ix+1)=ix+1:=wrap_in (by omega) (by omega)
      have w2:IntKind.wrap .i64 (nn*nn)=nn*nn:=wrap_in (by omega) (by omega)
      have w3:IntKind.wrap .i64 (ps+1)=ps+1:=wrap_in (by omega) (by omega)
      by_cases hd:14≤r.1.pc
      ·rw[decide_eq_true hd]at h13
       rw[if_pos hd]
       by_cases hl:ix+1=nn*nn
       ·rw[if_pos hl]
        simp only[swL,pC,tzC,wzL,wzC]at hst h13 h13a hS⊢
        unfold m29
        repeat' with_reducible (first
         | refine ZR.h ?_ | refine zI (by decide) ?_
         | ((first | refine zK hE ?_ | refine zL hE mixT ?_);intro K hK;simp[KR.ks,KD.ks,KD.cl,q29_0,q29_1,q29_2,q29_3,q29_4,q29_5,q29_6,q29_7,q29_8,q29_9,hT,hC,hTl,hCl,hT2,hC2,hTl2,hCl2,h59,hst,h13,h13a,w1,w2,w3,hl,ELs,doneS,ifS_fn,nil1];(repeat' (first | refine hK _ _ ?_ | refine And.intro ?_ ?_ | (intro hc;try subst hc)))<;>(try clear hK K))
         | (refine zJ (b:=_) (by with_unfolding_all rfl) (fun hc=>?_) (fun hc=>?_)<;>simp at hc<;>(try subst hc)))
        all_goals first|(simp;done)|(simp at *;omega)|((try simp[hT,hC,hTl,hCl,hT2,hC2,hTl2,hCl2]);refine Imp.auto (by kernel_rfl) ?_ ?_<;>simp[NLe,mkPlX,hT,hC,hTl,hCl,hT2,hC2,hTl2,hCl2])
       ·rw[if_neg hl]
        simp only[swL,pC,tzC,wzL,wzC]at hst h13 h13a hS⊢
        unfold m29
        repeat' with_reducible (first
         | refine ZR.h ?_ | refine zI (by decide) ?_
         | ((first | refine zK hE ?_ | refine zL hE mixT ?_);intro K hK;simp[KR.ks,KD.ks,KD.cl,q29_0,q29_1,q29_2,q29_3,q29_4,q29_5,q29_6,q29_7,q29_8,q29_9,hT,hC,hTl,hCl,hT2,hC2,hTl2,hCl2,h59,hst,h13,h13a,w1,w2,w3,hl,ELs,doneS,ifS_fn,nil1];(repeat' (first | refine hK _ _ ?_ | refine And.intro ?_ ?_ | (intro hc;try subst hc)))<;>(try clear hK K))
         | (refine zJ (b:=_) (by with_unfolding_all rfl) (fun hc=>?_) (fun hc=>?_)<;>simp at hc<;>(try subst hc)))
        all_goals first|(simp;done)|(simp at *;omega)|((try simp[hT,hC,hTl,hCl,hT2,hC2,hTl2,hCl2]);refine Imp.auto (by kernel_rfl) ?_ ?_<;>simp[NLe,mkPlX,hT,hC,hTl,hCl,hT2,hC2,hTl2,hCl2])
      ·rw[decide_eq_false hd]at h13
       rw[if_neg hd]
       simp only[swL,pC,tzC,wzL,wzC]at hst h13 h13a hS⊢
       unfold m29
       repeat' with_reducible (first
        | refine ZR.h ?_ | refine zI (by decide) ?_
        | ((first | refine zK hE ?_ | refine zL hE mixT ?_);intro K hK;simp[KR.ks,KD.ks,KD.cl,q29_0,q29_1,q29_2,q29_3,q29_4,q29_5,q29_6,q29_7,q29_8,q29_9,hT,hC,hTl,hCl,hT2,hC2,hTl2,hCl2,h59,hst,h13,h13a,ELs,doneS,ifS_fn,nil1];(repeat' (first | refine hK _ _ ?_ | refine And.intro ?_ ?_ | (intro hc;try subst hc)))<;>(try clear hK K))
        | (refine zJ (b:=_) (by with_unfolding_all rfl) (fun hc=>?_) (fun hc=>?_)<;>simp at hc<;>(try subst hc)))
       all_goals first|(simp;done)|(simp at *;omega)|((try simp[hT,hC,hTl,hCl,hT2,hC2,hTl2,hCl2]);refine Imp.auto (by kernel_rfl) ?_ ?_<;>simp[NLe,mkPlX,hT,hC,hTl,hCl,hT2,hC2,hTl2,hCl2])
   ·cases h
  ·cases h
 ·cases h
theorem e29 {W:WZ} {s:SwZ} (hs:okSw s=true) (hW:okW W=true) (hm:smW W=true) (u u' v u1 u2 u3 u4:Nat):d29 [.op u (swL s u'),.op v (wzL W u1 u2 u3 u4)]=some ⟨.tup [],[.cells 0 (swL (swStep W s).1 0),.cells 0 (wzC (swStep W s).2)]⟩:=by
 simp only[d29,swOf_C,wzOf_C]
 rw[if_pos ⟨hs,hW,hm⟩]
end Go.W

namespace Go.W
open Go.Proofs
set_option linter.unusedSimpArgs false
set_option linter.unusedVariables false
set_option maxHeartbeats 8000000
def stW (W:WZ) (i:Int):StZ:=stateZ (sAt W i)
def tmW (W:WZ) (i:Int):TmZ:=termsZ (tAt W i)
def Inv (B W:WZ):Prop:=okW W=true∧parX W=parX B∧∀ i:Int,0≤i→i<B.a*B.b→tmW W i=tmW B i∧heldZ (stW W i).k=false∧((stW W i).k=2→goodZ B.f B.g (stW W i))
def Sh (s s':StZ):Prop:=(s'.k=2→s.k=2∧s'.l≤s.l)∧(s'.k=1→s.k=1)
def Rel (B W W':WZ):Prop:=∀ i:Int,0≤i→i<B.a*B.b→Sh (stW W i) (stW W' i)
theorem Sh_refl (s:StZ):Sh s s:=⟨fun h=>⟨h,Int.le_refl _⟩,id⟩
theorem Sh_trans {a b c:StZ} (h:Sh a b) (k:Sh b c):Sh a c:=⟨fun e=>⟨(h.1 (k.1 e).1).1,Int.le_trans (k.1 e).2 (h.1 (k.1 e).1).2⟩,fun e=>h.2 (k.2 e)⟩
theorem Rel_refl (B W:WZ):Rel B W W:=fun i _ _=>Sh_refl _
theorem Rel_trans {B W V X:WZ} (h:Rel B W V) (k:Rel B V X):Rel B W X:=fun i a b=>Sh_trans (h i a b) (k i a b)
def NM (B W:WZ) (sh x y:Int):Prop:=wantZ B.c B.d sh (stW W x) (tmW B x)=true→(stW W y).k=2→(matchZ (tmW B x) (tmW B y) (stW W x).l (stW W y).l).1=0
theorem NM_rel {B W V:WZ} {sh x y:Int} (hx0:0≤x) (hx:x<B.a*B.b) (hy0:0≤y) (hy:y<B.a*B.b) (h:NM B W sh x y) (r:Rel B W V):NM B V sh x y:=fun hw hk=>by
 have rx:=r x hx0 hx
 have ry:=r y hy0 hy
 have hw':=of_decide_eq_true hw
 obtain ⟨k1,l1⟩:=rx.1 hw'.1
 obtain ⟨k2,l2⟩:=ry.1 hk
 have h0:=h (decide_eq_true ⟨k1,hw'.2⟩) k2
 by_cases e:(matchZ (tmW B x) (tmW B y) (stW V x).l (stW V y).l).1=0
 ·exact e
 ·exact absurd h0 (match_mono l1 l2 e)
theorem ended_sh {s:StZ} {F q:Int} (hk:s.k=2) (hq:1≤q):Sh s (endedS { s with l:=s.l - q,f:=s.f+1 } F):=by
 unfold endedS
 simp only
 repeat' split
 ·exact ⟨fun h=>absurd h (by simp),fun h=>absurd h (by simp)⟩
 ·exact ⟨fun h=>absurd h (by simp),fun h=>absurd h (by simp)⟩
 ·exact ⟨fun h=>⟨hk,by simp only;omega⟩,fun h=>absurd h (by simp only;omega)⟩
theorem ended_good {s:StZ} {F G q:Int} (h:goodZ F G s) (hq:1≤q) (hl:q≤s.l):(endedS { s with l:=s.l - q,f:=s.f+1 } F).k=2→goodZ F G (endedS { s with l:=s.l - q,f:=s.f+1 } F):=by
 obtain ⟨h1,h2,h3,h4,h5,h6,h7,h8⟩:=h
 unfold endedS
 simp only
 repeat' split
 ·exact fun h=>absurd h (by simp)
 ·exact fun h=>absurd h (by simp)
 ·exact fun _=>⟨h1,h2,h3,h4,by simp only;omega,by simp only;omega,by simp only;omega,by simp only;omega⟩
theorem ended_zero {s:StZ} {F q:Int} (h:s.l - q=0):(endedS { s with l:=s.l - q,f:=s.f+1 } F).k=5:=by
 unfold endedS
 simp only
 rw[if_pos h]
theorem try_law {B W:WZ} (h:Inv B W) (x y sh:Int):Inv B (runT W (tz0 3 x 0 y sh) 14).2∧Rel B W (runT W (tz0 3 x 0 y sh) 14).2∧(idl B.a B.b x y=false→NM B (runT W (tz0 3 x 0 y sh) 14).2 sh x y):=by
 obtain ⟨hW,hp,hc⟩:=h
 obtain ⟨pa,pb,pc,pd,pf,pg,pt⟩:=parX_ab hp
 by_cases hi:idl W.a W.b x y=true
 ·rw[idle_run (T:=tz0 3 x 0 y sh) hi 14]
  exact ⟨⟨hW,hp,hc⟩,Rel_refl _ _,fun e=>by rw[← pa,← pb,hi]at e;cases e⟩
 have hi':idl W.a W.b x y=false:=by simpa using hi
 obtain ⟨hx0,hx,hy0,hy,_⟩:=idle_in (T:=tz0 3 x 0 y sh) hW hi'
 replace hx0:0≤x:=hx0
 replace hx:x<W.a*W.b:=hx
 replace hy0:0≤y:=hy0
 replace hy:y<W.a*W.b:=hy
 have hne:=idl_ne hx0 hx hi'
 have okr:=run_okW hW (tz0 3 x 0 y sh) 14
 have par:=(run_parx W (tz0 3 x 0 y sh) 14).trans hp
 have hcx:=hc x hx0 (by rw[← pa,← pb];exact hx)
 have hcy:=hc y hy0 (by rw[← pa,← pb];exact hy)
 have gx:=hcx.2.2
 have gy:=hcy.2.2
 rw[← pf,← pg]at gx gy
 have fr:∀ i:Int,0≤i→i<W.a*W.b→tmW (runT W (tz0 3 x 0 y sh) 14).2 i=tmW W i∧(i≠x→i≠y→stW (runT W (tz0 3 x 0 y sh) 14).2 i=stW W i):=fun i i0 i1=>by
  have ex:(2*(tz0 3 x 0 y sh).x).toNat=(2*x).toNat:=rfl
  have ey:(2*(tz0 3 x 0 y sh).y).toNat=(2*y).toNat:=rfl
  refine ⟨?_,fun nx ny=>?_⟩
  ·unfold tmW tAt
   rw[run_frame hW (j:=(2*i+1).toNat) (by omega) (by rw[ex];omega) (by rw[ey];omega) 14]
  ·unfold stW sAt
   rw[run_frame hW (j:=(2*i).toNat) (by omega) (by rw[ex];omega) (by rw[ey];omega) 14]
 by_cases hq:(comeZ W.c W.d sh (stateZ (sAt W x)) (stateZ (sAt W y)) (termsZ (tAt W x)) (termsZ (tAt W y))).1=0
 ·obtain ⟨T',W',e1,e2,e3,e4,e5⟩:=alone_n hW hi' hx0 hx hy0 hy gx hq
  rw[e1]at okr par fr⊢
  simp only at okr par fr⊢
  have all:∀ i:Int,0≤i→i<W.a*W.b→stW W' i=stW W i:=fun i i0 i1=>by
   by_cases ix:i=x
   ·subst ix;exact e3
   ·by_cases iy:i=y
    ·subst iy;exact e4
    ·exact (fr i i0 i1).2 ix iy
  refine ⟨⟨okr,par,fun i i0 i1=>?_⟩,fun i i0 i1=>?_,fun _ hw hk=>?_⟩
  ·rw[← pa,← pb]at i1
   have hci:=hc i i0 (by rw[← pa,← pb];exact i1)
   rw[(fr i i0 i1).1,all i i0 i1];exact hci
  ·rw[← pa,← pb]at i1
   rw[all i i0 i1];exact Sh_refl _
  ·rw[all x hx0 hx]at hw⊢
   rw[all y hy0 hy]at hk⊢
   rw[← hcx.1,← hcy.1]
   rw[← pc,← pd,← hcx.1]at hw
   unfold comeZ at hq
   rw[if_pos ⟨hw,hk⟩]at hq
   exact hq
 ·obtain ⟨⟨q,p⟩,hm⟩:∃ z,comeZ W.c W.d sh (stateZ (sAt W x)) (stateZ (sAt W y)) (termsZ (tAt W x)) (termsZ (tAt W y))=z:=⟨_,rfl⟩
  rw[hm]at hq
  replace hq:q≠0:=hq
  obtain ⟨T',W',e1,e2,e3,e4,e5,e6,_⟩:=alone_e hW hi' hx0 hx hy0 hy gx gy hm hq
  have hcase:wantZ W.c W.d sh (stateZ (sAt W x)) (termsZ (tAt W x))=true∧(stateZ (sAt W y)).k=2:=by
   unfold comeZ at hm
   split at hm
   ·assumption
   ·simp only[Prod.mk.injEq]at hm
    exact absurd hm.1.symm hq
  unfold comeZ at hm
  rw[if_pos hcase]at hm
  have hkx:(stateZ (sAt W x)).k=2:=(of_decide_eq_true hcase.1).1
  have hky:=hcase.2
  have tpx:=getT_pr (tAt W x)
  have tpy:=getT_pr (tAt W y)
  obtain ⟨m1,m2,m3,_,_⟩:=match_facts hm hq tpx.1 tpx.2 tpy.1 tpy.2
  have hl:=match_least (a:=termsZ (tAt W x)) (b:=termsZ (tAt W y)) (l:=(stateZ (sAt W x)).l) (o:=(stateZ (sAt W y)).l) (by rw[hm];exact hq)
  rw[hm]at hl
  rw[e1]at okr par fr⊢
  simp only at okr par fr hl⊢
  have gX:=gx hkx
  have gY:=gy hky
  have exx:stW W' x=endedS { stW W x with l:=(stW W x).l - q,f:=(stW W x).f+1 } W.f:=e3
  have eyy:stW W' y=endedS { stW W y with l:=(stW W y).l - q,f:=(stW W y).f+1 } W.f:=e4
  refine ⟨⟨okr,par,fun i i0 i1=>?_⟩,fun i i0 i1=>?_,fun _ hw hk=>?_⟩
  ·rw[← pa,← pb]at i1
   have hci:=hc i i0 (by rw[← pa,← pb];exact i1)
   rw[(fr i i0 i1).1]
   refine ⟨hci.1,?_⟩
   by_cases ix:i=x
   ·subst ix
    rw[exx]
    refine ⟨by rw[← exx];exact e5,?_⟩
    rw[← pf,← pg]
    exact ended_good gX m1 m2
   ·by_cases iy:i=y
    ·subst iy
     rw[eyy]
     refine ⟨by rw[← eyy];exact e6,?_⟩
     rw[← pf,← pg]
     exact ended_good gY m1 m3
    ·rw[(fr i i0 i1).2 ix iy];exact hci.2
  ·rw[← pa,← pb]at i1
   by_cases ix:i=x
   ·subst ix;rw[exx];exact ended_sh hkx m1
   ·by_cases iy:i=y
    ·subst iy;rw[eyy];exact ended_sh hky m1
    ·rw[(fr i i0 i1).2 ix iy];exact Sh_refl _
  ·
   have hw2:=(of_decide_eq_true hw).1
   rcases hl with hl|hl
   ·have:(stW W' x).k=5:=by rw[exx];exact ended_zero (by show (stateZ (sAt W x)).l - q=0;omega)
    omega
   ·have:(stW W' y).k=5:=by rw[eyy];exact ended_zero (by show (stateZ (sAt W y)).l - q=0;omega)
    omega
def passW (sh n:Int) (W:WZ):Nat→WZ
 | 0=>W
 | m+1=>(runT (passW sh n W m) (tz0 3 ((m:Int) / n) 0 ((m:Int) % n) sh) 14).2
theorem pass_law {B W:WZ} (sh n:Int) (h:Inv B W) (hn:n=B.a*B.b):∀ m:Nat,(m:Int)≤n*n→Inv B (passW sh n W m)∧Rel B W (passW sh n W m)∧∀ j:Nat,j<m→idl B.a B.b ((j:Int) / n) ((j:Int) % n)=false→NM B (passW sh n W m) sh ((j:Int) / n) ((j:Int) % n)
 | 0,_=>⟨h,Rel_refl _ _,fun j hj=>absurd hj (Nat.not_lt_zero j)⟩
 | m+1,hm=>by
  obtain ⟨i1,i2,i3⟩:=pass_law sh n h hn m (by omega)
  obtain ⟨t1,t2,t3⟩:=try_law i1 ((m:Int) / n) ((m:Int) % n) sh
  refine ⟨t1,Rel_trans i2 t2,fun j hj hi=>?_⟩
  have hn1:1≤n:=by
   rw[hn]
   have:=cfg_all (okW_ex h.1).1
   have e:=parX_ab h.2.1
   rw[← e.1,← e.2.1]
   exact this.1
  by_cases hjm:j=m
  ·subst hjm;exact t3 hi
  ·have q0:=Int.ediv_nonneg (show 0≤(j:Int) by omega) (show 0≤n by omega)
   have q1:(j:Int) / n<n:=Int.ediv_lt_of_lt_mul (by omega) (by omega)
   have q2:=Int.emod_nonneg (j:Int) (show n≠0 by omega)
   have q3:=Int.emod_lt_of_pos (j:Int) (show 0<n by omega)
   exact NM_rel q0 (by rw[← hn];exact q1) q2 (by rw[← hn];exact q3) (i3 j (by omega) hi) t2
def sweepW (n:Int) (W:WZ):Nat→WZ
 | 0=>W
 | i+1=>passW (i:Int) n (sweepW n W i) (n*n).toNat
theorem sweep_law {B W:WZ} (n:Int) (h:Inv B W) (hn:n=B.a*B.b):∀ i:Nat,Inv B (sweepW n W i)∧Rel B W (sweepW n W i)∧∀ s:Nat,s<i→∀ x y:Int,0≤x→x<n→0≤y→y<n→idl B.a B.b x y=false→NM B (sweepW n W i) (s:Int) x y
 | 0=>⟨h,Rel_refl _ _,fun s hs=>absurd hs (Nat.not_lt_zero s)⟩
 | i+1=>by
  obtain ⟨i1,i2,i3⟩:=sweep_law n h hn i
  have hnn:0≤n*n:=by
   by_cases h0:0≤n
   ·exact Int.mul_nonneg h0 h0
   ·exact Int.mul_nonneg_of_nonpos_of_nonpos (by omega) (by omega)
  obtain ⟨p1,p2,p3⟩:=pass_law (i:Int) n i1 hn (n*n).toNat (by omega)
  refine ⟨p1,Rel_trans i2 p2,fun s hs x y x0 x1 y0 y1 hi=>?_⟩
  by_cases hsi:s=i
  ·subst hsi
   have hk1:=Int.mul_nonneg x0 (show 0≤n by omega)
   have hk2:=Int.mul_le_mul_of_nonneg_right (show x+1≤n by omega) (show 0≤n by omega)
   rw[Int.add_mul,Int.one_mul]at hk2
   have hj:((x*n+y).toNat:Int)=x*n+y:=by omega
   have ed:(x*n+y) / n=x:=by
    rw[Int.add_comm,Int.add_mul_ediv_right _ _ (show n≠0 by omega),Int.ediv_eq_zero_of_lt y0 y1,Int.zero_add]
   have em:(x*n+y) % n=y:=by
    rw[Int.add_comm,Int.add_mul_emod_self_right,Int.emod_eq_of_lt y0 y1]
   have:=p3 (x*n+y).toNat (by omega)
   rw[hj,ed,em]at this
   exact this hi
  ·exact NM_rel x0 (by rw[← hn];exact x1) y0 (by rw[← hn];exact y1) (i3 s (by omega) x y x0 x1 y0 y1 hi) p2
end Go.W

