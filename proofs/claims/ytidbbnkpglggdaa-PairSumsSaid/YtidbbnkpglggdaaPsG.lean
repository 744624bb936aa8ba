/- A part of the proofs about the pair's laws (PsF, PsG). -/
import Derived.Test.YtidbbnkpglggdaaPsE
namespace Go.W
open Go.Proofs
set_option linter.unusedSimpArgs false
set_option linter.unusedVariables false
set_option maxHeartbeats 8000000
attribute [local irreducible] Wm
attribute [local simp] nmap lkp mkPl prs prsL prT ddL idL CRenL CRen Ren RenL NObj.none CRenLL
theorem lowZ_le {els:List (List AV)} (h:els.all isWd=true) {i k:Nat} (hik:i≤k) (hk:k≤els.length):lowZ els i≤lowZ els k:=by
 induction k with
 | zero=>rw[show i=0 from by omega];exact Int.le_refl _
 | succ k ih =>
  by_cases e:i=k+1
  ·subst e;exact Int.le_refl _
  ·have h1:=ih (by omega) (by omega)
   obtain ⟨w,hw,h2,_⟩:=isWd_ex (List.all_eq_true.1 h _ (List.getElem_mem (show k<els.length by omega)))
   rw[lowZ_succ (by rw[List.getElem?_eq_getElem (show k<els.length by omega),hw])]
   omega
def d83:List AV→Option Ans
 | [.os _ 1 els]=>if els.all isWd=true∧els.length≤8∧lowZ els els.length≤64 then some ⟨.tup [.agg [.os 0 1 els],.raw .nilIface],[.free]⟩ else none
 | _=>none
def I83 (els:List (List AV)) (k:Nat):St:=⟨[(0,.sl (.top 0) 0 els.length),(2,.ptr (.top 1) 0 0),(4,.int .i64 (lowZ els k)),(7,.sl (.top 0) 0 els.length),(8,.int .i64 els.length),(9,.int .i64 k)],[(0,.view 0 1 els),(1,.cells 0 [.nsl])],2⟩
theorem ok83:NOk [(1,false)] d83:=by
 intro xs a h
 unfold d83 at h
 (repeat' (split at h))<;>first|(cases h;done)|(rename_i hc;have h1:=wd_t0 hc.1;have h2:=wd_cl hc.1;injection h with h;subst h;refine ⟨Ends_of ?_,?_⟩<;>simp[h1,h2])
theorem s83:Sound Try.prog 83 (nestS [(1,false)] d83 ok83):=by
 refine nest_sound Try.func83 nm83 rc83 rv83 ok83 (fun xs a h=>?_) fun xs a h w0 S hS=>?_
 ·unfold d83 at h
  (repeat' (split at h))<;>first|(cases h;done)|exact Nat.le_of_ble_eq_true rfl
 unfold d83 at h
 split at h
 ·split at h
  ·rename_i tg els hcond
   injection h with h
   subst h
   have hE:SoundAll Try.prog (EL [(71,rdS d71 ok71)]):=EL_sound (by simp only[List.mem_cons,List.not_mem_nil,or_false,forall_eq_or_imp,forall_eq];exact s71)
   obtain ⟨hw,hlen,hlow⟩:=hcond
   have hT:=wd_t0 hw
   have hC:=wd_cl hw
   have hdat:=wd_dat hw
   have hP:(els.all fun c=>c.all AV.plain)=true:=List.all_eq_true.2 fun c hc=>by
    obtain ⟨w,rfl,_⟩:=isWd_ex (List.all_eq_true.1 hw c hc);rfl
   unfold m83
   repeat' with_reducible (first
    | refine ZR.h ?_ | refine zI (by decide) ?_
    | (refine zK hE ?_;intro K hK;simp[KR.ks,q83_0,q83_1,q83_2,q83_3,q83_4,q83_5,q83_6,q83_7,q83_8,q83_9,q83_10,q83_11,d71];(repeat' (first | refine hK _ _ ?_ | refine And.intro ?_ ?_ | (intro hc;try subst hc)))<;>(try clear hK K))
    | (refine zJ (b:=_) (by with_unfolding_all rfl) (fun hc=>?_) (fun hc=>?_)<;>simp at hc<;>(try subst hc)))
   all_goals (refine Wm_loop (I83 els) (fun k=>k≤els.length) (fun k=>els.length - k) 0 (Nat.zero_le _) ?_ ?_)
   ·simp only[I83]
    rw[hS]
    refine Imp.auto (by kernel_rfl) ?_ ?_<;>simp[NLe,hT,hC,lowZ]
   ·intro k hk
    replace hk:k≤els.length:=hk
    simp only[I83]
    by_cases hkn:k<els.length
    ·obtain ⟨w,hrow,hw1,hw2⟩:=isWd_ex (List.all_eq_true.1 hw _ (List.getElem_mem hkn))
     have hrow2:els[k]?=some [.int .i64 w]:=by rw[List.getElem?_eq_getElem hkn,hrow]
     have hsucc:=lowZ_succ hrow2
     have hb:=low_in hw k (by omega)
     have hle:=lowZ_le hw (show k+1≤els.length by omega) (Nat.le_refl _)
     have hkI:(k:Int)<(els.length:Int):=by omega
     have w1:IntKind.wrap .i64 ((k:Int)+1)=(k:Int)+1:=wrap_in (by omega) (by omega)
     have w2:IntKind.wrap .i64 (lowZ els k+w)=lowZ els k+w:=wrap_in (by omega) (by omega)
     have n1:¬ w<1:=by omega
     have n2:¬ 32<w:=by omega
     have n3:¬ 64<lowZ els k+w:=by omega
     repeat' with_reducible (first
      | refine ZR.h ?_ | refine zI (by decide) ?_
      | (refine zK hE ?_;intro K hK;simp[KR.ks,q83_0,q83_1,q83_2,q83_3,q83_4,q83_5,q83_6,q83_7,q83_8,q83_9,q83_10,q83_11,hkn,hkI,hrow,hrow2,w1,w2,n1,n2,n3,d71];(repeat' (first | refine hK _ _ ?_ | refine And.intro ?_ ?_ | (intro hc;try subst hc)))<;>(try clear hK K))
      | (refine zJ (b:=_) (by with_unfolding_all rfl) (fun hc=>?_) (fun hc=>?_)<;>simp at hc<;>(try subst hc)))
     all_goals refine ⟨k+1,hkn,Nat.sub_lt_sub_left hkn (Nat.lt_succ_self k),?_⟩
     all_goals simp only[I83]
     all_goals rw[hS]
     all_goals (refine Imp.auto (by kernel_rfl) ?_ ?_<;>simp[NLe,hT,hC,hsucc])
    ·have hkI:¬ (k:Int)<(els.length:Int):=by omega
     have hb1:els.length*8≤140737488355328:=by omega
     have hb2:els.length≤9223372036854775807:=by omega
     repeat' with_reducible (first
      | refine ZR.h ?_ | refine zI (by decide) ?_
      | (refine zK hE ?_;intro K hK;simp[KR.ks,q83_0,q83_1,q83_2,q83_3,q83_4,q83_5,q83_6,q83_7,q83_8,q83_9,q83_10,q83_11,hkI,hP,hb1,hb2,d71];(repeat' (first | refine hK _ _ ?_ | refine And.intro ?_ ?_ | (intro hc;try subst hc)))<;>(try clear hK K))
      | (refine zJ (b:=_) (by with_unfolding_all rfl) (fun hc=>?_) (fun hc=>?_)<;>simp at hc<;>(try subst hc)))
     all_goals first|(simp;done)|(simp at *;omega)|((try simp[hT,hC]);refine Imp.auto (by kernel_rfl) ?_ ?_<;>simp[NLe,hT,hC])
  ·cases h
 ·cases h
def d82:List AV→Option Ans
 | []=>some ⟨.agg [.os 0 1 [[.int .i64 4],[.int .i64 1],[.int .i64 8],[.int .i64 16],[.int .i64 8]]],[]⟩
 | _=>none
theorem ok82:NOk [] d82:=by
 intro xs a h
 unfold d82 at h
 (repeat' (split at h))<;>first|(cases h;done)|(injection h with h;subst h;refine ⟨Ends_of ?_,?_⟩<;>simp)
theorem s82:Sound Try.prog 82 (nestS [] d82 ok82):=by
 refine nest_sound Try.func82 nm82 rc82 rv82 ok82 (fun xs a h=>?_) fun xs a h w0 S hS=>?_
 ·unfold d82 at h
  (repeat' (split at h))<;>first|(cases h;done)|exact Nat.le_of_ble_eq_true rfl
 unfold d82 at h
 split at h
 ·skip
  injection h with h
  subst h
  have hE:SoundAll Try.prog (EL [(83,nestS [(1,false)] d83 ok83)]):=EL_sound (by simp only[List.mem_cons,List.not_mem_nil,or_false,forall_eq_or_imp,forall_eq];exact s83)
  unfold m82
  repeat' with_reducible (first
   | refine ZR.h ?_ | refine zI (by decide) ?_
   | (refine zK hE ?_;intro K hK;simp[KR.ks,q82_0,q82_1,q82_2,isWd,lowZ,cellI,d83];(repeat' (first | refine hK _ _ ?_ | refine And.intro ?_ ?_ | (intro hc;try subst hc)))<;>(try clear hK K))
   | (refine zJ (b:=_) (by with_unfolding_all rfl) (fun hc=>?_) (fun hc=>?_)<;>simp at hc<;>(try subst hc)))
  all_goals first|(simp;done)|(simp at *;omega)|((try simp);refine Imp.auto (by kernel_rfl) ?_ ?_<;>simp[NLe])
 ·cases h
def d100:List AV→Option Ans
 | []=>some ⟨.agg [.os 0 1 [[.int .i64 4],[.int .i64 1],[.int .i64 16],[.int .i64 16],[.int .i64 24]]],[]⟩
 | _=>none
theorem ok100:NOk [] d100:=by
 intro xs a h
 unfold d100 at h
 (repeat' (split at h))<;>first|(cases h;done)|(injection h with h;subst h;refine ⟨Ends_of ?_,?_⟩<;>simp)
theorem s100:Sound Try.prog 100 (nestS [] d100 ok100):=by
 refine nest_sound Try.func100 nm100 rc100 rv100 ok100 (fun xs a h=>?_) fun xs a h w0 S hS=>?_
 ·unfold d100 at h
  (repeat' (split at h))<;>first|(cases h;done)|exact Nat.le_of_ble_eq_true rfl
 unfold d100 at h
 split at h
 ·skip
  injection h with h
  subst h
  have hE:SoundAll Try.prog (EL [(83,nestS [(1,false)] d83 ok83)]):=EL_sound (by simp only[List.mem_cons,List.not_mem_nil,or_false,forall_eq_or_imp,forall_eq];exact s83)
  unfold m100
  repeat' with_reducible (first
   | refine ZR.h ?_ | refine zI (by decide) ?_
   | (refine zK hE ?_;intro K hK;simp[KR.ks,q100_0,q100_1,q100_2,isWd,lowZ,cellI,d83];(repeat' (first | refine hK _ _ ?_ | refine And.intro ?_ ?_ | (intro hc;try subst hc)))<;>(try clear hK K))
   | (refine zJ (b:=_) (by with_unfolding_all rfl) (fun hc=>?_) (fun hc=>?_)<;>simp at hc<;>(try subst hc)))
  all_goals first|(simp;done)|(simp at *;omega)|((try simp);refine Imp.auto (by kernel_rfl) ?_ ?_<;>simp[NLe])
 ·cases h
def d60:List AV→Option Ans
 | []=>some ⟨.agg [.os 0 1 [[.int .i64 3],[.int .i64 16],[.int .i64 16],[.int .i64 20],[.int .i64 5],[.int .i64 4]]],[]⟩
 | _=>none
theorem ok60:NOk [] d60:=by
 intro xs a h
 unfold d60 at h
 (repeat' (split at h))<;>first|(cases h;done)|(injection h with h;subst h;refine ⟨Ends_of ?_,?_⟩<;>simp)
theorem s60:Sound Try.prog 60 (nestS [] d60 ok60):=by
 refine nest_sound Try.func60 nm60 rc60 rv60 ok60 (fun xs a h=>?_) fun xs a h w0 S hS=>?_
 ·unfold d60 at h
  (repeat' (split at h))<;>first|(cases h;done)|exact Nat.le_of_ble_eq_true rfl
 unfold d60 at h
 split at h
 ·skip
  injection h with h
  subst h
  have hE:SoundAll Try.prog (EL [(83,nestS [(1,false)] d83 ok83)]):=EL_sound (by simp only[List.mem_cons,List.not_mem_nil,or_false,forall_eq_or_imp,forall_eq];exact s83)
  unfold m60
  repeat' with_reducible (first
   | refine ZR.h ?_ | refine zI (by decide) ?_
   | (refine zK hE ?_;intro K hK;simp[KR.ks,q60_0,q60_1,q60_2,isWd,lowZ,cellI,d83];(repeat' (first | refine hK _ _ ?_ | refine And.intro ?_ ?_ | (intro hc;try subst hc)))<;>(try clear hK K))
   | (refine zJ (b:=_) (by with_unfolding_all rfl) (fun hc=>?_) (fun hc=>?_)<;>simp at hc<;>(try subst hc)))
  all_goals first|(simp;done)|(simp at *;omega)|((try simp);refine Imp.auto (by kernel_rfl) ?_ ?_<;>simp[NLe])
 ·cases h
def stateZ (x:Int):StZ:=⟨getZ x 0 4,decide (getZ x 4 1=1),getZ x 5 8,getZ x 13 16,getZ x 29 8⟩
structure TmZ where
 nm:Int
 sd:Int
 pr:Int
 le:Int
 un:Int
 deriving DecidableEq,Inhabited
def tmC (t:TmZ):List AV:=[.int .i64 t.nm,.int .i64 t.sd,.int .i64 t.pr,.int .i64 t.le,.int .i64 t.un]
def tmA (t:TmZ):AV:=.agg (tmC t)
structure RcZ where
 k:Int
 q:Int
 p:Int
 t:Int
 c:Int
 g:Int
 deriving DecidableEq,Inhabited
def rcA (r:RcZ):AV:=.agg [.int .i64 r.k,.int .i64 r.q,.int .i64 r.p,.int .i64 r.t,.int .i64 r.c,.int .i64 r.g]
def termsZ (x:Int):TmZ:=⟨getZ x 0 4,getZ x 4 1,getZ x 5 16,getZ x 21 16,getZ x 37 24⟩
def d55:List AV→List NObj→Option AV
 | [.int .u64 x],[]=>if 0≤x∧x<18446744073709551616 then some (stA (stateZ x)) else none
 | _,_=>none
theorem ok55:ROk d55:=by
 intro xs os r h
 unfold d55 at h
 (repeat' (split at h))<;>first|(cases h;done)|(injection h with h;subst h;simp[stA,stateZ])
theorem s55:Sound Try.prog 55 (rdS d55 ok55):=by
 refine rd_sound Try.func55 nm55 rc55 rv55 ok55 fun xs os r h vs ρ0 hvs=>⟨xs,?_,fun _ h=>h,fun w0 S hS=>?_⟩
 ·unfold d55 at h
  (repeat' (split at h))<;>first|(cases h;done)|exact Nat.le_of_ble_eq_true rfl
 unfold d55 at h
 split at h
 ·split at h
  ·rename_i x hcond
   injection h with h
   subst h
   have hE:SoundAll Try.prog (EL [(82,nestS [] d82 ok82),(61,rdS d61 ok61)]):=EL_sound (by simp only[List.mem_cons,List.not_mem_nil,or_false,forall_eq_or_imp,forall_eq];exact ⟨s82,s61⟩)
   obtain ⟨hx0,hx1⟩:=hcond
   unfold m55
   repeat' with_reducible (first
    | refine ZR.h ?_ | refine zI (by decide) ?_
    | ((first | refine zK hE ?_ | refine zL hE mixT ?_);intro K hK;simp[KR.ks,KD.ks,KD.cl,q55_0,q55_1,q55_2,hx0,hx1,isWd,lowZ,cellI,d82,d61];(repeat' (first | refine hK _ _ ?_ | refine And.intro ?_ ?_ | (intro hc;try subst hc)))<;>(try clear hK K))
    | (refine zJ (b:=_) (by with_unfolding_all rfl) (fun hc=>?_) (fun hc=>?_)<;>simp at hc<;>(try subst hc)))
   all_goals first|(simp;done)|(simp at *;omega)|((try simp[stA,stateZ]);refine Imp.auto (by kernel_rfl) ?_ ?_<;>simp[NLe,stA,stateZ])
  ·cases h
 ·cases h
def d87:List AV→List NObj→Option AV
 | [.int .u64 x],[]=>if 0≤x∧x<18446744073709551616 then some (tmA (termsZ x)) else none
 | _,_=>none
theorem ok87:ROk d87:=by
 intro xs os r h
 unfold d87 at h
 (repeat' (split at h))<;>first|(cases h;done)|(injection h with h;subst h;simp[tmA,tmC,termsZ])
theorem s87:Sound Try.prog 87 (rdS d87 ok87):=by
 refine rd_sound Try.func87 nm87 rc87 rv87 ok87 fun xs os r h vs ρ0 hvs=>⟨xs,?_,fun _ h=>h,fun w0 S hS=>?_⟩
 ·unfold d87 at h
  (repeat' (split at h))<;>first|(cases h;done)|exact Nat.le_of_ble_eq_true rfl
 unfold d87 at h
 split at h
 ·split at h
  ·rename_i x hcond
   injection h with h
   subst h
   have hE:SoundAll Try.prog (EL [(100,nestS [] d100 ok100),(61,rdS d61 ok61)]):=EL_sound (by simp only[List.mem_cons,List.not_mem_nil,or_false,forall_eq_or_imp,forall_eq];exact ⟨s100,s61⟩)
   obtain ⟨hx0,hx1⟩:=hcond
   unfold m87
   repeat' with_reducible (first
    | refine ZR.h ?_ | refine zI (by decide) ?_
    | ((first | refine zK hE ?_ | refine zL hE mixT ?_);intro K hK;simp[KR.ks,KD.ks,KD.cl,q87_0,q87_1,q87_2,hx0,hx1,isWd,lowZ,cellI,d100,d61];(repeat' (first | refine hK _ _ ?_ | refine And.intro ?_ ?_ | (intro hc;try subst hc)))<;>(try clear hK K))
    | (refine zJ (b:=_) (by with_unfolding_all rfl) (fun hc=>?_) (fun hc=>?_)<;>simp at hc<;>(try subst hc)))
   all_goals first|(simp;done)|(simp at *;omega)|((try simp[tmA,tmC,termsZ]);refine Imp.auto (by kernel_rfl) ?_ ?_<;>simp[NLe,tmA,tmC,termsZ])
  ·cases h
 ·cases h
end Go.W

namespace Go.W
open Go.Proofs
set_option linter.unusedSimpArgs false
set_option linter.unusedVariables false
set_option maxHeartbeats 8000000
attribute [local irreducible] Wm
attribute [local simp] nmap lkp mkPl prs prsL prT ddL idL CRenL CRen Ren RenL NObj.none CRenLL
def isV:List AV→Bool
 | [.int .i64 v]=>decide (-9223372036854775808≤v)&&decide (v≤9223372036854775807)
 | _=>false
theorem isV_ex {c:List AV} (h:isV c=true):∃ v:Int,c=[.int .i64 v]∧-9223372036854775808≤v∧v≤9223372036854775807:=by
 unfold isV at h
 split at h
 ·simp only[Bool.and_eq_true,decide_eq_true_eq]at h;exact ⟨_,rfl,h⟩
 ·cases h
theorem v_t0:∀ {els:List (List AV)},els.all isV=true→t0LL els=els
 | [],_=>rfl
 | c :: r,h=>by
  simp only[List.all_cons,Bool.and_eq_true]at h
  obtain ⟨x,rfl,_⟩:=isV_ex h.1
  simp[t0LL,t0L,AV.t0,v_t0 h.2]
theorem v_cl:∀ {els:List (List AV)},els.all isV=true→clLL els=true
 | [],_=>rfl
 | c :: r,h=>by
  simp only[List.all_cons,Bool.and_eq_true]at h
  obtain ⟨x,rfl,_⟩:=isV_ex h.1
  simp[clLL,clL,AV.cl,v_cl h.2]
def packK (els vs:List (List AV)):Nat→Option Int
 | 0=>some 0
 | k+1=>match packK els vs k with
  | some x=>if cellI (vs.getD k [])<0 then none else if 2 ^ (cellI (els.getD k [])).toNat - 1<cellI (vs.getD k []) then none else some (x+cellI (vs.getD k [])*2 ^ (lowZ els k).toNat)
  | none=>none
theorem packK_none {els vs:List (List AV)} {k:Nat} (h:packK els vs k=none):∀ j,packK els vs (k+j)=none
 | 0=>h
 | j+1=>by
  show packK els vs ((k+j)+1)=none
  simp only[packK,packK_none h j]
theorem packK_in {els vs:List (List AV)} (hw:els.all isWd=true):∀ (k:Nat) (x:Int),k≤els.length→packK els vs k=some x→0≤x∧x<2 ^ (lowZ els k).toNat
 | 0,x,_,h=>by
  simp only[packK,Option.some.injEq]at h
  subst h
  exact ⟨Int.le_refl _,by simp[lowZ]⟩
 | k+1,x,hk,h=>by
  simp only[packK]at h
  split at h
  ·rename_i y hy
   split at h
   ·cases h
   ·split at h
    ·cases h
    ·rename_i h1 h2
     simp only[Option.some.injEq]at h
     obtain ⟨a1,a2⟩:=packK_in hw k y (by omega) hy
     obtain ⟨w,hrow,hw1,hw2⟩:=isWd_ex (List.all_eq_true.1 hw _ (List.getElem_mem (show k<els.length by omega)))
     have hrow2:els[k]?=some [.int .i64 w]:=by rw[List.getElem?_eq_getElem (show k<els.length by omega),hrow]
     have hb:=low_in hw k (by omega)
     have hc:cellI (els.getD k [])=w:=by rw[List.getD_eq_getElem?_getD,hrow2];rfl
     rw[lowZ_succ hrow2]
     rw[hc]at h2
     obtain ⟨lo,hlo⟩:∃ lo:Nat,lowZ els k=(lo:Int):=⟨(lowZ els k).toNat,by omega⟩
     obtain ⟨b,rfl⟩:∃ b:Nat,w=(b:Int):=⟨w.toNat,by omega⟩
     rw[hlo]at a2 h⊢
     simp only[Int.toNat_natCast]at a2 h h2
     obtain ⟨v,hv⟩:∃ v,cellI (vs.getD k [])=v:=⟨_,rfl⟩
     rw[hv]at h h1 h2
     have e:((lo:Int)+(b:Int)).toNat=lo+b:=by omega
     rw[e,Int.pow_add]
     have hp:(1:Int)≤2 ^ lo:=by
      have:1≤2 ^ lo:=Nat.one_le_two_pow
      rw[← two_pow_cast];omega
     have h5:v*2 ^ lo≤(2 ^ b - 1)*2 ^ lo:=Int.mul_le_mul_of_nonneg_right (by omega) (by omega)
     have h6:=Int.mul_nonneg (show 0≤v by omega) (show (0:Int)≤2 ^ lo by omega)
     rw[Int.sub_mul,Int.one_mul,Int.mul_comm (2 ^ b)]at h5
     omega
  ·cases h
def packA:Option Int→AV
 | some x=>.tup [.int .u64 x,.raw .nilIface]
 | none=>.tup [.int .u64 0,.iface 165 .bot]
def d86:List AV→List NObj→Option AV
 | [.agg [.sl (.top 0) 0 n],.sl (.top 1) 0 m],[.view 0 1 els,.view 0 1 vs]=>if n=els.length∧m=els.length∧vs.length=els.length∧els.all isWd=true∧els.length≤8∧lowZ els els.length≤64∧vs.all isV=true then some (packA (packK els vs els.length)) else none
 | _,_=>none
def I86 (els vs:List (List AV)) (x:Int) (k:Nat):St:=⟨[(2,.ptr (.top 2) 0 0),(6,.int .u64 x),(16,.sl (.top 1) 0 els.length),(17,.int .i64 els.length),(18,.int .i64 k)],[(0,.view 0 1 els),(1,.view 0 1 vs),(2,.cells 0 [.sl (.top 0) 0 els.length])],3⟩
theorem ok86:ROk d86:=by
 intro xs os r h
 unfold d86 at h
 (repeat' (split at h))<;>first|(cases h;done)|(injection h with h;subst h;unfold packA;split<;>simp)
theorem s86:Sound Try.prog 86 (rdS d86 ok86):=by
 refine rd_sound Try.func86 nm86 rc86 rv86 ok86 fun xs os r h vs ρ0 hvs=>⟨xs,?_,fun _ h=>h,fun w0 S hS=>?_⟩
 ·unfold d86 at h
  (repeat' (split at h))<;>first|(cases h;done)|exact Nat.le_of_ble_eq_true rfl
 unfold d86 at h
 split at h
 ·split at h
  ·rename_i n m els vs hcond
   injection h with h
   subst h
   have hE:SoundAll Try.prog (EL [(85,rdS d85 ok85),(84,rdS d84 ok84),(71,rdS d71 ok71)]):=EL_sound (by simp only[List.mem_cons,List.not_mem_nil,or_false,forall_eq_or_imp,forall_eq];exact ⟨s85,s84,s71⟩)
   obtain ⟨rfl,rfl,hvl,hw,hlen,hlow,hv⟩:=hcond
   have hT:=wd_t0 hw
   have hC:=wd_cl hw
   have hT2:=v_t0 hv
   have hC2:=v_cl hv
   have hdat:=wd_dat hw
   unfold m86
   repeat' with_reducible (first
    | refine ZR.h ?_ | refine zI (by decide) ?_
    | (refine zK hE ?_;intro K hK;simp[KR.ks,q86_0,q86_1,q86_2,q86_3,q86_4,q86_5,q86_6,q86_7,q86_8,q86_9,q86_10,q86_11,d85,d84,d71];(repeat' (first | refine hK _ _ ?_ | refine And.intro ?_ ?_ | (intro hc;try subst hc)))<;>(try clear hK K))
    | (refine zJ (b:=_) (by with_unfolding_all rfl) (fun hc=>?_) (fun hc=>?_)<;>simp at hc<;>(try subst hc)))
   all_goals (refine Wm_loop (fun (y:Int×Nat)=>I86 els vs y.1 y.2) (fun y=>y.2≤els.length∧packK els vs y.2=some y.1) (fun y=>els.length - y.2) (0,0) ⟨Nat.zero_le _,rfl⟩ ?_ ?_)
   ·simp only[I86]
    rw[hS]
    refine Imp.auto (by kernel_rfl) ?_ ?_<;>simp[NLe,hT,hC,hT2,hC2,hvl]
   ·intro ⟨x,k⟩ ⟨hk,hx⟩
    replace hk:k≤els.length:=hk
    replace hx:packK els vs k=some x:=hx
    simp only[I86]
    by_cases hkn:k<els.length
    ·have hkv:k<vs.length:=by omega
     obtain ⟨w,hrow,hw1,hw2⟩:=isWd_ex (List.all_eq_true.1 hw _ (List.getElem_mem hkn))
     have hrow2:els[k]?=some [.int .i64 w]:=by rw[List.getElem?_eq_getElem hkn,hrow]
     obtain ⟨v,hvr,hv1,hv2⟩:=isV_ex (List.all_eq_true.1 hv _ (List.getElem_mem hkv))
     have hvr2:vs[k]?=some [.int .i64 v]:=by rw[List.getElem?_eq_getElem hkv,hvr]
     have hcw:cellI (els.getD k [])=w:=by rw[List.getD_eq_getElem?_getD,hrow2];rfl
     have hcv:cellI (vs.getD k [])=v:=by rw[List.getD_eq_getElem?_getD,hvr2];rfl
     have hsucc:=lowZ_succ hrow2
     have hb:=low_in hw k (by omega)
     have hle:=lowZ_le hw (show k+1≤els.length by omega) (Nat.le_refl _)
     obtain ⟨hx0,hx1⟩:=packK_in hw k x (by omega) hx
     obtain ⟨b,rfl⟩:∃ b:Nat,w=(b:Int):=⟨w.toNat,by omega⟩
     obtain ⟨lo,hlo⟩:∃ lo:Nat,lowZ els k=(lo:Int):=⟨(lowZ els k).toNat,by omega⟩
     obtain ⟨hp1,hp2⟩:=pow_le (b:=b) (by omega)
     have hpk:packK els vs (k+1)=if v<0 then none else if 2 ^ b - 1<v then none else some (x+v*2 ^ lo):=by
      simp only[packK,hx,hcw,hcv,hlo,Int.toNat_natCast]
     rw[hlo]at hx1 hsucc
     simp only[Int.toNat_natCast]at hx1
     have hkI:(k:Int)<(els.length:Int):=by omega
     have hkI2:(k:Int)≤(els.length:Int):=by omega
     have hkn2:k≤els.length:=hk
     have w1:IntKind.wrap .i64 ((k:Int)+1)=(k:Int)+1:=wrap_in (by omega) (by omega)
     by_cases h1:v<0
     ·rw[if_pos h1]at hpk
      have hnone:packK els vs els.length=none:=by
       have:=packK_none hpk (els.length - (k+1))
       rwa [show k+1+(els.length - (k+1))=els.length from by omega]at this
      repeat' with_reducible (first
       | refine ZR.h ?_ | refine zI (by decide) ?_
       | (refine zK hE ?_;intro K hK;simp[KR.ks,q86_0,q86_1,q86_2,q86_3,q86_4,q86_5,q86_6,q86_7,q86_8,q86_9,q86_10,q86_11,hkn,hkv,hkI,hvl,hvr,hvr2,h1,d85,d84,d71];(repeat' (first | refine hK _ _ ?_ | refine And.intro ?_ ?_ | (intro hc;try subst hc)))<;>(try clear hK K))
       | (refine zJ (b:=_) (by with_unfolding_all rfl) (fun hc=>?_) (fun hc=>?_)<;>simp at hc<;>(try subst hc)))
      all_goals first|(simp;done)|((try simp[hnone,packA]);refine Imp.auto (by kernel_rfl) ?_ ?_<;>simp[NLe,hnone,packA])
     ·rw[if_neg h1]at hpk
      have hwv:IntKind.wrap .u64 v=v:=u64_wrap (by omega) (by omega)
      by_cases h2:2 ^ b - 1<v
      ·rw[if_pos h2]at hpk
       have hnone:packK els vs els.length=none:=by
        have:=packK_none hpk (els.length - (k+1))
        rwa [show k+1+(els.length - (k+1))=els.length from by omega]at this
       repeat' with_reducible (first
        | refine ZR.h ?_ | refine zI (by decide) ?_
        | (refine zK hE ?_;intro K hK;simp[KR.ks,q86_0,q86_1,q86_2,q86_3,q86_4,q86_5,q86_6,q86_7,q86_8,q86_9,q86_10,q86_11,hkn,hkv,hkI,hvl,hvr,hvr2,h1,h2,hwv,hdat,hw,hlen,hrow,hrow2,cellI,d85,d84,d71];(repeat' (first | refine hK _ _ ?_ | refine And.intro ?_ ?_ | (intro hc;try subst hc)))<;>(try clear hK K))
        | (refine zJ (b:=_) (by with_unfolding_all rfl) (fun hc=>?_) (fun hc=>?_)<;>simp at hc<;>(try subst hc)))
       all_goals first|(simp;done)|((try simp[hnone,packA]);refine Imp.auto (by kernel_rfl) ?_ ?_<;>simp[NLe,hnone,packA])
      ·rw[if_neg h2]at hpk
       have hin:=packK_in hw (k+1) _ (by omega) hpk
       rw[hsucc]at hin
       have he:((lo:Int)+(b:Int)).toNat=lo+b:=by omega
       rw[he]at hin
       have hlb:lo+b≤64:=by omega
       have hp64:(2:Int) ^ (lo+b)≤18446744073709551616:=by
        have:2 ^ (lo+b)≤2 ^ 64:=Nat.pow_le_pow_right (by omega) hlb
        rw[← two_pow_cast];omega
       have hm0:0≤v*2 ^ lo:=Int.mul_nonneg (by omega) (Int.le_of_lt (Int.pow_pos (by omega)))
       have hsl:=shl_mul (a:=v) (n:=lo) (by omega) (by omega) (by omega)
       have hor:=or_add (a:=x) (v:=v) (lo:=lo) hx0 hx1 (by omega) (by omega)
       have hl0:¬ (lo:Int)<0:=by omega
       repeat' with_reducible (first
        | refine ZR.h ?_ | refine zI (by decide) ?_
        | (refine zK hE ?_;intro K hK;simp[KR.ks,q86_0,q86_1,q86_2,q86_3,q86_4,q86_5,q86_6,q86_7,q86_8,q86_9,q86_10,q86_11,hkn,hkn2,hkI2,hkv,hkI,hvl,hvr,hvr2,h1,h2,hwv,hdat,hw,hlen,hrow,hrow2,cellI,hlo,hl0,hsl,hor,w1,d85,d84,d71];(repeat' (first | refine hK _ _ ?_ | refine And.intro ?_ ?_ | (intro hc;try subst hc)))<;>(try clear hK K))
        | (refine zJ (b:=_) (by with_unfolding_all rfl) (fun hc=>?_) (fun hc=>?_)<;>simp at hc<;>(try subst hc)))
       all_goals refine ⟨(x+v*2 ^ lo,k+1),⟨hkn,hpk⟩,Nat.sub_lt_sub_left hkn (Nat.lt_succ_self k),?_⟩
       all_goals simp only[I86]
       all_goals rw[hS]
       all_goals (refine Imp.auto (by kernel_rfl) ?_ ?_<;>simp[NLe,hT,hC,hT2,hC2,hvl])
    ·have hkI:¬ (k:Int)<(els.length:Int):=by omega
     have hke:k=els.length:=by omega
     subst hke
     repeat' with_reducible (first
      | refine ZR.h ?_ | refine zI (by decide) ?_
      | (refine zK hE ?_;intro K hK;simp[KR.ks,q86_0,q86_1,q86_2,q86_3,q86_4,q86_5,q86_6,q86_7,q86_8,q86_9,q86_10,q86_11,hkI,hvl,d85,d84,d71];(repeat' (first | refine hK _ _ ?_ | refine And.intro ?_ ?_ | (intro hc;try subst hc)))<;>(try clear hK K))
      | (refine zJ (b:=_) (by with_unfolding_all rfl) (fun hc=>?_) (fun hc=>?_)<;>simp at hc<;>(try subst hc)))
     all_goals first|(simp;done)|((try simp[hx,packA]);refine Imp.auto (by kernel_rfl) ?_ ?_<;>simp[NLe,hx,packA])
  ·cases h
 ·cases h
end Go.W

