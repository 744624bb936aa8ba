/- A part of the proofs about the pair's laws (PsJ, PsK, PsL). -/
import Derived.Test.YtidbbnkpglggdaaPsI
import Derived.Test.YtidbbnkpglggdaaPqB
namespace Go.W
open Go.Proofs
set_option linter.unusedSimpArgs false
set_option linter.unusedVariables false
set_option maxHeartbeats 8000000
attribute [local irreducible] Wm
attribute [local simp] nmap lkp mkPl prs prsL prT ddL idL CRenL CRen Ren RenL NObj.none CRenLL
def d89:List AV→List NObj→Option AV
 | [.agg [.int .i64 a,.int .i64 b,.int .i64 c,.int .i64 d,.int .i64 e,.int .i64 f,.int .i64 g],.agg [.int .i64 n0,.int .i64 n1,.int .i64 n2,.int .i64 n3,.int .i64 n4]],[]=>if cfgB a b c d e f g=true then some (.int .i64 (shardZ c d n0 (bandZ d n2))) else none
 | _,_=>none
theorem ok89:ROk d89:=by
 intro xs os r h
 unfold d89 at h
 (repeat' (split at h))<;>first|(cases h;done)|(injection h with h;subst h;simp)
theorem s89:Sound Try.prog 89 (rdS d89 ok89):=by
 refine rd_sound Try.func89 nm89 rc89 rv89 ok89 fun xs os r h vs ρ0 hvs=>⟨xs,?_,fun _ h=>h,fun w0 S hS=>?_⟩
 ·unfold d89 at h
  (repeat' (split at h))<;>first|(cases h;done)|exact Nat.le_of_ble_eq_true rfl
 unfold d89 at h
 split at h
 ·split at h
  ·rename_i a b c d e f g n0 n1 n2 n3 n4 hcond
   injection h with h
   subst h
   have hE:SoundAll Try.prog (EL [(101,rdS d101 ok101),(102,rdS d102 ok102)]):=EL_sound (by simp only[List.mem_cons,List.not_mem_nil,or_false,forall_eq_or_imp,forall_eq];exact ⟨s101,s102⟩)
   unfold m89
   repeat' with_reducible (first
    | refine ZR.h ?_ | refine zI (by decide) ?_
    | ((first | refine zK hE ?_ | refine zL hE mixT ?_);intro K hK;simp[KR.ks,KD.ks,KD.cl,q89_0,q89_1,hcond,d101,d102];(repeat' (first | refine hK _ _ ?_ | refine And.intro ?_ ?_ | (intro hc;try subst hc)))<;>(try clear hK K))
    | (refine zJ (b:=_) (by with_unfolding_all rfl) (fun hc=>?_) (fun hc=>?_)<;>simp at hc<;>(try subst hc)))
   all_goals first|(simp;done)|(simp at *;omega)|((try simp);refine Imp.auto (by kernel_rfl) ?_ ?_<;>simp[NLe])
  ·cases h
 ·cases h
def intR (c:List AV):Bool:=c.all (fun v=>match v with|.int .i64 _=>true|_=>false)
def row14 (c:List AV):Bool:=intR c&&decide (c.length=14)
theorem intR_t0:∀ {c:List AV},intR c=true→t0L c=c
 | [],_=>rfl
 | v :: r,h=>by
  simp only[intR,List.all_cons,Bool.and_eq_true]at h
  have:=intR_t0 (c:=r) h.2
  cases v<;>simp at h
  simp[t0L,AV.t0,this]
theorem intR_cl:∀ {c:List AV},intR c=true→clL c=true
 | [],_=>rfl
 | v :: r,h=>by
  simp only[intR,List.all_cons,Bool.and_eq_true]at h
  have:=intR_cl (c:=r) h.2
  cases v<;>simp at h
  simp[clL,AV.cl,this]
theorem intR_tl {n:Nat}:∀ {c:List AV},intR c=true→tlL n c=true
 | [],_=>rfl
 | v :: r,h=>by
  simp only[intR,List.all_cons,Bool.and_eq_true]at h
  have:=intR_tl (n:=n) (c:=r) h.2
  cases v<;>simp at h
  simp[tlL,AV.tl,this]
theorem l_t0:∀ {els:List (List AV)},els.all row14=true→t0LL els=els
 | [],_=>rfl
 | c :: r,h=>by
  simp only[List.all_cons,Bool.and_eq_true,row14]at h
  simp[t0LL,intR_t0 h.1.1,l_t0 (els:=r) (by simpa [row14] using h.2)]
theorem l_cl:∀ {els:List (List AV)},els.all row14=true→clLL els=true
 | [],_=>rfl
 | c :: r,h=>by
  simp only[List.all_cons,Bool.and_eq_true,row14]at h
  simp[clLL,intR_cl h.1.1,l_cl (els:=r) (by simpa [row14] using h.2)]
theorem l_tl {n:Nat}:∀ {els:List (List AV)},els.all row14=true→tlLL n els=true
 | [],_=>rfl
 | c :: r,h=>by
  simp only[List.all_cons,Bool.and_eq_true,row14]at h
  simp[tlLL,intR_tl h.1.1,l_tl (els:=r) (by simpa [row14] using h.2)]
def d14:List AV→Option Ans
 | [.op _ [.int .i64 a,.int .i64 b,.int .i64 c,.int .i64 d,.int .i64 e,.int .i64 f,.int .i64 g,.op _ [.os _ 1 ws,.int .i64 s,.bot,.bot,.bot,.bot,.bot],.op _ [.int .u64 t],.os _ 14 lg],.int .i64 x]=>if cfgB a b c d e f g=true∧ws.all isW=true∧ws.length=(a*b*2+a*b*g*(f+1)).toNat∧0≤s∧s≤100000000∧0≤t∧t≤1000000∧lg.all row14=true∧lg.length≤100000∧0≤x∧x<a*b then some ⟨.tup [.int .u64 (wAt ws (2*x).toNat),stA (stateZ (wAt ws (2*x).toNat))],[.cells 0 [.int .i64 a,.int .i64 b,.int .i64 c,.int .i64 d,.int .i64 e,.int .i64 f,.int .i64 g,.op 0 [.os 0 1 ws,.int .i64 (s+1),.bot,.bot,.bot,.bot,.bot],.op 0 [.int .u64 t],.os 0 14 lg]]⟩ else none
 | _=>none
theorem ok14:NOk [(10,true)] d14:=by
 intro xs a h
 unfold d14 at h
 (repeat' (split at h))<;>first|(cases h;done)|(rename_i hc;have h1:=w_t0 hc.2.1;have h2:=w_cl hc.2.1;have h3:=l_t0 hc.2.2.2.2.2.2.2.1;have h4:=l_cl hc.2.2.2.2.2.2.2.1;injection h with h;subst h;refine ⟨Ends_of ?_,?_⟩<;>simp[h1,h2,h3,h4,stA])
theorem s14:Sound Try.prog 14 (nestS [(10,true)] d14 ok14):=by
 refine nest_sound Try.func14 nm14 rc14 rv14 ok14 (fun xs a h=>?_) fun xs a h w0 S hS=>?_
 ·unfold d14 at h
  (repeat' (split at h))<;>first|(cases h;done)|exact Nat.le_of_ble_eq_true rfl
 unfold d14 at h
 split at h
 ·split at h
  ·rename_i t0 a b c d e f g t1 t2 ws s t3 t t4 lg x hcond
   injection h with h
   subst h
   have hE:SoundAll Try.prog (EL [(50,rdS d50 ok50),(19,nestS [(7,true)] d19 ok19),(55,rdS d55 ok55)]):=EL_sound (by simp only[List.mem_cons,List.not_mem_nil,or_false,forall_eq_or_imp,forall_eq];exact ⟨s50,s19,s55⟩)
   obtain ⟨hcf,hw,hwl,hs0,hs1,ht0,ht1,hlg,hlgl,hx0,hx1⟩:=hcond
   have hc:=cfg_ex hcf
   have hall:=cfg_all hcf
   have hwd:=words_in (f:=f) (g:=g) (show 0≤a*b by omega) hall.2 (by omega) (by omega)
   have hT:=w_t0 hw
   have hC:=w_cl hw
   have hTl:=l_t0 hlg
   have hCl:=l_cl hlg
   have hs2:s≤1000000000:=by omega
   have hi:(((2*x).toNat:Nat):Int)=2*x:=by omega
   have hlt:(2*x).toNat<ws.length:=by omega
   have hltI:2*x<(ws.length:Int):=by omega
   have hn0:0≤2*x:=by omega
   have hx9:x≤1000:=by omega
   obtain ⟨hg,hv0,hv1⟩:=w_at hw hlt
   obtain ⟨v,hv⟩:∃ v,wAt ws (2*x).toNat=v:=⟨_,rfl⟩
   rw[hv]at hg hv0 hv1⊢
   unfold m14
   repeat' with_reducible (first
    | refine ZR.h ?_ | refine zI (by decide) ?_
    | ((first | refine zK hE ?_ | refine zL hE mixT ?_);intro K hK;simp[KR.ks,KD.ks,KD.cl,q14_0,q14_1,q14_2,hcf,hw,hs0,hs1,hs2,ht0,ht1,hT,hC,hTl,hCl,hx0,hx1,hx9,hltI,hn0,hv,hv0,hv1,stA,d50,d19,d55];(repeat' (first | refine hK _ _ ?_ | refine And.intro ?_ ?_ | (intro hc;try subst hc)))<;>(try clear hK K))
    | (refine zJ (b:=_) (by with_unfolding_all rfl) (fun hc=>?_) (fun hc=>?_)<;>simp at hc<;>(try subst hc)))
   all_goals first|(simp;done)|(simp at *;omega)|((try simp[hT,hC,hTl,hCl,stA]);refine Imp.auto (by kernel_rfl) ?_ ?_<;>simp[NLe,hT,hC,hTl,hCl,stA])
  ·cases h
 ·cases h
def d65:List AV→Option Ans
 | [.op _ [.int .i64 a,.int .i64 b,.int .i64 c,.int .i64 d,.int .i64 e,.int .i64 f,.int .i64 g,.op _ [.os _ 1 ws,.int .i64 s,.bot,.bot,.bot,.bot,.bot],.op _ [.int .u64 t],.os _ 14 lg],.int .i64 x]=>if cfgB a b c d e f g=true∧ws.all isW=true∧ws.length=(a*b*2+a*b*g*(f+1)).toNat∧0≤s∧s≤100000000∧0≤t∧t≤1000000∧lg.all row14=true∧lg.length≤100000∧0≤x∧x<a*b then some ⟨tmA (termsZ (wAt ws (2*x+1).toNat)),[.cells 0 [.int .i64 a,.int .i64 b,.int .i64 c,.int .i64 d,.int .i64 e,.int .i64 f,.int .i64 g,.op 0 [.os 0 1 ws,.int .i64 (s+1),.bot,.bot,.bot,.bot,.bot],.op 0 [.int .u64 t],.os 0 14 lg]]⟩ else none
 | _=>none
theorem ok65:NOk [(10,true)] d65:=by
 intro xs a h
 unfold d65 at h
 (repeat' (split at h))<;>first|(cases h;done)|(rename_i hc;have h1:=w_t0 hc.2.1;have h2:=w_cl hc.2.1;have h3:=l_t0 hc.2.2.2.2.2.2.2.1;have h4:=l_cl hc.2.2.2.2.2.2.2.1;injection h with h;subst h;refine ⟨Ends_of ?_,?_⟩<;>simp[h1,h2,h3,h4,tmA,tmC])
theorem s65:Sound Try.prog 65 (nestS [(10,true)] d65 ok65):=by
 refine nest_sound Try.func65 nm65 rc65 rv65 ok65 (fun xs a h=>?_) fun xs a h w0 S hS=>?_
 ·unfold d65 at h
  (repeat' (split at h))<;>first|(cases h;done)|exact Nat.le_of_ble_eq_true rfl
 unfold d65 at h
 split at h
 ·split at h
  ·rename_i t0 a b c d e f g t1 t2 ws s t3 t t4 lg x hcond
   injection h with h
   subst h
   have hE:SoundAll Try.prog (EL [(51,rdS d51 ok51),(19,nestS [(7,true)] d19 ok19),(87,rdS d87 ok87)]):=EL_sound (by simp only[List.mem_cons,List.not_mem_nil,or_false,forall_eq_or_imp,forall_eq];exact ⟨s51,s19,s87⟩)
   obtain ⟨hcf,hw,hwl,hs0,hs1,ht0,ht1,hlg,hlgl,hx0,hx1⟩:=hcond
   have hc:=cfg_ex hcf
   have hall:=cfg_all hcf
   have hwd:=words_in (f:=f) (g:=g) (show 0≤a*b by omega) hall.2 (by omega) (by omega)
   have hT:=w_t0 hw
   have hC:=w_cl hw
   have hTl:=l_t0 hlg
   have hCl:=l_cl hlg
   have hs2:s≤1000000000:=by omega
   have hi:(((2*x+1).toNat:Nat):Int)=2*x+1:=by omega
   have hlt:(2*x+1).toNat<ws.length:=by omega
   have hltI:2*x+1<(ws.length:Int):=by omega
   have hn0:0≤2*x+1:=by omega
   have hx9:x≤1000:=by omega
   obtain ⟨hg,hv0,hv1⟩:=w_at hw hlt
   obtain ⟨v,hv⟩:∃ v,wAt ws (2*x+1).toNat=v:=⟨_,rfl⟩
   rw[hv]at hg hv0 hv1⊢
   unfold m65
   repeat' with_reducible (first
    | refine ZR.h ?_ | refine zI (by decide) ?_
    | ((first | refine zK hE ?_ | refine zL hE mixT ?_);intro K hK;simp[KR.ks,KD.ks,KD.cl,q65_0,q65_1,q65_2,hcf,hw,hs0,hs1,hs2,ht0,ht1,hT,hC,hTl,hCl,hx0,hx1,hx9,hltI,hn0,hv,hv0,hv1,tmA,tmC,d51,d19,d87];(repeat' (first | refine hK _ _ ?_ | refine And.intro ?_ ?_ | (intro hc;try subst hc)))<;>(try clear hK K))
    | (refine zJ (b:=_) (by with_unfolding_all rfl) (fun hc=>?_) (fun hc=>?_)<;>simp at hc<;>(try subst hc)))
   all_goals first|(simp;done)|(simp at *;omega)|((try simp[hT,hC,hTl,hCl,tmA,tmC]);refine Imp.auto (by kernel_rfl) ?_ ?_<;>simp[NLe,hT,hC,hTl,hCl,tmA,tmC])
  ·cases h
 ·cases h
end Go.W

namespace Go.W
open Go.Proofs
set_option linter.unusedSimpArgs false
set_option linter.unusedVariables false
set_option maxHeartbeats 8000000
attribute [local irreducible] Wm
attribute [local simp] nmap lkp mkPl prs prsL prT ddL idL CRenL CRen Ren RenL NObj.none CRenLL
theorem wordS_in {s:StZ} {v:Int} (h:wordS s=some v):0≤v∧v<18446744073709551616:=by
 unfold wordS at h
 split at h
 ·cases h
 ·have:=packK_in (by simp[isWd]) 5 v (by simp) h
  have e:(lowZ [[AV.int .i64 4],[AV.int .i64 1],[AV.int .i64 8],[AV.int .i64 16],[AV.int .i64 8]] 5).toNat=37:=by simp[lowZ,cellI]
  rw[e]at this
  omega
theorem recW_in {r:RcZ} {v:Int} (h:recW r=some v):0≤v∧v<18446744073709551616:=by
 unfold recW at h
 split at h
 ·cases h
 ·have:=packK_in (by simp[isWd]) 6 v (by simp) h
  have e:(lowZ [[AV.int .i64 3],[AV.int .i64 16],[AV.int .i64 16],[AV.int .i64 20],[AV.int .i64 5],[AV.int .i64 4]] 6).toNat=64:=by simp[lowZ,cellI]
  rw[e]at this
  omega
def d26:List AV→Option Ans
 | [.op _ [.int .i64 a,.int .i64 b,.int .i64 c,.int .i64 d,.int .i64 e,.int .i64 f,.int .i64 g,.op _ [.os _ 1 ws,.int .i64 s,.bot,.bot,.bot,.bot,.bot],.op _ [.int .u64 t],.os _ 14 lg],.int .i64 x,.int .u64 old,.agg [.int .i64 k,.bool fl,.int .i64 sg,.int .i64 sl,.int .i64 sf]]=>if cfgB a b c d e f g=true∧ws.all isW=true∧ws.length=(a*b*2+a*b*g*(f+1)).toNat∧0≤s∧s≤100000000∧0≤t∧t≤1000000∧lg.all row14=true∧lg.length≤100000∧0≤x∧x<a*b∧-9223372036854775808≤k∧k≤9223372036854775807∧-9223372036854775808≤sg∧sg≤9223372036854775807∧-9223372036854775808≤sl∧sl≤9223372036854775807∧-9223372036854775808≤sf∧sf≤9223372036854775807 then some (match wordS ⟨k,fl,sg,sl,sf⟩ with
  | none=>⟨.bool false,[.cells 0 [.int .i64 a,.int .i64 b,.int .i64 c,.int .i64 d,.int .i64 e,.int .i64 f,.int .i64 g,.op 0 [.os 0 1 ws,.int .i64 s,.bot,.bot,.bot,.bot,.bot],.op 0 [.int .u64 t],.os 0 14 lg]]⟩
  | some v=>if wAt ws (2*x).toNat=old then ⟨.bool true,[.cells 0 [.int .i64 a,.int .i64 b,.int .i64 c,.int .i64 d,.int .i64 e,.int .i64 f,.int .i64 g,.op 0 [.os 0 1 (ws.set (2*x).toNat [.int .u64 v]),.int .i64 (s+1),.bot,.bot,.bot,.bot,.bot],.op 0 [.int .u64 t],.os 0 14 lg]]⟩ else ⟨.bool false,[.cells 0 [.int .i64 a,.int .i64 b,.int .i64 c,.int .i64 d,.int .i64 e,.int .i64 f,.int .i64 g,.op 0 [.os 0 1 ws,.int .i64 (s+1),.bot,.bot,.bot,.bot,.bot],.op 0 [.int .u64 t],.os 0 14 lg]]⟩) else none
 | _=>none
theorem ok26:NOk [(10,true)] d26:=by
 intro xs aa h
 unfold d26 at h
 split at h
 ·split at h
  ·rename_i t0 a b c d e f g t1 t2 ws s t3 t t4 lg x old k fl sg sl sf hc
   have h1:=w_t0 hc.2.1
   have h2:=w_cl hc.2.1
   have h3:=l_t0 hc.2.2.2.2.2.2.2.1
   have h4:=l_cl hc.2.2.2.2.2.2.2.1
   injection h with h;subst h
   cases hv:wordS ⟨k,fl,sg,sl,sf⟩ with
   | none=>refine ⟨Ends_of ?_,?_⟩<;>simp[h1,h2,h3,h4]
   | some v =>
    obtain ⟨v0,v1⟩:=wordS_in hv
    have hws:=w_set hc.2.1 v0 v1 (2*x).toNat
    have h5:=w_t0 hws
    have h6:=w_cl hws
    simp only
    split
    ·refine ⟨Ends_of ?_,?_⟩<;>simp[h1,h2,h3,h4,h5,h6]
    ·refine ⟨Ends_of ?_,?_⟩<;>simp[h1,h2,h3,h4]
  ·cases h
 ·cases h
theorem s26:Sound Try.prog 26 (nestS [(10,true)] d26 ok26):=by
 refine nest_sound Try.func26 nm26 rc26 rv26 ok26 (fun xs a h=>?_) fun xs a h w0 S hS=>?_
 ·unfold d26 at h
  (repeat' (split at h))<;>first|(cases h;done)|exact Nat.le_of_ble_eq_true rfl
 unfold d26 at h
 split at h
 ·split at h
  ·rename_i t0 a b c d e f g t1 t2 ws s t3 t t4 lg x old k fl sg sl sf hcond
   injection h with h
   subst h
   have hE:SoundAll Try.prog (EL [(62,rdS d62 ok62),(50,rdS d50 ok50),(63,nestS [(7,true)] d63 ok63)]):=EL_sound (by simp only[List.mem_cons,List.not_mem_nil,or_false,forall_eq_or_imp,forall_eq];exact ⟨s62,s50,s63⟩)
   obtain ⟨hcf,hw,hwl,hs0,hs1,ht0,ht1,hlg,hlgl,hx0,hx1,hvr⟩:=hcond
   have hc:=cfg_ex hcf
   have hall:=cfg_all hcf
   have hwd:=words_in (f:=f) (g:=g) (show 0≤a*b by omega) hall.2 (by omega) (by omega)
   have hT:=w_t0 hw
   have hC:=w_cl hw
   have hTl:=l_t0 hlg
   have hCl:=l_cl hlg
   have hs2:s≤1000000000:=by omega
   have hi:(((2*x).toNat:Nat):Int)=2*x:=by omega
   have hlt:(2*x).toNat<ws.length:=by omega
   have hltI:2*x<(ws.length:Int):=by omega
   have hn0:0≤2*x:=by omega
   have hx9:x≤1000:=by omega
   cases hv:wordS ⟨k,fl,sg,sl,sf⟩ with
   | none =>
    unfold m26
    repeat' with_reducible (first
     | refine ZR.h ?_ | refine zI (by decide) ?_
     | ((first | refine zK hE ?_ | refine zL hE mixT ?_);intro K hK;simp[KR.ks,KD.ks,KD.cl,q26_0,q26_1,q26_2,q26_3,q26_4,q26_5,hcf,hw,hs0,hs1,hs2,ht0,ht1,hT,hC,hTl,hCl,hx0,hx1,hx9,hvr,hv,packA,d62,d50,d63];(repeat' (first | refine hK _ _ ?_ | refine And.intro ?_ ?_ | (intro hc;try subst hc)))<;>(try clear hK K))
     | (refine zJ (b:=_) (by with_unfolding_all rfl) (fun hc=>?_) (fun hc=>?_)<;>simp at hc<;>(try subst hc)))
    all_goals first|(simp;done)|(simp at *;omega)|((try simp[hT,hC,hTl,hCl]);refine Imp.auto (by kernel_rfl) ?_ ?_<;>simp[NLe,hT,hC,hTl,hCl])
   | some v =>
    obtain ⟨v0,v1⟩:=wordS_in hv
    have hws:=w_set hw v0 v1 (2*x).toNat
    have hT2:=w_t0 hws
    have hC2:=w_cl hws
    simp only
    by_cases he:wAt ws (2*x).toNat=old
    ·rw[if_pos he]
     unfold m26
     repeat' with_reducible (first
      | refine ZR.h ?_ | refine zI (by decide) ?_
      | ((first | refine zK hE ?_ | refine zL hE mixT ?_);intro K hK;simp[KR.ks,KD.ks,KD.cl,q26_0,q26_1,q26_2,q26_3,q26_4,q26_5,hcf,hw,hs0,hs1,hs2,ht0,ht1,hT,hC,hTl,hCl,hT2,hC2,hx0,hx1,hx9,hvr,hv,packA,v0,v1,hltI,hn0,he,d62,d50,d63];(repeat' (first | refine hK _ _ ?_ | refine And.intro ?_ ?_ | (intro hc;try subst hc)))<;>(try clear hK K))
      | (refine zJ (b:=_) (by with_unfolding_all rfl) (fun hc=>?_) (fun hc=>?_)<;>simp at hc<;>(try subst hc)))
     all_goals first|(simp;done)|(simp at *;omega)|((try simp[hT,hC,hTl,hCl,hT2,hC2]);refine Imp.auto (by kernel_rfl) ?_ ?_<;>simp[NLe,hT,hC,hTl,hCl,hT2,hC2])
    ·rw[if_neg he]
     unfold m26
     repeat' with_reducible (first
      | refine ZR.h ?_ | refine zI (by decide) ?_
      | ((first | refine zK hE ?_ | refine zL hE mixT ?_);intro K hK;simp[KR.ks,KD.ks,KD.cl,q26_0,q26_1,q26_2,q26_3,q26_4,q26_5,hcf,hw,hs0,hs1,hs2,ht0,ht1,hT,hC,hTl,hCl,hx0,hx1,hx9,hvr,hv,packA,v0,v1,hltI,hn0,he,d62,d50,d63];(repeat' (first | refine hK _ _ ?_ | refine And.intro ?_ ?_ | (intro hc;try subst hc)))<;>(try clear hK K))
      | (refine zJ (b:=_) (by with_unfolding_all rfl) (fun hc=>?_) (fun hc=>?_)<;>simp at hc<;>(try subst hc)))
     all_goals first|(simp;done)|(simp at *;omega)|((try simp[hT,hC,hTl,hCl]);refine Imp.auto (by kernel_rfl) ?_ ?_<;>simp[NLe,hT,hC,hTl,hCl])
  ·cases h
 ·cases h
def d68:List AV→Option Ans
 | [.op _ [.int .i64 a,.int .i64 b,.int .i64 c,.int .i64 d,.int .i64 e,.int .i64 f,.int .i64 g,.op _ [.os _ 1 ws,.int .i64 s,.bot,.bot,.bot,.bot,.bot],.op _ [.int .u64 t],.os _ 14 lg],.int .i64 x,.int .i64 y,.int .i64 z,.agg [.int .i64 rk,.int .i64 rq,.int .i64 rp,.int .i64 rt,.int .i64 rcc,.int .i64 rg]]=>if cfgB a b c d e f g=true∧ws.all isW=true∧ws.length=(a*b*2+a*b*g*(f+1)).toNat∧0≤s∧s≤100000000∧0≤t∧t≤1000000∧lg.all row14=true∧lg.length≤100000∧-9223372036854775808≤rk∧rk≤9223372036854775807∧-9223372036854775808≤rq∧rq≤9223372036854775807∧-9223372036854775808≤rp∧rp≤9223372036854775807∧-9223372036854775808≤rt∧rt≤9223372036854775807∧-9223372036854775808≤rcc∧rcc≤9223372036854775807∧-9223372036854775808≤rg∧rg≤9223372036854775807 then some (match recW ⟨rk,rq,rp,rt,rcc,rg⟩ with
  | none=>⟨.tup [],[.cells 0 [.int .i64 a,.int .i64 b,.int .i64 c,.int .i64 d,.int .i64 e,.int .i64 f,.int .i64 g,.op 0 [.os 0 1 ws,.int .i64 s,.bot,.bot,.bot,.bot,.bot],.op 0 [.int .u64 t],.os 0 14 lg]]⟩
  | some v=>if slotZ a b f g x y z<0 then ⟨.tup [],[.cells 0 [.int .i64 a,.int .i64 b,.int .i64 c,.int .i64 d,.int .i64 e,.int .i64 f,.int .i64 g,.op 0 [.os 0 1 ws,.int .i64 s,.bot,.bot,.bot,.bot,.bot],.op 0 [.int .u64 t],.os 0 14 lg]]⟩ else if (ws.length:Int)≤slotZ a b f g x y z then ⟨.tup [],[.cells 0 [.int .i64 a,.int .i64 b,.int .i64 c,.int .i64 d,.int .i64 e,.int .i64 f,.int .i64 g,.op 0 [.os 0 1 ws,.int .i64 s,.bot,.bot,.bot,.bot,.bot],.op 0 [.int .u64 t],.os 0 14 lg]]⟩ else ⟨.tup [],[.cells 0 [.int .i64 a,.int .i64 b,.int .i64 c,.int .i64 d,.int .i64 e,.int .i64 f,.int .i64 g,.op 0 [.os 0 1 (ws.set (slotZ a b f g x y z).toNat [.int .u64 v]),.int .i64 (s+1),.bot,.bot,.bot,.bot,.bot],.op 0 [.int .u64 t],.os 0 14 lg]]⟩) else none
 | _=>none
theorem ok68:NOk [(10,true)] d68:=by
 intro xs aa h
 unfold d68 at h
 split at h
 ·split at h
  ·rename_i t0 a b c d e f g t1 t2 ws s t3 t t4 lg x y z rk rq rp rt rcc rg hc
   have h1:=w_t0 hc.2.1
   have h2:=w_cl hc.2.1
   have h3:=l_t0 hc.2.2.2.2.2.2.2.1
   have h4:=l_cl hc.2.2.2.2.2.2.2.1
   injection h with h;subst h
   cases hv:recW ⟨rk,rq,rp,rt,rcc,rg⟩ with
   | none=>refine ⟨Ends_of ?_,?_⟩<;>simp[h1,h2,h3,h4]
   | some v =>
    obtain ⟨v0,v1⟩:=recW_in hv
    have hws:=w_set hc.2.1 v0 v1 (slotZ a b f g x y z).toNat
    have h5:=w_t0 hws
    have h6:=w_cl hws
    simp only
    (repeat' split)<;>(refine ⟨Ends_of ?_,?_⟩<;>simp[h1,h2,h3,h4,h5,h6])
  ·cases h
 ·cases h
theorem s68:Sound Try.prog 68 (nestS [(10,true)] d68 ok68):=by
 refine nest_sound Try.func68 nm68 rc68 rv68 ok68 (fun xs a h=>?_) fun xs a h w0 S hS=>?_
 ·unfold d68 at h
  (repeat' (split at h))<;>first|(cases h;done)|exact Nat.le_of_ble_eq_true rfl
 unfold d68 at h
 split at h
 ·split at h
  ·rename_i t0 a b c d e f g t1 t2 ws s t3 t t4 lg x y z rk rq rp rt rcc rg hcond
   injection h with h
   subst h
   have hE:SoundAll Try.prog (EL [(91,rdS d91 ok91),(20,rdS d20 ok20),(49,nestS [(7,true)] d49 ok49)]):=EL_sound (by simp only[List.mem_cons,List.not_mem_nil,or_false,forall_eq_or_imp,forall_eq];exact ⟨s91,s20,s49⟩)
   obtain ⟨hcf,hw,hwl,hs0,hs1,ht0,ht1,hlg,hlgl,hvr⟩:=hcond
   have hc:=cfg_ex hcf
   have hall:=cfg_all hcf
   have hwd:=words_in (f:=f) (g:=g) (show 0≤a*b by omega) hall.2 (by omega) (by omega)
   have hT:=w_t0 hw
   have hC:=w_cl hw
   have hTl:=l_t0 hlg
   have hCl:=l_cl hlg
   have hs2:s≤1000000000:=by omega
   obtain ⟨i,hi⟩:∃ i,slotZ a b f g x y z=i:=⟨_,rfl⟩
   rw[hi]
   cases hv:recW ⟨rk,rq,rp,rt,rcc,rg⟩ with
   | none =>
    unfold m68
    repeat' with_reducible (first
     | refine ZR.h ?_ | refine zI (by decide) ?_
     | ((first | refine zK hE ?_ | refine zL hE mixT ?_);intro K hK;simp[KR.ks,KD.ks,KD.cl,q68_0,q68_1,q68_2,q68_3,hcf,hw,hs0,hs1,hs2,ht0,ht1,hT,hC,hTl,hCl,hvr,hv,packA,d91,d20,d49];(repeat' (first | refine hK _ _ ?_ | refine And.intro ?_ ?_ | (intro hc;try subst hc)))<;>(try clear hK K))
     | (refine zJ (b:=_) (by with_unfolding_all rfl) (fun hc=>?_) (fun hc=>?_)<;>simp at hc<;>(try subst hc)))
    all_goals first|(simp;done)|(simp at *;omega)|((try simp[hT,hC,hTl,hCl]);refine Imp.auto (by kernel_rfl) ?_ ?_<;>simp[NLe,hT,hC,hTl,hCl])
   | some v =>
    obtain ⟨v0,v1⟩:=recW_in hv
    have hws:=w_set hw v0 v1 i.toNat
    have hT2:=w_t0 hws
    have hC2:=w_cl hws
    simp only
    by_cases h1:i<0
    ·rw[if_pos h1]
     unfold m68
     repeat' with_reducible (first
      | refine ZR.h ?_ | refine zI (by decide) ?_
      | ((first | refine zK hE ?_ | refine zL hE mixT ?_);intro K hK;simp[KR.ks,KD.ks,KD.cl,q68_0,q68_1,q68_2,q68_3,hcf,hw,hs0,hs1,hs2,ht0,ht1,hT,hC,hTl,hCl,hvr,hv,packA,v0,v1,hi,h1,d91,d20,d49];(repeat' (first | refine hK _ _ ?_ | refine And.intro ?_ ?_ | (intro hc;try subst hc)))<;>(try clear hK K))
      | (refine zJ (b:=_) (by with_unfolding_all rfl) (fun hc=>?_) (fun hc=>?_)<;>simp at hc<;>(try subst hc)))
     all_goals first|(simp;done)|(simp at *;omega)|((try simp[hT,hC,hTl,hCl]);refine Imp.auto (by kernel_rfl) ?_ ?_<;>simp[NLe,hT,hC,hTl,hCl])
    ·rw[if_neg h1]
     by_cases h2:(ws.length:Int)≤i
     ·rw[if_pos h2]
      unfold m68
      repeat' with_reducible (first
       | refine ZR.h ?_ | refine zI (by decide) ?_
       | ((first | refine zK hE ?_ | refine zL hE mixT ?_);intro K hK;simp[KR.ks,KD.ks,KD.cl,q68_0,q68_1,q68_2,q68_3,hcf,hw,hs0,hs1,hs2,ht0,ht1,hT,hC,hTl,hCl,hvr,hv,packA,v0,v1,hi,h1,h2,d91,d20,d49];(repeat' (first | refine hK _ _ ?_ | refine And.intro ?_ ?_ | (intro hc;try subst hc)))<;>(try clear hK K))
       | (refine zJ (b:=_) (by with_unfolding_all rfl) (fun hc=>?_) (fun hc=>?_)<;>simp at hc<;>(try subst hc)))
      all_goals first|(simp;done)|(simp at *;omega)|((try simp[hT,hC,hTl,hCl]);refine Imp.auto (by kernel_rfl) ?_ ?_<;>simp[NLe,hT,hC,hTl,hCl])
     ·rw[if_neg h2]
      unfold m68
      repeat' with_reducible (first
       | refine ZR.h ?_ | refine zI (by decide) ?_
       | ((first | refine zK hE ?_ | refine zL hE mixT ?_);intro K hK;simp[KR.ks,KD.ks,KD.cl,q68_0,q68_1,q68_2,q68_3,hcf,hw,hs0,hs1,hs2,ht0,ht1,hT,hC,hTl,hCl,hT2,hC2,hvr,hv,packA,v0,v1,hi,h1,h2,d91,d20,d49];(repeat' (first | refine hK _ _ ?_ | refine And.intro ?_ ?_ | (intro hc;try subst hc)))<;>(try clear hK K))
       | (refine zJ (b:=_) (by with_unfolding_all rfl) (fun hc=>?_) (fun hc=>?_)<;>simp at hc<;>(try subst hc)))
      all_goals first|(simp;done)|(simp at *;omega)|((try simp[hT,hC,hTl,hCl,hT2,hC2]);refine Imp.auto (by kernel_rfl) ?_ ?_<;>simp[NLe,hT,hC,hTl,hCl,hT2,hC2])
  ·cases h
 ·cases h
def d23:List AV→Option Ans
 | [.op _ [.int .i64 a,.int .i64 b,.int .i64 c,.int .i64 d,.int .i64 e,.int .i64 f,.int .i64 g,.op _ [.os _ 1 ws,.int .i64 s,.bot,.bot,.bot,.bot,.bot],.op _ [.int .u64 t],.os _ 14 lg],.agg [.int .i64 y0,.int .i64 y1,.int .i64 y2,.int .i64 y3,.int .i64 y4,.int .i64 y5,.int .i64 y6,.int .i64 y7,.int .i64 y8,.int .i64 y9,.int .i64 y10,.int .i64 y11,.int .i64 y12,.int .i64 y13]]=>if cfgB a b c d e f g=true∧ws.all isW=true∧ws.length=(a*b*2+a*b*g*(f+1)).toNat∧0≤s∧s≤100000000∧0≤t∧t≤1000000∧lg.all row14=true∧lg.length≤100000 then some ⟨.tup [],[.cells 0 [.int .i64 a,.int .i64 b,.int .i64 c,.int .i64 d,.int .i64 e,.int .i64 f,.int .i64 g,.op 0 [.os 0 1 ws,.int .i64 s,.bot,.bot,.bot,.bot,.bot],.op 0 [.int .u64 t],.os 0 14 (lg++[([.int .i64 y0,.int .i64 y1,.int .i64 y2,.int .i64 y3,.int .i64 y4,.int .i64 y5,.int .i64 y6,.int .i64 y7,.int .i64 y8,.int .i64 y9,.int .i64 y10,.int .i64 y11,.int .i64 t,.int .i64 y13]:List AV)])]]⟩ else none
 | _=>none
theorem ok23:NOk [(10,true)] d23:=by
 intro xs aa h
 unfold d23 at h
 split at h
 ·split at h
  ·rename_i t0 a b c d e f g t1 t2 ws s t3 t t4 lg y0 y1 y2 y3 y4 y5 y6 y7 y8 y9 y10 y11 y12 y13 hc
   have h1:=w_t0 hc.2.1
   have h2:=w_cl hc.2.1
   have h3:=l_t0 hc.2.2.2.2.2.2.2.1
   have h4:=l_cl hc.2.2.2.2.2.2.2.1
   injection h with h;subst h
   have hl2:((lg++[([.int .i64 y0,.int .i64 y1,.int .i64 y2,.int .i64 y3,.int .i64 y4,.int .i64 y5,.int .i64 y6,.int .i64 y7,.int .i64 y8,.int .i64 y9,.int .i64 y10,.int .i64 y11,.int .i64 t,.int .i64 y13]:List AV)])).all row14=true:=by rw[List.all_append,hc.2.2.2.2.2.2.2.1];rfl
   have h5:=l_t0 hl2
   have h6:=l_cl hl2
   refine ⟨Ends_of ?_,?_⟩<;>simp[h1,h2,h3,h4,h5,h6]
  ·cases h
 ·cases h
theorem s23:Sound Try.prog 23 (nestS [(10,true)] d23 ok23):=by
 refine nest_sound Try.func23 nm23 rc23 rv23 ok23 (fun xs a h=>?_) fun xs a h w0 S hS=>?_
 ·unfold d23 at h
  (repeat' (split at h))<;>first|(cases h;done)|exact Nat.le_of_ble_eq_true rfl
 unfold d23 at h
 split at h
 ·split at h
  ·rename_i t0 a b c d e f g t1 t2 ws s t3 t t4 lg y0 y1 y2 y3 y4 y5 y6 y7 y8 y9 y10 y11 y12 y13 hcond
   injection h with h
   subst h
   have hE:SoundAll Try.prog (EL [(24,nestS [(1,false)] d24 ok24)]):=EL_sound (by simp only[List.mem_cons,List.not_mem_nil,or_false,forall_eq_or_imp,forall_eq];exact s24)
   obtain ⟨hcf,hw,hwl,hs0,hs1,ht0,ht1,hlg,hlgl⟩:=hcond
   have hc:=cfg_ex hcf
   have hall:=cfg_all hcf
   have hwd:=words_in (f:=f) (g:=g) (show 0≤a*b by omega) hall.2 (by omega) (by omega)
   have hT:=w_t0 hw
   have hC:=w_cl hw
   have hTl:=l_t0 hlg
   have hCl:=l_cl hlg
   have hs2:s≤1000000000:=by omega
   have hl2:((lg++[([.int .i64 y0,.int .i64 y1,.int .i64 y2,.int .i64 y3,.int .i64 y4,.int .i64 y5,.int .i64 y6,.int .i64 y7,.int .i64 y8,.int .i64 y9,.int .i64 y10,.int .i64 y11,.int .i64 t,.int .i64 y13]:List AV)])).all row14=true:=by rw[List.all_append,hlg];rfl
   have hT2:=l_t0 hl2
   have hC2:=l_cl hl2
   have htl:=fun n=>l_tl (n:=n) hlg
   have hb1:(lg.length+1)*112≤140737488355328:=by omega
   have hb2:lg.length+1≤9223372036854775807:=by omega
   unfold m23
   repeat' with_reducible (first
    | refine ZR.h ?_ | refine zI (by decide) ?_
    | ((first | refine zK hE ?_ | refine zL hE mixT ?_);intro K hK;simp[KR.ks,KD.ks,KD.cl,q23_0,q23_1,q23_2,hcf,hw,hs0,hs1,hs2,ht0,ht1,hT,hC,hTl,hCl,hb1,hb2,htl,d24];(repeat' (first | refine hK _ _ ?_ | refine And.intro ?_ ?_ | (intro hc;try subst hc)))<;>(try clear hK K))
    | (refine zJ (b:=_) (by with_unfolding_all rfl) (fun hc=>?_) (fun hc=>?_)<;>simp at hc<;>(try subst hc)))
   all_goals ((try simp);refine Imp.trans (Imp.absorb (.top 0) 0 9 121 (by rfl) (by rfl) (by rfl) (.inl ⟨0,14,(lg++[([.int .i64 y0,.int .i64 y1,.int .i64 y2,.int .i64 y3,.int .i64 y4,.int .i64 y5,.int .i64 y6,.int .i64 y7,.int .i64 y8,.int .i64 y9,.int .i64 y10,.int .i64 y11,.int .i64 t,.int .i64 y13]:List AV)]),by simp,by rfl⟩) (by simp)) ?_)
   all_goals (refine Imp.auto (by kernel_rfl) ?_ ?_<;>simp[NLe,hT,hC,hTl,hCl,hT2,hC2,absorbG,newcell])
  ·cases h
 ·cases h
end Go.W

namespace Go.W
open Go.Proofs
set_option linter.unusedSimpArgs false
set_option linter.unusedVariables false
set_option maxHeartbeats 8000000
attribute [local irreducible] Wm
attribute [local simp] nmap lkp mkPl prs prsL prT ddL idL CRenL CRen Ren RenL NObj.none CRenLL
structure TZ where
 way:Int
 x:Int
 gn:Int
 y:Int
 sh:Int
 pc:Int
 wx:Int
 wy:Int
 tx:TmZ
 ty:TmZ
 held:Bool
 made:Bool
 free:Bool
 q:Int
 p:Int
 ta:Int
 en:Int
 nx:StZ
 ny:StZ
structure WZ where
 a:Int
 b:Int
 c:Int
 d:Int
 e:Int
 f:Int
 g:Int
 ws:List (List AV)
 s:Int
 t:Int
 lg:List (List AV)
def tzC (T:TZ):List AV:=[.int .i64 T.way,.int .i64 T.x,.int .i64 T.gn,.int .i64 T.y,.int .i64 T.sh,.int .i64 T.pc,.int .u64 T.wx,.int .u64 T.wy,.int .i64 T.tx.nm,.int .i64 T.tx.sd,.int .i64 T.tx.pr,.int .i64 T.tx.le,.int .i64 T.tx.un,.int .i64 T.ty.nm,.int .i64 T.ty.sd,.int .i64 T.ty.pr,.int .i64 T.ty.le,.int .i64 T.ty.un,.bool T.held,.bool T.made,.bool T.free,.int .i64 T.q,.int .i64 T.p,.int .i64 T.ta,.int .i64 T.en,.int .i64 T.nx.k,.bool T.nx.fl,.int .i64 T.nx.g,.int .i64 T.nx.l,.int .i64 T.nx.f,.int .i64 T.ny.k,.bool T.ny.fl,.int .i64 T.ny.g,.int .i64 T.ny.l,.int .i64 T.ny.f]
def tzOf:List AV→Option TZ
 | .int .i64 v0 :: .int .i64 v1 :: .int .i64 v2 :: .int .i64 v3 :: .int .i64 v4 :: .int .i64 v5 :: .int .u64 v6 :: .int .u64 v7 :: .int .i64 v8 :: .int .i64 v9 :: .int .i64 v10 :: .int .i64 v11 :: .int .i64 v12 :: .int .i64 v13 :: .int .i64 v14 :: .int .i64 v15 :: .int .i64 v16 :: .int .i64 v17 :: .bool v18 :: .bool v19 :: .bool v20 :: .int .i64 v21 :: .int .i64 v22 :: .int .i64 v23 :: .int .i64 v24 :: .int .i64 v25 :: .bool v26 :: .int .i64 v27 :: .int .i64 v28 :: .int .i64 v29 :: .int .i64 v30 :: .bool v31 :: .int .i64 v32 :: .int .i64 v33 :: .int .i64 v34 :: []=>some ⟨v0,v1,v2,v3,v4,v5,v6,v7,⟨v8,v9,v10,v11,v12⟩,⟨v13,v14,v15,v16,v17⟩,v18,v19,v20,v21,v22,v23,v24,⟨v25,v26,v27,v28,v29⟩,⟨v30,v31,v32,v33,v34⟩⟩
 | _=>none
theorem tzOf_C (T:TZ):tzOf (tzC T)=some T:=rfl
theorem tzOf_ex {c:List AV} {T:TZ} (h:tzOf c=some T):c=tzC T:=by
 unfold tzOf at h
 split at h
 ·injection h with h;subst h;rfl
 ·cases h
def wzL (W:WZ) (u1 u2 u3 u4:Nat):List AV:=[.int .i64 W.a,.int .i64 W.b,.int .i64 W.c,.int .i64 W.d,.int .i64 W.e,.int .i64 W.f,.int .i64 W.g,.op u1 [.os u2 1 W.ws,.int .i64 W.s,.bot,.bot,.bot,.bot,.bot],.op u3 [.int .u64 W.t],.os u4 14 W.lg]
def wzC (W:WZ):List AV:=[.int .i64 W.a,.int .i64 W.b,.int .i64 W.c,.int .i64 W.d,.int .i64 W.e,.int .i64 W.f,.int .i64 W.g,.op 0 [.os 0 1 W.ws,.int .i64 W.s,.bot,.bot,.bot,.bot,.bot],.op 0 [.int .u64 W.t],.os 0 14 W.lg]
def wzOf:List AV→Option WZ
 | [.int .i64 a,.int .i64 b,.int .i64 c,.int .i64 d,.int .i64 e,.int .i64 f,.int .i64 g,.op _ [.os _ 1 ws,.int .i64 s,.bot,.bot,.bot,.bot,.bot],.op _ [.int .u64 t],.os _ 14 lg]=>some ⟨a,b,c,d,e,f,g,ws,s,t,lg⟩
 | _=>none
theorem wzOf_C (W:WZ) (u1 u2 u3 u4:Nat):wzOf (wzL W u1 u2 u3 u4)=some W:=rfl
theorem wzOf_ex {c:List AV} {W:WZ} (h:wzOf c=some W):∃ u1 u2 u3 u4,c=wzL W u1 u2 u3 u4:=by
 unfold wzOf at h
 split at h
 ·rename_i u1 u2 ws s u3 t u4 lg
  injection h with h;subst h;exact ⟨_,_,_,_,rfl⟩
 ·cases h
def okW (W:WZ):Bool:=decide (cfgB W.a W.b W.c W.d W.e W.f W.g=true∧W.ws.all isW=true∧W.ws.length=(W.a*W.b*2+W.a*W.b*W.g*(W.f+1)).toNat∧0≤W.s∧0≤W.t∧W.t≤1000000∧W.lg.all row14=true)
theorem okW_ex {W:WZ} (h:okW W=true):cfgB W.a W.b W.c W.d W.e W.f W.g=true∧W.ws.all isW=true∧W.ws.length=(W.a*W.b*2+W.a*W.b*W.g*(W.f+1)).toNat∧0≤W.s∧0≤W.t∧W.t≤1000000∧W.lg.all row14=true:=of_decide_eq_true h
def okS (s:StZ):Bool:=decide (0≤s.k∧s.k≤1000000∧0≤s.g∧s.g≤1000000∧0≤s.l∧s.l≤1000000∧0≤s.f∧s.f≤1000000)
theorem okS_ex {s:StZ} (h:okS s=true):0≤s.k∧s.k≤1000000∧0≤s.g∧s.g≤1000000∧0≤s.l∧s.l≤1000000∧0≤s.f∧s.f≤1000000:=of_decide_eq_true h
def okT (T:TZ):Bool:=decide (0≤T.pc∧T.pc≤1000000∧0≤T.wx∧T.wx<18446744073709551616∧0≤T.wy∧T.wy<18446744073709551616∧0≤T.tx.pr∧T.tx.pr≤1000000∧0≤T.ty.pr∧T.ty.pr≤1000000∧0≤T.q∧T.q≤1000000∧0≤T.p∧T.p≤1000000∧0≤T.ta∧T.ta≤1000000∧0≤T.en∧T.en≤1000000∧okS T.nx=true∧okS T.ny=true)
theorem okT_ex {T:TZ} (h:okT T=true):0≤T.pc∧T.pc≤1000000∧0≤T.wx∧T.wx<18446744073709551616∧0≤T.wy∧T.wy<18446744073709551616∧0≤T.tx.pr∧T.tx.pr≤1000000∧0≤T.ty.pr∧T.ty.pr≤1000000∧0≤T.q∧T.q≤1000000∧0≤T.p∧T.p≤1000000∧0≤T.ta∧T.ta≤1000000∧0≤T.en∧T.en≤1000000∧okS T.nx=true∧okS T.ny=true:=of_decide_eq_true h
theorem tz_t0 (T:TZ):t0L (tzC T)=tzC T:=by simp[tzC,t0L,AV.t0]
theorem tz_cl (T:TZ):clL (tzC T)=true:=by simp[tzC,clL,AV.cl]
def idleT (W:WZ) (T:TZ):Bool:=decide (ownZ W.a W.b T.x<0∨ownZ W.a W.b T.y<0∨ownZ W.a W.b T.x=ownZ W.a W.b T.y)
def wantsT (W:WZ) (T:TZ) (s:StZ):Bool:=decide ((T.way=1∨T.way=2)∧s.k=1∧s.g=T.gn∨T.way=3∧s.k=2∧T.tx.sd=0∧shardZ W.c W.d T.tx.nm (bandZ W.d T.tx.pr)=T.sh)
def findsT (W:WZ) (T:TZ) (s:StZ):Bool:=decide (T.way=1∧s.k=1∨T.way=2∧s.k=2∧shardZ W.c W.d T.ty.nm (bandZ W.d T.ty.pr)=T.sh∨T.way=3∧s.k=2)
theorem own_in {a b c d e f g x:Int} (h:cfgB a b c d e f g=true):ownZ a b x ≥ -1∧ownZ a b x≤1000:=by
 have hc:=cfg_ex h
 have ha:=cfg_all h
 unfold ownZ
 split
 ·omega
 ·split
  ·have h1:=Int.ediv_nonneg (show 0≤x by omega) (show 0≤b by omega)
   have h2:=Int.ediv_le_self b (show 0≤x by omega)
   omega
  ·omega
def d53:List AV→Option Ans
 | [.op _ tc,.op _ wc]=>(match tzOf tc,wzOf wc with
  | some T,some W=>if okW W=true then some (⟨.bool (idleT W T),[.free,.free]⟩) else none
  | _,_=>none)
 | _=>none
theorem ok53:NOk [(35,false),(10,false)] d53:=by
 intro xs aa h
 unfold d53 at h
 split at h
 ·rename_i t1 tc t2 wc
  split at h
  ·rename_i T W hTc hWc
   split at h
   ·rename_i hc
    obtain ⟨u1,u2,u3,u4,rfl⟩:=wzOf_ex hWc
    obtain rfl:=tzOf_ex hTc
    injection h with h;subst h
    obtain ⟨hcf,hw,hwl,hs0,ht0,ht1,hlg⟩:=okW_ex hc
    have hT:=w_t0 hw
    have hC:=w_cl hw
    have hTl:=l_t0 hlg
    have hCl:=l_cl hlg
    refine ⟨Ends_of ?_,?_⟩<;>simp[tzC,wzL,hT,hC,hTl,hCl]
   ·cases h
  ·cases h
 ·cases h
theorem s53:Sound Try.prog 53 (nestS [(35,false),(10,false)] d53 ok53):=by
 refine nest_sound Try.func53 nm53 rc53 rv53 ok53 (fun xs a h=>?_) fun xs a h w0 S hS=>?_
 ·unfold d53 at h
  (repeat' (split at h))<;>first|(cases h;done)|exact Nat.le_of_ble_eq_true rfl
 unfold d53 at h
 split at h
 ·rename_i t1 tc t2 wc
  split at h
  ·rename_i T W hTc hWc
   split at h
   ·rename_i hcond
    obtain ⟨u1,u2,u3,u4,rfl⟩:=wzOf_ex hWc
    obtain rfl:=tzOf_ex hTc
    injection h with h
    subst h
    clear hTc hWc
    have hE:SoundAll Try.prog (EL [(76,rdS d76 ok76)]):=EL_sound (by simp only[List.mem_cons,List.not_mem_nil,or_false,forall_eq_or_imp,forall_eq];exact s76)
    obtain ⟨hcf,hw,hwl,hs0,ht0,ht1,hlg⟩:=okW_ex hcond
    have hT:=w_t0 hw
    have hC:=w_cl hw
    have hTl:=l_t0 hlg
    have hCl:=l_cl hlg
    simp only[tzC,wzL]at hS⊢
    have e1:ownZ W.a W.b T.x ≥ -1∧ownZ W.a W.b T.x≤1000:=own_in hcf
    have e2:ownZ W.a W.b T.y ≥ -1∧ownZ W.a W.b T.y≤1000:=own_in hcf
    by_cases h1:ownZ W.a W.b T.x<0
    ·have hi:idleT W T=true:=by simp[idleT,h1]
     rw[hi]
     unfold m53
     repeat' with_reducible (first
      | refine ZR.h ?_ | refine zI (by decide) ?_
      | ((first | refine zK hE ?_ | refine zL hE mixT ?_);intro K hK;simp[KR.ks,KD.ks,KD.cl,q53_0,q53_1,q53_2,hT,hC,hTl,hCl,hcf,h1,d76];(repeat' (first | refine hK _ _ ?_ | refine And.intro ?_ ?_ | (intro hc;try subst hc)))<;>(try clear hK K))
      | (refine zJ (b:=_) (by with_unfolding_all rfl) (fun hc=>?_) (fun hc=>?_)<;>simp at hc<;>(try subst hc)))
     all_goals first|(simp;done)|(simp at *;omega)|((try simp[hT,hC,hTl,hCl]);refine Imp.auto (by kernel_rfl) ?_ ?_<;>simp[NLe,hT,hC,hTl,hCl])
    ·by_cases h2:ownZ W.a W.b T.y<0
     ·have hi:idleT W T=true:=by simp[idleT,h2]
      rw[hi]
      unfold m53
      repeat' with_reducible (first
       | refine ZR.h ?_ | refine zI (by decide) ?_
       | ((first | refine zK hE ?_ | refine zL hE mixT ?_);intro K hK;simp[KR.ks,KD.ks,KD.cl,q53_0,q53_1,q53_2,hT,hC,hTl,hCl,hcf,h1,h2,d76];(repeat' (first | refine hK _ _ ?_ | refine And.intro ?_ ?_ | (intro hc;try subst hc)))<;>(try clear hK K))
       | (refine zJ (b:=_) (by with_unfolding_all rfl) (fun hc=>?_) (fun hc=>?_)<;>simp at hc<;>(try subst hc)))
      all_goals first|(simp;done)|(simp at *;omega)|((try simp[hT,hC,hTl,hCl]);refine Imp.auto (by kernel_rfl) ?_ ?_<;>simp[NLe,hT,hC,hTl,hCl])
     ·by_cases h3:ownZ W.a W.b T.x=ownZ W.a W.b T.y
      ·have hi:idleT W T=true:=by simp[idleT,h3]
       rw[hi]
       unfold m53
       repeat' with_reducible (first
        | refine ZR.h ?_ | refine zI (by decide) ?_
        | ((first | refine zK hE ?_ | refine zL hE mixT ?_);intro K hK;simp[KR.ks,KD.ks,KD.cl,q53_0,q53_1,q53_2,hT,hC,hTl,hCl,hcf,h1,h2,h3,d76];(repeat' (first | refine hK _ _ ?_ | refine And.intro ?_ ?_ | (intro hc;try subst hc)))<;>(try clear hK K))
        | (refine zJ (b:=_) (by with_unfolding_all rfl) (fun hc=>?_) (fun hc=>?_)<;>simp at hc<;>(try subst hc)))
       all_goals first|(simp;done)|(simp at *;omega)|((try simp[hT,hC,hTl,hCl]);refine Imp.auto (by kernel_rfl) ?_ ?_<;>simp[NLe,hT,hC,hTl,hCl])
      ·have hi:idleT W T=false:=by simp[idleT,h1,h2,h3]
       rw[hi]
       unfold m53
       repeat' with_reducible (first
        | refine ZR.h ?_ | refine zI (by decide) ?_
        | ((first | refine zK hE ?_ | refine zL hE mixT ?_);intro K hK;simp[KR.ks,KD.ks,KD.cl,q53_0,q53_1,q53_2,hT,hC,hTl,hCl,hcf,h1,h2,h3,d76];(repeat' (first | refine hK _ _ ?_ | refine And.intro ?_ ?_ | (intro hc;try subst hc)))<;>(try clear hK K))
        | (refine zJ (b:=_) (by with_unfolding_all rfl) (fun hc=>?_) (fun hc=>?_)<;>simp at hc<;>(try subst hc)))
       all_goals first|(simp;done)|(simp at *;omega)|((try simp[hT,hC,hTl,hCl]);refine Imp.auto (by kernel_rfl) ?_ ?_<;>simp[NLe,hT,hC,hTl,hCl])
   ·cases h
  ·cases h
 ·cases h
end Go.W

