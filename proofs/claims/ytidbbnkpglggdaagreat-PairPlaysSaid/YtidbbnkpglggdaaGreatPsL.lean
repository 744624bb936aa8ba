/- A part of the proofs about the pair's laws (PsJ, PsK, PsL). -/
import Derived.Test.YtidbbnkpglggdaaGreatPsI
import Derived.Test.YtidbbnkpglggdaaGreatPqB
namespace Go.W
open Go.Proofs
set_option linter.unusedSimpArgs false
set_option linter.unusedVariables false
set_option maxHeartbeats 8000000
attribute [local irreducible] Wm
attribute [local simp] Y5 lkp VW prs Uv prT ddL idL YN Um Ren Vt NObj.none Z4
def d97:List AV→List NObj→Option AV
 | [.agg [.int .i64 a,.int .i64 b,.int .i64 c,.int .i64 d,.int .i64 e,.int .i64 f,.int .i64 g],.agg [.int .i64 n0,.int .i64 n1,.int .i64 n2,.int .i64 n3,.int .i64 n4]],[]=>if XX a b c d e f g=true then some (.int .i64 (YG c d n0 (Y9 d n2))) else none
 | _,_=>none
theorem ok97:ROk d97:=by
 intro xs os r h;unfold d97 at h
 (repeat' (split at h))<;>first|(cases h;done)|(injection h with h;subst h;simp)
theorem s97:Sound Tryz.prog 97 (rdS d97 ok97):=by
 refine Zo C97.a C97.b C97.c C97.d ok97 fun xs os r h vs ρ0 hvs=>⟨xs,?_,fun _ h=>h,fun w0 S hS=>?_⟩
 ·unfold d97 at h
  (repeat' (split at h))<;>first|(cases h;done)|exact Nat.le_of_ble_eq_true rfl
 unfold d97 at h;split at h
 ·split at h
  ·rename_i a b c d e f g n0 n1 n2 n3 n4 hcond
   injection h with h;subst h;have hE:Zb Tryz.prog (EL [(116,rdS d116 ok116),(117,rdS d117 ok117)]):=Zd (by simp only[List.mem_cons,List.not_mem_nil,or_false,forall_eq_or_imp,forall_eq];exact ⟨s116,s117⟩);unfold m97
   repeat' with_reducible (first|refine ZR.h ?_|refine zI ?_|((first|refine zK hE ?_|refine zM hE ?_);intro K hK;simp[hcond,d116,d117];(repeat' (first|refine hK _ _ ?_|apply And.intro|(intro hc;try subst hc)))<;>(try clear hK K))|(refine zJ (fun hc=>?_) (fun hc=>?_)<;>simp at hc<;>(try subst hc)))
   all_goals first|(simp;done)|(simp at *;omega)|((try simp);refine Imp.aut ?_ ?_<;>simp[NLe])
  ·cases h
 ·cases h
def ZdZ (c:List AV):Bool:=c.all (fun v=>match v with|.int .i64 _=>true|_=>false)
def row14 (c:List AV):Bool:=ZdZ c&&decide (c.length=14)
theorem Zcb:∀ {c:List AV},ZdZ c=true→t0L c=c
 | [],_=>rfl
 | v :: r,h=>by
  simp only[ZdZ,List.all_cons,Bool.and_eq_true]at h;have:=Zcb (c:=r) h.2;cases v<;>simp at h;simp[t0L,AV.t0,this]
theorem Zb1:∀ {c:List AV},ZdZ c=true→clL c=true
 | [],_=>rfl
 | v :: r,h=>by
  simp only[ZdZ,List.all_cons,Bool.and_eq_true]at h;have:=Zb1 (c:=r) h.2;cases v<;>simp at h;simp[clL,AV.cl,this]
theorem Zcs {n:Nat}:∀ {c:List AV},ZdZ c=true→tlL n c=true
 | [],_=>rfl
 | v :: r,h=>by
  simp only[ZdZ,List.all_cons,Bool.and_eq_true]at h;have:=Zcs (n:=n) (c:=r) h.2;cases v<;>simp at h;simp[tlL,AV.tl,this]
theorem ZF:∀ {els:List (List AV)},els.all row14=true→ZG els=els
 | [],_=>rfl
 | c :: r,h=>by
  simp only[List.all_cons,Bool.and_eq_true,row14]at h;simp[ZG,Zcb h.1.1,ZF (els:=r) (by simpa [row14] using h.2)]
theorem ZE:∀ {els:List (List AV)},els.all row14=true→Yp els=true
 | [],_=>rfl
 | c :: r,h=>by
  simp only[List.all_cons,Bool.and_eq_true,row14]at h;simp[Yp,Zb1 h.1.1,ZE (els:=r) (by simpa [row14] using h.2)]
theorem l_tl {n:Nat}:∀ {els:List (List AV)},els.all row14=true→UD n els=true
 | [],_=>rfl
 | c :: r,h=>by
  simp only[List.all_cons,Bool.and_eq_true,row14]at h;simp[UD,Zcs h.1.1,l_tl (els:=r) (by simpa [row14] using h.2)]
def d42:List AV→Option Ans
 | [.op _ [.int .i64 a,.int .i64 b,.int .i64 c,.int .i64 d,.int .i64 e,.int .i64 f,.int .i64 g,.op _ [.os _ 1 ws,.int .i64 s,.bot,.bot,.bot,.bot,.bot],.op _ [.int .u64 t],.os _ 14 lg],.int .i64 x]=>if XX a b c d e f g=true∧ws.all isW=true∧ws.length=(a*b*2+a*b*g*(f+1)).toNat∧0≤s∧s≤100000000∧0≤t∧t≤1000000∧lg.all row14=true∧lg.length≤100000∧0≤x∧x<a*b then some ⟨.tup [.int .u64 (wAt ws (2*x).toNat),stA (Za (wAt ws (2*x).toNat))],[.cells 0 [.int .i64 a,.int .i64 b,.int .i64 c,.int .i64 d,.int .i64 e,.int .i64 f,.int .i64 g,.op 0 [.os 0 1 ws,.int .i64 (s+1),.bot,.bot,.bot,.bot,.bot],.op 0 [.int .u64 t],.os 0 14 lg]]⟩ else none
 | _=>none
theorem ok42:NOk [(10,true)] d42:=by
 intro xs a h;unfold d42 at h
 (repeat' (split at h))<;>first|(cases h;done)|(rename_i hc;have h1:=ZZ hc.2.1;have h2:=Z0 hc.2.1;have h3:=ZF hc.2.2.2.2.2.2.2.1;have h4:=ZE hc.2.2.2.2.2.2.2.1;injection h with h;subst h;refine ⟨Zq ?_,?_⟩<;>simp[h1,h2,h3,h4,stA])
theorem s42:Sound Tryz.prog 42 (Zi [(10,true)] d42 ok42):=by
 refine Zj C42.a C42.b C42.c C42.d ok42 (fun xs a h=>?_) fun xs a h w0 S hS=>?_
 ·unfold d42 at h
  (repeat' (split at h))<;>first|(cases h;done)|exact Nat.le_of_ble_eq_true rfl
 unfold d42 at h;split at h
 ·split at h
  ·rename_i t0 a b c d e f g t1 t2 ws s t3 t t4 lg x hcond
   injection h with h;subst h;have hE:Zb Tryz.prog (EL [(39,rdS d39 ok39),(77,Zi [(7,true)] d77 ok77),(58,rdS d58 ok58)]):=Zd (by simp only[List.mem_cons,List.not_mem_nil,or_false,forall_eq_or_imp,forall_eq];exact ⟨s39,s77,s58⟩);obtain ⟨hcf,hw,hwl,hs0,hs1,ht0,ht1,hlg,hlgl,hx0,hx1⟩:=hcond;have hc:=ZH hcf;have hall:=ZJ hcf;have hwd:=Yl (f:=f) (g:=g) (show 0≤a*b by omega) hall.2 (by omega) (by omega);have hT:=ZZ hw;have hC:=Z0 hw;have hTl:=ZF hlg;have hCl:=ZE hlg;have hs2:s≤1000000000:=(by omega);have hi:(((2*x).toNat:Nat):Int)=2*x:=(by omega);have hlt:(2*x).toNat<ws.length:=(by omega);have hltI:2*x<(ws.length:Int):=(by omega);have hn0:0≤2*x:=(by omega);have hx9:x≤1000:=(by omega);obtain ⟨hg,hv0,hv1⟩:=ZfU hw hlt;obtain ⟨v,hv⟩:∃ v,wAt ws (2*x).toNat=v:=⟨_,rfl⟩;rw[hv]at hg hv0 hv1⊢;unfold m42
   repeat' with_reducible (first|refine ZR.h ?_|refine zI ?_|((first|refine zK hE ?_|refine zM hE ?_);intro K hK;simp[hcf,hw,hs0,hs1,hs2,ht0,ht1,hT,hC,hTl,hCl,hx0,hx1,hx9,hltI,hn0,hv,hv0,hv1,stA,d39,d77,d58];(repeat' (first|refine hK _ _ ?_|apply And.intro|(intro hc;try subst hc)))<;>(try clear hK K))|(refine zJ (fun hc=>?_) (fun hc=>?_)<;>simp at hc<;>(try subst hc)))
   all_goals first|(simp;done)|(simp at *;omega)|((try simp[hT,hC,hTl,hCl,stA]);refine Imp.aut ?_ ?_<;>simp[NLe,hT,hC,hTl,hCl,stA])
  ·cases h
 ·cases h
def d63:List AV→Option Ans
 | [.op _ [.int .i64 a,.int .i64 b,.int .i64 c,.int .i64 d,.int .i64 e,.int .i64 f,.int .i64 g,.op _ [.os _ 1 ws,.int .i64 s,.bot,.bot,.bot,.bot,.bot],.op _ [.int .u64 t],.os _ 14 lg],.int .i64 x]=>if XX a b c d e f g=true∧ws.all isW=true∧ws.length=(a*b*2+a*b*g*(f+1)).toNat∧0≤s∧s≤100000000∧0≤t∧t≤1000000∧lg.all row14=true∧lg.length≤100000∧0≤x∧x<a*b then some ⟨tmA (Yg (wAt ws (2*x+1).toNat)),[.cells 0 [.int .i64 a,.int .i64 b,.int .i64 c,.int .i64 d,.int .i64 e,.int .i64 f,.int .i64 g,.op 0 [.os 0 1 ws,.int .i64 (s+1),.bot,.bot,.bot,.bot,.bot],.op 0 [.int .u64 t],.os 0 14 lg]]⟩ else none
 | _=>none
theorem ok63:NOk [(10,true)] d63:=by
 intro xs a h;unfold d63 at h
 (repeat' (split at h))<;>first|(cases h;done)|(rename_i hc;have h1:=ZZ hc.2.1;have h2:=Z0 hc.2.1;have h3:=ZF hc.2.2.2.2.2.2.2.1;have h4:=ZE hc.2.2.2.2.2.2.2.1;injection h with h;subst h;refine ⟨Zq ?_,?_⟩<;>simp[h1,h2,h3,h4,tmA,tmC])
theorem s63:Sound Tryz.prog 63 (Zi [(10,true)] d63 ok63):=by
 refine Zj C63.a C63.b C63.c C63.d ok63 (fun xs a h=>?_) fun xs a h w0 S hS=>?_
 ·unfold d63 at h
  (repeat' (split at h))<;>first|(cases h;done)|exact Nat.le_of_ble_eq_true rfl
 unfold d63 at h;split at h
 ·split at h
  ·rename_i t0 a b c d e f g t1 t2 ws s t3 t t4 lg x hcond
   injection h with h;subst h;have hE:Zb Tryz.prog (EL [(40,rdS d40 ok40),(77,Zi [(7,true)] d77 ok77),(59,rdS d59 ok59)]):=Zd (by simp only[List.mem_cons,List.not_mem_nil,or_false,forall_eq_or_imp,forall_eq];exact ⟨s40,s77,s59⟩);obtain ⟨hcf,hw,hwl,hs0,hs1,ht0,ht1,hlg,hlgl,hx0,hx1⟩:=hcond;have hc:=ZH hcf;have hall:=ZJ hcf;have hwd:=Yl (f:=f) (g:=g) (show 0≤a*b by omega) hall.2 (by omega) (by omega);have hT:=ZZ hw;have hC:=Z0 hw;have hTl:=ZF hlg;have hCl:=ZE hlg;have hs2:s≤1000000000:=(by omega);have hi:(((2*x+1).toNat:Nat):Int)=2*x+1:=(by omega);have hlt:(2*x+1).toNat<ws.length:=(by omega);have hltI:2*x+1<(ws.length:Int):=(by omega);have hn0:0≤2*x+1:=(by omega);have hx9:x≤1000:=(by omega);obtain ⟨hg,hv0,hv1⟩:=ZfU hw hlt;obtain ⟨v,hv⟩:∃ v,wAt ws (2*x+1).toNat=v:=⟨_,rfl⟩;rw[hv]at hg hv0 hv1⊢;unfold m63
   repeat' with_reducible (first|refine ZR.h ?_|refine zI ?_|((first|refine zK hE ?_|refine zM hE ?_);intro K hK;simp[hcf,hw,hs0,hs1,hs2,ht0,ht1,hT,hC,hTl,hCl,hx0,hx1,hx9,hltI,hn0,hv,hv0,hv1,tmA,tmC,d40,d77,d59];(repeat' (first|refine hK _ _ ?_|apply And.intro|(intro hc;try subst hc)))<;>(try clear hK K))|(refine zJ (fun hc=>?_) (fun hc=>?_)<;>simp at hc<;>(try subst hc)))
   all_goals first|(simp;done)|(simp at *;omega)|((try simp[hT,hC,hTl,hCl,tmA,tmC]);refine Imp.aut ?_ ?_<;>simp[NLe,hT,hC,hTl,hCl,tmA,tmC])
  ·cases h
 ·cases h
theorem UQ {s:StZ} {v:Int} (h:ZN s=some v):0≤v∧v<18446744073709551616:=by
 unfold ZN at h;split at h
 ·cases h
 ·have:=X2 (by simp[VU]) 5 v (by simp) h
  have e:(YS [[AV.int .i64 4],[AV.int .i64 1],[AV.int .i64 8],[AV.int .i64 16],[AV.int .i64 8]] 5).toNat=37:=by simp[YS,ZI]
  rw[e]at this;omega
theorem vN {r:RcZ} {v:Int} (h:zm r=some v):0≤v∧v<18446744073709551616:=by
 unfold zm at h;split at h
 ·cases h
 ·have:=X2 (by simp[VU]) 6 v (by simp) h
  have e:(YS [[AV.int .i64 3],[AV.int .i64 16],[AV.int .i64 16],[AV.int .i64 20],[AV.int .i64 5],[AV.int .i64 4]] 6).toNat=64:=by simp[YS,ZI]
  rw[e]at this;omega
def d53:List AV→Option Ans
 | [.op _ [.int .i64 a,.int .i64 b,.int .i64 c,.int .i64 d,.int .i64 e,.int .i64 f,.int .i64 g,.op _ [.os _ 1 ws,.int .i64 s,.bot,.bot,.bot,.bot,.bot],.op _ [.int .u64 t],.os _ 14 lg],.int .i64 x,.int .u64 old,.agg [.int .i64 k,.bool fl,.int .i64 sg,.int .i64 sl,.int .i64 sf]]=>if XX a b c d e f g=true∧ws.all isW=true∧ws.length=(a*b*2+a*b*g*(f+1)).toNat∧0≤s∧s≤100000000∧0≤t∧t≤1000000∧lg.all row14=true∧lg.length≤100000∧0≤x∧x<a*b∧-9223372036854775808≤k∧k≤9223372036854775807∧-9223372036854775808≤sg∧sg≤9223372036854775807∧-9223372036854775808≤sl∧sl≤9223372036854775807∧-9223372036854775808≤sf∧sf≤9223372036854775807 then some (match ZN ⟨k,fl,sg,sl,sf⟩ with
  | none=>⟨.bool false,[.cells 0 [.int .i64 a,.int .i64 b,.int .i64 c,.int .i64 d,.int .i64 e,.int .i64 f,.int .i64 g,.op 0 [.os 0 1 ws,.int .i64 s,.bot,.bot,.bot,.bot,.bot],.op 0 [.int .u64 t],.os 0 14 lg]]⟩
  | some v=>if wAt ws (2*x).toNat=old then ⟨.bool true,[.cells 0 [.int .i64 a,.int .i64 b,.int .i64 c,.int .i64 d,.int .i64 e,.int .i64 f,.int .i64 g,.op 0 [.os 0 1 (ws.set (2*x).toNat [.int .u64 v]),.int .i64 (s+1),.bot,.bot,.bot,.bot,.bot],.op 0 [.int .u64 t],.os 0 14 lg]]⟩ else ⟨.bool false,[.cells 0 [.int .i64 a,.int .i64 b,.int .i64 c,.int .i64 d,.int .i64 e,.int .i64 f,.int .i64 g,.op 0 [.os 0 1 ws,.int .i64 (s+1),.bot,.bot,.bot,.bot,.bot],.op 0 [.int .u64 t],.os 0 14 lg]]⟩) else none
 | _=>none
theorem ok53:NOk [(10,true)] d53:=by
 intro xs aa h;unfold d53 at h;split at h
 ·split at h
  ·rename_i t0 a b c d e f g t1 t2 ws s t3 t t4 lg x old k fl sg sl sf hc
   have h1:=ZZ hc.2.1;have h2:=Z0 hc.2.1;have h3:=ZF hc.2.2.2.2.2.2.2.1;have h4:=ZE hc.2.2.2.2.2.2.2.1;injection h with h;subst h;cases hv:ZN ⟨k,fl,sg,sl,sf⟩ with
   | none=>refine ⟨Zq ?_,?_⟩<;>simp[h1,h2,h3,h4]
   | some v =>
    obtain ⟨v0,v1⟩:=UQ hv;have hws:=Tl hc.2.1 v0 v1 (2*x).toNat;have h5:=ZZ hws;have h6:=Z0 hws;simp only;split
    ·refine ⟨Zq ?_,?_⟩<;>simp[h1,h2,h3,h4,h5,h6]
    ·refine ⟨Zq ?_,?_⟩<;>simp[h1,h2,h3,h4]
  ·cases h
 ·cases h
theorem s53:Sound Tryz.prog 53 (Zi [(10,true)] d53 ok53):=by
 refine Zj C53.a C53.b C53.c C53.d ok53 (fun xs a h=>?_) fun xs a h w0 S hS=>?_
 ·unfold d53 at h
  (repeat' (split at h))<;>first|(cases h;done)|exact Nat.le_of_ble_eq_true rfl
 unfold d53 at h;split at h
 ·split at h
  ·rename_i t0 a b c d e f g t1 t2 ws s t3 t t4 lg x old k fl sg sl sf hcond
   injection h with h;subst h;have hE:Zb Tryz.prog (EL [(88,rdS d88 ok88),(39,rdS d39 ok39),(89,Zi [(7,true)] d89 ok89)]):=Zd (by simp only[List.mem_cons,List.not_mem_nil,or_false,forall_eq_or_imp,forall_eq];exact ⟨s88,s39,s89⟩);obtain ⟨hcf,hw,hwl,hs0,hs1,ht0,ht1,hlg,hlgl,hx0,hx1,hvr⟩:=hcond;have hc:=ZH hcf;have hall:=ZJ hcf;have hwd:=Yl (f:=f) (g:=g) (show 0≤a*b by omega) hall.2 (by omega) (by omega);have hT:=ZZ hw;have hC:=Z0 hw;have hTl:=ZF hlg;have hCl:=ZE hlg;have hs2:s≤1000000000:=(by omega);have hi:(((2*x).toNat:Nat):Int)=2*x:=(by omega);have hlt:(2*x).toNat<ws.length:=(by omega);have hltI:2*x<(ws.length:Int):=(by omega);have hn0:0≤2*x:=(by omega);have hx9:x≤1000:=(by omega);cases hv:ZN ⟨k,fl,sg,sl,sf⟩ with
   | none =>
    unfold m53
    repeat' with_reducible (first|refine ZR.h ?_|refine zI ?_|((first|refine zK hE ?_|refine zM hE ?_);intro K hK;simp[hcf,hw,hs0,hs1,hs2,ht0,ht1,hT,hC,hTl,hCl,hx0,hx1,hx9,hvr,hv,Yq,d88,d39,d89];(repeat' (first|refine hK _ _ ?_|apply And.intro|(intro hc;try subst hc)))<;>(try clear hK K))|(refine zJ (fun hc=>?_) (fun hc=>?_)<;>simp at hc<;>(try subst hc)))
    all_goals first|(simp;done)|(simp at *;omega)|((try simp[hT,hC,hTl,hCl]);refine Imp.aut ?_ ?_<;>simp[NLe,hT,hC,hTl,hCl])
   | some v =>
    obtain ⟨v0,v1⟩:=UQ hv;have hws:=Tl hw v0 v1 (2*x).toNat;have hT2:=ZZ hws;have hC2:=Z0 hws;simp only;by_cases he:wAt ws (2*x).toNat=old
    ·rw[if_pos he]
     unfold m53
     repeat' with_reducible (first|refine ZR.h ?_|refine zI ?_|((first|refine zK hE ?_|refine zM hE ?_);intro K hK;simp[hcf,hw,hs0,hs1,hs2,ht0,ht1,hT,hC,hTl,hCl,hT2,hC2,hx0,hx1,hx9,hvr,hv,Yq,v0,v1,hltI,hn0,he,d88,d39,d89];(repeat' (first|refine hK _ _ ?_|apply And.intro|(intro hc;try subst hc)))<;>(try clear hK K))|(refine zJ (fun hc=>?_) (fun hc=>?_)<;>simp at hc<;>(try subst hc)))
     all_goals first|(simp;done)|(simp at *;omega)|((try simp[hT,hC,hTl,hCl,hT2,hC2]);refine Imp.aut ?_ ?_<;>simp[NLe,hT,hC,hTl,hCl,hT2,hC2])
    ·rw[if_neg he]
     unfold m53
     repeat' with_reducible (first|refine ZR.h ?_|refine zI ?_|((first|refine zK hE ?_|refine zM hE ?_);intro K hK;simp[hcf,hw,hs0,hs1,hs2,ht0,ht1,hT,hC,hTl,hCl,hx0,hx1,hx9,hvr,hv,Yq,v0,v1,hltI,hn0,he,d88,d39,d89];(repeat' (first|refine hK _ _ ?_|apply And.intro|(intro hc;try subst hc)))<;>(try clear hK K))|(refine zJ (fun hc=>?_) (fun hc=>?_)<;>simp at hc<;>(try subst hc)))
     all_goals first|(simp;done)|(simp at *;omega)|((try simp[hT,hC,hTl,hCl]);refine Imp.aut ?_ ?_<;>simp[NLe,hT,hC,hTl,hCl])
  ·cases h
 ·cases h
def d66:List AV→Option Ans
 | [.op _ [.int .i64 a,.int .i64 b,.int .i64 c,.int .i64 d,.int .i64 e,.int .i64 f,.int .i64 g,.op _ [.os _ 1 ws,.int .i64 s,.bot,.bot,.bot,.bot,.bot],.op _ [.int .u64 t],.os _ 14 lg],.int .i64 x,.int .i64 y,.int .i64 z,.agg [.int .i64 rk,.int .i64 rq,.int .i64 rp,.int .i64 rt,.int .i64 rcc,.int .i64 rg]]=>if XX a b c d e f g=true∧ws.all isW=true∧ws.length=(a*b*2+a*b*g*(f+1)).toNat∧0≤s∧s≤100000000∧0≤t∧t≤1000000∧lg.all row14=true∧lg.length≤100000∧-9223372036854775808≤rk∧rk≤9223372036854775807∧-9223372036854775808≤rq∧rq≤9223372036854775807∧-9223372036854775808≤rp∧rp≤9223372036854775807∧-9223372036854775808≤rt∧rt≤9223372036854775807∧-9223372036854775808≤rcc∧rcc≤9223372036854775807∧-9223372036854775808≤rg∧rg≤9223372036854775807 then some (match zm ⟨rk,rq,rp,rt,rcc,rg⟩ with
  | none=>⟨.tup [],[.cells 0 [.int .i64 a,.int .i64 b,.int .i64 c,.int .i64 d,.int .i64 e,.int .i64 f,.int .i64 g,.op 0 [.os 0 1 ws,.int .i64 s,.bot,.bot,.bot,.bot,.bot],.op 0 [.int .u64 t],.os 0 14 lg]]⟩
  | some v=>if ZT a b f g x y z<0 then ⟨.tup [],[.cells 0 [.int .i64 a,.int .i64 b,.int .i64 c,.int .i64 d,.int .i64 e,.int .i64 f,.int .i64 g,.op 0 [.os 0 1 ws,.int .i64 s,.bot,.bot,.bot,.bot,.bot],.op 0 [.int .u64 t],.os 0 14 lg]]⟩ else if (ws.length:Int)≤ZT a b f g x y z then ⟨.tup [],[.cells 0 [.int .i64 a,.int .i64 b,.int .i64 c,.int .i64 d,.int .i64 e,.int .i64 f,.int .i64 g,.op 0 [.os 0 1 ws,.int .i64 s,.bot,.bot,.bot,.bot,.bot],.op 0 [.int .u64 t],.os 0 14 lg]]⟩ else ⟨.tup [],[.cells 0 [.int .i64 a,.int .i64 b,.int .i64 c,.int .i64 d,.int .i64 e,.int .i64 f,.int .i64 g,.op 0 [.os 0 1 (ws.set (ZT a b f g x y z).toNat [.int .u64 v]),.int .i64 (s+1),.bot,.bot,.bot,.bot,.bot],.op 0 [.int .u64 t],.os 0 14 lg]]⟩) else none
 | _=>none
theorem ok66:NOk [(10,true)] d66:=by
 intro xs aa h;unfold d66 at h;split at h
 ·split at h
  ·rename_i t0 a b c d e f g t1 t2 ws s t3 t t4 lg x y z rk rq rp rt rcc rg hc
   have h1:=ZZ hc.2.1;have h2:=Z0 hc.2.1;have h3:=ZF hc.2.2.2.2.2.2.2.1;have h4:=ZE hc.2.2.2.2.2.2.2.1;injection h with h;subst h;cases hv:zm ⟨rk,rq,rp,rt,rcc,rg⟩ with
   | none=>refine ⟨Zq ?_,?_⟩<;>simp[h1,h2,h3,h4]
   | some v =>
    obtain ⟨v0,v1⟩:=vN hv;have hws:=Tl hc.2.1 v0 v1 (ZT a b f g x y z).toNat;have h5:=ZZ hws;have h6:=Z0 hws;simp only
    (repeat' split)<;>(refine ⟨Zq ?_,?_⟩<;>simp[h1,h2,h3,h4,h5,h6])
  ·cases h
 ·cases h
theorem s66:Sound Tryz.prog 66 (Zi [(10,true)] d66 ok66):=by
 refine Zj C66.a C66.b C66.c C66.d ok66 (fun xs a h=>?_) fun xs a h w0 S hS=>?_
 ·unfold d66 at h
  (repeat' (split at h))<;>first|(cases h;done)|exact Nat.le_of_ble_eq_true rfl
 unfold d66 at h;split at h
 ·split at h
  ·rename_i t0 a b c d e f g t1 t2 ws s t3 t t4 lg x y z rk rq rp rt rcc rg hcond
   injection h with h;subst h;have hE:Zb Tryz.prog (EL [(100,rdS d100 ok100),(101,rdS d101 ok101),(38,Zi [(7,true)] d38 ok38)]):=Zd (by simp only[List.mem_cons,List.not_mem_nil,or_false,forall_eq_or_imp,forall_eq];exact ⟨s100,s101,s38⟩);obtain ⟨hcf,hw,hwl,hs0,hs1,ht0,ht1,hlg,hlgl,hvr⟩:=hcond;have hc:=ZH hcf;have hall:=ZJ hcf;have hwd:=Yl (f:=f) (g:=g) (show 0≤a*b by omega) hall.2 (by omega) (by omega);have hT:=ZZ hw;have hC:=Z0 hw;have hTl:=ZF hlg;have hCl:=ZE hlg;have hs2:s≤1000000000:=(by omega);obtain ⟨i,hi⟩:∃ i,ZT a b f g x y z=i:=⟨_,rfl⟩;rw[hi];cases hv:zm ⟨rk,rq,rp,rt,rcc,rg⟩ with
   | none =>
    unfold m66
    repeat' with_reducible (first|refine ZR.h ?_|refine zI ?_|((first|refine zK hE ?_|refine zM hE ?_);intro K hK;simp[hcf,hw,hs0,hs1,hs2,ht0,ht1,hT,hC,hTl,hCl,hvr,hv,Yq,d100,d101,d38];(repeat' (first|refine hK _ _ ?_|apply And.intro|(intro hc;try subst hc)))<;>(try clear hK K))|(refine zJ (fun hc=>?_) (fun hc=>?_)<;>simp at hc<;>(try subst hc)))
    all_goals first|(simp;done)|(simp at *;omega)|((try simp[hT,hC,hTl,hCl]);refine Imp.aut ?_ ?_<;>simp[NLe,hT,hC,hTl,hCl])
   | some v =>
    obtain ⟨v0,v1⟩:=vN hv;have hws:=Tl hw v0 v1 i.toNat;have hT2:=ZZ hws;have hC2:=Z0 hws;simp only;by_cases h1:i<0
    ·rw[if_pos h1]
     unfold m66
     repeat' with_reducible (first|refine ZR.h ?_|refine zI ?_|((first|refine zK hE ?_|refine zM hE ?_);intro K hK;simp[hcf,hw,hs0,hs1,hs2,ht0,ht1,hT,hC,hTl,hCl,hvr,hv,Yq,v0,v1,hi,h1,d100,d101,d38];(repeat' (first|refine hK _ _ ?_|apply And.intro|(intro hc;try subst hc)))<;>(try clear hK K))|(refine zJ (fun hc=>?_) (fun hc=>?_)<;>simp at hc<;>(try subst hc)))
     all_goals first|(simp;done)|(simp at *;omega)|((try simp[hT,hC,hTl,hCl]);refine Imp.aut ?_ ?_<;>simp[NLe,hT,hC,hTl,hCl])
    ·rw[if_neg h1]
     by_cases h2:(ws.length:Int)≤i
     ·rw[if_pos h2]
      unfold m66
      repeat' with_reducible (first|refine ZR.h ?_|refine zI ?_|((first|refine zK hE ?_|refine zM hE ?_);intro K hK;simp[hcf,hw,hs0,hs1,hs2,ht0,ht1,hT,hC,hTl,hCl,hvr,hv,Yq,v0,v1,hi,h1,h2,d100,d101,d38];(repeat' (first|refine hK _ _ ?_|apply And.intro|(intro hc;try subst hc)))<;>(try clear hK K))|(refine zJ (fun hc=>?_) (fun hc=>?_)<;>simp at hc<;>(try subst hc)))
      all_goals first|(simp;done)|(simp at *;omega)|((try simp[hT,hC,hTl,hCl]);refine Imp.aut ?_ ?_<;>simp[NLe,hT,hC,hTl,hCl])
     ·rw[if_neg h2]
      unfold m66
      repeat' with_reducible (first|refine ZR.h ?_|refine zI ?_|((first|refine zK hE ?_|refine zM hE ?_);intro K hK;simp[hcf,hw,hs0,hs1,hs2,ht0,ht1,hT,hC,hTl,hCl,hT2,hC2,hvr,hv,Yq,v0,v1,hi,h1,h2,d100,d101,d38];(repeat' (first|refine hK _ _ ?_|apply And.intro|(intro hc;try subst hc)))<;>(try clear hK K))|(refine zJ (fun hc=>?_) (fun hc=>?_)<;>simp at hc<;>(try subst hc)))
      all_goals first|(simp;done)|(simp at *;omega)|((try simp[hT,hC,hTl,hCl,hT2,hC2]);refine Imp.aut ?_ ?_<;>simp[NLe,hT,hC,hTl,hCl,hT2,hC2])
  ·cases h
 ·cases h
def d99:List AV→Option Ans
 | [.op _ [.int .i64 a,.int .i64 b,.int .i64 c,.int .i64 d,.int .i64 e,.int .i64 f,.int .i64 g,.op _ [.os _ 1 ws,.int .i64 s,.bot,.bot,.bot,.bot,.bot],.op _ [.int .u64 t],.os _ 14 lg],.agg [.int .i64 y0,.int .i64 y1,.int .i64 y2,.int .i64 y3,.int .i64 y4,.int .i64 y5,.int .i64 y6,.int .i64 y7,.int .i64 y8,.int .i64 y9,.int .i64 y10,.int .i64 y11,.int .i64 y12,.int .i64 y13]]=>if XX a b c d e f g=true∧ws.all isW=true∧ws.length=(a*b*2+a*b*g*(f+1)).toNat∧0≤s∧s≤100000000∧0≤t∧t≤1000000∧lg.all row14=true∧lg.length≤100000 then some ⟨.tup [],[.cells 0 [.int .i64 a,.int .i64 b,.int .i64 c,.int .i64 d,.int .i64 e,.int .i64 f,.int .i64 g,.op 0 [.os 0 1 ws,.int .i64 s,.bot,.bot,.bot,.bot,.bot],.op 0 [.int .u64 t],.os 0 14 (lg++[([.int .i64 y0,.int .i64 y1,.int .i64 y2,.int .i64 y3,.int .i64 y4,.int .i64 y5,.int .i64 y6,.int .i64 y7,.int .i64 y8,.int .i64 y9,.int .i64 y10,.int .i64 y11,.int .i64 t,.int .i64 y13]:List AV)])]]⟩ else none
 | _=>none
theorem ok99:NOk [(10,true)] d99:=by
 intro xs aa h;unfold d99 at h;split at h
 ·split at h
  ·rename_i t0 a b c d e f g t1 t2 ws s t3 t t4 lg y0 y1 y2 y3 y4 y5 y6 y7 y8 y9 y10 y11 y12 y13 hc
   have h1:=ZZ hc.2.1;have h2:=Z0 hc.2.1;have h3:=ZF hc.2.2.2.2.2.2.2.1;have h4:=ZE hc.2.2.2.2.2.2.2.1;injection h with h;subst h;have hl2:((lg++[([.int .i64 y0,.int .i64 y1,.int .i64 y2,.int .i64 y3,.int .i64 y4,.int .i64 y5,.int .i64 y6,.int .i64 y7,.int .i64 y8,.int .i64 y9,.int .i64 y10,.int .i64 y11,.int .i64 t,.int .i64 y13]:List AV)])).all row14=true:=(by rw[List.all_append,hc.2.2.2.2.2.2.2.1];rfl);have h5:=ZF hl2;have h6:=ZE hl2;refine ⟨Zq ?_,?_⟩<;>simp[h1,h2,h3,h4,h5,h6]
  ·cases h
 ·cases h
theorem s99:Sound Tryz.prog 99 (Zi [(10,true)] d99 ok99):=by
 refine Zj C99.a C99.b C99.c C99.d ok99 (fun xs a h=>?_) fun xs a h w0 S hS=>?_
 ·unfold d99 at h
  (repeat' (split at h))<;>first|(cases h;done)|exact Nat.le_of_ble_eq_true rfl
 unfold d99 at h;split at h
 ·split at h
  ·rename_i t0 a b c d e f g t1 t2 ws s t3 t t4 lg y0 y1 y2 y3 y4 y5 y6 y7 y8 y9 y10 y11 y12 y13 hcond
   injection h with h;subst h;have hE:Zb Tryz.prog (EL [(57,Zi [(1,false)] d57 ok57)]):=Zd (by simp only[List.mem_cons,List.not_mem_nil,or_false,forall_eq_or_imp,forall_eq];exact s57);obtain ⟨hcf,hw,hwl,hs0,hs1,ht0,ht1,hlg,hlgl⟩:=hcond;have hc:=ZH hcf;have hall:=ZJ hcf;have hwd:=Yl (f:=f) (g:=g) (show 0≤a*b by omega) hall.2 (by omega) (by omega);have hT:=ZZ hw;have hC:=Z0 hw;have hTl:=ZF hlg;have hCl:=ZE hlg;have hs2:s≤1000000000:=(by omega);have hl2:((lg++[([.int .i64 y0,.int .i64 y1,.int .i64 y2,.int .i64 y3,.int .i64 y4,.int .i64 y5,.int .i64 y6,.int .i64 y7,.int .i64 y8,.int .i64 y9,.int .i64 y10,.int .i64 y11,.int .i64 t,.int .i64 y13]:List AV)])).all row14=true:=(by rw[List.all_append,hlg];rfl);have hT2:=ZF hl2;have hC2:=ZE hl2;have htl:=fun n=>l_tl (n:=n) hlg;have hb1:(lg.length+1)*112≤140737488355328:=(by omega);have hb2:lg.length+1≤9223372036854775807:=(by omega);unfold m99
   repeat' with_reducible (first|refine ZR.h ?_|refine zI ?_|((first|refine zK hE ?_|refine zM hE ?_);intro K hK;simp[hcf,hw,hs0,hs1,hs2,ht0,ht1,hT,hC,hTl,hCl,hb1,hb2,htl,d57];(repeat' (first|refine hK _ _ ?_|apply And.intro|(intro hc;try subst hc)))<;>(try clear hK K))|(refine zJ (fun hc=>?_) (fun hc=>?_)<;>simp at hc<;>(try subst hc)))
   all_goals ((try simp);refine Imp.trans (Imp.absorb (.top 0) 0 9 121 (by rfl) (by rfl) (by rfl) (.inl ⟨0,14,(lg++[([.int .i64 y0,.int .i64 y1,.int .i64 y2,.int .i64 y3,.int .i64 y4,.int .i64 y5,.int .i64 y6,.int .i64 y7,.int .i64 y8,.int .i64 y9,.int .i64 y10,.int .i64 y11,.int .i64 t,.int .i64 y13]:List AV)]),by simp,by rfl⟩) (by simp)) ?_)
   all_goals (refine Imp.aut ?_ ?_<;>simp[NLe,hT,hC,hTl,hCl,hT2,hC2,XK,Yb])
  ·cases h
 ·cases h
structure TZ where
 way:Int
 x:Int
 gn:Int
 y:Int
 sh:Int
 pc:Int
 wx:Int
 wy:Int
 tx:TmZ
 ty:TmZ
 held:Bool
 made:Bool
 free:Bool
 q:Int
 p:Int
 ta:Int
 en:Int
 nx:StZ
 ny:StZ
structure WZ where
 a:Int
 b:Int
 c:Int
 d:Int
 e:Int
 f:Int
 g:Int
 ws:List (List AV)
 s:Int
 t:Int
 lg:List (List AV)
def tzC (T:TZ):List AV:=[.int .i64 T.way,.int .i64 T.x,.int .i64 T.gn,.int .i64 T.y,.int .i64 T.sh,.int .i64 T.pc,.int .u64 T.wx,.int .u64 T.wy,.int .i64 T.tx.nm,.int .i64 T.tx.sd,.int .i64 T.tx.pr,.int .i64 T.tx.le,.int .i64 T.tx.un,.int .i64 T.ty.nm,.int .i64 T.ty.sd,.int .i64 T.ty.pr,.int .i64 T.ty.le,.int .i64 T.ty.un,.bool T.held,.bool T.made,.bool T.free,.int .i64 T.q,.int .i64 T.p,.int .i64 T.ta,.int .i64 T.en,.int .i64 T.nx.k,.bool T.nx.fl,.int .i64 T.nx.g,.int .i64 T.nx.l,.int .i64 T.nx.f,.int .i64 T.ny.k,.bool T.ny.fl,.int .i64 T.ny.g,.int .i64 T.ny.l,.int .i64 T.ny.f]
def vg:List AV→Option TZ
 | .int .i64 v0 :: .int .i64 v1 :: .int .i64 v2 :: .int .i64 v3 :: .int .i64 v4 :: .int .i64 v5 :: .int .u64 v6 :: .int .u64 v7 :: .int .i64 v8 :: .int .i64 v9 :: .int .i64 v10 :: .int .i64 v11 :: .int .i64 v12 :: .int .i64 v13 :: .int .i64 v14 :: .int .i64 v15 :: .int .i64 v16 :: .int .i64 v17 :: .bool v18 :: .bool v19 :: .bool v20 :: .int .i64 v21 :: .int .i64 v22 :: .int .i64 v23 :: .int .i64 v24 :: .int .i64 v25 :: .bool v26 :: .int .i64 v27 :: .int .i64 v28 :: .int .i64 v29 :: .int .i64 v30 :: .bool v31 :: .int .i64 v32 :: .int .i64 v33 :: .int .i64 v34 :: []=>some ⟨v0,v1,v2,v3,v4,v5,v6,v7,⟨v8,v9,v10,v11,v12⟩,⟨v13,v14,v15,v16,v17⟩,v18,v19,v20,v21,v22,v23,v24,⟨v25,v26,v27,v28,v29⟩,⟨v30,v31,v32,v33,v34⟩⟩
 | _=>none
theorem Vb (T:TZ):vg (tzC T)=some T:=rfl
theorem ZS {c:List AV} {T:TZ} (h:vg c=some T):c=tzC T:=by
 unfold vg at h;split at h
 ·injection h with h;subst h;rfl
 ·cases h
def wzL (W:WZ) (u1 u2 u3 u4:Nat):List AV:=[.int .i64 W.a,.int .i64 W.b,.int .i64 W.c,.int .i64 W.d,.int .i64 W.e,.int .i64 W.f,.int .i64 W.g,.op u1 [.os u2 1 W.ws,.int .i64 W.s,.bot,.bot,.bot,.bot,.bot],.op u3 [.int .u64 W.t],.os u4 14 W.lg]
def wzC (W:WZ):List AV:=[.int .i64 W.a,.int .i64 W.b,.int .i64 W.c,.int .i64 W.d,.int .i64 W.e,.int .i64 W.f,.int .i64 W.g,.op 0 [.os 0 1 W.ws,.int .i64 W.s,.bot,.bot,.bot,.bot,.bot],.op 0 [.int .u64 W.t],.os 0 14 W.lg]
def xM:List AV→Option WZ
 | [.int .i64 a,.int .i64 b,.int .i64 c,.int .i64 d,.int .i64 e,.int .i64 f,.int .i64 g,.op _ [.os _ 1 ws,.int .i64 s,.bot,.bot,.bot,.bot,.bot],.op _ [.int .u64 t],.os _ 14 lg]=>some ⟨a,b,c,d,e,f,g,ws,s,t,lg⟩
 | _=>none
theorem Ul (W:WZ) (u1 u2 u3 u4:Nat):xM (wzL W u1 u2 u3 u4)=some W:=rfl
theorem Z1 {c:List AV} {W:WZ} (h:xM c=some W):∃ u1 u2 u3 u4,c=wzL W u1 u2 u3 u4:=by
 unfold xM at h;split at h
 ·rename_i u1 u2 ws s u3 t u4 lg
  injection h with h;subst h;exact ⟨_,_,_,_,rfl⟩
 ·cases h
def okW (W:WZ):Bool:=decide (XX W.a W.b W.c W.d W.e W.f W.g=true∧W.ws.all isW=true∧W.ws.length=(W.a*W.b*2+W.a*W.b*W.g*(W.f+1)).toNat∧0≤W.s∧0≤W.t∧W.t≤1000000∧W.lg.all row14=true)
theorem Zl {W:WZ} (h:okW W=true):XX W.a W.b W.c W.d W.e W.f W.g=true∧W.ws.all isW=true∧W.ws.length=(W.a*W.b*2+W.a*W.b*W.g*(W.f+1)).toNat∧0≤W.s∧0≤W.t∧W.t≤1000000∧W.lg.all row14=true:=of_decide_eq_true h
def okS (s:StZ):Bool:=decide (0≤s.k∧s.k≤1000000∧0≤s.g∧s.g≤1000000∧0≤s.l∧s.l≤1000000∧0≤s.f∧s.f≤1000000)
theorem Un {s:StZ} (h:okS s=true):0≤s.k∧s.k≤1000000∧0≤s.g∧s.g≤1000000∧0≤s.l∧s.l≤1000000∧0≤s.f∧s.f≤1000000:=of_decide_eq_true h
def okT (T:TZ):Bool:=decide (0≤T.pc∧T.pc≤1000000∧0≤T.wx∧T.wx<18446744073709551616∧0≤T.wy∧T.wy<18446744073709551616∧0≤T.tx.pr∧T.tx.pr≤1000000∧0≤T.ty.pr∧T.ty.pr≤1000000∧0≤T.q∧T.q≤1000000∧0≤T.p∧T.p≤1000000∧0≤T.ta∧T.ta≤1000000∧0≤T.en∧T.en≤1000000∧okS T.nx=true∧okS T.ny=true)
theorem XM {T:TZ} (h:okT T=true):0≤T.pc∧T.pc≤1000000∧0≤T.wx∧T.wx<18446744073709551616∧0≤T.wy∧T.wy<18446744073709551616∧0≤T.tx.pr∧T.tx.pr≤1000000∧0≤T.ty.pr∧T.ty.pr≤1000000∧0≤T.q∧T.q≤1000000∧0≤T.p∧T.p≤1000000∧0≤T.ta∧T.ta≤1000000∧0≤T.en∧T.en≤1000000∧okS T.nx=true∧okS T.ny=true:=of_decide_eq_true h
theorem Zef (T:TZ):t0L (tzC T)=tzC T:=by simp[tzC,t0L,AV.t0]
theorem ZdH (T:TZ):clL (tzC T)=true:=by simp[tzC,clL,AV.cl]
def YD (W:WZ) (T:TZ):Bool:=decide (V6 W.a W.b T.x<0∨V6 W.a W.b T.y<0∨V6 W.a W.b T.x=V6 W.a W.b T.y)
def Z5 (W:WZ) (T:TZ) (s:StZ):Bool:=decide ((T.way=1∨T.way=2)∧s.k=1∧s.g=T.gn∨T.way=3∧s.k=2∧T.tx.sd=0∧YG W.c W.d T.tx.nm (Y9 W.d T.tx.pr)=T.sh)
def YC (W:WZ) (T:TZ) (s:StZ):Bool:=decide (T.way=1∧s.k=1∨T.way=2∧s.k=2∧YG W.c W.d T.ty.nm (Y9 W.d T.ty.pr)=T.sh∨T.way=3∧s.k=2)
theorem ZfF {a b c d e f g x:Int} (h:XX a b c d e f g=true):V6 a b x ≥ -1∧V6 a b x≤1000:=by
 have hc:=ZH h;have ha:=ZJ h;unfold V6;split
 ·omega
 ·split
  ·have h1:=Int.ediv_nonneg (show 0≤x by omega) (show 0≤b by omega)
   have h2:=Int.ediv_le_self b (show 0≤x by omega);omega
  ·omega
def d43:List AV→Option Ans
 | [.op _ tc,.op _ wc]=>(match vg tc,xM wc with
  | some T,some W=>if okW W=true then some (⟨.bool (YD W T),[.free,.free]⟩) else none
  | _,_=>none)
 | _=>none
theorem ok43:NOk [(35,false),(10,false)] d43:=by
 intro xs aa h;unfold d43 at h;split at h
 ·rename_i t1 tc t2 wc
  split at h
  ·rename_i T W hTc hWc
   split at h
   ·rename_i hc
    obtain ⟨u1,u2,u3,u4,rfl⟩:=Z1 hWc;obtain rfl:=ZS hTc;injection h with h;subst h;obtain ⟨hcf,hw,hwl,hs0,ht0,ht1,hlg⟩:=Zl hc;have hT:=ZZ hw;have hC:=Z0 hw;have hTl:=ZF hlg;have hCl:=ZE hlg;refine ⟨Zq ?_,?_⟩<;>simp[tzC,wzL,hT,hC,hTl,hCl]
   ·cases h
  ·cases h
 ·cases h
theorem s43:Sound Tryz.prog 43 (Zi [(35,false),(10,false)] d43 ok43):=by
 refine Zj C43.a C43.b C43.c C43.d ok43 (fun xs a h=>?_) fun xs a h w0 S hS=>?_
 ·unfold d43 at h
  (repeat' (split at h))<;>first|(cases h;done)|exact Nat.le_of_ble_eq_true rfl
 unfold d43 at h;split at h
 ·rename_i t1 tc t2 wc
  split at h
  ·rename_i T W hTc hWc
   split at h
   ·rename_i hcond
    obtain ⟨u1,u2,u3,u4,rfl⟩:=Z1 hWc;obtain rfl:=ZS hTc;injection h with h;subst h;clear hTc hWc;have hE:Zb Tryz.prog (EL [(78,rdS d78 ok78)]):=Zd (by simp only[List.mem_cons,List.not_mem_nil,or_false,forall_eq_or_imp,forall_eq];exact s78);obtain ⟨hcf,hw,hwl,hs0,ht0,ht1,hlg⟩:=Zl hcond;have hT:=ZZ hw;have hC:=Z0 hw;have hTl:=ZF hlg;have hCl:=ZE hlg;simp only[tzC,wzL]at hS⊢;have e1:V6 W.a W.b T.x ≥ -1∧V6 W.a W.b T.x≤1000:=ZfF hcf;have e2:V6 W.a W.b T.y ≥ -1∧V6 W.a W.b T.y≤1000:=ZfF hcf;by_cases h1:V6 W.a W.b T.x<0
    ·have hi:YD W T=true:=by simp[YD,h1]
     rw[hi];unfold m43
     repeat' with_reducible (first|refine ZR.h ?_|refine zI ?_|((first|refine zK hE ?_|refine zM hE ?_);intro K hK;simp[hT,hC,hTl,hCl,hcf,h1,d78];(repeat' (first|refine hK _ _ ?_|apply And.intro|(intro hc;try subst hc)))<;>(try clear hK K))|(refine zJ (fun hc=>?_) (fun hc=>?_)<;>simp at hc<;>(try subst hc)))
     all_goals first|(simp;done)|(simp at *;omega)|((try simp[hT,hC,hTl,hCl]);refine Imp.aut ?_ ?_<;>simp[NLe,hT,hC,hTl,hCl])
    ·by_cases h2:V6 W.a W.b T.y<0
     ·have hi:YD W T=true:=by simp[YD,h2]
      rw[hi];unfold m43
      repeat' with_reducible (first|refine ZR.h ?_|refine zI ?_|((first|refine zK hE ?_|refine zM hE ?_);intro K hK;simp[hT,hC,hTl,hCl,hcf,h1,h2,d78];(repeat' (first|refine hK _ _ ?_|apply And.intro|(intro hc;try subst hc)))<;>(try clear hK K))|(refine zJ (fun hc=>?_) (fun hc=>?_)<;>simp at hc<;>(try subst hc)))
      all_goals first|(simp;done)|(simp at *;omega)|((try simp[hT,hC,hTl,hCl]);refine Imp.aut ?_ ?_<;>simp[NLe,hT,hC,hTl,hCl])
     ·by_cases h3:V6 W.a W.b T.x=V6 W.a W.b T.y
      ·have hi:YD W T=true:=by simp[YD,h3]
       rw[hi];unfold m43
       repeat' with_reducible (first|refine ZR.h ?_|refine zI ?_|((first|refine zK hE ?_|refine zM hE ?_);intro K hK;simp[hT,hC,hTl,hCl,hcf,h1,h2,h3,d78];(repeat' (first|refine hK _ _ ?_|apply And.intro|(intro hc;try subst hc)))<;>(try clear hK K))|(refine zJ (fun hc=>?_) (fun hc=>?_)<;>simp at hc<;>(try subst hc)))
       all_goals first|(simp;done)|(simp at *;omega)|((try simp[hT,hC,hTl,hCl]);refine Imp.aut ?_ ?_<;>simp[NLe,hT,hC,hTl,hCl])
      ·have hi:YD W T=false:=by simp[YD,h1,h2,h3]
       rw[hi];unfold m43
       repeat' with_reducible (first|refine ZR.h ?_|refine zI ?_|((first|refine zK hE ?_|refine zM hE ?_);intro K hK;simp[hT,hC,hTl,hCl,hcf,h1,h2,h3,d78];(repeat' (first|refine hK _ _ ?_|apply And.intro|(intro hc;try subst hc)))<;>(try clear hK K))|(refine zJ (fun hc=>?_) (fun hc=>?_)<;>simp at hc<;>(try subst hc)))
       all_goals first|(simp;done)|(simp at *;omega)|((try simp[hT,hC,hTl,hCl]);refine Imp.aut ?_ ?_<;>simp[NLe,hT,hC,hTl,hCl])
   ·cases h
  ·cases h
 ·cases h
end Go.W
