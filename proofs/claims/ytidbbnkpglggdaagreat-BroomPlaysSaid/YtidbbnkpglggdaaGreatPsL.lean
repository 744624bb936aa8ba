/- A part of the proofs about the pair's laws (PsK, PsL). -/
import Derived.Test.YtidbbnkpglggdaaGreatPsJ
import Derived.Test.YtidbbnkpglggdaaGreatPaA
namespace Go.W
open Go.Proofs
set_option linter.unusedSimpArgs false
set_option linter.unusedVariables false
set_option maxHeartbeats 8000000
set_option maxRecDepth 100000
attribute [local irreducible] Wm WmA
attribute [local simp] YP lkp Vq prs V9 prT ddL idL Yy Ue Ren Ve NObj.none ZT
theorem U6 {s:StZ} {v:Int} (h:ZX s=some v):0≤v∧v<18446744073709551616:=by
 unfold ZX at h;split at h
 ·cases h
 ·have:=Vg (by simp[Ut]) 5 v (by simp) h
  have e:(YV [[AV.int .i64 4],[AV.int .i64 1],[AV.int .i64 8],[AV.int .i64 16],[AV.int .i64 8]] 5).toNat=37:=by simp[YV,ZM]
  rw[e]at this;omega
theorem ZaM {r:RcZ} {v:Int} (h:zK r=some v):0≤v∧v<18446744073709551616:=by
 unfold zK at h;split at h
 ·cases h
 ·have:=Vg (by simp[Ut]) 6 v (by simp) h
  have e:(YV [[AV.int .i64 3],[AV.int .i64 16],[AV.int .i64 16],[AV.int .i64 20],[AV.int .i64 5],[AV.int .i64 4]] 6).toNat=64:=by simp[YV,ZM]
  rw[e]at this;omega
def d53:List AV→Option Ans
 | [.op _ [.int .i64 a,.int .i64 b,.int .i64 c,.int .i64 d,.int .i64 e,.int .i64 f,.int .i64 g,.op _ [.os _ 1 ws,.int .i64 s,.bot,.bot,.bot,.bot,.bot],.op _ [.int .u64 t],.os _ 14 lg],.int .i64 x,.int .u64 old,.agg [.int .i64 k,.bool fl,.int .i64 sg,.int .i64 sl,.int .i64 sf]]=>if X7 a b c d e f g=true∧ws.all isW=true∧ws.length=(a*b*2+a*b*g*(f+1)).toNat∧0≤s∧s≤100000000∧0≤t∧t≤1000000∧lg.all row14=true∧lg.length≤100000∧0≤x∧x<a*b∧-9223372036854775808≤k∧k≤9223372036854775807∧-9223372036854775808≤sg∧sg≤9223372036854775807∧-9223372036854775808≤sl∧sl≤9223372036854775807∧-9223372036854775808≤sf∧sf≤9223372036854775807 then some (match ZX ⟨k,fl,sg,sl,sf⟩ with
  | none=>⟨.bool false,[.cells 0 [.int .i64 a,.int .i64 b,.int .i64 c,.int .i64 d,.int .i64 e,.int .i64 f,.int .i64 g,.op 0 [.os 0 1 ws,.int .i64 s,.bot,.bot,.bot,.bot,.bot],.op 0 [.int .u64 t],.os 0 14 lg]]⟩
  | some v=>if wAt ws (2*x).toNat=old then ⟨.bool true,[.cells 0 [.int .i64 a,.int .i64 b,.int .i64 c,.int .i64 d,.int .i64 e,.int .i64 f,.int .i64 g,.op 0 [.os 0 1 (ws.set (2*x).toNat [.int .u64 v]),.int .i64 (s+1),.bot,.bot,.bot,.bot,.bot],.op 0 [.int .u64 t],.os 0 14 lg]]⟩ else ⟨.bool false,[.cells 0 [.int .i64 a,.int .i64 b,.int .i64 c,.int .i64 d,.int .i64 e,.int .i64 f,.int .i64 g,.op 0 [.os 0 1 ws,.int .i64 (s+1),.bot,.bot,.bot,.bot,.bot],.op 0 [.int .u64 t],.os 0 14 lg]]⟩) else none
 | _=>none
theorem ok53:NOk [(10,true)] d53:=by
 intro xs aa h;unfold d53 at h;split at h
 ·split at h
  ·rename_i t0 a b c d e f g t1 t2 ws s t3 t t4 lg x old k fl sg sl sf hc
   have h1:=ZW hc.2.1;have h2:=ZV hc.2.1;have h3:=ZC hc.2.2.2.2.2.2.2.1;have h4:=ZD hc.2.2.2.2.2.2.2.1;injection h with h;subst h;cases hv:ZX ⟨k,fl,sg,sl,sf⟩ with
   | none=>refine ⟨Zp ?_,?_⟩<;>simp[h1,h2,h3,h4]
   | some v =>
    obtain ⟨v0,v1⟩:=U6 hv;have hws:=TI hc.2.1 v0 v1 (2*x).toNat;have h5:=ZW hws;have h6:=ZV hws;simp only;split
    ·refine ⟨Zp ?_,?_⟩<;>simp[h1,h2,h3,h4,h5,h6]
    ·refine ⟨Zp ?_,?_⟩<;>simp[h1,h2,h3,h4]
  ·cases h
 ·cases h
theorem s53:Sound Tryz.prog 53 (Zm [(10,true)] d53 ok53):=by
 refine Zi (ac:=?ac) (res:=?res) Tryz.func53 (by kernel_rfl) (ha:=?ha) (hk:=?hk) (hok:=ok53) (fun xs a h=>?_) fun xs a h w0 S hS=>?_
 case ha=>conv=>lhs;cbv
 case hk=>kernel_rfl
 ·unfold d53 at h
  (repeat' (split at h))<;>first|(cases h;done)|exact Nat.le_of_ble_eq_true rfl
 unfold d53 at h;split at h
 ·split at h
  ·rename_i t0 a b c d e f g t1 t2 ws s t3 t t4 lg x old k fl sg sl sf hcond
   injection h with h;subst h;have hE:Zd Tryz.prog (EL [(88,rdS d88 ok88),(39,rdS d39 ok39),(89,Zm [(7,true)] d89 ok89)]):=Ze (by simp only[List.mem_cons,List.not_mem_nil,or_false,forall_eq_or_imp,forall_eq];exact ⟨s88,s39,s89⟩);obtain ⟨hcf,hw,hwl,hs0,hs1,ht0,ht1,hlg,hlgl,hx0,hx1,hvr⟩:=hcond;have hc:=ZE hcf;have hall:=ZB hcf;have hwd:=Yt (f:=f) (g:=g) (show 0≤a*b by omega) hall.2 (by omega) (by omega);have hT:=ZW hw;have hC:=ZV hw;have hTl:=ZC hlg;have hCl:=ZD hlg;have hs2:s≤1000000000:=(by omega);have hi:(((2*x).toNat:Nat):Int)=2*x:=(by omega);have hlt:(2*x).toNat<ws.length:=(by omega);have hltI:2*x<(ws.length:Int):=(by omega);have hn0:0≤2*x:=(by omega);have hx9:x≤1000:=(by omega);cases hv:ZX ⟨k,fl,sg,sl,sf⟩ with
   | none =>
    repeat' with_reducible (first|refine ZR.h ?_|refine kI ?_|((first|refine kR hE ?_|refine kD hE Zq ?_);intro K hK;simp[hcf,hw,hs0,hs1,hs2,ht0,ht1,hT,hC,hTl,hCl,hx0,hx1,hx9,hvr,hv,Yw,d88,d39,d89];(repeat' (first|refine hK _ _ ?_|apply And.intro|(intro hc;try subst hc)))<;>(try clear hK K))|(refine kT (fun hc=>?_) (fun hc=>?_)<;>simp at hc<;>(try subst hc)))
    all_goals first|(show Zb _ _=true;kernel_rfl)|(simp;done)|(simp at *;omega)|((try simp[hT,hC,hTl,hCl]);refine Imp.aut ?_ ?_<;>simp[NLe,hT,hC,hTl,hCl])
   | some v =>
    obtain ⟨v0,v1⟩:=U6 hv;have hws:=TI hw v0 v1 (2*x).toNat;have hT2:=ZW hws;have hC2:=ZV hws;simp only;by_cases he:wAt ws (2*x).toNat=old
    ·rw[if_pos he]
     repeat' with_reducible (first|refine ZR.h ?_|refine kI ?_|((first|refine kR hE ?_|refine kD hE Zq ?_);intro K hK;simp[hcf,hw,hs0,hs1,hs2,ht0,ht1,hT,hC,hTl,hCl,hT2,hC2,hx0,hx1,hx9,hvr,hv,Yw,v0,v1,hltI,hn0,he,d88,d39,d89];(repeat' (first|refine hK _ _ ?_|apply And.intro|(intro hc;try subst hc)))<;>(try clear hK K))|(refine kT (fun hc=>?_) (fun hc=>?_)<;>simp at hc<;>(try subst hc)))
     all_goals first|(show Zb _ _=true;kernel_rfl)|(simp;done)|(simp at *;omega)|((try simp[hT,hC,hTl,hCl,hT2,hC2]);refine Imp.aut ?_ ?_<;>simp[NLe,hT,hC,hTl,hCl,hT2,hC2])
    ·rw[if_neg he]
     repeat' with_reducible (first|refine ZR.h ?_|refine kI ?_|((first|refine kR hE ?_|refine kD hE Zq ?_);intro K hK;simp[hcf,hw,hs0,hs1,hs2,ht0,ht1,hT,hC,hTl,hCl,hx0,hx1,hx9,hvr,hv,Yw,v0,v1,hltI,hn0,he,d88,d39,d89];(repeat' (first|refine hK _ _ ?_|apply And.intro|(intro hc;try subst hc)))<;>(try clear hK K))|(refine kT (fun hc=>?_) (fun hc=>?_)<;>simp at hc<;>(try subst hc)))
     all_goals first|(show Zb _ _=true;kernel_rfl)|(simp;done)|(simp at *;omega)|((try simp[hT,hC,hTl,hCl]);refine Imp.aut ?_ ?_<;>simp[NLe,hT,hC,hTl,hCl])
  ·cases h
 ·cases h
def d66:List AV→Option Ans
 | [.op _ [.int .i64 a,.int .i64 b,.int .i64 c,.int .i64 d,.int .i64 e,.int .i64 f,.int .i64 g,.op _ [.os _ 1 ws,.int .i64 s,.bot,.bot,.bot,.bot,.bot],.op _ [.int .u64 t],.os _ 14 lg],.int .i64 x,.int .i64 y,.int .i64 z,.agg [.int .i64 rk,.int .i64 rq,.int .i64 rp,.int .i64 rt,.int .i64 rcc,.int .i64 rg]]=>if X7 a b c d e f g=true∧ws.all isW=true∧ws.length=(a*b*2+a*b*g*(f+1)).toNat∧0≤s∧s≤100000000∧0≤t∧t≤1000000∧lg.all row14=true∧lg.length≤100000∧-9223372036854775808≤rk∧rk≤9223372036854775807∧-9223372036854775808≤rq∧rq≤9223372036854775807∧-9223372036854775808≤rp∧rp≤9223372036854775807∧-9223372036854775808≤rt∧rt≤9223372036854775807∧-9223372036854775808≤rcc∧rcc≤9223372036854775807∧-9223372036854775808≤rg∧rg≤9223372036854775807 then some (match zK ⟨rk,rq,rp,rt,rcc,rg⟩ with
  | none=>⟨.tup [],[.cells 0 [.int .i64 a,.int .i64 b,.int .i64 c,.int .i64 d,.int .i64 e,.int .i64 f,.int .i64 g,.op 0 [.os 0 1 ws,.int .i64 s,.bot,.bot,.bot,.bot,.bot],.op 0 [.int .u64 t],.os 0 14 lg]]⟩
  | some v=>if ZY a b f g x y z<0 then ⟨.tup [],[.cells 0 [.int .i64 a,.int .i64 b,.int .i64 c,.int .i64 d,.int .i64 e,.int .i64 f,.int .i64 g,.op 0 [.os 0 1 ws,.int .i64 s,.bot,.bot,.bot,.bot,.bot],.op 0 [.int .u64 t],.os 0 14 lg]]⟩ else if (ws.length:Int)≤ZY a b f g x y z then ⟨.tup [],[.cells 0 [.int .i64 a,.int .i64 b,.int .i64 c,.int .i64 d,.int .i64 e,.int .i64 f,.int .i64 g,.op 0 [.os 0 1 ws,.int .i64 s,.bot,.bot,.bot,.bot,.bot],.op 0 [.int .u64 t],.os 0 14 lg]]⟩ else ⟨.tup [],[.cells 0 [.int .i64 a,.int .i64 b,.int .i64 c,.int .i64 d,.int .i64 e,.int .i64 f,.int .i64 g,.op 0 [.os 0 1 (ws.set (ZY a b f g x y z).toNat [.int .u64 v]),.int .i64 (s+1),.bot,.bot,.bot,.bot,.bot],.op 0 [.int .u64 t],.os 0 14 lg]]⟩) else none
 | _=>none
theorem ok66:NOk [(10,true)] d66:=by
 intro xs aa h;unfold d66 at h;split at h
 ·split at h
  ·rename_i t0 a b c d e f g t1 t2 ws s t3 t t4 lg x y z rk rq rp rt rcc rg hc
   have h1:=ZW hc.2.1;have h2:=ZV hc.2.1;have h3:=ZC hc.2.2.2.2.2.2.2.1;have h4:=ZD hc.2.2.2.2.2.2.2.1;injection h with h;subst h;cases hv:zK ⟨rk,rq,rp,rt,rcc,rg⟩ with
   | none=>refine ⟨Zp ?_,?_⟩<;>simp[h1,h2,h3,h4]
   | some v =>
    obtain ⟨v0,v1⟩:=ZaM hv;have hws:=TI hc.2.1 v0 v1 (ZY a b f g x y z).toNat;have h5:=ZW hws;have h6:=ZV hws;simp only
    (repeat' split)<;>(refine ⟨Zp ?_,?_⟩<;>simp[h1,h2,h3,h4,h5,h6])
  ·cases h
 ·cases h
theorem s66:Sound Tryz.prog 66 (Zm [(10,true)] d66 ok66):=by
 refine Zi (ac:=?ac) (res:=?res) Tryz.func66 (by kernel_rfl) (ha:=?ha) (hk:=?hk) (hok:=ok66) (fun xs a h=>?_) fun xs a h w0 S hS=>?_
 case ha=>conv=>lhs;cbv
 case hk=>kernel_rfl
 ·unfold d66 at h
  (repeat' (split at h))<;>first|(cases h;done)|exact Nat.le_of_ble_eq_true rfl
 unfold d66 at h;split at h
 ·split at h
  ·rename_i t0 a b c d e f g t1 t2 ws s t3 t t4 lg x y z rk rq rp rt rcc rg hcond
   injection h with h;subst h;have hE:Zd Tryz.prog (EL [(100,rdS d100 ok100),(101,rdS d101 ok101),(38,Zm [(7,true)] d38 ok38)]):=Ze (by simp only[List.mem_cons,List.not_mem_nil,or_false,forall_eq_or_imp,forall_eq];exact ⟨s100,s101,s38⟩);obtain ⟨hcf,hw,hwl,hs0,hs1,ht0,ht1,hlg,hlgl,hvr⟩:=hcond;have hc:=ZE hcf;have hall:=ZB hcf;have hwd:=Yt (f:=f) (g:=g) (show 0≤a*b by omega) hall.2 (by omega) (by omega);have hT:=ZW hw;have hC:=ZV hw;have hTl:=ZC hlg;have hCl:=ZD hlg;have hs2:s≤1000000000:=(by omega);obtain ⟨i,hi⟩:∃ i,ZY a b f g x y z=i:=⟨_,rfl⟩;rw[hi];cases hv:zK ⟨rk,rq,rp,rt,rcc,rg⟩ with
   | none =>
    repeat' with_reducible (first|refine ZR.h ?_|refine kI ?_|((first|refine kR hE ?_|refine kD hE Zq ?_);intro K hK;simp[hcf,hw,hs0,hs1,hs2,ht0,ht1,hT,hC,hTl,hCl,hvr,hv,Yw,d100,d101,d38];(repeat' (first|refine hK _ _ ?_|apply And.intro|(intro hc;try subst hc)))<;>(try clear hK K))|(refine kT (fun hc=>?_) (fun hc=>?_)<;>simp at hc<;>(try subst hc)))
    all_goals first|(show Zb _ _=true;kernel_rfl)|(simp;done)|(simp at *;omega)|((try simp[hT,hC,hTl,hCl]);refine Imp.aut ?_ ?_<;>simp[NLe,hT,hC,hTl,hCl])
   | some v =>
    obtain ⟨v0,v1⟩:=ZaM hv;have hws:=TI hw v0 v1 i.toNat;have hT2:=ZW hws;have hC2:=ZV hws;simp only;by_cases h1:i<0
    ·rw[if_pos h1]
     repeat' with_reducible (first|refine ZR.h ?_|refine kI ?_|((first|refine kR hE ?_|refine kD hE Zq ?_);intro K hK;simp[hcf,hw,hs0,hs1,hs2,ht0,ht1,hT,hC,hTl,hCl,hvr,hv,Yw,v0,v1,hi,h1,d100,d101,d38];(repeat' (first|refine hK _ _ ?_|apply And.intro|(intro hc;try subst hc)))<;>(try clear hK K))|(refine kT (fun hc=>?_) (fun hc=>?_)<;>simp at hc<;>(try subst hc)))
     all_goals first|(show Zb _ _=true;kernel_rfl)|(simp;done)|(simp at *;omega)|((try simp[hT,hC,hTl,hCl]);refine Imp.aut ?_ ?_<;>simp[NLe,hT,hC,hTl,hCl])
    ·rw[if_neg h1]
     by_cases h2:(ws.length:Int)≤i
     ·rw[if_pos h2]
      repeat' with_reducible (first|refine ZR.h ?_|refine kI ?_|((first|refine kR hE ?_|refine kD hE Zq ?_);intro K hK;simp[hcf,hw,hs0,hs1,hs2,ht0,ht1,hT,hC,hTl,hCl,hvr,hv,Yw,v0,v1,hi,h1,h2,d100,d101,d38];(repeat' (first|refine hK _ _ ?_|apply And.intro|(intro hc;try subst hc)))<;>(try clear hK K))|(refine kT (fun hc=>?_) (fun hc=>?_)<;>simp at hc<;>(try subst hc)))
      all_goals first|(show Zb _ _=true;kernel_rfl)|(simp;done)|(simp at *;omega)|((try simp[hT,hC,hTl,hCl]);refine Imp.aut ?_ ?_<;>simp[NLe,hT,hC,hTl,hCl])
     ·rw[if_neg h2]
      repeat' with_reducible (first|refine ZR.h ?_|refine kI ?_|((first|refine kR hE ?_|refine kD hE Zq ?_);intro K hK;simp[hcf,hw,hs0,hs1,hs2,ht0,ht1,hT,hC,hTl,hCl,hT2,hC2,hvr,hv,Yw,v0,v1,hi,h1,h2,d100,d101,d38];(repeat' (first|refine hK _ _ ?_|apply And.intro|(intro hc;try subst hc)))<;>(try clear hK K))|(refine kT (fun hc=>?_) (fun hc=>?_)<;>simp at hc<;>(try subst hc)))
      all_goals first|(show Zb _ _=true;kernel_rfl)|(simp;done)|(simp at *;omega)|((try simp[hT,hC,hTl,hCl,hT2,hC2]);refine Imp.aut ?_ ?_<;>simp[NLe,hT,hC,hTl,hCl,hT2,hC2])
  ·cases h
 ·cases h
def d99:List AV→Option Ans
 | [.op _ [.int .i64 a,.int .i64 b,.int .i64 c,.int .i64 d,.int .i64 e,.int .i64 f,.int .i64 g,.op _ [.os _ 1 ws,.int .i64 s,.bot,.bot,.bot,.bot,.bot],.op _ [.int .u64 t],.os _ 14 lg],.agg [.int .i64 y0,.int .i64 y1,.int .i64 y2,.int .i64 y3,.int .i64 y4,.int .i64 y5,.int .i64 y6,.int .i64 y7,.int .i64 y8,.int .i64 y9,.int .i64 y10,.int .i64 y11,.int .i64 y12,.int .i64 y13]]=>if X7 a b c d e f g=true∧ws.all isW=true∧ws.length=(a*b*2+a*b*g*(f+1)).toNat∧0≤s∧s≤100000000∧0≤t∧t≤1000000∧lg.all row14=true∧lg.length≤100000 then some ⟨.tup [],[.cells 0 [.int .i64 a,.int .i64 b,.int .i64 c,.int .i64 d,.int .i64 e,.int .i64 f,.int .i64 g,.op 0 [.os 0 1 ws,.int .i64 s,.bot,.bot,.bot,.bot,.bot],.op 0 [.int .u64 t],.os 0 14 (lg++[([.int .i64 y0,.int .i64 y1,.int .i64 y2,.int .i64 y3,.int .i64 y4,.int .i64 y5,.int .i64 y6,.int .i64 y7,.int .i64 y8,.int .i64 y9,.int .i64 y10,.int .i64 y11,.int .i64 t,.int .i64 y13]:List AV)])]]⟩ else none
 | _=>none
theorem ok99:NOk [(10,true)] d99:=by
 intro xs aa h;unfold d99 at h;split at h
 ·split at h
  ·rename_i t0 a b c d e f g t1 t2 ws s t3 t t4 lg y0 y1 y2 y3 y4 y5 y6 y7 y8 y9 y10 y11 y12 y13 hc
   have h1:=ZW hc.2.1;have h2:=ZV hc.2.1;have h3:=ZC hc.2.2.2.2.2.2.2.1;have h4:=ZD hc.2.2.2.2.2.2.2.1;injection h with h;subst h;have hl2:((lg++[([.int .i64 y0,.int .i64 y1,.int .i64 y2,.int .i64 y3,.int .i64 y4,.int .i64 y5,.int .i64 y6,.int .i64 y7,.int .i64 y8,.int .i64 y9,.int .i64 y10,.int .i64 y11,.int .i64 t,.int .i64 y13]:List AV)])).all row14=true:=(by rw[List.all_append,hc.2.2.2.2.2.2.2.1];rfl);have h5:=ZC hl2;have h6:=ZD hl2;refine ⟨Zp ?_,?_⟩<;>simp[h1,h2,h3,h4,h5,h6]
  ·cases h
 ·cases h
theorem s99:Sound Tryz.prog 99 (Zm [(10,true)] d99 ok99):=by
 refine Zi (ac:=?ac) (res:=?res) Tryz.func99 (by kernel_rfl) (ha:=?ha) (hk:=?hk) (hok:=ok99) (fun xs a h=>?_) fun xs a h w0 S hS=>?_
 case ha=>conv=>lhs;cbv
 case hk=>kernel_rfl
 ·unfold d99 at h
  (repeat' (split at h))<;>first|(cases h;done)|exact Nat.le_of_ble_eq_true rfl
 unfold d99 at h;split at h
 ·split at h
  ·rename_i t0 a b c d e f g t1 t2 ws s t3 t t4 lg y0 y1 y2 y3 y4 y5 y6 y7 y8 y9 y10 y11 y12 y13 hcond
   injection h with h;subst h;have hE:Zd Tryz.prog (EL [(57,Zm [(1,false)] d57 ok57)]):=Ze (by simp only[List.mem_cons,List.not_mem_nil,or_false,forall_eq_or_imp,forall_eq];exact s57);obtain ⟨hcf,hw,hwl,hs0,hs1,ht0,ht1,hlg,hlgl⟩:=hcond;have hc:=ZE hcf;have hall:=ZB hcf;have hwd:=Yt (f:=f) (g:=g) (show 0≤a*b by omega) hall.2 (by omega) (by omega);have hT:=ZW hw;have hC:=ZV hw;have hTl:=ZC hlg;have hCl:=ZD hlg;have hs2:s≤1000000000:=(by omega);have hl2:((lg++[([.int .i64 y0,.int .i64 y1,.int .i64 y2,.int .i64 y3,.int .i64 y4,.int .i64 y5,.int .i64 y6,.int .i64 y7,.int .i64 y8,.int .i64 y9,.int .i64 y10,.int .i64 y11,.int .i64 t,.int .i64 y13]:List AV)])).all row14=true:=(by rw[List.all_append,hlg];rfl);have hT2:=ZC hl2;have hC2:=ZD hl2;have htl:=fun n=>l_tl (n:=n) hlg;have hb1:(lg.length+1)*112≤140737488355328:=(by omega);have hb2:lg.length+1≤9223372036854775807:=by omega
   repeat' with_reducible (first|refine ZR.h ?_|refine kI ?_|((first|refine kR hE ?_|refine kD hE Zq ?_);intro K hK;simp[hcf,hw,hs0,hs1,hs2,ht0,ht1,hT,hC,hTl,hCl,hb1,hb2,htl,d57];(repeat' (first|refine hK _ _ ?_|apply And.intro|(intro hc;try subst hc)))<;>(try clear hK K))|(refine kT (fun hc=>?_) (fun hc=>?_)<;>simp at hc<;>(try subst hc)))
   all_goals try (show Zb _ _=true;kernel_rfl)
   all_goals ((try simp);refine Imp.trans (Imp.absorb (.top 0) 0 9 121 (by rfl) (by rfl) (by rfl) (.inl ⟨0,14,(lg++[([.int .i64 y0,.int .i64 y1,.int .i64 y2,.int .i64 y3,.int .i64 y4,.int .i64 y5,.int .i64 y6,.int .i64 y7,.int .i64 y8,.int .i64 y9,.int .i64 y10,.int .i64 y11,.int .i64 t,.int .i64 y13]:List AV)]),by simp,by rfl⟩) (by simp)) ?_)
   all_goals (refine Imp.aut ?_ ?_<;>simp[NLe,hT,hC,hTl,hCl,hT2,hC2,Xb,ZZ])
  ·cases h
 ·cases h
structure TZ where
 way:Int
 x:Int
 gn:Int
 y:Int
 sh:Int
 pc:Int
 wx:Int
 wy:Int
 tx:TmZ
 ty:TmZ
 held:Bool
 made:Bool
 free:Bool
 q:Int
 p:Int
 ta:Int
 en:Int
 nx:StZ
 ny:StZ
structure WZ where
 a:Int
 b:Int
 c:Int
 d:Int
 e:Int
 f:Int
 g:Int
 ws:List (List AV)
 s:Int
 t:Int
 lg:List (List AV)
def tzC (T:TZ):List AV:=[.int .i64 T.way,.int .i64 T.x,.int .i64 T.gn,.int .i64 T.y,.int .i64 T.sh,.int .i64 T.pc,.int .u64 T.wx,.int .u64 T.wy,.int .i64 T.tx.nm,.int .i64 T.tx.sd,.int .i64 T.tx.pr,.int .i64 T.tx.le,.int .i64 T.tx.un,.int .i64 T.ty.nm,.int .i64 T.ty.sd,.int .i64 T.ty.pr,.int .i64 T.ty.le,.int .i64 T.ty.un,.bool T.held,.bool T.made,.bool T.free,.int .i64 T.q,.int .i64 T.p,.int .i64 T.ta,.int .i64 T.en,.int .i64 T.nx.k,.bool T.nx.fl,.int .i64 T.nx.g,.int .i64 T.nx.l,.int .i64 T.nx.f,.int .i64 T.ny.k,.bool T.ny.fl,.int .i64 T.ny.g,.int .i64 T.ny.l,.int .i64 T.ny.f]
def ve:List AV→Option TZ
 | .int .i64 v0 :: .int .i64 v1 :: .int .i64 v2 :: .int .i64 v3 :: .int .i64 v4 :: .int .i64 v5 :: .int .u64 v6 :: .int .u64 v7 :: .int .i64 v8 :: .int .i64 v9 :: .int .i64 v10 :: .int .i64 v11 :: .int .i64 v12 :: .int .i64 v13 :: .int .i64 v14 :: .int .i64 v15 :: .int .i64 v16 :: .int .i64 v17 :: .bool v18 :: .bool v19 :: .bool v20 :: .int .i64 v21 :: .int .i64 v22 :: .int .i64 v23 :: .int .i64 v24 :: .int .i64 v25 :: .bool v26 :: .int .i64 v27 :: .int .i64 v28 :: .int .i64 v29 :: .int .i64 v30 :: .bool v31 :: .int .i64 v32 :: .int .i64 v33 :: .int .i64 v34 :: []=>some ⟨v0,v1,v2,v3,v4,v5,v6,v7,⟨v8,v9,v10,v11,v12⟩,⟨v13,v14,v15,v16,v17⟩,v18,v19,v20,v21,v22,v23,v24,⟨v25,v26,v27,v28,v29⟩,⟨v30,v31,v32,v33,v34⟩⟩
 | _=>none
theorem Vv (T:TZ):ve (tzC T)=some T:=rfl
theorem ZL {c:List AV} {T:TZ} (h:ve c=some T):c=tzC T:=by
 unfold ve at h;split at h
 ·injection h with h;subst h;rfl
 ·cases h
def wzL (W:WZ) (u1 u2 u3 u4:Nat):List AV:=[.int .i64 W.a,.int .i64 W.b,.int .i64 W.c,.int .i64 W.d,.int .i64 W.e,.int .i64 W.f,.int .i64 W.g,.op u1 [.os u2 1 W.ws,.int .i64 W.s,.bot,.bot,.bot,.bot,.bot],.op u3 [.int .u64 W.t],.os u4 14 W.lg]
def wzC (W:WZ):List AV:=[.int .i64 W.a,.int .i64 W.b,.int .i64 W.c,.int .i64 W.d,.int .i64 W.e,.int .i64 W.f,.int .i64 W.g,.op 0 [.os 0 1 W.ws,.int .i64 W.s,.bot,.bot,.bot,.bot,.bot],.op 0 [.int .u64 W.t],.os 0 14 W.lg]
def yF:List AV→Option WZ
 | [.int .i64 a,.int .i64 b,.int .i64 c,.int .i64 d,.int .i64 e,.int .i64 f,.int .i64 g,.op _ [.os _ 1 ws,.int .i64 s,.bot,.bot,.bot,.bot,.bot],.op _ [.int .u64 t],.os _ 14 lg]=>some ⟨a,b,c,d,e,f,g,ws,s,t,lg⟩
 | _=>none
theorem VC (W:WZ) (u1 u2 u3 u4:Nat):yF (wzL W u1 u2 u3 u4)=some W:=rfl
theorem ZN {c:List AV} {W:WZ} (h:yF c=some W):∃ u1 u2 u3 u4,c=wzL W u1 u2 u3 u4:=by
 unfold yF at h;split at h
 ·rename_i u1 u2 ws s u3 t u4 lg
  injection h with h;subst h;exact ⟨_,_,_,_,rfl⟩
 ·cases h
def okW (W:WZ):Bool:=decide (X7 W.a W.b W.c W.d W.e W.f W.g=true∧W.ws.all isW=true∧W.ws.length=(W.a*W.b*2+W.a*W.b*W.g*(W.f+1)).toNat∧0≤W.s∧0≤W.t∧W.t≤1000000∧W.lg.all row14=true)
theorem Zk {W:WZ} (h:okW W=true):X7 W.a W.b W.c W.d W.e W.f W.g=true∧W.ws.all isW=true∧W.ws.length=(W.a*W.b*2+W.a*W.b*W.g*(W.f+1)).toNat∧0≤W.s∧0≤W.t∧W.t≤1000000∧W.lg.all row14=true:=of_decide_eq_true h
def okS (s:StZ):Bool:=decide (0≤s.k∧s.k≤1000000∧0≤s.g∧s.g≤1000000∧0≤s.l∧s.l≤1000000∧0≤s.f∧s.f≤1000000)
theorem UP {s:StZ} (h:okS s=true):0≤s.k∧s.k≤1000000∧0≤s.g∧s.g≤1000000∧0≤s.l∧s.l≤1000000∧0≤s.f∧s.f≤1000000:=of_decide_eq_true h
def okT (T:TZ):Bool:=decide (0≤T.pc∧T.pc≤1000000∧0≤T.wx∧T.wx<18446744073709551616∧0≤T.wy∧T.wy<18446744073709551616∧0≤T.tx.pr∧T.tx.pr≤1000000∧0≤T.ty.pr∧T.ty.pr≤1000000∧0≤T.q∧T.q≤1000000∧0≤T.p∧T.p≤1000000∧0≤T.ta∧T.ta≤1000000∧0≤T.en∧T.en≤1000000∧okS T.nx=true∧okS T.ny=true)
theorem XQ {T:TZ} (h:okT T=true):0≤T.pc∧T.pc≤1000000∧0≤T.wx∧T.wx<18446744073709551616∧0≤T.wy∧T.wy<18446744073709551616∧0≤T.tx.pr∧T.tx.pr≤1000000∧0≤T.ty.pr∧T.ty.pr≤1000000∧0≤T.q∧T.q≤1000000∧0≤T.p∧T.p≤1000000∧0≤T.ta∧T.ta≤1000000∧0≤T.en∧T.en≤1000000∧okS T.nx=true∧okS T.ny=true:=of_decide_eq_true h
def YI (W:WZ) (T:TZ):Bool:=decide (UH W.a W.b T.x<0∨UH W.a W.b T.y<0∨UH W.a W.b T.x=UH W.a W.b T.y)
def Z9 (W:WZ) (T:TZ) (s:StZ):Bool:=decide ((T.way=1∨T.way=2)∧s.k=1∧s.g=T.gn∨T.way=3∧s.k=2∧T.tx.sd=0∧ZK W.c W.d T.tx.nm (Yj W.d T.tx.pr)=T.sh)
def YG (W:WZ) (T:TZ) (s:StZ):Bool:=decide (T.way=1∧s.k=1∨T.way=2∧s.k=2∧ZK W.c W.d T.ty.nm (Yj W.d T.ty.pr)=T.sh∨T.way=3∧s.k=2)
theorem Zhs {a b c d e f g x:Int} (h:X7 a b c d e f g=true):UH a b x ≥ -1∧UH a b x≤1000:=by
 have hc:=ZE h;have ha:=ZB h;unfold UH;split
 ·omega
 ·split
  ·have h1:=Int.ediv_nonneg (show 0≤x by omega) (show 0≤b by omega)
   have h2:=Int.ediv_le_self b (show 0≤x by omega);omega
  ·omega
def d43:List AV→Option Ans
 | [.op _ tc,.op _ wc]=>(match ve tc,yF wc with
  | some T,some W=>if okW W=true then some (⟨.bool (YI W T),[.free,.free]⟩) else none
  | _,_=>none)
 | _=>none
theorem ok43:NOk [(35,false),(10,false)] d43:=by
 intro xs aa h;unfold d43 at h;split at h
 ·rename_i t1 tc t2 wc
  split at h
  ·rename_i T W hTc hWc
   split at h
   ·rename_i hc
    obtain ⟨u1,u2,u3,u4,rfl⟩:=ZN hWc;obtain rfl:=ZL hTc;injection h with h;subst h;obtain ⟨hcf,hw,hwl,hs0,ht0,ht1,hlg⟩:=Zk hc;have hT:=ZW hw;have hC:=ZV hw;have hTl:=ZC hlg;have hCl:=ZD hlg;refine ⟨Zp ?_,?_⟩<;>simp[tzC,wzL,hT,hC,hTl,hCl]
   ·cases h
  ·cases h
 ·cases h
theorem s43:Sound Tryz.prog 43 (Zm [(35,false),(10,false)] d43 ok43):=by
 refine Zi (ac:=?ac) (res:=?res) Tryz.func43 (by kernel_rfl) (ha:=?ha) (hk:=?hk) (hok:=ok43) (fun xs a h=>?_) fun xs a h w0 S hS=>?_
 case ha=>conv=>lhs;cbv
 case hk=>kernel_rfl
 ·unfold d43 at h
  (repeat' (split at h))<;>first|(cases h;done)|exact Nat.le_of_ble_eq_true rfl
 unfold d43 at h;split at h
 ·rename_i t1 tc t2 wc
  split at h
  ·rename_i T W hTc hWc
   split at h
   ·rename_i hcond
    obtain ⟨u1,u2,u3,u4,rfl⟩:=ZN hWc;obtain rfl:=ZL hTc;injection h with h;subst h;clear hTc hWc;have hE:Zd Tryz.prog (EL [(78,rdS d78 ok78)]):=Ze (by simp only[List.mem_cons,List.not_mem_nil,or_false,forall_eq_or_imp,forall_eq];exact s78);obtain ⟨hcf,hw,hwl,hs0,ht0,ht1,hlg⟩:=Zk hcond;have hT:=ZW hw;have hC:=ZV hw;have hTl:=ZC hlg;have hCl:=ZD hlg;simp only[tzC,wzL]at hS⊢;have e1:UH W.a W.b T.x ≥ -1∧UH W.a W.b T.x≤1000:=Zhs hcf;have e2:UH W.a W.b T.y ≥ -1∧UH W.a W.b T.y≤1000:=Zhs hcf;by_cases h1:UH W.a W.b T.x<0
    ·have hi:YI W T=true:=by simp[YI,h1]
     rw[hi]
     repeat' with_reducible (first|refine ZR.h ?_|refine kI ?_|((first|refine kR hE ?_|refine kD hE Zq ?_);intro K hK;simp[hT,hC,hTl,hCl,hcf,h1,d78];(repeat' (first|refine hK _ _ ?_|apply And.intro|(intro hc;try subst hc)))<;>(try clear hK K))|(refine kT (fun hc=>?_) (fun hc=>?_)<;>simp at hc<;>(try subst hc)))
     all_goals first|(show Zb _ _=true;kernel_rfl)|(simp;done)|(simp at *;omega)|((try simp[hT,hC,hTl,hCl]);refine Imp.aut ?_ ?_<;>simp[NLe,hT,hC,hTl,hCl])
    ·by_cases h2:UH W.a W.b T.y<0
     ·have hi:YI W T=true:=by simp[YI,h2]
      rw[hi]
      repeat' with_reducible (first|refine ZR.h ?_|refine kI ?_|((first|refine kR hE ?_|refine kD hE Zq ?_);intro K hK;simp[hT,hC,hTl,hCl,hcf,h1,h2,d78];(repeat' (first|refine hK _ _ ?_|apply And.intro|(intro hc;try subst hc)))<;>(try clear hK K))|(refine kT (fun hc=>?_) (fun hc=>?_)<;>simp at hc<;>(try subst hc)))
      all_goals first|(show Zb _ _=true;kernel_rfl)|(simp;done)|(simp at *;omega)|((try simp[hT,hC,hTl,hCl]);refine Imp.aut ?_ ?_<;>simp[NLe,hT,hC,hTl,hCl])
     ·by_cases h3:UH W.a W.b T.x=UH W.a W.b T.y
      ·have hi:YI W T=true:=by simp[YI,h3]
       rw[hi]
       repeat' with_reducible (first|refine ZR.h ?_|refine kI ?_|((first|refine kR hE ?_|refine kD hE Zq ?_);intro K hK;simp[hT,hC,hTl,hCl,hcf,h1,h2,h3,d78];(repeat' (first|refine hK _ _ ?_|apply And.intro|(intro hc;try subst hc)))<;>(try clear hK K))|(refine kT (fun hc=>?_) (fun hc=>?_)<;>simp at hc<;>(try subst hc)))
       all_goals first|(show Zb _ _=true;kernel_rfl)|(simp;done)|(simp at *;omega)|((try simp[hT,hC,hTl,hCl]);refine Imp.aut ?_ ?_<;>simp[NLe,hT,hC,hTl,hCl])
      ·have hi:YI W T=false:=by simp[YI,h1,h2,h3]
       rw[hi]
       repeat' with_reducible (first|refine ZR.h ?_|refine kI ?_|((first|refine kR hE ?_|refine kD hE Zq ?_);intro K hK;simp[hT,hC,hTl,hCl,hcf,h1,h2,h3,d78];(repeat' (first|refine hK _ _ ?_|apply And.intro|(intro hc;try subst hc)))<;>(try clear hK K))|(refine kT (fun hc=>?_) (fun hc=>?_)<;>simp at hc<;>(try subst hc)))
       all_goals first|(show Zb _ _=true;kernel_rfl)|(simp;done)|(simp at *;omega)|((try simp[hT,hC,hTl,hCl]);refine Imp.aut ?_ ?_<;>simp[NLe,hT,hC,hTl,hCl])
   ·cases h
  ·cases h
 ·cases h
end Go.W
