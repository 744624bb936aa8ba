/- Brooms: what keeps all that holds between steps. -/
import Derived.Test.YtidbbnkpglggdaaGreatPsX
import Derived.Test.YtidbbnkpglggdaaGreatPaA
import Derived.Test.YtidbbnkpglggdaaGreatSbG
namespace Go.W
open Go.Proofs
set_option linter.unusedSimpArgs false
set_option linter.unusedVariables false
set_option maxHeartbeats 8000000
set_option maxRecDepth 100000
attribute [local irreducible] Wm WmA
attribute [local simp] YP lkp Vq prs V9 prT ddL idL Yy Ue Ren Ve NObj.none ZT
structure SwZ where
 sh:Int
 ix:Int
 ps:Int
 p:Option TZ
def pC (u:Nat):Option TZ→AV
 | none=>.raw (.pointer none)
 | some T=>.op u (tzC T)
def swL (s:SwZ) (u:Nat):List AV:=[.int .i64 s.sh,.int .i64 s.ix,.int .i64 s.ps,pC u s.p]
def Zjp:List AV→Option SwZ
 | [.int .i64 sh,.int .i64 ix,.int .i64 ps,.raw (.pointer none)]=>some ⟨sh,ix,ps,none⟩
 | [.int .i64 sh,.int .i64 ix,.int .i64 ps,.op _ tc]=>(match ve tc with
  | some T=>some ⟨sh,ix,ps,some T⟩
  | none=>none)
 | _=>none
theorem Zd9 (s:SwZ) (u:Nat):Zjp (swL s u)=some s:=by
 obtain ⟨sh,ix,ps,p⟩:=s;cases p with
 | none=>rfl
 | some T=>simp[swL,pC,Zjp,Vv]
theorem ZcE {c:List AV} {s:SwZ} (h:Zjp c=some s):∃ u,c=swL s u:=by
 unfold Zjp at h;split at h
 ·injection h with h;subst h;exact ⟨0,rfl⟩
 ·rename_i sh ix ps u tc
  split at h
  ·rename_i T hT
   injection h with h;subst h;obtain rfl:=ZL hT;exact ⟨u,rfl⟩
  ·cases h
 ·cases h
def ZjQ (s:SwZ):Bool:=decide (0≤s.ix∧s.ix≤1000∧0≤s.ps∧s.ps≤1000000)&&(match s.p with
 | none=>true
 | some T=>okT T)
def swT (W:WZ) (s:SwZ):TZ:=match s.p with
 | none=>tz0 3 (s.ix / (W.a*W.b)) 0 (s.ix % (W.a*W.b)) s.sh
 | some T=>if 14≤T.pc then tz0 3 (s.ix / (W.a*W.b)) 0 (s.ix % (W.a*W.b)) s.sh else T
def Yg (W:WZ) (s:SwZ):SwZ×WZ :=
 if 14≤(Zw W (swT W s)).1.pc then
  (if s.ix+1=W.a*W.b*(W.a*W.b) then (⟨s.sh,0,s.ps+1,some (Zw W (swT W s)).1⟩,(Zw W (swT W s)).2) else (⟨s.sh,s.ix+1,s.ps,some (Zw W (swT W s)).1⟩,(Zw W (swT W s)).2))
 else (⟨s.sh,s.ix,s.ps,some (Zw W (swT W s)).1⟩,(Zw W (swT W s)).2)
theorem sw_p (W:WZ) (s:SwZ):∃ i q,Yg W s=(⟨s.sh,i,q,some (Zw W (swT W s)).1⟩,(Zw W (swT W s)).2):=by
 unfold Yg;split
 ·split
  ·exact ⟨_,_,rfl⟩
  ·exact ⟨_,_,rfl⟩
 ·exact ⟨_,_,rfl⟩
theorem ZcG (w x g y s:Int):okT (tz0 w x g y s)=true:=by
 unfold okT tz0 Zu okS;simp
def d18:List AV→Option Ans
 | [.int .i64 sh]=>some ⟨.op 0 [.int .i64 sh,.int .i64 0,.int .i64 0,.raw (.pointer none)],[]⟩
 | _=>none
theorem ok18:NOk [] d18:=by
 intro xs a h;unfold d18 at h
 (repeat' (split at h))<;>first|(cases h;done)|(injection h with h;subst h;refine ⟨Zp ?_,?_⟩<;>simp)
theorem s18:Sound Tryz.prog 18 (Zm [] d18 ok18):=by
 refine Zi (ac:=?ac) (res:=?res) Tryz.func18 (by kernel_rfl) (ha:=?ha) (hk:=?hk) (hok:=ok18) (fun xs a h=>?_) fun xs a h w0 S hS=>?_
 case ha=>conv=>lhs;cbv
 case hk=>kernel_rfl
 ·unfold d18 at h
  (repeat' (split at h))<;>first|(cases h;done)|exact Nat.le_of_ble_eq_true rfl
 unfold d18 at h;split at h
 ·rename_i sh
  injection h with h;subst h;have hE:Zd Tryz.prog (EL []):=Ze (by simp);have hp:(Value.pointer none).oneCell'=true:=rfl
  repeat' with_reducible (first|refine ZR.h ?_|refine kI ?_|(refine kR hE ?_;intro K hK;simp[hp];(repeat' (first|refine hK _ _ ?_|apply And.intro|(intro hc;try subst hc)))<;>(try clear hK K))|(refine kT (fun hc=>?_) (fun hc=>?_)<;>simp at hc<;>(try subst hc)))
  all_goals try (show Zb _ _=true;kernel_rfl)
  all_goals first|(show Zb _ _=true;kernel_rfl)|(simp;done)|(simp at *;omega)|((try simp);refine Imp.aut ?_ ?_<;>simp[NLe])
 ·cases h
def d19:List AV→Option Ans
 | [.int .i64 sh]=>some ⟨.op 0 [.int .i64 sh,.int .i64 0,.int .i64 0,.int .u64 0,.int .i64 0,.bool false,.int .i64 0,.int .i64 0,.int .i64 0,.int .i64 0,.int .i64 0,.int .i64 0,.int .i64 0,.int .i64 0,.bool false,.int .i64 0],[]⟩
 | _=>none
theorem ok19:NOk [] d19:=by
 intro xs a h;unfold d19 at h
 (repeat' (split at h))<;>first|(cases h;done)|(injection h with h;subst h;refine ⟨Zp ?_,?_⟩<;>simp)
theorem s19:Sound Tryz.prog 19 (Zm [] d19 ok19):=by
 refine Zi (ac:=?ac) (res:=?res) Tryz.func19 (by kernel_rfl) (ha:=?ha) (hk:=?hk) (hok:=ok19) (fun xs a h=>?_) fun xs a h w0 S hS=>?_
 case ha=>conv=>lhs;cbv
 case hk=>kernel_rfl
 ·unfold d19 at h
  (repeat' (split at h))<;>first|(cases h;done)|exact Nat.le_of_ble_eq_true rfl
 unfold d19 at h;split at h
 ·rename_i sh
  injection h with h;subst h;have hE:Zd Tryz.prog (EL []):=Ze (by simp)
  repeat' with_reducible (first|refine ZR.h ?_|refine kI ?_|(refine kR hE ?_;intro K hK;simp[];(repeat' (first|refine hK _ _ ?_|apply And.intro|(intro hc;try subst hc)))<;>(try clear hK K))|(refine kT (fun hc=>?_) (fun hc=>?_)<;>simp at hc<;>(try subst hc)))
  all_goals try (show Zb _ _=true;kernel_rfl)
  all_goals first|(show Zb _ _=true;kernel_rfl)|(simp;done)|(simp at *;omega)|((try simp);refine Imp.aut ?_ ?_<;>simp[NLe])
 ·cases h
def d21:List AV→Option Ans
 | [.agg [.int .i64 a,.int .i64 b,.int .i64 c,.int .i64 d,.int .i64 e,.int .i64 f,.int .i64 g]]=>if X7 a b c d e f g=true then some ⟨.int .i64 (4*(a*b)),[]⟩ else none
 | _=>none
theorem ok21:NOk [] d21:=by
 intro xs a h;unfold d21 at h
 (repeat' (split at h))<;>first|(cases h;done)|(injection h with h;subst h;refine ⟨Zp ?_,?_⟩<;>simp)
theorem s21:Sound Tryz.prog 21 (Zm [] d21 ok21):=by
 refine Zi (ac:=?ac) (res:=?res) Tryz.func21 (by kernel_rfl) (ha:=?ha) (hk:=?hk) (hok:=ok21) (fun xs a h=>?_) fun xs a h w0 S hS=>?_
 case ha=>conv=>lhs;cbv
 case hk=>kernel_rfl
 ·unfold d21 at h
  (repeat' (split at h))<;>first|(cases h;done)|exact Nat.le_of_ble_eq_true rfl
 unfold d21 at h;split at h
 ·split at h
  ·rename_i a b c d e f g hcond
   injection h with h;subst h;have hE:Zd Tryz.prog (EL [(62,rdS d62 ok62)]):=Ze (by simp only[List.mem_cons,List.not_mem_nil,or_false,forall_eq_or_imp,forall_eq];exact s62);have hall:=ZB hcond;have w1:IntKind.wrap .i64 (4*(a*b))=4*(a*b):=Zg (by omega) (by omega)
   repeat' with_reducible (first|refine ZR.h ?_|refine kI ?_|(refine kR hE ?_;intro K hK;simp[hcond,w1,d62];(repeat' (first|refine hK _ _ ?_|apply And.intro|(intro hc;try subst hc)))<;>(try clear hK K))|(refine kT (fun hc=>?_) (fun hc=>?_)<;>simp at hc<;>(try subst hc)))
   all_goals try (show Zb _ _=true;kernel_rfl)
   all_goals first|(show Zb _ _=true;kernel_rfl)|(simp;done)|(simp at *;omega)|((try simp);refine Imp.aut ?_ ?_<;>simp[NLe])
  ·cases h
 ·cases h
def d20:List AV→Option Ans
 | [.agg [.int .i64 a,.int .i64 b,.int .i64 c,.int .i64 d,.int .i64 e,.int .i64 f,.int .i64 g]]=>if X7 a b c d e f g=true then some ⟨.int .i64 (14*(a*b)*(a*b)),[]⟩ else none
 | _=>none
theorem ok20:NOk [] d20:=by
 intro xs a h;unfold d20 at h
 (repeat' (split at h))<;>first|(cases h;done)|(injection h with h;subst h;refine ⟨Zp ?_,?_⟩<;>simp)
theorem s20:Sound Tryz.prog 20 (Zm [] d20 ok20):=by
 refine Zi (ac:=?ac) (res:=?res) Tryz.func20 (by kernel_rfl) (ha:=?ha) (hk:=?hk) (hok:=ok20) (fun xs a h=>?_) fun xs a h w0 S hS=>?_
 case ha=>conv=>lhs;cbv
 case hk=>kernel_rfl
 ·unfold d20 at h
  (repeat' (split at h))<;>first|(cases h;done)|exact Nat.le_of_ble_eq_true rfl
 unfold d20 at h;split at h
 ·split at h
  ·rename_i a b c d e f g hcond
   injection h with h;subst h;have hE:Zd Tryz.prog (EL [(62,rdS d62 ok62)]):=Ze (by simp only[List.mem_cons,List.not_mem_nil,or_false,forall_eq_or_imp,forall_eq];exact s62);have hall:=ZB hcond;have hm:=Xh (show 0≤14*(a*b) by omega) (show 14*(a*b)≤400 by omega) (show 0≤a*b by omega) (show a*b≤24 by omega);have w1:IntKind.wrap .i64 (14*(a*b))=14*(a*b):=Zg (by omega) (by omega);have w2:IntKind.wrap .i64 (14*(a*b)*(a*b))=14*(a*b)*(a*b):=Zg (by omega) (by omega)
   repeat' with_reducible (first|refine ZR.h ?_|refine kI ?_|((first|refine kR hE ?_|refine kD hE Zq ?_);intro K hK;simp[hcond,w1,w2,d62];(repeat' (first|refine hK _ _ ?_|apply And.intro|(intro hc;try subst hc)))<;>(try clear hK K))|(refine kT (fun hc=>?_) (fun hc=>?_)<;>simp at hc<;>(try subst hc)))
   all_goals try (show Zb _ _=true;kernel_rfl)
   all_goals first|(show Zb _ _=true;kernel_rfl)|(simp;done)|(simp at *;omega)|((try simp);refine Imp.aut ?_ ?_<;>simp[NLe])
  ·cases h
 ·cases h
theorem Zde (W:WZ) (x g n:Int) (r:RcZ):(ZH W x g n r).a=W.a∧(ZH W x g n r).b=W.b∧(ZH W x g n r).c=W.c∧(ZH W x g n r).d=W.d∧(ZH W x g n r).e=W.e∧(ZH W x g n r).f=W.f∧(ZH W x g n r).g=W.g:=by
 unfold ZH;split
 ·exact ⟨rfl,rfl,rfl,rfl,rfl,rfl,rfl⟩
 ·split
  ·exact ⟨rfl,rfl,rfl,rfl,rfl,rfl,rfl⟩
  ·split<;>exact ⟨rfl,rfl,rfl,rfl,rfl,rfl,rfl⟩
def Xm (W:WZ) (R:RpZ):RpZ×WZ :=
 if R.pc % 4=0 then ({ R with dn:=false,wd:=sAt W (R.pc / 4),st:=Zc (sAt W (R.pc / 4)) },Yn W)
 else if R.pc % 4=1 then ({ R with tm:=Yc (tAt W (R.pc / 4)) },Yn W)
 else if R.pc % 4=2 then Tp W R (R.pc / 4)
 else if (ZJ R.st R.ta).2=true∧R.dn=true then (R,ZH W (R.pc / 4) R.st.g W.f (ZJ R.st R.ta).1)
 else (R,W)
def vo (m:Int) (R:RpZ):RpZ:=if R.pc+1=m then { R with pc:=0,ps:=R.ps+1 } else { R with pc:=R.pc+1 }
def Yf (W:WZ) (R:RpZ):RpZ×WZ:=(vo (4*(W.a*W.b)) (Xm W R).1,(Xm W R).2)
theorem Zc0 {W:WZ} (h:okW W=true) (R:RpZ):okW (Xm W R).2=true:=by
 unfold Xm
 repeat' split
 all_goals first|exact h|exact X2 h|exact Zan h R _|exact VX h _ _ _ _
def d24:List AV→Option Ans
 | [.op _ rc,.op _ wc]=>(match Zji rc,yF wc with
  | some R,some W=>if Zjo R=true∧okW W=true∧smW W=true∧R.pc<4*(W.a*W.b) then some (⟨.tup [],[.cells 0 (rpC (Yf W R).1),.cells 0 (wzC (Yf W R).2)]⟩) else none
  | _,_=>none)
 | _=>none
theorem ok24:NOk [(16,true),(10,true)] d24:=by
 intro xs aa h;unfold d24 at h;split at h
 ·rename_i t1 rc t2 wc
  split at h
  ·rename_i R W hRc hWc
   split at h
   ·rename_i hc
    obtain ⟨u1,u2,u3,u4,rfl⟩:=ZN hWc;obtain rfl:=xm hRc;injection h with h;subst h;have hW:=hc.2.1;obtain ⟨hcf,hw,hwl,hs0,ht0,ht1,hlg⟩:=Zk (hW);have hT:=ZW hw;have hC:=ZV hw;have hTl:=ZC hlg;have hCl:=ZD hlg;have hW2:okW (Yf W R).2=true:=Zc0 hW R;obtain ⟨hcf2,hw2,hwl2,hs02,ht02,ht12,hlg2⟩:=Zk (hW2);have hT2:=ZW hw2;have hC2:=ZV hw2;have hTl2:=ZC hlg2;have hCl2:=ZD hlg2;refine ⟨Zp ?_,?_⟩<;>simp[rpC,wzL,wzC,hT,hC,hTl,hCl,hT2,hC2,hTl2,hCl2]
   ·cases h
  ·cases h
 ·cases h
theorem s24:Sound Tryz.prog 24 (Zm [(16,true),(10,true)] d24 ok24):=by
 refine Zi (ac:=?ac) (res:=?res) Tryz.func24 (by kernel_rfl) (ha:=?ha) (hk:=?hk) (hok:=ok24) (fun xs a h=>?_) fun xs a h w0 S hS=>?_
 case ha=>conv=>lhs;cbv
 case hk=>kernel_rfl
 ·unfold d24 at h
  (repeat' (split at h))<;>first|(cases h;done)|exact Nat.le_of_ble_eq_true rfl
 unfold d24 at h;split at h
 ·rename_i t1 rc t2 wc
  split at h
  ·rename_i R W hRc hWc
   split at h
   ·rename_i hcond
    obtain ⟨u1,u2,u3,u4,rfl⟩:=ZN hWc;obtain rfl:=xm hRc;injection h with h;subst h;clear hRc hWc;have hE:Zd Tryz.prog (EL [(42,Zm [(10,true)] d42 ok42),(21,Zm [] d21 ok21),(63,Zm [(10,true)] d63 ok63),(64,Zm [(16,true),(10,true)] d64 ok64),(65,rdS d65 ok65),(66,Zm [(10,true)] d66 ok66)]):=Ze (by simp only[List.mem_cons,List.not_mem_nil,or_false,forall_eq_or_imp,forall_eq];exact ⟨s42,s21,s63,s64,s65,s66⟩);obtain ⟨hR,hW,hsm,hpm⟩:=hcond;obtain ⟨p0,p1,q0,q1,w0',w1',hst0,ta0,ta1⟩:=ZcN hR;obtain ⟨hcf,hw,hwl,hs0,ht0,ht1,hlg⟩:=Zk (hW);have hT:=ZW hw;have hC:=ZV hw;have hTl:=ZC hlg;have hCl:=ZD hlg;have hlo:=U8 hsm;have hall:=ZB hcf;have h39:d21 [.agg [.int .i64 W.a,.int .i64 W.b,.int .i64 W.c,.int .i64 W.d,.int .i64 W.e,.int .i64 W.f,.int .i64 W.g]]=some ⟨.int .i64 (4*(W.a*W.b)),[]⟩:=(by simp only[d21];rw[if_pos hcf]);have tq:IntKind.wrap .i64 (R.pc.tdiv 4)=R.pc / 4:=Xq (by omega) (by omega) (by omega);have tr:R.pc.tmod 4=R.pc % 4:=Int.tmod_eq_emod_of_nonneg p0;have w1:IntKind.wrap .i64 (R.pc+1)=R.pc+1:=Zg (by omega) (by omega);have w2:IntKind.wrap .i64 (R.ps+1)=R.ps+1:=Zg (by omega) (by omega);have hx0:0≤R.pc / 4:=(by omega);have hx1:R.pc / 4<W.a*W.b:=(by omega);obtain ⟨M,hM⟩:∃ z,4*(W.a*W.b)=z:=⟨_,rfl⟩;rw[hM]at h39;have wM:IntKind.wrap .i64 M=M:=Zg (by omega) (by omega);rcases (show R.pc % 4=0∨R.pc % 4=1∨R.pc % 4=2∨R.pc % 4=3 by omega) with hm|hm|hm|hm
    ·have h14:=e42 hW hlo hx0 hx1
     have hco:Xm W R=({ R with dn:=false,wd:=sAt W (R.pc / 4),st:=Zc (sAt W (R.pc / 4)) },Yn W):=(by unfold Xm;rw[if_pos hm]);simp only[Yf,hco,vo,hM];by_cases hN:R.pc+1=M
     ·rw[if_pos hN]
      simp only[rpC,wzL,wzC,Yn,stA,tmA,tmC]at h14 hS h39⊢
      repeat' with_reducible (first|refine ZR.h ?_|refine kI ?_|((first|refine kR hE ?_|refine kD hE Zq ?_);intro K hK;simp[hT,hC,hTl,hCl,tq,tr,w1,w2,hm,h39,hN,wM,h14];(repeat' (first|refine hK _ _ ?_|apply And.intro|(intro hc;try subst hc)))<;>(try clear hK K))|(refine kT (fun hc=>?_) (fun hc=>?_)<;>simp at hc<;>(try subst hc)))
      all_goals try (show Zb _ _=true;kernel_rfl)
      all_goals first|(show Zb _ _=true;kernel_rfl)|(simp;done)|(simp at *;omega)|((try simp[hT,hC,hTl,hCl]);refine Imp.aut ?_ ?_<;>simp[NLe,hT,hC,hTl,hCl])
     ·rw[if_neg hN]
      simp only[rpC,wzL,wzC,Yn,stA,tmA,tmC]at h14 hS h39⊢
      repeat' with_reducible (first|refine ZR.h ?_|refine kI ?_|((first|refine kR hE ?_|refine kD hE Zq ?_);intro K hK;simp[hT,hC,hTl,hCl,tq,tr,w1,w2,hm,h39,hN,wM,h14];(repeat' (first|refine hK _ _ ?_|apply And.intro|(intro hc;try subst hc)))<;>(try clear hK K))|(refine kT (fun hc=>?_) (fun hc=>?_)<;>simp at hc<;>(try subst hc)))
      all_goals try (show Zb _ _=true;kernel_rfl)
      all_goals first|(show Zb _ _=true;kernel_rfl)|(simp;done)|(simp at *;omega)|((try simp[hT,hC,hTl,hCl]);refine Imp.aut ?_ ?_<;>simp[NLe,hT,hC,hTl,hCl])
    ·have h65:=e63 hW hlo hx0 hx1
     have hco:Xm W R=({ R with tm:=Yc (tAt W (R.pc / 4)) },Yn W):=(by unfold Xm;rw[if_neg (by omega),if_pos hm]);simp only[Yf,hco,vo,hM];by_cases hN:R.pc+1=M
     ·rw[if_pos hN]
      simp only[rpC,wzL,wzC,Yn,stA,tmA,tmC]at h65 hS h39⊢
      repeat' with_reducible (first|refine ZR.h ?_|refine kI ?_|((first|refine kR hE ?_|refine kD hE Zq ?_);intro K hK;simp[hT,hC,hTl,hCl,tq,tr,w1,w2,hm,h39,hN,wM,h65];(repeat' (first|refine hK _ _ ?_|apply And.intro|(intro hc;try subst hc)))<;>(try clear hK K))|(refine kT (fun hc=>?_) (fun hc=>?_)<;>simp at hc<;>(try subst hc)))
      all_goals try (show Zb _ _=true;kernel_rfl)
      all_goals first|(show Zb _ _=true;kernel_rfl)|(simp;done)|(simp at *;omega)|((try simp[hT,hC,hTl,hCl]);refine Imp.aut ?_ ?_<;>simp[NLe,hT,hC,hTl,hCl])
     ·rw[if_neg hN]
      simp only[rpC,wzL,wzC,Yn,stA,tmA,tmC]at h65 hS h39⊢
      repeat' with_reducible (first|refine ZR.h ?_|refine kI ?_|((first|refine kR hE ?_|refine kD hE Zq ?_);intro K hK;simp[hT,hC,hTl,hCl,tq,tr,w1,w2,hm,h39,hN,wM,h65];(repeat' (first|refine hK _ _ ?_|apply And.intro|(intro hc;try subst hc)))<;>(try clear hK K))|(refine kT (fun hc=>?_) (fun hc=>?_)<;>simp at hc<;>(try subst hc)))
      all_goals try (show Zb _ _=true;kernel_rfl)
      all_goals first|(show Zb _ _=true;kernel_rfl)|(simp;done)|(simp at *;omega)|((try simp[hT,hC,hTl,hCl]);refine Imp.aut ?_ ?_<;>simp[NLe,hT,hC,hTl,hCl])
    ·have h66:=e64 hR hW hsm hx0 hx1
     have hW2:=Zan hW R (R.pc / 4);have hpc2:(Tp W R (R.pc / 4)).1.pc=R.pc∧(Tp W R (R.pc / 4)).1.ps=R.ps:=by
      unfold Tp;repeat' split
      all_goals exact ⟨rfl,rfl⟩
     have hpar:(Tp W R (R.pc / 4)).2.a=W.a∧(Tp W R (R.pc / 4)).2.b=W.b∧(Tp W R (R.pc / 4)).2.c=W.c∧(Tp W R (R.pc / 4)).2.d=W.d∧(Tp W R (R.pc / 4)).2.e=W.e∧(Tp W R (R.pc / 4)).2.f=W.f∧(Tp W R (R.pc / 4)).2.g=W.g:=by
      have ht:∀ x old s,(Zs W x old s).2.a=W.a∧(Zs W x old s).2.b=W.b∧(Zs W x old s).2.c=W.c∧(Zs W x old s).2.d=W.d∧(Zs W x old s).2.e=W.e∧(Zs W x old s).2.f=W.f∧(Zs W x old s).2.g=W.g:=fun x old s=>by
       unfold Zs;split
       ·exact ⟨rfl,rfl,rfl,rfl,rfl,rfl,rfl⟩
       ·split<;>exact ⟨rfl,rfl,rfl,rfl,rfl,rfl,rfl⟩
      unfold Tp;split
      ·exact ⟨rfl,rfl,rfl,rfl,rfl,rfl,rfl⟩
      ·split
       ·exact ⟨rfl,rfl,rfl,rfl,rfl,rfl,rfl⟩
       ·split
        ·split
         ·exact ht _ _ _
         ·exact ht _ _ _
        ·exact ⟨rfl,rfl,rfl,rfl,rfl,rfl,rfl⟩
     have hco:Xm W R=Tp W R (R.pc / 4):=(by unfold Xm;rw[if_neg (by omega),if_neg (by omega),if_pos hm]);simp only[Yf,hco,vo,hM];obtain ⟨⟨Q,V⟩,hV⟩:∃ r,Tp W R (R.pc / 4)=r:=⟨_,rfl⟩;rw[hV]at h66 hW2 hpc2 hpar⊢;simp only at h66 hW2 hpc2 hpar⊢;obtain ⟨z1,z2⟩:=hpc2;obtain ⟨y1,y2,y3,y4,y5,y6,y7⟩:=hpar;obtain ⟨hcf2,hw2,hwl2,hs02,ht02,ht12,hlg2⟩:=Zk (hW2);have hT2:=ZW hw2;have hC2:=ZV hw2;have hTl2:=ZC hlg2;have hCl2:=ZD hlg2;rw[← y1,← y2,← y3,← y4,← y5,← y6,← y7]at h39;rw[z1,z2];by_cases hN:R.pc+1=M
     ·rw[if_pos hN]
      simp only[rpC,wzL,wzC,z1,z2]at h66 hS h39⊢
      repeat' with_reducible (first|refine ZR.h ?_|refine kI ?_|((first|refine kR hE ?_|refine kD hE Zq ?_);intro K hK;simp[hT,hC,hTl,hCl,hT2,hC2,hTl2,hCl2,tq,tr,w1,w2,hm,h39,hN,wM,h66];(repeat' (first|refine hK _ _ ?_|apply And.intro|(intro hc;try subst hc)))<;>(try clear hK K))|(refine kT (fun hc=>?_) (fun hc=>?_)<;>simp at hc<;>(try subst hc)))
      all_goals try (show Zb _ _=true;kernel_rfl)
      all_goals first|(show Zb _ _=true;kernel_rfl)|(simp;done)|(simp at *;omega)|((try simp[hT,hC,hTl,hCl,hT2,hC2,hTl2,hCl2]);refine Imp.aut ?_ ?_<;>simp[NLe,hT,hC,hTl,hCl,hT2,hC2,hTl2,hCl2])
     ·rw[if_neg hN]
      simp only[rpC,wzL,wzC,z1,z2]at h66 hS h39⊢
      repeat' with_reducible (first|refine ZR.h ?_|refine kI ?_|((first|refine kR hE ?_|refine kD hE Zq ?_);intro K hK;simp[hT,hC,hTl,hCl,hT2,hC2,hTl2,hCl2,tq,tr,w1,w2,hm,h39,hN,wM,h66];(repeat' (first|refine hK _ _ ?_|apply And.intro|(intro hc;try subst hc)))<;>(try clear hK K))|(refine kT (fun hc=>?_) (fun hc=>?_)<;>simp at hc<;>(try subst hc)))
      all_goals try (show Zb _ _=true;kernel_rfl)
      all_goals first|(show Zb _ _=true;kernel_rfl)|(simp;done)|(simp at *;omega)|((try simp[hT,hC,hTl,hCl,hT2,hC2,hTl2,hCl2]);refine Imp.aut ?_ ?_<;>simp[NLe,hT,hC,hTl,hCl,hT2,hC2,hTl2,hCl2])
    ·have h67:d65 [.agg [.int .i64 R.st.k,.bool R.st.fl,.int .i64 R.st.g,.int .i64 R.st.l,.int .i64 R.st.f],.int .i64 R.ta] []=some (.tup [rcA (ZJ R.st R.ta).1,.bool (ZJ R.st R.ta).2]):=rfl
     have hin:=Zdt hst0 ta0 ta1;have h68:=e66 hW hlo (R.pc / 4) R.st.g W.f hin;have hW2:=VX hW (R.pc / 4) R.st.g W.f (ZJ R.st R.ta).1;obtain ⟨⟨E,b⟩,hE2⟩:∃ r,ZJ R.st R.ta=r:=⟨_,rfl⟩;rw[hE2]at h67 h68 hW2;simp only at h67 h68 hW2;by_cases hb:b=true∧R.dn=true
     ·have hco:Xm W R=(R,ZH W (R.pc / 4) R.st.g W.f E):=by unfold Xm;rw[if_neg (by omega),if_neg (by omega),if_neg (by omega),hE2,if_pos hb]
      obtain ⟨hb1,hb2⟩:=hb;subst hb1;have np:=Zde W (R.pc / 4) R.st.g W.f E;simp only[Yf,hco,vo,hM];obtain ⟨V,hV⟩:∃ r,ZH W (R.pc / 4) R.st.g W.f E=r:=⟨_,rfl⟩;rw[hV]at h68 hW2 np⊢;obtain ⟨y1,y2,y3,y4,y5,y6,y7⟩:=np;rw[← y1,← y2,← y3,← y4,← y5,← y6,← y7]at h39;obtain ⟨hcf2,hw2,hwl2,hs02,ht02,ht12,hlg2⟩:=Zk (hW2);have hT2:=ZW hw2;have hC2:=ZV hw2;have hTl2:=ZC hlg2;have hCl2:=ZD hlg2;by_cases hN:R.pc+1=M
      ·rw[if_pos hN]
       simp only[rpC,wzL,wzC,rcA,hb2]at h67 h68 hS h39⊢
       repeat' with_reducible (first|refine ZR.h ?_|refine kI ?_|((first|refine kR hE ?_|refine kD hE Zq ?_);intro K hK;simp[hT,hC,hTl,hCl,hT2,hC2,hTl2,hCl2,tq,tr,w1,w2,hm,h39,hN,wM,h67,h68];(repeat' (first|refine hK _ _ ?_|apply And.intro|(intro hc;try subst hc)))<;>(try clear hK K))|(refine kT (fun hc=>?_) (fun hc=>?_)<;>simp at hc<;>(try subst hc)))
       all_goals try (show Zb _ _=true;kernel_rfl)
       all_goals first|(show Zb _ _=true;kernel_rfl)|(simp;done)|(simp at *;omega)|((try simp[hT,hC,hTl,hCl,hT2,hC2,hTl2,hCl2]);refine Imp.aut ?_ ?_<;>simp[NLe,hT,hC,hTl,hCl,hT2,hC2,hTl2,hCl2])
      ·rw[if_neg hN]
       simp only[rpC,wzL,wzC,rcA,hb2]at h67 h68 hS h39⊢
       repeat' with_reducible (first|refine ZR.h ?_|refine kI ?_|((first|refine kR hE ?_|refine kD hE Zq ?_);intro K hK;simp[hT,hC,hTl,hCl,hT2,hC2,hTl2,hCl2,tq,tr,w1,w2,hm,h39,hN,wM,h67,h68];(repeat' (first|refine hK _ _ ?_|apply And.intro|(intro hc;try subst hc)))<;>(try clear hK K))|(refine kT (fun hc=>?_) (fun hc=>?_)<;>simp at hc<;>(try subst hc)))
       all_goals try (show Zb _ _=true;kernel_rfl)
       all_goals first|(show Zb _ _=true;kernel_rfl)|(simp;done)|(simp at *;omega)|((try simp[hT,hC,hTl,hCl,hT2,hC2,hTl2,hCl2]);refine Imp.aut ?_ ?_<;>simp[NLe,hT,hC,hTl,hCl,hT2,hC2,hTl2,hCl2])
     ·have hco:Xm W R=(R,W):=by unfold Xm;rw[if_neg (by omega),if_neg (by omega),if_neg (by omega),hE2,if_neg hb]
      simp only[Yf,hco,vo,hM];have hb2:b=false∨(b=true∧R.dn=false):=by
       cases b
       ·exact .inl rfl
       ·exact .inr ⟨rfl,by simpa using hb⟩
      by_cases hN:R.pc+1=M
      ·rw[if_pos hN]
       rcases hb2 with rfl|⟨rfl,hdn⟩
       ·simp only[rpC,wzL,wzC,rcA]at h67 hS h39⊢
        repeat' with_reducible (first|refine ZR.h ?_|refine kI ?_|((first|refine kR hE ?_|refine kD hE Zq ?_);intro K hK;simp[hT,hC,hTl,hCl,tq,tr,w1,w2,hm,h39,hN,wM,h67];(repeat' (first|refine hK _ _ ?_|apply And.intro|(intro hc;try subst hc)))<;>(try clear hK K))|(refine kT (fun hc=>?_) (fun hc=>?_)<;>simp at hc<;>(try subst hc)))
        all_goals try (show Zb _ _=true;kernel_rfl)
        all_goals first|(show Zb _ _=true;kernel_rfl)|(simp;done)|(simp at *;omega)|((try simp[hT,hC,hTl,hCl]);refine Imp.aut ?_ ?_<;>simp[NLe,hT,hC,hTl,hCl])
       ·simp only[rpC,wzL,wzC,rcA,hdn]at h67 hS h39⊢
        repeat' with_reducible (first|refine ZR.h ?_|refine kI ?_|((first|refine kR hE ?_|refine kD hE Zq ?_);intro K hK;simp[hT,hC,hTl,hCl,tq,tr,w1,w2,hm,h39,hN,wM,h67];(repeat' (first|refine hK _ _ ?_|apply And.intro|(intro hc;try subst hc)))<;>(try clear hK K))|(refine kT (fun hc=>?_) (fun hc=>?_)<;>simp at hc<;>(try subst hc)))
        all_goals try (show Zb _ _=true;kernel_rfl)
        all_goals first|(show Zb _ _=true;kernel_rfl)|(simp;done)|(simp at *;omega)|((try simp[hT,hC,hTl,hCl]);refine Imp.aut ?_ ?_<;>simp[NLe,hT,hC,hTl,hCl])
      ·rw[if_neg hN]
       rcases hb2 with rfl|⟨rfl,hdn⟩
       ·simp only[rpC,wzL,wzC,rcA]at h67 hS h39⊢
        repeat' with_reducible (first|refine ZR.h ?_|refine kI ?_|((first|refine kR hE ?_|refine kD hE Zq ?_);intro K hK;simp[hT,hC,hTl,hCl,tq,tr,w1,w2,hm,h39,hN,wM,h67];(repeat' (first|refine hK _ _ ?_|apply And.intro|(intro hc;try subst hc)))<;>(try clear hK K))|(refine kT (fun hc=>?_) (fun hc=>?_)<;>simp at hc<;>(try subst hc)))
        all_goals try (show Zb _ _=true;kernel_rfl)
        all_goals first|(show Zb _ _=true;kernel_rfl)|(simp;done)|(simp at *;omega)|((try simp[hT,hC,hTl,hCl]);refine Imp.aut ?_ ?_<;>simp[NLe,hT,hC,hTl,hCl])
       ·simp only[rpC,wzL,wzC,rcA,hdn]at h67 hS h39⊢
        repeat' with_reducible (first|refine ZR.h ?_|refine kI ?_|((first|refine kR hE ?_|refine kD hE Zq ?_);intro K hK;simp[hT,hC,hTl,hCl,tq,tr,w1,w2,hm,h39,hN,wM,h67];(repeat' (first|refine hK _ _ ?_|apply And.intro|(intro hc;try subst hc)))<;>(try clear hK K))|(refine kT (fun hc=>?_) (fun hc=>?_)<;>simp at hc<;>(try subst hc)))
        all_goals try (show Zb _ _=true;kernel_rfl)
        all_goals first|(show Zb _ _=true;kernel_rfl)|(simp;done)|(simp at *;omega)|((try simp[hT,hC,hTl,hCl]);refine Imp.aut ?_ ?_<;>simp[NLe,hT,hC,hTl,hCl])
   ·cases h
  ·cases h
 ·cases h
theorem e24 {W:WZ} {R:RpZ} (hR:Zjo R=true) (hW:okW W=true) (hm:smW W=true) (hp:R.pc<4*(W.a*W.b)) (u v u1 u2 u3 u4:Nat):d24 [.op u (rpC R),.op v (wzL W u1 u2 u3 u4)]=some ⟨.tup [],[.cells 0 (rpC (Yf W R).1),.cells 0 (wzC (Yf W R).2)]⟩:=by
 simp only[d24,Zbe,VC];rw[if_pos ⟨hR,hW,hm,hp⟩]
end Go.W
namespace Go.W
open Go.Proofs
set_option linter.unusedSimpArgs false
set_option linter.unusedVariables false
set_option maxHeartbeats 8000000
set_option maxRecDepth 100000
section
variable {B:WZ} {was:Int→Int} {W:WZ} {Ts:List TZ}
theorem Zdr {z old:Int} (h:Vr B was W Ts) (z0:0≤z) (z1:z<B.a*B.b) (hl:ZA (Zc old).k=true):Vr B was (Zs W z old { Zc old with k:=7 }).2 Ts:=by
 by_cases ht:(Zs W z old { Zc old with k:=7 }).1=true
 ·obtain ⟨t1,t2,t3⟩:=zx h.1 h.2.1 z0 z1 ht
  have hlg:=(Xw W z old { Zc old with k:=7 }).2.1;have h':=h;obtain ⟨s1,s2,s3,s4,s5⟩:=h;have est:stW W z=Zc old:=by unfold stW;rw[t1]
  have hk:=Ul hl;have hh0:Yb (stW W z).k=false:=by rw[est];simp[Yb];omega
  refine ⟨Yi s1 _ _ _,(ZQ _ _ _ _).trans s2,fun i i0 i1=>?_,by rw[hlg];exact s4,fun U hU=>?_⟩
  ·rw[hlg]
   by_cases e:i=z
   ·have:=s3 i i0 i1
    rw[e]at this⊢;rw[t2];obtain ⟨c1,c2,c3⟩:=this;rw[hh0]at c2;rw[est]at c1 c3;refine ⟨⟨fun a=>by simp at a,fun a=>?_⟩,?_,c3⟩
    ·have:=c1.2 a
     rw[← est,hh0]at this;cases this
    ·rw[c2];rfl
   ·rw[t3 i i0 e];exact s3 i i0 i1
  ·obtain ⟨h1,h2,h3,h4,h5,h6,h7,h8,h9⟩:=s5 U hU
   refine ⟨h1,h2,h3,h4,h5,h6,h7,h8,fun a b=>?_⟩;have hB:ZI U U.x=true:=(by simp[ZI,a,b]);obtain ⟨_,_,_,_,x0,x1,j1,j2,j3,j4,j5,j6,j7,j8,j9⟩:=U1 h' hU hB;by_cases e:U.x=z
   ·have hh:=zI h' x0 x1 hU hB
    rw[e,hh0]at hh;cases hh
   ·have e2:=UD (W:=W) (x:=z) (old:=old) (s:={ Zc old with k:=7 }) x0 z0 e
    have e3:stW (Zs W z old { Zc old with k:=7 }).2 U.x=stW W U.x:=t3 _ x0 e;unfold ZdM;rw[e2,e3];exact ⟨j1,j2,j3,j4,j5,j6,j7,j8,j9⟩
 ·have ht':(Zs W z old { Zc old with k:=7 }).1=false:=by simpa using ht
  have tf:=UK ht';exact Zd4 h (Yi h.1 _ _ _) (ZQ _ _ _ _) (fun i _ _=>(Zcf tf.1 i).2.2) tf.2
theorem ZfV (h:Vr B was W Ts) (x g n:Int) (r:RcZ):Vr B was (ZH W x g n r) Ts:=by
 have p:=Xd h.2.1;refine Zd4 h (VX h.1 _ _ _ _) (Ug _ _ _ _ _) (fun i i0 i1=>?_) (xB W x g n r).2.1;unfold sAt;exact Vt h.1 (by rw[p.1,p.2.1];omega)
theorem Zdd (h:Vr B was W Ts) (c g:Int):Vr B was (Vz W 5 c g 0 0 0 0 0) Ts:=by
 obtain ⟨s1,s2,s3,s4,s5⟩:=h;refine ⟨Vl s1 _ _ _ _ _ _ _ _,s2,fun i i0 i1=>?_,fun r hr=>?_,s5⟩
 ·obtain ⟨c1,c2,c3⟩:=s3 i i0 i1
  refine ⟨c1,c2,?_⟩;show (stW W i).l+Ua i (W.lg++[evC 5 c g 0 0 0 0 W.t 0])=_;rw[TC];show (stW W i).l+(Ua i W.lg+(ZbX i (evC 5 c g 0 0 0 0 W.t 0)+0))=_;rw[Zhb (by omega)];have:(stW W i).l+(Ua i W.lg+(0+0))=(stW W i).l+Ua i W.lg:=by omega
  rw[this];exact c3
 ·rcases List.mem_append.1 hr with h1|h1
  ·exact s4 r h1
  ·rw[List.mem_singleton.1 h1]
   exact ⟨5,c,g,0,0,0,0,W.t,0,rfl,fun e=>by omega⟩
theorem ZeS {T:TZ} (h:Zcl B W T) (hn:T.held=false∨10≤T.pc) (i:Int):ZI T i=false:=by
 obtain ⟨h1,h2,h3,h4,h5,h6,h7,h8,h9⟩:=h;unfold ZI;rcases hn with e|e
 ·rw[e];rfl
 ·by_cases hh:T.held=true
  ·by_cases hf:T.free=true
   ·rw[hh,hf];rfl
   ·have:=(h9 hh (by simpa using hf)).2.2.2.2.2.2.2.2
    omega
  ·have:T.held=false:=by simpa using hh
   rw[this];rfl
theorem xN {Q:QZ} (h:vy W Q Ts) {k:Nat} {T:TZ} (hk:Ts[k]?=some T) (hn:T.held=false∨10≤T.pc) (w x g y s:Int):vy W Q (Ts.set k (tz0 w x g y s)):=by
 have hm:=List.mem_of_getElem? hk;obtain ⟨⟨B,was,hJ⟩,hs,hg,hgt,hok⟩:=h;have hT:=hJ.2.2.2.2 T hm;have h0:∀ i,ZI T i=false:=ZeS hT hn;have h1:∀ i,ZI (tz0 w x g y s) i=false:=fun i=>by simp[ZI,tz0]
 refine ⟨⟨B,was,ZaR hJ hk hJ.1 rfl (fun _ _ _=>rfl) rfl (fun i=>by rw[h0,h1]) (fun i=>?_) (fun U hU a=>?_) (VQ (by simp[tz0]) (by simp[tz0]) rfl rfl rfl)⟩,hs,hg,zB hgt (ZcA _ _ _ _ _ _ _),zB hok (ZgT _ _ _ _ _)⟩
 ·unfold zH
  rw[h0,h1];simp
 ·have r:=U1 hJ hU a
  exact ⟨r.2.2.2.2.1,r.2.2.2.2.2.1⟩
end
structure SqZ where
 sh:Int
 st:Int
 R:RZ
def UQ (Q:QZ) (z:SqZ):SqZ×QZ :=
 if z.st % 14=0 then (⟨z.sh,z.st+1,(ZG Q (rOf (tz0 3 (z.st / 14 % (Q.a*Q.b*(Q.a*Q.b)) / (Q.a*Q.b)) 0 (z.st / 14 % (Q.a*Q.b*(Q.a*Q.b)) % (Q.a*Q.b)) z.sh))).1⟩,(ZG Q (rOf (tz0 3 (z.st / 14 % (Q.a*Q.b*(Q.a*Q.b)) / (Q.a*Q.b)) 0 (z.st / 14 % (Q.a*Q.b*(Q.a*Q.b)) % (Q.a*Q.b)) z.sh))).2)
 else (⟨z.sh,z.st+1,(ZG Q z.R).1⟩,(ZG Q z.R).2)
def pT (s:SwZ):TZ:=match s.p with
 | none=>tz0 0 0 0 0 0
 | some T=>T
def pcS (s:SwZ):Int:=match s.p with
 | none=>0
 | some T=>if 14≤T.pc then 0 else T.pc
def UM (m:Int) (s:SwZ):SqZ:=⟨s.sh,14*(m*s.ps+s.ix)+pcS s,rOf (pT s)⟩
def SwJ (m:Int) (s:SwZ):Prop:=0≤s.ix∧s.ix<m∧0≤s.ps∧(∀ T,s.p=some T→1≤T.pc∧T.pc≤14)
theorem ZjU {W:WZ} {Q:QZ} {Ss:List SwZ} (h:vy W Q (Ss.map pT)) {k:Nat} {s:SwZ} (hk:Ss[k]?=some s) (hj:SwJ (W.a*W.b*(W.a*W.b)) s):∃ Q',UQ Q (UM (W.a*W.b*(W.a*W.b)) s)=(UM (W.a*W.b*(W.a*W.b)) (Yg W s).1,Q')∧vy (Yg W s).2 Q' ((Ss.set k (Yg W s).1).map pT)∧(Yg W s).2.s - W.s=Q'.u - Q.u∧SwJ (W.a*W.b*(W.a*W.b)) (Yg W s).1∧(Yg W s).2.lg.length≤W.lg.length+1∧W.s≤(Yg W s).2.s∧(Yg W s).2.s≤W.s+1:=by
 obtain ⟨j0,j1,j2,j3⟩:=hj;obtain ⟨pa,pb,_⟩:=h.2.1.par;have hkl:=(List.getElem?_eq_some_iff.1 hk).1;have hkT:(Ss.map pT)[k]?=some (pT s):=by rw[List.getElem?_map,hk];rfl
 obtain ⟨m,hm⟩:∃ m,W.a*W.b*(W.a*W.b)=m:=⟨_,rfl⟩;rw[hm]at j1⊢;have hdiv:(m*s.ps+s.ix) % m=s.ix:=by rw[Int.add_comm,Int.add_mul_emod_self_left];exact Int.emod_eq_of_lt j0 j1
 have hstart:vy W Q ((Ss.map pT).set k (swT W s))∧((UM m s).st % 14=0→swT W s=tz0 3 ((UM m s).st / 14 % m / (W.a*W.b)) 0 ((UM m s).st / 14 % m % (W.a*W.b)) s.sh)∧((UM m s).st % 14≠0→swT W s=pT s)∧(swT W s).pc=pcS s∧0≤pcS s∧pcS s<14:=by
  unfold UM swT;cases hp:s.p with
  | none =>
   have e1:pcS s=0:=(by unfold pcS;rw[hp]);have e2:pT s=tz0 0 0 0 0 0:=(by unfold pT;rw[hp]);rw[e2]at hkT;simp only[e1];refine ⟨xN h hkT (.inl rfl) _ _ _ _ _,fun _=>?_,fun a=>by omega,rfl,by omega,by omega⟩;rw[show (14*(m*s.ps+s.ix)+0) / 14=m*s.ps+s.ix by omega,hdiv]
  | some T =>
   have e2:pT s=T:=(by unfold pT;rw[hp]);rw[e2]at hkT;have jT:=j3 T hp;simp only;by_cases c:14≤T.pc
   ·have e1:pcS s=0:=by unfold pcS;rw[hp];simp only;rw[if_pos c]
    rw[e1,if_pos c];refine ⟨xN h hkT (.inr (by omega)) _ _ _ _ _,fun _=>?_,fun a=>by omega,rfl,by omega,by omega⟩;rw[show (14*(m*s.ps+s.ix)+0) / 14=m*s.ps+s.ix by omega,hdiv]
   ·have e1:pcS s=T.pc:=by unfold pcS;rw[hp];simp only;rw[if_neg c]
    rw[e1,if_neg c,e2];refine ⟨?_,fun a=>by omega,fun _=>rfl,rfl,by omega,by omega⟩;have:(Ss.map pT).set k T=Ss.map pT:=by
     refine List.ext_getElem? fun i=>?_;by_cases e:i=k
     ·subst e
      rw[List.getElem?_set_self (by rw[List.length_map];exact hkl),hkT]
     ·rw[List.getElem?_set_ne (by omega)]
    rw[this];exact h
 obtain ⟨ha,hz,hnz,hpc,p0,p1⟩:=hstart;have hk2:((Ss.map pT).set k (swT W s))[k]?=some (swT W s):=List.getElem?_set_self (by rw[List.length_map];exact hkl);obtain ⟨Q',s1,s2,s3⟩:=Zfo ha hk2;have hfr:=ZfF W (swT W s);have hpc2:=Tu W (swT W s);rw[hpc,if_neg (by omega)]at hpc2;have hsq:UQ Q (UM m s)=(⟨s.sh,(UM m s).st+1,rOf (Zw W (swT W s)).1⟩,Q'):=by
  unfold UQ;rw[pa,pb,hm];by_cases c:(UM m s).st % 14=0
  ·rw[if_pos c]
   show (SqZ.mk s.sh ((UM m s).st+1) (ZG Q (rOf (tz0 3 ((UM m s).st / 14 % m / (W.a*W.b)) 0 ((UM m s).st / 14 % m % (W.a*W.b)) s.sh))).1,(ZG Q (rOf (tz0 3 ((UM m s).st / 14 % m / (W.a*W.b)) 0 ((UM m s).st / 14 % m % (W.a*W.b)) s.sh))).2)=_;rw[← hz c,s1]
  ·rw[if_neg c]
   show (SqZ.mk s.sh ((UM m s).st+1) (ZG Q (rOf (pT s))).1,(ZG Q (rOf (pT s))).2)=_;rw[← hnz c,s1]
 have hset:∀ s':SwZ,pT s'=(Zw W (swT W s)).1→(Ss.set k s').map pT=((Ss.map pT).set k (swT W s)).set k (Zw W (swT W s)).1:=fun s' e=>by
  rw[List.map_set,e,List.set_set]
 have hst:(UM m s).st=14*(m*s.ps+s.ix)+pcS s:=rfl;refine ⟨Q',?_⟩;unfold Yg;rw[hm];by_cases c:14≤(Zw W (swT W s)).1.pc
 ·rw[if_pos c]
  by_cases e:s.ix+1=m
  ·rw[if_pos e]
   refine ⟨?_,by rw[hset _ rfl];exact s2,s3,⟨by show (0:Int)≤0;omega,by show (0:Int)<m;omega,by show 0≤s.ps+1;omega,fun T hT=>?_⟩,hfr.2.1,by simp only;omega,by simp only;omega⟩
   ·rw[hsq,hst]
    have ep:pcS ⟨s.sh,0,s.ps+1,some (Zw W (swT W s)).1⟩=0:=(by unfold pcS;simp only;rw[if_pos c]);unfold UM;rw[ep];simp only[pT];have:m*(s.ps+1)=m*s.ps+m:=(by rw[Int.mul_add,Int.mul_one]);rw[this,show 14*(m*s.ps+s.ix)+pcS s+1=14*(m*s.ps+m+0)+0 by omega]
   ·injection hT with hT
    rw[← hT];omega
  ·rw[if_neg e]
   refine ⟨?_,by rw[hset _ rfl];exact s2,s3,⟨by show 0≤s.ix+1;omega,by show s.ix+1<m;omega,j2,fun T hT=>?_⟩,hfr.2.1,by simp only;omega,by simp only;omega⟩
   ·rw[hsq,hst]
    have ep:pcS ⟨s.sh,s.ix+1,s.ps,some (Zw W (swT W s)).1⟩=0:=(by unfold pcS;simp only;rw[if_pos c]);unfold UM;rw[ep];simp only[pT];rw[show 14*(m*s.ps+s.ix)+pcS s+1=14*(m*s.ps+(s.ix+1))+0 by omega]
   ·injection hT with hT
    rw[← hT];omega
 ·rw[if_neg c]
  refine ⟨?_,by rw[hset _ rfl];exact s2,s3,⟨j0,j1,j2,fun T hT=>?_⟩,hfr.2.1,by simp only;omega,by simp only;omega⟩
  ·rw[hsq,hst]
   have ep:pcS ⟨s.sh,s.ix,s.ps,some (Zw W (swT W s)).1⟩=pcS s+1:=(by unfold pcS;simp only;rw[if_neg c];exact hpc2);unfold UM;rw[ep];simp only[pT];rw[show 14*(m*s.ps+s.ix)+pcS s+1=14*(m*s.ps+s.ix)+(pcS s+1) by omega]
  ·injection hT with hT
   rw[← hT];omega
end Go.W
