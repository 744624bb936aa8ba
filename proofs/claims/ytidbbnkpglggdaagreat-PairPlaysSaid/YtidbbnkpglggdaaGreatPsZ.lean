/- Rows whose arguments are slices of structs of integers and truths; from a specification of a call that only reads to a statement's call. A slice's length; rows of aims and of acts. -/
import Derived.Test.YtidbbnkpglggdaaGreatRaP
import Derived.Test.YtidbbnkpglggdaaGreatWcA
import Derived.Test.YtidbbnkpglggdaaGreatWkC
import Derived.Deep.Slices
import Derived.Test.YtidbbnkpglggdaaGreatPyJ
import Derived.Test.YtidbbnkpglggdaaGreatPsV2
namespace Go.W
open Go.Proofs
set_option linter.unusedSimpArgs false
set_option linter.unusedVariables false
set_option maxHeartbeats 8000000
attribute [local irreducible] Wm
attribute [local simp] Y5 lkp VW prs Uv prT ddL idL YN Um Ren Vt NObj.none Z4
section
variable {w0:World} {S:Sc} {Q_:Exit→St→Prop}
theorem w3A (hS:S.m=3) (hQ:∀ hl nb,Q_ .ret ⟨[(8,.bool true)],hl,nb⟩) {am ac:List (List AV)} {W:WZ} {Q:QZ} (hJ:∀ Ts:List TZ,(∀ T,T∈Ts→∃ w x g y s,T=tz0 w x g y s)→ZcK W Q Ts) (hs:W.s≤48∧Q.u≤W.s∧W.lg.length=0) (ham:am.all Zdp=true) (ham6:am.length≤6) (hac:ac.all Zc1=true) (hna:ac.length≤9223372036854775807) :
  Wm Tryz.prog w0 S Tryz.f3.ntmps [] (.loop (.seq (.reg q3_7) (.seq (.cond (.t 40) .skip (.exit 0)) (.seq (.block 1 (.seq (.reg q3_8) (.seq (.reg q3_9) (.reg q3_10)))) (.reg q3_11))))) (KA am ac W Q 0) (Ye 0 (zi Tryz.prog w0 S Tryz.f3.ntmps [] (.seq (.seq (.reg q3_12) (.block 2 (.loop (.seq (.reg q3_13) (.seq (.cond (.t 58) .skip (.exit 2)) (.seq (.block 3 (.seq (.reg q3_14) (.seq (.seq (.reg q3_15) (.cond (.t 63) (.exit 2) .skip)) (.seq (.reg q3_16) (.seq (.block 4 (.seq (.reg q3_17) (.cond (.t 69) (.seq (.reg q3_18) (.seq (.reg q3_19) (.seq (.reg q3_20) (.seq (.reg q3_21) (.seq (.draw q3_22 p3_22) (.cond (.t 156) (.seq (.reg q3_23) .ret) .skip)))))) (.seq (.reg q3_24) (.cond (.t 157) (.seq (.reg q3_25) (.reg q3_26)) (.seq (.reg q3_27) (.cond (.t 174) (.reg q3_28) .skip))))))) (.seq (.draw q3_29 p3_29) (.cond (.t 193) (.seq (.reg q3_30) .ret) .skip))))))) (.reg q3_31))))))) (.seq (.reg q3_32) .ret)) Q_)):=by
 have hE:=Zch
 have hTa:=ZbZ hac
 have hCa:=ZcF hac
 have hTm:=Ze3 ham
 have hCm:=Zfd ham
 have sim:=(hJ [] (fun T hT=>by cases hT)).2.1
 have hW:=sim.okw
 have hQk:=sim.okq
 have hT:=ZZ (Zl (hW)).2.1
 have hC:=Z0 (Zl (hW)).2.1
 have hTl:=ZF (Zl (hW)).2.2.2.2.2.2
 have hCl:=ZE (Zl (hW)).2.2.2.2.2.2
 have hS0:=Z7 Q.S
 have hS1:=Z6 Q.S
 have hT0:=Yd Q.T
 have hT1:=Yc Q.T
 have hJ0:=Z9 Q.J
 have hJ1:=Ya Q.J
 have hL0:=ZF (Zp (hQk)).2.2.2.2.2.2.2.1
 have hL1:=ZE (Zp (hQk)).2.2.2.2.2.2.2.1
 refine YJ (fun k=>KA am ac W Q k) (fun k=>k≤am.length) (fun k=>am.length - k) 0 (Nat.zero_le _) (by rw[hS];exact Imp.refl _ _) ?_
 intro k hk
 replace hk:k≤am.length:=hk
 have hTk:=Zgn hk
 have hLk:(trs (tAm am k)).length=k:=by rw[Uw];exact hTk
 have hRk:(rrs (tAm am k)).length=k:=by rw[UB];exact hTk
 have ht0:=yc (tAm am k)
 have htc:=vX (tAm am k)
 have hr0:=yi (tAm am k)
 have hrc:=vS (tAm am k)
 by_cases hkn:k<am.length
 ·obtain ⟨r,hr,hrb⟩:=ZbN ham hkn
  have hsucc:=Zd4 hr;obtain ⟨w,x,gn,y,sh,rfl⟩:=vi hrb;have hri:am[k]'hkn=[.int .i64 w,.int .i64 x,.int .i64 gn,.int .i64 y,.int .i64 sh]:=by have:=hr;rw[List.getElem?_eq_getElem hkn]at this;exact Option.some.inj this
  have ww:IntKind.wrap .i64 ((k:Int)+1)=(k:Int)+1:=Zh (by omega) (by omega);have h7:d7 [.agg [.int .i64 w,.int .i64 x,.int .i64 gn,.int .i64 y,.int .i64 sh]]=some ⟨.op 0 (tzC (tz0 w x gn y sh)),[]⟩:=rfl;replace hsucc:tAm am (k+1)=tAm am k++[tz0 w x gn y sh]:=hsucc;have hrz:rzC (rOf (tz0 w x gn y sh))=[.int .i64 w,.int .i64 x,.int .i64 gn,.int .i64 y,.int .i64 sh,.int .i64 0,.int .i64 0,.bool false,.int .i64 0,.int .i64 0,.int .i64 0,.int .i64 0,.bool false,.int .i64 0,.int .i64 0,.int .i64 0,.int .i64 0,.bool false,.int .i64 0,.int .i64 0,.int .i64 0,.int .i64 0,.bool false,.int .i64 0,.int .i64 0,.int .i64 0,.int .i64 0,.int .i64 0,.int .i64 0,.int .i64 0,.int .i64 0,.int .i64 0,.int .i64 0,.int .i64 0,.int .i64 0,.int .i64 0,.bool false,.bool false,.bool false,.int .i64 0,.int .i64 0,.int .i64 0,.int .i64 0]:=rfl;have habs:=fun r=>Zgp hTk r 0 (tz0 w x gn y sh);have hrabs:=fun r=>ZgU hTk r 0 (tz0 w x gn y sh);rw[← hsucc]at habs hrabs;rw[hrz]at hrabs;have hget:=fun r=>Zgf hTk r;have hrget:=fun r=>ZfT hTk r;have hz2:=Zef (tz0 w x gn y sh);have hz3:=ZdH (tz0 w x gn y sh);have ht0':=yc (tAm am (k+1));have htc':=vX (tAm am (k+1));have hr0':=yi (tAm am (k+1));have hrc':=vS (tAm am (k+1));have htl:∀ q,0<q→UD q (trs (tAm am k))=true:=fun q hq=>Zii hq _;have hrtl:∀ q,0<q→UD q (rrs (tAm am k))=true:=fun q hq=>ZhT hq _;have hb1:(k+1)*8≤140737488355328:=by omega
  have hb2:k+1≤9223372036854775807:=by omega
  have hb3:k≤9223372036854775806:=by omega
  obtain ⟨T0,hTz⟩:∃ T0,tz0 w x gn y sh=T0:=⟨_,rfl⟩;rw[hTz]at h7 habs hz2 hz3;simp only[KA,wzC,qzC]
  repeat' with_reducible (first|refine ZR.h ?_|refine zI ?_|((first|refine zK hE ?_|refine zM hE ?_);intro K hK;simp[ELp,hTa,hCa,hTm,hCm,hT,hC,hTl,hCl,hS0,hS1,hT0,hT1,hJ0,hJ1,hL0,hL1,hLk,hRk,ht0,htc,hr0,hrc,hkn,hr,hri,ww,h7,hz2,hz3,htl,hrtl,hb1,hb2,hb3];(repeat' (first|refine hK _ _ ?_|apply And.intro|(intro hc;try subst hc)))<;>(try clear hK K))|(refine zJ (fun hc=>?_) (fun hc=>?_)<;>simp at hc<;>(try subst hc)))
  all_goals refine ⟨k+1,hkn,Nat.sub_lt_sub_left hkn (Nat.lt_succ_self k),?_⟩
  all_goals rw[hS]
  all_goals (refine Imp.trans (Imp.absorb (.top 79) k 0 63 (by rfl) (hget _) (by rfl) (.inr ⟨0,_,by rfl,by rfl⟩) (by simp)) ?_)
  all_goals (refine Imp.trans (Imp.absorb (.top 135) k 0 119 (by rfl) (hrget _) (by rfl) (.inr ⟨0,_,by rfl,by rfl⟩) (by simp)) ?_)
  all_goals (try simp only[KA,wzC,qzC])
  all_goals (refine Imp.aut ?_ ?_<;>simp[NLe,ZM,XK,Yb,hTa,hCa,hTm,hCm,hT,hC,hTl,hCl,hS0,hS1,hT0,hT1,hJ0,hJ1,hL0,hL1,hget,habs,hrget,hrabs,ht0',htc',hr0',hrc',hz2,hz3])
 ·have hke:k=am.length:=by omega
  subst hke;have hfin:=w3B (w0:=w0) hS hQ (n:=am.length) ⟨hJ _ (fun T hT=>ZgQ T hT),hTk⟩ ham6 hac hna hs;simp only[KA,wzC,qzC]
  repeat' with_reducible (first|refine ZR.h ?_|refine zI ?_|((first|refine zK hE ?_|refine zM hE ?_);intro K hK;simp[ELp,hTa,hCa,hTm,hCm,hT,hC,hTl,hCl,hS0,hS1,hT0,hT1,hJ0,hJ1,hL0,hL1,hLk,hRk,ht0,htc,hr0,hrc];(repeat' (first|refine hK _ _ ?_|apply And.intro|(intro hc;try subst hc)))<;>(try clear hK K))|(refine zJ (fun hc=>?_) (fun hc=>?_)<;>simp at hc<;>(try subst hc)))
  all_goals refine XB ?_ hfin
  all_goals rw[hS]
  all_goals (try simp only[KB,wzC,qzC])
  all_goals (refine Imp.aut ?_ ?_<;>simp[NLe,ZM,hTa,hCa,hT,hC,hTl,hCl,hS0,hS1,hT0,hT1,hJ0,hJ1,hL0,hL1,ht0,htc,hr0,hrc,hLk,hTk,hRk])
end
def d3:List AV→List NObj→Option AV
 | [.agg [.int .i64 a,.int .i64 b,.int .i64 c,.int .i64 d,.int .i64 e,.int .i64 f,.int .i64 g],.sl (.top 0) 0 n,.sl (.top 1) 0 n1,.sl (.top 2) 0 n2],[.view 0 10 els,.view 0 5 am,.view 0 2 ac]=>if n=els.length∧els.all TJ=true∧n1=am.length∧am.all Zdp=true∧n2=ac.length∧ac.all Zc1=true∧ac.length≤9223372036854775807∧am.length≤9223372036854775807 then some (.bool true) else none
 | _,_=>none
theorem ok3:ROk d3:=by
 intro xs os r h;unfold d3 at h
 (repeat' (split at h))<;>first|(cases h;done)|(injection h with h;subst h;simp)
theorem s3:Sound Tryz.prog 3 (rdS d3 ok3):=by
 refine Zo C3.a C3.b C3.c C3.d ok3 fun xs os r h vs ρ0 hvs=>⟨xs,?_,fun _ h=>h,fun w0 S hS=>?_⟩
 ·unfold d3 at h
  (repeat' (split at h))<;>first|(cases h;done)|exact Nat.le_of_ble_eq_true rfl
 unfold d3 at h;split at h
 ·split at h
  ·rename_i a b c d e f g nn n1 n2 els am ac hcond
   injection h with h;subst h;obtain ⟨rfl,hob,rfl,ham,rfl,hac,hna,hnm⟩:=hcond;have hE:=Zch;have hTe:=ZaH hob;have hCe:=Zan hob;have h5:∀ u,d5 [.agg [.int .i64 a,.int .i64 b,.int .i64 c,.int .i64 d,.int .i64 e,.int .i64 f,.int .i64 g],.os u 10 els]=some ⟨if XX a b c d e f g=true then YV a b c d e f g els else .tup [.raw (.pointer none),.raw (.pointer none),.bool false],[.free]⟩:=fun u=>by
    simp only[d5];rw[if_pos hob]
   obtain ⟨ba0,hba⟩:∃ z,(if XX a b c d e f g=true then YV a b c d e f g els else .tup [.raw (.pointer none),.raw (.pointer none),.bool false])=z:=⟨_,rfl⟩;rw[hba]at h5;by_cases hok:XX a b c d e f g=true∧ZK a b c d e f g els els.length≠none
   case neg =>
    have hnil:ba0=.tup [.raw (.pointer none),.raw (.pointer none),.bool false]:=by
     rw[← hba];by_cases hcf:XX a b c d e f g=true
     ·rw[if_pos hcf]
      have:ZK a b c d e f g els els.length=none:=by
       cases hz:ZK a b c d e f g els els.length with
       | none=>rfl
       | some p=>exact absurd ⟨hcf,by rw[hz];simp⟩ hok
      simp only[YV,this]
     ·rw[if_neg hcf]
    rw[hnil]at h5;unfold m3
    repeat' with_reducible (first|refine ZR.h ?_|refine zI ?_|((first|refine zK hE ?_|refine zM hE ?_);intro K hK;simp[ELp,hTe,hCe,h5,d6];(repeat' (first|refine hK _ _ ?_|apply And.intro|(intro hc;try subst hc)))<;>(try clear hK K))|(refine zJ (fun hc=>?_) (fun hc=>?_)<;>simp at hc<;>(try subst hc)))
    all_goals first|(simp;done)|(simp at *;omega)|((try simp);refine Imp.aut ?_ ?_<;>simp[NLe,ZM])
   obtain ⟨hcfg,hnn⟩:=hok;obtain ⟨ws,SS,TT,hz⟩:∃ ws S T,ZK a b c d e f g els els.length=some (ws,S,T):=by
    cases hz:ZK a b c d e f g els els.length with
    | none=>exact absurd hz hnn
    | some p=>exact ⟨_,_,_,rfl⟩
   obtain ⟨hW0,hWs,hel⟩:=Ze7 hcfg hob hz;have hQe:=q0_eq hcfg hob hz;have hAll:=fun Ts h=>Zeh hcfg hob hz (Ts:=Ts) h;have hbe:ba0=.tup [.op 0 (wzC (bW a b c d e f g els ws)),.op 0 (qC a b c d e f g SS TT),.bool true]:=by
    rw[← hba,if_pos hcfg];simp only[YV,hz];rfl
   rw[hbe,hQe]at h5;have hu0:(Q0 (bW a b c d e f g els ws)).u=0:=rfl;have hlg0:(bW a b c d e f g els ws).lg.length=0:=rfl;obtain ⟨B,hB⟩:∃ z,bW a b c d e f g els ws=z:=⟨_,rfl⟩;rw[hB]at h5 hW0 hWs hAll hu0 hlg0;obtain ⟨Q,hQq⟩:∃ z,Q0 B=z:=⟨_,rfl⟩;rw[hQq]at h5 hAll hu0;have hQk:=(hAll [] (fun T hT=>by cases hT)).2.1.okq;have hs0:=(Zl hW0).2.2.2.1;have hz0:=Zas (hW0);have hz1:=ym (hW0);have hzr:=ZcI (hW0);have hy0:=Xc _ (Zp (hQk)).2.2.2.2.2.2.2.1;have hy1:=YK _ (Zp (hQk)).2.2.2.2.2.2.2.1;have hyr:=YW (hQk);by_cases h6:(6:Int)<am.length
   ·unfold m3
    repeat' with_reducible (first|refine ZR.h ?_|refine zI ?_|((first|refine zK hE ?_|refine zM hE ?_);intro K hK;simp[ELp,h5,hTe,hCe,hz0,hz1,hzr,hy0,hy1,hyr,h6,d6];(repeat' (first|refine hK _ _ ?_|apply And.intro|(intro hc;try subst hc)))<;>(try clear hK K))|(refine zJ (fun hc=>?_) (fun hc=>?_)<;>simp at hc<;>(try subst hc)))
    all_goals first|(simp;done)|(simp at *;omega)|((try simp);refine Imp.aut ?_ ?_<;>simp[NLe,ZM])
   have hfin:=fun (Q_:Exit→St→Prop) (hQ:∀ hl nb,Q_ .ret ⟨[(8,.bool true)],hl,nb⟩)=>w3A (w0:=w0) (am:=am) (ac:=ac) hS hQ hAll ⟨hWs,by omega,hlg0⟩ ham (by omega) hac hna;clear hba hbe hnn hz hQe;unfold m3
   repeat' with_reducible (first|refine ZR.h ?_|refine zI ?_|((first|refine zK hE ?_|refine zM hE ?_);intro K hK;simp[ELp,h5,hTe,hCe,hz0,hz1,hzr,hy0,hy1,hyr,h6,d6];(repeat' (first|refine hK _ _ ?_|apply And.intro|(intro hc;try subst hc)))<;>(try clear hK K))|(refine zJ (fun hc=>?_) (fun hc=>?_)<;>simp at hc<;>(try subst hc)))
   all_goals refine XB ?_ (hfin _ ?_)
   ·rw[hS]
    simp only[KA,tAm,List.take_zero,List.map_nil];refine Imp.aut ?_ ?_<;>simp[NLe,ZM,trs,rrs,Ze3 ham,Zfd ham,ZbZ hac,ZcF hac,hz0,hz1,hzr,hy0,hy1,hyr]
   ·intro hl nb
    simp;refine Imp.aut ?_ ?_<;>simp[NLe,ZM]
  ·cases h
 ·cases h
end Go.W
namespace Go.W
set_option linter.unusedSimpArgs false
set_option linter.unusedVariables false
open Go.ChangeShapes Go.WideShapes Go.ChangeAt Go.RowKit Go.Joins Go.Deep
def XP (k:Bool) (a:AV) (v:Value):Prop:=if k=true then ∃ b,a=.bool b∧v=.bool b else ∃ n,a=.int .i64 n∧v=.int .i64 n∧-9223372036854775808≤n∧n≤9223372036854775807
def xA (P:Program) (fl:TypeId→Option (List Bool)):List Field→Nat→Option (List Bool)
 | [],_=>some []
 | f :: r,off=>match fl f.type with
  | some ks=>if f.offset=off∧P.cellsOf f.type=ks.length then (match xA P fl r (off+ks.length) with
   | some rs=>some (ks++rs)
   | none=>none) else none
  | none=>none
def ZcD (P:Program):Nat→TypeId→Option (List Bool)
 | 0,_=>none
 | d+1,t=>match P.underlying t with
  | some (.int .i64)=>some [false]
  | some .bool=>some [true]
  | some (.struct fs)=>match xA P (ZcD P d) fs.toList 0 with
   | some ks=>if P.cellsOf t=ks.length then some ks else none
   | none=>none
  | _=>none
section
variable {H:Type} {enc:TypeId×Value→H} {P:Program} {w:World} {base:Nat} {spare:Nat→Bool} {held:Bool}
theorem zs {fl:TypeId→Option (List Bool)} (hfl:∀ (t:TypeId) (ks:List Bool) (fuel:Nat) (cs:List Value) (x:DataW H×List MemPlace),fl t=some ks→DataW.trod enc P w base spare held fuel t cs=some x→cs.length=ks.length∧∀ (j:Nat) (k:Bool),ks[j]?=some k→∃ a v,cs[j]?=some v∧XP k a v) {cs:List Value} :
  ∀ (l:List Field) (off:Nat) (ks:List Bool),xA P fl l off=some ks→(∀ f,f∈l→∃ fuel x,DataW.trod enc P w base spare held fuel f.type ((cs.drop f.offset).take (P.cellsOf f.type))=some x)→∀ (j:Nat) (k:Bool),ks[j]?=some k→∃ a v,cs[off+j]?=some v∧XP k a v
 | [],off,ks,h,_=>by
  simp only[xA,Option.some.injEq]at h;subst h;intro j k hk;simp at hk
 | f :: r,off,ks,h,hx=>by
  simp only[xA]at h;split at h
  ·rename_i k0 hk0
   split at h
   ·rename_i hc
    split at h
    ·rename_i rs hrs
     simp only[Option.some.injEq]at h;subst h;have h2:=zs hfl r (off+k0.length) rs hrs fun g hg=>hx g (List.mem_cons_of_mem _ hg);obtain ⟨fuel,x,h3⟩:=hx f List.mem_cons_self;rw[hc.1,hc.2]at h3;obtain ⟨h4,h5⟩:=hfl _ _ _ _ _ hk0 h3;intro j k hk;by_cases hj:j<k0.length
     ·rw[List.getElem?_append_left hj]at hk
      obtain ⟨a,v,e1,e2⟩:=h5 j k hk;rw[List.getElem?_take,if_pos hj,List.getElem?_drop]at e1;exact ⟨a,v,e1,e2⟩
     ·rw[List.getElem?_append_right (by omega)]at hk
      obtain ⟨a,v,e1,e2⟩:=h2 _ k hk;rw[show off+k0.length+(j - k0.length)=off+j from by omega]at e1;exact ⟨a,v,e1,e2⟩
    ·cases h
   ·cases h
  ·cases h
theorem yp:∀ (dp:Nat) (t:TypeId) (ks:List Bool) (fuel:Nat) (cs:List Value) (x:DataW H×List MemPlace),ZcD P dp t=some ks→DataW.trod enc P w base spare held fuel t cs=some x→cs.length=ks.length∧∀ (j:Nat) (k:Bool),ks[j]?=some k→∃ a v,cs[j]?=some v∧XP k a v
 | 0,t,ks,fuel,cs,x,h,_=>by simp[ZcD]at h
 | d+1,t,ks,fuel,cs,x,h,hx=>by
  unfold ZcD at h;split at h
  ·rename_i hu
   simp only[Option.some.injEq]at h;subst h;obtain ⟨n,rfl,_,hwf⟩:=DataW.trod_int hu hx;have hr:-9223372036854775808≤n∧n≤9223372036854775807:=(by simpa [Lit.wf,IntKind.min,IntKind.max,IntKind.bits,IntKind.signed] using hwf);refine ⟨rfl,fun j k hk=>?_⟩;cases j with
   | zero=>simp at hk;subst hk;exact ⟨.int .i64 n,.int .i64 n,rfl,by rw[XP,if_neg (by simp)];exact ⟨n,rfl,rfl,hr⟩⟩
   | succ j=>simp at hk
  ·rename_i hu
   simp only[Option.some.injEq]at h;subst h;obtain ⟨b,rfl,_⟩:=DataW.trod_bool hu hx;refine ⟨rfl,fun j k hk=>?_⟩;cases j with
   | zero=>simp at hk;subst hk;exact ⟨.bool b,.bool b,rfl,by rw[XP,if_pos rfl];exact ⟨b,rfl,rfl⟩⟩
   | succ j=>simp at hk
  ·rename_i fs hu
   split at h
   ·rename_i ks' hm
    split at h
    ·rename_i hc
     simp only[Option.some.injEq]at h;subst h;obtain ⟨xs,n,_,_,hl,hxl,hf⟩:=DataW.trod_struct hu hx;have:=zs (fun t k fuel cs x=>yp d t k fuel cs x) fs.toList 0 ks' hm fun f hfm=>by
      obtain ⟨i,hi⟩:=List.getElem?_of_mem hfm;have hi':fs[i]?=some f:=(by rw[← Array.getElem?_toList];exact hi);have h1:=hf i f hi';have hlt:i<xs.length:=(by rw[hxl];exact (Array.getElem?_eq_some_iff.1 hi').1);rw[List.getElem?_eq_getElem hlt]at h1;exact ⟨n,_,h1⟩
     exact ⟨by rw[hl,hc],fun j k hk=>by have:=this j k hk;rwa [Nat.zero_add]at this⟩
    ·cases h
   ·cases h
  ·cases h
end
def ZbL (ks:List Bool) (c:List AV):Prop:=c.length=ks.length∧∀ (j:Nat) (k:Bool),ks[j]?=some k→∃ a v,c[j]?=some a∧XP k a v
theorem Vo {ks:List Bool} {c:List AV} (h:ZbL ks c):ZbH c=true:=by
 refine List.all_eq_true.2 fun a ha=>?_;obtain ⟨j,hj⟩:=List.getElem?_of_mem ha;have hlt:j<ks.length:=by rw[← h.1];exact (List.getElem?_eq_some_iff.1 hj).1
 obtain ⟨a',v,h1,h2⟩:=h.2 j _ (List.getElem?_eq_getElem hlt);rw[hj]at h1;simp only[Option.some.injEq]at h1;subst h1;unfold XP at h2;split at h2
 ·obtain ⟨b,rfl,_⟩:=h2;rfl
 ·obtain ⟨n,rfl,_⟩:=h2;rfl
theorem Zej {ρ:Env} {k:Bool} {a:AV} {v:Value} (h:XP k a v):Rep ρ a v:=by
 unfold XP at h;split at h
 ·obtain ⟨b,rfl,rfl⟩:=h;simp[Rep]
 ·obtain ⟨n,rfl,rfl,_⟩:=h;simp[Rep]
theorem Tb {H:Type} {enc:TypeId×Value→H} {P:Program} {w:World} {base b0:Nat} {r:Reach} {t e:TypeId} {v:Value} {d:DataW H} {p:List MemPlace} (ht:P.underlying t=some (.slice e)) {ks:List Bool} {z:Nat} (hfl:ZcD P 6 e=some ks) (hz:ks.length=z) (hz0:0<z) (hce:P.cellsOf e=z) (hv:Value.okWide P w r b0 t v) (h:DataW.Trod enc P w base (fun _=>true) true t v d p) :
  ∃ (els:List (List AV)) (L:Loc),(∀ c,c∈els→ZbL ks c)∧(∀ ρ nm,Y2 ρ L (flO nm (.view 0 z els)) w)∧(L.nil=false→L.blk<w.heap.size)∧(∀ (ρ:Env) nm,ρ nm=L→Rep ρ (.sl nm 0 els.length) v):=by
 obtain ⟨q,len0,cap0,rfl⟩:=okWide_slice ht hv
 obtain ⟨fuel,hf⟩:=h
 have hcs:(Value.slice q len0 cap0).cells.toList=[.slice q len0 cap0]:=rfl
 rw[hcs]at hf
 have nilcase:∀ (c:Option Addr),∃ (els:List (List AV)) (L:Loc),(∀ c,c∈els→ZbL ks c)∧(∀ ρ nm,Y2 ρ L (flO nm (.view 0 z els)) w)∧(L.nil=false→L.blk<w.heap.size)∧(∀ (ρ:Env) nm,ρ nm=L→Rep ρ (.sl nm 0 els.length) (.slice c 0 0)):=fun c =>
  ⟨[],VG,fun c hc=>by simp at hc,fun ρ nm=>.inl ⟨rfl,rfl⟩,(fun h=>by simp[VG]at h),(fun ρ nm hρ=>by
   rw[Rep];exact .inl ⟨by rw[hρ];rfl,rfl,rfl,c,rfl⟩)⟩
 rcases open_slice ht hf with ⟨h0,_⟩ | ⟨a,len,cap,m,n,D,Pl,h0,hb,hl,hm,hmm,_,hx⟩
 ·simp only[List.cons.injEq,and_true]at h0
  rw[h0];exact nilcase none
 ·simp only[List.cons.injEq,and_true]at h0
  rw[h0];simp only[if_true]at hmm;subst hmm;by_cases hc0:m=0
  ·subst hc0
   have:len=0:=(by omega);subst this;exact nilcase (some a)
  ·rw[hce]at hx
   have cell:∀ i,i<m→∃ f:Nat→AV,∀ j,j<z→∃ k v,ks[j]?=some k∧w.cell? (a.add (i*z+j))=some v∧XP k (f j) v:=fun i hi=>by
    obtain ⟨cs',g1,g2⟩:=hx i hi;obtain ⟨_,g3,g4⟩:=World.cells?_some g1;obtain ⟨_,g6⟩:=yp 6 e ks n cs' _ hfl g2;refine choose_lt (α:=AV) (n:=z) (p:=fun j a' => ∃ k v,ks[j]?=some k∧w.cell? (a.add (i*z+j))=some v∧XP k a' v) fun j hj=>?_;have hk:=List.getElem?_eq_getElem (l:=ks) (show j<ks.length by omega);obtain ⟨a',v,e1,e2⟩:=g6 j _ hk;have:=g4 j hj;rw[add_add,e1]at this;exact ⟨a',_,v,hk,this,e2⟩
   obtain ⟨F,hF⟩:=choose_lt (α:=Nat→AV) (n:=m) (p:=fun i f=>∀ j,j<z→∃ k v,ks[j]?=some k∧w.cell? (a.add (i*z+j))=some v∧XP k (f j) v) cell;obtain ⟨k00,u0,_,hu0,_⟩:=hF 0 (by omega) 0 hz0;rw[Nat.zero_mul,Nat.zero_add]at hu0;have ha0:a.add 0=a:=(by simp[Addr.add]);rw[ha0]at hu0;have hsp:a.spot=none:=by
    unfold World.cell? at hu0;split at hu0
    ·split at hu0
     ·cases hu0
     ·rename_i hs
      cases hsp:a.spot with
      | none=>rfl
      | some s=>rw[hsp]at hs;simp at hs
    ·cases hu0
   obtain ⟨blk,off,spt⟩:=a;simp only at hsp;subst hsp;have hblk:=World.block_lt_of_cell? w _ hu0;have hrow:∀ i,i<m→ZbL ks ((List.range z).map (F i)):=fun i hi=>⟨by rw[List.length_map,List.length_range,hz],fun j k hk=>by
    have hj:j<z:=(by rw[← hz];exact (List.getElem?_eq_some_iff.1 hk).1);obtain ⟨k',v,e1,e2,e3⟩:=hF i hi j hj;rw[hk]at e1;simp only[Option.some.injEq]at e1;subst e1;exact ⟨F i j,v,by rw[List.getElem?_map,List.getElem?_range hj];rfl,e3⟩⟩
   refine ⟨(List.range len).map fun i=>(List.range z).map (F i),⟨blk,off,z,m,false⟩,fun c hc=>?_,fun ρ nm=>?_,fun _=>hblk,fun ρ nm hρ=>?_⟩
   ·obtain ⟨i,hi,rfl⟩:=List.mem_map.1 hc
    exact hrow i (by have:=List.mem_range.1 hi;omega)
   ·refine .inr ⟨rfl,rfl,by rw[List.length_map,List.length_range];exact hl,fun i hi=>?_,fun i hi j v hv=>?_⟩
    ·simp only[List.length_map,List.length_range]at hi
     rw[Ve,List.getD_eq_getElem?_getD,List.getElem?_map,List.getElem?_range hi];show ((List.range z).map (F i)).length=z;rw[List.length_map,List.length_range]
    ·simp only[List.length_map,List.length_range]at hi
     have e1:((List.range len).map fun i=>(List.range z).map (F i)).getD i []=(List.range z).map (F i):=by
      rw[List.getD_eq_getElem?_getD,List.getElem?_map,List.getElem?_range hi];rfl
     rw[e1,Xg (Xr (Vo (hrow i (by omega)))),List.getElem?_map]at hv;by_cases hj:j<z
     ·rw[List.getElem?_range hj]at hv
      simp only[Option.map_some,Option.some.injEq]at hv;subst hv;obtain ⟨k,u,_,e3,e4⟩:=hF i (by omega) j hj;refine ⟨u,?_,Zej e4,?_⟩
      ·rw[← e3]
       congr 1
       unfold Addr.add;split
       ·rename_i h0;simp[h0]
       ·rfl
      ·unfold XP at e4
       split at e4
       ·obtain ⟨b,_,hn⟩:=e4;rw[hn];rfl
       ·obtain ⟨n,_,hn,_⟩:=e4;rw[hn];rfl
     ·rw[List.getElem?_eq_none (by rw[List.length_range];omega)]at hv
      simp only[Option.map_none,reduceCtorEq]at hv
   ·rw[Rep,List.length_map,List.length_range]
    refine .inr ⟨by rw[hρ],by rw[hρ,Nat.zero_add];exact hl,off,by rw[hρ];rfl,fun _=>by rw[hρ];simp⟩
theorem Zd2 {P:Program} {f:FuncId} {d:List AV→List NObj→Option AV} {ok:ROk d} (hs:Sound P f (rdS d ok)) {W:World} {hl:HL} {m:Nat} {Ls:Nat→Loc}
  (hv:∀ k,k<m→∃ sz els,hk hl k=.view 0 sz els∧(∀ c,c∈els→ZbH c=true)∧(∀ ρ,Y2 ρ (Ls k) (flO (.top k) (.view 0 sz els)) W)∧((Ls k).nil=false→(Ls k).blk<W.heap.size)) (hf:∀ k,m≤k→hk hl k=.free)
  {avs:List AV} {vs:List Value} {b:Bool} {rd:List Nat} (h:rdF d avs (hk hl) m=some ⟨.bool b,[],rd⟩) (hrep:∀ ρ:Env,(∀ k,k<m→ρ (.top k)=Ls k)→Z8 ρ avs vs) :
  Calls P f vs.toArray W fun e W' => e=.returned (.bool b)∧Below W.heap.size W W':=by
 have hcase:∀ x:Nm,(∃ k,k<m∧x=.top k)∨Zg (hk hl) x=.free:=fun x=>by
  by_cases hr:x.root<m
  ·obtain ⟨sz,els,h1,h2,_⟩:=hv x.root hr
   by_cases hx:x=.top x.root
   ·exact .inl ⟨x.root,hr,hx⟩
   ·exact .inr (X9 (n:=x.root) (fun t j f=>by
     rw[h1];exact ZaE (sz:=sz) (w:=els) (fun j c hc=>Xr (h2 c (List.mem_of_getElem? hc))) t j f) rfl hx)
  ·exact .inr (XU (n:=x.root) (hf _ (by omega)) rfl)
 have h0:∀ k,k<m→∃ sz els,hk hl k=.view 0 sz els∧HF (hk hl) (.top k)=flO (.top k) (.view 0 sz els)∧(∀ ρ,Y2 ρ (Ls k) (flO (.top k) (.view 0 sz els)) W)∧((Ls k).nil=false→(Ls k).blk<W.heap.size):=fun k hk0=>by
  obtain ⟨sz,els,h1,_,h2,h3⟩:=hv k hk0;refine ⟨sz,els,h1,?_,h2,h3⟩;unfold HF;rw[Zg,h1]
 have:=hs.calls W noSc (fun ρ=>∀ k,k<m→ρ (.top k)=Ls k) (fun x=>m≤x.mx) (hk hl) W avs vs m _ ⟨fun x=>Ls x.root,fun k _=>rfl⟩ (fun ρ ρ' hρ he k hk0=>by rw[he (.top k) (by simp[Nm.mx];omega)];exact hρ k hk0) (fun x hx=>by
   rcases hcase x with ⟨k,hk0,rfl⟩ | e
   ·simp only[Nm.mx]at hx;omega
   ·exact Zr.2 e) (fun ρ ρ' h1 h2 x hx=>by
   rcases hcase x with ⟨k,hk0,rfl⟩ | e
   ·rw[h1 k hk0,h2 k hk0]
   ·exact absurd (Zr.2 e) hx)
  (fun ρ hρ=>⟨rfl,rfl,rfl,Nat.le_refl _,fun _ _ _=>rfl,fun x=>by
    rcases hcase x with ⟨k,hk0,rfl⟩ | e
    ·obtain ⟨sz,els,g1,g2,g3,g4⟩:=h0 k hk0
     rw[g2,hρ k hk0];exact g3 ρ
    ·rw[Zr.2 e];trivial,fun x hx=>by
    rcases hcase x with ⟨k,hk0,rfl⟩ | e
    ·obtain ⟨sz,els,g1,g2,g3,g4⟩:=h0 k hk0
     rw[g2]at hx;exact hx.elim
    ·rw[Zr.2 e]at hx;exact hx.elim,fun x y hx=>by
    rcases hcase x with ⟨k,hk0,rfl⟩ | e
    ·obtain ⟨sz,els,g1,g2,g3,g4⟩:=h0 k hk0
     rw[g2]at hx;exact hx.elim
    ·rw[Zr.2 e]at hx;exact hx.elim,fun x hx=>by
    rcases hcase x with ⟨k,hk0,rfl⟩ | e
    ·obtain ⟨sz,els,g1,g2,g3,g4⟩:=h0 k hk0
     rw[g2,hρ k hk0]at hx;rw[hρ k hk0];exact ⟨g4 hx,fun h=>h⟩
    ·rw[Zr.2 e]at hx;exact hx.elim,fun x hx=>absurd hx (Nat.not_lt_zero x)⟩) (fun ρ hρ=>hrep ρ hρ) h (fun x hx=>hx.1)
 refine this.mono fun e W' ⟨v,g,he,hv'⟩ => ?_
 obtain ⟨q1,q2⟩:=hv' (fun x=>if m≤x.mx then g x else Ls x.root) (fun k hk0=>by rw[if_neg (by simp only[Nm.mx];omega)];rfl) (fun x hx=>by simp[hx.1])
 simp only[Rep]at q1
 subst q1
 exact ⟨he,q2.below⟩
theorem Zco {P:Program} {w:World} {base:Nat} {r:Reach} {t e:TypeId} {v:Value} (ht:P.underlying t=some (.slice e)) (hv:Value.okWide P w r base t v) {ρ:Env} {nm:Nm} {n:Nat} (h:Rep ρ (.sl nm 0 n) v):n≤9223372036854775807:=by
 rw[Rep]at h;rcases h with ⟨_,_,h,_⟩ | ⟨_,_,off,h,_⟩
 ·omega
 ·subst h
  simp only[Value.okWide,ht,Cell.okWide,Cell.ok]at hv;have h2:IntKind.i64.max=9223372036854775807:=rfl;obtain ⟨a,b,_⟩:=hv;rw[h2]at b;omega
theorem zy:∀ (n:Nat) (c:List AV),ZbL (List.replicate n false) c→∃ ns:List Int,ns.length=n∧c=ns.map (AV.int .i64)
 | 0,c,h=>⟨[],rfl,List.length_eq_zero_iff.1 h.1⟩
 | n+1,c,h=>by
  obtain ⟨hl,hc⟩:=h
  match c,hl with
  | a :: c,hl =>
   obtain ⟨_,_,e1,e2⟩:=hc 0 false rfl;simp only[XP,Bool.false_eq_true,if_false,List.getElem?_cons_zero,Option.some.injEq]at e1 e2;subst e1;obtain ⟨v,rfl,_⟩:=e2;obtain ⟨ns,h1,h2⟩:=zy n c ⟨by simpa using hl,fun j k hk=>by
    have:=hc (j+1) k (by simpa [List.replicate_succ] using hk);simpa using this⟩
   exact ⟨v :: ns,by simp[h1],by rw[h2];rfl⟩
theorem Zg5 {els:List (List AV)} (h:∀ c,c∈els→ZbL [false,false,false,false,false] c):els.all Zdp=true :=
 List.all_eq_true.2 fun c hc=>by
  obtain ⟨ns,h1,rfl⟩:=zy 5 c (h c hc)
  match ns,h1 with
  | [a,b,c,d,e],_=>rfl
theorem Zgl {els:List (List AV)} (h:∀ c,c∈els→ZbL [false,false] c):els.all Zc1=true :=
 List.all_eq_true.2 fun c hc=>by
  obtain ⟨ns,h1,rfl⟩:=zy 2 c (h c hc)
  match ns,h1 with
  | [a,b],_=>rfl
open Go.Proofs
set_option maxHeartbeats 8000000
attribute [local irreducible] Wm
attribute [local simp] Y5 lkp VW prs Uv prT ddL idL YN Um Ren Vt NObj.none Z4
theorem Zeq {c:List AV} (h:ZbL [false,true,false,false,false,false,false,false,false,false] c):TJ c=true:=by
 obtain ⟨hl,hc⟩:=h
 match c,hl with
 | [c0,c1,c2,c3,c4,c5,c6,c7,c8,c9],_ =>
  obtain ⟨_,_,e1,e2⟩:=hc 0 false rfl;simp only[XP,Bool.false_eq_true,if_false,List.getElem?_cons_succ,List.getElem?_cons_zero,Option.some.injEq]at e1 e2;subst e1;obtain ⟨v0,rfl,_,r0⟩:=e2;obtain ⟨_,_,e1,e2⟩:=hc 1 true rfl;simp only[XP,if_true,List.getElem?_cons_succ,List.getElem?_cons_zero,Option.some.injEq]at e1 e2;subst e1;obtain ⟨v1,rfl,_⟩:=e2;obtain ⟨_,_,e1,e2⟩:=hc 2 false rfl;simp only[XP,Bool.false_eq_true,if_false,List.getElem?_cons_succ,List.getElem?_cons_zero,Option.some.injEq]at e1 e2;subst e1;obtain ⟨v2,rfl,_,r2⟩:=e2;obtain ⟨_,_,e1,e2⟩:=hc 3 false rfl;simp only[XP,Bool.false_eq_true,if_false,List.getElem?_cons_succ,List.getElem?_cons_zero,Option.some.injEq]at e1 e2;subst e1;obtain ⟨v3,rfl,_,r3⟩:=e2;obtain ⟨_,_,e1,e2⟩:=hc 4 false rfl;simp only[XP,Bool.false_eq_true,if_false,List.getElem?_cons_succ,List.getElem?_cons_zero,Option.some.injEq]at e1 e2;subst e1;obtain ⟨v4,rfl,_,r4⟩:=e2;obtain ⟨_,_,e1,e2⟩:=hc 5 false rfl;simp only[XP,Bool.false_eq_true,if_false,List.getElem?_cons_succ,List.getElem?_cons_zero,Option.some.injEq]at e1 e2;subst e1;obtain ⟨v5,rfl,_,r5⟩:=e2;obtain ⟨_,_,e1,e2⟩:=hc 6 false rfl;simp only[XP,Bool.false_eq_true,if_false,List.getElem?_cons_succ,List.getElem?_cons_zero,Option.some.injEq]at e1 e2;subst e1;obtain ⟨v6,rfl,_,r6⟩:=e2;obtain ⟨_,_,e1,e2⟩:=hc 7 false rfl;simp only[XP,Bool.false_eq_true,if_false,List.getElem?_cons_succ,List.getElem?_cons_zero,Option.some.injEq]at e1 e2;subst e1;obtain ⟨v7,rfl,_,r7⟩:=e2;obtain ⟨_,_,e1,e2⟩:=hc 8 false rfl
  simp only[XP,Bool.false_eq_true,if_false,List.getElem?_cons_succ,List.getElem?_cons_zero,Option.some.injEq]at e1 e2;subst e1;obtain ⟨v8,rfl,_,r8⟩:=e2;obtain ⟨_,_,e1,e2⟩:=hc 9 false rfl;simp only[XP,Bool.false_eq_true,if_false,List.getElem?_cons_succ,List.getElem?_cons_zero,Option.some.injEq]at e1 e2;subst e1;obtain ⟨v9,rfl,_,r9⟩:=e2;simp only[TJ];exact decide_eq_true (by omega)
theorem Zgh {els:List (List AV)} (h:∀ c,c∈els→ZbL [false,true,false,false,false,false,false,false,false,false] c):els.all TJ=true :=
 List.all_eq_true.2 fun c hc=>Zeq (h c hc)
end Go.W
