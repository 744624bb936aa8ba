/- A part of the proofs about the pair's laws (PsS, PsT, PsU, PsQ). -/
import Derived.Test.YtidbbnkpglggdaaGreatPsI
import Derived.Test.YtidbbnkpglggdaaGreatPsO
import Derived.Test.YtidbbnkpglggdaaGreatPqB
namespace Go.W
open Go.Proofs
set_option linter.unusedSimpArgs false
set_option linter.unusedVariables false
set_option maxHeartbeats 8000000
attribute [local irreducible] Wm
attribute [local simp] Y5 lkp VW prs Uv prT ddL idL YN Um Ren Vt NObj.none Z4
def Vi:Option Int→AV
 | some x=>.tup [.int .u64 x,.int .i64 0]
 | none=>.tup [.int .u64 0,.int .i64 5]
def Ux (t:TmZ):Option Int:=Yf [[.int .i64 4],[.int .i64 1],[.int .i64 16],[.int .i64 16],[.int .i64 24]] [[.int .i64 t.nm],[.int .i64 t.sd],[.int .i64 t.pr],[.int .i64 t.le],[.int .i64 t.un]] 5
theorem Zaw {t:TmZ} {v:Int} (h:Ux t=some v):0≤v∧v<18446744073709551616:=by
 unfold Ux at h;have:=X2 (by simp[VU]) 5 v (by simp) h;have e:(YS [[AV.int .i64 4],[AV.int .i64 1],[AV.int .i64 16],[AV.int .i64 16],[AV.int .i64 24]] 5).toNat=61:=by simp[YS,ZI]
 rw[e]at this;omega
def d34:List AV→List NObj→Option AV
 | [.agg [.int .i64 k,.bool fl,.int .i64 sg,.int .i64 sl,.int .i64 sf]],[]=>if -9223372036854775808≤k∧k≤9223372036854775807∧-9223372036854775808≤sg∧sg≤9223372036854775807∧-9223372036854775808≤sl∧sl≤9223372036854775807∧-9223372036854775808≤sf∧sf≤9223372036854775807 then some (Vi (ZN ⟨k,fl,sg,sl,sf⟩)) else none
 | _,_=>none
theorem ok34:ROk d34:=by
 intro xs os r h;unfold d34 at h
 (repeat' (split at h))<;>first|(cases h;done)|(injection h with h;subst h;unfold Vi;split<;>simp)
theorem s34:Sound Tryz.prog 34 (rdS d34 ok34):=by
 refine Zo C34.a C34.b C34.c C34.d ok34 fun xs os r h vs ρ0 hvs=>⟨xs,?_,fun _ h=>h,fun w0 S hS=>?_⟩
 ·unfold d34 at h
  (repeat' (split at h))<;>first|(cases h;done)|exact Nat.le_of_ble_eq_true rfl
 unfold d34 at h;split at h
 ·split at h
  ·rename_i k fl sg sl sf hcond
   injection h with h;subst h;have hE:Zb Tryz.prog (EL [(74,rdS d74 ok74)]):=Zd (by simp only[List.mem_cons,List.not_mem_nil,or_false,forall_eq_or_imp,forall_eq];exact s74);by_cases h1:8<k
   ·unfold m34
    repeat' with_reducible (first|refine ZR.h ?_|refine zI ?_|(refine zK hE ?_;intro K hK;simp[h1,d74];(repeat' (first|refine hK _ _ ?_|apply And.intro|(intro hc;try subst hc)))<;>(try clear hK K))|(refine zJ (fun hc=>?_) (fun hc=>?_)<;>simp at hc<;>(try subst hc)))
    all_goals first|(simp;done)|(simp at *;omega)|((try simp[h1,ZN,Vi]);refine Imp.aut ?_ ?_<;>simp[NLe,h1,ZN,Vi])
   ·cases fl
    ·obtain ⟨P,hP⟩:∃ P,Yf [[.int .i64 4],[.int .i64 1],[.int .i64 8],[.int .i64 16],[.int .i64 8]] [[.int .i64 k],[.int .i64 0],[.int .i64 sg],[.int .i64 sl],[.int .i64 sf]] 5=P:=⟨_,rfl⟩
     cases P
     ·unfold m34
      repeat' with_reducible (first|refine ZR.h ?_|refine zI ?_|(refine zK hE ?_;intro K hK;simp[h1,VU,isV,YS,ZI,hcond,hP,U0,d74];(repeat' (first|refine hK _ _ ?_|apply And.intro|(intro hc;try subst hc)))<;>(try clear hK K))|(refine zJ (fun hc=>?_) (fun hc=>?_)<;>simp at hc<;>(try subst hc)))
      all_goals first|(simp;done)|(simp at *;omega)|((try simp[h1,ZN,hP,Vi]);refine Imp.aut ?_ ?_<;>simp[NLe,h1,ZN,hP,Vi])
     ·unfold m34
      repeat' with_reducible (first|refine ZR.h ?_|refine zI ?_|(refine zK hE ?_;intro K hK;simp[h1,VU,isV,YS,ZI,hcond,hP,U0,d74];(repeat' (first|refine hK _ _ ?_|apply And.intro|(intro hc;try subst hc)))<;>(try clear hK K))|(refine zJ (fun hc=>?_) (fun hc=>?_)<;>simp at hc<;>(try subst hc)))
      all_goals first|(simp;done)|(simp at *;omega)|((try simp[h1,ZN,hP,Vi]);refine Imp.aut ?_ ?_<;>simp[NLe,h1,ZN,hP,Vi])
    ·obtain ⟨P,hP⟩:∃ P,Yf [[.int .i64 4],[.int .i64 1],[.int .i64 8],[.int .i64 16],[.int .i64 8]] [[.int .i64 k],[.int .i64 1],[.int .i64 sg],[.int .i64 sl],[.int .i64 sf]] 5=P:=⟨_,rfl⟩
     cases P
     ·unfold m34
      repeat' with_reducible (first|refine ZR.h ?_|refine zI ?_|(refine zK hE ?_;intro K hK;simp[h1,VU,isV,YS,ZI,hcond,hP,U0,d74];(repeat' (first|refine hK _ _ ?_|apply And.intro|(intro hc;try subst hc)))<;>(try clear hK K))|(refine zJ (fun hc=>?_) (fun hc=>?_)<;>simp at hc<;>(try subst hc)))
      all_goals first|(simp;done)|(simp at *;omega)|((try simp[h1,ZN,hP,Vi]);refine Imp.aut ?_ ?_<;>simp[NLe,h1,ZN,hP,Vi])
     ·unfold m34
      repeat' with_reducible (first|refine ZR.h ?_|refine zI ?_|(refine zK hE ?_;intro K hK;simp[h1,VU,isV,YS,ZI,hcond,hP,U0,d74];(repeat' (first|refine hK _ _ ?_|apply And.intro|(intro hc;try subst hc)))<;>(try clear hK K))|(refine zJ (fun hc=>?_) (fun hc=>?_)<;>simp at hc<;>(try subst hc)))
      all_goals first|(simp;done)|(simp at *;omega)|((try simp[h1,ZN,hP,Vi]);refine Imp.aut ?_ ?_<;>simp[NLe,h1,ZN,hP,Vi])
  ·cases h
 ·cases h
def d35:List AV→List NObj→Option AV
 | [.agg [.int .i64 n0,.int .i64 n1,.int .i64 n2,.int .i64 n3,.int .i64 n4]],[]=>if -9223372036854775808≤n0∧n0≤9223372036854775807∧-9223372036854775808≤n1∧n1≤9223372036854775807∧-9223372036854775808≤n2∧n2≤9223372036854775807∧-9223372036854775808≤n3∧n3≤9223372036854775807∧-9223372036854775808≤n4∧n4≤9223372036854775807 then some (Vi (Ux ⟨n0,n1,n2,n3,n4⟩)) else none
 | _,_=>none
theorem ok35:ROk d35:=by
 intro xs os r h;unfold d35 at h
 (repeat' (split at h))<;>first|(cases h;done)|(injection h with h;subst h;unfold Vi;split<;>simp)
theorem s35:Sound Tryz.prog 35 (rdS d35 ok35):=by
 refine Zo C35.a C35.b C35.c C35.d ok35 fun xs os r h vs ρ0 hvs=>⟨xs,?_,fun _ h=>h,fun w0 S hS=>?_⟩
 ·unfold d35 at h
  (repeat' (split at h))<;>first|(cases h;done)|exact Nat.le_of_ble_eq_true rfl
 unfold d35 at h;split at h
 ·split at h
  ·rename_i n0 n1 n2 n3 n4 hcond
   injection h with h;subst h;have hE:Zb Tryz.prog (EL [(74,rdS d74 ok74)]):=Zd (by simp only[List.mem_cons,List.not_mem_nil,or_false,forall_eq_or_imp,forall_eq];exact s74);obtain ⟨P,hP⟩:∃ P,Yf [[.int .i64 4],[.int .i64 1],[.int .i64 16],[.int .i64 16],[.int .i64 24]] [[.int .i64 n0],[.int .i64 n1],[.int .i64 n2],[.int .i64 n3],[.int .i64 n4]] 5=P:=⟨_,rfl⟩;cases P
   ·unfold m35
    repeat' with_reducible (first|refine ZR.h ?_|refine zI ?_|(refine zK hE ?_;intro K hK;simp[VU,isV,YS,ZI,hcond,hP,U0,d74];(repeat' (first|refine hK _ _ ?_|apply And.intro|(intro hc;try subst hc)))<;>(try clear hK K))|(refine zJ (fun hc=>?_) (fun hc=>?_)<;>simp at hc<;>(try subst hc)))
    all_goals first|(simp;done)|(simp at *;omega)|((try simp[Ux,hP,Vi]);refine Imp.aut ?_ ?_<;>simp[NLe,Ux,hP,Vi])
   ·unfold m35
    repeat' with_reducible (first|refine ZR.h ?_|refine zI ?_|(refine zK hE ?_;intro K hK;simp[VU,isV,YS,ZI,hcond,hP,U0,d74];(repeat' (first|refine hK _ _ ?_|apply And.intro|(intro hc;try subst hc)))<;>(try clear hK K))|(refine zJ (fun hc=>?_) (fun hc=>?_)<;>simp at hc<;>(try subst hc)))
    all_goals first|(simp;done)|(simp at *;omega)|((try simp[Ux,hP,Vi]);refine Imp.aut ?_ ?_<;>simp[NLe,Ux,hP,Vi])
  ·cases h
 ·cases h
def W0 (a b c d e f g:Int):WZ:=⟨a,b,c,d,e,f,g,List.replicate (a*b*2+a*b*g*(f+1)).toNat [.int .u64 0],0,0,[]⟩
theorem ZbO (n:Nat):(List.replicate n [AV.int .u64 0]).all isW=true:=by
 induction n with
 | zero=>rfl
 | succ n ih=>rw[List.replicate_succ,List.all_cons,ih];rfl
def ZM (m:Nat) (ex:List (Nat×Option Nat)) (s s':St):List (Nat×Option Nat):=ddL (idL m++(ex++prT s.tl s'.tl))
theorem Imp.autoX {m:Nat} {s s':St} (ex:List (Nat×Option Nat)) (h:plB m (ZM m ex s s') s'.nb=true) (ht:∀ p,p∈s'.tl→Ren (Y5 (ZM m ex s s') (hk s.hl) (hk s'.hl)) (lk s.tl p.1) p.2)
  (ho:∀ p,p∈s'.hl→p.2.tag<s'.nb∧(match lkp (ZM m ex s s') p.1 with
  | some (some y)=>NLe (Y5 (ZM m ex s s') (hk s.hl) (hk s'.hl)) (hk s.hl y) p.2
  | some none=>p.2.none
  | none=>p.2=.free)):Imp m s s':=Imp.le _ (LeN.mk' h ht ho)
def A0 (a b c d e f g:Int) (rp:List (List AV)):St:=⟨[(0,.tup [.ptr (.top 0) 0 0,.raw .nilIface])],[(0,.cells 0 [.int .i64 a,.int .i64 b,.int .i64 c,.int .i64 d,.int .i64 e,.int .i64 f,.int .i64 g,.ptr (.top 1) 0 0,.ptr (.top 2) 0 0,.sl (.top 3) 0 0]),(1,.cells 0 [.os 0 1 rp,.int .i64 0,.bot,.bot,.bot,.bot,.bot]),(2,.cells 0 [.int .u64 0]),(3,.arr 0 14 [])],4⟩
def d32:List AV→Option Ans
 | [.agg [.int .i64 a,.int .i64 b,.int .i64 c,.int .i64 d,.int .i64 e,.int .i64 f,.int .i64 g]]=>if XX a b c d e f g=true then some ⟨.tup [.op 0 (wzC (W0 a b c d e f g)),.raw .nilIface],[]⟩ else none
 | _=>none
theorem ok32:NOk [] d32:=by
 intro xs aa h;unfold d32 at h;split at h
 ·split at h
  ·rename_i a b c d e f g hc
   have hT:=ZZ (ZbO (a*b*2+a*b*g*(f+1)).toNat);have hC:=Z0 (ZbO (a*b*2+a*b*g*(f+1)).toNat);injection h with h;subst h;refine ⟨Zq ?_,?_⟩<;>simp[wzC,W0,hT,hC]
  ·cases h
 ·cases h
theorem s32:Sound Tryz.prog 32 (Zi [] d32 ok32):=by
 refine Zj C32.a C32.b C32.c C32.d ok32 (fun xs a h=>?_) fun xs a h w0 S hS=>?_
 ·unfold d32 at h
  (repeat' (split at h))<;>first|(cases h;done)|exact Nat.le_of_ble_eq_true rfl
 unfold d32 at h;split at h
 ·split at h
  ·rename_i a b c d e f g hcond
   injection h with h;subst h;have hE:Zb Tryz.prog (EL [(30,Zi [] d30 ok30),(73,rdS d73 ok73),(72,Zi [] d72 ok72)]):=Zd (by simp only[List.mem_cons,List.not_mem_nil,or_false,forall_eq_or_imp,forall_eq];exact ⟨s30,s73,s72⟩);have hc:=ZH hcond;have hall:=ZJ hcond;have hwd:=Yl (f:=f) (g:=g) (show 0≤a*b by omega) hall.2 (by omega) (by omega);have hck:Xn a b c d e f g=-1:=(UL a b c d e f g).mpr hcond;obtain ⟨wn,hwn⟩:∃ wn,a*b*2+a*b*g*(f+1)=wn:=⟨_,rfl⟩;have hwn2:0≤wn∧wn≤8192:=(by omega);have h42:d30 [.agg [.int .i64 a,.int .i64 b,.int .i64 c,.int .i64 d,.int .i64 e,.int .i64 f,.int .i64 g]]=some ⟨.tup [.agg [.int .i64 a,.int .i64 b,.int .i64 c,.int .i64 d,.int .i64 e,.int .i64 f,.int .i64 g],.raw .nilIface],[]⟩:=by
    simp only[d30];rw[if_pos hck]
   have h74:d73 [.agg [.int .i64 a,.int .i64 b,.int .i64 c,.int .i64 d,.int .i64 e,.int .i64 f,.int .i64 g]] []=some (.int .i64 wn):=by
    simp only[d73];rw[if_pos hcond,hwn]
   have hT:=ZZ (ZbO wn.toNat);have hC:=Z0 (ZbO wn.toNat);have h73:d72 [.int .i64 wn]=some ⟨.tup [.op 0 [.os 0 1 (List.replicate wn.toNat [.int .u64 0]),.int .i64 0,.bot,.bot,.bot,.bot,.bot],.raw .nilIface],[]⟩:=by
    simp only[d72];rw[if_pos hwn2]
   obtain ⟨rp,hrp⟩:∃ r,List.replicate wn.toNat [AV.int .u64 0]=r:=⟨_,rfl⟩;rw[hrp]at hT hC h73;simp only[wzC,W0,hwn,hrp];unfold m32
   repeat' with_reducible (first|refine ZR.h ?_|refine zI ?_|(refine zK hE ?_;intro K hK;simp[h42,h74,h73,hT,hC];(repeat' (first|refine hK _ _ ?_|apply And.intro|(intro hc;try subst hc)))<;>(try clear hK K))|(refine zJ (fun hc=>?_) (fun hc=>?_)<;>simp at hc<;>(try subst hc)))
   all_goals (try simp[hT,hC])
   all_goals (refine Imp.trans (t:=A0 a b c d e f g rp) (Imp.autoX [(1,some 128),(2,some 216),(3,none)] (by kernel_rfl) ?_ ?_) ?_)
   all_goals first|(simp[A0,ZM,Y5,lkp,VW,prs,Uv,prT,ddL,idL,NLe,YN,Um,Ren,Vt,NObj.none,Z4,hT,hC];done)|skip
   all_goals (refine Imp.trans (Imp.absorb (.top 0) 0 7 1 (by rfl) (by rfl) (by rfl) (.inr ⟨0,_,by rfl,by rfl⟩) (by simp)) ?_)
   all_goals (refine Imp.trans (Imp.absorb (.top 0) 0 8 2 (by rfl) (by rfl) (by rfl) (.inr ⟨0,_,by rfl,by rfl⟩) (by simp)) ?_)
   all_goals (refine Imp.trans (Imp.absorb (.top 0) 0 9 3 (by rfl) (by rfl) (by rfl) (.inl ⟨0,14,[],by rfl,by rfl⟩) (by simp)) ?_)
   all_goals (simp only[A0];refine Imp.aut ?_ ?_<;>simp[Y5,lkp,VW,prs,Uv,prT,ddL,idL,NLe,YN,Um,Ren,Vt,NObj.none,Z4,hT,hC,XK,Yb])
  ·cases h
 ·cases h
theorem UY {c:List AV} (h:t0L c=c):∀ k,ZG (List.replicate k c)=List.replicate k c
 | 0=>rfl
 | k+1=>by rw[List.replicate_succ];simp only[ZG,h,UY h k]
theorem UV {c:List AV} (h:clL c=true):∀ k,Yp (List.replicate k c)=true
 | 0=>rfl
 | k+1=>by rw[List.replicate_succ];simp only[Yp,h,UV h k,Bool.and_self]
def jzR (m:Nat):List AV:=[.os 0 6 (List.replicate m [.int .i64 0,.int .i64 0,.int .i64 0,.int .i64 0,.int .i64 0,.int .i64 0])]
def jzL (n m:Nat):List (List AV):=List.replicate n (jzR m)
theorem Zh4 (m:Nat):t0L (jzR m)=jzR m:=by
 have h:=UY (c:=[.int .i64 0,.int .i64 0,.int .i64 0,.int .i64 0,.int .i64 0,.int .i64 0]) rfl m;simp[jzR,t0L,AV.t0,h]
theorem ZhM (m:Nat):clL (jzR m)=true:=by
 have h:=UV (c:=[.int .i64 0,.int .i64 0,.int .i64 0,.int .i64 0,.int .i64 0,.int .i64 0]) rfl m;simp[jzR,clL,AV.cl,h]
theorem Zb8 (q:Nat):∀ m:Nat,UD q (List.replicate m [AV.int .i64 0,.int .i64 0,.int .i64 0,.int .i64 0,.int .i64 0,.int .i64 0])=true
 | 0=>rfl
 | m+1=>by rw[List.replicate_succ];simp only[UD,Zb8 q m,tlL,AV.tl,Bool.and_self]
@[simp] theorem Zip (n m:Nat):ZG (jzL n m)=jzL n m:=UY (Zh4 m) n
@[simp] theorem jzL_cl (n m:Nat):Yp (jzL n m)=true:=UV (ZhM m) n
theorem Tc (n m:Nat):(jzL n m).length=n:=List.length_replicate ..
theorem Zfa {q:Nat} (hq:0<q) (m:Nat):∀ n,UD q (jzL n m)=true
 | 0=>rfl
 | n+1=>by
  have h:=Zfa hq m n;unfold jzL at h⊢;rw[List.replicate_succ];have h2:tlL q (jzR m)=true:=by simp[jzR,tlL,AV.tl,Zb8 q m,hq]
  simp only[UD,h,h2,Bool.and_self]
theorem ZcU (n m:Nat) (r:List AV):(jzL n m++[r])[n]?=some r:=by
 rw[List.getElem?_append_right (by rw[Tc];omega),Tc];simp
theorem ZhU (n m:Nat) (r:List AV):ZG ((jzL n m++[r]).set n [.os 0 6 (List.replicate m [.int .i64 0,.int .i64 0,.int .i64 0,.int .i64 0,.int .i64 0,.int .i64 0])])=jzL (n+1) m:=by
 have e:(jzL n m++[r]).set n (jzR m)=jzL (n+1) m:=by
  rw[List.set_append_right _ _ (by rw[Tc];omega),Tc];simp[jzL,List.replicate_succ']
 show ZG ((jzL n m++[r]).set n (jzR m))=_;rw[e,Zip]
def qC (a b c d e f g:Int) (S T:List (List AV)):List AV:=[.int .i64 a,.int .i64 b,.int .i64 c,.int .i64 d,.int .i64 e,.int .i64 f,.int .i64 g,.os 0 5 S,.os 0 5 T,.os 0 1 (jzL (a*b).toNat (g*(f+1)).toNat),.int .i64 0,.os 0 14 [],.int .i64 0]
def zS (n:Nat):List (List AV):=List.replicate n [.int .i64 0,.bool false,.int .i64 0,.int .i64 0,.int .i64 0]
def zT (n:Nat):List (List AV):=List.replicate n [.int .i64 0,.int .i64 0,.int .i64 0,.int .i64 0,.int .i64 0]
def d33:List AV→Option Ans
 | [.agg [.int .i64 a,.int .i64 b,.int .i64 c,.int .i64 d,.int .i64 e,.int .i64 f,.int .i64 g]]=>if XX a b c d e f g=true then some ⟨.op 0 (qC a b c d e f g (zS (a*b).toNat) (zT (a*b).toNat)),[]⟩ else none
 | _=>none
theorem ok33:NOk [] d33:=by
 intro xs aa h;unfold d33 at h;split at h
 ·split at h
  ·rename_i a b c d e f g hc
   have h1:=UY (c:=[.int .i64 0,.bool false,.int .i64 0,.int .i64 0,.int .i64 0]) rfl (a*b).toNat;have h2:=UV (c:=[.int .i64 0,.bool false,.int .i64 0,.int .i64 0,.int .i64 0]) rfl (a*b).toNat;have h3:=UY (c:=[.int .i64 0,.int .i64 0,.int .i64 0,.int .i64 0,.int .i64 0]) rfl (a*b).toNat;have h4:=UV (c:=[.int .i64 0,.int .i64 0,.int .i64 0,.int .i64 0,.int .i64 0]) rfl (a*b).toNat;injection h with h;subst h;refine ⟨Zq ?_,?_⟩<;>simp[qC,zS,zT,h1,h2,h3,h4]
  ·cases h
 ·cases h
def I44 (a b c d e f g n:Int) (S T:List (List AV)) (m i:Nat):St:=⟨[(1,.ptr (.top 0) 0 0),(3,.int .i64 n),(4,.ptr (.top 1) 0 0),(5,.int .i64 i)],[(0,.cells 0 [.int .i64 a,.int .i64 b,.int .i64 c,.int .i64 d,.int .i64 e,.int .i64 f,.int .i64 g]),(1,.cells 0 [.int .i64 a,.int .i64 b,.int .i64 c,.int .i64 d,.int .i64 e,.int .i64 f,.int .i64 g,.sl (.top 2) 0 n.toNat,.sl (.top 3) 0 n.toNat,.sl (.top 4) 0 i,.int .i64 0,.nsl,.int .i64 0]),(2,.arr 0 5 S),(3,.arr 0 5 T),(4,.arr 0 1 (jzL i m))],5⟩
def E44 (a b c d e f g n:Int) (S T:List (List AV)) (m:Nat):St:=⟨[(0,.ptr (.top 0) 0 0)],[(0,.cells 0 [.int .i64 a,.int .i64 b,.int .i64 c,.int .i64 d,.int .i64 e,.int .i64 f,.int .i64 g,.sl (.top 1) 0 n.toNat,.sl (.top 2) 0 n.toNat,.sl (.top 3) 0 n.toNat,.int .i64 0,.sl (.top 4) 0 0,.int .i64 0]),(1,.arr 0 5 S),(2,.arr 0 5 T),(3,.arr 0 1 (jzL n.toNat m)),(4,.arr 0 14 [])],5⟩
theorem s33:Sound Tryz.prog 33 (Zi [] d33 ok33):=by
 refine Zj C33.a C33.b C33.c C33.d ok33 (fun xs a h=>?_) fun xs a h w0 S hS=>?_
 ·unfold d33 at h
  (repeat' (split at h))<;>first|(cases h;done)|exact Nat.le_of_ble_eq_true rfl
 unfold d33 at h;split at h
 ·split at h
  ·rename_i a b c d e f g hcond
   injection h with h;subst h;have hE:Zb Tryz.prog (EL []):=Zd (by simp);have hc:=ZH hcond;have hall:=ZJ hcond;obtain ⟨wn,hwn⟩:∃ wn,a*b=wn:=⟨_,rfl⟩;have hwf:=Yl (f:=f) (g:=g) (show 0≤a*b by omega) hall.2 (by omega) (by omega);have hgf:=Vf (show 0≤g by omega) (show g≤15 by omega) (show 0≤f+1 by omega) (show f+1≤5 by omega);rw[hwn]at hall;obtain ⟨gf,hgfe⟩:∃ z,g*(f+1)=z:=⟨_,rfl⟩;rw[hgfe]at hgf;have w1:IntKind.wrap .i64 wn=wn:=Zh (by omega) (by omega);have w2:IntKind.wrap .i64 (f+1)=f+1:=Zh (by omega) (by omega);have w3:IntKind.wrap .i64 gf=gf:=Zh (by omega) (by omega);have h1:=UY (c:=[.int .i64 0,.bool false,.int .i64 0,.int .i64 0,.int .i64 0]) rfl wn.toNat;have h2:=UV (c:=[.int .i64 0,.bool false,.int .i64 0,.int .i64 0,.int .i64 0]) rfl wn.toNat;have h3:=UY (c:=[.int .i64 0,.int .i64 0,.int .i64 0,.int .i64 0,.int .i64 0]) rfl wn.toNat;have h4:=UV (c:=[.int .i64 0,.int .i64 0,.int .i64 0,.int .i64 0,.int .i64 0]) rfl wn.toNat;have hl1:(zS wn.toNat).length=wn.toNat:=List.length_replicate ..;have hl2:(zT wn.toNat).length=wn.toNat:=List.length_replicate ..;simp only[hwn];have hT1:ZG (zS wn.toNat)=zS wn.toNat:=h1;have hT2:Yp (zS wn.toNat)=true:=h2;have hT3:ZG (zT wn.toNat)=zT wn.toNat:=h3;have hT4:Yp (zT wn.toNat)=true:=h4;have n0:0≤wn:=(by omega);have n1:wn≤24:=(by omega);have n2:wn*40≤281474976710656:=(by omega);have n3:wn≤9223372036854775807:=(by omega);have n4:0<wn:=(by omega);have m0:0≤gf:=(by omega);have m2:gf*48≤281474976710656:=by omega
   have m3:gf≤9223372036854775807:=(by omega);unfold m33
   repeat' with_reducible (first|refine ZR.h ?_|refine zI ?_|((first|refine zK hE ?_|refine zM hE ?_);intro K hK;simp[hwn,w1,n0,n2,n3,n4];(repeat' (first|refine hK _ _ ?_|apply And.intro|(intro hc;try subst hc)))<;>(try clear hK K))|(refine zJ (fun hc=>?_) (fun hc=>?_)<;>simp at hc<;>(try subst hc)))
   all_goals (refine YJ (fun i=>I44 a b c d e f g wn (zS wn.toNat) (zT wn.toNat) gf.toNat i) (fun i=>i≤wn.toNat) (fun i=>wn.toNat - i) 0 (Nat.zero_le _) ?_ ?_)
   ·simp only[I44]
    rw[hS];refine Imp.autoX [(2,some 80),(3,some 96),(4,none)] (by kernel_rfl) ?_ ?_<;>simp[NLe,ZM,zS,zT,jzL,h1,h2,h3,h4]
   ·intro i hi
    replace hi:i≤wn.toNat:=hi;simp only[I44];have hbl:=Tc i gf.toNat;have htl:∀ q,0<q→UD q (jzL i gf.toNat)=true:=fun q hq=>Zfa hq _ i;by_cases hin:i<wn.toNat
    ·have hiI:(i:Int)<wn:=by omega
     have w4:IntKind.wrap .i64 ((i:Int)+1)=(i:Int)+1:=Zh (by omega) (by omega);have b1:(i+1)*24≤140737488355328:=(by omega);have b2:i+1≤9223372036854775807:=(by omega);have hgt:¬ gf<0:=by omega
     repeat' with_reducible (first|refine ZR.h ?_|refine zI ?_|((first|refine zK hE ?_|refine zM hE ?_);intro K hK;simp[hiI,w2,w3,w4,hgfe,m0,m2,m3,hbl,b1,b2,htl];(repeat' (first|refine hK _ _ ?_|apply And.intro|(intro hc;try subst hc)))<;>(try clear hK K))|(refine zJ (fun hc=>?_) (fun hc=>?_)<;>simp at hc<;>(try subst hc)))
     all_goals refine ⟨i+1,hin,Nat.sub_lt_sub_left hin (Nat.lt_succ_self i),?_⟩
     all_goals simp only[I44]
     all_goals rw[hS]
     all_goals (refine Imp.trans (Imp.absorb (.top 133) i 0 117 (by rfl) (ZcU _ _ _) (by rfl) (.inl ⟨0,6,List.replicate gf.toNat [.int .i64 0,.int .i64 0,.int .i64 0,.int .i64 0,.int .i64 0,.int .i64 0],by simp,by rfl⟩) (by simp)) ?_)
     all_goals (refine Imp.autoX [(2,some 2),(3,some 3),(4,some 133)] (by kernel_rfl) ?_ ?_<;>simp[NLe,ZM,h1,h2,h3,h4,hT1,hT2,hT3,hT4,XK,Yb,ZcU,ZhU])
    ·have hiI:¬ (i:Int)<wn:=by omega
     have hie:i=wn.toNat:=by omega
     repeat' with_reducible (first|refine ZR.h ?_|refine zI ?_|((first|refine zK hE ?_|refine zM hE ?_);intro K hK;simp[hiI];(repeat' (first|refine hK _ _ ?_|apply And.intro|(intro hc;try subst hc)))<;>(try clear hK K))|(refine zJ (fun hc=>?_) (fun hc=>?_)<;>simp at hc<;>(try subst hc)))
     all_goals (try simp)
     all_goals (refine Imp.trans (t:=E44 a b c d e f g wn (zS wn.toNat) (zT wn.toNat) gf.toNat) (Imp.autoX [(1,some 2),(2,some 3),(3,some 4),(4,none)] (by kernel_rfl) ?_ ?_) ?_)
     all_goals first|(simp[E44,NLe,ZM,hT1,hT2,hT3,hT4,hie,NObj.none];done)|skip
     all_goals (refine Imp.trans (Imp.absorb (.top 0) 0 7 1 (by rfl) (by rfl) (by rfl) (.inl ⟨0,5,zS wn.toNat,by rw[hl1],by rfl⟩) (by simp)) ?_)
     all_goals (refine Imp.trans (Imp.absorb (.top 0) 0 8 2 (by rfl) (by rfl) (by rfl) (.inl ⟨0,5,zT wn.toNat,by rw[hl2],by rfl⟩) (by simp)) ?_)
     all_goals (refine Imp.trans (Imp.absorb (.top 0) 0 9 3 (by rfl) (by rfl) (by rfl) (.inl ⟨0,1,jzL wn.toNat gf.toNat,by rw[Tc],by rfl⟩) (by simp)) ?_)
     all_goals (refine Imp.trans (Imp.absorb (.top 0) 0 11 4 (by rfl) (by rfl) (by rfl) (.inl ⟨0,14,[],by rfl,by rfl⟩) (by simp)) ?_)
     all_goals (simp only[E44,qC,hwn,hgfe];refine Imp.aut ?_ ?_<;>simp[NLe,ZM,hT1,hT2,hT3,hT4,XK,Yb])
  ·cases h
 ·cases h
theorem ZfY (W:WZ) (T:TZ):((Xk W T).2.s=W.s∨(Xk W T).2.s=W.s+1)∧(Xk W T).2.lg=W.lg∧(Xk W T).2.t=W.t:=by
 unfold Xk;split
 ·have:=Xo W T.x T.wx (YY (Za T.wx));exact ⟨this.1,this.2.1,this.2.2.1⟩
 ·simp
theorem Zhc (W:WZ) (T:TZ):((Xb W T).2.s=W.s∨(Xb W T).2.s=W.s+1)∧(Xb W T).2.lg.length≤W.lg.length+1∧(Xb W T).2.t=W.t:=by
 unfold Xb;have hf:=Xo W T.y T.wy (Zw (Za T.wy) (Zc T.tx T.ty (Za T.wx).l (Za T.wy).l).1 W.f).1
 repeat' split
 ·refine ⟨hf.1,?_,hf.2.2.1⟩
  simp only[Uk,hf.2.1,List.length_append,List.length_singleton];omega
 ·exact ⟨hf.1,by rw[hf.2.1];omega,hf.2.2.1⟩
 ·simp
 ·simp
theorem ZhA (W:WZ) (T:TZ):((Uh W T).2.s=W.s∨(Uh W T).2.s=W.s+1)∧(Uh W T).2.lg.length≤W.lg.length+1∧(Uh W T).2.t=W.t:=by
 unfold Uh;have hf:=Xo W T.x T.wx (Zf (Za T.wx) (XF T) W.f).1
 repeat' split
 ·refine ⟨hf.1,?_,hf.2.2.1⟩
  simp only[Uk,hf.2.1,List.length_append,List.length_singleton];omega
 ·exact ⟨hf.1,by rw[hf.2.1];omega,hf.2.2.1⟩
 ·exact ⟨hf.1,by rw[hf.2.1];omega,hf.2.2.1⟩
 ·simp
 ·simp
theorem Zal (W:WZ) (T:TZ):((Yw W T).s=W.s∨(Yw W T).s=W.s+1)∧(Yw W T).lg=W.lg∧(Yw W T).t=W.t:=by
 unfold Yw
 repeat' split
 all_goals first|exact Zcv _ _ _ _ _|simp
theorem Zgy (W:WZ) (T:TZ):((YH W T).2.s=W.s∨(YH W T).2.s=W.s+1)∧(YH W T).2.lg=W.lg∧(YH W T).2.t=W.t:=by
 unfold YH;split<;>simp[ZO]
theorem ZdI (W:WZ) (T:TZ):((ZP W T).2.s=W.s∨(ZP W T).2.s=W.s+1)∧(ZP W T).2.lg.length≤W.lg.length+1∧(ZP W T).2.t=W.t:=by
 have h1:=ZfY W T;have h2:=Zhc W T;have h3:=ZhA W T;have h4:=Zal W T;have h5:=Zgy W T;unfold ZP
 repeat' split
 all_goals first|exact h2|exact h3|exact ⟨h1.1,by rw[h1.2.1];omega,h1.2.2⟩ | exact ⟨h4.1,by simp only;rw[h4.2.1];omega,h4.2.2⟩ | exact ⟨h5.1,by rw[h5.2.1];omega,h5.2.2⟩ | (simp[ZO])
theorem yY (W:WZ) (T:TZ):((ZC W T).2.s=W.s∨(ZC W T).2.s=W.s+1)∧(ZC W T).2.lg.length≤W.lg.length+1∧(ZC W T).2.t=W.t:=by
 have h:=ZdI W T;unfold ZC
 repeat' split
 all_goals first|exact h|simp
theorem XL {T:TZ} (h:okT T=true) {T':TZ} (h1:0≤T'.pc∧T'.pc≤1000000) (h2:0≤T'.wx∧T'.wx<18446744073709551616) (h3:0≤T'.wy∧T'.wy<18446744073709551616) (h4:0≤T'.tx.pr∧T'.tx.pr≤1000000) (h5:0≤T'.ty.pr∧T'.ty.pr≤1000000) (h6:0≤T'.q∧T'.q≤1000000) (h7:0≤T'.p∧T'.p≤1000000) (h8:0≤T'.ta∧T'.ta≤1000000) (h9:0≤T'.en∧T'.en≤1000000) (h10:okS T'.nx=true) (h11:okS T'.ny=true):okT T'=true :=
 decide_eq_true ⟨h1.1,h1.2,h2.1,h2.2,h3.1,h3.2,h4.1,h4.2,h5.1,h5.2,h6.1,h6.2,h7.1,h7.2,h8.1,h8.2,h9.1,h9.2,h10,h11⟩
theorem ZhJ {W:WZ} {T:TZ} (hT:okT T=true) (hW:okW W=true) (hi:YD W T=false):okT (Xk W T).1=true:=by
 obtain ⟨hpc0,hpc1,hx0,hx1,hy0,hy1,htx0,htx1,hty0,hty1,hq0,hq1,hp0,hp1,hta0,hta1,hen0,hen1,hnx,hny⟩:=XM hT;obtain ⟨hX0,hX1,hY0,hY1,hAB⟩:=Y6 hW hi;obtain ⟨hcf,hw,hwl,hs0,ht0,ht1,hlg⟩:=Zl hW;unfold Xk;split
 ·refine XL hT ?_ ?_ ?_ ?_ ?_ ?_ ?_ ?_ ?_ ?_ ?_<;>first|assumption|exact ⟨by assumption,by assumption⟩
 ·exact hT
theorem Zh5 {W:WZ} {T:TZ} (hT:okT T=true) (hW:okW W=true) (hi:YD W T=false):okT (YH W T).1=true:=by
 obtain ⟨hpc0,hpc1,hx0,hx1,hy0,hy1,htx0,htx1,hty0,hty1,hq0,hq1,hp0,hp1,hta0,hta1,hen0,hen1,hnx,hny⟩:=XM hT;obtain ⟨hX0,hX1,hY0,hY1,hAB⟩:=Y6 hW hi;obtain ⟨hcf,hw,hwl,hs0,ht0,ht1,hlg⟩:=Zl hW;have sx:=ZcY hW hX0 hX1;unfold YH;split
 ·refine XL hT ?_ ?_ ?_ ?_ ?_ ?_ ?_ ?_ ?_ ?_ ?_<;>first|assumption|exact ⟨by assumption,by assumption⟩ | exact sx
 ·exact hT
theorem ZhZ {W:WZ} {T:TZ} (hT:okT T=true) (hW:okW W=true) (hi:YD W T=false):okT (Xb W T).1=true:=by
 obtain ⟨hpc0,hpc1,hx0,hx1,hy0,hy1,htx0,htx1,hty0,hty1,hq0,hq1,hp0,hp1,hta0,hta1,hen0,hen1,hnx,hny⟩:=XM hT;obtain ⟨hX0,hX1,hY0,hY1,hAB⟩:=Y6 hW hi;obtain ⟨hcf,hw,hwl,hs0,ht0,ht1,hlg⟩:=Zl hW;have rx:=stR T.wx;have ry:=stR T.wy;have hm:=ZaC htx0 htx1 hty0 hty1 (show (Za T.wx).l≤1000000 by omega) (show (Za T.wy).l≤1000000 by omega);have tk:=Zay T.wy (Zc T.tx T.ty (Za T.wx).l (Za T.wy).l).1 W.f;unfold Xb
 repeat' split
 ·refine XL hT ?_ ?_ ?_ ?_ ?_ ?_ ?_ ?_ ?_ ?_ ?_<;>first|assumption|exact ⟨by assumption,by assumption⟩ | exact ⟨hm.1,hm.2.1⟩ | exact ⟨hm.2.2.1,hm.2.2.2⟩ | exact tk
 ·refine XL hT ?_ ?_ ?_ ?_ ?_ ?_ ?_ ?_ ?_ ?_ ?_<;>first|assumption|exact ⟨by assumption,by assumption⟩ | exact ⟨hm.1,hm.2.1⟩ | exact ⟨hm.2.2.1,hm.2.2.2⟩ | exact tk
 ·refine XL hT ?_ ?_ ?_ ?_ ?_ ?_ ?_ ?_ ?_ ?_ ?_<;>first|assumption|exact ⟨by assumption,by assumption⟩ | exact ⟨hm.1,hm.2.1⟩ | exact ⟨hm.2.2.1,hm.2.2.2⟩ | exact tk
 ·exact hT
theorem let_T {W:WZ} {T:TZ} (hT:okT T=true) (hW:okW W=true) (hi:YD W T=false):okT (Uh W T).1=true:=by
 obtain ⟨hpc0,hpc1,hx0,hx1,hy0,hy1,htx0,htx1,hty0,hty1,hq0,hq1,hp0,hp1,hta0,hta1,hen0,hen1,hnx,hny⟩:=XM hT;obtain ⟨hX0,hX1,hY0,hY1,hAB⟩:=Y6 hW hi;obtain ⟨hcf,hw,hwl,hs0,ht0,ht1,hlg⟩:=Zl hW;have rl:=ZcR T.wx (XF T) W.f;unfold Uh;split
 ·split
  ·split
   ·refine XL hT ?_ ?_ ?_ ?_ ?_ ?_ ?_ ?_ ?_ ?_ ?_<;>first|assumption|exact ⟨by assumption,by assumption⟩ | exact rl
   ·exact hT
  ·exact hT
 ·exact hT
theorem Zir {W:WZ} {T:TZ} (hT:okT T=true) (hW:okW W=true) (hi:YD W T=false):okT (ZP W T).1=true:=by
 obtain ⟨hpc0,hpc1,hx0,hx1,hy0,hy1,htx0,htx1,hty0,hty1,hq0,hq1,hp0,hp1,hta0,hta1,hen0,hen1,hnx,hny⟩:=XM hT;obtain ⟨hX0,hX1,hY0,hY1,hAB⟩:=Y6 hW hi;obtain ⟨hcf,hw,hwl,hs0,ht0,ht1,hlg⟩:=Zl hW;have sx:=ZcY hW hX0 hX1;have sy:=ZcY hW hY0 hY1;have tx:=xX (tAt W T.x);have ty:=xX (tAt W T.y);unfold ZP
 repeat' split
 ·refine XL hT ?_ ?_ ?_ ?_ ?_ ?_ ?_ ?_ ?_ ?_ ?_<;>first|assumption|exact ⟨by assumption,by assumption⟩ | exact sx
 ·refine XL hT ?_ ?_ ?_ ?_ ?_ ?_ ?_ ?_ ?_ ?_ ?_<;>first|assumption|exact ⟨by assumption,by assumption⟩ | exact tx
 ·exact ZhJ hT hW hi
 ·refine XL hT ?_ ?_ ?_ ?_ ?_ ?_ ?_ ?_ ?_ ?_ ?_<;>first|assumption|exact ⟨by assumption,by assumption⟩ | exact sy
 ·refine XL hT ?_ ?_ ?_ ?_ ?_ ?_ ?_ ?_ ?_ ?_ ?_<;>first|assumption|exact ⟨by assumption,by assumption⟩ | exact ty
 ·exact ZhZ hT hW hi
 ·exact Zh5 hT hW hi
 ·exact let_T hT hW hi
 ·exact hT
theorem ZcB {W:WZ} {T:TZ} (hT:okT T=true) (hW:okW W=true):okT (ZC W T).1=true:=by
 obtain ⟨hpc0,hpc1,hx0,hx1,hy0,hy1,htx0,htx1,hty0,hty1,hq0,hq1,hp0,hp1,hta0,hta1,hen0,hen1,hnx,hny⟩:=XM hT;unfold ZC;split
 ·exact hT
 ·have hp:(0:Int)≤T.pc+1∧T.pc+1≤1000000:=by omega
  split
  ·exact XL hT hp ⟨hx0,hx1⟩ ⟨hy0,hy1⟩ ⟨htx0,htx1⟩ ⟨hty0,hty1⟩ ⟨hq0,hq1⟩ ⟨hp0,hp1⟩ ⟨hta0,hta1⟩ ⟨hen0,hen1⟩ hnx hny
  ·have h:=Zir hT hW (by simpa using ‹¬YD W T=true›)
   obtain ⟨hpc0,hpc1,hx0,hx1,hy0,hy1,htx0,htx1,hty0,hty1,hq0,hq1,hp0,hp1,hta0,hta1,hen0,hen1,hnx,hny⟩:=XM h;exact XL hT hp ⟨hx0,hx1⟩ ⟨hy0,hy1⟩ ⟨htx0,htx1⟩ ⟨hty0,hty1⟩ ⟨hq0,hq1⟩ ⟨hp0,hp1⟩ ⟨hta0,hta1⟩ ⟨hen0,hen1⟩ hnx hny
theorem ZdY (W:WZ) (T:TZ):(ZC W T).1.pc=if 14≤T.pc then T.pc else T.pc+1:=by
 unfold ZC;split
 ·rfl
 ·split<;>rfl
end Go.W
