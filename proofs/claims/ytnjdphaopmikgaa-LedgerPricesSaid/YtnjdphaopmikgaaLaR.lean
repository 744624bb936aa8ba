/- A ledger as an object: rows of rows, and prices of names. An array that a cell owns comes to stand by itself, named by that cell. -/
import Derived.Test.YtnjdphaopmikgaaLrB
import Derived.Test.YtnjdphaopmikgaaLrN
import Derived.Test.YtnjdphaopmikgaaLqB
namespace Go.W
open Go.Proofs
set_option linter.unusedSimpArgs false
set_option linter.unusedVariables false
set_option maxHeartbeats 8000000
attribute [local simp] Yu lkp Ui prs Th prT ddL idL Yn U1 Ren Vz NObj.none ZZ
def r5C (r:R5):List AV:=[.int .i64 r.b,.int .i64 r.s,.int .i64 r.p,.int .i64 r.g,.int .i64 r.n]
def Zew:List AV→Option R5
 | [.int .i64 b,.int .i64 s,.int .i64 p,.int .i64 g,.int .i64 n]=>some ⟨b,s,p,g,n⟩
 | _=>none
theorem ZdE (r:R5):Zew (r5C r)=some r:=rfl
theorem ZcG {c:List AV} {r:R5} (h:Zew c=some r):c=r5C r:=by
 unfold Zew at h;split at h
 ·injection h with h;subst h;rfl
 ·cases h
def inC (x:Int):List AV:=[.int .i64 x]
def xM:List AV→Option Int
 | [.int .i64 x]=>some x
 | _=>none
theorem Zal (x:Int):xM (inC x)=some x:=rfl
theorem Uy {c:List AV} {x:Int} (h:xM c=some x):c=inC x:=by
 unfold xM at h;split at h
 ·injection h with h;subst h;rfl
 ·cases h
def zp (l:List R5):List (List AV):=l.map r5C
def ZY (l:List Int):List (List AV):=l.map inC
def rwC (l:List R5):List AV:=[.os 0 5 (zp l)]
def lsC (l:List Int):List AV:=[.os 0 1 (ZY l)]
def Zds:List AV→Option (List R5)
 | [.os t 5 els]=>if t=0 then Xm Zew els else none
 | _=>none
def Zdp:List AV→Option (List Int)
 | [.os t 1 els]=>if t=0 then Xm xM els else none
 | _=>none
theorem Zdz (l:List R5):Zds (rwC l)=some l:=by
 unfold Zds rwC zp;simp only[if_true];exact Zv (f:=Zew) (g:=r5C) ZdE l
theorem Zey (l:List Int):Zdp (lsC l)=some l:=by
 unfold Zdp lsC ZY;simp only[if_true];exact Zv (f:=xM) (g:=inC) Zal l
theorem Zci {c:List AV} {l:List R5} (h:Zds c=some l):c=rwC l:=by
 unfold Zds at h;split at h
 ·split at h
  ·rename_i ht
   subst ht;rw[ZI (g:=r5C) (fun _ _=>ZcG) h];rfl
  ·cases h
 ·cases h
theorem ZcL {c:List AV} {l:List Int} (h:Zdp c=some l):c=lsC l:=by
 unfold Zdp at h;split at h
 ·split at h
  ·rename_i ht
   subst ht;rw[ZI (g:=inC) (fun _ _=>Uy) h];rfl
  ·cases h
 ·cases h
def Vb (R:List (List R5)):List (List AV):=R.map rwC
def YY (Q:List (List Int)):List (List AV):=Q.map lsC
theorem zz (l:List R5):Xc (zp l)=zp l:=(ZV (fun o=>by simp[r5C,t0L,AV.t0]) (fun o=>by simp[r5C,clL,AV.cl]) l).1
theorem zV (l:List R5):VW (zp l)=true:=(ZV (fun o=>by simp[r5C,t0L,AV.t0]) (fun o=>by simp[r5C,clL,AV.cl]) l).2
theorem r5_tl (n:Nat) (l:List R5):V4 n (zp l)=true:=Ve (fun o=>by simp[r5C,tlL,AV.tl]) l
theorem YT (l:List Int):Xc (ZY l)=ZY l:=(ZV (fun o=>by simp[inC,t0L,AV.t0]) (fun o=>by simp[inC,clL,AV.cl]) l).1
theorem YV (l:List Int):VW (ZY l)=true:=(ZV (fun o=>by simp[inC,t0L,AV.t0]) (fun o=>by simp[inC,clL,AV.cl]) l).2
theorem Zc0 (n:Nat) (l:List Int):V4 n (ZY l)=true:=Ve (fun o=>by simp[inC,tlL,AV.tl]) l
theorem Ub (l:List (List R5)):Xc (Vb l)=Vb l:=(ZV (fun o=>by simp[rwC,t0L,AV.t0,zz]) (fun o=>by simp[rwC,clL,AV.cl,zV]) l).1
theorem V8 (l:List (List R5)):VW (Vb l)=true:=(ZV (fun o=>by simp[rwC,t0L,AV.t0,zz]) (fun o=>by simp[rwC,clL,AV.cl,zV]) l).2
theorem rw_tl {n:Nat} (h:0<n) (l:List (List R5)):V4 n (Vb l)=true:=Ve (fun o=>by simp[rwC,tlL,AV.tl,r5_tl,h]) l
theorem UZ (l:List (List Int)):Xc (YY l)=YY l:=(ZV (fun o=>by simp[lsC,t0L,AV.t0,YT]) (fun o=>by simp[lsC,clL,AV.cl,YV]) l).1
theorem UI (l:List (List Int)):VW (YY l)=true:=(ZV (fun o=>by simp[lsC,t0L,AV.t0,YT]) (fun o=>by simp[lsC,clL,AV.cl,YV]) l).2
theorem ls_tl {n:Nat} (h:0<n) (l:List (List Int)):V4 n (YY l)=true:=Ve (fun o=>by simp[lsC,tlL,AV.tl,Zc0,h]) l
theorem yr (L:List R5):(zp L).length=L.length:=List.length_map ..
theorem X7 (L:List Int):(ZY L).length=L.length:=List.length_map ..
theorem XE (L:List (List R5)):(Vb L).length=L.length:=List.length_map ..
theorem X6 (L:List (List Int)):(YY L).length=L.length:=List.length_map ..
theorem yu {α:Type} {g:α→List AV} {L:List α} {k:Nat} {x:α} (h:L[k]?=some x):(L.map g)[k]?=some (g x)∧∀ hk,(L.map g)[k]'hk=g x:=by
 have e:(L.map g)[k]?=some (g x):=by rw[List.getElem?_map,h];rfl
 exact ⟨e,fun hk=>by rw[List.getElem?_eq_getElem hk]at e;exact Option.some.inj e⟩
theorem ZcJ {L:List R5} {k:Nat} {x:R5} (h:L[k]?=some x):(zp L)[k]?=some (r5C x)∧∀ hk,(zp L)[k]'hk=r5C x:=yu h
theorem ya {L:List Int} {k:Nat} {x:Int} (h:L[k]?=some x):(ZY L)[k]?=some (inC x)∧∀ hk,(ZY L)[k]'hk=inC x:=yu h
theorem Zde {L:List (List R5)} {k:Nat} {x:List R5} (h:L[k]?=some x):(Vb L)[k]?=some (rwC x)∧∀ hk,(Vb L)[k]'hk=rwC x:=yu h
theorem Zdu {L:List (List Int)} {k:Nat} {x:List Int} (h:L[k]?=some x):(YY L)[k]?=some (lsC x)∧∀ hk,(YY L)[k]'hk=lsC x:=yu h
theorem Zb4 (L:List R5) (k:Nat) (x:R5):(zp L).set k (r5C x)=zp (L.set k x):=(List.map_set ..).symm
theorem ZbW (L:List (List R5)) (k:Nat) (x:List R5):(Vb L).set k (rwC x)=Vb (L.set k x):=(List.map_set ..).symm
theorem ZdV (L:List (List Int)) (k:Nat) (x:List Int):(YY L).set k (lsC x)=YY (L.set k x):=(List.map_set ..).symm
theorem Zb7 (L:List Int) (x:Int):ZY L++[inC x]=ZY (L++[x]):=by unfold ZY;rw[List.map_append];rfl
theorem Zem (L:List (List R5)) (x:List R5):Vb L++[rwC x]=Vb (L++[x]):=by unfold Vb;rw[List.map_append];rfl
theorem ZdH (L:List (List Int)) (x:List Int):YY L++[lsC x]=YY (L++[x]):=by unfold YY;rw[List.map_append];rfl
theorem ZdC (n:Nat) (x:R5):List.replicate n (r5C x)=zp (List.replicate n x):=by unfold zp;rw[List.map_replicate]
structure LgZ where
 a:Int
 b:Int
 c:Int
 d:Int
 e:Int
 f:Int
 g:Int
 rows:List (List R5)
 last:List (List Int)
def lgC (M:LgZ):List AV:=[.int .i64 M.a,.int .i64 M.b,.int .i64 M.c,.int .i64 M.d,.int .i64 M.e,.int .i64 M.f,.int .i64 M.g,.os 0 1 (Vb M.rows),.os 0 1 (YY M.last)]
def ZaM:List AV→Option LgZ
 | [.int .i64 a,.int .i64 b,.int .i64 c,.int .i64 d,.int .i64 e,.int .i64 f,.int .i64 g,.os t 1 rs,.os t2 1 ls]=>if t=0∧t2=0 then (match Xm Zds rs,Xm Zdp ls with
  | some R,some Q=>some ⟨a,b,c,d,e,f,g,R,Q⟩
  | _,_=>none) else none
 | _=>none
theorem X8 (M:LgZ):ZaM (lgC M)=some M:=by
 unfold ZaM lgC Vb YY;simp only[and_self,if_true];rw[Zv (f:=Zds) (g:=rwC) Zdz,Zv (f:=Zdp) (g:=lsC) Zey]
theorem Yv {c:List AV} {M:LgZ} (h:ZaM c=some M):c=lgC M:=by
 unfold ZaM at h;split at h
 ·split at h
  ·rename_i ht
   obtain ⟨rfl,rfl⟩:=ht;split at h
   ·rename_i hm1 hm2
    injection h with h;subst h;rw[ZI (g:=rwC) (fun _ _=>Zci) hm1,ZI (g:=lsC) (fun _ _=>ZcL) hm2];rfl
   ·cases h
  ·cases h
 ·cases h
theorem Uu (M:LgZ):t0L (lgC M)=lgC M:=by simp[lgC,t0L,AV.t0,Ub,UZ]
theorem UG (M:LgZ):clL (lgC M)=true:=by simp[lgC,clL,AV.cl,V8,UI]
theorem T1 (M:LgZ) (φ:Uh):Yn φ (lgC M) (lgC M):=by simp[lgC,Ub,V8,UZ,UI]
attribute [local irreducible] Wm
theorem ZdW {L:List (List R5)} {k:Nat} (h:L.length=k) (r:List AV):(Vb L++[r])[k]?=some r:=by
 rw[← h,← XE L];simp
theorem Zes {L:List (List R5)} {k:Nat} (h:L.length=k) (r:List AV) (x:List R5):(Vb L++[r]).set k [.os 0 5 (zp x)]=Vb (L++[x]):=by
 rw[← Zem,← h,← XE L,List.set_append_right _ _ (Nat.le_refl _)];simp[rwC]
theorem Zez {L:List (List Int)} {k:Nat} (h:L.length=k) (r:List AV):(YY L++[r])[k]?=some r:=by
 rw[← h,← X6 L];simp
theorem Zeg {L:List (List Int)} {k:Nat} (h:L.length=k) (r:List AV) (x:List Int):(YY L++[r]).set k [.os 0 1 (ZY x)]=YY (L++[x]):=by
 rw[← ZdH,← h,← X6 L,List.set_append_right _ _ (Nat.le_refl _)];simp[lsC]
theorem Zaj (φ:Uh) (a b:List AV):∀ Q:List (List Int),ZZ φ (YY Q++[a]) (YY Q++[b])↔Yn φ a b
 | []=>by simp[YY]
 | q :: Q=>by
  have h:=Zaj φ a b Q;have e:∀ r:List AV,YY (q :: Q)++[r]=lsC q :: (YY Q++[r]):=fun _=>rfl;rw[e,e];show Yn φ (lsC q) (lsC q)∧_↔_;rw[h];simp[lsC,YT,YV]
def eRw (N k:Nat):List (List R5):=List.replicate k (List.replicate N z5)
def eLs (k:Nat):List (List Int):=List.replicate k []
theorem eRw_s (N k:Nat):eRw N (k+1)=eRw N k++[List.replicate N z5]:=by unfold eRw;rw[List.replicate_succ']
theorem eLs_s (k:Nat):eLs (k+1)=eLs k++[[]]:=by unfold eLs;rw[List.replicate_succ']
theorem ZaZ (N k:Nat):(eRw N k).length=k:=List.length_replicate ..
theorem ZbB (k:Nat):(eLs k).length=k:=List.length_replicate ..
def A19 (P N:Nat) (b d e f g:Int):St:=⟨[(1,.ptr (.top 1) 0 0),(3,.ptr (.top 0) 0 0),(9,.int .i64 P),(10,.int .i64 0)],[(0,.cells 0 [.int .i64 (P:Int),.int .i64 b,.int .i64 (N:Int),.int .i64 d,.int .i64 e,.int .i64 f,.int .i64 g,.sl (.top 2) 0 0,.sl (.top 3) 0 0]),(1,.cells 0 [.int .i64 (P:Int),.int .i64 b,.int .i64 (N:Int),.int .i64 d,.int .i64 e,.int .i64 f,.int .i64 g]),(2,.arr 0 1 []),(3,.arr 0 1 [])],4⟩
def I19 (P N:Nat) (b d e f g:Int) (k:Nat):St:=⟨[(1,.ptr (.top 1) 0 0),(3,.ptr (.top 0) 0 0),(9,.int .i64 P),(10,.int .i64 k)],[(0,.cells 0 [.int .i64 (P:Int),.int .i64 b,.int .i64 (N:Int),.int .i64 d,.int .i64 e,.int .i64 f,.int .i64 g,.os 0 1 (Vb (eRw N k)),.os 0 1 []]),(1,.cells 0 [.int .i64 (P:Int),.int .i64 b,.int .i64 (N:Int),.int .i64 d,.int .i64 e,.int .i64 f,.int .i64 g])],2⟩
def K19m (P N:Nat) (b d e f g:Int) (k:Nat):St:=⟨[(1,.ptr (.top 1) 0 0),(3,.ptr (.top 0) 0 0),(9,.int .i64 P),(10,.int .i64 ((k:Int)+1))],[(0,.cells 0 [.int .i64 (P:Int),.int .i64 b,.int .i64 (N:Int),.int .i64 d,.int .i64 e,.int .i64 f,.int .i64 g,.sl (.top 2) 0 (k+1),.os 0 1 []]),(1,.cells 0 [.int .i64 (P:Int),.int .i64 b,.int .i64 (N:Int),.int .i64 d,.int .i64 e,.int .i64 f,.int .i64 g]),(2,.arr 0 1 (Vb (eRw N (k+1))))],3⟩
def J19 (P N:Nat) (b d e f g:Int) (k:Nat):St:=⟨[(3,.ptr (.top 0) 0 0),(28,.int .i64 N),(29,.int .i64 k)],[(0,.cells 0 [.int .i64 (P:Int),.int .i64 b,.int .i64 (N:Int),.int .i64 d,.int .i64 e,.int .i64 f,.int .i64 g,.os 0 1 (Vb (eRw N P)),.os 0 1 (YY (eLs k))])],1⟩
def B19 (P N:Nat) (b d e f g:Int) (k:Nat):St:=⟨[(3,.ptr (.top 0) 0 0),(28,.int .i64 N),(29,.int .i64 ((k:Int)+1))],[(0,.cells 0 [.int .i64 (P:Int),.int .i64 b,.int .i64 (N:Int),.int .i64 d,.int .i64 e,.int .i64 f,.int .i64 g,.os 0 1 (Vb (eRw N P)),.sl (.top 1) 0 (k+1)]),(1,.arr 0 1 (YY (eLs k)++[[.sl (.top 2) 0 0]])),(2,.arr 0 1 [])],3⟩
def E19 (P N:Nat) (b d e f g:Int) (k:Nat):St:=⟨[(3,.ptr (.top 0) 0 0),(28,.int .i64 N),(29,.int .i64 ((k:Int)+1))],[(0,.cells 0 [.int .i64 (P:Int),.int .i64 b,.int .i64 (N:Int),.int .i64 d,.int .i64 e,.int .i64 f,.int .i64 g,.os 0 1 (Vb (eRw N P)),.sl (.top 1) 0 (k+1)]),(1,.arr 0 1 (YY (eLs (k+1))))],2⟩
def d19:List AV→Option Ans
 | [.agg [.int .i64 a,.int .i64 b,.int .i64 c,.int .i64 d,.int .i64 e,.int .i64 f,.int .i64 g]]=>if 0≤a∧a≤1000∧0≤c∧c≤1000 then some ⟨.op 0 (lgC ⟨a,b,c,d,e,f,g,eRw c.toNat a.toNat,eLs c.toNat⟩),[]⟩ else none
 | _=>none
theorem ok19:NOk [] d19:=by
 intro xs a h;unfold d19 at h
 (repeat' (split at h))<;>first|(cases h;done)|(injection h with h;subst h;refine ⟨Zz ?_,?_⟩<;>simp[Uu,UG])
theorem s19:Sound Try.prog 19 (Zw [] d19 ok19):=by
 refine Zm C19.a C19.b C19.c C19.d ok19 (fun xs a h=>?_) fun xs a h w0 S hS=>?_
 ·unfold d19 at h
  (repeat' (split at h))<;>first|(cases h;done)|exact Nat.le_of_ble_eq_true rfl
 unfold d19 at h;split at h
 ·split at h
  ·rename_i a b c d e f g hcond
   injection h with h;subst h;have hE:Zd Try.prog (EL []):=Zf (by simp);obtain ⟨P,rfl⟩:∃ P:Nat,a=(P:Int):=⟨a.toNat,by omega⟩;obtain ⟨N,rfl⟩:∃ N:Nat,c=(N:Int):=⟨c.toNat,by omega⟩;have hP:P≤1000:=(by omega);have hN:N≤1000:=(by omega);simp only[lgC,Int.toNat_natCast];unfold m19
   repeat' with_reducible (first|refine ZR.h ?_|refine zI ?_|((first|refine zK hE ?_|refine zM hE ?_);intro K hK;simp;(repeat' (first|refine hK _ _ ?_|apply And.intro|(intro hc;try subst hc)))<;>(try clear hK K))|(refine zJ (fun hc=>?_) (fun hc=>?_)<;>simp at hc<;>(try subst hc)))
   all_goals refine Z4 (fun k=>I19 P N b d e f g k) (fun k=>k≤P) (fun k=>P - k) 0 (Nat.zero_le _) ?_ ?_
   ·rw[hS]
    refine Imp.trans (t:=A19 P N b d e f g) (Imp.autoX [(2,none),(3,none)] (by kernel_rfl) ?_ ?_) ?_
    all_goals first|(simp[A19,NLe,Zg];done)|skip
    refine Imp.trans (Imp.absorb (.top 0) 0 7 2 (by rfl) (by rfl) (by rfl) (.inl ⟨0,1,[],by rfl,by rfl⟩) (by simp)) ?_;refine Imp.trans (Imp.absorb (.top 0) 0 8 3 (by rfl) (by rfl) (by rfl) (.inl ⟨0,1,[],by rfl,by rfl⟩) (by simp)) ?_;simp only[I19,eRw,List.replicate_zero,Vb,List.map_nil];refine Imp.aut ?_ ?_<;>simp[NLe,Zg,A19,Z5,Zx]
   intro k hk;replace hk:k≤P:=hk;have ht0:=Ub (eRw N k);have htc:=V8 (eRw N k);have hLk:(Vb (eRw N k)).length=k:=(by rw[XE,ZaZ]);by_cases hkn:k<P
   ·have ww:IntKind.wrap .i64 ((k:Int)+1)=(k:Int)+1:=Zh (by omega) (by omega)
    have hsucc:=eRw_s N k;have habs:=fun r=>Zes (ZaZ N k) r (List.replicate N z5);rw[← hsucc]at habs;have hget:=fun r=>ZdW (ZaZ N k) r;have ht0':=Ub (eRw N (k+1));have htc':=V8 (eRw N (k+1));have hz:List.replicate N [AV.int .i64 0,.int .i64 0,.int .i64 0,.int .i64 0,.int .i64 0]=zp (List.replicate N z5):=ZdC N z5;have hz2:=zz (List.replicate N z5);have hz3:=zV (List.replicate N z5);have hzl:(zp (List.replicate N z5)).length=N:=(by rw[yr,List.length_replicate]);have htl:∀ q,0<q→V4 q (Vb (eRw N k))=true:=fun q hq=>rw_tl hq _;have hb1:(k+1)*24≤140737488355328:=(by omega);have hb2:k+1≤9223372036854775807:=(by omega);have hb3:k≤9223372036854775806:=(by omega);have hb4:N*40≤140737488355328:=(by omega);have hb5:N≤9223372036854775807:=(by omega);have hb6:(N:Int)*40≤140737488355328:=(by omega);have hb7:(N:Int)≤9223372036854775807:=(by omega);have hN0:¬ ((N:Int)<0):=(by omega);simp only[I19]
    repeat' with_reducible (first|refine ZR.h ?_|refine zI ?_|((first|refine zK hE ?_|refine zM hE ?_);intro K hK;simp[hLk,ht0,htc,hkn,ww,hz,hz2,hz3,hzl,htl,hb1,hb2,hb3,hb4,hb5,hb6,hb7,hN0];(repeat' (first|refine hK _ _ ?_|apply And.intro|(intro hc;try subst hc)))<;>(try clear hK K))|(refine zJ (fun hc=>?_) (fun hc=>?_)<;>simp at hc<;>(try subst hc)))
    all_goals first|omega|skip
    all_goals refine ⟨k+1,hkn,Nat.sub_lt_sub_left hkn (Nat.lt_succ_self k),?_⟩
    all_goals rw[hS]
    all_goals (refine Imp.trans (Imp.absorb (.top 90) k 0 74 (by rfl) (hget _) (by rfl) (.inl ⟨0,5,zp (List.replicate N z5),by simp[hzl],by rfl⟩) (by simp)) ?_)
    all_goals (refine Imp.trans (t:=K19m P N b d e f g k) (Imp.autoX [(2,some 90)] (by kernel_rfl) ?_ ?_) ?_)
    all_goals first|(simp[K19m,NLe,Zg,Z5,Zx,hget,habs,ht0',htc',hz2,hz3];done)|skip
    all_goals (refine Imp.trans (Imp.absorb (.top 0) 0 7 2 (by rfl) (by rfl) (by rfl) (.inl ⟨0,1,Vb (eRw N (k+1)),by simp[XE,ZaZ],by rfl⟩) (by simp)) ?_)
    all_goals (simp only[I19,K19m])
    all_goals (refine Imp.aut ?_ ?_<;>simp[NLe,Zg,Z5,Zx,ht0',htc'])
   ·have hke:k=P:=by omega
    subst hke;simp only[I19]
    repeat' with_reducible (first|refine ZR.h ?_|refine zI ?_|((first|refine zK hE ?_|refine zM hE ?_);intro K hK;simp[hLk,ht0,htc];(repeat' (first|refine hK _ _ ?_|apply And.intro|(intro hc;try subst hc)))<;>(try clear hK K))|(refine zJ (fun hc=>?_) (fun hc=>?_)<;>simp at hc<;>(try subst hc)))
    all_goals refine Z4 (fun j=>J19 k N b d e f g j) (fun j=>j≤N) (fun j=>N - j) 0 (Nat.zero_le _) ?_ ?_
    ·rw[hS]
     simp only[J19,eLs,List.replicate_zero,YY,List.map_nil];refine Imp.aut ?_ ?_<;>simp[NLe,Zg,ht0,htc]
    intro j hj;replace hj:j≤N:=hj;have hu0:=UZ (eLs j);have huc:=UI (eLs j);have hLj:(YY (eLs j)).length=j:=(by rw[X6,ZbB]);by_cases hjn:j<N
    ·have ww:IntKind.wrap .i64 ((j:Int)+1)=(j:Int)+1:=Zh (by omega) (by omega)
     have hsucc:=eLs_s j;have habs:∀ r,(YY (eLs j)++[r]).set j [.os 0 1 []]=YY (eLs j++[[]]):=fun r=>Zeg (ZbB j) r [];rw[← hsucc]at habs;have hget:=fun r=>Zez (ZbB j) r;have hu0':=UZ (eLs (j+1));have huc':=UI (eLs (j+1));have htl:∀ q,0<q→V4 q (YY (eLs j))=true:=fun q hq=>ls_tl hq _;have hb1:(j+1)*24≤140737488355328:=(by omega);have hb2:j+1≤9223372036854775807:=(by omega);have hb3:j≤9223372036854775806:=(by omega);simp only[J19]
     repeat' with_reducible (first|refine ZR.h ?_|refine zI ?_|((first|refine zK hE ?_|refine zM hE ?_);intro K hK;simp[hLj,hu0,huc,ht0,htc,hjn,ww,htl,hb1,hb2,hb3];(repeat' (first|refine hK _ _ ?_|apply And.intro|(intro hc;try subst hc)))<;>(try clear hK K))|(refine zJ (fun hc=>?_) (fun hc=>?_)<;>simp at hc<;>(try subst hc)))
     all_goals first|omega|skip
     all_goals refine ⟨j+1,hjn,Nat.sub_lt_sub_left hjn (Nat.lt_succ_self j),?_⟩
     all_goals rw[hS]
     all_goals (refine Imp.trans (t:=B19 k N b d e f g j) (Imp.autoX [(1,some 57),(2,none)] (by kernel_rfl) ?_ ?_) ?_)
     all_goals first|(simp[B19,NLe,Zg,Zaj,hu0,huc,ht0,htc];done)|skip
     all_goals (refine Imp.trans (Imp.absorb (.top 1) j 0 2 (by rfl) (hget _) (by rfl) (.inl ⟨0,1,[],by rfl,by rfl⟩) (by simp)) ?_)
     all_goals (simp only[B19])
     all_goals (refine Imp.trans (t:=E19 k N b d e f g j) (Imp.autoX [(1,some 1)] (by kernel_rfl) ?_ ?_) ?_)
     all_goals first|(simp[E19,NLe,Zg,Z5,Zx,hget,habs,hu0',huc',ht0,htc];done)|skip
     all_goals (refine Imp.trans (Imp.absorb (.top 0) 0 8 1 (by rfl) (by rfl) (by rfl) (.inl ⟨0,1,YY (eLs (j+1)),by simp[X6,ZbB],by rfl⟩) (by simp)) ?_)
     all_goals (simp only[J19,E19])
     all_goals (refine Imp.aut ?_ ?_<;>simp[NLe,Zg,Z5,Zx,ht0,htc,hu0',huc'])
    ·have hje:j=N:=by omega
     subst hje;simp only[J19]
     repeat' with_reducible (first|refine ZR.h ?_|refine zI ?_|((first|refine zK hE ?_|refine zM hE ?_);intro K hK;simp[hLj,hu0,huc,ht0,htc];(repeat' (first|refine hK _ _ ?_|apply And.intro|(intro hc;try subst hc)))<;>(try clear hK K))|(refine zJ (fun hc=>?_) (fun hc=>?_)<;>simp at hc<;>(try subst hc)))
     all_goals ((try simp);refine Imp.aut ?_ ?_<;>simp[NLe,Zg,hu0,huc,ht0,htc])
  ·cases h
 ·cases h
end Go.W
namespace Go.W
set_option linter.unusedSimpArgs false
set_option linter.unusedVariables false
def rel (q:Nm) (nb:Nat):Nm→Nm
 | .top n=>if n=nb then q else .top n
 | .sub y t a b=>.sub (rel q nb y) t a b
theorem Zcb {q:Nm} {nb:Nat}:∀ {x:Nm},x.root=nb→x.mx≤max nb (rel q nb x).mx
 | .top n,h=>by simp only[Nm.root]at h;subst h;simp only[Nm.mx];omega
 | .sub y t a b,h=>by
  have:=Zcb (q:=q) (x:=y) h;simp only[rel,Nm.mx]at this⊢;omega
theorem XG {q:Nm} {nb:Nat}:∀ {x:Nm},x.root=nb→depth (rel q nb x)=depth q+depth x
 | .top n,h=>by simp only[Nm.root]at h;simp[rel,h,depth]
 | .sub y t a b,h=>by
  have:=XG (q:=q) (x:=y) h;simp only[rel,depth]at this⊢;omega
theorem zP {q:Nm} {nb:Nat}:∀ {x:Nm},x.root=nb→pre q (rel q nb x)
 | .top n,h=>by simp only[Nm.root]at h;simp only[rel,if_pos h];exact Yc _
 | .sub y t a b,h=>.inr (zP (x:=y) h)
theorem vq {q:Nm} {nb:Nat}:∀ {x x':Nm},x.root=nb→x'.root=nb→rel q nb x=rel q nb x'→x=x'
 | .top n,.top m,h,h',_=>by simp only[Nm.root]at h h';rw[h,h']
 | .top n,.sub y t a b,h,h',e=>by
  have:=congrArg depth e;rw[XG h,XG h']at this;simp only[depth]at this;omega
 | .sub y t a b,.top n,h,h',e=>by
  have:=congrArg depth e;rw[XG h,XG h']at this;simp only[depth]at this;omega
 | .sub y t a b,.sub y' t' a' b',h,h',e=>by
  simp only[rel,Nm.sub.injEq]at e;obtain ⟨e1,rfl,rfl,rfl⟩:=e;rw[vq (x:=y) (x':=y') h h' e1]
theorem xX {G G':NH} {q:Nm} {nb:Nat} (h0:G' nb=Za G q):∀ {x:Nm},x.root=nb→Za G' x=Za G (rel q nb x)
 | .top n,h=>by simp only[Nm.root]at h;subst h;simp only[rel,if_true,Za];exact h0
 | .sub y t a b,h=>by rw[Za,xX h0 (x:=y) h];rfl
def Up (G:NH) (nb:Nat) (p:Nm) (j f:Nat) (t sz:Nat) (els:List (List AV)):List (Nat×NObj):=[(nb,.arr t sz els),wr G p (Zu (Za G p) j f (.sl (.top nb) 0 els.length))]
section
variable {w0:World} {S:Sc} {N:Nat} {D:List Deferred} {s:St}
set_option maxHeartbeats 1000000 in
theorem SatS.release {a:Act} {w:World} (h:SatS w0 S N D s a w) (p:Nm) (j f:Nat) {c:List AV} {t sz:Nat} {els:List (List AV)} (hown:(Za (hk s.hl) p).own=true) (hc:Zc (Za (hk s.hl) p) j=some c) (hv:c[f]?=some (.os t sz els)) :
  SatS w0 S N D ⟨s.tl,U4 s.hl (Up (hk s.hl) s.nb p j f t sz els),s.nb+1⟩ a w:=by
 obtain ⟨Es,hs⟩:=h.sat
 generalize hG:hk s.hl=G at hs hown hc⊢
 generalize hG':hk (U4 s.hl (Up G s.nb p j f t sz els))=G'
 have hG2:G'=ZG G (Up G s.nb p j f t sz els):=by rw[← hG',UV,hG]
 have valid:∀ {x:Nm},Za G x≠.free→x.mx<s.nb:=fun {x} hx=>by
  rcases Nat.lt_or_ge x.mx s.nb with h|h
  ·exact h
  ·exact absurd (Zi.1 (hs.fr x h)) hx
 have hpm:p.mx<s.nb:=valid (VV hown)
 have hpr:p.root<s.nb:=Nat.lt_of_le_of_lt (YW p) hpm
 have hpne:p.root≠s.nb:=by omega
 generalize hq:Nm.sub p (Za G p).tag j f=q
 have hro:(Za G p).ro=false:=by cases hx:Za G p<;>rw[hx]at hown<;>simp_all [NObj.own,NObj.ro]
 have hqK:Za G q=.arr t sz els:=by
  rw[← hq,Za];unfold kid;rw[if_pos rfl,hc,hro];simp only[VU,hv,kidV]
  rfl
 have hqm:q.mx<s.nb:=valid (by rw[hqK];simp)
 have hqr:q.root=p.root:=by rw[← hq];rfl
 generalize hG1:upd G s.nb (.arr t sz els)=G1
 have g1:∀ {x:Nm},x.root≠s.nb→Za G1 x=Za G x:=fun {x} hx=>by rw[← hG1];exact Z8 hx
 generalize ho':Zu (Za G p) j f (.sl (.top s.nb) 0 els.length)=o'
 have hlike:Vi (Za G1 p) o':=by rw[g1 hpne,← ho'];exact Vg hown
 have hwr:wr G1 p o'=wr G p o':=VO (by rw[← hG1,Ze _ _ hpne])
 have e0:G'=upd G1 (wr G1 p o').1 (wr G1 p o').2:=by
  rw[hG2,hwr,← hG1,← ho'];rfl
 obtain ⟨a1,a2,a3⟩:=UJ G1 p o' hlike
 have hkd:∀ t' a b,kid o' t' a b=kid (Za G1 p) t' a b∨kid o' t' a b=.free:=fun t' a b=>by
  rw[g1 hpne,← ho'];by_cases e:(Za G p).tag=t'
  ·rw[← e,Y8 hown hc hv]
   split
   ·exact .inr rfl
   ·exact .inl rfl
  ·exact .inr (Z1 (by rw[Y0];exact e))
 have a4:=yl G1 p hlike hkd
 rw[← e0]at a1 a2 a3 a4
 have hnb:G' s.nb=Za G q:=by
  rw[hqK,e0,Ze _ _ (by rw[VM];exact fun e=>hpne e.symm),← hG1,Zj]
 have hrg:=fun (x:Nm) (hx:x.root=s.nb)=>xX (q:=q) hnb hx
 have hq':Za G' q=.free:=by
  rw[← hq,Za,a1,← ho',Y8 hown hc hv,if_pos ⟨rfl,rfl⟩]
  rfl
 have hbel:∀ {x:Nm},pre q x→Za G' x=.free:=fun {x} hx=>Y4 hq' hx
 let φ:Nm→Option Nm:=fun x=>if x.root=s.nb∧(Za G' x).isFree=false then some (rel q s.nb x) else none
 have φs:∀ {x y:Nm},φ x=some y→x.root=s.nb∧Za G' x≠.free∧y=rel q s.nb x:=fun {x y} hxy=>by
  by_cases e:x.root=s.nb∧(Za G' x).isFree=false
  ·have:φ x=some (rel q s.nb x):=if_pos e
   rw[this]at hxy;injection hxy with hxy;exact ⟨e.1,fun e2=>absurd e.2 (by rw[ZU.2 e2];simp),hxy.symm⟩
  ·have:φ x=none:=if_neg e
   rw[this]at hxy;cases hxy
 have φr:∀ {x:Nm},x.root=s.nb→Za G' x≠.free→φ x=some (rel q s.nb x):=fun {x} h1 h2=>if_pos ⟨h1,by
  cases e:(Za G' x).isFree with
  | true=>exact absurd (ZU.1 e) h2
  | false=>rfl⟩
 have φn:∀ {x:Nm},x.root≠s.nb→φ x=none:=fun {x} h1=>if_neg fun e=>h1 e.1
 have relok:∀ {x:Nm},x.root=s.nb→Za G' x≠.free→Za G (rel q s.nb x)≠.free∧(rel q s.nb x).mx<s.nb∧x.mx≤s.nb:=fun {x} h1 h2=>by
  have h3:Za G (rel q s.nb x)≠.free:=by rw[← hrg x h1];exact h2
  have h4:=valid h3;have h5:=Zcb (q:=q) h1;exact ⟨h3,h4,by omega⟩
 have other:∀ {x:Nm},x.root≠s.nb→x≠p→Za G' x≠.free→HF G' x=HF G x:=fun {x} h1 h2 h3=>by
  by_cases hpx:pre p x
  ·rcases a4 x hpx h2 with e|e
   ·unfold HF;rw[e,g1 h1]
   ·exact absurd e h3
  ·rw[a2 x hpx];unfold HF;rw[g1 h1]
 suffices hfin:∃ Es',Sat w0 S Es' (fun x:Nm=>s.nb+1≤x.mx) (lk s.tl) (HF G') a w by
  rw[← hG']at hfin;exact ⟨hfin,h.size,h.defers⟩
 refine ⟨_,hs.graft (G':=G') (U':=fun x:Nm=>s.nb+1≤x.mx) φ (fun x y hxy=>?_) (fun x hx=>by show s.nb≤x.mx;omega) (fun x hx=>?_) (fun x hx=>?_) (fun x x' hx hx' e=>?_)⟩
 ·obtain ⟨h1,h2,rfl⟩:=φs hxy
  obtain ⟨h3,h4,h5⟩:=relok h1 h2;refine ⟨?_,by omega,by omega,φn ?_⟩
  ·show s.nb≤x.mx
   have:=YW x;omega
  ·have:=YW (rel q s.nb x)
   omega
 ·have hx':Za G' x≠.free:=fun e=>hx (Zi.2 e)
  by_cases hr:x.root=s.nb
  ·obtain ⟨h3,h4,h5⟩:=relok hr hx'
   rw[φr hr hx',Option.getD_some];refine ⟨fun e=>h3 (Zi.1 e),fun ρ hρ hg=>?_⟩;have e1:HF G' x=flO x ((Za G (rel q s.nb x)).retag (Za G (rel q s.nb x)).tag):=by
    unfold HF;rw[hrg x hr];congr 1;cases Za G (rel q s.nb x)<;>rfl
   rw[e1];refine TG _ fun a b c v hc hv hp=>?_;have hk:Za G' (.sub x (Za G (rel q s.nb x)).tag a b)≠.free:=by
    rw[Za,hrg x hr];unfold kid;rw[if_pos rfl,hc];simp only[VU,hv];cases v<;>simp only[AV.plain,Bool.true_eq_false]at hp<;>simp only[kidV]<;>split<;>simp
   exact hg _ _ (φr (x:=.sub x (Za G (rel q s.nb x)).tag a b) hr hk)
  ·rw[φn hr,Option.getD_none]
   by_cases exp:x=p
   ·subst exp
    refine ⟨fun e=>VV hown (Zi.1 e),fun ρ hρ hg=>?_⟩;have hρq:ρ (.top s.nb)=ρ q:=by
     have:=hg (.top s.nb) q (by
      rw[φr (x:=.top s.nb) rfl (by rw[Za,hnb,hqK];simp)];simp[rel])
     exact this
    have e1:HF G' x=flO x (Zu (Za G x) j f (.sl (.top s.nb) 0 els.length)):=(by unfold HF;rw[a1,← ho']);have e2:HF G x=flO x (Za G x):=rfl;rw[e1,e2];have cell:∀ i d,Zc (Za G x) i=some d→CLe ρ ρ (flC x (Za G x).tag i d) (flC x (Za G x).tag i (if i=j then d.set f (.sl (.top s.nb) 0 els.length) else d)):=fun i d hd=>by
     refine ⟨by rw[Yl,Yl];split<;>simp only[List.length_set],fun b v' hv' => ?_⟩;rw[Yi]at hv'⊢;cases hdb:d[b]? with
     | none =>
      have hlt:=List.getElem?_eq_none_iff.1 hdb;rw[List.getElem?_eq_none (by split<;>simpa using hlt)]at hv';cases hv'
     | some u =>
      have hlt:=(List.getElem?_eq_some_iff.1 hdb).1;refine ⟨_,rfl,fun z hz=>?_⟩;by_cases hab:i=j∧b=f
      ·obtain ⟨rfl,rfl⟩:=hab
       rw[hc]at hd;injection hd with hd;subst hd;rw[hv]at hdb;injection hdb with hdb;subst hdb;rw[if_pos rfl,List.getElem?_set,if_pos rfl,if_pos hlt]at hv';simp only[Option.map_some,Option.some.injEq]at hv';subst hv';simp only[flV,Rep]at hz⊢;rw[hρq,← hq];exact hz
      ·have e3:(if i=j then d.set f (.sl (.top s.nb) 0 els.length) else d)[b]?=some u:=by
        split
        ·rename_i eij
         rw[List.getElem?_set,if_neg (fun e=>hab ⟨eij,e.symm⟩)];exact hdb
        ·exact hdb
       rw[e3]at hv';simp only[Option.map_some,Option.some.injEq]at hv';subst hv';exact hz
    cases ho:Za G x with
    | free=>rw[ho]at hown;cases hown
    | view t z l=>rw[ho]at hown;cases hown
    | cells t d =>
     rw[ho]at cell;have:=cell 0 d (by simp[Zc]);simp only[Zu,flO];refine .cells ?_;by_cases ej:j=0
     ·subst ej;rw[if_pos rfl]at this⊢;exact this
     ·rw[if_neg (fun e=>ej e.symm)]at this;rw[if_neg ej];exact this
    | arr t z l =>
     rw[ho]at cell hc;simp only[Zc]at hc;simp only[Zu,flO,List.length_set];refine .arr fun i hi=>?_;have:=cell i l[i] (by simp[Zc,hi]);rw[List.getD_eq_getElem?_getD,List.getD_eq_getElem?_getD,List.getD_eq_getElem?_getD,List.getElem?_eq_getElem hi,Option.getD_some,List.getElem?_set,hc,Option.getD_some];by_cases ej:j=i
     ·subst ej
      rw[if_pos rfl,if_pos hi,Option.getD_some];rw[if_pos rfl]at this;have e5:l[j]=c:=(by rw[List.getElem?_eq_getElem hi]at hc;injection hc);rw[e5]at this⊢;exact this
     ·rw[if_neg ej,List.getElem?_eq_getElem hi,Option.getD_some]
      rw[if_neg (fun e=>ej e.symm)]at this;exact this
   ·have:=other hr exp hx'
    rw[this]at hx⊢;exact ⟨hx,fun ρ _ _=>OLe.refl _ _⟩
 ·refine Zi.2 ?_
  by_cases e:Za G' x=.free
  ·exact e
  ·exfalso
   have hx:s.nb+1≤x.mx:=hx;by_cases hr:x.root=s.nb
   ·have:=(relok hr e).2.2
    omega
   ·by_cases exp:x=p
    ·subst exp;omega
    ·have h2:=other hr exp e
     have:Za G x≠.free:=fun h=>e (Zi.1 (by rw[h2];exact Zi.2 h));have:=valid this;omega
 ·have hx1:Za G' x≠.free:=fun e=>hx (Zi.2 e)
  have hx2:Za G' x'≠.free:=fun e=>hx' (Zi.2 e);by_cases r1:x.root=s.nb
  ·by_cases r2:x'.root=s.nb
   ·rw[φr r1 hx1,φr r2 hx2]at e
    exact vq r1 r2 e
   ·rw[φr r1 hx1,φn r2]at e
    simp only[Option.getD_some,Option.getD_none]at e;exact absurd (hbel (x:=x') (by rw[← e];exact zP r1)) hx2
  ·by_cases r2:x'.root=s.nb
   ·rw[φn r1,φr r2 hx2]at e
    simp only[Option.getD_some,Option.getD_none]at e;exact absurd (hbel (x:=x) (by rw[e];exact zP r2)) hx1
   ·rw[φn r1,φn r2]at e
    exact e
theorem Imp.release {m:Nat} (p:Nm) (j f:Nat) {c:List AV} {t sz:Nat} {els:List (List AV)} (hown:(Za (hk s.hl) p).own=true) (hc:Zc (Za (hk s.hl) p) j=some c) (hv:c[f]?=some (.os t sz els)) :
  Imp m s ⟨s.tl,U4 s.hl (Up (hk s.hl) s.nb p j f t sz els),s.nb+1⟩:=fun _ _ _ _ _ _ _ hs=>hs.release p j f hown hc hv
end
end Go.W
