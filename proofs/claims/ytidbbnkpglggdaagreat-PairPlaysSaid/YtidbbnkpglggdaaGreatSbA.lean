/- What stands in the words of a world with orders in its cells. Tries that mix: cancelling, the beginning and the end. The document's world tells what the program's words do. -/
import Derived.Test.YtidbbnkpglggdaaGreatPsO
import Derived.Test.YtidbbnkpglggdaaGreatPqI
import Derived.Test.YtidbbnkpglggdaaGreatPsV2
import Derived.Test.YtidbbnkpglggdaaGreatPyE
import Derived.Test.YtidbbnkpglggdaaGreatPyH
namespace Go.W
open Go.Proofs
set_option linter.unusedSimpArgs false
set_option linter.unusedVariables false
set_option maxHeartbeats 8000000
attribute [local irreducible] Wm
attribute [local simp] Y5 lkp VW prs Uv prT ddL idL YN Um Ren Vt NObj.none Z4
def stL (s:StZ):List AV:=[.int .i64 s.k,.bool s.fl,.int .i64 s.g,.int .i64 s.l,.int .i64 s.f]
def rcL (r:RcZ):List AV:=[.int .i64 r.k,.int .i64 r.q,.int .i64 r.p,.int .i64 r.t,.int .i64 r.c,.int .i64 r.g]
def stOf:List AV→Option StZ
 | [.int .i64 k,.bool fl,.int .i64 g,.int .i64 l,.int .i64 f]=>some ⟨k,fl,g,l,f⟩
 | _=>none
def tmOf:List AV→Option TmZ
 | [.int .i64 n,.int .i64 s,.int .i64 p,.int .i64 l,.int .i64 u]=>some ⟨n,s,p,l,u⟩
 | _=>none
def Zey:List AV→Option RcZ
 | [.int .i64 k,.int .i64 q,.int .i64 p,.int .i64 t,.int .i64 c,.int .i64 g]=>some ⟨k,q,p,t,c,g⟩
 | _=>none
theorem Zg1 {r:List AV} {s:StZ} (h:stOf r=some s):r=stL s:=by
 unfold stOf at h;split at h
 ·injection h with h;subst h;rfl
 ·cases h
theorem Zgk {r:List AV} {s:TmZ} (h:tmOf r=some s):r=tmC s:=by
 unfold tmOf at h;split at h
 ·injection h with h;subst h;rfl
 ·cases h
theorem Zf6 {r:List AV} {s:RcZ} (h:Zey r=some s):r=rcL s:=by
 unfold Zey at h;split at h
 ·injection h with h;subst h;rfl
 ·cases h
def Zdr {α:Type} (f:List AV→Option α):List (List AV)→Option (List α)
 | []=>some []
 | r :: l=>match f r,Zdr f l with
  | some x,some y=>some (x :: y)
  | _,_=>none
theorem UZ {α:Type} {f:List AV→Option α} {g:α→List AV} (h:∀ x,f (g x)=some x):∀ L:List α,Zdr f (L.map g)=some L
 | []=>rfl
 | x :: L=>by simp only[List.map_cons,Zdr,h x,UZ h L]
theorem zd {α:Type} {f:List AV→Option α} {g:α→List AV} (h:∀ r x,f r=some x→r=g x):∀ {l:List (List AV)} {L:List α},Zdr f l=some L→l=L.map g
 | [],L,e=>by injection e with e;subst e;rfl
 | r :: l,L,e=>by
  simp only[Zdr]at e;split at e
  ·rename_i x y h1 h2
   injection e with e;subst e;rw[h r x h1,zd h h2];rfl
  ·cases e
def sLL (L:List StZ):List (List AV):=L.map stL
def tLL (L:List TmZ):List (List AV):=L.map tmC
def rLL (L:List RcZ):List (List AV):=L.map rcL
def jrL (l:List RcZ):List AV:=[.os 0 6 (rLL l)]
def jLL (L:List (List RcZ)):List (List AV):=L.map jrL
def Zh3:List AV→Option (List RcZ)
 | [.os t 6 l]=>if t=0 then Zdr Zey l else none
 | _=>none
theorem ZhL (l:List RcZ):Zh3 (jrL l)=some l:=by
 show (if 0=0 then Zdr Zey (l.map rcL) else none)=_;rw[if_pos rfl];exact UZ (g:=rcL) (fun _=>rfl) l
theorem ZfJ (r:List AV) (l:List RcZ) (h:Zh3 r=some l):r=jrL l:=by
 unfold Zh3 at h;split at h
 ·split at h
  ·rename_i ht
   subst ht;rw[zd (g:=rcL) (fun _ _=>Zf6) h]
   rfl
  ·cases h
 ·cases h
structure QZ where
 a:Int
 b:Int
 c:Int
 d:Int
 e:Int
 f:Int
 g:Int
 S:List StZ
 T:List TmZ
 J:List (List RcZ)
 now:Int
 lg:List (List AV)
 u:Int
def qzC (Q:QZ):List AV:=[.int .i64 Q.a,.int .i64 Q.b,.int .i64 Q.c,.int .i64 Q.d,.int .i64 Q.e,.int .i64 Q.f,.int .i64 Q.g,.os 0 5 (sLL Q.S),.os 0 5 (tLL Q.T),.os 0 1 (jLL Q.J),.int .i64 Q.now,.os 0 14 Q.lg,.int .i64 Q.u]
def ZaZ:List AV→Option QZ
 | [.int .i64 a,.int .i64 b,.int .i64 c,.int .i64 d,.int .i64 e,.int .i64 f,.int .i64 g,.os t1 5 S,.os t2 5 T,.os t3 1 J,.int .i64 now,.os t4 14 lg,.int .i64 u]=>if t1=0∧t2=0∧t3=0∧t4=0 then (match Zdr stOf S,Zdr tmOf T,Zdr Zh3 J with
  | some S,some T,some J=>some ⟨a,b,c,d,e,f,g,S,T,J,now,lg,u⟩
  | _,_,_=>none) else none
 | _=>none
theorem Uq (Q:QZ):ZaZ (qzC Q)=some Q:=by
 unfold qzC ZaZ sLL tLL jLL;simp only[and_self,if_true];rw[UZ (f:=stOf) (g:=stL) (fun _=>rfl),UZ (f:=tmOf) (g:=tmC) (fun _=>rfl),UZ (f:=Zh3) (g:=jrL) ZhL]
theorem YI {c:List AV} {Q:QZ} (h:ZaZ c=some Q):c=qzC Q:=by
 unfold ZaZ at h;split at h
 ·split at h
  ·rename_i ht
   obtain ⟨rfl,rfl,rfl,rfl⟩:=ht;split at h
   ·rename_i h1 h2 h3
    injection h with h;subst h;rw[zd (g:=stL) (fun _ _=>Zg1) h1,zd (g:=tmC) (fun _ _=>Zgk) h2,zd (g:=jrL) ZfJ h3]
    rfl
   ·cases h
  ·cases h
 ·cases h
def okQ (Q:QZ):Bool:=decide (XX Q.a Q.b Q.c Q.d Q.e Q.f Q.g=true∧(Q.S.length:Int)=Q.a*Q.b∧(Q.T.length:Int)=Q.a*Q.b∧(Q.J.length:Int)=Q.a*Q.b∧(∀ l,l∈Q.J→(l.length:Int)=Q.g*(Q.f+1))∧0≤Q.now∧Q.now≤1000000∧Q.lg.all row14=true∧0≤Q.u)
theorem Zp {Q:QZ} (h:okQ Q=true):XX Q.a Q.b Q.c Q.d Q.e Q.f Q.g=true∧(Q.S.length:Int)=Q.a*Q.b∧(Q.T.length:Int)=Q.a*Q.b∧(Q.J.length:Int)=Q.a*Q.b∧(∀ l,l∈Q.J→(l.length:Int)=Q.g*(Q.f+1))∧0≤Q.now∧Q.now≤1000000∧Q.lg.all row14=true∧0≤Q.u:=of_decide_eq_true h
def smQ (Q:QZ):Bool:=decide (Q.u≤1000000∧Q.lg.length≤50000)
theorem XA {Q:QZ} (h:smQ Q=true):Q.u≤1000000∧Q.lg.length≤50000:=of_decide_eq_true h
theorem xL {α:Type} {g:α→List AV} (h:∀ x,t0L (g x)=g x):∀ L:List α,ZG (L.map g)=L.map g
 | []=>rfl
 | x :: L=>by show t0L (g x) :: ZG (L.map g)=_;rw[h x,xL h L];rfl
theorem vd {α:Type} {g:α→List AV} (h:∀ x,clL (g x)=true):∀ L:List α,Yp (L.map g)=true
 | []=>rfl
 | x :: L=>by show (clL (g x)&&Yp (L.map g))=true;rw[h x,vd h L];rfl
theorem Z7 (L:List StZ):ZG (sLL L)=sLL L:=xL (fun _=>by simp[stL,t0L,AV.t0]) L
theorem Z6 (L:List StZ):Yp (sLL L)=true:=vd (fun _=>by simp[stL,clL,AV.cl]) L
theorem Yd (L:List TmZ):ZG (tLL L)=tLL L:=xL (fun _=>by simp[tmC,t0L,AV.t0]) L
theorem Yc (L:List TmZ):Yp (tLL L)=true:=vd (fun _=>by simp[tmC,clL,AV.cl]) L
theorem ZdJ (L:List RcZ):ZG (rLL L)=rLL L:=xL (fun _=>by simp[rcL,t0L,AV.t0]) L
theorem ZfN (L:List RcZ):Yp (rLL L)=true:=vd (fun _=>by simp[rcL,clL,AV.cl]) L
theorem Z9 (L:List (List RcZ)):ZG (jLL L)=jLL L:=xL (fun l=>by simp[jrL,t0L,AV.t0,ZdJ]) L
theorem Ya (L:List (List RcZ)):Yp (jLL L)=true:=vd (fun l=>by simp[jrL,clL,AV.cl,ZfN]) L
theorem Tt {L:List StZ} {k:Nat} {x:StZ} (h:L[k]?=some x):(sLL L)[k]?=some (stL x):=by unfold sLL;rw[List.getElem?_map,h];rfl
theorem vW {L:List TmZ} {k:Nat} {x:TmZ} (h:L[k]?=some x):(tLL L)[k]?=some (tmC x):=by unfold tLL;rw[List.getElem?_map,h];rfl
theorem Zfe {L:List RcZ} {k:Nat} {x:RcZ} (h:L[k]?=some x):(rLL L)[k]?=some (rcL x):=by unfold rLL;rw[List.getElem?_map,h];rfl
theorem ZfG {L:List (List RcZ)} {k:Nat} {x:List RcZ} (h:L[k]?=some x):(jLL L)[k]?=some [.os 0 6 (rLL x)]:=by unfold jLL;rw[List.getElem?_map,h];rfl
theorem UF (L:List StZ):(sLL L).length=L.length:=List.length_map ..
theorem Zaz (L:List TmZ):(tLL L).length=L.length:=List.length_map ..
theorem Zfy (L:List RcZ):(rLL L).length=L.length:=List.length_map ..
theorem ZfC (L:List (List RcZ)):(jLL L).length=L.length:=List.length_map ..
theorem Zfv (L:List StZ) (k:Nat) (x:StZ):sLL (L.set k x)=(sLL L).set k (stL x):=List.map_set ..
theorem ZfD (L:List RcZ) (k:Nat) (x:RcZ):rLL (L.set k x)=(rLL L).set k (rcL x):=List.map_set ..
theorem Zic (L:List (List RcZ)) (k:Nat) (x:List RcZ):jLL (L.set k x)=(jLL L).set k [.os 0 6 (rLL x)]:=List.map_set ..
theorem YL {l:List (List AV)} {k:Nat} {r:List AV} (h:l[k]?=some r):∀ hk,l[k]'hk=r:=fun hk=>by rw[List.getElem?_eq_getElem hk]at h;exact Option.some.inj h
theorem Xc (Q:QZ) (h:Q.lg.all row14=true):t0L (qzC Q)=qzC Q:=by simp[qzC,t0L,AV.t0,Z7,Yd,Z9,ZF h]
theorem YK (Q:QZ) (h:Q.lg.all row14=true):clL (qzC Q)=true:=by simp[qzC,clL,AV.cl,Z6,Yc,Ya,ZE h]
def ZY (Q:QZ) (x:Int) (o s:StZ):Bool×QZ:=if Q.S[x.toNat]?=some o then (true,{ Q with S:=Q.S.set x.toNat s,u:=Q.u+1 }) else (false,{ Q with u:=Q.u+1 })
def VP (Q:QZ) (gn n:Int):Int:=(gn - 1)*(Q.f+1)+n
def Xm (Q:QZ) (x gn n:Int) (r:RcZ):QZ:={ Q with J:=Q.J.set x.toNat ((Q.J.getD x.toNat []).set (VP Q gn n).toNat r),u:=Q.u+1 }
def TK (Q:QZ) (k c g o w q p e:Int):QZ:={ Q with lg:=Q.lg++[evC k c g o w q p Q.now e] }
theorem YA {Q:QZ} (h:okQ Q=true) (x:Int) (o s:StZ):okQ (ZY Q x o s).2=true:=by
 obtain ⟨h1,h2,h3,h4,h5,h6,h7,h8,h9⟩:=Zp h;unfold ZY;split
 ·exact decide_eq_true ⟨h1,by simp only[List.length_set];exact h2,h3,h4,h5,h6,h7,h8,by show 0≤Q.u+1;omega⟩
 ·exact decide_eq_true ⟨h1,h2,h3,h4,h5,h6,h7,h8,by show 0≤Q.u+1;omega⟩
theorem VC {Q:QZ} (h:okQ Q=true) (x gn n:Int) (r:RcZ) (hx:x.toNat<Q.J.length):okQ (Xm Q x gn n r)=true:=by
 obtain ⟨h1,h2,h3,h4,h5,h6,h7,h8,h9⟩:=Zp h;refine decide_eq_true ⟨h1,h2,h3,by simp only[Xm,List.length_set];exact h4,fun l hl=>?_,h6,h7,h8,by show 0≤Q.u+1;omega⟩;rcases List.mem_or_eq_of_mem_set hl with h' | h'
 ·exact h5 l h'
 ·rw[h',List.length_set,List.getD_eq_getElem?_getD,List.getElem?_eq_getElem hx]
  exact h5 _ (List.getElem_mem hx)
theorem X1 {Q:QZ} (h:okQ Q=true) (k c g o w q p e:Int):okQ (TK Q k c g o w q p e)=true:=by
 obtain ⟨h1,h2,h3,h4,h5,h6,h7,h8,h9⟩:=Zp h;refine decide_eq_true ⟨h1,h2,h3,h4,h5,h6,h7,?_,h9⟩;simp only[TK,List.all_append,h8]
 rfl
theorem Zel {Q:QZ} (h:okQ Q=true) {x gn n:Int} (h0:0≤x) (h1:x<Q.a*Q.b) (g0:1≤gn) (g1:gn≤Q.g) (n0:0≤n) (n1:n≤Q.f):∃ l,Q.J[x.toNat]?=some l∧0≤VP Q gn n∧VP Q gn n<l.length∧VP Q gn n≤100:=by
 obtain ⟨k1,k2,k3,k4,k5,_⟩:=Zp h;have hc:=ZH k1;have hx:x.toNat<Q.J.length:=by omega
 refine ⟨_,List.getElem?_eq_getElem hx,?_,?_,?_⟩
 ·have:=Int.mul_nonneg (show 0≤gn - 1 by omega) (show 0≤Q.f+1 by omega)
  unfold VP;omega
 ·rw[k5 _ (List.getElem_mem hx)]
  have h1:=Int.mul_le_mul_of_nonneg_right (show gn - 1+1≤Q.g by omega) (show 0≤Q.f+1 by omega);rw[Int.add_mul,Int.one_mul]at h1;unfold VP;omega
 ·have h1:=Vf (show 0≤gn - 1 by omega) (show gn - 1≤14 by omega) (show 0≤Q.f+1 by omega) (show Q.f+1≤5 by omega)
  unfold VP;omega
def d61:List AV→Option Ans
 | [.op _ q,.int .i64 gn,.int .i64 n]=>(match ZaZ q with
  | some Q=>if okQ Q=true∧1≤gn∧gn≤Q.g∧0≤n∧n≤Q.f then some ⟨.int .i64 (VP Q gn n),[.free]⟩ else none
  | none=>none)
 | _=>none
theorem ok61:NOk [(13,false)] d61:=by
 intro xs aa h;unfold d61 at h;split at h
 ·skip
  split at h
  ·rename_i Q hQ
   split at h
   ·rename_i hc
    obtain rfl:=YI hQ;injection h with h;subst h;have hok:=hc.1;have hS0:=Z7 Q.S;have hS1:=Z6 Q.S;have hT0:=Yd Q.T;have hT1:=Yc Q.T;have hJ0:=Z9 Q.J;have hJ1:=Ya Q.J;obtain ⟨q1,q2,q3,q4,q5,q6,q7,q8,q9⟩:=Zp hok;have hL0:=ZF q8;have hL1:=ZE q8;refine ⟨Zq ?_,?_⟩<;>simp[qzC,hS0,hS1,hT0,hT1,hJ0,hJ1,hL0,hL1]
   ·cases h
  ·cases h
 ·cases h
theorem s61:Sound Tryz.prog 61 (Zi [(13,false)] d61 ok61):=by
 refine Zj C61.a C61.b C61.c C61.d ok61 (fun xs a h=>?_) fun xs a h w0 S hS=>?_
 ·unfold d61 at h
  (repeat' (split at h))<;>first|(cases h;done)|exact Nat.le_of_ble_eq_true rfl
 unfold d61 at h;split at h
 ·rename_i t1 q gn n
  split at h
  ·rename_i Q hQ
   split at h
   ·rename_i hcond
    obtain rfl:=YI hQ;injection h with h;subst h;clear hQ;have hE:Zb Tryz.prog (EL []):=Zd (by simp);obtain ⟨hok,g0,g1,n0,n1⟩:=hcond;have hS0:=Z7 Q.S;have hS1:=Z6 Q.S;have hT0:=Yd Q.T;have hT1:=Yc Q.T;have hJ0:=Z9 Q.J;have hJ1:=Ya Q.J;obtain ⟨q1,q2,q3,q4,q5,q6,q7,q8,q9⟩:=Zp hok;have hL0:=ZF q8;have hL1:=ZE q8;have hc:=ZH q1;have hm:=Vf (show 0≤gn - 1 by omega) (show gn - 1≤14 by omega) (show 0≤Q.f+1 by omega) (show Q.f+1≤5 by omega);have w1:IntKind.wrap .i64 (gn - 1)=gn - 1:=Zh (by omega) (by omega);have w2:IntKind.wrap .i64 (Q.f+1)=Q.f+1:=Zh (by omega) (by omega);have w3:IntKind.wrap .i64 ((gn - 1)*(Q.f+1))=(gn - 1)*(Q.f+1):=Zh (by omega) (by omega);have w4:IntKind.wrap .i64 ((gn - 1)*(Q.f+1)+n)=(gn - 1)*(Q.f+1)+n:=Zh (by omega) (by omega);simp only[qzC,VP]at hS⊢;unfold m61
    repeat' with_reducible (first|refine ZR.h ?_|refine zI ?_|(refine zK hE ?_;intro K hK;simp[hS0,hS1,hT0,hT1,hJ0,hJ1,hL0,hL1,w1,w2,w3,w4];(repeat' (first|refine hK _ _ ?_|apply And.intro|(intro hc;try subst hc)))<;>(try clear hK K))|(refine zJ (fun hc=>?_) (fun hc=>?_)<;>simp at hc<;>(try subst hc)))
    all_goals first|(simp;done)|(simp at *;omega)|((try simp[hS0,hS1,hT0,hT1,hJ0,hJ1,hL0,hL1,w1,w2,w3,w4]);refine Imp.aut ?_ ?_<;>simp[NLe,hS0,hS1,hT0,hT1,hJ0,hJ1,hL0,hL1,w1,w2,w3,w4])
   ·cases h
  ·cases h
 ·cases h
theorem e61 {Q:QZ} (h:okQ Q=true) {gn n:Int} (g0:1≤gn) (g1:gn≤Q.g) (n0:0≤n) (n1:n≤Q.f) (u:Nat):d61 [.op u (qzC Q),.int .i64 gn,.int .i64 n]=some ⟨.int .i64 (VP Q gn n),[.free]⟩:=by
 simp only[d61,Uq];rw[if_pos ⟨h,g0,g1,n0,n1⟩]
def d46:List AV→Option Ans
 | [.op _ q,.int .i64 x,.agg [.int .i64 k,.bool fl,.int .i64 sg,.int .i64 sl,.int .i64 sf],.agg [.int .i64 k',.bool fl',.int .i64 sg',.int .i64 sl',.int .i64 sf']]=>(match ZaZ q with
  | some Q=>if okQ Q=true∧smQ Q=true∧0≤x∧x<Q.a*Q.b then some ⟨.bool (ZY Q x ⟨k,fl,sg,sl,sf⟩ ⟨k',fl',sg',sl',sf'⟩).1,[.cells 0 (qzC (ZY Q x ⟨k,fl,sg,sl,sf⟩ ⟨k',fl',sg',sl',sf'⟩).2)]⟩ else none
  | none=>none)
 | _=>none
theorem ok46:NOk [(13,true)] d46:=by
 intro xs aa h;unfold d46 at h;split at h
 ·skip
  split at h
  ·rename_i Q hQ
   split at h
   ·rename_i hc
    obtain rfl:=YI hQ;injection h with h;subst h;have hok:=hc.1;have hS0:=Z7 Q.S;have hS1:=Z6 Q.S;have hT0:=Yd Q.T;have hT1:=Yc Q.T;have hJ0:=Z9 Q.J;have hJ1:=Ya Q.J;obtain ⟨q1,q2,q3,q4,q5,q6,q7,q8,q9⟩:=Zp hok;have hL0:=ZF q8;have hL1:=ZE q8;have hok2:=YA hok;refine ⟨Zq ?_,?_⟩
    ·simp[Xc Q q8,YK Q q8,YK _ (Zp (hok2 _ _ _)).2.2.2.2.2.2.2.1]
    ·simp
   ·cases h
  ·cases h
 ·cases h
theorem s46:Sound Tryz.prog 46 (Zi [(13,true)] d46 ok46):=by
 refine Zj C46.a C46.b C46.c C46.d ok46 (fun xs a h=>?_) fun xs a h w0 S hS=>?_
 ·unfold d46 at h
  (repeat' (split at h))<;>first|(cases h;done)|exact Nat.le_of_ble_eq_true rfl
 unfold d46 at h;split at h
 ·rename_i t1 q x k fl sg sl sf k2 fl2 sg2 sl2 sf2
  split at h
  ·rename_i Q hQ
   split at h
   ·rename_i hcond
    obtain rfl:=YI hQ;injection h with h;subst h;clear hQ;have hE:Zb Tryz.prog (EL []):=Zd (by simp);obtain ⟨hok,hsm,x0,x1⟩:=hcond;obtain ⟨z1,z2⟩:=XA hsm;have hS0:=Z7 Q.S;have hS1:=Z6 Q.S;have hT0:=Yd Q.T;have hT1:=Yc Q.T;have hJ0:=Z9 Q.J;have hJ1:=Ya Q.J;obtain ⟨q1,q2,q3,q4,q5,q6,q7,q8,q9⟩:=Zp hok;have hL0:=ZF q8;have hL1:=ZE q8;obtain ⟨X,rfl⟩:=Int.eq_ofNat_of_zero_le x0;have hX:X<Q.S.length:=(by omega);obtain ⟨s0,hs0⟩:∃ s0,Q.S[X]?=some s0:=⟨_,List.getElem?_eq_getElem hX⟩;have hg:=Tt hs0;have hge:=YL hg;have hgl:=UF Q.S;have w1:IntKind.wrap .i64 (Q.u+1)=Q.u+1:=Zh (by omega) (by omega);by_cases he:s0=⟨k,fl,sg,sl,sf⟩
    ·have ht:ZY Q (X:Int) ⟨k,fl,sg,sl,sf⟩ ⟨k2,fl2,sg2,sl2,sf2⟩=(true,{ Q with S:=Q.S.set X ⟨k2,fl2,sg2,sl2,sf2⟩,u:=Q.u+1 }):=by
      unfold ZY;rw[show (X:Int).toNat=X by omega,hs0,he,if_pos rfl]
     have hset:=Zfv Q.S X ⟨k2,fl2,sg2,sl2,sf2⟩;have hS2:=Z7 (Q.S.set X ⟨k2,fl2,sg2,sl2,sf2⟩);have hS3:=Z6 (Q.S.set X ⟨k2,fl2,sg2,sl2,sf2⟩);rw[hset]at hS2 hS3;rw[ht];subst he;simp only[stL]at hg hge hS2 hS3 hset;simp only[qzC,hset]at hS⊢;unfold m46
     repeat' with_reducible (first|refine ZR.h ?_|refine zI ?_|((first|refine zK hE ?_|refine zM hE ?_);intro K hK;simp[hS0,hS1,hT0,hT1,hJ0,hJ1,hL0,hL1,hg,hge,hgl,hX,w1,hS2,hS3];(repeat' (first|refine hK _ _ ?_|apply And.intro|(intro hc;try subst hc)))<;>(try clear hK K))|(refine zJ (fun hc=>?_) (fun hc=>?_)<;>simp at hc<;>(try subst hc)))
     all_goals first|(simp;done)|(simp at *;omega)|((try simp[hS0,hS1,hT0,hT1,hJ0,hJ1,hL0,hL1,hg,hge,hgl,hX,w1,hS2,hS3]);refine Imp.aut ?_ ?_<;>simp[NLe,hS0,hS1,hT0,hT1,hJ0,hJ1,hL0,hL1,hg,hge,hgl,hX,w1,hS2,hS3])
    ·have ht:ZY Q (X:Int) ⟨k,fl,sg,sl,sf⟩ ⟨k2,fl2,sg2,sl2,sf2⟩=(false,{ Q with u:=Q.u+1 }):=by
      unfold ZY;rw[show (X:Int).toNat=X by omega,hs0,if_neg (fun x=>he (Option.some.inj x))]
     obtain ⟨k1,fl1,sg1,sl1,sf1⟩:=s0;have hb:(decide (k1=k)&&((fl1 == fl)&&(decide (sg1=sg)&&(decide (sl1=sl)&&(decide (sf1=sf)&&true)))))=false:=by
      rw[Bool.eq_false_iff];intro h;simp only[Bool.and_eq_true,decide_eq_true_eq,beq_iff_eq,and_true]at h;exact he (by rw[h.1,h.2.1,h.2.2.1,h.2.2.2.1,h.2.2.2.2])
     have hb2:k1=k→fl1=fl→sg1=sg→sl1=sl→¬ sf1=sf:=fun a1 a2 a3 a4 a5=>he (by rw[a1,a2,a3,a4,a5]);rw[ht];simp only[stL]at hg hge;simp only[qzC]at hS⊢;unfold m46
     repeat' with_reducible (first|refine ZR.h ?_|refine zI ?_|((first|refine zK hE ?_|refine zM hE ?_);intro K hK;simp[hS0,hS1,hT0,hT1,hJ0,hJ1,hL0,hL1,hg,hge,hgl,hX,w1];(repeat' (first|refine hK _ _ ?_|apply And.intro|(intro hc;try subst hc)))<;>(try clear hK K))|(refine zJ (fun hc=>?_) (fun hc=>?_)<;>simp at hc<;>(try subst hc)))
     all_goals first|(simp;done)|(exfalso;exact hb2 hc.1 hc.2.1 hc.2.2.1 hc.2.2.2.1 hc.2.2.2.2)|((try simp[hS0,hS1,hT0,hT1,hJ0,hJ1,hL0,hL1,hg,hge,hgl,hX,w1]);refine Imp.aut ?_ ?_<;>simp[NLe,hS0,hS1,hT0,hT1,hJ0,hJ1,hL0,hL1,hg,hge,hgl,hX,w1])
   ·cases h
  ·cases h
 ·cases h
def bW (a b c d e f g:Int) (els ws:List (List AV)):WZ:=⟨a,b,c,d,e,f,g,ws,2*els.length,0,[]⟩
theorem Zhv (w x g y s:Int):okT (tz0 w x g y s)=true:=by
 unfold okT tz0 Zu okS;simp
theorem Ze7 {a b c d e f g:Int} {els ws S T:List (List AV)} (hcf:XX a b c d e f g=true) (he:els.all TJ=true) (h:ZK a b c d e f g els els.length=some (ws,S,T)):okW (bW a b c d e f g els ws)=true∧(bW a b c d e f g els ws).s≤48∧els.length≤24:=by
 obtain ⟨h1,h2,h3,_⟩:=XO hcf he _ _ _ _ (Nat.le_refl _) h;have hall:=ZJ hcf;exact ⟨decide_eq_true ⟨hcf,h2,h3,by simp only[bW];omega,Int.le_refl _,by simp[bW],rfl⟩,by simp only[bW];omega,by omega⟩
end Go.W
namespace Go.W
open Go.Proofs
set_option linter.unusedSimpArgs false
set_option linter.unusedVariables false
set_option maxHeartbeats 8000000
def Zes (f g:Int) (ws S T:List (List AV)) (i:Nat):Prop:=S[i]?=some (stL (Za (wAt ws (2*i))))∧T[i]?=some (tmC (Yg (wAt ws (2*i+1))))∧((Za (wAt ws (2*i))).k=2→goodZ f g (Za (wAt ws (2*i))))
theorem zF (n i:Nat):wAt (List.replicate n [.int .u64 0]) i=0:=by
 unfold wAt;rw[List.getElem?_replicate];split<;>simp_all
theorem vk {a b c f g:Int} {k:Nat} {kd sg sl sf nm sd pr le un:Int} {fl:Bool} {v u:Int} (h:okO a b c f g k [.int .i64 kd,.bool fl,.int .i64 sg,.int .i64 sl,.int .i64 sf,.int .i64 nm,.int .i64 sd,.int .i64 pr,.int .i64 le,.int .i64 un]=some (v,u)):ZN ⟨kd,fl,sg,sl,sf⟩=some v∧Ux ⟨nm,sd,pr,le,un⟩=some u∧1≤sg∧sg≤g∧1≤sl∧sf<f∧fl=false:=by
 simp only[okO]at h;split at h
 ·rename_i v' u' h1 h2
  by_cases hc:(k:Int)<a*b∧1≤sg∧sg≤g∧1≤sl∧sf<f∧(Zt kd=true∨5≤kd)∧fl=false∧YT c ⟨nm,sd,pr,le,un⟩ (if sl<le then le else sl) 0=0
  ·rw[if_pos hc]at h
   simp only[Option.some.injEq,Prod.mk.injEq]at h;obtain ⟨rfl,rfl⟩:=h;exact ⟨h1,h2,hc.2.1,hc.2.2.1,hc.2.2.2.1,hc.2.2.2.2.1,hc.2.2.2.2.2.2.1⟩
  ·rw[if_neg hc]at h;cases h
 ·cases h
theorem xj {a b c d e f g:Int} {els:List (List AV)} (hcf:XX a b c d e f g=true) (he:els.all TJ=true):∀ (k:Nat) (ws S T:List (List AV)),k≤els.length→ZK a b c d e f g els k=some (ws,S,T)→∀ i:Nat,(i:Int)<a*b→Zes f g ws S T i
 | 0,ws,S,T,_,h,i,hi=>by
  simp only[ZK,Option.some.injEq,Prod.mk.injEq]at h;obtain ⟨rfl,rfl,rfl⟩:=h;have e0:wAt (W0 a b c d e f g).ws (2*i)=0:=zF _ _;have e1:wAt (W0 a b c d e f g).ws (2*i+1)=0:=zF _ _;unfold Zes;rw[e0,e1];refine ⟨?_,?_,fun h=>?_⟩
  ·unfold zS;rw[List.getElem?_replicate,if_pos (by omega)];rfl
  ·unfold zT;rw[List.getElem?_replicate,if_pos (by omega)];rfl
  ·have:(Za 0).k=0:=by rfl
   omega
 | k+1,ws,S,T,hk,h,i,hi=>by
  simp only[ZK]at h;split at h
  ·cases h
  ·rename_i ws0 S0 T0 h0
   split at h
   ·cases h
   ·rename_i v u hO
    simp only[Option.some.injEq,Prod.mk.injEq]at h;obtain ⟨rfl,rfl,rfl⟩:=h;have hkl:k<els.length:=(by omega);have hrow:TJ (els.getD k [])=true:=by
     rw[List.getD_eq_getElem?_getD,List.getElem?_eq_getElem hkl];exact List.all_eq_true.1 he _ (List.getElem_mem hkl)
    have hkn:=(vb hrow hO).1;obtain ⟨i1,i2,i3,i4,i5⟩:=XO hcf he k ws0 S0 T0 (by omega) h0;have ih:=xj hcf he k ws0 S0 T0 (by omega) h0 i hi;obtain ⟨kd,fl,sg,sl,sf,nm,sd,pr,le,un,hoe,_⟩:=VN hrow;rw[hoe]at hO⊢;obtain ⟨hv,hu,g1,g2,g3,g4,g5⟩:=vk hO;obtain ⟨r1,r2,r3,r4,r5,r6,r7,r8,r9⟩:=UO hv;have rt:=ZdM hu;have hc:=ZH hcf;have hall:=ZJ hcf;have hwd:=Yl (f:=f) (g:=g) (show 0≤a*b by omega) hall.2 (by omega) (by omega);by_cases hik:i=k
    ·subst hik
     have e0:wAt ((ws0.set (2*i) [.int .u64 v]).set (2*i+1) [.int .u64 u]) (2*i)=v:=by
      rw[XC (by omega),z9 (by omega)]
     have e1:wAt ((ws0.set (2*i) [.int .u64 v]).set (2*i+1) [.int .u64 u]) (2*i+1)=u:=z9 (by rw[List.length_set];omega);unfold Zes;rw[e0,e1,r1,rt];refine ⟨?_,?_,fun h2=>?_⟩
     ·rw[List.getElem?_set_self (by rw[i4.1];omega)];rfl
     ·rw[List.getElem?_set_self (by rw[i5.1];omega)];rfl
     ·exact ⟨h2,g5,g1,g2,g3,r7,r8,g4⟩
    ·have e0:wAt ((ws0.set (2*k) [.int .u64 v]).set (2*k+1) [.int .u64 u]) (2*i)=wAt ws0 (2*i):=by
      rw[XC (by omega),XC (by omega)]
     have e1:wAt ((ws0.set (2*k) [.int .u64 v]).set (2*k+1) [.int .u64 u]) (2*i+1)=wAt ws0 (2*i+1):=by
      rw[XC (by omega),XC (by omega)]
     unfold Zes;rw[e0,e1,List.getElem?_set_ne (by omega),List.getElem?_set_ne (by omega)];exact ih
section
variable {B:WZ} {was:Int→Int} {W:WZ} {Ts:List TZ}
theorem Zft {W':WZ} (h:V0 B was W Ts) (ok:okW W'=true) (par:TD W'=TD W) (hst:∀ i:Int,0≤i→i<B.a*B.b→sAt W' i=sAt W i) (hlg:W'.lg=W.lg):V0 B was W' Ts:=by
 have h':=h;obtain ⟨s1,s2,s3,s4,s10⟩:=h;refine ⟨ok,par.trans s2,fun i i0 i1=>?_,by rw[hlg];exact s4,fun U hU=>?_⟩
 ·have e:stW W' i=stW W i:=by unfold stW;rw[hst i i0 i1]
  rw[e,hlg];exact s3 i i0 i1
 ·refine yy (s10 U hU) fun a=>?_
  have r:=U7 h' hU a;exact hst U.x r.2.2.2.2.1 r.2.2.2.2.2.1
theorem vZ (h:V0 B was W Ts):V0 B was (ZO W) Ts:=Zft h (Y8 h.1) rfl (fun _ _ _=>rfl) rfl
theorem ZdT {z:Int} {old:Int} (h:V0 B was W Ts) (z0:0≤z) (z1:z<B.a*B.b) (ho:old=sAt W z) (hfl:(stW W z).fl=false) (he:(Zn (stW W z)).2=0):V0 B was (Zs W z old (Zn (stW W z)).1).2 Ts:=by
 by_cases ht:(Zs W z old (Zn (stW W z)).1).1=true
 ·obtain ⟨t1,t2,t3⟩:=TR h.1 h.2.1 z0 z1 ht
  have hlg:=(Xo W z old (Zn (stW W z)).1).2.1;have h':=h;obtain ⟨s1,s2,s3,s4,s10⟩:=h;have hS:(Zn (stW W z)).1.l=(stW W z).l∧(Zn (stW W z)).1.f=(stW W z).f∧ZA (Zn (stW W z)).1.k=ZA (stW W z).k∧vr B.f (Zn (stW W z)).1∧(ZA (stW W z).k=true→(Zn (stW W z)).1.fl=true):=by
   have hC:=(s3 z z0 z1).1;obtain ⟨s,hs⟩:∃ s,stW W z=s:=⟨_,rfl⟩;rw[hs]at hC he hfl⊢;unfold Zn at he⊢;by_cases c1:s.k=1
   ·rw[if_pos c1]
    refine ⟨rfl,rfl,?_,⟨fun a=>by simp at a,fun a=>?_⟩,fun a=>?_⟩
    ·rw[c1];rfl
    ·replace a:s.fl=true:=a
     rw[hfl]at a;cases a
    ·rw[c1]at a;cases a
   rw[if_neg c1]at he⊢;by_cases c2:s.k=2
   ·rw[if_pos c2]
    refine ⟨rfl,rfl,?_,⟨fun a=>by simp at a,fun a=>?_⟩,fun a=>?_⟩
    ·rw[c2];rfl
    ·replace a:s.fl=true:=a
     rw[hfl]at a;cases a
    ·rw[c2]at a;cases a
   rw[if_neg c2]at he⊢;by_cases c3:s.k=3
   ·rw[if_pos c3]
    exact ⟨rfl,rfl,rfl,⟨hC.1,fun _=>by rw[c3];rfl⟩,fun _=>rfl⟩
   rw[if_neg c3]at he⊢;by_cases c4:s.k=4
   ·rw[if_pos c4]
    exact ⟨rfl,rfl,rfl,⟨hC.1,fun _=>by rw[c4];rfl⟩,fun _=>rfl⟩
   rw[if_neg c4]at he;simp at he
  refine ⟨Yi s1 _ _ _,(YE _ _ _ _).trans s2,fun i i0 i1=>?_,by rw[hlg];exact s4,fun U hU=>?_⟩
  ·rw[hlg]
   by_cases e:i=z
   ·have:=s3 i i0 i1
    rw[e]at this⊢;rw[t2,hS.1,hS.2.2.1];exact ⟨hS.2.2.2.1,this.2⟩
   ·rw[t3 i i0 e];exact s3 i i0 i1
  ·obtain ⟨h1,h2,h3,h4,h5,h6,h7,h8,h9⟩:=s10 U hU
   refine ⟨h1,h2,h3,h4,h5,h6,h7,h8,fun a b=>?_⟩;have hB:ZL U U.x=true:=(by simp[ZL,a,b]);obtain ⟨_,_,_,_,x0,x1,j1,j2,j3,j4,j5,j6,j7,j8,j9⟩:=U7 h' hU hB;by_cases e:U.x=z
   ·have hh:=zC h' x0 x1 hU hB
    have es:stW (Zs W z old (Zn (stW W z)).1).2 U.x=(Zn (stW W z)).1:=(by rw[e];exact t2);have hfl':=hS.2.2.2.2 (by rw[← e];exact hh);unfold ZaW;rw[es,hS.1,hS.2.1,← e];refine ⟨j1,j2,j3,j4,fun _=>.inr ?_,fun _=>?_,fun c=>?_,j8,j9⟩
    ·rw[e];exact hfl'
    ·rw[e];exact hfl'
    ·have:=(j7 c).1
     rw[e,hfl]at this;cases this
   ·have e2:=Ub (W:=W) (x:=z) (old:=old) (s:=(Zn (stW W z)).1) x0 z0 e
    have e3:stW (Zs W z old (Zn (stW W z)).1).2 U.x=stW W U.x:=t3 _ x0 e;unfold ZaW;rw[e2,e3];exact ⟨j1,j2,j3,j4,j5,j6,j7,j8,j9⟩
 ·have ht':(Zs W z old (Zn (stW W z)).1).1=false:=by simpa using ht
  have tf:=Uf ht';exact Zft h (Yi h.1 _ _ _) (YE _ _ _ _) (fun i _ _=>(ZbD tf.1 i).2.2) tf.2
end
def Ziq (F:Int) (s:StZ):Prop:=(s.k=1∨s.k=2→1≤s.l∧s.f<F)∧ZA s.k=false∧s.fl=false
theorem z4 {a b c d e f g:Int} {els:List (List AV)} (hcf:XX a b c d e f g=true) (he:els.all TJ=true):∀ (k:Nat) (ws S T:List (List AV)),k≤els.length→ZK a b c d e f g els k=some (ws,S,T)→∀ i:Nat,(i:Int)<a*b→Ziq f (Za (wAt ws (2*i)))
 | 0,ws,S,T,_,h,i,hi=>by
  simp only[ZK,Option.some.injEq,Prod.mk.injEq]at h;obtain ⟨rfl,rfl,rfl⟩:=h;have e0:wAt (W0 a b c d e f g).ws (2*i)=0:=zF _ _;rw[e0];have z0:Za 0=⟨0,false,0,0,0⟩:=by rfl
  rw[z0];exact ⟨fun h=>by simp at h,rfl,rfl⟩
 | k+1,ws,S,T,hk,h,i,hi=>by
  simp only[ZK]at h;split at h
  ·cases h
  ·rename_i ws0 S0 T0 h0
   split at h
   ·cases h
   ·rename_i v u hO
    simp only[Option.some.injEq,Prod.mk.injEq]at h;obtain ⟨rfl,rfl,rfl⟩:=h;have hkl:k<els.length:=(by omega);have hrow:TJ (els.getD k [])=true:=by
     rw[List.getD_eq_getElem?_getD,List.getElem?_eq_getElem hkl];exact List.all_eq_true.1 he _ (List.getElem_mem hkl)
    have hkn:=(vb hrow hO).1;obtain ⟨i1,i2,i3,i4,i5⟩:=XO hcf he k ws0 S0 T0 (by omega) h0;have ih:=z4 hcf he k ws0 S0 T0 (by omega) h0 i hi;obtain ⟨kd,fl,sg,sl,sf,nm,sd,pr,le,un,hoe,_⟩:=VN hrow;rw[hoe]at hO;obtain ⟨hv,hu,g1,g2,g3,g4,g5⟩:=vk hO;have hlo:Zt kd=true∨5≤kd:=by
     simp only[okO]at hO;split at hO
     ·rename_i v' u' h1 h2
      by_cases hc:(k:Int)<a*b∧1≤sg∧sg≤g∧1≤sl∧sf<f∧(Zt kd=true∨5≤kd)∧fl=false∧YT c ⟨nm,sd,pr,le,un⟩ (if sl<le then le else sl) 0=0
      ·exact hc.2.2.2.2.2.1
      ·rw[if_neg hc]at hO;cases hO
     ·cases hO
    obtain ⟨r1,_⟩:=UO hv;have hc:=ZH hcf;have hall:=ZJ hcf;have hwd:=Yl (f:=f) (g:=g) (show 0≤a*b by omega) hall.2 (by omega) (by omega);by_cases hik:i=k
    ·subst hik
     have e0:wAt ((ws0.set (2*i) [.int .u64 v]).set (2*i+1) [.int .u64 u]) (2*i)=v:=by
      rw[XC (by omega),z9 (by omega)]
     rw[e0,r1];refine ⟨fun _=>⟨g3,g4⟩,?_,g5⟩;simp only[ZA,Bool.or_eq_false_iff,decide_eq_false_iff_not];rcases hlo with h|h
     ·have:=zr h;omega
     ·omega
    ·have e0:wAt ((ws0.set (2*k) [.int .u64 v]).set (2*k+1) [.int .u64 u]) (2*i)=wAt ws0 (2*i):=by
      rw[XC (by omega),XC (by omega)]
     rw[e0];exact ih
theorem ZbX {W:WZ} {Ts:List TZ} (hW:okW W=true) (hc:∀ i:Int,0≤i→i<W.a*W.b→Ziq W.f (stW W i)) (hl:W.lg=[]) (hT:∀ T,T∈Ts→∃ w x g y s,T=tz0 w x g y s):V0 W (fun i=>(stW W i).l) W Ts:=by
 have key:∀ L:List TZ,(∀ T,T∈L→∃ w x g y s,T=tz0 w x g y s)→∀ i,Zbb i L=0∧Zfi i L=0:=by
  intro L
  induction L with
  | nil=>exact fun _ _=>⟨rfl,rfl⟩
  | cons A l ih =>
   intro hL i;obtain ⟨w,x,g,y,s,rfl⟩:=hL A (List.mem_cons_self ..);have b:=ih (fun T hT=>hL T (List.mem_cons_of_mem _ hT)) i;refine ⟨?_,?_⟩
   ·show (if ZL (tz0 w x g y s) i=true then 1 else 0)+Zbb i l=0
    rw[b.1];simp[ZL,tz0]
   ·show zX (tz0 w x g y s) i+Zfi i l=0
    rw[b.2];simp[zX,ZL,tz0]
 refine ⟨hW,rfl,fun i i0 i1=>?_,by rw[hl];exact fun r hr=>absurd hr (List.not_mem_nil),fun T hT' => ?_⟩
 ·obtain ⟨c1,c2,c3⟩:=hc i i0 i1
  have k:=key Ts hT i;have hk:=Zgb c2;refine ⟨⟨fun a=>c1 (by omega),fun a=>by rw[c3]at a;cases a⟩,by rw[k.1,c2];rfl,?_⟩;rw[k.2,hl];show _+0=_+0
  rfl
 ·obtain ⟨w,x,g,y,s,rfl⟩:=hT T hT'
  exact V9 (by show (0:Int)≤0;omega) (by show (0:Int)≤14;omega) rfl rfl rfl
def ZdU (x:Int):Prop:=ZN (Za x)=some x
theorem ZdN {x y:Int} (hx:ZdU x) (hy:ZdU y) (h:Za x=Za y):x=y:=by
 unfold ZdU at hx hy;rw[h,hy]at hx;exact (Option.some.inj hx).symm
theorem Zis {s:StZ} {v:Int} (h:ZN s=some v):ZdU v:=by
 unfold ZdU;rw[(UO h).1];exact h
structure Sim (W:WZ) (Q:QZ):Prop where
 okw:okW W=true
 okq:okQ Q=true
 par:Q.a=W.a∧Q.b=W.b∧Q.c=W.c∧Q.d=W.d∧Q.f=W.f∧Q.g=W.g
 st:∀ i:Int,0≤i→i<W.a*W.b→Q.S[i.toNat]?=some (stW W i)
 tm:∀ i:Int,0≤i→i<W.a*W.b→Q.T[i.toNat]?=some (tmW W i)
 jn:∀ i gn n:Int,0≤i→i<W.a*W.b→1≤gn→gn≤W.g→0≤n→n≤W.f→∃ l,Q.J[i.toNat]?=some l∧l[((gn - 1)*(W.f+1)+n).toNat]?=some (X8 (wAt W.ws (ZT W.a W.b W.f W.g i gn n).toNat))
 now:Q.now=W.t
 lg:Q.lg=W.lg
theorem Ud {W:WZ} {Q:QZ} (h:Sim W Q):Sim (ZO W) { Q with u:=Q.u+1 }:=by
 obtain ⟨h1,h2,h3,h4,h5,h6,h7,h8⟩:=h;obtain ⟨k1,k2,k3,k4,k5,k6,k7,k8,k9⟩:=Zp h2;exact ⟨Y8 h1,decide_eq_true ⟨k1,k2,k3,k4,k5,k6,k7,k8,by show 0≤Q.u+1;omega⟩,h3,h4,h5,h6,h7,h8⟩
theorem T1 {W:WZ} {Q:QZ} (h:Sim W Q) {x old v:Int} {s:StZ} (x0:0≤x) (x1:x<W.a*W.b) (hx:ZdU (sAt W x)) (ho:ZdU old) (hv:ZN s=some v):(Zs W x old s).1=(ZY Q x (Za old) s).1∧Sim (Zs W x old s).2 (ZY Q x (Za old) s).2∧(Zs W x old s).2.s=W.s+1∧(ZY Q x (Za old) s).2.u=Q.u+1:=by
 have hsx:=h.st x x0 x1;have okw2:=Yi h.okw x old s;have okq2:=YA h.okq x (Za old) s;have hfr:=Xo W x old s;have hpx:=Xe (YE W x old s);by_cases e:sAt W x=old
 ·have ht:Zs W x old s=(true,Zao W (2*x).toNat v):=by unfold Zs;rw[hv];simp only;rw[if_pos e]
  have hq:ZY Q x (Za old) s=(true,{ Q with S:=Q.S.set x.toNat s,u:=Q.u+1 }):=by
   unfold ZY;rw[if_pos (by rw[hsx];unfold stW;rw[e])]
  have hlo:=yr h.okw x0 x1;have htr:=xH x0 hlo (show (Zs W x old s).1=true by rw[ht]);have hfrm:∀ j:Nat,j≠(2*x).toNat→wAt (Zs W x old s).2.ws j=wAt W.ws j:=fun j hj=>yn hj;refine ⟨by rw[ht,hq],⟨okw2,okq2,?_,fun i i0 i1=>?_,fun i i0 i1=>?_,fun i gn n i0 i1 g0 g1 n0 n1=>?_,?_,?_⟩,by rw[ht];rfl,by rw[hq]⟩
  ·rw[hq,hpx.1,hpx.2.1,hpx.2.2.1,hpx.2.2.2.1,hpx.2.2.2.2.1,hpx.2.2.2.2.2.1];exact h.par
  ·rw[hpx.1,hpx.2.1]at i1
   rw[hq];simp only;by_cases ei:i=x
   ·subst ei
    rw[List.getElem?_set_self (by have:=(List.getElem?_eq_some_iff.1 hsx).1;omega),htr.2.1]
   ·rw[List.getElem?_set_ne (by omega),htr.2.2.1 i i0 ei]
    exact h.st i i0 i1
  ·rw[hpx.1,hpx.2.1]at i1
   rw[hq,htr.2.2.2.1 i i0];exact h.tm i i0 i1
  ·rw[hpx.1,hpx.2.1]at i1⊢
   rw[hpx.2.2.2.2.1]at n1⊢;rw[hpx.2.2.2.2.2.1]at g1⊢;rw[hq,hfrm _ (by have:=yX i0 i1 g0 g1 n0 n1;omega)];exact h.jn i gn n i0 i1 g0 g1 n0 n1
  ·rw[hq,hfr.2.2.1];exact h.now
  ·rw[hq,hfr.2.1];exact h.lg
 ·have ht:Zs W x old s=(false,ZO W):=by unfold Zs;rw[hv];simp only;rw[if_neg e]
  have hq:ZY Q x (Za old) s=(false,{ Q with u:=Q.u+1 }):=by
   unfold ZY;rw[if_neg];rw[hsx];intro k;exact e (ZdN hx ho (Option.some.inj k))
  refine ⟨by rw[ht,hq],?_,by rw[ht];rfl,by rw[hq]⟩;rw[ht,hq];exact Ud h
theorem T4 {W:WZ} {Q:QZ} (h:Sim W Q) {x gn n v:Int} {r:RcZ} (x0:0≤x) (x1:x<W.a*W.b) (g0:1≤gn) (g1:gn≤W.g) (n0:0≤n) (n1:n≤W.f) (hv:zm r=some v):Sim (Z2 W x gn n r) (Xm Q x gn n r)∧(Z2 W x gn n r).s=W.s+1:=by
 have okw2:=Ta h.okw x gn n r;obtain ⟨pa,pb,pc,pd,pf,pg⟩:=h.par;obtain ⟨k1,k2,k3,k4,k5,k6,k7,k8,k9⟩:=Zp h.okq;obtain ⟨hcf,hw,hwl,_⟩:=Zl h.okw;have hc:=ZH hcf;have hx:x.toNat<Q.J.length:=by rw[pa,pb]at k4;omega
 have okq2:=VC h.okq x gn n r hx;have hsl:=yX x0 x1 g0 g1 n0 n1;have hall:=ZJ hcf;have hwd:=Yl (f:=W.f) (g:=W.g) (show 0≤W.a*W.b by omega) hall.2 (by omega) (by omega);have hf:=Zap W x gn n r;have hf2:=Zcv W x gn n r;have hp:=Xe (zD W x gn n r);have hlt:ZT W.a W.b W.f W.g x gn n<W.ws.length:=by omega
 have hrd:=Zgw (W:=W) (x:=x) (g:=gn) (n:=n) hv (by omega) hlt;have hs:(Z2 W x gn n r).s=W.s+1:=by
  unfold Z2;rw[hv];simp only;rw[if_neg (by omega),if_neg (by omega)]
  rfl
 refine ⟨⟨okw2,okq2,?_,fun i i0 i1=>?_,fun i i0 i1=>?_,fun i gn' n' i0 i1 h0 h1 m0 m1=>?_,?_,?_⟩,hs⟩
 ·rw[hp.1,hp.2.1,hp.2.2.1,hp.2.2.2.1,hp.2.2.2.2.1,hp.2.2.2.2.2.1];exact ⟨pa,pb,pc,pd,pf,pg⟩
 ·rw[hp.1,hp.2.1]at i1
  have e:stW (Z2 W x gn n r) i=stW W i:=by
   unfold stW sAt;rw[Uc h.okw (by omega)]
  rw[e];exact h.st i i0 i1
 ·rw[hp.1,hp.2.1]at i1
  have e:tmW (Z2 W x gn n r) i=tmW W i:=by
   unfold tmW tAt;rw[Uc h.okw (by omega)]
  rw[e];exact h.tm i i0 i1
 ·rw[hp.1,hp.2.1]at i1⊢
  rw[hp.2.2.2.2.1]at m1⊢;rw[hp.2.2.2.2.2.1]at h1⊢;obtain ⟨l,hl1,hl2⟩:=h.jn i gn' n' i0 i1 h0 h1 m0 m1;obtain ⟨lx,hx1,hx2⟩:=h.jn x gn n x0 x1 g0 g1 n0 n1;have hjs:VP Q gn n=(gn - 1)*(W.f+1)+n:=by unfold VP;rw[pf]
  have hnq:(Xm Q x gn n r).J=Q.J.set x.toNat (lx.set ((gn - 1)*(W.f+1)+n).toNat r):=by
   unfold Xm;simp only;rw[List.getD_eq_getElem?_getD,hx1,hjs];rfl
  rw[hnq];have q0:0≤(gn - 1)*(W.f+1):=Int.mul_nonneg (by omega) (by omega);have q1:0≤(gn' - 1)*(W.f+1):=Int.mul_nonneg (by omega) (by omega);by_cases es:ZT W.a W.b W.f W.g x gn n=ZT W.a W.b W.f W.g i gn' n'
  ·obtain ⟨rfl,rfl,rfl⟩:=Zeo x0 x1 g0 g1 n0 n1 i0 i1 h0 h1 m0 m1 es
   refine ⟨_,List.getElem?_set_self (by omega),?_⟩;rw[List.getElem?_set_self (by exact (List.getElem?_eq_some_iff.1 hx2).1),hrd,ZgN hv]
  ·have hw2:wAt (Z2 W x gn n r).ws (ZT W.a W.b W.f W.g i gn' n').toNat=wAt W.ws (ZT W.a W.b W.f W.g i gn' n').toNat:=by
    have:=yX i0 i1 h0 h1 m0 m1;exact hf.2.2.2.2.2.2 _ (.inr (by omega))
   rw[hw2];by_cases ei:i=x
   ·subst ei
    refine ⟨_,List.getElem?_set_self (by omega),?_⟩;rw[hl1]at hx1;injection hx1 with hx1;subst hx1;rw[List.getElem?_set_ne ?_]
    ·exact hl2
    ·intro ek
     have ek2:(gn - 1)*(W.f+1)+n=(gn' - 1)*(W.f+1)+n':=(by omega);obtain ⟨e1,e2⟩:=muls (m:=W.f+1) (u:=gn - 1) (v:=gn' - 1) (r:=n) (s:=n') ek2 n0 (by omega) m0 (by omega);exact es (by rw[show gn=gn' by omega,e2])
   ·refine ⟨l,?_,hl2⟩
    rw[List.getElem?_set_ne (by omega)];exact hl1
 ·rw[hf2.2.2];exact h.now
 ·rw[hf2.2.1];exact h.lg
theorem Zai {W:WZ} {Q:QZ} (h:Sim W Q) (k c g o w q p e:Int):Sim (Uk W k c g o w q p e) (TK Q k c g o w q p e):=by
 obtain ⟨h1,h2,h3,h4,h5,h6,h7,h8⟩:=h;refine ⟨Ut h1 _ _ _ _ _ _ _ _,X1 h2 _ _ _ _ _ _ _ _,h3,h4,h5,h6,h7,?_⟩;show Q.lg++[evC k c g o w q p Q.now e]=W.lg++[evC k c g o w q p W.t e];rw[h7,h8]
end Go.W
