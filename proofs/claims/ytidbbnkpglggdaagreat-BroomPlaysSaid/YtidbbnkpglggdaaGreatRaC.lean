/- A part of the proofs about the pair's laws (RaB, RaC). -/
import Derived.Test.YtidbbnkpglggdaaGreatPsN
import Derived.Test.YtidbbnkpglggdaaGreatPaA
namespace Go.W
open Go.Proofs
set_option linter.unusedSimpArgs false
set_option linter.unusedVariables false
set_option maxHeartbeats 8000000
set_option maxRecDepth 100000
attribute [local irreducible] Wm WmA
attribute [local simp] YP lkp Vq prs V9 prT ddL idL Yy Ue Ren Ve NObj.none ZT
def stL (s:StZ):List AV:=[.int .i64 s.k,.bool s.fl,.int .i64 s.g,.int .i64 s.l,.int .i64 s.f]
def rcL (r:RcZ):List AV:=[.int .i64 r.k,.int .i64 r.q,.int .i64 r.p,.int .i64 r.t,.int .i64 r.c,.int .i64 r.g]
def stOf:List AV→Option StZ
 | [.int .i64 k,.bool fl,.int .i64 g,.int .i64 l,.int .i64 f]=>some ⟨k,fl,g,l,f⟩
 | _=>none
def tmOf:List AV→Option TmZ
 | [.int .i64 n,.int .i64 s,.int .i64 p,.int .i64 l,.int .i64 u]=>some ⟨n,s,p,l,u⟩
 | _=>none
def ZgC:List AV→Option RcZ
 | [.int .i64 k,.int .i64 q,.int .i64 p,.int .i64 t,.int .i64 c,.int .i64 g]=>some ⟨k,q,p,t,c,g⟩
 | _=>none
theorem ZiA {r:List AV} {s:StZ} (h:stOf r=some s):r=stL s:=by
 unfold stOf at h;split at h
 ·injection h with h;subst h;rfl
 ·cases h
theorem Zh5 {r:List AV} {s:TmZ} (h:tmOf r=some s):r=tmC s:=by
 unfold tmOf at h;split at h
 ·injection h with h;subst h;rfl
 ·cases h
theorem ZiV {r:List AV} {s:RcZ} (h:ZgC r=some s):r=rcL s:=by
 unfold ZgC at h;split at h
 ·injection h with h;subst h;rfl
 ·cases h
def ZeF {α:Type} (f:List AV→Option α):List (List AV)→Option (List α)
 | []=>some []
 | r :: l=>match f r,ZeF f l with
  | some x,some y=>some (x :: y)
  | _,_=>none
theorem Tn {α:Type} {f:List AV→Option α} {g:α→List AV} (h:∀ x,f (g x)=some x):∀ L:List α,ZeF f (L.map g)=some L
 | []=>rfl
 | x :: L=>by simp only[List.map_cons,ZeF,h x,Tn h L]
theorem z5 {α:Type} {f:List AV→Option α} {g:α→List AV} (h:∀ r x,f r=some x→r=g x):∀ {l:List (List AV)} {L:List α},ZeF f l=some L→l=L.map g
 | [],L,e=>by injection e with e;subst e;rfl
 | r :: l,L,e=>by
  simp only[ZeF]at e;split at e
  ·rename_i x y h1 h2
   injection e with e;subst e;rw[h r x h1,z5 h h2];rfl
  ·cases e
def sLL (L:List StZ):List (List AV):=L.map stL
def tLL (L:List TmZ):List (List AV):=L.map tmC
def rLL (L:List RcZ):List (List AV):=L.map rcL
def jrL (l:List RcZ):List AV:=[.os 0 6 (rLL l)]
def jLL (L:List (List RcZ)):List (List AV):=L.map jrL
def Zkq:List AV→Option (List RcZ)
 | [.os t 6 l]=>if t=0 then ZeF ZgC l else none
 | _=>none
theorem ZkG (l:List RcZ):Zkq (jrL l)=some l:=by
 show (if 0=0 then ZeF ZgC (l.map rcL) else none)=_;rw[if_pos rfl];exact Tn (g:=rcL) (fun _=>rfl) l
theorem ZiL (r:List AV) (l:List RcZ) (h:Zkq r=some l):r=jrL l:=by
 unfold Zkq at h;split at h
 ·split at h
  ·rename_i ht
   subst ht;rw[z5 (g:=rcL) (fun _ _=>ZiV) h]
   rfl
  ·cases h
 ·cases h
structure QZ where
 a:Int
 b:Int
 c:Int
 d:Int
 e:Int
 f:Int
 g:Int
 S:List StZ
 T:List TmZ
 J:List (List RcZ)
 now:Int
 lg:List (List AV)
 u:Int
def qzC (Q:QZ):List AV:=[.int .i64 Q.a,.int .i64 Q.b,.int .i64 Q.c,.int .i64 Q.d,.int .i64 Q.e,.int .i64 Q.f,.int .i64 Q.g,.os 0 5 (sLL Q.S),.os 0 5 (tLL Q.T),.os 0 1 (jLL Q.J),.int .i64 Q.now,.os 0 14 Q.lg,.int .i64 Q.u]
def Zay:List AV→Option QZ
 | [.int .i64 a,.int .i64 b,.int .i64 c,.int .i64 d,.int .i64 e,.int .i64 f,.int .i64 g,.os t1 5 S,.os t2 5 T,.os t3 1 J,.int .i64 now,.os t4 14 lg,.int .i64 u]=>if t1=0∧t2=0∧t3=0∧t4=0 then (match ZeF stOf S,ZeF tmOf T,ZeF Zkq J with
  | some S,some T,some J=>some ⟨a,b,c,d,e,f,g,S,T,J,now,lg,u⟩
  | _,_,_=>none) else none
 | _=>none
theorem V6 (Q:QZ):Zay (qzC Q)=some Q:=by
 unfold qzC Zay sLL tLL jLL;simp only[and_self,if_true];rw[Tn (f:=stOf) (g:=stL) (fun _=>rfl),Tn (f:=tmOf) (g:=tmC) (fun _=>rfl),Tn (f:=Zkq) (g:=jrL) ZkG]
theorem Yv {c:List AV} {Q:QZ} (h:Zay c=some Q):c=qzC Q:=by
 unfold Zay at h;split at h
 ·split at h
  ·rename_i ht
   obtain ⟨rfl,rfl,rfl,rfl⟩:=ht;split at h
   ·rename_i h1 h2 h3
    injection h with h;subst h;rw[z5 (g:=stL) (fun _ _=>ZiA) h1,z5 (g:=tmC) (fun _ _=>Zh5) h2,z5 (g:=jrL) ZiL h3]
    rfl
   ·cases h
  ·cases h
 ·cases h
def okQ (Q:QZ):Bool:=decide (X7 Q.a Q.b Q.c Q.d Q.e Q.f Q.g=true∧(Q.S.length:Int)=Q.a*Q.b∧(Q.T.length:Int)=Q.a*Q.b∧(Q.J.length:Int)=Q.a*Q.b∧(∀ l,l∈Q.J→(l.length:Int)=Q.g*(Q.f+1))∧0≤Q.now∧Q.now≤1000000∧Q.lg.all row14=true∧0≤Q.u)
theorem Zr {Q:QZ} (h:okQ Q=true):X7 Q.a Q.b Q.c Q.d Q.e Q.f Q.g=true∧(Q.S.length:Int)=Q.a*Q.b∧(Q.T.length:Int)=Q.a*Q.b∧(Q.J.length:Int)=Q.a*Q.b∧(∀ l,l∈Q.J→(l.length:Int)=Q.g*(Q.f+1))∧0≤Q.now∧Q.now≤1000000∧Q.lg.all row14=true∧0≤Q.u:=of_decide_eq_true h
def smQ (Q:QZ):Bool:=decide (Q.u≤1000000∧Q.lg.length≤50000)
theorem Xt {Q:QZ} (h:smQ Q=true):Q.u≤1000000∧Q.lg.length≤50000:=of_decide_eq_true h
theorem vt {α:Type} {g:α→List AV} (h:∀ x,t0L (g x)=g x):∀ L:List α,Yo (L.map g)=L.map g
 | []=>rfl
 | x :: L=>by show t0L (g x) :: Yo (L.map g)=_;rw[h x,vt h L];rfl
theorem vh {α:Type} {g:α→List AV} (h:∀ x,clL (g x)=true):∀ L:List α,Xr (L.map g)=true
 | []=>rfl
 | x :: L=>by show (clL (g x)&&Xr (L.map g))=true;rw[h x,vh h L];rfl
theorem Z4 (L:List StZ):Yo (sLL L)=sLL L:=vt (fun _=>by simp[stL,t0L,AV.t0]) L
theorem Z5 (L:List StZ):Xr (sLL L)=true:=vh (fun _=>by simp[stL,clL,AV.cl]) L
theorem Z7 (L:List TmZ):Yo (tLL L)=tLL L:=vt (fun _=>by simp[tmC,t0L,AV.t0]) L
theorem Z6 (L:List TmZ):Xr (tLL L)=true:=vh (fun _=>by simp[tmC,clL,AV.cl]) L
theorem Zfy (L:List RcZ):Yo (rLL L)=rLL L:=vt (fun _=>by simp[rcL,t0L,AV.t0]) L
theorem ZhL (L:List RcZ):Xr (rLL L)=true:=vh (fun _=>by simp[rcL,clL,AV.cl]) L
theorem Z1 (L:List (List RcZ)):Yo (jLL L)=jLL L:=vt (fun l=>by simp[jrL,t0L,AV.t0,Zfy]) L
theorem Z0 (L:List (List RcZ)):Xr (jLL L)=true:=vh (fun l=>by simp[jrL,clL,AV.cl,ZhL]) L
theorem T9 {L:List StZ} {k:Nat} {x:StZ} (h:L[k]?=some x):(sLL L)[k]?=some (stL x):=by unfold sLL;rw[List.getElem?_map,h];rfl
theorem vL {L:List TmZ} {k:Nat} {x:TmZ} (h:L[k]?=some x):(tLL L)[k]?=some (tmC x):=by unfold tLL;rw[List.getElem?_map,h];rfl
theorem Zhp {L:List RcZ} {k:Nat} {x:RcZ} (h:L[k]?=some x):(rLL L)[k]?=some (rcL x):=by unfold rLL;rw[List.getElem?_map,h];rfl
theorem Zg9 {L:List (List RcZ)} {k:Nat} {x:List RcZ} (h:L[k]?=some x):(jLL L)[k]?=some [.os 0 6 (rLL x)]:=by unfold jLL;rw[List.getElem?_map,h];rfl
theorem Uk (L:List StZ):(sLL L).length=L.length:=List.length_map ..
theorem vu (L:List TmZ):(tLL L).length=L.length:=List.length_map ..
theorem ZgN (L:List RcZ):(rLL L).length=L.length:=List.length_map ..
theorem Zhl (L:List (List RcZ)):(jLL L).length=L.length:=List.length_map ..
theorem Zkp (L:List StZ) (k:Nat) (x:StZ):sLL (L.set k x)=(sLL L).set k (stL x):=List.map_set ..
theorem ZgP (L:List RcZ) (k:Nat) (x:RcZ):rLL (L.set k x)=(rLL L).set k (rcL x):=List.map_set ..
theorem Zjt (L:List (List RcZ)) (k:Nat) (x:List RcZ):jLL (L.set k x)=(jLL L).set k [.os 0 6 (rLL x)]:=List.map_set ..
theorem Y5 {l:List (List AV)} {k:Nat} {r:List AV} (h:l[k]?=some r):∀ hk,l[k]'hk=r:=fun hk=>by rw[List.getElem?_eq_getElem hk]at h;exact Option.some.inj h
theorem Y3 (Q:QZ) (h:Q.lg.all row14=true):t0L (qzC Q)=qzC Q:=by simp[qzC,t0L,AV.t0,Z4,Z7,Z1,ZC h]
theorem YA (Q:QZ) (h:Q.lg.all row14=true):clL (qzC Q)=true:=by simp[qzC,clL,AV.cl,Z5,Z6,Z0,ZD h]
def ZO (Q:QZ) (x:Int) (o s:StZ):Bool×QZ:=if Q.S[x.toNat]?=some o then (true,{ Q with S:=Q.S.set x.toNat s,u:=Q.u+1 }) else (false,{ Q with u:=Q.u+1 })
def Uv (Q:QZ) (gn n:Int):Int:=(gn - 1)*(Q.f+1)+n
def Xa (Q:QZ) (x gn n:Int) (r:RcZ):QZ:={ Q with J:=Q.J.set x.toNat ((Q.J.getD x.toNat []).set (Uv Q gn n).toNat r),u:=Q.u+1 }
def U5 (Q:QZ) (k c g o w q p e:Int):QZ:={ Q with lg:=Q.lg++[evC k c g o w q p Q.now e] }
theorem Ye {Q:QZ} (h:okQ Q=true) (x:Int) (o s:StZ):okQ (ZO Q x o s).2=true:=by
 obtain ⟨h1,h2,h3,h4,h5,h6,h7,h8,h9⟩:=Zr h;unfold ZO;split
 ·exact decide_eq_true ⟨h1,by simp only[List.length_set];exact h2,h3,h4,h5,h6,h7,h8,by show 0≤Q.u+1;omega⟩
 ·exact decide_eq_true ⟨h1,h2,h3,h4,h5,h6,h7,h8,by show 0≤Q.u+1;omega⟩
theorem XS {Q:QZ} (h:okQ Q=true) (x gn n:Int) (r:RcZ) (hx:x.toNat<Q.J.length):okQ (Xa Q x gn n r)=true:=by
 obtain ⟨h1,h2,h3,h4,h5,h6,h7,h8,h9⟩:=Zr h;refine decide_eq_true ⟨h1,h2,h3,by simp only[Xa,List.length_set];exact h4,fun l hl=>?_,h6,h7,h8,by show 0≤Q.u+1;omega⟩;rcases List.mem_or_eq_of_mem_set hl with h' | h'
 ·exact h5 l h'
 ·rw[h',List.length_set,List.getD_eq_getElem?_getD,List.getElem?_eq_getElem hx]
  exact h5 _ (List.getElem_mem hx)
theorem XB {Q:QZ} (h:okQ Q=true) (k c g o w q p e:Int):okQ (U5 Q k c g o w q p e)=true:=by
 obtain ⟨h1,h2,h3,h4,h5,h6,h7,h8,h9⟩:=Zr h;refine decide_eq_true ⟨h1,h2,h3,h4,h5,h6,h7,?_,h9⟩;simp only[U5,List.all_append,h8]
 rfl
theorem Ze5 {Q:QZ} (h:okQ Q=true) {x gn n:Int} (h0:0≤x) (h1:x<Q.a*Q.b) (g0:1≤gn) (g1:gn≤Q.g) (n0:0≤n) (n1:n≤Q.f):∃ l,Q.J[x.toNat]?=some l∧0≤Uv Q gn n∧Uv Q gn n<l.length∧Uv Q gn n≤100:=by
 obtain ⟨k1,k2,k3,k4,k5,_⟩:=Zr h;have hc:=ZE k1;have hx:x.toNat<Q.J.length:=by omega
 refine ⟨_,List.getElem?_eq_getElem hx,?_,?_,?_⟩
 ·have:=Int.mul_nonneg (show 0≤gn - 1 by omega) (show 0≤Q.f+1 by omega)
  unfold Uv;omega
 ·rw[k5 _ (List.getElem_mem hx)]
  have h1:=Int.mul_le_mul_of_nonneg_right (show gn - 1+1≤Q.g by omega) (show 0≤Q.f+1 by omega);rw[Int.add_mul,Int.one_mul]at h1;unfold Uv;omega
 ·have h1:=Xh (show 0≤gn - 1 by omega) (show gn - 1≤14 by omega) (show 0≤Q.f+1 by omega) (show Q.f+1≤5 by omega)
  unfold Uv;omega
def d61:List AV→Option Ans
 | [.op _ q,.int .i64 gn,.int .i64 n]=>(match Zay q with
  | some Q=>if okQ Q=true∧1≤gn∧gn≤Q.g∧0≤n∧n≤Q.f then some ⟨.int .i64 (Uv Q gn n),[.free]⟩ else none
  | none=>none)
 | _=>none
theorem ok61:NOk [(13,false)] d61:=by
 intro xs aa h;unfold d61 at h;split at h
 ·skip
  split at h
  ·rename_i Q hQ
   split at h
   ·rename_i hc
    obtain rfl:=Yv hQ;injection h with h;subst h;have hok:=hc.1;have hS0:=Z4 Q.S;have hS1:=Z5 Q.S;have hT0:=Z7 Q.T;have hT1:=Z6 Q.T;have hJ0:=Z1 Q.J;have hJ1:=Z0 Q.J;obtain ⟨q1,q2,q3,q4,q5,q6,q7,q8,q9⟩:=Zr hok;have hL0:=ZC q8;have hL1:=ZD q8;refine ⟨Zp ?_,?_⟩<;>simp[qzC,hS0,hS1,hT0,hT1,hJ0,hJ1,hL0,hL1]
   ·cases h
  ·cases h
 ·cases h
theorem s61:Sound Tryz.prog 61 (Zm [(13,false)] d61 ok61):=by
 refine Zi (ac:=?ac) (res:=?res) Tryz.func61 (by kernel_rfl) (ha:=?ha) (hk:=?hk) (hok:=ok61) (fun xs a h=>?_) fun xs a h w0 S hS=>?_
 case ha=>conv=>lhs;cbv
 case hk=>kernel_rfl
 ·unfold d61 at h
  (repeat' (split at h))<;>first|(cases h;done)|exact Nat.le_of_ble_eq_true rfl
 unfold d61 at h;split at h
 ·rename_i t1 q gn n
  split at h
  ·rename_i Q hQ
   split at h
   ·rename_i hcond
    obtain rfl:=Yv hQ;injection h with h;subst h;clear hQ;have hE:Zd Tryz.prog (EL []):=Ze (by simp);obtain ⟨hok,g0,g1,n0,n1⟩:=hcond;have hS0:=Z4 Q.S;have hS1:=Z5 Q.S;have hT0:=Z7 Q.T;have hT1:=Z6 Q.T;have hJ0:=Z1 Q.J;have hJ1:=Z0 Q.J;obtain ⟨q1,q2,q3,q4,q5,q6,q7,q8,q9⟩:=Zr hok;have hL0:=ZC q8;have hL1:=ZD q8;have hc:=ZE q1;have hm:=Xh (show 0≤gn - 1 by omega) (show gn - 1≤14 by omega) (show 0≤Q.f+1 by omega) (show Q.f+1≤5 by omega);have w1:IntKind.wrap .i64 (gn - 1)=gn - 1:=Zg (by omega) (by omega);have w2:IntKind.wrap .i64 (Q.f+1)=Q.f+1:=Zg (by omega) (by omega);have w3:IntKind.wrap .i64 ((gn - 1)*(Q.f+1))=(gn - 1)*(Q.f+1):=Zg (by omega) (by omega);have w4:IntKind.wrap .i64 ((gn - 1)*(Q.f+1)+n)=(gn - 1)*(Q.f+1)+n:=Zg (by omega) (by omega);simp only[qzC,Uv]at hS⊢
    repeat' with_reducible (first|refine ZR.h ?_|refine kI ?_|(refine kR hE ?_;intro K hK;simp[hS0,hS1,hT0,hT1,hJ0,hJ1,hL0,hL1,w1,w2,w3,w4];(repeat' (first|refine hK _ _ ?_|apply And.intro|(intro hc;try subst hc)))<;>(try clear hK K))|(refine kT (fun hc=>?_) (fun hc=>?_)<;>simp at hc<;>(try subst hc)))
    all_goals first|(show Zb _ _=true;kernel_rfl)|(simp;done)|(simp at *;omega)|((try simp[hS0,hS1,hT0,hT1,hJ0,hJ1,hL0,hL1,w1,w2,w3,w4]);refine Imp.aut ?_ ?_<;>simp[NLe,hS0,hS1,hT0,hT1,hJ0,hJ1,hL0,hL1,w1,w2,w3,w4])
   ·cases h
  ·cases h
 ·cases h
theorem e61 {Q:QZ} (h:okQ Q=true) {gn n:Int} (g0:1≤gn) (g1:gn≤Q.g) (n0:0≤n) (n1:n≤Q.f) (u:Nat):d61 [.op u (qzC Q),.int .i64 gn,.int .i64 n]=some ⟨.int .i64 (Uv Q gn n),[.free]⟩:=by
 simp only[d61,V6];rw[if_pos ⟨h,g0,g1,n0,n1⟩]
def d46:List AV→Option Ans
 | [.op _ q,.int .i64 x,.agg [.int .i64 k,.bool fl,.int .i64 sg,.int .i64 sl,.int .i64 sf],.agg [.int .i64 k',.bool fl',.int .i64 sg',.int .i64 sl',.int .i64 sf']]=>(match Zay q with
  | some Q=>if okQ Q=true∧smQ Q=true∧0≤x∧x<Q.a*Q.b then some ⟨.bool (ZO Q x ⟨k,fl,sg,sl,sf⟩ ⟨k',fl',sg',sl',sf'⟩).1,[.cells 0 (qzC (ZO Q x ⟨k,fl,sg,sl,sf⟩ ⟨k',fl',sg',sl',sf'⟩).2)]⟩ else none
  | none=>none)
 | _=>none
theorem ok46:NOk [(13,true)] d46:=by
 intro xs aa h;unfold d46 at h;split at h
 ·skip
  split at h
  ·rename_i Q hQ
   split at h
   ·rename_i hc
    obtain rfl:=Yv hQ;injection h with h;subst h;have hok:=hc.1;have hS0:=Z4 Q.S;have hS1:=Z5 Q.S;have hT0:=Z7 Q.T;have hT1:=Z6 Q.T;have hJ0:=Z1 Q.J;have hJ1:=Z0 Q.J;obtain ⟨q1,q2,q3,q4,q5,q6,q7,q8,q9⟩:=Zr hok;have hL0:=ZC q8;have hL1:=ZD q8;have hok2:=Ye hok;refine ⟨Zp ?_,?_⟩
    ·simp[Y3 Q q8,YA Q q8,YA _ (Zr (hok2 _ _ _)).2.2.2.2.2.2.2.1]
    ·simp
   ·cases h
  ·cases h
 ·cases h
theorem s46:Sound Tryz.prog 46 (Zm [(13,true)] d46 ok46):=by
 refine Zi (ac:=?ac) (res:=?res) Tryz.func46 (by kernel_rfl) (ha:=?ha) (hk:=?hk) (hok:=ok46) (fun xs a h=>?_) fun xs a h w0 S hS=>?_
 case ha=>conv=>lhs;cbv
 case hk=>kernel_rfl
 ·unfold d46 at h
  (repeat' (split at h))<;>first|(cases h;done)|exact Nat.le_of_ble_eq_true rfl
 unfold d46 at h;split at h
 ·rename_i t1 q x k fl sg sl sf k2 fl2 sg2 sl2 sf2
  split at h
  ·rename_i Q hQ
   split at h
   ·rename_i hcond
    obtain rfl:=Yv hQ;injection h with h;subst h;clear hQ;have hE:Zd Tryz.prog (EL []):=Ze (by simp);obtain ⟨hok,hsm,x0,x1⟩:=hcond;obtain ⟨z1,z2⟩:=Xt hsm;have hS0:=Z4 Q.S;have hS1:=Z5 Q.S;have hT0:=Z7 Q.T;have hT1:=Z6 Q.T;have hJ0:=Z1 Q.J;have hJ1:=Z0 Q.J;obtain ⟨q1,q2,q3,q4,q5,q6,q7,q8,q9⟩:=Zr hok;have hL0:=ZC q8;have hL1:=ZD q8;obtain ⟨X,rfl⟩:=Int.eq_ofNat_of_zero_le x0;have hX:X<Q.S.length:=(by omega);obtain ⟨s0,hs0⟩:∃ s0,Q.S[X]?=some s0:=⟨_,List.getElem?_eq_getElem hX⟩;have hg:=T9 hs0;have hge:=Y5 hg;have hgl:=Uk Q.S;have w1:IntKind.wrap .i64 (Q.u+1)=Q.u+1:=Zg (by omega) (by omega);by_cases he:s0=⟨k,fl,sg,sl,sf⟩
    ·have ht:ZO Q (X:Int) ⟨k,fl,sg,sl,sf⟩ ⟨k2,fl2,sg2,sl2,sf2⟩=(true,{ Q with S:=Q.S.set X ⟨k2,fl2,sg2,sl2,sf2⟩,u:=Q.u+1 }):=by
      unfold ZO;rw[show (X:Int).toNat=X by omega,hs0,he,if_pos rfl]
     have hset:=Zkp Q.S X ⟨k2,fl2,sg2,sl2,sf2⟩;have hS2:=Z4 (Q.S.set X ⟨k2,fl2,sg2,sl2,sf2⟩);have hS3:=Z5 (Q.S.set X ⟨k2,fl2,sg2,sl2,sf2⟩);rw[hset]at hS2 hS3;rw[ht];subst he;simp only[stL]at hg hge hS2 hS3 hset;simp only[qzC,hset]at hS⊢
     repeat' with_reducible (first|refine ZR.h ?_|refine kI ?_|((first|refine kR hE ?_|refine kD hE Zq ?_);intro K hK;simp[hS0,hS1,hT0,hT1,hJ0,hJ1,hL0,hL1,hg,hge,hgl,hX,w1,hS2,hS3];(repeat' (first|refine hK _ _ ?_|apply And.intro|(intro hc;try subst hc)))<;>(try clear hK K))|(refine kT (fun hc=>?_) (fun hc=>?_)<;>simp at hc<;>(try subst hc)))
     all_goals first|(show Zb _ _=true;kernel_rfl)|(simp;done)|(simp at *;omega)|((try simp[hS0,hS1,hT0,hT1,hJ0,hJ1,hL0,hL1,hg,hge,hgl,hX,w1,hS2,hS3]);refine Imp.aut ?_ ?_<;>simp[NLe,hS0,hS1,hT0,hT1,hJ0,hJ1,hL0,hL1,hg,hge,hgl,hX,w1,hS2,hS3])
    ·have ht:ZO Q (X:Int) ⟨k,fl,sg,sl,sf⟩ ⟨k2,fl2,sg2,sl2,sf2⟩=(false,{ Q with u:=Q.u+1 }):=by
      unfold ZO;rw[show (X:Int).toNat=X by omega,hs0,if_neg (fun x=>he (Option.some.inj x))]
     obtain ⟨k1,fl1,sg1,sl1,sf1⟩:=s0;have hb:(decide (k1=k)&&((fl1 == fl)&&(decide (sg1=sg)&&(decide (sl1=sl)&&(decide (sf1=sf)&&true)))))=false:=by
      rw[Bool.eq_false_iff];intro h;simp only[Bool.and_eq_true,decide_eq_true_eq,beq_iff_eq,and_true]at h;exact he (by rw[h.1,h.2.1,h.2.2.1,h.2.2.2.1,h.2.2.2.2])
     have hb2:k1=k→fl1=fl→sg1=sg→sl1=sl→¬ sf1=sf:=fun a1 a2 a3 a4 a5=>he (by rw[a1,a2,a3,a4,a5]);rw[ht];simp only[stL]at hg hge;simp only[qzC]at hS⊢
     repeat' with_reducible (first|refine ZR.h ?_|refine kI ?_|((first|refine kR hE ?_|refine kD hE Zq ?_);intro K hK;simp[hS0,hS1,hT0,hT1,hJ0,hJ1,hL0,hL1,hg,hge,hgl,hX,w1];(repeat' (first|refine hK _ _ ?_|apply And.intro|(intro hc;try subst hc)))<;>(try clear hK K))|(refine kT (fun hc=>?_) (fun hc=>?_)<;>simp at hc<;>(try subst hc)))
     all_goals first|(show Zb _ _=true;kernel_rfl)|(simp;done)|(exfalso;exact hb2 hc.1 hc.2.1 hc.2.2.1 hc.2.2.2.1 hc.2.2.2.2)|((try simp[hS0,hS1,hT0,hT1,hJ0,hJ1,hL0,hL1,hg,hge,hgl,hX,w1]);refine Imp.aut ?_ ?_<;>simp[NLe,hS0,hS1,hT0,hT1,hJ0,hJ1,hL0,hL1,hg,hge,hgl,hX,w1])
   ·cases h
  ·cases h
 ·cases h
theorem e46 {Q:QZ} (h:okQ Q=true) (hm:smQ Q=true) {x:Int} (x0:0≤x) (x1:x<Q.a*Q.b) (o s:StZ) (u:Nat):d46 [.op u (qzC Q),.int .i64 x,stA o,stA s]=some ⟨.bool (ZO Q x o s).1,[.cells 0 (qzC (ZO Q x o s).2)]⟩:=by
 simp only[d46,stA,V6];rw[if_pos ⟨h,hm,x0,x1⟩]
theorem Zjf (l:List (List AV)) (k:Nat) (r:List AV):Yo (l.set k r)=(Yo l).set k (t0L r):=by
 induction l generalizing k with
 | nil=>rfl
 | cons a l ih =>
  cases k with
  | zero=>rfl
  | succ k=>show t0L a :: Yo (l.set k r)=_;rw[ih];rfl
theorem jL_up (J:List (List RcZ)) (l:List RcZ) (x k t:Nat) (r:RcZ):Yo ((jLL J).set x [.os t 6 ((rLL l).set k (rcL r))])=jLL (J.set x (l.set k r)):=by
 rw[Zjf,Z1,Zjt,ZgP];have:Yo ((rLL l).set k (rcL r))=(rLL l).set k (rcL r):=by rw[← ZgP];exact Zfy _
 simp[t0L,AV.t0,this]
def d49:List AV→Option Ans
 | [.op _ q,.int .i64 x,.int .i64 gn,.int .i64 n,.agg [.int .i64 rk,.int .i64 rq,.int .i64 rp,.int .i64 rt,.int .i64 rc,.int .i64 rg]]=>(match Zay q with
  | some Q=>if okQ Q=true∧smQ Q=true∧0≤x∧x<Q.a*Q.b∧1≤gn∧gn≤Q.g∧0≤n∧n≤Q.f then some ⟨.tup [],[.cells 0 (qzC (Xa Q x gn n ⟨rk,rq,rp,rt,rc,rg⟩))]⟩ else none
  | none=>none)
 | _=>none
theorem ok49:NOk [(13,true)] d49:=by
 intro xs aa h;unfold d49 at h;split at h
 ·rename_i t1 q x gn n rk rq rp rt rc rg
  split at h
  ·rename_i Q hQ
   split at h
   ·rename_i hc
    obtain rfl:=Yv hQ;injection h with h;subst h;have hok:=hc.1;have hS0:=Z4 Q.S;have hS1:=Z5 Q.S;have hT0:=Z7 Q.T;have hT1:=Z6 Q.T;have hJ0:=Z1 Q.J;have hJ1:=Z0 Q.J;obtain ⟨q1,q2,q3,q4,q5,q6,q7,q8,q9⟩:=Zr hok;have hL0:=ZC q8;have hL1:=ZD q8;have hok2:=XS hok;obtain ⟨_,_,x0,x1,_⟩:=hc;refine ⟨Zp ?_,?_⟩
    ·simp[Y3 Q q8,YA Q q8,YA _ (Zr (hok2 x gn n ⟨rk,rq,rp,rt,rc,rg⟩ (by omega))).2.2.2.2.2.2.2.1]
    ·simp
   ·cases h
  ·cases h
 ·cases h
theorem s49:Sound Tryz.prog 49 (Zm [(13,true)] d49 ok49):=by
 refine Zi (ac:=?ac) (res:=?res) Tryz.func49 (by kernel_rfl) (ha:=?ha) (hk:=?hk) (hok:=ok49) (fun xs a h=>?_) fun xs a h w0 S hS=>?_
 case ha=>conv=>lhs;cbv
 case hk=>kernel_rfl
 ·unfold d49 at h
  (repeat' (split at h))<;>first|(cases h;done)|exact Nat.le_of_ble_eq_true rfl
 unfold d49 at h;split at h
 ·rename_i t1 q x gn n rk rq rp rt rc rg
  split at h
  ·rename_i Q hQ
   split at h
   ·rename_i hcond
    obtain rfl:=Yv hQ;injection h with h;subst h;clear hQ;have hE:Zd Tryz.prog (EL [(61,Zm [(13,false)] d61 ok61)]):=Ze (by simp only[List.mem_cons,List.not_mem_nil,or_false,forall_eq_or_imp,forall_eq];exact s61);obtain ⟨hok,hsm,x0,x1,g0,g1,n0,n1⟩:=hcond;obtain ⟨z1,z2⟩:=Xt hsm;have hS0:=Z4 Q.S;have hS1:=Z5 Q.S;have hT0:=Z7 Q.T;have hT1:=Z6 Q.T;have hJ0:=Z1 Q.J;have hJ1:=Z0 Q.J;obtain ⟨q1,q2,q3,q4,q5,q6,q7,q8,q9⟩:=Zr hok;have hL0:=ZC q8;have hL1:=ZD q8;obtain ⟨l,hl,j0,j1,j2⟩:=Ze5 hok x0 x1 g0 g1 n0 n1;have h61:∀ u,d61 [.op u (qzC { Q with u:=Q.u+1 }),.int .i64 gn,.int .i64 n]=some ⟨.int .i64 (Uv Q gn n),[.free]⟩:=fun u=>e61 (Q:={ Q with u:=Q.u+1 }) (decide_eq_true ⟨q1,q2,q3,q4,q5,q6,q7,q8,by show 0≤Q.u+1;omega⟩) g0 g1 n0 n1 u;have hnt:Xa Q x gn n ⟨rk,rq,rp,rt,rc,rg⟩={ Q with J:=Q.J.set x.toNat (l.set (Uv Q gn n).toNat ⟨rk,rq,rp,rt,rc,rg⟩),u:=Q.u+1 }:=by
     unfold Xa;rw[List.getD_eq_getElem?_getD,hl];rfl
    rw[hnt];obtain ⟨X,rfl⟩:=Int.eq_ofNat_of_zero_le x0;obtain ⟨K,hK⟩:=Int.eq_ofNat_of_zero_le j0;rw[hK]at h61 j1⊢;have hX:X<Q.J.length:=(by omega);have hKl:K<l.length:=(by omega);rw[show (X:Int).toNat=X by omega]at hl;have hg:=Zg9 hl;have hge:=Y5 hg;have hgl:=Zhl Q.J;have hrl:=ZgN l;have hr0:=Zfy l;have hr1:=ZhL l;have w1:IntKind.wrap .i64 (Q.u+1)=Q.u+1:=Zg (by omega) (by omega);have hup:=fun t=>jL_up Q.J l X K t ⟨rk,rq,rp,rt,rc,rg⟩;have hcl2:=Z0 (Q.J.set X (l.set K ⟨rk,rq,rp,rt,rc,rg⟩));have hk5:∃ r5,(rLL l)[K]?=some r5∧r5.length=6:=⟨_,Zhp (List.getElem?_eq_getElem hKl),rfl⟩;obtain ⟨r5,hr5,hr6⟩:=hk5;have hr5e:=Y5 hr5;have hd6:r5.drop 6=[]:=List.drop_of_length_le (by omega);simp only[rcL]at hup;simp only[qzC,show (X:Int).toNat=X by omega,show (K:Int).toNat=K by omega]at hS h61⊢
    repeat' with_reducible (first|refine ZR.h ?_|refine kI ?_|((first|refine kR hE ?_|refine kD hE Zq ?_);intro K hK;simp[hS0,hS1,hT0,hT1,hJ0,hJ1,hL0,hL1,hg,hge,hgl,hX,hKl,hrl,hr0,hr1,w1,h61,hr5,hr5e,hr6,hd6,hup,hcl2];(repeat' (first|refine hK _ _ ?_|apply And.intro|(intro hc;try subst hc)))<;>(try clear hK K))|(refine kT (fun hc=>?_) (fun hc=>?_)<;>simp at hc<;>(try subst hc)))
    all_goals first|(show Zb _ _=true;kernel_rfl)|(simp;done)|(simp at *;omega)|((try simp[hS0,hS1,hT0,hT1,hJ0,hJ1,hL0,hL1,hg,hge,hgl,hX,hKl,hrl,hr0,hr1,w1,hr5,hr5e,hr6,hd6,hup,hcl2]);refine Imp.aut ?_ ?_<;>simp[NLe,hS0,hS1,hT0,hT1,hJ0,hJ1,hL0,hL1,hg,hge,hgl,hX,hKl,hrl,hr0,hr1,w1,hr5,hr5e,hr6,hd6,hup,hcl2])
   ·cases h
  ·cases h
 ·cases h
theorem e49 {Q:QZ} (h:okQ Q=true) (hm:smQ Q=true) {x gn n:Int} (x0:0≤x) (x1:x<Q.a*Q.b) (g0:1≤gn) (g1:gn≤Q.g) (n0:0≤n) (n1:n≤Q.f) (r:RcZ) (u:Nat):d49 [.op u (qzC Q),.int .i64 x,.int .i64 gn,.int .i64 n,rcA r]=some ⟨.tup [],[.cells 0 (qzC (Xa Q x gn n r))]⟩:=by
 simp only[d49,rcA,V6];rw[if_pos ⟨h,hm,x0,x1,g0,g1,n0,n1⟩]
def Zhq (Q:QZ):Bool:=decide (Q.u≤1000001∧Q.lg.length≤50000)
def d67:List AV→Option Ans
 | [.op _ q,.agg [.int .i64 y0,.int .i64 y1,.int .i64 y2,.int .i64 y3,.int .i64 y4,.int .i64 y5,.int .i64 y6,.int .i64 y7,.int .i64 y8,.int .i64 y9,.int .i64 y10,.int .i64 y11,.int .i64 y12,.int .i64 y13]]=>(match Zay q with
  | some Q=>if okQ Q=true∧Zhq Q=true then some ⟨.tup [],[.cells 0 (qzC { Q with lg:=Q.lg++[([.int .i64 y0,.int .i64 y1,.int .i64 y2,.int .i64 y3,.int .i64 y4,.int .i64 y5,.int .i64 y6,.int .i64 y7,.int .i64 y8,.int .i64 y9,.int .i64 y10,.int .i64 y11,.int .i64 Q.now,.int .i64 y13]:List AV)] })]⟩ else none
  | none=>none)
 | _=>none
theorem ok67:NOk [(13,true)] d67:=by
 intro xs aa h;unfold d67 at h;split at h
 ·rename_i t1 q y0 y1 y2 y3 y4 y5 y6 y7 y8 y9 y10 y11 y12 y13
  split at h
  ·rename_i Q hQ
   split at h
   ·rename_i hc
    obtain rfl:=Yv hQ;injection h with h;subst h;have hok:=hc.1;have hS0:=Z4 Q.S;have hS1:=Z5 Q.S;have hT0:=Z7 Q.T;have hT1:=Z6 Q.T;have hJ0:=Z1 Q.J;have hJ1:=Z0 Q.J;obtain ⟨q1,q2,q3,q4,q5,q6,q7,q8,q9⟩:=Zr hok;have hL0:=ZC q8;have hL1:=ZD q8;have h2:(Q.lg++[([.int .i64 y0,.int .i64 y1,.int .i64 y2,.int .i64 y3,.int .i64 y4,.int .i64 y5,.int .i64 y6,.int .i64 y7,.int .i64 y8,.int .i64 y9,.int .i64 y10,.int .i64 y11,.int .i64 Q.now,.int .i64 y13]:List AV)]).all row14=true:=(by rw[List.all_append,q8];rfl);refine ⟨Zp ?_,?_⟩
    ·simp[Y3 Q q8,YA Q q8,YA { Q with lg:=Q.lg++[([.int .i64 y0,.int .i64 y1,.int .i64 y2,.int .i64 y3,.int .i64 y4,.int .i64 y5,.int .i64 y6,.int .i64 y7,.int .i64 y8,.int .i64 y9,.int .i64 y10,.int .i64 y11,.int .i64 Q.now,.int .i64 y13]:List AV)] } h2]
    ·simp
   ·cases h
  ·cases h
 ·cases h
theorem s67:Sound Tryz.prog 67 (Zm [(13,true)] d67 ok67):=by
 refine Zi (ac:=?ac) (res:=?res) Tryz.func67 (by kernel_rfl) (ha:=?ha) (hk:=?hk) (hok:=ok67) (fun xs a h=>?_) fun xs a h w0 S hS=>?_
 case ha=>conv=>lhs;cbv
 case hk=>kernel_rfl
 ·unfold d67 at h
  (repeat' (split at h))<;>first|(cases h;done)|exact Nat.le_of_ble_eq_true rfl
 unfold d67 at h;split at h
 ·rename_i t1 q y0 y1 y2 y3 y4 y5 y6 y7 y8 y9 y10 y11 y12 y13
  split at h
  ·rename_i Q hQ
   split at h
   ·rename_i hcond
    obtain rfl:=Yv hQ;injection h with h;subst h;clear hQ;have hE:Zd Tryz.prog (EL []):=Ze (by simp);obtain ⟨hok,hsm⟩:=hcond;obtain ⟨z1,z2⟩:Q.u≤1000001∧Q.lg.length≤50000:=of_decide_eq_true hsm;have hS0:=Z4 Q.S;have hS1:=Z5 Q.S;have hT0:=Z7 Q.T;have hT1:=Z6 Q.T;have hJ0:=Z1 Q.J;have hJ1:=Z0 Q.J;obtain ⟨q1,q2,q3,q4,q5,q6,q7,q8,q9⟩:=Zr hok;have hL0:=ZC q8;have hL1:=ZD q8;have h2:(Q.lg++[([.int .i64 y0,.int .i64 y1,.int .i64 y2,.int .i64 y3,.int .i64 y4,.int .i64 y5,.int .i64 y6,.int .i64 y7,.int .i64 y8,.int .i64 y9,.int .i64 y10,.int .i64 y11,.int .i64 Q.now,.int .i64 y13]:List AV)]).all row14=true:=(by rw[List.all_append,q8];rfl);have hL2:=ZC h2;have hL3:=ZD h2;have hb1:(Q.lg.length+1)*112≤140737488355328:=(by omega);have hb2:Q.lg.length+1≤9223372036854775807:=(by omega);have htl:∀ q,UR q Q.lg=true:=fun q=>l_tl q8;simp only[qzC]at hS⊢
    repeat' with_reducible (first|refine ZR.h ?_|refine kI ?_|((first|refine kR hE ?_|refine kD hE Zq ?_);intro K hK;simp[hS0,hS1,hT0,hT1,hJ0,hJ1,hL0,hL1,hL2,hL3,hb1,hb2,htl];(repeat' (first|refine hK _ _ ?_|apply And.intro|(intro hc;try subst hc)))<;>(try clear hK K))|(refine kT (fun hc=>?_) (fun hc=>?_)<;>simp at hc<;>(try subst hc)))
    all_goals try (show Zb _ _=true;kernel_rfl)
    all_goals ((try simp);refine Imp.trans (Imp.absorb (.top 0) 0 11 113 (by rfl) (by rfl) (by rfl) (.inl ⟨0,14,Q.lg++[([.int .i64 y0,.int .i64 y1,.int .i64 y2,.int .i64 y3,.int .i64 y4,.int .i64 y5,.int .i64 y6,.int .i64 y7,.int .i64 y8,.int .i64 y9,.int .i64 y10,.int .i64 y11,.int .i64 Q.now,.int .i64 y13]:List AV)],by simp,by rfl⟩) (by simp)) ?_)
    all_goals (refine Imp.aut ?_ ?_<;>simp[NLe,hS0,hS1,hT0,hT1,hJ0,hJ1,hL0,hL1,hL2,hL3,Xb,ZZ])
   ·cases h
  ·cases h
 ·cases h
theorem e67 {Q:QZ} (h:okQ Q=true) (hm:Zhq Q=true) (k c g o w q p t e:Int) (u:Nat):d67 [.op u (qzC Q),.agg (evC k c g o w q p t e)]=some ⟨.tup [],[.cells 0 (qzC (U5 Q k c g o w q p e))]⟩:=by
 simp only[d67,evC,V6];rw[if_pos ⟨h,hm⟩]
 rfl
end Go.W
