/- The document's world tells what the program's words do. The document's try steps as the program's does. One step of both. Taking, letting go, noting: both alike. Every step of a try: both alike. -/
import Derived.Test.YtidbbnkpglggdaaGreatPyI
import Derived.Test.YtidbbnkpglggdaaGreatRaC
import Derived.Test.YtidbbnkpglggdaaGreatRaK
import Derived.Test.YtidbbnkpglggdaaGreatPaA
namespace Go.W
open Go.Proofs
set_option linter.unusedSimpArgs false
set_option linter.unusedVariables false
set_option maxHeartbeats 8000000
set_option maxRecDepth 100000
def ZgL (x:Int):Prop:=ZX (Zc x)=some x
theorem ZfM {x y:Int} (hx:ZgL x) (hy:ZgL y) (h:Zc x=Zc y):x=y:=by
 unfold ZgL at hx hy;rw[h,hy]at hx;exact (Option.some.inj hx).symm
theorem Zkw {s:StZ} {v:Int} (h:ZX s=some v):ZgL v:=by
 unfold ZgL;rw[(U4 h).1];exact h
structure Sim (W:WZ) (Q:QZ):Prop where
 okw:okW W=true
 okq:okQ Q=true
 par:Q.a=W.a∧Q.b=W.b∧Q.c=W.c∧Q.d=W.d∧Q.f=W.f∧Q.g=W.g
 st:∀ i:Int,0≤i→i<W.a*W.b→Q.S[i.toNat]?=some (stW W i)
 tm:∀ i:Int,0≤i→i<W.a*W.b→Q.T[i.toNat]?=some (tmW W i)
 jn:∀ i gn n:Int,0≤i→i<W.a*W.b→1≤gn→gn≤W.g→0≤n→n≤W.f→∃ l,Q.J[i.toNat]?=some l∧l[((gn - 1)*(W.f+1)+n).toNat]?=some (Vn (wAt W.ws (ZY W.a W.b W.f W.g i gn n).toNat))
 now:Q.now=W.t
 lg:Q.lg=W.lg
theorem Vi {W:WZ} {Q:QZ} (h:Sim W Q):Sim (Yn W) { Q with u:=Q.u+1 }:=by
 obtain ⟨h1,h2,h3,h4,h5,h6,h7,h8⟩:=h;obtain ⟨k1,k2,k3,k4,k5,k6,k7,k8,k9⟩:=Zr h2;exact ⟨X2 h1,decide_eq_true ⟨k1,k2,k3,k4,k5,k6,k7,k8,by show 0≤Q.u+1;omega⟩,h3,h4,h5,h6,h7,h8⟩
theorem zE {W:WZ} {Q:QZ} (h:Sim W Q) {x old v:Int} {s:StZ} (x0:0≤x) (x1:x<W.a*W.b) (hx:ZgL (sAt W x)) (ho:ZgL old) (hv:ZX s=some v):(Zs W x old s).1=(ZO Q x (Zc old) s).1∧Sim (Zs W x old s).2 (ZO Q x (Zc old) s).2∧(Zs W x old s).2.s=W.s+1∧(ZO Q x (Zc old) s).2.u=Q.u+1:=by
 have hsx:=h.st x x0 x1;have okw2:=Yi h.okw x old s;have okq2:=Ye h.okq x (Zc old) s;have hfr:=Xw W x old s;have hpx:=Xd (ZQ W x old s);by_cases e:sAt W x=old
 ·have ht:Zs W x old s=(true,Zbk W (2*x).toNat v):=by unfold Zs;rw[hv];simp only;rw[if_pos e]
  have hq:ZO Q x (Zc old) s=(true,{ Q with S:=Q.S.set x.toNat s,u:=Q.u+1 }):=by
   unfold ZO;rw[if_pos (by rw[hsx];unfold stW;rw[e])]
  have hlo:=zu h.okw x0 x1;have htr:=vN x0 hlo (show (Zs W x old s).1=true by rw[ht]);have hfrm:∀ j:Nat,j≠(2*x).toNat→wAt (Zs W x old s).2.ws j=wAt W.ws j:=fun j hj=>yx hj;refine ⟨by rw[ht,hq],⟨okw2,okq2,?_,fun i i0 i1=>?_,fun i i0 i1=>?_,fun i gn n i0 i1 g0 g1 n0 n1=>?_,?_,?_⟩,by rw[ht];rfl,by rw[hq]⟩
  ·rw[hq,hpx.1,hpx.2.1,hpx.2.2.1,hpx.2.2.2.1,hpx.2.2.2.2.1,hpx.2.2.2.2.2.1];exact h.par
  ·rw[hpx.1,hpx.2.1]at i1
   rw[hq];simp only;by_cases ei:i=x
   ·subst ei
    rw[List.getElem?_set_self (by have:=(List.getElem?_eq_some_iff.1 hsx).1;omega),htr.2.1]
   ·rw[List.getElem?_set_ne (by omega),htr.2.2.1 i i0 ei]
    exact h.st i i0 i1
  ·rw[hpx.1,hpx.2.1]at i1
   rw[hq,htr.2.2.2.1 i i0];exact h.tm i i0 i1
  ·rw[hpx.1,hpx.2.1]at i1⊢
   rw[hpx.2.2.2.2.1]at n1⊢;rw[hpx.2.2.2.2.2.1]at g1⊢;rw[hq,hfrm _ (by have:=xv i0 i1 g0 g1 n0 n1;omega)];exact h.jn i gn n i0 i1 g0 g1 n0 n1
  ·rw[hq,hfr.2.2.1];exact h.now
  ·rw[hq,hfr.2.1];exact h.lg
 ·have ht:Zs W x old s=(false,Yn W):=by unfold Zs;rw[hv];simp only;rw[if_neg e]
  have hq:ZO Q x (Zc old) s=(false,{ Q with u:=Q.u+1 }):=by
   unfold ZO;rw[if_neg];rw[hsx];intro k;exact e (ZfM hx ho (Option.some.inj k))
  refine ⟨by rw[ht,hq],?_,by rw[ht];rfl,by rw[hq]⟩;rw[ht,hq];exact Vi h
theorem Tz {W:WZ} {Q:QZ} (h:Sim W Q) {x gn n v:Int} {r:RcZ} (x0:0≤x) (x1:x<W.a*W.b) (g0:1≤gn) (g1:gn≤W.g) (n0:0≤n) (n1:n≤W.f) (hv:zK r=some v):Sim (ZH W x gn n r) (Xa Q x gn n r)∧(ZH W x gn n r).s=W.s+1:=by
 have okw2:=VX h.okw x gn n r;obtain ⟨pa,pb,pc,pd,pf,pg⟩:=h.par;obtain ⟨k1,k2,k3,k4,k5,k6,k7,k8,k9⟩:=Zr h.okq;obtain ⟨hcf,hw,hwl,_⟩:=Zk h.okw;have hc:=ZE hcf;have hx:x.toNat<Q.J.length:=by rw[pa,pb]at k4;omega
 have okq2:=XS h.okq x gn n r hx;have hsl:=xv x0 x1 g0 g1 n0 n1;have hall:=ZB hcf;have hwd:=Yt (f:=W.f) (g:=W.g) (show 0≤W.a*W.b by omega) hall.2 (by omega) (by omega);have hf:=ZaX W x gn n r;have hf2:=xB W x gn n r;have hp:=Xd (Ug W x gn n r);have hlt:ZY W.a W.b W.f W.g x gn n<W.ws.length:=by omega
 have hrd:=Zjb (W:=W) (x:=x) (g:=gn) (n:=n) hv (by omega) hlt;have hs:(ZH W x gn n r).s=W.s+1:=by
  unfold ZH;rw[hv];simp only;rw[if_neg (by omega),if_neg (by omega)]
  rfl
 refine ⟨⟨okw2,okq2,?_,fun i i0 i1=>?_,fun i i0 i1=>?_,fun i gn' n' i0 i1 h0 h1 m0 m1=>?_,?_,?_⟩,hs⟩
 ·rw[hp.1,hp.2.1,hp.2.2.1,hp.2.2.2.1,hp.2.2.2.2.1,hp.2.2.2.2.2.1];exact ⟨pa,pb,pc,pd,pf,pg⟩
 ·rw[hp.1,hp.2.1]at i1
  have e:stW (ZH W x gn n r) i=stW W i:=by
   unfold stW sAt;rw[Vt h.okw (by omega)]
  rw[e];exact h.st i i0 i1
 ·rw[hp.1,hp.2.1]at i1
  have e:tmW (ZH W x gn n r) i=tmW W i:=by
   unfold tmW tAt;rw[Vt h.okw (by omega)]
  rw[e];exact h.tm i i0 i1
 ·rw[hp.1,hp.2.1]at i1⊢
  rw[hp.2.2.2.2.1]at m1⊢;rw[hp.2.2.2.2.2.1]at h1⊢;obtain ⟨l,hl1,hl2⟩:=h.jn i gn' n' i0 i1 h0 h1 m0 m1;obtain ⟨lx,hx1,hx2⟩:=h.jn x gn n x0 x1 g0 g1 n0 n1;have hjs:Uv Q gn n=(gn - 1)*(W.f+1)+n:=by unfold Uv;rw[pf]
  have hnq:(Xa Q x gn n r).J=Q.J.set x.toNat (lx.set ((gn - 1)*(W.f+1)+n).toNat r):=by
   unfold Xa;simp only;rw[List.getD_eq_getElem?_getD,hx1,hjs];rfl
  rw[hnq];have q0:0≤(gn - 1)*(W.f+1):=Int.mul_nonneg (by omega) (by omega);have q1:0≤(gn' - 1)*(W.f+1):=Int.mul_nonneg (by omega) (by omega);by_cases es:ZY W.a W.b W.f W.g x gn n=ZY W.a W.b W.f W.g i gn' n'
  ·obtain ⟨rfl,rfl,rfl⟩:=ZfY x0 x1 g0 g1 n0 n1 i0 i1 h0 h1 m0 m1 es
   refine ⟨_,List.getElem?_set_self (by omega),?_⟩;rw[List.getElem?_set_self (by exact (List.getElem?_eq_some_iff.1 hx2).1),hrd,Zjg hv]
  ·have hw2:wAt (ZH W x gn n r).ws (ZY W.a W.b W.f W.g i gn' n').toNat=wAt W.ws (ZY W.a W.b W.f W.g i gn' n').toNat:=by
    have:=xv i0 i1 h0 h1 m0 m1;exact hf.2.2.2.2.2.2 _ (.inr (by omega))
   rw[hw2];by_cases ei:i=x
   ·subst ei
    refine ⟨_,List.getElem?_set_self (by omega),?_⟩;rw[hl1]at hx1;injection hx1 with hx1;subst hx1;rw[List.getElem?_set_ne ?_]
    ·exact hl2
    ·intro ek
     have ek2:(gn - 1)*(W.f+1)+n=(gn' - 1)*(W.f+1)+n':=(by omega);obtain ⟨e1,e2⟩:=muls (m:=W.f+1) (u:=gn - 1) (v:=gn' - 1) (r:=n) (s:=n') ek2 n0 (by omega) m0 (by omega);exact es (by rw[show gn=gn' by omega,e2])
   ·refine ⟨l,?_,hl2⟩
    rw[List.getElem?_set_ne (by omega)];exact hl1
 ·rw[hf2.2.2];exact h.now
 ·rw[hf2.2.1];exact h.lg
theorem xY {W:WZ} {Q:QZ} (h:Sim W Q) (k c g o w q p e:Int):Sim (Vz W k c g o w q p e) (U5 Q k c g o w q p e):=by
 obtain ⟨h1,h2,h3,h4,h5,h6,h7,h8⟩:=h;refine ⟨Vl h1 _ _ _ _ _ _ _ _,XB h2 _ _ _ _ _ _ _ _,h3,h4,h5,h6,h7,?_⟩;show Q.lg++[evC k c g o w q p Q.now e]=W.lg++[evC k c g o w q p W.t e];rw[h7,h8]
def rOf (T:TZ):RZ:=⟨T.way,T.x,T.gn,T.y,T.sh,T.pc,Zc T.wx,Zc T.wy,T.nx,T.ny,T.tx,T.ty,T.held,T.made,T.free,T.q,T.p,T.ta,T.en⟩
def Zca (G F:Int) (s:StZ):Prop:=0≤s.k∧s.k≤8∧0≤s.g∧s.g≤255∧0≤s.l∧s.l≤65535∧0≤s.f∧s.f≤255∧(s.k≠0→1≤s.g∧s.g≤G∧s.f≤F)
def ZfZ (G F x:Int):Prop:=ZgL x∧Zca G F (Zc x)
def yR (W:WZ):Prop:=∀ i:Int,0≤i→i<W.a*W.b→ZfZ W.g W.f (sAt W i)
def Za8 (G F:Int) (T:TZ):Prop:=ZfZ G F T.wx∧ZfZ G F T.wy∧(0≤T.tx.pr∧T.tx.pr≤65535)∧(0≤T.ty.pr∧T.ty.pr≤65535)∧(T.held=true→1≤T.way∧T.way≤3)
 ∧ (T.made=true→Zca G F T.ny∧T.ny.k≠0∧1≤T.ny.f∧0≤T.q∧T.q≤65535∧0≤T.p∧T.p≤65535)∧(T.free=true→Zca G F T.nx∧T.nx.k≠0∧(T.made=true→1≤T.nx.f))
theorem ZfU (G F:Int):ZfZ G F 0:=⟨by rfl,by decide,by decide,by decide,by decide,by decide,by decide,by decide,by decide,fun h=>absurd (by rfl) h⟩
theorem ZjY {G F v:Int} {s:StZ} (h:ZX s=some v) (hg:s.k≠0→1≤s.g∧s.g≤G∧s.f≤F):ZfZ G F v:=by
 obtain ⟨e,h1,h2,h3,h4,h5,h6,h7,h8⟩:=U4 h;refine ⟨Zkw h,?_⟩;rw[e];exact ⟨h1,h2,h3,h4,h5,h6,h7,h8,hg⟩
theorem z6 {W:WZ} (h:yR W) (k c g o w q p e:Int):yR (Vz W k c g o w q p e):=h
theorem Tq {W:WZ} (hW:okW W=true) (h:yR W) {x old:Int} {s:StZ} (x0:0≤x) (x1:x<W.a*W.b) (hg:s.k≠0→1≤s.g∧s.g≤W.g∧s.f≤W.f):yR (Zs W x old s).2:=by
 have hp:=Xd (ZQ W x old s);intro i i0 i1;rw[hp.1,hp.2.1]at i1;rw[hp.2.2.2.2.1,hp.2.2.2.2.2.1];by_cases e:i=x
 ·subst e
  cases hv:ZX s with
  | none =>
   have:(Zs W i old s).2=W:=(by unfold Zs;rw[hv]);rw[this];exact h i i0 i1
  | some v =>
   unfold Zs;rw[hv];simp only;split
   ·have hlo:=zu hW i0 i1
    have:sAt (Zbk W (2*i).toNat v) i=v:=Zdv (by omega);rw[this];exact ZjY hv hg
   ·exact h i i0 i1
 ·rw[UD i0 x0 e];exact h i i0 i1
theorem Uo {W:WZ} (hW:okW W=true) (h:yR W) (x g n:Int) (r:RcZ):yR (ZH W x g n r):=by
 have hp:=Xd (Ug W x g n r);intro i i0 i1;rw[hp.1,hp.2.1]at i1;rw[hp.2.2.2.2.1,hp.2.2.2.2.2.1];have:sAt (ZH W x g n r) i=sAt W i:=by unfold sAt;exact Vt hW (by omega)
 rw[this];exact h i i0 i1
theorem ZiT {a b:TmZ} {l o M:Int} (h1:0≤a.pr) (h2:a.pr≤M) (h3:0≤b.pr) (h4:b.pr≤M) (h5:0≤M):0≤(Zf a b l o).2∧(Zf a b l o).2≤M:=by
 unfold Zf;obtain ⟨hi,e1⟩:∃ x,(if a.sd=1 then b.pr else a.pr)=x:=⟨_,rfl⟩;obtain ⟨lo,e2⟩:∃ x,(if a.sd=1 then a.pr else b.pr)=x:=⟨_,rfl⟩;obtain ⟨m,e3⟩:∃ x,(if o<l then o else l)=x:=⟨_,rfl⟩;have b1:0≤hi∧hi≤M:=by rw[← e1];split<;>omega
 have b2:0≤lo∧lo≤M:=by rw[← e2];split<;>omega
 rw[e1,e2,e3];clear e1 e2 e3
 repeat' split
 all_goals first|(simp only;omega)
theorem Zg6 {W:WZ} {Q:QZ} (h:Sim W Q) (T:TZ):Zak Q (rOf T)=YI W T:=by
 obtain ⟨pa,pb,_⟩:=h.par;have hc:=ZE (Zk h.okw).1;have key:∀ x:Int,0≤x→x<W.a*W.b→UH W.a W.b x=x / W.b∧0≤x / W.b:=fun x x0 x1=>by
  unfold UH;rw[if_neg (by omega),if_pos x1];exact ⟨rfl,Int.ediv_nonneg x0 (by omega)⟩
 have out:∀ x:Int,¬ (0≤x∧x<W.a*W.b)→UH W.a W.b x<0:=fun x hx=>by
  unfold UH;by_cases x0:x<0
  ·rw[if_pos x0];omega
  ·rw[if_neg x0,if_neg (by omega)];omega
 unfold Zak YI;show decide (T.x<0∨Q.a*Q.b≤T.x∨T.y<0∨Q.a*Q.b≤T.y∨T.x / Q.b=T.y / Q.b)=_;rw[pa,pb];by_cases hx:0≤T.x∧T.x<W.a*W.b
 ·obtain ⟨ex,nx⟩:=key T.x hx.1 hx.2
  by_cases hy:0≤T.y∧T.y<W.a*W.b
  ·obtain ⟨ey,ny⟩:=key T.y hy.1 hy.2
   rw[ex,ey];exact decide_eq_decide.2 ⟨fun h=>by omega,fun h=>by omega⟩
  ·have:=out T.y hy
   exact decide_eq_decide.2 ⟨fun _=>.inr (.inl this),fun _=>by omega⟩
 ·have:=out T.x hx
  exact decide_eq_decide.2 ⟨fun _=>.inl this,fun _=>by omega⟩
def Zen (T:TZ):Prop:=(10≤T.pc→(T.made=true→T.free=true)∧(T.held=true→T.free=true))∧(T.made=true→T.free=false→1≤T.q)
theorem Zi0 {B W:WZ} {T:TZ} (h:Zcl B W T):Zen T:=by
 obtain ⟨h1,h2,h3,h4,h5,h6,h7,h8,h9⟩:=h;have key:T.held=true→10≤T.pc→T.free=true:=fun a b=>by
  by_cases f:T.free=true
  ·exact f
  ·have:=(h9 a (by simpa using f)).2.2.2.2.2.2.2.2
   omega
 exact ⟨fun p=>⟨fun m=>key (h7 m) p,fun a=>key a p⟩,fun m f=>((h9 (h7 m) f).2.2.1 m).1⟩
def ZgV (W:WZ) (Q:QZ) (T:TZ):Prop:=∃ Q',ZG Q (rOf T)=(rOf (Zw W T).1,Q')∧Sim (Zw W T).2 Q'∧(Zw W T).2.s - W.s=Q'.u - Q.u∧yR (Zw W T).2∧Za8 W.g W.f (Zw W T).1
section
variable {W:WZ} {Q:QZ} {T:TZ}
theorem sQ (h:Sim W Q) {x:Int} (x0:0≤x) (x1:x<W.a*W.b):vf Q x=Zc (sAt W x):=by
 unfold vf;rw[List.getD_eq_getElem?_getD,h.st x x0 x1];rfl
theorem tQ (h:Sim W Q) {x:Int} (x0:0≤x) (x1:x<W.a*W.b):ZdV Q x=Yc (tAt W x):=by
 unfold ZdV;rw[List.getD_eq_getElem?_getD,h.tm x x0 x1];rfl
theorem Zfk (h14:¬ 14≤T.pc) (hi:YI W T=false) (h:Sim W Q):Zw W T=({ (ZP W T).1 with pc:=T.pc+1 },(ZP W T).2)∧ZG Q (rOf T)=Uc Q { rOf T with pc:=T.pc+1 } T.pc:=by
 refine ⟨?_,?_⟩
 ·unfold Zw
  rw[if_neg h14,if_neg (by rw[hi];simp)]
 ·unfold ZG
  rw[if_neg (show ¬ 14≤(rOf T).pc from h14),Zg6 h T,if_neg (by rw[hi];simp)]
  rfl
theorem ZfE (h:Sim W Q) (R:RZ) (hR:R.way=T.way∧R.sx=Zc T.wx∧R.tx=T.tx∧R.gn=T.gn∧R.sh=T.sh):UZ Q R=Z9 W T (Zc T.wx):=by
 obtain ⟨pa,pb,pc,pd,pf,pg⟩:=h.par;obtain ⟨e1,e2,e3,e4,e5⟩:=hR;unfold UZ Z9;rw[e1,e2,e3,e4,e5,pc,pd];by_cases w:T.way=3
 ·refine decide_eq_decide.2 ?_
  rw[if_pos w];exact ⟨fun x=>.inr ⟨w,x⟩,fun x=>by
   rcases x with x|x
   ·omega
   ·exact x.2⟩
 ·refine decide_eq_decide.2 ?_
  rw[if_neg w];exact ⟨fun x=>.inl ⟨by omega,x.2.2⟩,fun x=>by
   rcases x with x|x
   ·exact ⟨by omega,by omega,x.2⟩
   ·exact absurd x.1 w⟩
theorem Zgv (h:Sim W Q) (hg:yR W) (ht:Za8 W.g W.f T) (x0:0≤T.x) (x1:T.x<W.a*W.b) (hf:T.free=false) (hm:T.made=false):∃ Q',c2R Q { rOf T with pc:=T.pc+1 }=(rOf { (Xj W T).1 with pc:=T.pc+1 },Q')∧Sim (Xj W T).2 Q'∧(Xj W T).2.s - W.s=Q'.u - Q.u∧yR (Xj W T).2∧Za8 W.g W.f { (Xj W T).1 with pc:=T.pc+1 }:=by
 have hw:=ZfE h { rOf T with pc:=T.pc+1 } ⟨rfl,rfl,rfl,rfl,rfl⟩;obtain ⟨t1,t2,t3,t4,t5,t6,t7⟩:=ht;unfold c2R Xj;rw[hw];by_cases c:Z9 W T (Zc T.wx)=true
 ·rw[if_pos c,if_pos c]
  have hk:((Zc T.wx).k=1∨(Zc T.wx).k=2)∧1≤T.way∧T.way≤3:=by
   have:=of_decide_eq_true c;omega
  have hS:YX (Zc T.wx)={ Zc T.wx with k:=(Zc T.wx).k+2 }:=by
   unfold YX;rcases hk.1 with e|e
   ·rw[if_pos e,e];rfl
   ·rw[if_neg (by omega),if_pos e,e];rfl
  obtain ⟨g1,g2,g3,g4,g5,g6,g7,g8,g9⟩:=t1.2;obtain ⟨v,hv⟩:=VL (s:=YX (Zc T.wx)) (by rw[hS];simp only;omega) (by rw[hS];simp only;omega) (by rw[hS];exact g3) (by rw[hS];exact g4) (by rw[hS];exact g5) (by rw[hS];exact g6) (by rw[hS];exact g7) (by rw[hS];exact g8);have st:=zE h x0 x1 (hg T.x x0 x1).1 t1.1 hv;have gw:=Tq h.okw hg (old:=T.wx) (s:=YX (Zc T.wx)) x0 x1 (by rw[hS];exact fun _=>g9 (by omega));show ∃ Q',({ rOf T with pc:=T.pc+1,held:=(ZO Q T.x (Zc T.wx) { Zc T.wx with k:=(Zc T.wx).k+2 }).1 },(ZO Q T.x (Zc T.wx) { Zc T.wx with k:=(Zc T.wx).k+2 }).2)=(_,Q')∧_;rw[← hS,← st.1];exact ⟨_,rfl,st.2.1,by rw[st.2.2.1,st.2.2.2];omega,gw,t1,t2,t3,t4,fun _=>hk.2,fun a=>by (replace a:T.made=true:=a;rw[hm]at a;cases a),fun a=>by (replace a:T.free=true:=a;rw[hf]at a;cases a)⟩
 ·rw[if_neg c,if_neg c]
  exact ⟨_,rfl,h,by show W.s - W.s=Q.u - Q.u;omega,hg,t1,t2,t3,t4,t5,t6,t7⟩
theorem Zgd {s:StZ} {q F G:Int} (hs:Zca G F s) (hF4:F≤200) (he:(Zz s q F).2=0):(∃ v,ZX (Zz s q F).1=some v)∧Zca G F (Zz s q F).1∧(Zz s q F).1.k≠0∧1≤(Zz s q F).1.f∧1≤q∧q≤s.l:=by
 obtain ⟨g1,g2,g3,g4,g5,g6,g7,g8,g9⟩:=hs;unfold Zz at he⊢;by_cases a1:ZA s.k=false
 ·rw[if_pos a1]at he;simp at he
 rw[if_neg a1]at he⊢;by_cases a2:q<1
 ·rw[if_pos a2]at he;simp at he
 rw[if_neg a2]at he⊢;by_cases a3:s.l<q
 ·rw[if_pos a3]at he;simp at he
 rw[if_neg a3]at he⊢;by_cases a4:F≤s.f
 ·rw[if_pos a4]at he;simp at he
 rw[if_neg a4];have hk:=Ul (by simpa using a1);have g9:=g9 (by omega);have hE:∃ e:StZ,Z2 { s with l:=s.l - q,f:=s.f+1 } F=e∧e.l=s.l - q∧e.f=s.f+1∧e.g=s.g∧1≤e.k∧e.k≤8:=by
  refine ⟨_,rfl,?_⟩;unfold Z2;simp only;split
  ·exact ⟨rfl,rfl,rfl,by simp,by simp⟩
  ·split
   ·exact ⟨rfl,rfl,rfl,by simp,by simp⟩
   ·exact ⟨rfl,rfl,rfl,by show 1≤s.k;omega,by show s.k≤8;omega⟩
 obtain ⟨e,h1,h2,h3,h4,h5,h6⟩:=hE;simp only;rw[h1];have hF:0≤s.f:=g7;by_cases big:e.f≤255
 ·exact ⟨VL (by omega) (by omega) (by omega) (by omega) (by omega) (by omega) (by omega) big,⟨by omega,by omega,by omega,by omega,by omega,by omega,by omega,big,fun _=>by omega⟩,by omega,by omega,by omega,by omega⟩
 ·omega
end
section
variable {W:WZ} {Q:QZ} {T:TZ}
theorem ZeT (h:Sim W Q) (hg:yR W) (ht:Za8 W.g W.f T) (x0:0≤T.x) (x1:T.x<W.a*W.b) (y0:0≤T.y) (y1:T.y<W.a*W.b) (hf:T.free=false) (hm:T.made=false):∃ Q',XE Q { rOf T with pc:=T.pc+1 }=(rOf { (Y7 W T).1 with pc:=T.pc+1 },Q')∧Sim (Y7 W T).2 Q'∧(Y7 W T).2.s - W.s=Q'.u - Q.u∧yR (Y7 W T).2∧Za8 W.g W.f { (Y7 W T).1 with pc:=T.pc+1 }:=by
 obtain ⟨t1,t2,t3,t4,t5,t6,t7⟩:=ht;obtain ⟨pa,pb,pc,pd,pf,pg⟩:=h.par;have hcf:=ZE (Zk h.okw).1;have hcond:(T.held=false∨(Zc T.wy).k≠(if T.way=1 then 1 else 2)∨(T.way=2∧ZK Q.c Q.d T.ty.nm (Yj Q.d T.ty.pr)≠T.sh))↔¬ (T.held=true∧YG W T (Zc T.wy)=true):=by
  rw[pc,pd];unfold YG;by_cases hh:T.held=true
  ·have hw:=t5 hh
   rw[hh,decide_eq_true_eq];by_cases w1:T.way=1
   ·rw[if_pos w1]
    exact ⟨fun a b=>by rcases a with a|a|a<;>first|(cases a;done)|omega,fun a=>.inr (.inl fun k=>a ⟨rfl,.inl ⟨w1,k⟩⟩)⟩
   ·rw[if_neg w1]
    by_cases k2:(Zc T.wy).k=2
    ·by_cases w2:T.way=2
     ·by_cases hs:ZK W.c W.d T.ty.nm (Yj W.d T.ty.pr)=T.sh
      ·exact ⟨fun a=>by
        rcases a with a|a|a
        ·cases a
        ·exact absurd k2 a
        ·exact absurd hs a.2,fun a=>absurd ⟨rfl,.inr (.inl ⟨w2,k2,hs⟩)⟩ a⟩
      ·exact ⟨fun _ b=>by
        rcases b.2 with b|b|b
        ·omega
        ·exact hs b.2.2
        ·omega,fun _=>.inr (.inr ⟨w2,hs⟩)⟩
     ·exact ⟨fun a=>by
       rcases a with a|a|a
       ·cases a
       ·exact absurd k2 a
       ·exact absurd a.1 w2,fun a=>absurd ⟨rfl,.inr (.inr ⟨by omega,k2⟩)⟩ a⟩
    ·exact ⟨fun _ b=>by
      rcases b.2 with b|b|b
      ·omega
      ·exact k2 b.2.1
      ·exact k2 b.2,fun _=>.inr (.inl k2)⟩
  ·have hh:T.held=false:=by simpa using hh
   exact ⟨fun _ b=>(by rw[hh]at b;exact absurd b.1 (by simp)),fun _=>.inl hh⟩
 obtain ⟨⟨q,pr⟩,hq⟩:∃ z,Zf T.tx T.ty (Zc T.wx).l (Zc T.wy).l=z:=⟨_,rfl⟩;have hp:=ZiT (a:=T.tx) (b:=T.ty) (l:=(Zc T.wx).l) (o:=(Zc T.wy).l) t3.1 t3.2 t4.1 t4.2 (by omega);unfold XE Y7;show ∃ Q',(if (T.held=false∨(Zc T.wy).k≠(if T.way=1 then 1 else 2)∨(T.way=2∧ZK Q.c Q.d T.ty.nm (Yj Q.d T.ty.pr)≠T.sh)) then _ else _)=_∧_;by_cases c:T.held=true∧YG W T (Zc T.wy)=true
 ·rw[if_neg (fun x=>hcond.1 x c),if_pos c]
  simp only[rOf];simp only[hq,pf]at hp⊢;by_cases he:(Zz (Zc T.wy) q W.f).2=0
  ·rw[if_neg (fun x=>x he),if_pos he]
   obtain ⟨⟨v,hv⟩,gs,gk,gf,q1,q2⟩:=Zgd t2.2 (show W.f≤200 by omega) he;have hl:=t2.2.2.2.2.2.2.1;obtain ⟨n,hn⟩:∃ n,(Zz (Zc T.wy) q W.f).1=n:=⟨_,rfl⟩;rw[hn]at hv gs gk gf⊢;have st:=zE h y0 y1 (hg T.y y0 y1).1 t2.1 hv;have gw:=Tq h.okw hg (old:=T.wy) (s:=n) y0 y1 gs.2.2.2.2.2.2.2.2;rw[← st.1];by_cases htn:(Zs W T.y T.wy n).1=true
   ·rw[if_neg (by rw[htn];simp),if_pos htn]
    have s2:=xY st.2.1 2 T.x (Zc T.wx).g T.y (Zc T.wy).g q pr 0;refine ⟨_,(by rw[h.now];try rfl),s2,?_,z6 gw _ _ _ _ _ _ _ _,t1,t2,t3,t4,t5,fun _=>⟨gs,gk,gf,by show 0≤q;omega,by show q≤65535;omega,hp.1,hp.2⟩,fun a=>by (replace a:T.free=true:=a;rw[hf]at a;cases a)⟩;show (Zs W T.y T.wy n).2.s - W.s=(ZO Q T.y (Zc T.wy) n).2.u - Q.u;rw[st.2.2.1,st.2.2.2];omega
   ·have htn:(Zs W T.y T.wy n).1=false:=by simpa using htn
    rw[if_pos htn,if_neg (by rw[htn];simp)];exact ⟨_,rfl,st.2.1,by rw[st.2.2.1,st.2.2.2];omega,gw,t1,t2,t3,t4,t5,fun a=>by (replace a:T.made=true:=a;rw[hm]at a;cases a),fun a=>by (replace a:T.free=true:=a;rw[hf]at a;cases a)⟩
  ·rw[if_pos he,if_neg he]
   exact ⟨_,rfl,h,by show W.s - W.s=Q.u - Q.u;omega,hg,t1,t2,t3,t4,t5,fun a=>by (replace a:T.made=true:=a;rw[hm]at a;cases a),fun a=>by (replace a:T.free=true:=a;rw[hf]at a;cases a)⟩
 ·rw[if_pos (hcond.2 c),if_neg c]
  exact ⟨_,rfl,h,by show W.s - W.s=Q.u - Q.u;omega,hg,t1,t2,t3,t4,t5,t6,t7⟩
theorem Zic {s:StZ} {q F G:Int} (hs:Zca G F s) (hF4:F≤200) (he:(Zh s q F).2=0):(∃ v,ZX (Zh s q F).1=some v)∧Zca G F (Zh s q F).1∧(Zh s q F).1.k≠0∧(1≤q→1≤(Zh s q F).1.f):=by
 obtain ⟨g1,g2,g3,g4,g5,g6,g7,g8,g9⟩:=hs;have key:∀ t:StZ,(t.k=3∨t.k=4)→0≤t.l→t.l≤65535→0≤t.f→t.f≤F→1≤t.g→t.g≤G→t.g≤255 →
   (∃ v,ZX (Yz t F)=some v)∧Zca G F (Yz t F)∧(Yz t F).k≠0∧(Yz t F).f=t.f:=by
  intro t tk l0 l1 f0 f1 a0 a1 a2
  have hE:∃ e:StZ,Z2 (Z3 t) F=e∧e.l=t.l∧e.f=t.f∧e.g=t.g∧1≤e.k∧e.k≤8:=by
   have hL:∃ u:StZ,Z3 t=u∧u.l=t.l∧u.f=t.f∧u.g=t.g∧(u.k=1∨u.k=2):=by
    refine ⟨_,rfl,?_⟩;unfold Z3;rcases tk with e|e
    ·rw[if_pos e];exact ⟨rfl,rfl,rfl,.inl rfl⟩
    ·rw[if_neg (by omega),if_pos e];exact ⟨rfl,rfl,rfl,.inr rfl⟩
   obtain ⟨u,hu,ul,uf,ug,uk⟩:=hL;rw[hu];refine ⟨_,rfl,?_⟩;unfold Z2;by_cases c1:u.l=0
   ·rw[if_pos c1];exact ⟨ul,uf,ug,by simp,by simp⟩
   rw[if_neg c1];by_cases c2:F≤u.f
   ·rw[if_pos c2];exact ⟨ul,uf,ug,by simp,by simp⟩
   rw[if_neg c2];exact ⟨ul,uf,ug,by omega,by omega⟩
  obtain ⟨e,he,el,ef,eg,ek,ek2⟩:=hE
  unfold Yz
  rw[he]
  by_cases c:e.fl=true
  ·rw[if_pos c]
   refine ⟨VL (by simp) (by simp) (by simp only;omega) (by simp only;omega) (by simp only;omega) (by simp only;omega) (by simp only;omega) (by simp only;omega),⟨by simp,by simp,by simp only;omega,by simp only;omega,by simp only;omega,by simp only;omega,by simp only;omega,by simp only;omega,fun _=>by simp only;omega⟩,by simp,ef⟩
  ·rw[if_neg c]
   exact ⟨VL (by omega) ek2 (by omega) (by omega) (by omega) (by omega) (by omega) (by omega),⟨by omega,ek2,by omega,by omega,by omega,by omega,by omega,by omega,fun _=>by omega⟩,by omega,ef⟩
 unfold Zh at he⊢;by_cases a1:Yb s.k=false
 ·rw[if_pos a1]at he;simp at he
 rw[if_neg a1]at he⊢;by_cases a2:q<0
 ·rw[if_pos a2]at he;simp at he
 rw[if_neg a2]at he⊢;by_cases a3:s.l<q
 ·rw[if_pos a3]at he;simp at he
 rw[if_neg a3]at he⊢;have hk:=xV (by simpa using a1);have g9:=g9 (by omega);by_cases c:0<q
 ·rw[if_pos c]at he⊢
  by_cases a4:F≤s.f
  ·rw[if_pos a4]at he;simp at he
  rw[if_neg a4];have k:=key { s with l:=s.l - q,f:=s.f+1 } hk (by simp only;omega) (by simp only;omega) (by simp only;omega) (by simp only;omega) g9.1 g9.2.1 g4;exact ⟨k.1,k.2.1,k.2.2.1,fun _=>by rw[k.2.2.2];simp only;omega⟩
 ·rw[if_neg c]
  have k:=key s hk g5 g6 g7 g9.2.2 g9.1 g9.2.1 g4;exact ⟨k.1,k.2.1,k.2.2.1,fun a=>by omega⟩
theorem ZhZ (h:Sim W Q) (hg:yR W) (ht:Za8 W.g W.f T) (hl:Zen T) (x0:0≤T.x) (x1:T.x<W.a*W.b):∃ Q',T7 Q { rOf T with pc:=T.pc+1 }=(rOf { (Uf W T).1 with pc:=T.pc+1 },Q')∧Sim (Uf W T).2 Q'∧(Uf W T).2.s - W.s=Q'.u - Q.u∧yR (Uf W T).2∧Za8 W.g W.f { (Uf W T).1 with pc:=T.pc+1 }:=by
 obtain ⟨t1,t2,t3,t4,t5,t6,t7⟩:=ht;obtain ⟨pa,pb,pc,pd,pf,pg⟩:=h.par;have hcf:=ZE (Zk h.okw).1;have el:T7 Q { rOf T with pc:=T.pc+1 }=(if T.held=false∨T.free=true then ({ rOf T with pc:=T.pc+1 },Q) else if (Zh (Zc T.wx) (XK T) Q.f).2≠0 then ({ rOf T with pc:=T.pc+1 },Q) else if (ZO Q T.x (Zc T.wx) (Zh (Zc T.wx) (XK T) Q.f).1).1=false then ({ rOf T with pc:=T.pc+1 },(ZO Q T.x (Zc T.wx) (Zh (Zc T.wx) (XK T) Q.f).1).2) else ({ { rOf T with pc:=T.pc+1 } with free:=true,nx:=(Zh (Zc T.wx) (XK T) Q.f).1,en:=Q.now },if 5≤(Zh (Zc T.wx) (XK T) Q.f).1.k then U5 (ZO Q T.x (Zc T.wx) (Zh (Zc T.wx) (XK T) Q.f).1).2 7 T.x (Zh (Zc T.wx) (XK T) Q.f).1.g 0 0 0 0 (Zh (Zc T.wx) (XK T) Q.f).1.k else (ZO Q T.x (Zc T.wx) (Zh (Zc T.wx) (XK T) Q.f).1).2)):=rfl;rw[el];clear el;unfold Uf;by_cases c:T.held=true∧T.free=false
 ·rw[if_neg (by rw[c.1,c.2];simp),if_pos c]
  have hqm:T.made=true→XK T=T.q:=fun m=>by unfold XK;rw[if_pos m]
  rw[pf];generalize XK T=qy at hqm⊢;by_cases he:(Zh (Zc T.wx) qy W.f).2=0
  ·rw[if_neg (fun x=>x he),if_pos he]
   obtain ⟨⟨v,hv⟩,gs,gk,gf⟩:=Zic t1.2 (show W.f≤200 by omega) he;obtain ⟨n,hn⟩:∃ n,(Zh (Zc T.wx) qy W.f).1=n:=⟨_,rfl⟩;rw[hn]at hv gs gk gf⊢;have st:=zE h x0 x1 (hg T.x x0 x1).1 t1.1 hv;have gw:=Tq h.okw hg (old:=T.wx) (s:=n) x0 x1 gs.2.2.2.2.2.2.2.2;rw[← st.1];by_cases htn:(Zs W T.x T.wx n).1=true
   ·rw[if_neg (by rw[htn];simp),if_pos htn]
    have hover:(5≤n.k)↔zJ n.k=true:=by
     have:=gs.2.1;simp only[zJ,Bool.and_eq_true,decide_eq_true_eq];omega
    have gt:Za8 W.g W.f { T with free:=true,nx:=n,en:=W.t,pc:=T.pc+1 }:=⟨t1,t2,t3,t4,t5,t6,fun _=>⟨gs,gk,fun a=>gf (by
     rw[hqm a];exact hl.2 a c.2)⟩⟩
    by_cases h5:5≤n.k
    ·rw[if_pos h5,if_pos (hover.1 h5)]
     have s2:=xY st.2.1 7 T.x n.g 0 0 0 0 n.k;refine ⟨_,(by rw[h.now];try rfl),s2,?_,z6 gw _ _ _ _ _ _ _ _,gt⟩;show (Zs W T.x T.wx n).2.s - W.s=(ZO Q T.x (Zc T.wx) n).2.u - Q.u;rw[st.2.2.1,st.2.2.2];omega
    ·rw[if_neg h5,if_neg (fun x=>h5 (hover.2 x))]
     exact ⟨_,(by rw[h.now];try rfl),st.2.1,by rw[st.2.2.1,st.2.2.2];omega,gw,gt⟩
   ·have htn:(Zs W T.x T.wx n).1=false:=by simpa using htn
    rw[if_pos htn,if_neg (by rw[htn];simp)];exact ⟨_,rfl,st.2.1,by rw[st.2.2.1,st.2.2.2];omega,gw,t1,t2,t3,t4,t5,t6,t7⟩
  ·rw[if_pos he,if_neg he]
   exact ⟨_,rfl,h,by show W.s - W.s=Q.u - Q.u;omega,hg,t1,t2,t3,t4,t5,t6,t7⟩
 ·have c':T.held=false∨T.free=true:=by
   by_cases hh:T.held=true
   ·exact .inr (by
     by_cases hf:T.free=true
     ·exact hf
     ·exact absurd ⟨hh,by simpa using hf⟩ c)
   ·exact .inl (by simpa using hh)
  rw[if_pos c',if_neg c];exact ⟨_,rfl,h,by show W.s - W.s=Q.u - Q.u;omega,hg,t1,t2,t3,t4,t5,t6,t7⟩
end
section
variable {W:WZ} {Q:QZ} {T:TZ}
theorem Zg1 {W:WZ} (hW:okW W=true) {q p t c g:Int} (q0:0≤q) (q1:q≤65535) (p0:0≤p) (p1:p≤65535) (t0:0≤t) (t1:t≤1000000) (c0:0≤c) (c1:c<W.a*W.b) (g0:1≤g) (g1:g≤W.g):∃ v,zK ⟨1,q,p,t,c,g⟩=some v:=by
 have hall:=ZB (Zk hW).1;have hc:=ZE (Zk hW).1;exact ZcR (by simp) (by simp) q0 q1 p0 p1 t0 t1 c0 (by simp only;omega) (by simp only;omega) (by simp only;omega)
theorem Zi5 {G F:Int} {s:StZ} {t:Int} (hs:Zca G F s) (hF:F≤200) (t0:0≤t) (t1:t≤1000000):∃ v,zK (ZJ s t).1=some v:=by
 obtain ⟨g1,g2,g3,g4,g5,g6,g7,g8,g9⟩:=hs;unfold ZJ
 repeat' split
 all_goals exact ZcR (by simp) (by simp) (by simp only;omega) (by simp only;omega) (by simp only;omega) (by simp only;omega) (by simp only;omega) (by simp only;omega) (by simp) (by simp) (by simp) (by simp)
theorem Zf7 (h:Sim W Q) (hg:yR W) (ht:Za8 W.g W.f T) (hT:okT T=true) (hl:Zen T) (hJ:(T.pc≤5→T.made=false)∧(T.pc≤7→T.free=false)∧T.pc≤14):ZgV W Q T:=by
 unfold ZgV;by_cases h14:14≤T.pc
 ·refine ⟨Q,?_,?_⟩
  ·unfold ZG Zw
   rw[if_pos h14,if_pos (show 14≤(rOf T).pc from h14)]
  ·unfold Zw
   rw[if_pos h14];exact ⟨h,by show W.s - W.s=Q.u - Q.u;omega,hg,ht⟩
 by_cases hi:YI W T=true
 ·refine ⟨Q,?_,?_⟩
  ·unfold ZG Zw
   rw[if_neg h14,if_pos hi,if_neg (show ¬ 14≤(rOf T).pc from h14),Zg6 h T,if_pos hi]
   rfl
  ·unfold Zw
   rw[if_neg h14,if_pos hi];exact ⟨h,by show W.s - W.s=Q.u - Q.u;omega,hg,ht⟩
 have hi:YI W T=false:=by simpa using hi
 obtain ⟨x0,x1,y0,y1,_⟩:=Xc h.okw hi;obtain ⟨e1,e2⟩:=Zfk h14 hi h;rw[e1,e2];clear e1 e2;obtain ⟨r1,_,_,_,_,_,_,_,_,_,_,_,_,_,ta0,ta1,en0,en1,_⟩:=XQ hT;have ht':=ht;obtain ⟨t1,t2,t3,t4,t5,t6,t7⟩:=ht;have hcf:=ZE (Zk h.okw).1;have sub0:(Yn W).s - W.s=(YO Q).u - Q.u:=by show W.s+1 - W.s=Q.u+1 - Q.u;omega
 have nochg:W.s - W.s=Q.u - Q.u:=by omega
 unfold Uc ZP;by_cases k0:T.pc=0
 ·rw[if_pos k0,if_pos k0]
  refine ⟨YO Q,?_,Vi h,sub0,hg,hg T.x x0 x1,t2,t3,t4,t5,t6,t7⟩;show ({ rOf T with pc:=T.pc+1,sx:=vf Q T.x },YO Q)=_;rw[sQ h x0 x1];rfl
 rw[if_neg k0,if_neg k0];by_cases k1:T.pc=1
 ·rw[if_pos k1,if_pos k1]
  have hpr:0≤(Yc (tAt W T.x)).pr∧(Yc (tAt W T.x)).pr≤65535:=by
   have h3:=XM (tAt W T.x) 5 16;simp only[Yc];omega
  refine ⟨YO Q,?_,Vi h,sub0,hg,t1,t2,hpr,t4,t5,t6,t7⟩;show ({ rOf T with pc:=T.pc+1,tx:=ZdV Q T.x },YO Q)=_;rw[tQ h x0 x1];rfl
 rw[if_neg k1,if_neg k1];by_cases k2:T.pc=2
 ·rw[if_pos k2,if_pos k2]
  exact Zgv h hg ht' x0 x1 (hJ.2.1 (by omega)) (hJ.1 (by omega))
 rw[if_neg k2,if_neg k2];by_cases k3:T.pc=3
 ·rw[if_pos k3,if_pos k3]
  refine ⟨YO Q,?_,Vi h,sub0,hg,t1,hg T.y y0 y1,t3,t4,t5,t6,t7⟩;show ({ rOf T with pc:=T.pc+1,sy:=vf Q T.y },YO Q)=_;rw[sQ h y0 y1];rfl
 rw[if_neg k3,if_neg k3];by_cases k4:T.pc=4
 ·rw[if_pos k4,if_pos k4]
  have hpr:0≤(Yc (tAt W T.y)).pr∧(Yc (tAt W T.y)).pr≤65535:=by
   have h3:=XM (tAt W T.y) 5 16;simp only[Yc];omega
  refine ⟨YO Q,?_,Vi h,sub0,hg,t1,t2,t3,hpr,t5,t6,t7⟩;show ({ rOf T with pc:=T.pc+1,ty:=ZdV Q T.y },YO Q)=_;rw[tQ h y0 y1];rfl
 rw[if_neg k4,if_neg k4];by_cases k5:T.pc=5
 ·rw[if_pos k5,if_pos k5]
  exact ZeT h hg ht' x0 x1 y0 y1 (hJ.2.1 (by omega)) (hJ.1 (by omega))
 rw[if_neg k5,if_neg k5];have look:∃ Q',c6R Q { rOf T with pc:=T.pc+1 }=(rOf { (YE W T).1 with pc:=T.pc+1 },Q')∧Sim (YE W T).2 Q'∧(YE W T).2.s - W.s=Q'.u - Q.u∧yR (YE W T).2∧Za8 W.g W.f { (YE W T).1 with pc:=T.pc+1 }:=by
  unfold c6R YE;show ∃ Q',(if T.held=true∧T.free=false then ({ rOf T with pc:=T.pc+1,sx:=vf Q T.x },YO Q) else ({ rOf T with pc:=T.pc+1 },Q))=_∧_;by_cases c:T.held=true∧T.free=false
  ·rw[if_pos c,if_pos c]
   refine ⟨YO Q,?_,Vi h,sub0,hg,hg T.x x0 x1,t2,t3,t4,t5,t6,t7⟩;rw[sQ h x0 x1];rfl
  ·rw[if_neg c,if_neg c]
   exact ⟨Q,rfl,h,nochg,hg,t1,t2,t3,t4,t5,t6,t7⟩
 have letg:=ZhZ h hg ht' hl x0 x1;by_cases k6:T.pc=6
 ·rw[if_pos k6,if_pos (.inl k6)];exact look
 rw[if_neg k6];by_cases k7:T.pc=7
 ·rw[if_pos k7,if_neg (by omega),if_pos (.inl k7)];exact letg
 rw[if_neg k7];by_cases k8:T.pc=8
 ·rw[if_pos k8,if_pos (.inr k8)];exact look
 rw[if_neg k8];by_cases k9:T.pc=9
 ·rw[if_pos k9,if_neg (by omega),if_pos (.inr k9)];exact letg
 rw[if_neg k9,if_neg (show ¬ (T.pc=6∨T.pc=8) by omega),if_neg (show ¬ (T.pc=7∨T.pc=9) by omega)];have gt:Za8 W.g W.f { T with pc:=T.pc+1 }:=⟨t1,t2,t3,t4,t5,t6,t7⟩;have late:=hl.1 (by omega);unfold YC;by_cases k10:T.pc=10
 ·rw[if_pos k10]
  by_cases m:T.made=true
  ·obtain ⟨n1,n2,n3,q0,q1,p0,p1⟩:=t6 m
   obtain ⟨f1,f2,f3⟩:=t7 (late.1 m);have f4:=f1.2.2.2.2.2.2.2.2 f2;have n4:=n1.2.2.2.2.2.2.2.2 n2;obtain ⟨v,hv⟩:=Zg1 h.okw q0 q1 p0 p1 ta0 ta1 y0 y1 n4.1 n4.2.1;have f5:=f3 m;have sn:=Tz h (gn:=T.nx.g) (n:=T.nx.f - 1) x0 x1 f4.1 f4.2.1 (by omega) (by omega) hv;rw[if_pos ⟨k10,m⟩];refine ⟨_,?_,sn.1,?_,Uo h.okw hg _ _ _ _,gt⟩
   ·show ({ rOf T with pc:=T.pc+1 },if T.made=true then _ else _)=_
    rw[if_pos m];rfl
   ·show (ZH W T.x T.nx.g (T.nx.f - 1) _).s - W.s=Q.u+1 - Q.u
    have:(ZH W T.x T.nx.g (T.nx.f - 1) (Ud T T.y T.ny.g)).s=W.s+1:=sn.2;omega
  ·rw[if_neg (show ¬ (T.pc=10∧T.made=true) from fun x=>m x.2),if_neg (show ¬ (T.pc=11∧T.made=true) by omega),if_neg (show ¬ (T.pc=12∧T.made=true) by omega),if_neg (show ¬ (T.pc=13∧T.held=true) by omega)]
   refine ⟨Q,?_,h,nochg,hg,gt⟩;show ({ rOf T with pc:=T.pc+1 },if T.made=true then _ else _)=_;rw[if_neg m];rfl
 rw[if_neg k10,if_neg (show ¬ (T.pc=10∧T.made=true) from fun x=>k10 x.1)];by_cases k11:T.pc=11
 ·rw[if_pos k11]
  by_cases m:T.made=true
  ·obtain ⟨n1,n2,n3,q0,q1,p0,p1⟩:=t6 m
   obtain ⟨f1,f2,f3⟩:=t7 (late.1 m);have f4:=f1.2.2.2.2.2.2.2.2 f2;have n4:=n1.2.2.2.2.2.2.2.2 n2;obtain ⟨v,hv⟩:=Zg1 h.okw q0 q1 p0 p1 ta0 ta1 x0 x1 f4.1 f4.2.1;have sn:=Tz h (gn:=T.ny.g) (n:=T.ny.f - 1) y0 y1 n4.1 n4.2.1 (by omega) (by omega) hv;rw[if_pos ⟨k11,m⟩];refine ⟨_,?_,sn.1,?_,Uo h.okw hg _ _ _ _,gt⟩
   ·show ({ rOf T with pc:=T.pc+1 },if T.made=true then _ else _)=_
    rw[if_pos m];rfl
   ·show (ZH W T.y T.ny.g (T.ny.f - 1) _).s - W.s=Q.u+1 - Q.u
    have:(ZH W T.y T.ny.g (T.ny.f - 1) (Ud T T.x T.nx.g)).s=W.s+1:=sn.2;omega
  ·rw[if_neg (show ¬ (T.pc=11∧T.made=true) from fun x=>m x.2),if_neg (show ¬ (T.pc=12∧T.made=true) by omega),if_neg (show ¬ (T.pc=13∧T.held=true) by omega)]
   refine ⟨Q,?_,h,nochg,hg,gt⟩;show ({ rOf T with pc:=T.pc+1 },if T.made=true then _ else _)=_;rw[if_neg m];rfl
 rw[if_neg k11,if_neg (show ¬ (T.pc=11∧T.made=true) from fun x=>k11 x.1)];by_cases k12:T.pc=12
 ·rw[if_pos k12]
  by_cases m:T.made=true
  ·rw[if_pos ⟨k12,m⟩]
   obtain ⟨n1,n2,n3,q0,q1,p0,p1⟩:=t6 m;have n4:=n1.2.2.2.2.2.2.2.2 n2;by_cases e:(ZJ T.ny T.ta).2=true
   ·obtain ⟨v,hv⟩:=Zi5 n1 (show W.f≤200 by omega) ta0 ta1
    have sn:=Tz h (gn:=T.ny.g) (n:=W.f) y0 y1 n4.1 n4.2.1 (by omega) (by omega) hv;rw[if_pos e];refine ⟨_,?_,sn.1,?_,Uo h.okw hg _ _ _ _,gt⟩
    ·show ({ rOf T with pc:=T.pc+1 },if T.made=true∧(ZJ T.ny T.ta).2=true then Xa Q T.y T.ny.g Q.f (ZJ T.ny T.ta).1 else Q)=_
     rw[if_pos ⟨m,e⟩,h.par.2.2.2.2.1];rfl
    ·show (ZH W T.y T.ny.g W.f _).s - W.s=Q.u+1 - Q.u
     have:=sn.2;omega
   ·rw[if_neg e]
    refine ⟨Q,?_,h,nochg,hg,gt⟩;show ({ rOf T with pc:=T.pc+1 },if T.made=true∧(ZJ T.ny T.ta).2=true then Xa Q T.y T.ny.g Q.f (ZJ T.ny T.ta).1 else Q)=_;rw[if_neg (fun x=>e x.2)];rfl
  ·rw[if_neg (show ¬ (T.pc=12∧T.made=true) from fun x=>m x.2),if_neg (show ¬ (T.pc=13∧T.held=true) by omega)]
   refine ⟨Q,?_,h,nochg,hg,gt⟩;show ({ rOf T with pc:=T.pc+1 },if T.made=true∧(ZJ T.ny T.ta).2=true then Xa Q T.y T.ny.g Q.f (ZJ T.ny T.ta).1 else Q)=_;rw[if_neg (fun x=>m x.1)];rfl
 rw[if_neg k12,if_neg (show ¬ (T.pc=12∧T.made=true) from fun x=>k12 x.1)];have k13:T.pc=13:=by omega
 by_cases m:T.held=true
 ·rw[if_pos ⟨k13,m⟩]
  obtain ⟨f1,f2,f3⟩:=t7 (late.2 m);have f4:=f1.2.2.2.2.2.2.2.2 f2;by_cases e:(ZJ T.nx T.en).2=true
  ·obtain ⟨v,hv⟩:=Zi5 f1 (show W.f≤200 by omega) en0 en1
   have sn:=Tz h (gn:=T.nx.g) (n:=W.f) x0 x1 f4.1 f4.2.1 (by omega) (by omega) hv;rw[if_pos e];refine ⟨_,?_,sn.1,?_,Uo h.okw hg _ _ _ _,gt⟩
   ·show ({ rOf T with pc:=T.pc+1 },if T.held=true∧(ZJ T.nx T.en).2=true then Xa Q T.x T.nx.g Q.f (ZJ T.nx T.en).1 else Q)=_
    rw[if_pos ⟨m,e⟩,h.par.2.2.2.2.1];rfl
   ·show (ZH W T.x T.nx.g W.f _).s - W.s=Q.u+1 - Q.u
    have:=sn.2;omega
  ·rw[if_neg e]
   refine ⟨Q,?_,h,nochg,hg,gt⟩;show ({ rOf T with pc:=T.pc+1 },if T.held=true∧(ZJ T.nx T.en).2=true then Xa Q T.x T.nx.g Q.f (ZJ T.nx T.en).1 else Q)=_;rw[if_neg (fun x=>e x.2)];rfl
 ·rw[if_neg (show ¬ (T.pc=13∧T.held=true) from fun x=>m x.2)]
  refine ⟨Q,?_,h,nochg,hg,gt⟩;show ({ rOf T with pc:=T.pc+1 },if T.held=true∧(ZJ T.nx T.en).2=true then Xa Q T.x T.nx.g Q.f (ZJ T.nx T.en).1 else Q)=_;rw[if_neg (fun x=>m x.1)];rfl
end
attribute [local irreducible] Wm WmA
attribute [local simp] YP lkp Vq prs V9 prT ddL idL Yy Ue Ren Ve NObj.none ZT
def ZdK (W:WZ) (x:Int):WZ:=if 0≤x∧x<W.a*W.b then (if (xG (stW W x)).2=0∧(stW W x).fl=false then (Zs (Yn W) x (sAt W x) (xG (stW W x)).1).2 else Yn W) else W
def ZcI (Q:QZ) (x:Int):QZ:=if 0≤x∧x<Q.a*Q.b then (if (xG (vf Q x)).2=0∧(vf Q x).fl=false then { Q with S:=Q.S.set x.toNat (xG (vf Q x)).1 } else Q) else Q
theorem ZjA {W:WZ} (h:okW W=true) (φ:zw):Yy φ (wzC W) (wzC W):=by
 obtain ⟨hcf,hw,hwl,hs0,ht0,ht1,hlg⟩:=Zk h;simp[wzC,ZW hw,ZV hw,ZC hlg,ZD hlg]
open Classical in
noncomputable def d14:List AV→Option Ans
 | [.op _ w,.op _ q,.int .i64 x]=>(match yF w,Zay q with
  | some W,some Q=>if Sim W Q∧smW W=true∧smQ Q=true then some ⟨.tup [],[.cells 0 (wzC (ZdK W x)),.cells 0 (qzC (ZcI Q x))]⟩ else none
  | _,_=>none)
 | _=>none
theorem e14 {W:WZ} {Q:QZ} (h:Sim W Q) (h1:smW W=true) (h2:smQ Q=true) (x:Int) (u v:Nat):d14 [.op u (wzC W),.op v (qzC Q),.int .i64 x]=some ⟨.tup [],[.cells 0 (wzC (ZdK W x)),.cells 0 (qzC (ZcI Q x))]⟩:=by
 simp only[d14,show yF (wzC W)=some W from rfl,V6];rw[if_pos ⟨h,h1,h2⟩]
end Go.W
