/- Tries that mix: each step of a try keeps what always holds. Tries that mix: taking. Tries that mix: looking once more, and letting go. What stands in the words of a world with orders in its cells. Tries that mix: cancelling, the beginning and the end. -/
import Derived.Test.YtidbbnkpglggdaaGreatPyE
import Derived.Test.YtidbbnkpglggdaaGreatRaC
namespace Go.W
open Go.Proofs
set_option linter.unusedSimpArgs false
set_option linter.unusedVariables false
set_option maxHeartbeats 8000000
set_option maxRecDepth 100000
section
variable {B:WZ} {was:Int→Int} {W:WZ} {Ts:List TZ} {k:Nat} {T:TZ}
theorem VQ {W:WZ} {T:TZ} (h0:0≤T.pc) (h1:T.pc≤14) (h2:T.held=false) (h3:T.made=false) (h4:T.free=false):Zcl B W T :=
 ⟨h0,h1,fun _=>⟨h2,h3⟩,fun _=>h2,fun _=>h3,fun _=>h4,fun e=>by (rw[h3]at e;cases e),fun e=>by (rw[h4]at e;cases e),fun e=>by (rw[h2]at e;cases e)⟩
theorem Ys {W':WZ} {T':TZ} (h:Vr B was W Ts) (hk:Ts[k]?=some T) (ok:okW W'=true) (par:X5 W'=X5 W) (hst:∀ i:Int,0≤i→i<B.a*B.b→sAt W' i=sAt W i) (hlg:W'.lg=W.lg)
  (e1:T'.held=T.held) (e2:T'.made=T.made) (e3:T'.free=T.free) (e4:T'.x=T.x) (e10:T.made=true→T'.q=T.q) (hT:Zcl B W' T'):Vr B was W' (Ts.set k T'):=by
 have hh:∀ i,ZI T' i=ZI T i:=fun i=>by unfold ZI;rw[e1,e3,e4]
 refine ZaR h hk ok par hst hlg hh (fun i=>?_) (fun U hU a=>?_) hT
 ·unfold zH
  rw[hh i,e2];by_cases c:ZI T i=true∧T.made=true
  ·rw[if_pos c,if_pos c,e10 c.2]
  ·rw[if_neg c,if_neg c]
 ·have r:=U1 h hU a
  exact ⟨r.2.2.2.2.1,r.2.2.2.2.2.1⟩
theorem ZfJ (h:Vr B was W Ts) (hk:Ts[k]?=some T) (hi:idl B.a B.b T.x T.y=true) (hp:T.pc<14):Vr B was W (Ts.set k { T with pc:=T.pc+1 }):=by
 obtain ⟨h1,h2,h3,h4,h5,h6,h7,h8,h9⟩:=h.2.2.2.2 T (List.mem_of_getElem? hk);have a:=h3 hi;have b:T.free=false:=by
  by_cases e:T.free=true
  ·have:=h8 e;rw[a.1]at this;cases this
  ·simpa using e
 exact Ys h hk h.1 rfl (fun _ _ _=>rfl) rfl rfl rfl rfl rfl (fun _=>rfl) (VQ (by show 0≤T.pc+1;omega) (by show T.pc+1≤14;omega) a.1 a.2 b)
theorem ZfK (h:Vr B was W Ts) (hk:Ts[k]?=some T):Vr B was W (Ts.set k T) :=
 Ys h hk h.1 rfl (fun _ _ _=>rfl) rfl rfl rfl rfl rfl (fun _=>rfl) (h.2.2.2.2 T (List.mem_of_getElem? hk))
theorem yf {W':WZ} {T':TZ} (h:Zcl B W T) (hp:T.pc≤5) (hp2:3≤T.pc) (hm:T'.made=false) (e0:T'.pc=T.pc+1) (e1:T'.held=T.held) (e3:T'.free=T.free) (e4:T'.x=T.x) (e10:T'.y=T.y) (e14:T'.wx=T.wx) (hs:T.held=true→sAt W' T.x=sAt W T.x):Zcl B W' T':=by
 obtain ⟨h1,h2,h3,h4,h5,h6,h7,h8,h9⟩:=h;refine ⟨by omega,by omega,fun a=>?_,fun a=>by omega,fun _=>hm,fun a=>by (rw[e3];exact h6 (by omega)),fun a=>by (rw[hm]at a;cases a),fun a=>by (rw[e1];rw[e3]at a;exact h8 a),fun a b=>?_⟩
 ·rw[e4,e10]at a;rw[e1];exact ⟨(h3 a).1,hm⟩
 ·rw[e1]at a
  rw[e3]at b;obtain ⟨j1,j2,j3,j4,j5,j6,j7,j8,j9⟩:=h9 a b;have es:stW W' T.x=stW W T.x:=by unfold stW;rw[hs a]
  unfold ZdM;rw[e4,e14,es,hs a];exact ⟨j1,j2,fun a=>by (rw[hm]at a;cases a),fun a=>by omega,fun a=>by omega,fun a=>by omega,fun a=>by omega,by omega,by omega⟩
theorem xP {W':WZ} {T':TZ} (h:Zcl B W T) (hp:T.pc<14) (hf:¬ (T.held=true∧T.free=false)) (e0:T'.pc=T.pc+1) (e1:T'.held=T.held) (e2:T'.made=T.made) (e3:T'.free=T.free) (e4:T'.x=T.x) (e10:T'.y=T.y):Zcl B W' T':=by
 obtain ⟨h1,h2,h3,h4,h5,h6,h7,h8,h9⟩:=h;refine ⟨by omega,by omega,fun a=>?_,fun a=>by (rw[e1];exact h4 (by omega)),fun a=>by (rw[e2];exact h5 (by omega)),fun a=>by (rw[e3];exact h6 (by omega)),fun a=>by (rw[e1];rw[e2]at a;exact h7 a),fun a=>by (rw[e1];rw[e3]at a;exact h8 a),fun a b=>?_⟩
 ·rw[e4,e10]at a;rw[e1,e2];exact h3 a
 ·rw[e1]at a;rw[e3]at b;exact absurd ⟨a,b⟩ hf
theorem ZfO (h:Vr B was W Ts) (hk:Ts[k]?=some T) (hi:idl B.a B.b T.x T.y=false) (hp:T.pc=2):Vr B was (Xj W T).2 (Ts.set k { (Xj W T).1 with pc:=T.pc+1 }):=by
 have hmem:=List.mem_of_getElem? hk;have hJ:=h.2.2.2.2 T hmem;obtain ⟨h1,h2,h3,h4,h5,h6,h7,h8,h9⟩:=hJ;have hh:=h4 (by omega);have hm:=h5 (by omega);have hf:=h6 (by omega);have p:=Xd h.2.1;obtain ⟨x0,x1,y0,y1,_⟩:=Xc (W:=W) (T:=T) h.1 (by rw[Xv,p.1,p.2.1];exact hi);rw[p.1,p.2.1]at x1 y1;unfold Xj;by_cases hw:Z9 W T (Zc T.wx)=true
 ·rw[if_pos hw]
  simp only;by_cases ht:(Zs W T.x T.wx (YX (Zc T.wx))).1=true
  ·obtain ⟨t1,t2,t3⟩:=zx h.1 h.2.1 x0 x1 ht
   have hs:Zc T.wx=stW W T.x:=(by unfold stW;rw[t1]);rw[hs]at ht t2 t3 hw⊢;have hk12:(stW W T.x).k=1∨(stW W T.x).k=2:=by
    have:=of_decide_eq_true hw;omega
   have hl:Yb (stW W T.x).k=false:=(by rcases hk12 with e|e<;>rw[e]<;>rfl);have hc:=(h.2.2.1 T.x x0 x1).1;have hfl:(stW W T.x).fl=false:=by
    by_cases e:(stW W T.x).fl=true
    ·have:=hc.2 e;rw[hl]at this;cases this
    ·simpa using e
   have hS:(YX (stW W T.x)).l=(stW W T.x).l∧(YX (stW W T.x)).f=(stW W T.x).f∧(YX (stW W T.x)).fl=(stW W T.x).fl∧Yb (YX (stW W T.x)).k=true:=by
    unfold YX;rcases hk12 with e|e<;>rw[e]<;>exact ⟨rfl,rfl,rfl,rfl⟩
   have hlg:=(Xw W T.x T.wx (YX (stW W T.x))).2.1;refine xM T.x h hk (Yi h.1 _ _ _) (ZQ _ _ _ _) (fun i i0 _ ne=>UD i0 x0 ne) (fun i i0 i1 e=>?_) (fun i i0 i1=>?_) (fun i i0 i1=>?_) (fun j U hj hU=>TH h x0 x1 hl (List.mem_of_getElem? hU)) (by rw[hlg];exact h.2.2.2.1) ?_
   ·rw[e,t2]
    refine ⟨fun _=>?_,fun _=>hS.2.2.2⟩;rw[hS.1,hS.2.1];exact hc.1 (by omega)
   ·by_cases e:i=T.x
    ·rw[e,t2]
     simp[hS.2.2.2,hl,ZI,ht,hf,hh]
    ·rw[t3 i i0 e]
     have e':¬ T.x=i:=fun x=>e x.symm;simp[ZI,e']
   ·have:zH { T with held:=(Zs W T.x T.wx (YX (stW W T.x))).1,pc:=T.pc+1 } i=zH T i:=by
     unfold zH;simp[hm]
    rw[this,hlg];by_cases e:i=T.x
    ·rw[e,t2,hS.1]
    ·rw[t3 i i0 e]
   ·refine ⟨by show 0≤T.pc+1;omega,by show T.pc+1≤14;omega,fun a=>?_,fun a=>?_,fun _=>hm,fun _=>hf,fun a=>?_,fun a=>?_,fun a b=>?_⟩
    ·replace a:idl B.a B.b T.x T.y=true:=a
     rw[hi]at a;cases a
    ·replace a:T.pc+1≤2:=a
     omega
    ·replace a:T.made=true:=a
     rw[hm]at a;cases a
    ·replace a:T.free=true:=a
     rw[hf]at a;cases a
    ·have ew:Zc T.wx=stW W T.x:=hs
     refine ⟨?_,?_,fun c=>?_,fun c=>?_,fun c=>?_,fun c=>?_,fun c=>?_,?_,?_⟩
     ·show (Zc T.wx).l=(stW _ T.x).l
      rw[t2,ew];exact hS.1.symm
     ·show (Zc T.wx).f=(stW _ T.x).f
      rw[t2,ew];exact hS.2.1.symm
     ·replace c:T.made=true:=c
      rw[hm]at c;cases c
     ·replace c:T.pc+1=7∨T.pc+1=9:=c
      omega
     ·replace c:T.pc+1=7:=c
      omega
     ·replace c:T.pc+1=8:=c
      omega
     ·replace c:T.pc+1=9:=c
      omega
     ·show 3≤T.pc+1
      omega
     ·show T.pc+1≤9
      omega
  ·have ht':(Zs W T.x T.wx (YX (Zc T.wx))).1=false:=by simpa using ht
   have tf:=UK ht';refine Ys h hk (Yi h.1 _ _ _) (ZQ _ _ _ _) (fun i _ _=>(Zcf tf.1 i).2.2) tf.2 ?_ rfl rfl rfl (fun _=>rfl) (VQ ?_ ?_ ht' hm hf)
   ·show (Zs W T.x T.wx (YX (Zc T.wx))).1=T.held
    rw[ht',hh]
   ·show 0≤T.pc+1
    omega
   ·show T.pc+1≤14
    omega
 ·rw[if_neg hw]
  refine Ys h hk h.1 rfl (fun _ _ _=>rfl) rfl rfl rfl rfl rfl (fun _=>rfl) (VQ ?_ ?_ hh hm hf)
  ·show 0≤T.pc+1
   omega
  ·show T.pc+1≤14
   omega
end
theorem Zcd {s:StZ} {q F:Int} (hl:q≤s.l) (hfl:s.fl=false) (hk:s.k=1∨s.k=2):(Z2 { s with l:=s.l - q,f:=s.f+1 } F).l=s.l - q∧Yb (Z2 { s with l:=s.l - q,f:=s.f+1 } F).k=false∧Zb7 F (Z2 { s with l:=s.l - q,f:=s.f+1 } F):=by
 unfold Z2;simp only;have hh:Yb s.k=false:=by rcases hk with e|e<;>rw[e]<;>rfl
 split
 ·exact ⟨rfl,rfl,fun a=>by simp at a,fun a=>by simp at a⟩
 ·split
  ·exact ⟨rfl,rfl,fun a=>by simp at a,fun a=>by simp at a⟩
  ·refine ⟨rfl,hh,fun a=>by simp only;omega,fun a=>?_⟩
   replace a:s.fl=true:=a;rw[hfl]at a;cases a
section
variable {B:WZ} {was:Int→Int} {W:WZ} {Ts:List TZ} {k:Nat} {T:TZ}
theorem Zgi (h:Vr B was W Ts) (hk:Ts[k]?=some T) (hi:idl B.a B.b T.x T.y=false) (hp:T.pc=5):Vr B was (Y7 W T).2 (Ts.set k { (Y7 W T).1 with pc:=T.pc+1 }):=by
 have hmem:=List.mem_of_getElem? hk;have hJ:=h.2.2.2.2 T hmem;have hJ':=hJ;obtain ⟨h1,h2,h3,h4,h5,h6,h7,h8,h9⟩:=hJ;have hm:=h5 (by omega);have hf:=h6 (by omega);have p:=Xd h.2.1;obtain ⟨x0,x1,y0,y1,_⟩:=Xc (W:=W) (T:=T) h.1 (by rw[Xv,p.1,p.2.1];exact hi);rw[p.1,p.2.1]at x1 y1;have hne:=Zkc x0 x1 hi;unfold Y7;by_cases hc:T.held=true∧YG W T (Zc T.wy)=true
 ·rw[if_pos hc]
  obtain ⟨⟨q,pr⟩,hq⟩:∃ z,Zf T.tx T.ty (Zc T.wx).l (Zc T.wy).l=z:=⟨_,rfl⟩;rw[hq];simp only;by_cases he:(Zz (Zc T.wy) q W.f).2=0
  ·rw[if_pos he]
   by_cases ht:(Zs W T.y T.wy (Zz (Zc T.wy) q W.f).1).1=true
   ·rw[if_pos ht]
    obtain ⟨t1,t2,t3⟩:=zx h.1 h.2.1 y0 y1 ht;have hs:Zc T.wy=stW W T.y:=(by unfold stW;rw[t1]);have hlg:=(Xw W T.y T.wy (Zz (Zc T.wy) q W.f).1).2.1;have hWt:=(Xw W T.y T.wy (Zz (Zc T.wy) q W.f).1).2.2.1;have hT:ZA (Zc T.wy).k=true∧1≤q∧q≤(Zc T.wy).l∧(Zc T.wy).f<W.f∧(Zz (Zc T.wy) q W.f).1=Z2 { Zc T.wy with l:=(Zc T.wy).l - q,f:=(Zc T.wy).f+1 } W.f:=by
     unfold Zz at he⊢;by_cases a1:ZA (Zc T.wy).k=false
     ·rw[if_pos a1]at he;simp at he
     rw[if_neg a1]at he⊢;by_cases a2:q<1
     ·rw[if_pos a2]at he;simp at he
     rw[if_neg a2]at he⊢;by_cases a3:(Zc T.wy).l<q
     ·rw[if_pos a3]at he;simp at he
     rw[if_neg a3]at he⊢;by_cases a4:W.f≤(Zc T.wy).f
     ·rw[if_pos a4]at he;simp at he
     rw[if_neg a4];exact ⟨by simpa using a1,by omega,by omega,by omega,rfl⟩
    obtain ⟨b1,b2,b3,b4,b5⟩:=hT;replace t2:stW (Zs W T.y T.wy (Zz (Zc T.wy) q W.f).1).2 T.y=Z2 { stW W T.y with l:=(stW W T.y).l - q,f:=(stW W T.y).f+1 } W.f:=t2.trans (by rw[b5,hs]);rw[hs]at b1 b3 b4;have hk12:=Ul b1;have hl:Yb (stW W T.y).k=false:=(by rcases hk12 with e|e<;>rw[e]<;>rfl);have hfl:(stW W T.y).fl=false:=by
     by_cases e:(stW W T.y).fl=true
     ·have:=(h.2.2.1 T.y y0 y1).1.2 e;rw[hl]at this;cases this
     ·simpa using e
    have hE:=Zcd (F:=W.f) b3 hfl hk12;have hold:=h9 hc.1 hf;have mq:=ZiK (a:=T.tx) (b:=T.ty) (l:=(Zc T.wx).l) (o:=(Zc T.wy).l) (by rw[hq];show q≠0;omega);rw[hq]at mq;simp only at mq;have qx:q≤(stW W T.x).l:=(by rw[← hold.1];exact mq.2.1);have hB:ZI T T.x=true:=(by simp[ZI,hc.1,hf]);refine xM T.y h hk (Vl (Yi h.1 _ _ _) _ _ _ _ _ _ _ _) ((vJ _ _ _ _ _ _ _ _ _).trans (ZQ _ _ _ _)) (fun i i0 _ ne=>UD i0 y0 ne) (fun i i0 i1 e=>?_) (fun i i0 i1=>?_) (fun i i0 i1=>?_) (fun j U hj hU=>TH h y0 y1 hl (List.mem_of_getElem? hU)) ?_ ?_
    ·rw[e]
     show Zb7 B.f (stW (Zs W T.y T.wy (Zz (Zc T.wy) q W.f).1).2 T.y);rw[t2,← p.2.2.2.2.1];exact hE.2.2
    ·show (if Yb (stW (Zs W T.y T.wy (Zz (Zc T.wy) q W.f).1).2 i).k=true then 1 else 0)+(if ZI T i=true then 1 else 0)=(if Yb (stW W i).k=true then 1 else 0)+(if ZI T i=true then 1 else 0)
     by_cases e:i=T.y
     ·rw[e,t2,hE.2.1,hl]
     ·rw[t3 i i0 e]
    ·show (stW (Zs W T.y T.wy (Zz (Zc T.wy) q W.f).1).2 i).l+Ua i ((Zs W T.y T.wy (Zz (Zc T.wy) q W.f).1).2.lg++[evC 2 T.x (Zc T.wx).g T.y (Zc T.wy).g q pr _ 0]) - (if ZI T i=true∧true=true then q else 0)=_
     rw[TC,hlg];have o0:zH T i=0:=(by unfold zH;rw[hm];simp);rw[o0];simp only[Ua,ZkM,and_true];by_cases e:i=T.y
     ·have e1:¬ T.x=i:=fun x=>hne (x.trans e)
      have e2:¬ (ZI T i=true):=(by simp[ZI,e1]);have e3:T.y=i:=e.symm;rw[if_neg e1,if_neg e2,if_pos e3,e,t2,hE.1];omega
     ·rw[t3 i i0 e]
      have e3:¬ T.y=i:=fun x=>e x.symm;rw[if_neg e3];by_cases ex:T.x=i
      ·have e2:ZI T i=true:=by rw[← ex];exact hB
       rw[if_pos ex,if_pos e2];omega
      ·have e2:¬ (ZI T i=true):=by simp[ZI,ex]
       rw[if_neg ex,if_neg e2];omega
    ·intro r hr
     replace hr:r∈(Zs W T.y T.wy (Zz (Zc T.wy) q W.f).1).2.lg++[evC 2 T.x (Zc T.wx).g T.y (Zc T.wy).g q pr (Zs W T.y T.wy (Zz (Zc T.wy) q W.f).1).2.t 0]:=hr;rw[hlg]at hr;rcases List.mem_append.1 hr with hr|hr
     ·exact h.2.2.2.1 r hr
     ·rw[List.mem_singleton]at hr
      exact ⟨2,T.x,_,T.y,_,q,pr,_,0,hr,fun _=>⟨x0,x1,y0,y1⟩⟩
    ·have es:∀ i:Int,0≤i→i≠T.y→sAt (Zs W T.y T.wy (Zz (Zc T.wy) q W.f).1).2 i=sAt W i:=fun i i0 ne=>UD i0 y0 ne
     refine ⟨by show 0≤T.pc+1;omega,by show T.pc+1≤14;omega,fun a=>?_,fun a=>?_,fun a=>?_,fun _=>hf,fun _=>hc.1,fun a=>?_,fun a b=>?_⟩
     ·replace a:idl B.a B.b T.x T.y=true:=a
      rw[hi]at a;cases a
     ·replace a:T.pc+1≤2:=a
      omega
     ·replace a:T.pc+1≤5:=a
      omega
     ·replace a:T.free=true:=a
      rw[hf]at a;cases a
     ·refine ⟨?_,?_,fun c=>?_,fun c=>?_,fun c=>?_,fun c=>?_,fun c=>?_,?_,?_⟩
      ·show (Zc T.wx).l=(stW (Zs W T.y T.wy (Zz (Zc T.wy) q W.f).1).2 T.x).l
       rw[t3 T.x x0 hne];exact hold.1
      ·show (Zc T.wx).f=(stW (Zs W T.y T.wy (Zz (Zc T.wy) q W.f).1).2 T.x).f
       rw[t3 T.x x0 hne];exact hold.2.1
      ·show 1≤q∧q≤(stW (Zs W T.y T.wy (Zz (Zc T.wy) q W.f).1).2 T.x).l
       rw[t3 T.x x0 hne];exact ⟨b2,qx⟩
      ·replace c:T.pc+1=7∨T.pc+1=9:=c
       omega
      ·replace c:T.pc+1=7:=c
       omega
      ·replace c:T.pc+1=8:=c
       omega
      ·replace c:T.pc+1=9:=c
       omega
      ·show 3≤T.pc+1
       omega
      ·show T.pc+1≤9
       omega
   ·rw[if_neg ht]
    have ht':(Zs W T.y T.wy (Zz (Zc T.wy) q W.f).1).1=false:=(by simpa using ht);have tf:=UK ht';refine Ys h hk (Yi h.1 _ _ _) (ZQ _ _ _ _) (fun i _ _=>(Zcf tf.1 i).2.2) tf.2 rfl rfl rfl rfl (fun a=>by (rw[hm]at a;cases a)) (yf hJ' (by omega) (by omega) hm rfl rfl rfl rfl rfl rfl fun _=>(Zcf tf.1 _).2.2)
  ·rw[if_neg he]
   exact Ys h hk h.1 rfl (fun _ _ _=>rfl) rfl rfl rfl rfl rfl (fun a=>by (rw[hm]at a;cases a)) (yf hJ' (by omega) (by omega) hm rfl rfl rfl rfl rfl rfl fun _=>rfl)
 ·rw[if_neg hc]
  exact Ys h hk h.1 rfl (fun _ _ _=>rfl) rfl rfl rfl rfl rfl (fun _=>rfl) (yf hJ' (by omega) (by omega) hm rfl rfl rfl rfl rfl rfl fun _=>rfl)
end
section
variable {B:WZ} {was:Int→Int} {W:WZ} {Ts:List TZ} {k:Nat} {T:TZ}
theorem ZeQ (h:Vr B was W Ts) (hk:Ts[k]?=some T) (hi:idl B.a B.b T.x T.y=false) (hp:T.pc=6∨T.pc=8):Vr B was (YE W T).2 (Ts.set k { (YE W T).1 with pc:=T.pc+1 }):=by
 have hmem:=List.mem_of_getElem? hk;have hJ:=h.2.2.2.2 T hmem;have hJ':=hJ;obtain ⟨h1,h2,h3,h4,h5,h6,h7,h8,h9⟩:=hJ;unfold YE;by_cases hc:T.held=true∧T.free=false
 ·rw[if_pos hc]
  have hB:ZI T T.x=true:=by simp[ZI,hc.1,hc.2]
  have r:=U1 h hmem hB;obtain ⟨_,_,_,_,x0,x1,j1,j2,j3,j4,j5,j6,j7,j8,j9⟩:=r;refine Ys h hk (X2 h.1) rfl (fun _ _ _=>rfl) rfl rfl rfl rfl rfl (fun _=>rfl) ⟨by show 0≤T.pc+1;omega,by show T.pc+1≤14;omega,h3,fun a=>?_,fun a=>?_,fun a=>hc.2,h7,h8,fun a b=>?_⟩
  ·replace a:T.pc+1≤2:=a
   omega
  ·replace a:T.pc+1≤5:=a
   omega
  ·refine ⟨rfl,rfl,j3,fun _=>zI h x0 x1 hmem hB,fun _=>.inl rfl,fun c=>?_,fun c=>⟨?_,rfl⟩,?_,?_⟩
   ·replace c:T.pc+1=8:=c
    omega
   ·replace c:T.pc+1=9:=c
    exact j6 (by omega)
   ·show 3≤T.pc+1
    omega
   ·show T.pc+1≤9
    omega
 ·rw[if_neg hc]
  exact Ys h hk h.1 rfl (fun _ _ _=>rfl) rfl rfl rfl rfl rfl (fun _=>rfl) (xP hJ' (by omega) hc rfl rfl rfl rfl rfl rfl)
theorem Zdi {s:StZ} {q F:Int} (hh:Yb s.k=true) (hq0:0≤q) (hq:q≤s.l) (hl:1≤s.l) (hf:s.f<F) (hg:0≤s.g∧s.g≤255) (hl2:s.l≤65535) (hf0:0≤s.f) (hF:F≤255) :
  (Zh s q F).2=0∧(Zh s q F).1.l=s.l - q∧Yb (Zh s q F).1.k=false∧(Zh s q F).1.fl=false∧Zb7 F (Zh s q F).1∧∃ v,ZX (Zh s q F).1=some v:=by
 have hk:=xV hh
 have key:∀ t:StZ,(t.k=3∨t.k=4)→0≤t.l→(1≤t.l→t.f<F∨True)→0≤t.f→t.f≤255→t.l≤65535→0≤t.g→t.g≤255 →
   (Yz t F).l=t.l∧Yb (Yz t F).k=false∧(Yz t F).fl=false∧Zb7 F (Yz t F)∧∃ v,ZX (Yz t F)=some v:=by
  intro t tk tl tf0 tf tf2 tl2 tg tg2
  have hE:∃ e:StZ,Z2 (Z3 t) F=e∧e.l=t.l∧e.f=t.f∧e.g=t.g∧(e.k=1∨e.k=2∨e.k=5∨e.k=8)∧(e.k=1∨e.k=2→1≤e.l∧e.f<F):=by
   have hL:∃ u:StZ,Z3 t=u∧u.l=t.l∧u.f=t.f∧u.g=t.g∧(u.k=1∨u.k=2):=by
    refine ⟨_,rfl,?_⟩;unfold Z3;rcases tk with e|e
    ·rw[if_pos e];exact ⟨rfl,rfl,rfl,.inl rfl⟩
    ·rw[if_neg (by omega),if_pos e];exact ⟨rfl,rfl,rfl,.inr rfl⟩
   obtain ⟨u,hu,ul,uf,ug,uk⟩:=hL;rw[hu];refine ⟨_,rfl,?_⟩;unfold Z2;by_cases c1:u.l=0
   ·rw[if_pos c1];exact ⟨ul,uf,ug,.inr (.inr (.inl rfl)),fun a=>by simp at a⟩
   rw[if_neg c1];by_cases c2:F≤u.f
   ·rw[if_pos c2];exact ⟨ul,uf,ug,.inr (.inr (.inr rfl)),fun a=>by simp at a⟩
   rw[if_neg c2];exact ⟨ul,uf,ug,by omega,fun _=>⟨by omega,by omega⟩⟩
  obtain ⟨e,he,el,ef,eg,ek,e9⟩:=hE
  unfold Yz
  rw[he]
  by_cases c:e.fl=true
  ·rw[if_pos c]
   refine ⟨el,rfl,rfl,⟨fun a=>by simp at a,fun a=>by simp at a⟩,?_⟩;exact VL (by simp) (by simp) (by simp only;omega) (by simp only;omega) (by simp only;omega) (by simp only;omega) (by simp only;omega) (by simp only;omega)
  ·rw[if_neg c]
   refine ⟨el,?_,by simpa using c,⟨fun a=>?_,fun a=>absurd a c⟩,VL (by omega) (by omega) (by omega) (by omega) (by omega) (by omega) (by omega) (by omega)⟩
   ·rcases ek with k|k|k|k<;>rw[k]<;>rfl
   ·exact e9 (by omega)
 unfold Zh
 rw[if_neg (by rw[hh];simp),if_neg (by omega),if_neg (by omega)]
 by_cases c:0<q
 ·rw[if_pos c,if_neg (by omega)]
  have:=key { s with l:=s.l - q,f:=s.f+1 } hk (by simp only;omega) (fun _=>.inr trivial) (by simp only;omega) (by simp only;omega) (by simp only;omega) hg.1 hg.2;exact ⟨rfl,this⟩
 ·rw[if_neg c]
  have:=key s hk (by omega) (fun _=>.inr trivial) (by omega) (by omega) hl2 hg.1 hg.2;have e:q=0:=by omega
  subst e;refine ⟨rfl,by rw[Int.sub_zero];exact this.1,this.2⟩
theorem ZiO (h:Vr B was W Ts) (hk:Ts[k]?=some T) (hi:idl B.a B.b T.x T.y=false) (hp:T.pc=7∨T.pc=9):Vr B was (Uf W T).2 (Ts.set k { (Uf W T).1 with pc:=T.pc+1 }):=by
 have hmem:=List.mem_of_getElem? hk;have hJ:=h.2.2.2.2 T hmem;have hJ':=hJ;obtain ⟨h1,h2,h3,h4,h5,h6,h7,h8,h9⟩:=hJ;have p:=Xd h.2.1;unfold Uf;by_cases hc:T.held=true∧T.free=false
 ·rw[if_pos hc]
  have hB:ZI T T.x=true:=by simp[ZI,hc.1,hc.2]
  obtain ⟨_,_,_,_,x0,x1,j1,j2,j3,j4,j5,j6,j7,j8,j9⟩:=U1 h hmem hB;have hcell:=zI h x0 x1 hmem hB;have hk34:=xV hcell;have hC:=(h.2.2.1 T.x x0 x1).1.1 (by omega);have hsR:=stR T.wx;have hF:=ZE (Zk h.1).1;have hq:0≤XK T∧XK T≤(Zc T.wx).l:=by
   unfold XK;by_cases m:T.made=true
   ·rw[if_pos m,j1];have:=j3 m;omega
   ·rw[if_neg m];omega
  have hR:=Zdi (s:=Zc T.wx) (q:=XK T) (F:=W.f) (j4 hp) hq.1 hq.2 (by omega) (by rw[j2,p.2.2.2.2.1];exact hC.2) ⟨by omega,by omega⟩ (by omega) (by omega) (by omega);obtain ⟨r1,r2,r3,r4,r5,v,r6⟩:=hR;rw[if_pos r1];obtain ⟨n,hn⟩:∃ n,(Zh (Zc T.wx) (XK T) W.f).1=n:=⟨_,rfl⟩;rw[hn]at r2 r3 r4 r5 r6⊢;by_cases ht:(Zs W T.x T.wx n).1=true
  ·rw[if_pos ht]
   obtain ⟨t1,t2,t3⟩:=zx h.1 h.2.1 x0 x1 ht;have hlg:=(Xw W T.x T.wx n).2.1;simp only;obtain ⟨V,hV⟩:∃ V,(if zJ n.k=true then Vz (Zs W T.x T.wx n).2 7 T.x n.g 0 0 0 0 n.k else (Zs W T.x T.wx n).2)=V:=⟨_,rfl⟩;rw[hV];have V1:okW V=true:=by
    rw[← hV];split
    ·exact Vl (Yi h.1 _ _ _) _ _ _ _ _ _ _ _
    ·exact Yi h.1 _ _ _
   have V2:X5 V=X5 W:=by
    rw[← hV];split
    ·exact (vJ _ _ _ _ _ _ _ _ _).trans (ZQ _ _ _ _)
    ·exact ZQ _ _ _ _
   have V3:∀ i,sAt V i=sAt (Zs W T.x T.wx n).2 i:=by
    intro i;rw[← hV];split<;>rfl
   have V3':∀ i,stW V i=stW (Zs W T.x T.wx n).2 i:=fun i=>by unfold stW;rw[V3]
   have V4:∀ i,Ua i V.lg=Ua i W.lg:=by
    intro i;rw[← hV];split
    ·simp only[Vz,TC,hlg,Ua]
     rw[Zhb (by decide)];omega
    ·rw[hlg]
   have V5:LogJ (B.a*B.b) V.lg:=by
    rw[← hV];split
    ·intro r hr
     simp only[Vz,hlg]at hr;rcases List.mem_append.1 hr with hr|hr
     ·exact h.2.2.2.1 r hr
     ·rw[List.mem_singleton]at hr
      exact ⟨7,_,_,_,_,_,_,_,_,hr,fun e=>by omega⟩
    ·rw[hlg];exact h.2.2.2.1
   refine xM T.x h hk V1 V2 (fun i i0 _ ne=>(V3 i).trans (UD i0 x0 ne)) (fun i i0 i1 e=>?_) (fun i i0 i1=>?_) (fun i i0 i1=>?_) (fun j U hj hU=>Ze3 h x0 x1 hk hB hj hU) V5 ?_
   ·rw[e,V3',t2,← p.2.2.2.2.1];exact r5
   ·rw[V3']
    by_cases e:i=T.x
    ·rw[e,t2,r3,hcell,hB];simp[ZI]
    ·rw[t3 i i0 e]
     have e':¬ T.x=i:=fun x=>e x.symm;simp[ZI,e']
   ·rw[V3',V4]
    have o1:zH { T with free:=true,nx:=n,en:=W.t,pc:=T.pc+1 } i=0:=(by simp[zH,ZI]);show _ - zH { T with free:=true,nx:=n,en:=W.t,pc:=T.pc+1 } i=_;rw[o1];by_cases e:i=T.x
    ·rw[e,t2,r2,j1]
     have:zH T T.x=XK T:=by
      unfold zH XK;rw[hB];by_cases m:T.made=true<;>simp[m]
     rw[this];omega
    ·rw[t3 i i0 e]
     have e':¬ T.x=i:=fun x=>e x.symm;have:zH T i=0:=(by simp[zH,ZI,e']);rw[this]
   ·refine ⟨by show 0≤T.pc+1;omega,by show T.pc+1≤14;omega,h3,fun a=>?_,fun a=>?_,fun a=>?_,h7,fun _=>hc.1,fun a b=>by cases b⟩
    ·replace a:T.pc+1≤2:=a
     omega
    ·replace a:T.pc+1≤5:=a
     omega
    ·replace a:T.pc+1≤7:=a
     omega
  ·rw[if_neg ht]
   have ht':(Zs W T.x T.wx n).1=false:=(by simpa using ht);have tf:=UK ht';have hw:=Zgm r6 ht';have hp7:T.pc=7:=by
    rcases hp with e|e
    ·exact e
    ·exact absurd (j7 e).2 hw
   have hfl:(stW W T.x).fl=true:=by
    rcases j5 hp7 with e|e
    ·exact absurd e hw
    ·exact e
   refine Ys h hk (Yi h.1 _ _ _) (ZQ _ _ _ _) (fun i _ _=>(Zcf tf.1 i).2.2) tf.2 rfl rfl rfl rfl (fun _=>rfl) ⟨by show 0≤T.pc+1;omega,by show T.pc+1≤14;omega,h3,fun a=>?_,fun a=>?_,fun _=>hc.2,h7,h8,fun a b=>?_⟩
   ·replace a:T.pc+1≤2:=a
    omega
   ·replace a:T.pc+1≤5:=a
    omega
   ·have es:=Zcf tf.1 T.x
    refine ⟨?_,?_,?_,fun c=>?_,fun c=>?_,fun c=>?_,fun c=>?_,?_,?_⟩
    ·show (Zc T.wx).l=(stW _ T.x).l
     rw[es.1];exact j1
    ·show (Zc T.wx).f=(stW _ T.x).f
     rw[es.1];exact j2
    ·show T.made=true→1≤T.q∧T.q≤(stW _ T.x).l
     rw[es.1];exact j3
    ·replace c:T.pc+1=7∨T.pc+1=9:=c
     omega
    ·replace c:T.pc+1=7:=c
     omega
    ·show (stW _ T.x).fl=true
     rw[es.1];exact hfl
    ·replace c:T.pc+1=9:=c
     omega
    ·show 3≤T.pc+1
     omega
    ·show T.pc+1≤9
     omega
 ·rw[if_neg hc]
  exact Ys h hk h.1 rfl (fun _ _ _=>rfl) rfl rfl rfl rfl rfl (fun _=>rfl) (xP hJ' (by omega) hc rfl rfl rfl rfl rfl rfl)
theorem ZgH (h:Vr B was W Ts) (hk:Ts[k]?=some T):Vr B was (Zw W T).2 (Ts.set k (Zw W T).1):=by
 have hmem:=List.mem_of_getElem? hk;have hJ:=h.2.2.2.2 T hmem;have hJ':=hJ;obtain ⟨h1,h2,h3,h4,h5,h6,h7,h8,h9⟩:=hJ;have p:=Xd h.2.1;unfold Zw;by_cases c:14≤T.pc
 ·rw[if_pos c];exact ZfK h hk
 rw[if_neg c];by_cases hi:idl B.a B.b T.x T.y=true
 ·rw[if_pos (by rw[Xv,p.1,p.2.1];exact hi)]
  exact ZfJ h hk hi (by omega)
 rw[if_neg (by rw[Xv,p.1,p.2.1];exact hi)];have hi':idl B.a B.b T.x T.y=false:=by simpa using hi
 unfold ZP;by_cases c0:T.pc=0
 ·rw[if_pos c0]
  exact Ys h hk (X2 h.1) rfl (fun _ _ _=>rfl) rfl rfl rfl rfl rfl (fun _=>rfl) (VQ (by show 0≤T.pc+1;omega) (by show T.pc+1≤14;omega) (h4 (by omega)) (h5 (by omega)) (h6 (by omega)))
 rw[if_neg c0];by_cases c1:T.pc=1
 ·rw[if_pos c1]
  exact Ys h hk (X2 h.1) rfl (fun _ _ _=>rfl) rfl rfl rfl rfl rfl (fun _=>rfl) (VQ (by show 0≤T.pc+1;omega) (by show T.pc+1≤14;omega) (h4 (by omega)) (h5 (by omega)) (h6 (by omega)))
 rw[if_neg c1];by_cases c2:T.pc=2
 ·rw[if_pos c2];exact ZfO h hk hi' c2
 rw[if_neg c2];by_cases c3:T.pc=3
 ·rw[if_pos c3]
  exact Ys h hk (X2 h.1) rfl (fun _ _ _=>rfl) rfl rfl rfl rfl rfl (fun _=>rfl) (yf hJ' (by omega) (by omega) (h5 (by omega)) rfl rfl rfl rfl rfl rfl fun _=>rfl)
 rw[if_neg c3];by_cases c4:T.pc=4
 ·rw[if_pos c4]
  exact Ys h hk (X2 h.1) rfl (fun _ _ _=>rfl) rfl rfl rfl rfl rfl (fun _=>rfl) (yf hJ' (by omega) (by omega) (h5 (by omega)) rfl rfl rfl rfl rfl rfl fun _=>rfl)
 rw[if_neg c4];by_cases c5:T.pc=5
 ·rw[if_pos c5];exact Zgi h hk hi' c5
 rw[if_neg c5];by_cases c6:T.pc=6∨T.pc=8
 ·rw[if_pos c6];exact ZeQ h hk hi' c6
 rw[if_neg c6];by_cases c7:T.pc=7∨T.pc=9
 ·rw[if_pos c7];exact ZiO h hk hi' c7
 rw[if_neg c7];have hoff:¬ (T.held=true∧T.free=false):=fun a=>by
  have:=(h9 a.1 a.2).2.2.2.2.2.2.2.2;omega
 have nf:=Zbn W T;refine Ys h hk (zm h.1 T) (yV W T) (fun i i0 i1=>?_) nf.2.1 rfl rfl rfl rfl (fun _=>rfl) (xP hJ' (by omega) hoff rfl rfl rfl rfl rfl rfl);unfold sAt;exact ZaA h.1 (by rw[p.1,p.2.1];omega)
end
attribute [local irreducible] Wm WmA
attribute [local simp] YP lkp Vq prs V9 prT ddL idL Yy Ue Ren Ve NObj.none ZT
def bW (a b c d e f g:Int) (els ws:List (List AV)):WZ:=⟨a,b,c,d,e,f,g,ws,2*els.length,0,[]⟩
theorem ZgT (w x g y s:Int):okT (tz0 w x g y s)=true:=by
 unfold okT tz0 Zu okS;simp
theorem ZgS {a b c d e f g:Int} {els ws S T:List (List AV)} (hcf:X7 a b c d e f g=true) (he:els.all zh=true) (h:YF a b c d e f g els els.length=some (ws,S,T)):okW (bW a b c d e f g els ws)=true∧(bW a b c d e f g els ws).s≤48∧els.length≤24:=by
 obtain ⟨h1,h2,h3,_⟩:=XR hcf he _ _ _ _ (Nat.le_refl _) h;have hall:=ZB hcf;exact ⟨decide_eq_true ⟨hcf,h2,h3,by simp only[bW];omega,Int.le_refl _,by simp[bW],rfl⟩,by simp only[bW];omega,by omega⟩
end Go.W
namespace Go.W
open Go.Proofs
set_option linter.unusedSimpArgs false
set_option linter.unusedVariables false
set_option maxHeartbeats 8000000
set_option maxRecDepth 100000
def Zff (f g:Int) (ws S T:List (List AV)) (i:Nat):Prop:=S[i]?=some (stL (Zc (wAt ws (2*i))))∧T[i]?=some (tmC (Yc (wAt ws (2*i+1))))∧((Zc (wAt ws (2*i))).k=2→goodZ f g (Zc (wAt ws (2*i))))
theorem yl (n i:Nat):wAt (List.replicate n [.int .u64 0]) i=0:=by
 unfold wAt;rw[List.getElem?_replicate];split<;>simp_all
theorem ZaP {a b c f g:Int} {k:Nat} {kd sg sl sf nm sd pr le un:Int} {fl:Bool} {v u:Int} (h:okO a b c f g k [.int .i64 kd,.bool fl,.int .i64 sg,.int .i64 sl,.int .i64 sf,.int .i64 nm,.int .i64 sd,.int .i64 pr,.int .i64 le,.int .i64 un]=some (v,u)):ZX ⟨kd,fl,sg,sl,sf⟩=some v∧UV ⟨nm,sd,pr,le,un⟩=some u∧1≤sg∧sg≤g∧1≤sl∧sf<f∧fl=false:=by
 simp only[okO]at h;split at h
 ·rename_i v' u' h1 h2
  by_cases hc:(k:Int)<a*b∧1≤sg∧sg≤g∧1≤sl∧sf<f∧(ZA kd=true∨5≤kd)∧fl=false∧YW c ⟨nm,sd,pr,le,un⟩ (if sl<le then le else sl) 0=0
  ·rw[if_pos hc]at h
   simp only[Option.some.injEq,Prod.mk.injEq]at h;obtain ⟨rfl,rfl⟩:=h;exact ⟨h1,h2,hc.2.1,hc.2.2.1,hc.2.2.2.1,hc.2.2.2.2.1,hc.2.2.2.2.2.2.1⟩
  ·rw[if_neg hc]at h;cases h
 ·cases h
theorem vC {a b c d e f g:Int} {els:List (List AV)} (hcf:X7 a b c d e f g=true) (he:els.all zh=true):∀ (k:Nat) (ws S T:List (List AV)),k≤els.length→YF a b c d e f g els k=some (ws,S,T)→∀ i:Nat,(i:Int)<a*b→Zff f g ws S T i
 | 0,ws,S,T,_,h,i,hi=>by
  simp only[YF,Option.some.injEq,Prod.mk.injEq]at h;obtain ⟨rfl,rfl,rfl⟩:=h;have e0:wAt (W0 a b c d e f g).ws (2*i)=0:=yl _ _;have e1:wAt (W0 a b c d e f g).ws (2*i+1)=0:=yl _ _;unfold Zff;rw[e0,e1];refine ⟨?_,?_,fun h=>?_⟩
  ·unfold zS;rw[List.getElem?_replicate,if_pos (by omega)];rfl
  ·unfold zT;rw[List.getElem?_replicate,if_pos (by omega)];rfl
  ·have:(Zc 0).k=0:=by rfl
   omega
 | k+1,ws,S,T,hk,h,i,hi=>by
  simp only[YF]at h;split at h
  ·cases h
  ·rename_i ws0 S0 T0 h0
   split at h
   ·cases h
   ·rename_i v u hO
    simp only[Option.some.injEq,Prod.mk.injEq]at h;obtain ⟨rfl,rfl,rfl⟩:=h;have hkl:k<els.length:=(by omega);have hrow:zh (els.getD k [])=true:=by
     rw[List.getD_eq_getElem?_getD,List.getElem?_eq_getElem hkl];exact List.all_eq_true.1 he _ (List.getElem_mem hkl)
    have hkn:=(Zaf hrow hO).1;obtain ⟨i1,i2,i3,i4,i5⟩:=XR hcf he k ws0 S0 T0 (by omega) h0;have ih:=vC hcf he k ws0 S0 T0 (by omega) h0 i hi;obtain ⟨kd,fl,sg,sl,sf,nm,sd,pr,le,un,hoe,_⟩:=Uj hrow;rw[hoe]at hO⊢;obtain ⟨hv,hu,g1,g2,g3,g4,g5⟩:=ZaP hO;obtain ⟨r1,r2,r3,r4,r5,r6,r7,r8,r9⟩:=U4 hv;have rt:=Zgu hu;have hc:=ZE hcf;have hall:=ZB hcf;have hwd:=Yt (f:=f) (g:=g) (show 0≤a*b by omega) hall.2 (by omega) (by omega);by_cases hik:i=k
    ·subst hik
     have e0:wAt ((ws0.set (2*i) [.int .u64 v]).set (2*i+1) [.int .u64 u]) (2*i)=v:=by
      rw[XD (by omega),yH (by omega)]
     have e1:wAt ((ws0.set (2*i) [.int .u64 v]).set (2*i+1) [.int .u64 u]) (2*i+1)=u:=yH (by rw[List.length_set];omega);unfold Zff;rw[e0,e1,r1,rt];refine ⟨?_,?_,fun h2=>?_⟩
     ·rw[List.getElem?_set_self (by rw[i4.1];omega)];rfl
     ·rw[List.getElem?_set_self (by rw[i5.1];omega)];rfl
     ·exact ⟨h2,g5,g1,g2,g3,r7,r8,g4⟩
    ·have e0:wAt ((ws0.set (2*k) [.int .u64 v]).set (2*k+1) [.int .u64 u]) (2*i)=wAt ws0 (2*i):=by
      rw[XD (by omega),XD (by omega)]
     have e1:wAt ((ws0.set (2*k) [.int .u64 v]).set (2*k+1) [.int .u64 u]) (2*i+1)=wAt ws0 (2*i+1):=by
      rw[XD (by omega),XD (by omega)]
     unfold Zff;rw[e0,e1,List.getElem?_set_ne (by omega),List.getElem?_set_ne (by omega)];exact ih
section
variable {B:WZ} {was:Int→Int} {W:WZ} {Ts:List TZ}
theorem Zd4 {W':WZ} (h:Vr B was W Ts) (ok:okW W'=true) (par:X5 W'=X5 W) (hst:∀ i:Int,0≤i→i<B.a*B.b→sAt W' i=sAt W i) (hlg:W'.lg=W.lg):Vr B was W' Ts:=by
 have h':=h;obtain ⟨s1,s2,s3,s4,s10⟩:=h;refine ⟨ok,par.trans s2,fun i i0 i1=>?_,by rw[hlg];exact s4,fun U hU=>?_⟩
 ·have e:stW W' i=stW W i:=by unfold stW;rw[hst i i0 i1]
  rw[e,hlg];exact s3 i i0 i1
 ·refine vc (s10 U hU) fun a=>?_
  have r:=U1 h' hU a;exact hst U.x r.2.2.2.2.1 r.2.2.2.2.2.1
theorem Za7 (h:Vr B was W Ts):Vr B was (Yn W) Ts:=Zd4 h (X2 h.1) rfl (fun _ _ _=>rfl) rfl
end
def ZkL (F:Int) (s:StZ):Prop:=(s.k=1∨s.k=2→1≤s.l∧s.f<F)∧Yb s.k=false∧s.fl=false
theorem yN {a b c d e f g:Int} {els:List (List AV)} (hcf:X7 a b c d e f g=true) (he:els.all zh=true):∀ (k:Nat) (ws S T:List (List AV)),k≤els.length→YF a b c d e f g els k=some (ws,S,T)→∀ i:Nat,(i:Int)<a*b→ZkL f (Zc (wAt ws (2*i)))
 | 0,ws,S,T,_,h,i,hi=>by
  simp only[YF,Option.some.injEq,Prod.mk.injEq]at h;obtain ⟨rfl,rfl,rfl⟩:=h;have e0:wAt (W0 a b c d e f g).ws (2*i)=0:=yl _ _;rw[e0];have z0:Zc 0=⟨0,false,0,0,0⟩:=by rfl
  rw[z0];exact ⟨fun h=>by simp at h,rfl,rfl⟩
 | k+1,ws,S,T,hk,h,i,hi=>by
  simp only[YF]at h;split at h
  ·cases h
  ·rename_i ws0 S0 T0 h0
   split at h
   ·cases h
   ·rename_i v u hO
    simp only[Option.some.injEq,Prod.mk.injEq]at h;obtain ⟨rfl,rfl,rfl⟩:=h;have hkl:k<els.length:=(by omega);have hrow:zh (els.getD k [])=true:=by
     rw[List.getD_eq_getElem?_getD,List.getElem?_eq_getElem hkl];exact List.all_eq_true.1 he _ (List.getElem_mem hkl)
    have hkn:=(Zaf hrow hO).1;obtain ⟨i1,i2,i3,i4,i5⟩:=XR hcf he k ws0 S0 T0 (by omega) h0;have ih:=yN hcf he k ws0 S0 T0 (by omega) h0 i hi;obtain ⟨kd,fl,sg,sl,sf,nm,sd,pr,le,un,hoe,_⟩:=Uj hrow;rw[hoe]at hO;obtain ⟨hv,hu,g1,g2,g3,g4,g5⟩:=ZaP hO;have hlo:ZA kd=true∨5≤kd:=by
     simp only[okO]at hO;split at hO
     ·rename_i v' u' h1 h2
      by_cases hc:(k:Int)<a*b∧1≤sg∧sg≤g∧1≤sl∧sf<f∧(ZA kd=true∨5≤kd)∧fl=false∧YW c ⟨nm,sd,pr,le,un⟩ (if sl<le then le else sl) 0=0
      ·exact hc.2.2.2.2.2.1
      ·rw[if_neg hc]at hO;cases hO
     ·cases hO
    obtain ⟨r1,_⟩:=U4 hv;have hc:=ZE hcf;have hall:=ZB hcf;have hwd:=Yt (f:=f) (g:=g) (show 0≤a*b by omega) hall.2 (by omega) (by omega);by_cases hik:i=k
    ·subst hik
     have e0:wAt ((ws0.set (2*i) [.int .u64 v]).set (2*i+1) [.int .u64 u]) (2*i)=v:=by
      rw[XD (by omega),yH (by omega)]
     rw[e0,r1];refine ⟨fun _=>⟨g3,g4⟩,?_,g5⟩;simp only[Yb,Bool.or_eq_false_iff,decide_eq_false_iff_not];rcases hlo with h|h
     ·have:=Ul h;omega
     ·omega
    ·have e0:wAt ((ws0.set (2*k) [.int .u64 v]).set (2*k+1) [.int .u64 u]) (2*i)=wAt ws0 (2*i):=by
      rw[XD (by omega),XD (by omega)]
     rw[e0];exact ih
theorem Zd0 {W:WZ} {Ts:List TZ} (hW:okW W=true) (hc:∀ i:Int,0≤i→i<W.a*W.b→ZkL W.f (stW W i)) (hl:W.lg=[]) (hT:∀ T,T∈Ts→∃ w x g y s,T=tz0 w x g y s):Vr W (fun i=>(stW W i).l) W Ts:=by
 have key:∀ L:List TZ,(∀ T,T∈L→∃ w x g y s,T=tz0 w x g y s)→∀ i,ZbW i L=0∧Zg3 i L=0:=by
  intro L
  induction L with
  | nil=>exact fun _ _=>⟨rfl,rfl⟩
  | cons A l ih =>
   intro hL i;obtain ⟨w,x,g,y,s,rfl⟩:=hL A (List.mem_cons_self ..);have b:=ih (fun T hT=>hL T (List.mem_cons_of_mem _ hT)) i;refine ⟨?_,?_⟩
   ·show (if ZI (tz0 w x g y s) i=true then 1 else 0)+ZbW i l=0
    rw[b.1];simp[ZI,tz0]
   ·show zH (tz0 w x g y s) i+Zg3 i l=0
    rw[b.2];simp[zH,ZI,tz0]
 refine ⟨hW,rfl,fun i i0 i1=>?_,by rw[hl];exact fun r hr=>absurd hr (List.not_mem_nil),fun T hT' => ?_⟩
 ·obtain ⟨c1,c2,c3⟩:=hc i i0 i1
  have k:=key Ts hT i;have hk:=Zit c2;refine ⟨⟨fun a=>c1 (by omega),fun a=>by rw[c3]at a;cases a⟩,by rw[k.1,c2];rfl,?_⟩;rw[k.2,hl];show _+0=_+0
  rfl
 ·obtain ⟨w,x,g,y,s,rfl⟩:=hT T hT'
  exact VQ (by show (0:Int)≤0;omega) (by show (0:Int)≤14;omega) rfl rfl rfl
end Go.W
