/- Tries that mix: each step of a try keeps what always holds. Tries that mix: taking. Tries that mix: looking once more, and letting go. -/
import Derived.Test.YtidbbnkpglggdaaGreatPyE
namespace Go.W
open Go.Proofs
set_option linter.unusedSimpArgs false
set_option linter.unusedVariables false
set_option maxHeartbeats 8000000
section
variable {B:WZ} {was:Int→Int} {W:WZ} {Ts:List TZ} {k:Nat} {T:TZ}
theorem V9 {W:WZ} {T:TZ} (h0:0≤T.pc) (h1:T.pc≤14) (h2:T.held=false) (h3:T.made=false) (h4:T.free=false):ZbK B W T :=
 ⟨h0,h1,fun _=>⟨h2,h3⟩,fun _=>h2,fun _=>h3,fun _=>h4,fun e=>by (rw[h3]at e;cases e),fun e=>by (rw[h4]at e;cases e),fun e=>by (rw[h2]at e;cases e)⟩
theorem Ym {W':WZ} {T':TZ} (h:V0 B was W Ts) (hk:Ts[k]?=some T) (ok:okW W'=true) (par:TD W'=TD W) (hst:∀ i:Int,0≤i→i<B.a*B.b→sAt W' i=sAt W i) (hlg:W'.lg=W.lg)
  (e1:T'.held=T.held) (e2:T'.made=T.made) (e3:T'.free=T.free) (e4:T'.x=T.x) (e10:T.made=true→T'.q=T.q) (hT:ZbK B W' T'):V0 B was W' (Ts.set k T'):=by
 have hh:∀ i,ZL T' i=ZL T i:=fun i=>by unfold ZL;rw[e1,e3,e4]
 refine ZdX h hk ok par hst hlg hh (fun i=>?_) (fun U hU a=>?_) hT
 ·unfold zX
  rw[hh i,e2];by_cases c:ZL T i=true∧T.made=true
  ·rw[if_pos c,if_pos c,e10 c.2]
  ·rw[if_neg c,if_neg c]
 ·have r:=U7 h hU a
  exact ⟨r.2.2.2.2.1,r.2.2.2.2.2.1⟩
theorem Zea (h:V0 B was W Ts) (hk:Ts[k]?=some T) (hi:idl B.a B.b T.x T.y=true) (hp:T.pc<14):V0 B was W (Ts.set k { T with pc:=T.pc+1 }):=by
 obtain ⟨h1,h2,h3,h4,h5,h6,h7,h8,h9⟩:=h.2.2.2.2 T (List.mem_of_getElem? hk);have a:=h3 hi;have b:T.free=false:=by
  by_cases e:T.free=true
  ·have:=h8 e;rw[a.1]at this;cases this
  ·simpa using e
 exact Ym h hk h.1 rfl (fun _ _ _=>rfl) rfl rfl rfl rfl rfl (fun _=>rfl) (V9 (by show 0≤T.pc+1;omega) (by show T.pc+1≤14;omega) a.1 a.2 b)
theorem ZdL (h:V0 B was W Ts) (hk:Ts[k]?=some T):V0 B was W (Ts.set k T) :=
 Ym h hk h.1 rfl (fun _ _ _=>rfl) rfl rfl rfl rfl rfl (fun _=>rfl) (h.2.2.2.2 T (List.mem_of_getElem? hk))
theorem zA {W':WZ} {T':TZ} (h:ZbK B W T) (hp:T.pc≤5) (hp2:3≤T.pc) (hm:T'.made=false) (e0:T'.pc=T.pc+1) (e1:T'.held=T.held) (e3:T'.free=T.free) (e4:T'.x=T.x) (e10:T'.y=T.y) (e14:T'.wx=T.wx) (hs:T.held=true→sAt W' T.x=sAt W T.x):ZbK B W' T':=by
 obtain ⟨h1,h2,h3,h4,h5,h6,h7,h8,h9⟩:=h;refine ⟨by omega,by omega,fun a=>?_,fun a=>by omega,fun _=>hm,fun a=>by (rw[e3];exact h6 (by omega)),fun a=>by (rw[hm]at a;cases a),fun a=>by (rw[e1];rw[e3]at a;exact h8 a),fun a b=>?_⟩
 ·rw[e4,e10]at a;rw[e1];exact ⟨(h3 a).1,hm⟩
 ·rw[e1]at a
  rw[e3]at b;obtain ⟨j1,j2,j3,j4,j5,j6,j7,j8,j9⟩:=h9 a b;have es:stW W' T.x=stW W T.x:=by unfold stW;rw[hs a]
  unfold ZaW;rw[e4,e14,es,hs a];exact ⟨j1,j2,fun a=>by (rw[hm]at a;cases a),fun a=>by omega,fun a=>by omega,fun a=>by omega,fun a=>by omega,by omega,by omega⟩
theorem yL {W':WZ} {T':TZ} (h:ZbK B W T) (hp:T.pc<14) (hf:¬ (T.held=true∧T.free=false)) (e0:T'.pc=T.pc+1) (e1:T'.held=T.held) (e2:T'.made=T.made) (e3:T'.free=T.free) (e4:T'.x=T.x) (e10:T'.y=T.y):ZbK B W' T':=by
 obtain ⟨h1,h2,h3,h4,h5,h6,h7,h8,h9⟩:=h;refine ⟨by omega,by omega,fun a=>?_,fun a=>by (rw[e1];exact h4 (by omega)),fun a=>by (rw[e2];exact h5 (by omega)),fun a=>by (rw[e3];exact h6 (by omega)),fun a=>by (rw[e1];rw[e2]at a;exact h7 a),fun a=>by (rw[e1];rw[e3]at a;exact h8 a),fun a b=>?_⟩
 ·rw[e4,e10]at a;rw[e1,e2];exact h3 a
 ·rw[e1]at a;rw[e3]at b;exact absurd ⟨a,b⟩ hf
theorem ZdR (h:V0 B was W Ts) (hk:Ts[k]?=some T) (hi:idl B.a B.b T.x T.y=false) (hp:T.pc=2):V0 B was (Xk W T).2 (Ts.set k { (Xk W T).1 with pc:=T.pc+1 }):=by
 have hmem:=List.mem_of_getElem? hk;have hJ:=h.2.2.2.2 T hmem;obtain ⟨h1,h2,h3,h4,h5,h6,h7,h8,h9⟩:=hJ;have hh:=h4 (by omega);have hm:=h5 (by omega);have hf:=h6 (by omega);have p:=Xe h.2.1;obtain ⟨x0,x1,y0,y1,_⟩:=Y6 (W:=W) (T:=T) h.1 (by rw[Xs,p.1,p.2.1];exact hi);rw[p.1,p.2.1]at x1 y1;unfold Xk;by_cases hw:Z5 W T (Za T.wx)=true
 ·rw[if_pos hw]
  simp only;by_cases ht:(Zs W T.x T.wx (YY (Za T.wx))).1=true
  ·obtain ⟨t1,t2,t3⟩:=TR h.1 h.2.1 x0 x1 ht
   have hs:Za T.wx=stW W T.x:=(by unfold stW;rw[t1]);rw[hs]at ht t2 t3 hw⊢;have hk12:(stW W T.x).k=1∨(stW W T.x).k=2:=by
    have:=of_decide_eq_true hw;omega
   have hl:ZA (stW W T.x).k=false:=(by rcases hk12 with e|e<;>rw[e]<;>rfl);have hc:=(h.2.2.1 T.x x0 x1).1;have hfl:(stW W T.x).fl=false:=by
    by_cases e:(stW W T.x).fl=true
    ·have:=hc.2 e;rw[hl]at this;cases this
    ·simpa using e
   have hS:(YY (stW W T.x)).l=(stW W T.x).l∧(YY (stW W T.x)).f=(stW W T.x).f∧(YY (stW W T.x)).fl=(stW W T.x).fl∧ZA (YY (stW W T.x)).k=true:=by
    unfold YY;rcases hk12 with e|e<;>rw[e]<;>exact ⟨rfl,rfl,rfl,rfl⟩
   have hlg:=(Xo W T.x T.wx (YY (stW W T.x))).2.1;refine yv T.x h hk (Yi h.1 _ _ _) (YE _ _ _ _) (fun i i0 _ ne=>Ub i0 x0 ne) (fun i i0 i1 e=>?_) (fun i i0 i1=>?_) (fun i i0 i1=>?_) (fun j U hj hU=>Td h x0 x1 hl (List.mem_of_getElem? hU)) (by rw[hlg];exact h.2.2.2.1) ?_
   ·rw[e,t2]
    refine ⟨fun _=>?_,fun _=>hS.2.2.2⟩;rw[hS.1,hS.2.1];exact hc.1 (by omega)
   ·by_cases e:i=T.x
    ·rw[e,t2]
     simp[hS.2.2.2,hl,ZL,ht,hf,hh]
    ·rw[t3 i i0 e]
     have e':¬ T.x=i:=fun x=>e x.symm;simp[ZL,e']
   ·have:zX { T with held:=(Zs W T.x T.wx (YY (stW W T.x))).1,pc:=T.pc+1 } i=zX T i:=by
     unfold zX;simp[hm]
    rw[this,hlg];by_cases e:i=T.x
    ·rw[e,t2,hS.1]
    ·rw[t3 i i0 e]
   ·refine ⟨by show 0≤T.pc+1;omega,by show T.pc+1≤14;omega,fun a=>?_,fun a=>?_,fun _=>hm,fun _=>hf,fun a=>?_,fun a=>?_,fun a b=>?_⟩
    ·replace a:idl B.a B.b T.x T.y=true:=a
     rw[hi]at a;cases a
    ·replace a:T.pc+1≤2:=a
     omega
    ·replace a:T.made=true:=a
     rw[hm]at a;cases a
    ·replace a:T.free=true:=a
     rw[hf]at a;cases a
    ·have ew:Za T.wx=stW W T.x:=hs
     refine ⟨?_,?_,fun c=>?_,fun c=>?_,fun c=>?_,fun c=>?_,fun c=>?_,?_,?_⟩
     ·show (Za T.wx).l=(stW _ T.x).l
      rw[t2,ew];exact hS.1.symm
     ·show (Za T.wx).f=(stW _ T.x).f
      rw[t2,ew];exact hS.2.1.symm
     ·replace c:T.made=true:=c
      rw[hm]at c;cases c
     ·replace c:T.pc+1=7∨T.pc+1=9:=c
      omega
     ·replace c:T.pc+1=7:=c
      omega
     ·replace c:T.pc+1=8:=c
      omega
     ·replace c:T.pc+1=9:=c
      omega
     ·show 3≤T.pc+1
      omega
     ·show T.pc+1≤9
      omega
  ·have ht':(Zs W T.x T.wx (YY (Za T.wx))).1=false:=by simpa using ht
   have tf:=Uf ht';refine Ym h hk (Yi h.1 _ _ _) (YE _ _ _ _) (fun i _ _=>(ZbD tf.1 i).2.2) tf.2 ?_ rfl rfl rfl (fun _=>rfl) (V9 ?_ ?_ ht' hm hf)
   ·show (Zs W T.x T.wx (YY (Za T.wx))).1=T.held
    rw[ht',hh]
   ·show 0≤T.pc+1
    omega
   ·show T.pc+1≤14
    omega
 ·rw[if_neg hw]
  refine Ym h hk h.1 rfl (fun _ _ _=>rfl) rfl rfl rfl rfl rfl (fun _=>rfl) (V9 ?_ ?_ hh hm hf)
  ·show 0≤T.pc+1
   omega
  ·show T.pc+1≤14
   omega
end
theorem Za8 {s:StZ} {q F:Int} (hl:q≤s.l) (hfl:s.fl=false) (hk:s.k=1∨s.k=2):(ZU { s with l:=s.l - q,f:=s.f+1 } F).l=s.l - q∧ZA (ZU { s with l:=s.l - q,f:=s.f+1 } F).k=false∧vr F (ZU { s with l:=s.l - q,f:=s.f+1 } F):=by
 unfold ZU;simp only;have hh:ZA s.k=false:=by rcases hk with e|e<;>rw[e]<;>rfl
 split
 ·exact ⟨rfl,rfl,fun a=>by simp at a,fun a=>by simp at a⟩
 ·split
  ·exact ⟨rfl,rfl,fun a=>by simp at a,fun a=>by simp at a⟩
  ·refine ⟨rfl,hh,fun a=>by simp only;omega,fun a=>?_⟩
   replace a:s.fl=true:=a;rw[hfl]at a;cases a
section
variable {B:WZ} {was:Int→Int} {W:WZ} {Ts:List TZ} {k:Nat} {T:TZ}
theorem ZeI (h:V0 B was W Ts) (hk:Ts[k]?=some T) (hi:idl B.a B.b T.x T.y=false) (hp:T.pc=5):V0 B was (Xb W T).2 (Ts.set k { (Xb W T).1 with pc:=T.pc+1 }):=by
 have hmem:=List.mem_of_getElem? hk;have hJ:=h.2.2.2.2 T hmem;have hJ':=hJ;obtain ⟨h1,h2,h3,h4,h5,h6,h7,h8,h9⟩:=hJ;have hm:=h5 (by omega);have hf:=h6 (by omega);have p:=Xe h.2.1;obtain ⟨x0,x1,y0,y1,_⟩:=Y6 (W:=W) (T:=T) h.1 (by rw[Xs,p.1,p.2.1];exact hi);rw[p.1,p.2.1]at x1 y1;have hne:=Ziw x0 x1 hi;unfold Xb;by_cases hc:T.held=true∧YC W T (Za T.wy)=true
 ·rw[if_pos hc]
  obtain ⟨⟨q,pr⟩,hq⟩:∃ z,Zc T.tx T.ty (Za T.wx).l (Za T.wy).l=z:=⟨_,rfl⟩;rw[hq];simp only;by_cases he:(Zw (Za T.wy) q W.f).2=0
  ·rw[if_pos he]
   by_cases ht:(Zs W T.y T.wy (Zw (Za T.wy) q W.f).1).1=true
   ·rw[if_pos ht]
    obtain ⟨t1,t2,t3⟩:=TR h.1 h.2.1 y0 y1 ht;have hs:Za T.wy=stW W T.y:=(by unfold stW;rw[t1]);have hlg:=(Xo W T.y T.wy (Zw (Za T.wy) q W.f).1).2.1;have hWt:=(Xo W T.y T.wy (Zw (Za T.wy) q W.f).1).2.2.1;have hT:Zt (Za T.wy).k=true∧1≤q∧q≤(Za T.wy).l∧(Za T.wy).f<W.f∧(Zw (Za T.wy) q W.f).1=ZU { Za T.wy with l:=(Za T.wy).l - q,f:=(Za T.wy).f+1 } W.f:=by
     unfold Zw at he⊢;by_cases a1:Zt (Za T.wy).k=false
     ·rw[if_pos a1]at he;simp at he
     rw[if_neg a1]at he⊢;by_cases a2:q<1
     ·rw[if_pos a2]at he;simp at he
     rw[if_neg a2]at he⊢;by_cases a3:(Za T.wy).l<q
     ·rw[if_pos a3]at he;simp at he
     rw[if_neg a3]at he⊢;by_cases a4:W.f≤(Za T.wy).f
     ·rw[if_pos a4]at he;simp at he
     rw[if_neg a4];exact ⟨by simpa using a1,by omega,by omega,by omega,rfl⟩
    obtain ⟨b1,b2,b3,b4,b5⟩:=hT;replace t2:stW (Zs W T.y T.wy (Zw (Za T.wy) q W.f).1).2 T.y=ZU { stW W T.y with l:=(stW W T.y).l - q,f:=(stW W T.y).f+1 } W.f:=t2.trans (by rw[b5,hs]);rw[hs]at b1 b3 b4;have hk12:=zr b1;have hl:ZA (stW W T.y).k=false:=(by rcases hk12 with e|e<;>rw[e]<;>rfl);have hfl:(stW W T.y).fl=false:=by
     by_cases e:(stW W T.y).fl=true
     ·have:=(h.2.2.1 T.y y0 y1).1.2 e;rw[hl]at this;cases this
     ·simpa using e
    have hE:=Za8 (F:=W.f) b3 hfl hk12;have hold:=h9 hc.1 hf;have mq:=Zg2 (a:=T.tx) (b:=T.ty) (l:=(Za T.wx).l) (o:=(Za T.wy).l) (by rw[hq];show q≠0;omega);rw[hq]at mq;simp only at mq;have qx:q≤(stW W T.x).l:=(by rw[← hold.1];exact mq.2.1);have hB:ZL T T.x=true:=(by simp[ZL,hc.1,hf]);refine yv T.y h hk (Ut (Yi h.1 _ _ _) _ _ _ _ _ _ _ _) ((xk _ _ _ _ _ _ _ _ _).trans (YE _ _ _ _)) (fun i i0 _ ne=>Ub i0 y0 ne) (fun i i0 i1 e=>?_) (fun i i0 i1=>?_) (fun i i0 i1=>?_) (fun j U hj hU=>Td h y0 y1 hl (List.mem_of_getElem? hU)) ?_ ?_
    ·rw[e]
     show vr B.f (stW (Zs W T.y T.wy (Zw (Za T.wy) q W.f).1).2 T.y);rw[t2,← p.2.2.2.2.1];exact hE.2.2
    ·show (if ZA (stW (Zs W T.y T.wy (Zw (Za T.wy) q W.f).1).2 i).k=true then 1 else 0)+(if ZL T i=true then 1 else 0)=(if ZA (stW W i).k=true then 1 else 0)+(if ZL T i=true then 1 else 0)
     by_cases e:i=T.y
     ·rw[e,t2,hE.2.1,hl]
     ·rw[t3 i i0 e]
    ·show (stW (Zs W T.y T.wy (Zw (Za T.wy) q W.f).1).2 i).l+UI i ((Zs W T.y T.wy (Zw (Za T.wy) q W.f).1).2.lg++[evC 2 T.x (Za T.wx).g T.y (Za T.wy).g q pr _ 0]) - (if ZL T i=true∧true=true then q else 0)=_
     rw[zR,hlg];have o0:zX T i=0:=(by unfold zX;rw[hm];simp);rw[o0];simp only[UI,Zh2,and_true];by_cases e:i=T.y
     ·have e1:¬ T.x=i:=fun x=>hne (x.trans e)
      have e2:¬ (ZL T i=true):=(by simp[ZL,e1]);have e3:T.y=i:=e.symm;rw[if_neg e1,if_neg e2,if_pos e3,e,t2,hE.1];omega
     ·rw[t3 i i0 e]
      have e3:¬ T.y=i:=fun x=>e x.symm;rw[if_neg e3];by_cases ex:T.x=i
      ·have e2:ZL T i=true:=by rw[← ex];exact hB
       rw[if_pos ex,if_pos e2];omega
      ·have e2:¬ (ZL T i=true):=by simp[ZL,ex]
       rw[if_neg ex,if_neg e2];omega
    ·intro r hr
     replace hr:r∈(Zs W T.y T.wy (Zw (Za T.wy) q W.f).1).2.lg++[evC 2 T.x (Za T.wx).g T.y (Za T.wy).g q pr (Zs W T.y T.wy (Zw (Za T.wy) q W.f).1).2.t 0]:=hr;rw[hlg]at hr;rcases List.mem_append.1 hr with hr|hr
     ·exact h.2.2.2.1 r hr
     ·rw[List.mem_singleton]at hr
      exact ⟨2,T.x,_,T.y,_,q,pr,_,0,hr,fun _=>⟨x0,x1,y0,y1⟩⟩
    ·have es:∀ i:Int,0≤i→i≠T.y→sAt (Zs W T.y T.wy (Zw (Za T.wy) q W.f).1).2 i=sAt W i:=fun i i0 ne=>Ub i0 y0 ne
     refine ⟨by show 0≤T.pc+1;omega,by show T.pc+1≤14;omega,fun a=>?_,fun a=>?_,fun a=>?_,fun _=>hf,fun _=>hc.1,fun a=>?_,fun a b=>?_⟩
     ·replace a:idl B.a B.b T.x T.y=true:=a
      rw[hi]at a;cases a
     ·replace a:T.pc+1≤2:=a
      omega
     ·replace a:T.pc+1≤5:=a
      omega
     ·replace a:T.free=true:=a
      rw[hf]at a;cases a
     ·refine ⟨?_,?_,fun c=>?_,fun c=>?_,fun c=>?_,fun c=>?_,fun c=>?_,?_,?_⟩
      ·show (Za T.wx).l=(stW (Zs W T.y T.wy (Zw (Za T.wy) q W.f).1).2 T.x).l
       rw[t3 T.x x0 hne];exact hold.1
      ·show (Za T.wx).f=(stW (Zs W T.y T.wy (Zw (Za T.wy) q W.f).1).2 T.x).f
       rw[t3 T.x x0 hne];exact hold.2.1
      ·show 1≤q∧q≤(stW (Zs W T.y T.wy (Zw (Za T.wy) q W.f).1).2 T.x).l
       rw[t3 T.x x0 hne];exact ⟨b2,qx⟩
      ·replace c:T.pc+1=7∨T.pc+1=9:=c
       omega
      ·replace c:T.pc+1=7:=c
       omega
      ·replace c:T.pc+1=8:=c
       omega
      ·replace c:T.pc+1=9:=c
       omega
      ·show 3≤T.pc+1
       omega
      ·show T.pc+1≤9
       omega
   ·rw[if_neg ht]
    have ht':(Zs W T.y T.wy (Zw (Za T.wy) q W.f).1).1=false:=(by simpa using ht);have tf:=Uf ht';refine Ym h hk (Yi h.1 _ _ _) (YE _ _ _ _) (fun i _ _=>(ZbD tf.1 i).2.2) tf.2 rfl rfl rfl rfl (fun a=>by (rw[hm]at a;cases a)) (zA hJ' (by omega) (by omega) hm rfl rfl rfl rfl rfl rfl fun _=>(ZbD tf.1 _).2.2)
  ·rw[if_neg he]
   exact Ym h hk h.1 rfl (fun _ _ _=>rfl) rfl rfl rfl rfl rfl (fun a=>by (rw[hm]at a;cases a)) (zA hJ' (by omega) (by omega) hm rfl rfl rfl rfl rfl rfl fun _=>rfl)
 ·rw[if_neg hc]
  exact Ym h hk h.1 rfl (fun _ _ _=>rfl) rfl rfl rfl rfl rfl (fun _=>rfl) (zA hJ' (by omega) (by omega) hm rfl rfl rfl rfl rfl rfl fun _=>rfl)
end
section
variable {B:WZ} {was:Int→Int} {W:WZ} {Ts:List TZ} {k:Nat} {T:TZ}
theorem Zet (h:V0 B was W Ts) (hk:Ts[k]?=some T) (hi:idl B.a B.b T.x T.y=false) (hp:T.pc=6∨T.pc=8):V0 B was (YH W T).2 (Ts.set k { (YH W T).1 with pc:=T.pc+1 }):=by
 have hmem:=List.mem_of_getElem? hk;have hJ:=h.2.2.2.2 T hmem;have hJ':=hJ;obtain ⟨h1,h2,h3,h4,h5,h6,h7,h8,h9⟩:=hJ;unfold YH;by_cases hc:T.held=true∧T.free=false
 ·rw[if_pos hc]
  have hB:ZL T T.x=true:=by simp[ZL,hc.1,hc.2]
  have r:=U7 h hmem hB;obtain ⟨_,_,_,_,x0,x1,j1,j2,j3,j4,j5,j6,j7,j8,j9⟩:=r;refine Ym h hk (Y8 h.1) rfl (fun _ _ _=>rfl) rfl rfl rfl rfl rfl (fun _=>rfl) ⟨by show 0≤T.pc+1;omega,by show T.pc+1≤14;omega,h3,fun a=>?_,fun a=>?_,fun a=>hc.2,h7,h8,fun a b=>?_⟩
  ·replace a:T.pc+1≤2:=a
   omega
  ·replace a:T.pc+1≤5:=a
   omega
  ·refine ⟨rfl,rfl,j3,fun _=>zC h x0 x1 hmem hB,fun _=>.inl rfl,fun c=>?_,fun c=>⟨?_,rfl⟩,?_,?_⟩
   ·replace c:T.pc+1=8:=c
    omega
   ·replace c:T.pc+1=9:=c
    exact j6 (by omega)
   ·show 3≤T.pc+1
    omega
   ·show T.pc+1≤9
    omega
 ·rw[if_neg hc]
  exact Ym h hk h.1 rfl (fun _ _ _=>rfl) rfl rfl rfl rfl rfl (fun _=>rfl) (yL hJ' (by omega) hc rfl rfl rfl rfl rfl rfl)
theorem ZbV {s:StZ} {q F:Int} (hh:ZA s.k=true) (hq0:0≤q) (hq:q≤s.l) (hl:1≤s.l) (hf:s.f<F) (hg:0≤s.g∧s.g≤255) (hl2:s.l≤65535) (hf0:0≤s.f) (hF:F≤255) :
  (Zf s q F).2=0∧(Zf s q F).1.l=s.l - q∧ZA (Zf s q F).1.k=false∧(Zf s q F).1.fl=false∧vr F (Zf s q F).1∧∃ v,ZN (Zf s q F).1=some v:=by
 have hk:=yR hh
 have key:∀ t:StZ,(t.k=3∨t.k=4)→0≤t.l→(1≤t.l→t.f<F∨True)→0≤t.f→t.f≤255→t.l≤65535→0≤t.g→t.g≤255 →
   (Yo t F).l=t.l∧ZA (Yo t F).k=false∧(Yo t F).fl=false∧vr F (Yo t F)∧∃ v,ZN (Yo t F)=some v:=by
  intro t tk tl tf0 tf tf2 tl2 tg tg2
  have hE:∃ e:StZ,ZU (ZV t) F=e∧e.l=t.l∧e.f=t.f∧e.g=t.g∧(e.k=1∨e.k=2∨e.k=5∨e.k=8)∧(e.k=1∨e.k=2→1≤e.l∧e.f<F):=by
   have hL:∃ u:StZ,ZV t=u∧u.l=t.l∧u.f=t.f∧u.g=t.g∧(u.k=1∨u.k=2):=by
    refine ⟨_,rfl,?_⟩;unfold ZV;rcases tk with e|e
    ·rw[if_pos e];exact ⟨rfl,rfl,rfl,.inl rfl⟩
    ·rw[if_neg (by omega),if_pos e];exact ⟨rfl,rfl,rfl,.inr rfl⟩
   obtain ⟨u,hu,ul,uf,ug,uk⟩:=hL;rw[hu];refine ⟨_,rfl,?_⟩;unfold ZU;by_cases c1:u.l=0
   ·rw[if_pos c1];exact ⟨ul,uf,ug,.inr (.inr (.inl rfl)),fun a=>by simp at a⟩
   rw[if_neg c1];by_cases c2:F≤u.f
   ·rw[if_pos c2];exact ⟨ul,uf,ug,.inr (.inr (.inr rfl)),fun a=>by simp at a⟩
   rw[if_neg c2];exact ⟨ul,uf,ug,by omega,fun _=>⟨by omega,by omega⟩⟩
  obtain ⟨e,he,el,ef,eg,ek,e9⟩:=hE
  unfold Yo
  rw[he]
  by_cases c:e.fl=true
  ·rw[if_pos c]
   refine ⟨el,rfl,rfl,⟨fun a=>by simp at a,fun a=>by simp at a⟩,?_⟩;exact Vr (by simp) (by simp) (by simp only;omega) (by simp only;omega) (by simp only;omega) (by simp only;omega) (by simp only;omega) (by simp only;omega)
  ·rw[if_neg c]
   refine ⟨el,?_,by simpa using c,⟨fun a=>?_,fun a=>absurd a c⟩,Vr (by omega) (by omega) (by omega) (by omega) (by omega) (by omega) (by omega) (by omega)⟩
   ·rcases ek with k|k|k|k<;>rw[k]<;>rfl
   ·exact e9 (by omega)
 unfold Zf
 rw[if_neg (by rw[hh];simp),if_neg (by omega),if_neg (by omega)]
 by_cases c:0<q
 ·rw[if_pos c,if_neg (by omega)]
  have:=key { s with l:=s.l - q,f:=s.f+1 } hk (by simp only;omega) (fun _=>.inr trivial) (by simp only;omega) (by simp only;omega) (by simp only;omega) hg.1 hg.2;exact ⟨rfl,this⟩
 ·rw[if_neg c]
  have:=key s hk (by omega) (fun _=>.inr trivial) (by omega) (by omega) hl2 hg.1 hg.2;have e:q=0:=by omega
  subst e;refine ⟨rfl,by rw[Int.sub_zero];exact this.1,this.2⟩
theorem ZfR (h:V0 B was W Ts) (hk:Ts[k]?=some T) (hi:idl B.a B.b T.x T.y=false) (hp:T.pc=7∨T.pc=9):V0 B was (Uh W T).2 (Ts.set k { (Uh W T).1 with pc:=T.pc+1 }):=by
 have hmem:=List.mem_of_getElem? hk;have hJ:=h.2.2.2.2 T hmem;have hJ':=hJ;obtain ⟨h1,h2,h3,h4,h5,h6,h7,h8,h9⟩:=hJ;have p:=Xe h.2.1;unfold Uh;by_cases hc:T.held=true∧T.free=false
 ·rw[if_pos hc]
  have hB:ZL T T.x=true:=by simp[ZL,hc.1,hc.2]
  obtain ⟨_,_,_,_,x0,x1,j1,j2,j3,j4,j5,j6,j7,j8,j9⟩:=U7 h hmem hB;have hcell:=zC h x0 x1 hmem hB;have hk34:=yR hcell;have hC:=(h.2.2.1 T.x x0 x1).1.1 (by omega);have hsR:=stR T.wx;have hF:=ZH (Zl h.1).1;have hq:0≤XF T∧XF T≤(Za T.wx).l:=by
   unfold XF;by_cases m:T.made=true
   ·rw[if_pos m,j1];have:=j3 m;omega
   ·rw[if_neg m];omega
  have hR:=ZbV (s:=Za T.wx) (q:=XF T) (F:=W.f) (j4 hp) hq.1 hq.2 (by omega) (by rw[j2,p.2.2.2.2.1];exact hC.2) ⟨by omega,by omega⟩ (by omega) (by omega) (by omega);obtain ⟨r1,r2,r3,r4,r5,v,r6⟩:=hR;rw[if_pos r1];obtain ⟨n,hn⟩:∃ n,(Zf (Za T.wx) (XF T) W.f).1=n:=⟨_,rfl⟩;rw[hn]at r2 r3 r4 r5 r6⊢;by_cases ht:(Zs W T.x T.wx n).1=true
  ·rw[if_pos ht]
   obtain ⟨t1,t2,t3⟩:=TR h.1 h.2.1 x0 x1 ht;have hlg:=(Xo W T.x T.wx n).2.1;simp only;obtain ⟨V,hV⟩:∃ V,(if T8 n.k=true then Uk (Zs W T.x T.wx n).2 7 T.x n.g 0 0 0 0 n.k else (Zs W T.x T.wx n).2)=V:=⟨_,rfl⟩;rw[hV];have V1:okW V=true:=by
    rw[← hV];split
    ·exact Ut (Yi h.1 _ _ _) _ _ _ _ _ _ _ _
    ·exact Yi h.1 _ _ _
   have V2:TD V=TD W:=by
    rw[← hV];split
    ·exact (xk _ _ _ _ _ _ _ _ _).trans (YE _ _ _ _)
    ·exact YE _ _ _ _
   have V3:∀ i,sAt V i=sAt (Zs W T.x T.wx n).2 i:=by
    intro i;rw[← hV];split<;>rfl
   have V3':∀ i,stW V i=stW (Zs W T.x T.wx n).2 i:=fun i=>by unfold stW;rw[V3]
   have V4:∀ i,UI i V.lg=UI i W.lg:=by
    intro i;rw[← hV];split
    ·simp only[Uk,zR,hlg,UI]
     rw[Zh6 (by decide)];omega
    ·rw[hlg]
   have V5:LogJ (B.a*B.b) V.lg:=by
    rw[← hV];split
    ·intro r hr
     simp only[Uk,hlg]at hr;rcases List.mem_append.1 hr with hr|hr
     ·exact h.2.2.2.1 r hr
     ·rw[List.mem_singleton]at hr
      exact ⟨7,_,_,_,_,_,_,_,_,hr,fun e=>by omega⟩
    ·rw[hlg];exact h.2.2.2.1
   refine yv T.x h hk V1 V2 (fun i i0 _ ne=>(V3 i).trans (Ub i0 x0 ne)) (fun i i0 i1 e=>?_) (fun i i0 i1=>?_) (fun i i0 i1=>?_) (fun j U hj hU=>Zd1 h x0 x1 hk hB hj hU) V5 ?_
   ·rw[e,V3',t2,← p.2.2.2.2.1];exact r5
   ·rw[V3']
    by_cases e:i=T.x
    ·rw[e,t2,r3,hcell,hB];simp[ZL]
    ·rw[t3 i i0 e]
     have e':¬ T.x=i:=fun x=>e x.symm;simp[ZL,e']
   ·rw[V3',V4]
    have o1:zX { T with free:=true,nx:=n,en:=W.t,pc:=T.pc+1 } i=0:=(by simp[zX,ZL]);show _ - zX { T with free:=true,nx:=n,en:=W.t,pc:=T.pc+1 } i=_;rw[o1];by_cases e:i=T.x
    ·rw[e,t2,r2,j1]
     have:zX T T.x=XF T:=by
      unfold zX XF;rw[hB];by_cases m:T.made=true<;>simp[m]
     rw[this];omega
    ·rw[t3 i i0 e]
     have e':¬ T.x=i:=fun x=>e x.symm;have:zX T i=0:=(by simp[zX,ZL,e']);rw[this]
   ·refine ⟨by show 0≤T.pc+1;omega,by show T.pc+1≤14;omega,h3,fun a=>?_,fun a=>?_,fun a=>?_,h7,fun _=>hc.1,fun a b=>by cases b⟩
    ·replace a:T.pc+1≤2:=a
     omega
    ·replace a:T.pc+1≤5:=a
     omega
    ·replace a:T.pc+1≤7:=a
     omega
  ·rw[if_neg ht]
   have ht':(Zs W T.x T.wx n).1=false:=(by simpa using ht);have tf:=Uf ht';have hw:=ZeW r6 ht';have hp7:T.pc=7:=by
    rcases hp with e|e
    ·exact e
    ·exact absurd (j7 e).2 hw
   have hfl:(stW W T.x).fl=true:=by
    rcases j5 hp7 with e|e
    ·exact absurd e hw
    ·exact e
   refine Ym h hk (Yi h.1 _ _ _) (YE _ _ _ _) (fun i _ _=>(ZbD tf.1 i).2.2) tf.2 rfl rfl rfl rfl (fun _=>rfl) ⟨by show 0≤T.pc+1;omega,by show T.pc+1≤14;omega,h3,fun a=>?_,fun a=>?_,fun _=>hc.2,h7,h8,fun a b=>?_⟩
   ·replace a:T.pc+1≤2:=a
    omega
   ·replace a:T.pc+1≤5:=a
    omega
   ·have es:=ZbD tf.1 T.x
    refine ⟨?_,?_,?_,fun c=>?_,fun c=>?_,fun c=>?_,fun c=>?_,?_,?_⟩
    ·show (Za T.wx).l=(stW _ T.x).l
     rw[es.1];exact j1
    ·show (Za T.wx).f=(stW _ T.x).f
     rw[es.1];exact j2
    ·show T.made=true→1≤T.q∧T.q≤(stW _ T.x).l
     rw[es.1];exact j3
    ·replace c:T.pc+1=7∨T.pc+1=9:=c
     omega
    ·replace c:T.pc+1=7:=c
     omega
    ·show (stW _ T.x).fl=true
     rw[es.1];exact hfl
    ·replace c:T.pc+1=9:=c
     omega
    ·show 3≤T.pc+1
     omega
    ·show T.pc+1≤9
     omega
 ·rw[if_neg hc]
  exact Ym h hk h.1 rfl (fun _ _ _=>rfl) rfl rfl rfl rfl rfl (fun _=>rfl) (yL hJ' (by omega) hc rfl rfl rfl rfl rfl rfl)
theorem Zd5 (h:V0 B was W Ts) (hk:Ts[k]?=some T):V0 B was (ZC W T).2 (Ts.set k (ZC W T).1):=by
 have hmem:=List.mem_of_getElem? hk;have hJ:=h.2.2.2.2 T hmem;have hJ':=hJ;obtain ⟨h1,h2,h3,h4,h5,h6,h7,h8,h9⟩:=hJ;have p:=Xe h.2.1;unfold ZC;by_cases c:14≤T.pc
 ·rw[if_pos c];exact ZdL h hk
 rw[if_neg c];by_cases hi:idl B.a B.b T.x T.y=true
 ·rw[if_pos (by rw[Xs,p.1,p.2.1];exact hi)]
  exact Zea h hk hi (by omega)
 rw[if_neg (by rw[Xs,p.1,p.2.1];exact hi)];have hi':idl B.a B.b T.x T.y=false:=by simpa using hi
 unfold ZP;by_cases c0:T.pc=0
 ·rw[if_pos c0]
  exact Ym h hk (Y8 h.1) rfl (fun _ _ _=>rfl) rfl rfl rfl rfl rfl (fun _=>rfl) (V9 (by show 0≤T.pc+1;omega) (by show T.pc+1≤14;omega) (h4 (by omega)) (h5 (by omega)) (h6 (by omega)))
 rw[if_neg c0];by_cases c1:T.pc=1
 ·rw[if_pos c1]
  exact Ym h hk (Y8 h.1) rfl (fun _ _ _=>rfl) rfl rfl rfl rfl rfl (fun _=>rfl) (V9 (by show 0≤T.pc+1;omega) (by show T.pc+1≤14;omega) (h4 (by omega)) (h5 (by omega)) (h6 (by omega)))
 rw[if_neg c1];by_cases c2:T.pc=2
 ·rw[if_pos c2];exact ZdR h hk hi' c2
 rw[if_neg c2];by_cases c3:T.pc=3
 ·rw[if_pos c3]
  exact Ym h hk (Y8 h.1) rfl (fun _ _ _=>rfl) rfl rfl rfl rfl rfl (fun _=>rfl) (zA hJ' (by omega) (by omega) (h5 (by omega)) rfl rfl rfl rfl rfl rfl fun _=>rfl)
 rw[if_neg c3];by_cases c4:T.pc=4
 ·rw[if_pos c4]
  exact Ym h hk (Y8 h.1) rfl (fun _ _ _=>rfl) rfl rfl rfl rfl rfl (fun _=>rfl) (zA hJ' (by omega) (by omega) (h5 (by omega)) rfl rfl rfl rfl rfl rfl fun _=>rfl)
 rw[if_neg c4];by_cases c5:T.pc=5
 ·rw[if_pos c5];exact ZeI h hk hi' c5
 rw[if_neg c5];by_cases c6:T.pc=6∨T.pc=8
 ·rw[if_pos c6];exact Zet h hk hi' c6
 rw[if_neg c6];by_cases c7:T.pc=7∨T.pc=9
 ·rw[if_pos c7];exact ZfR h hk hi' c7
 rw[if_neg c7];have hoff:¬ (T.held=true∧T.free=false):=fun a=>by
  have:=(h9 a.1 a.2).2.2.2.2.2.2.2.2;omega
 have nf:=Zal W T;refine Ym h hk (TY h.1 T) (Zbu W T) (fun i i0 i1=>?_) nf.2.1 rfl rfl rfl rfl (fun _=>rfl) (yL hJ' (by omega) hoff rfl rfl rfl rfl rfl rfl);unfold sAt;exact vx h.1 (by rw[p.1,p.2.1];omega)
end
end Go.W
