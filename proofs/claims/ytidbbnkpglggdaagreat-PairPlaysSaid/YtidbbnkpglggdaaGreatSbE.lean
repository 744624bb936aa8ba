/- The document's try steps as the program's does. One step of both. Taking, letting go, noting: both alike. Every step of a try: both alike. -/
import Derived.Test.YtidbbnkpglggdaaGreatRaD
import Derived.Test.YtidbbnkpglggdaaGreatSbA
namespace Go.W
open Go.Proofs
set_option linter.unusedSimpArgs false
set_option linter.unusedVariables false
set_option maxHeartbeats 8000000
attribute [local irreducible] Wm
attribute [local simp] Y5 lkp VW prs Uv prT ddL idL YN Um Ren Vt NObj.none Z4
def xD (Q:QZ) (x:Int):StZ:=Q.S.getD x.toNat Zu
def Zfp (Q:QZ) (x:Int):TmZ:=Q.T.getD x.toNat ⟨0,0,0,0,0⟩
def Xh (Q:QZ):QZ:={ Q with u:=Q.u+1 }
def UA (Q:QZ) (R:RZ):Bool:=decide (if R.way=3 then R.sx.k=2∧R.tx.sd=0∧YG Q.c Q.d R.tx.nm (Y9 Q.d R.tx.pr)=R.sh else 1≤R.way∧R.way≤2∧R.sx.k=1∧R.sx.g=R.gn)
def c0R (Q:QZ) (R:RZ):RZ×QZ:=({ R with sx:=xD Q R.x },Xh Q)
def c1R (Q:QZ) (R:RZ):RZ×QZ:=({ R with tx:=Zfp Q R.x },Xh Q)
def c2R (Q:QZ) (R:RZ):RZ×QZ:=if UA Q R=true then ({ R with held:=(ZY Q R.x R.sx { R.sx with k:=R.sx.k+2 }).1 },(ZY Q R.x R.sx { R.sx with k:=R.sx.k+2 }).2) else (R,Q)
def c3R (Q:QZ) (R:RZ):RZ×QZ:=({ R with sy:=xD Q R.y },Xh Q)
def c4R (Q:QZ) (R:RZ):RZ×QZ:=({ R with ty:=Zfp Q R.y },Xh Q)
def c6R (Q:QZ) (R:RZ):RZ×QZ:=if R.held=true∧R.free=false then ({ R with sx:=xD Q R.x },Xh Q) else (R,Q)
def Zdq (Q:QZ) (R:RZ):RZ×QZ:=(R,if R.made=true then Xm Q R.x R.nx.g (R.nx.f - 1) ⟨1,R.q,R.p,R.ta,R.y,R.ny.g⟩ else Q)
def Zdo (Q:QZ) (R:RZ):RZ×QZ:=(R,if R.made=true then Xm Q R.y R.ny.g (R.ny.f - 1) ⟨1,R.q,R.p,R.ta,R.x,R.nx.g⟩ else Q)
def ZbI (Q:QZ) (R:RZ):RZ×QZ:=(R,if R.made=true∧(ZW R.ny R.ta).2=true then Xm Q R.y R.ny.g Q.f (ZW R.ny R.ta).1 else Q)
def ZbJ (Q:QZ) (R:RZ):RZ×QZ:=(R,if R.held=true∧(ZW R.nx R.en).2=true then Xm Q R.x R.nx.g Q.f (ZW R.nx R.en).1 else Q)
theorem UP {Q:QZ} (h:okQ Q=true):okQ (Xh Q)=true:=by
 obtain ⟨h1,h2,h3,h4,h5,h6,h7,h8,h9⟩:=Zp h;exact decide_eq_true ⟨h1,h2,h3,h4,h5,h6,h7,h8,by show 0≤Q.u+1;omega⟩
def ve (Q:QZ) (R:RZ):Bool:=decide (R.x<0∨Q.a*Q.b≤R.x∨R.y<0∨Q.a*Q.b≤R.y∨R.x / Q.b=R.y / Q.b)
def VJ (Q:QZ) (R:RZ) (k:Int):RZ×QZ:=if k=0 then c0R Q R else if k=1 then c1R Q R else if k=2 then c2R Q R else if k=3 then c3R Q R else if k=4 then c4R Q R else if k=5 then XD Q R else if k=6 then c6R Q R else if k=7 then Ty Q R else if k=8 then c6R Q R else if k=9 then Ty Q R else if k=10 then Zdq Q R else if k=11 then Zdo Q R else if k=12 then ZbI Q R else ZbJ Q R
def ZX (Q:QZ) (R:RZ):RZ×QZ:=if 14≤R.pc then (R,Q) else if ve Q R=true then ({ R with pc:=R.pc+1 },Q) else VJ Q { R with pc:=R.pc+1 } R.pc
def Zhj (Q:QZ) (R:RZ):Bool:=ve Q R || (decide (¬ (R.pc=10∧R.made=true)∨(1≤R.nx.g∧R.nx.g≤Q.g∧0≤R.nx.f - 1∧R.nx.f - 1≤Q.f))&&(decide (¬ (R.pc=11∧R.made=true)∨(1≤R.ny.g∧R.ny.g≤Q.g∧0≤R.ny.f - 1∧R.ny.f - 1≤Q.f))&&(decide (¬ (R.pc=12∧R.made=true∧(ZW R.ny R.ta).2=true)∨(1≤R.ny.g∧R.ny.g≤Q.g))&&decide (¬ (R.pc=13∧R.held=true∧(ZW R.nx R.en).2=true)∨(1≤R.nx.g∧R.nx.g≤Q.g)))))
theorem Zha {Q:QZ} {R:RZ} (h:Zhj Q R=true) (hi:ve Q R=false):(R.pc=10→R.made=true→1≤R.nx.g∧R.nx.g≤Q.g∧0≤R.nx.f - 1∧R.nx.f - 1≤Q.f)∧(R.pc=11→R.made=true→1≤R.ny.g∧R.ny.g≤Q.g∧0≤R.ny.f - 1∧R.ny.f - 1≤Q.f)∧(R.pc=12→R.made=true→(ZW R.ny R.ta).2=true→1≤R.ny.g∧R.ny.g≤Q.g)∧(R.pc=13→R.held=true→(ZW R.nx R.en).2=true→1≤R.nx.g∧R.nx.g≤Q.g):=by
 unfold Zhj at h;rw[hi,Bool.false_or,Bool.and_eq_true,Bool.and_eq_true,Bool.and_eq_true]at h;obtain ⟨h1,h2,h3,h4⟩:=h;exact ⟨fun a b=>(of_decide_eq_true h1).resolve_left fun x=>x ⟨a,b⟩,fun a b=>(of_decide_eq_true h2).resolve_left fun x=>x ⟨a,b⟩,fun a b c=>(of_decide_eq_true h3).resolve_left fun x=>x ⟨a,b,c⟩,fun a b c=>(of_decide_eq_true h4).resolve_left fun x=>x ⟨a,b,c⟩⟩
theorem Zf7 {Q:QZ} {R:RZ} (h:ve Q R=false→(R.pc=10→R.made=true→1≤R.nx.g∧R.nx.g≤Q.g∧0≤R.nx.f - 1∧R.nx.f - 1≤Q.f)∧(R.pc=11→R.made=true→1≤R.ny.g∧R.ny.g≤Q.g∧0≤R.ny.f - 1∧R.ny.f - 1≤Q.f)∧(R.pc=12→R.made=true→(ZW R.ny R.ta).2=true→1≤R.ny.g∧R.ny.g≤Q.g)∧(R.pc=13→R.held=true→(ZW R.nx R.en).2=true→1≤R.nx.g∧R.nx.g≤Q.g)):Zhj Q R=true:=by
 unfold Zhj;by_cases hi:ve Q R=true
 ·rw[hi];rfl
 ·have hi:ve Q R=false:=by simpa using hi
  obtain ⟨h1,h2,h3,h4⟩:=h hi;have imp:∀ {p q:Prop},(p→q)→¬ p∨q:=fun {p q} f=>(Classical.em p).elim (fun hp=>.inr (f hp)) .inl;rw[hi,Bool.false_or,Bool.and_eq_true,Bool.and_eq_true,Bool.and_eq_true];exact ⟨decide_eq_true (imp fun x=>h1 x.1 x.2),decide_eq_true (imp fun x=>h2 x.1 x.2),decide_eq_true (imp fun x=>h3 x.1 x.2.1 x.2.2),decide_eq_true (imp fun x=>h4 x.1 x.2.1 x.2.2)⟩
theorem Zc0 {Q:QZ} {R:RZ} (h:ve Q R=false):0≤R.x∧R.x<Q.a*Q.b∧0≤R.y∧R.y<Q.a*Q.b∧R.x / Q.b≠R.y / Q.b:=by
 have:=of_decide_eq_false h;refine ⟨?_,?_,?_,?_,fun e=>this (.inr (.inr (.inr (.inr e))))⟩<;>omega
theorem ZaK {Q:QZ} (h:okQ Q=true) (x gn n:Int) (r:RcZ) (x0:0≤x) (x1:x<Q.a*Q.b):okQ (Xm Q x gn n r)=true:=VC h _ _ _ _ (by have:=(Zp h).2.2.2.1;omega)
theorem ZhI {Q:QZ} (h:okQ Q=true) (R:RZ):okQ (c2R Q R).2=true:=by
 unfold c2R;by_cases c:UA Q R=true
 ·rw[if_pos c];exact YA h _ _ _
 ·rw[if_neg c];exact h
theorem Zfm {Q:QZ} (h:okQ Q=true) (R:RZ):okQ (c6R Q R).2=true:=by
 unfold c6R;by_cases c:R.held=true∧R.free=false
 ·rw[if_pos c];exact UP h
 ·rw[if_neg c];exact h
theorem Zg6 {Q:QZ} (h:okQ Q=true) (R:RZ) (x0:0≤R.x) (x1:R.x<Q.a*Q.b):okQ (Zdq Q R).2=true:=by
 unfold Zdq;by_cases c:R.made=true
 ·rw[if_pos c];exact ZaK h _ _ _ _ x0 x1
 ·rw[if_neg c];exact h
theorem Zhf {Q:QZ} (h:okQ Q=true) (R:RZ) (x0:0≤R.y) (x1:R.y<Q.a*Q.b):okQ (Zdo Q R).2=true:=by
 unfold Zdo;by_cases c:R.made=true
 ·rw[if_pos c];exact ZaK h _ _ _ _ x0 x1
 ·rw[if_neg c];exact h
theorem Zf0 {Q:QZ} (h:okQ Q=true) (R:RZ) (x0:0≤R.y) (x1:R.y<Q.a*Q.b):okQ (ZbI Q R).2=true:=by
 unfold ZbI;by_cases c:R.made=true∧(ZW R.ny R.ta).2=true
 ·rw[if_pos c];exact ZaK h _ _ _ _ x0 x1
 ·rw[if_neg c];exact h
theorem ZgD {Q:QZ} (h:okQ Q=true) (R:RZ) (x0:0≤R.x) (x1:R.x<Q.a*Q.b):okQ (ZbJ Q R).2=true:=by
 unfold ZbJ;by_cases c:R.held=true∧(ZW R.nx R.en).2=true
 ·rw[if_pos c];exact ZaK h _ _ _ _ x0 x1
 ·rw[if_neg c];exact h
theorem Zeu {Q:QZ} (h:okQ Q=true) (R:RZ):okQ (ZX Q R).2=true:=by
 unfold ZX;by_cases c:14≤R.pc
 ·rw[if_pos c];exact h
 rw[if_neg c];by_cases hi:ve Q R=true
 ·rw[if_pos hi];exact h
 rw[if_neg hi];obtain ⟨x0,x1,y0,y1,_⟩:=Zc0 (by simpa using hi);unfold VJ;by_cases k0:R.pc=0
 ·rw[if_pos k0];exact UP h
 rw[if_neg k0];by_cases k1:R.pc=1
 ·rw[if_pos k1];exact UP h
 rw[if_neg k1];by_cases k2:R.pc=2
 ·rw[if_pos k2];exact ZhI h _
 rw[if_neg k2];by_cases k3:R.pc=3
 ·rw[if_pos k3];exact UP h
 rw[if_neg k3];by_cases k4:R.pc=4
 ·rw[if_pos k4];exact UP h
 rw[if_neg k4];by_cases k5:R.pc=5
 ·rw[if_pos k5];exact yU h _
 rw[if_neg k5];by_cases k6:R.pc=6
 ·rw[if_pos k6];exact Zfm h _
 rw[if_neg k6];by_cases k7:R.pc=7
 ·rw[if_pos k7];exact zq h _
 rw[if_neg k7];by_cases k8:R.pc=8
 ·rw[if_pos k8];exact Zfm h _
 rw[if_neg k8];by_cases k9:R.pc=9
 ·rw[if_pos k9];exact zq h _
 rw[if_neg k9];by_cases k10:R.pc=10
 ·rw[if_pos k10];exact Zg6 h _ x0 x1
 rw[if_neg k10];by_cases k11:R.pc=11
 ·rw[if_pos k11];exact Zhf h _ y0 y1
 rw[if_neg k11];by_cases k12:R.pc=12
 ·rw[if_pos k12];exact Zf0 h _ y0 y1
 rw[if_neg k12];exact ZgD h _ x0 x1
end Go.W
namespace Go.W
open Go.Proofs
set_option linter.unusedSimpArgs false
set_option linter.unusedVariables false
set_option maxHeartbeats 8000000
def rOf (T:TZ):RZ:=⟨T.way,T.x,T.gn,T.y,T.sh,T.pc,Za T.wx,Za T.wy,T.nx,T.ny,T.tx,T.ty,T.held,T.made,T.free,T.q,T.p,T.ta,T.en⟩
def Zd9 (G F:Int) (s:StZ):Prop:=0≤s.k∧s.k≤8∧0≤s.g∧s.g≤255∧0≤s.l∧s.l≤65535∧0≤s.f∧s.f≤255∧(s.k≠0→1≤s.g∧s.g≤G∧s.f≤F)
def Zhl (G F x:Int):Prop:=ZdU x∧Zd9 G F (Za x)
def zZ (W:WZ):Prop:=∀ i:Int,0≤i→i<W.a*W.b→Zhl W.g W.f (sAt W i)
def Zak (G F:Int) (T:TZ):Prop:=Zhl G F T.wx∧Zhl G F T.wy∧(0≤T.tx.pr∧T.tx.pr≤65535)∧(0≤T.ty.pr∧T.ty.pr≤65535)∧(T.held=true→1≤T.way∧T.way≤3)
 ∧ (T.made=true→Zd9 G F T.ny∧T.ny.k≠0∧1≤T.ny.f∧0≤T.q∧T.q≤65535∧0≤T.p∧T.p≤65535)∧(T.free=true→Zd9 G F T.nx∧T.nx.k≠0∧(T.made=true→1≤T.nx.f))
theorem Zf5 (G F:Int):Zhl G F 0:=⟨by rfl,by decide,by decide,by decide,by decide,by decide,by decide,by decide,by decide,fun h=>absurd (by rfl) h⟩
theorem Zhu {G F v:Int} {s:StZ} (h:ZN s=some v) (hg:s.k≠0→1≤s.g∧s.g≤G∧s.f≤F):Zhl G F v:=by
 obtain ⟨e,h1,h2,h3,h4,h5,h6,h7,h8⟩:=UO h;refine ⟨Zis h,?_⟩;rw[e];exact ⟨h1,h2,h3,h4,h5,h6,h7,h8,hg⟩
theorem xp {W:WZ} (h:zZ W):zZ (ZO W):=h
theorem xy {W:WZ} (h:zZ W) (k c g o w q p e:Int):zZ (Uk W k c g o w q p e):=h
theorem UK {W:WZ} (hW:okW W=true) (h:zZ W) {x old:Int} {s:StZ} (x0:0≤x) (x1:x<W.a*W.b) (hg:s.k≠0→1≤s.g∧s.g≤W.g∧s.f≤W.f):zZ (Zs W x old s).2:=by
 have hp:=Xe (YE W x old s);intro i i0 i1;rw[hp.1,hp.2.1]at i1;rw[hp.2.2.2.2.1,hp.2.2.2.2.2.1];by_cases e:i=x
 ·subst e
  cases hv:ZN s with
  | none =>
   have:(Zs W i old s).2=W:=(by unfold Zs;rw[hv]);rw[this];exact h i i0 i1
  | some v =>
   unfold Zs;rw[hv];simp only;split
   ·have hlo:=yr hW i0 i1
    have:sAt (Zao W (2*i).toNat v) i=v:=ZcH (by omega);rw[this];exact Zhu hv hg
   ·exact h i i0 i1
 ·rw[Ub i0 x0 e];exact h i i0 i1
theorem UM {W:WZ} (hW:okW W=true) (h:zZ W) (x g n:Int) (r:RcZ):zZ (Z2 W x g n r):=by
 have hp:=Xe (zD W x g n r);intro i i0 i1;rw[hp.1,hp.2.1]at i1;rw[hp.2.2.2.2.1,hp.2.2.2.2.2.1];have:sAt (Z2 W x g n r) i=sAt W i:=by unfold sAt;exact Uc hW (by omega)
 rw[this];exact h i i0 i1
theorem Zg3 {a b:TmZ} {l o M:Int} (h1:0≤a.pr) (h2:a.pr≤M) (h3:0≤b.pr) (h4:b.pr≤M) (h5:0≤M):0≤(Zc a b l o).2∧(Zc a b l o).2≤M:=by
 unfold Zc;obtain ⟨hi,e1⟩:∃ x,(if a.sd=1 then b.pr else a.pr)=x:=⟨_,rfl⟩;obtain ⟨lo,e2⟩:∃ x,(if a.sd=1 then a.pr else b.pr)=x:=⟨_,rfl⟩;obtain ⟨m,e3⟩:∃ x,(if o<l then o else l)=x:=⟨_,rfl⟩;have b1:0≤hi∧hi≤M:=by rw[← e1];split<;>omega
 have b2:0≤lo∧lo≤M:=by rw[← e2];split<;>omega
 rw[e1,e2,e3];clear e1 e2 e3
 repeat' split
 all_goals first|(simp only;omega)
theorem Zfz {W:WZ} {Q:QZ} (h:Sim W Q) (T:TZ):ve Q (rOf T)=YD W T:=by
 obtain ⟨pa,pb,_⟩:=h.par;have hc:=ZH (Zl h.okw).1;have key:∀ x:Int,0≤x→x<W.a*W.b→V6 W.a W.b x=x / W.b∧0≤x / W.b:=fun x x0 x1=>by
  unfold V6;rw[if_neg (by omega),if_pos x1];exact ⟨rfl,Int.ediv_nonneg x0 (by omega)⟩
 have out:∀ x:Int,¬ (0≤x∧x<W.a*W.b)→V6 W.a W.b x<0:=fun x hx=>by
  unfold V6;by_cases x0:x<0
  ·rw[if_pos x0];omega
  ·rw[if_neg x0,if_neg (by omega)];omega
 unfold ve YD;show decide (T.x<0∨Q.a*Q.b≤T.x∨T.y<0∨Q.a*Q.b≤T.y∨T.x / Q.b=T.y / Q.b)=_;rw[pa,pb];by_cases hx:0≤T.x∧T.x<W.a*W.b
 ·obtain ⟨ex,nx⟩:=key T.x hx.1 hx.2
  by_cases hy:0≤T.y∧T.y<W.a*W.b
  ·obtain ⟨ey,ny⟩:=key T.y hy.1 hy.2
   rw[ex,ey];exact decide_eq_decide.2 ⟨fun h=>by omega,fun h=>by omega⟩
  ·have:=out T.y hy
   exact decide_eq_decide.2 ⟨fun _=>.inr (.inl this),fun _=>by omega⟩
 ·have:=out T.x hx
  exact decide_eq_decide.2 ⟨fun _=>.inl this,fun _=>by omega⟩
def Zdc (T:TZ):Prop:=(10≤T.pc→(T.made=true→T.free=true)∧(T.held=true→T.free=true))∧(T.made=true→T.free=false→1≤T.q)
theorem Zge {B W:WZ} {T:TZ} (h:ZbK B W T):Zdc T:=by
 obtain ⟨h1,h2,h3,h4,h5,h6,h7,h8,h9⟩:=h;have key:T.held=true→10≤T.pc→T.free=true:=fun a b=>by
  by_cases f:T.free=true
  ·exact f
  ·have:=(h9 a (by simpa using f)).2.2.2.2.2.2.2.2
   omega
 exact ⟨fun p=>⟨fun m=>key (h7 m) p,fun a=>key a p⟩,fun m f=>((h9 (h7 m) f).2.2.1 m).1⟩
def Zfs (W:WZ) (Q:QZ) (T:TZ):Prop:=∃ Q',ZX Q (rOf T)=(rOf (ZC W T).1,Q')∧Sim (ZC W T).2 Q'∧(ZC W T).2.s - W.s=Q'.u - Q.u∧zZ (ZC W T).2∧Zak W.g W.f (ZC W T).1
section
variable {W:WZ} {Q:QZ} {T:TZ}
theorem sQ (h:Sim W Q) {x:Int} (x0:0≤x) (x1:x<W.a*W.b):xD Q x=Za (sAt W x):=by
 unfold xD;rw[List.getD_eq_getElem?_getD,h.st x x0 x1];rfl
theorem tQ (h:Sim W Q) {x:Int} (x0:0≤x) (x1:x<W.a*W.b):Zfp Q x=Yg (tAt W x):=by
 unfold Zfp;rw[List.getD_eq_getElem?_getD,h.tm x x0 x1];rfl
theorem ZeL (h14:¬ 14≤T.pc) (hi:YD W T=false) (h:Sim W Q):ZC W T=({ (ZP W T).1 with pc:=T.pc+1 },(ZP W T).2)∧ZX Q (rOf T)=VJ Q { rOf T with pc:=T.pc+1 } T.pc:=by
 refine ⟨?_,?_⟩
 ·unfold ZC
  rw[if_neg h14,if_neg (by rw[hi];simp)]
 ·unfold ZX
  rw[if_neg (show ¬ 14≤(rOf T).pc from h14),Zfz h T,if_neg (by rw[hi];simp)]
  rfl
theorem Zez (h:Sim W Q) (R:RZ) (hR:R.way=T.way∧R.sx=Za T.wx∧R.tx=T.tx∧R.gn=T.gn∧R.sh=T.sh):UA Q R=Z5 W T (Za T.wx):=by
 obtain ⟨pa,pb,pc,pd,pf,pg⟩:=h.par;obtain ⟨e1,e2,e3,e4,e5⟩:=hR;unfold UA Z5;rw[e1,e2,e3,e4,e5,pc,pd];by_cases w:T.way=3
 ·refine decide_eq_decide.2 ?_
  rw[if_pos w];exact ⟨fun x=>.inr ⟨w,x⟩,fun x=>by
   rcases x with x|x
   ·omega
   ·exact x.2⟩
 ·refine decide_eq_decide.2 ?_
  rw[if_neg w];exact ⟨fun x=>.inl ⟨by omega,x.2.2⟩,fun x=>by
   rcases x with x|x
   ·exact ⟨by omega,by omega,x.2⟩
   ·exact absurd x.1 w⟩
theorem ZeQ (h:Sim W Q) (hg:zZ W) (ht:Zak W.g W.f T) (x0:0≤T.x) (x1:T.x<W.a*W.b) (hf:T.free=false) (hm:T.made=false):∃ Q',c2R Q { rOf T with pc:=T.pc+1 }=(rOf { (Xk W T).1 with pc:=T.pc+1 },Q')∧Sim (Xk W T).2 Q'∧(Xk W T).2.s - W.s=Q'.u - Q.u∧zZ (Xk W T).2∧Zak W.g W.f { (Xk W T).1 with pc:=T.pc+1 }:=by
 have hw:=Zez h { rOf T with pc:=T.pc+1 } ⟨rfl,rfl,rfl,rfl,rfl⟩;obtain ⟨t1,t2,t3,t4,t5,t6,t7⟩:=ht;unfold c2R Xk;rw[hw];by_cases c:Z5 W T (Za T.wx)=true
 ·rw[if_pos c,if_pos c]
  have hk:((Za T.wx).k=1∨(Za T.wx).k=2)∧1≤T.way∧T.way≤3:=by
   have:=of_decide_eq_true c;omega
  have hS:YY (Za T.wx)={ Za T.wx with k:=(Za T.wx).k+2 }:=by
   unfold YY;rcases hk.1 with e|e
   ·rw[if_pos e,e];rfl
   ·rw[if_neg (by omega),if_pos e,e];rfl
  obtain ⟨g1,g2,g3,g4,g5,g6,g7,g8,g9⟩:=t1.2;obtain ⟨v,hv⟩:=Vr (s:=YY (Za T.wx)) (by rw[hS];simp only;omega) (by rw[hS];simp only;omega) (by rw[hS];exact g3) (by rw[hS];exact g4) (by rw[hS];exact g5) (by rw[hS];exact g6) (by rw[hS];exact g7) (by rw[hS];exact g8);have st:=T1 h x0 x1 (hg T.x x0 x1).1 t1.1 hv;have gw:=UK h.okw hg (old:=T.wx) (s:=YY (Za T.wx)) x0 x1 (by rw[hS];exact fun _=>g9 (by omega));show ∃ Q',({ rOf T with pc:=T.pc+1,held:=(ZY Q T.x (Za T.wx) { Za T.wx with k:=(Za T.wx).k+2 }).1 },(ZY Q T.x (Za T.wx) { Za T.wx with k:=(Za T.wx).k+2 }).2)=(_,Q')∧_;rw[← hS,← st.1];exact ⟨_,rfl,st.2.1,by rw[st.2.2.1,st.2.2.2];omega,gw,t1,t2,t3,t4,fun _=>hk.2,fun a=>by (replace a:T.made=true:=a;rw[hm]at a;cases a),fun a=>by (replace a:T.free=true:=a;rw[hf]at a;cases a)⟩
 ·rw[if_neg c,if_neg c]
  exact ⟨_,rfl,h,by show W.s - W.s=Q.u - Q.u;omega,hg,t1,t2,t3,t4,t5,t6,t7⟩
theorem Zdx {s:StZ} {q F G:Int} (hs:Zd9 G F s) (hF4:F≤200) (he:(Zw s q F).2=0):(∃ v,ZN (Zw s q F).1=some v)∧Zd9 G F (Zw s q F).1∧(Zw s q F).1.k≠0∧1≤(Zw s q F).1.f∧1≤q∧q≤s.l:=by
 obtain ⟨g1,g2,g3,g4,g5,g6,g7,g8,g9⟩:=hs;unfold Zw at he⊢;by_cases a1:Zt s.k=false
 ·rw[if_pos a1]at he;simp at he
 rw[if_neg a1]at he⊢;by_cases a2:q<1
 ·rw[if_pos a2]at he;simp at he
 rw[if_neg a2]at he⊢;by_cases a3:s.l<q
 ·rw[if_pos a3]at he;simp at he
 rw[if_neg a3]at he⊢;by_cases a4:F≤s.f
 ·rw[if_pos a4]at he;simp at he
 rw[if_neg a4];have hk:=zr (by simpa using a1);have g9:=g9 (by omega);have hE:∃ e:StZ,ZU { s with l:=s.l - q,f:=s.f+1 } F=e∧e.l=s.l - q∧e.f=s.f+1∧e.g=s.g∧1≤e.k∧e.k≤8:=by
  refine ⟨_,rfl,?_⟩;unfold ZU;simp only;split
  ·exact ⟨rfl,rfl,rfl,by simp,by simp⟩
  ·split
   ·exact ⟨rfl,rfl,rfl,by simp,by simp⟩
   ·exact ⟨rfl,rfl,rfl,by show 1≤s.k;omega,by show s.k≤8;omega⟩
 obtain ⟨e,h1,h2,h3,h4,h5,h6⟩:=hE;simp only;rw[h1];have hF:0≤s.f:=g7;by_cases big:e.f≤255
 ·exact ⟨Vr (by omega) (by omega) (by omega) (by omega) (by omega) (by omega) (by omega) big,⟨by omega,by omega,by omega,by omega,by omega,by omega,by omega,big,fun _=>by omega⟩,by omega,by omega,by omega,by omega⟩
 ·omega
end
section
variable {W:WZ} {Q:QZ} {T:TZ}
theorem Zdy (h:Sim W Q) (hg:zZ W) (ht:Zak W.g W.f T) (x0:0≤T.x) (x1:T.x<W.a*W.b) (y0:0≤T.y) (y1:T.y<W.a*W.b) (hf:T.free=false) (hm:T.made=false):∃ Q',XD Q { rOf T with pc:=T.pc+1 }=(rOf { (Xb W T).1 with pc:=T.pc+1 },Q')∧Sim (Xb W T).2 Q'∧(Xb W T).2.s - W.s=Q'.u - Q.u∧zZ (Xb W T).2∧Zak W.g W.f { (Xb W T).1 with pc:=T.pc+1 }:=by
 obtain ⟨t1,t2,t3,t4,t5,t6,t7⟩:=ht;obtain ⟨pa,pb,pc,pd,pf,pg⟩:=h.par;have hcf:=ZH (Zl h.okw).1;have hcond:(T.held=false∨(Za T.wy).k≠(if T.way=1 then 1 else 2)∨(T.way=2∧YG Q.c Q.d T.ty.nm (Y9 Q.d T.ty.pr)≠T.sh))↔¬ (T.held=true∧YC W T (Za T.wy)=true):=by
  rw[pc,pd];unfold YC;by_cases hh:T.held=true
  ·have hw:=t5 hh
   rw[hh,decide_eq_true_eq];by_cases w1:T.way=1
   ·rw[if_pos w1]
    exact ⟨fun a b=>by rcases a with a|a|a<;>first|(cases a;done)|omega,fun a=>.inr (.inl fun k=>a ⟨rfl,.inl ⟨w1,k⟩⟩)⟩
   ·rw[if_neg w1]
    by_cases k2:(Za T.wy).k=2
    ·by_cases w2:T.way=2
     ·by_cases hs:YG W.c W.d T.ty.nm (Y9 W.d T.ty.pr)=T.sh
      ·exact ⟨fun a=>by
        rcases a with a|a|a
        ·cases a
        ·exact absurd k2 a
        ·exact absurd hs a.2,fun a=>absurd ⟨rfl,.inr (.inl ⟨w2,k2,hs⟩)⟩ a⟩
      ·exact ⟨fun _ b=>by
        rcases b.2 with b|b|b
        ·omega
        ·exact hs b.2.2
        ·omega,fun _=>.inr (.inr ⟨w2,hs⟩)⟩
     ·exact ⟨fun a=>by
       rcases a with a|a|a
       ·cases a
       ·exact absurd k2 a
       ·exact absurd a.1 w2,fun a=>absurd ⟨rfl,.inr (.inr ⟨by omega,k2⟩)⟩ a⟩
    ·exact ⟨fun _ b=>by
      rcases b.2 with b|b|b
      ·omega
      ·exact k2 b.2.1
      ·exact k2 b.2,fun _=>.inr (.inl k2)⟩
  ·have hh:T.held=false:=by simpa using hh
   exact ⟨fun _ b=>(by rw[hh]at b;exact absurd b.1 (by simp)),fun _=>.inl hh⟩
 obtain ⟨⟨q,pr⟩,hq⟩:∃ z,Zc T.tx T.ty (Za T.wx).l (Za T.wy).l=z:=⟨_,rfl⟩;have hp:=Zg3 (a:=T.tx) (b:=T.ty) (l:=(Za T.wx).l) (o:=(Za T.wy).l) t3.1 t3.2 t4.1 t4.2 (by omega);unfold XD Xb;show ∃ Q',(if (T.held=false∨(Za T.wy).k≠(if T.way=1 then 1 else 2)∨(T.way=2∧YG Q.c Q.d T.ty.nm (Y9 Q.d T.ty.pr)≠T.sh)) then _ else _)=_∧_;by_cases c:T.held=true∧YC W T (Za T.wy)=true
 ·rw[if_neg (fun x=>hcond.1 x c),if_pos c]
  simp only[rOf];simp only[hq,pf]at hp⊢;by_cases he:(Zw (Za T.wy) q W.f).2=0
  ·rw[if_neg (fun x=>x he),if_pos he]
   obtain ⟨⟨v,hv⟩,gs,gk,gf,q1,q2⟩:=Zdx t2.2 (show W.f≤200 by omega) he;have hl:=t2.2.2.2.2.2.2.1;obtain ⟨n,hn⟩:∃ n,(Zw (Za T.wy) q W.f).1=n:=⟨_,rfl⟩;rw[hn]at hv gs gk gf⊢;have st:=T1 h y0 y1 (hg T.y y0 y1).1 t2.1 hv;have gw:=UK h.okw hg (old:=T.wy) (s:=n) y0 y1 gs.2.2.2.2.2.2.2.2;rw[← st.1];by_cases htn:(Zs W T.y T.wy n).1=true
   ·rw[if_neg (by rw[htn];simp),if_pos htn]
    have s2:=Zai st.2.1 2 T.x (Za T.wx).g T.y (Za T.wy).g q pr 0;refine ⟨_,(by rw[h.now];try rfl),s2,?_,xy gw _ _ _ _ _ _ _ _,t1,t2,t3,t4,t5,fun _=>⟨gs,gk,gf,by show 0≤q;omega,by show q≤65535;omega,hp.1,hp.2⟩,fun a=>by (replace a:T.free=true:=a;rw[hf]at a;cases a)⟩;show (Zs W T.y T.wy n).2.s - W.s=(ZY Q T.y (Za T.wy) n).2.u - Q.u;rw[st.2.2.1,st.2.2.2];omega
   ·have htn:(Zs W T.y T.wy n).1=false:=by simpa using htn
    rw[if_pos htn,if_neg (by rw[htn];simp)];exact ⟨_,rfl,st.2.1,by rw[st.2.2.1,st.2.2.2];omega,gw,t1,t2,t3,t4,t5,fun a=>by (replace a:T.made=true:=a;rw[hm]at a;cases a),fun a=>by (replace a:T.free=true:=a;rw[hf]at a;cases a)⟩
  ·rw[if_pos he,if_neg he]
   exact ⟨_,rfl,h,by show W.s - W.s=Q.u - Q.u;omega,hg,t1,t2,t3,t4,t5,fun a=>by (replace a:T.made=true:=a;rw[hm]at a;cases a),fun a=>by (replace a:T.free=true:=a;rw[hf]at a;cases a)⟩
 ·rw[if_pos (hcond.2 c),if_neg c]
  exact ⟨_,rfl,h,by show W.s - W.s=Q.u - Q.u;omega,hg,t1,t2,t3,t4,t5,t6,t7⟩
theorem ZfO {s:StZ} {q F G:Int} (hs:Zd9 G F s) (hF4:F≤200) (he:(Zf s q F).2=0):(∃ v,ZN (Zf s q F).1=some v)∧Zd9 G F (Zf s q F).1∧(Zf s q F).1.k≠0∧(1≤q→1≤(Zf s q F).1.f):=by
 obtain ⟨g1,g2,g3,g4,g5,g6,g7,g8,g9⟩:=hs;have key:∀ t:StZ,(t.k=3∨t.k=4)→0≤t.l→t.l≤65535→0≤t.f→t.f≤F→1≤t.g→t.g≤G→t.g≤255 →
   (∃ v,ZN (Yo t F)=some v)∧Zd9 G F (Yo t F)∧(Yo t F).k≠0∧(Yo t F).f=t.f:=by
  intro t tk l0 l1 f0 f1 a0 a1 a2
  have hE:∃ e:StZ,ZU (ZV t) F=e∧e.l=t.l∧e.f=t.f∧e.g=t.g∧1≤e.k∧e.k≤8:=by
   have hL:∃ u:StZ,ZV t=u∧u.l=t.l∧u.f=t.f∧u.g=t.g∧(u.k=1∨u.k=2):=by
    refine ⟨_,rfl,?_⟩;unfold ZV;rcases tk with e|e
    ·rw[if_pos e];exact ⟨rfl,rfl,rfl,.inl rfl⟩
    ·rw[if_neg (by omega),if_pos e];exact ⟨rfl,rfl,rfl,.inr rfl⟩
   obtain ⟨u,hu,ul,uf,ug,uk⟩:=hL;rw[hu];refine ⟨_,rfl,?_⟩;unfold ZU;by_cases c1:u.l=0
   ·rw[if_pos c1];exact ⟨ul,uf,ug,by simp,by simp⟩
   rw[if_neg c1];by_cases c2:F≤u.f
   ·rw[if_pos c2];exact ⟨ul,uf,ug,by simp,by simp⟩
   rw[if_neg c2];exact ⟨ul,uf,ug,by omega,by omega⟩
  obtain ⟨e,he,el,ef,eg,ek,ek2⟩:=hE
  unfold Yo
  rw[he]
  by_cases c:e.fl=true
  ·rw[if_pos c]
   refine ⟨Vr (by simp) (by simp) (by simp only;omega) (by simp only;omega) (by simp only;omega) (by simp only;omega) (by simp only;omega) (by simp only;omega),⟨by simp,by simp,by simp only;omega,by simp only;omega,by simp only;omega,by simp only;omega,by simp only;omega,by simp only;omega,fun _=>by simp only;omega⟩,by simp,ef⟩
  ·rw[if_neg c]
   exact ⟨Vr (by omega) ek2 (by omega) (by omega) (by omega) (by omega) (by omega) (by omega),⟨by omega,ek2,by omega,by omega,by omega,by omega,by omega,by omega,fun _=>by omega⟩,by omega,ef⟩
 unfold Zf at he⊢;by_cases a1:ZA s.k=false
 ·rw[if_pos a1]at he;simp at he
 rw[if_neg a1]at he⊢;by_cases a2:q<0
 ·rw[if_pos a2]at he;simp at he
 rw[if_neg a2]at he⊢;by_cases a3:s.l<q
 ·rw[if_pos a3]at he;simp at he
 rw[if_neg a3]at he⊢;have hk:=yR (by simpa using a1);have g9:=g9 (by omega);by_cases c:0<q
 ·rw[if_pos c]at he⊢
  by_cases a4:F≤s.f
  ·rw[if_pos a4]at he;simp at he
  rw[if_neg a4];have k:=key { s with l:=s.l - q,f:=s.f+1 } hk (by simp only;omega) (by simp only;omega) (by simp only;omega) (by simp only;omega) g9.1 g9.2.1 g4;exact ⟨k.1,k.2.1,k.2.2.1,fun _=>by rw[k.2.2.2];simp only;omega⟩
 ·rw[if_neg c]
  have k:=key s hk g5 g6 g7 g9.2.2 g9.1 g9.2.1 g4;exact ⟨k.1,k.2.1,k.2.2.1,fun a=>by omega⟩
theorem Zf1 (h:Sim W Q) (hg:zZ W) (ht:Zak W.g W.f T) (hl:Zdc T) (x0:0≤T.x) (x1:T.x<W.a*W.b):∃ Q',Ty Q { rOf T with pc:=T.pc+1 }=(rOf { (Uh W T).1 with pc:=T.pc+1 },Q')∧Sim (Uh W T).2 Q'∧(Uh W T).2.s - W.s=Q'.u - Q.u∧zZ (Uh W T).2∧Zak W.g W.f { (Uh W T).1 with pc:=T.pc+1 }:=by
 obtain ⟨t1,t2,t3,t4,t5,t6,t7⟩:=ht;obtain ⟨pa,pb,pc,pd,pf,pg⟩:=h.par;have hcf:=ZH (Zl h.okw).1;have el:Ty Q { rOf T with pc:=T.pc+1 }=(if T.held=false∨T.free=true then ({ rOf T with pc:=T.pc+1 },Q) else if (Zf (Za T.wx) (XF T) Q.f).2≠0 then ({ rOf T with pc:=T.pc+1 },Q) else if (ZY Q T.x (Za T.wx) (Zf (Za T.wx) (XF T) Q.f).1).1=false then ({ rOf T with pc:=T.pc+1 },(ZY Q T.x (Za T.wx) (Zf (Za T.wx) (XF T) Q.f).1).2) else ({ { rOf T with pc:=T.pc+1 } with free:=true,nx:=(Zf (Za T.wx) (XF T) Q.f).1,en:=Q.now },if 5≤(Zf (Za T.wx) (XF T) Q.f).1.k then TK (ZY Q T.x (Za T.wx) (Zf (Za T.wx) (XF T) Q.f).1).2 7 T.x (Zf (Za T.wx) (XF T) Q.f).1.g 0 0 0 0 (Zf (Za T.wx) (XF T) Q.f).1.k else (ZY Q T.x (Za T.wx) (Zf (Za T.wx) (XF T) Q.f).1).2)):=rfl;rw[el];clear el;unfold Uh;by_cases c:T.held=true∧T.free=false
 ·rw[if_neg (by rw[c.1,c.2];simp),if_pos c]
  have hqm:T.made=true→XF T=T.q:=fun m=>by unfold XF;rw[if_pos m]
  rw[pf];generalize XF T=qy at hqm⊢;by_cases he:(Zf (Za T.wx) qy W.f).2=0
  ·rw[if_neg (fun x=>x he),if_pos he]
   obtain ⟨⟨v,hv⟩,gs,gk,gf⟩:=ZfO t1.2 (show W.f≤200 by omega) he;obtain ⟨n,hn⟩:∃ n,(Zf (Za T.wx) qy W.f).1=n:=⟨_,rfl⟩;rw[hn]at hv gs gk gf⊢;have st:=T1 h x0 x1 (hg T.x x0 x1).1 t1.1 hv;have gw:=UK h.okw hg (old:=T.wx) (s:=n) x0 x1 gs.2.2.2.2.2.2.2.2;rw[← st.1];by_cases htn:(Zs W T.x T.wx n).1=true
   ·rw[if_neg (by rw[htn];simp),if_pos htn]
    have hover:(5≤n.k)↔T8 n.k=true:=by
     have:=gs.2.1;simp only[T8,Bool.and_eq_true,decide_eq_true_eq];omega
    have gt:Zak W.g W.f { T with free:=true,nx:=n,en:=W.t,pc:=T.pc+1 }:=⟨t1,t2,t3,t4,t5,t6,fun _=>⟨gs,gk,fun a=>gf (by
     rw[hqm a];exact hl.2 a c.2)⟩⟩
    by_cases h5:5≤n.k
    ·rw[if_pos h5,if_pos (hover.1 h5)]
     have s2:=Zai st.2.1 7 T.x n.g 0 0 0 0 n.k;refine ⟨_,(by rw[h.now];try rfl),s2,?_,xy gw _ _ _ _ _ _ _ _,gt⟩;show (Zs W T.x T.wx n).2.s - W.s=(ZY Q T.x (Za T.wx) n).2.u - Q.u;rw[st.2.2.1,st.2.2.2];omega
    ·rw[if_neg h5,if_neg (fun x=>h5 (hover.2 x))]
     exact ⟨_,(by rw[h.now];try rfl),st.2.1,by rw[st.2.2.1,st.2.2.2];omega,gw,gt⟩
   ·have htn:(Zs W T.x T.wx n).1=false:=by simpa using htn
    rw[if_pos htn,if_neg (by rw[htn];simp)];exact ⟨_,rfl,st.2.1,by rw[st.2.2.1,st.2.2.2];omega,gw,t1,t2,t3,t4,t5,t6,t7⟩
  ·rw[if_pos he,if_neg he]
   exact ⟨_,rfl,h,by show W.s - W.s=Q.u - Q.u;omega,hg,t1,t2,t3,t4,t5,t6,t7⟩
 ·have c':T.held=false∨T.free=true:=by
   by_cases hh:T.held=true
   ·exact .inr (by
     by_cases hf:T.free=true
     ·exact hf
     ·exact absurd ⟨hh,by simpa using hf⟩ c)
   ·exact .inl (by simpa using hh)
  rw[if_pos c',if_neg c];exact ⟨_,rfl,h,by show W.s - W.s=Q.u - Q.u;omega,hg,t1,t2,t3,t4,t5,t6,t7⟩
end
section
variable {W:WZ} {Q:QZ} {T:TZ}
theorem Zfr {W:WZ} (hW:okW W=true) {q p t c g:Int} (q0:0≤q) (q1:q≤65535) (p0:0≤p) (p1:p≤65535) (t0:0≤t) (t1:t≤1000000) (c0:0≤c) (c1:c<W.a*W.b) (g0:1≤g) (g1:g≤W.g):∃ v,zm ⟨1,q,p,t,c,g⟩=some v:=by
 have hall:=ZJ (Zl hW).1;have hc:=ZH (Zl hW).1;exact Zdb (by simp) (by simp) q0 q1 p0 p1 t0 t1 c0 (by simp only;omega) (by simp only;omega) (by simp only;omega)
theorem ZhD {G F:Int} {s:StZ} {t:Int} (hs:Zd9 G F s) (hF:F≤200) (t0:0≤t) (t1:t≤1000000):∃ v,zm (ZW s t).1=some v:=by
 obtain ⟨g1,g2,g3,g4,g5,g6,g7,g8,g9⟩:=hs;unfold ZW
 repeat' split
 all_goals exact Zdb (by simp) (by simp) (by simp only;omega) (by simp only;omega) (by simp only;omega) (by simp only;omega) (by simp only;omega) (by simp only;omega) (by simp) (by simp) (by simp) (by simp)
theorem ZeE (h:Sim W Q) (hg:zZ W) (ht:Zak W.g W.f T) (hT:okT T=true) (hl:Zdc T) (hJ:(T.pc≤5→T.made=false)∧(T.pc≤7→T.free=false)∧T.pc≤14):Zfs W Q T:=by
 unfold Zfs;by_cases h14:14≤T.pc
 ·refine ⟨Q,?_,?_⟩
  ·unfold ZX ZC
   rw[if_pos h14,if_pos (show 14≤(rOf T).pc from h14)]
  ·unfold ZC
   rw[if_pos h14];exact ⟨h,by show W.s - W.s=Q.u - Q.u;omega,hg,ht⟩
 by_cases hi:YD W T=true
 ·refine ⟨Q,?_,?_⟩
  ·unfold ZX ZC
   rw[if_neg h14,if_pos hi,if_neg (show ¬ 14≤(rOf T).pc from h14),Zfz h T,if_pos hi]
   rfl
  ·unfold ZC
   rw[if_neg h14,if_pos hi];exact ⟨h,by show W.s - W.s=Q.u - Q.u;omega,hg,ht⟩
 have hi:YD W T=false:=by simpa using hi
 obtain ⟨x0,x1,y0,y1,_⟩:=Y6 h.okw hi;obtain ⟨e1,e2⟩:=ZeL h14 hi h;rw[e1,e2];clear e1 e2;obtain ⟨r1,_,_,_,_,_,_,_,_,_,_,_,_,_,ta0,ta1,en0,en1,_⟩:=XM hT;have ht':=ht;obtain ⟨t1,t2,t3,t4,t5,t6,t7⟩:=ht;have hcf:=ZH (Zl h.okw).1;have sub0:(ZO W).s - W.s=(Xh Q).u - Q.u:=by show W.s+1 - W.s=Q.u+1 - Q.u;omega
 have nochg:W.s - W.s=Q.u - Q.u:=by omega
 unfold VJ ZP;by_cases k0:T.pc=0
 ·rw[if_pos k0,if_pos k0]
  refine ⟨Xh Q,?_,Ud h,sub0,hg,hg T.x x0 x1,t2,t3,t4,t5,t6,t7⟩;show ({ rOf T with pc:=T.pc+1,sx:=xD Q T.x },Xh Q)=_;rw[sQ h x0 x1];rfl
 rw[if_neg k0,if_neg k0];by_cases k1:T.pc=1
 ·rw[if_pos k1,if_pos k1]
  have hpr:0≤(Yg (tAt W T.x)).pr∧(Yg (tAt W T.x)).pr≤65535:=by
   have h3:=XI (tAt W T.x) 5 16;simp only[Yg];omega
  refine ⟨Xh Q,?_,Ud h,sub0,hg,t1,t2,hpr,t4,t5,t6,t7⟩;show ({ rOf T with pc:=T.pc+1,tx:=Zfp Q T.x },Xh Q)=_;rw[tQ h x0 x1];rfl
 rw[if_neg k1,if_neg k1];by_cases k2:T.pc=2
 ·rw[if_pos k2,if_pos k2]
  exact ZeQ h hg ht' x0 x1 (hJ.2.1 (by omega)) (hJ.1 (by omega))
 rw[if_neg k2,if_neg k2];by_cases k3:T.pc=3
 ·rw[if_pos k3,if_pos k3]
  refine ⟨Xh Q,?_,Ud h,sub0,hg,t1,hg T.y y0 y1,t3,t4,t5,t6,t7⟩;show ({ rOf T with pc:=T.pc+1,sy:=xD Q T.y },Xh Q)=_;rw[sQ h y0 y1];rfl
 rw[if_neg k3,if_neg k3];by_cases k4:T.pc=4
 ·rw[if_pos k4,if_pos k4]
  have hpr:0≤(Yg (tAt W T.y)).pr∧(Yg (tAt W T.y)).pr≤65535:=by
   have h3:=XI (tAt W T.y) 5 16;simp only[Yg];omega
  refine ⟨Xh Q,?_,Ud h,sub0,hg,t1,t2,t3,hpr,t5,t6,t7⟩;show ({ rOf T with pc:=T.pc+1,ty:=Zfp Q T.y },Xh Q)=_;rw[tQ h y0 y1];rfl
 rw[if_neg k4,if_neg k4];by_cases k5:T.pc=5
 ·rw[if_pos k5,if_pos k5]
  exact Zdy h hg ht' x0 x1 y0 y1 (hJ.2.1 (by omega)) (hJ.1 (by omega))
 rw[if_neg k5,if_neg k5];have look:∃ Q',c6R Q { rOf T with pc:=T.pc+1 }=(rOf { (YH W T).1 with pc:=T.pc+1 },Q')∧Sim (YH W T).2 Q'∧(YH W T).2.s - W.s=Q'.u - Q.u∧zZ (YH W T).2∧Zak W.g W.f { (YH W T).1 with pc:=T.pc+1 }:=by
  unfold c6R YH;show ∃ Q',(if T.held=true∧T.free=false then ({ rOf T with pc:=T.pc+1,sx:=xD Q T.x },Xh Q) else ({ rOf T with pc:=T.pc+1 },Q))=_∧_;by_cases c:T.held=true∧T.free=false
  ·rw[if_pos c,if_pos c]
   refine ⟨Xh Q,?_,Ud h,sub0,hg,hg T.x x0 x1,t2,t3,t4,t5,t6,t7⟩;rw[sQ h x0 x1];rfl
  ·rw[if_neg c,if_neg c]
   exact ⟨Q,rfl,h,nochg,hg,t1,t2,t3,t4,t5,t6,t7⟩
 have letg:=Zf1 h hg ht' hl x0 x1;by_cases k6:T.pc=6
 ·rw[if_pos k6,if_pos (.inl k6)];exact look
 rw[if_neg k6];by_cases k7:T.pc=7
 ·rw[if_pos k7,if_neg (by omega),if_pos (.inl k7)];exact letg
 rw[if_neg k7];by_cases k8:T.pc=8
 ·rw[if_pos k8,if_pos (.inr k8)];exact look
 rw[if_neg k8];by_cases k9:T.pc=9
 ·rw[if_pos k9,if_neg (by omega),if_pos (.inr k9)];exact letg
 rw[if_neg k9,if_neg (show ¬ (T.pc=6∨T.pc=8) by omega),if_neg (show ¬ (T.pc=7∨T.pc=9) by omega)];have gt:Zak W.g W.f { T with pc:=T.pc+1 }:=⟨t1,t2,t3,t4,t5,t6,t7⟩;have late:=hl.1 (by omega);unfold Yw;by_cases k10:T.pc=10
 ·rw[if_pos k10]
  by_cases m:T.made=true
  ·obtain ⟨n1,n2,n3,q0,q1,p0,p1⟩:=t6 m
   obtain ⟨f1,f2,f3⟩:=t7 (late.1 m);have f4:=f1.2.2.2.2.2.2.2.2 f2;have n4:=n1.2.2.2.2.2.2.2.2 n2;obtain ⟨v,hv⟩:=Zfr h.okw q0 q1 p0 p1 ta0 ta1 y0 y1 n4.1 n4.2.1;have f5:=f3 m;have sn:=T4 h (gn:=T.nx.g) (n:=T.nx.f - 1) x0 x1 f4.1 f4.2.1 (by omega) (by omega) hv;rw[if_pos ⟨k10,m⟩];refine ⟨_,?_,sn.1,?_,UM h.okw hg _ _ _ _,gt⟩
   ·show ({ rOf T with pc:=T.pc+1 },if T.made=true then _ else _)=_
    rw[if_pos m];rfl
   ·show (Z2 W T.x T.nx.g (T.nx.f - 1) _).s - W.s=Q.u+1 - Q.u
    have:(Z2 W T.x T.nx.g (T.nx.f - 1) (VI T T.y T.ny.g)).s=W.s+1:=sn.2;omega
  ·rw[if_neg (show ¬ (T.pc=10∧T.made=true) from fun x=>m x.2),if_neg (show ¬ (T.pc=11∧T.made=true) by omega),if_neg (show ¬ (T.pc=12∧T.made=true) by omega),if_neg (show ¬ (T.pc=13∧T.held=true) by omega)]
   refine ⟨Q,?_,h,nochg,hg,gt⟩;show ({ rOf T with pc:=T.pc+1 },if T.made=true then _ else _)=_;rw[if_neg m];rfl
 rw[if_neg k10,if_neg (show ¬ (T.pc=10∧T.made=true) from fun x=>k10 x.1)];by_cases k11:T.pc=11
 ·rw[if_pos k11]
  by_cases m:T.made=true
  ·obtain ⟨n1,n2,n3,q0,q1,p0,p1⟩:=t6 m
   obtain ⟨f1,f2,f3⟩:=t7 (late.1 m);have f4:=f1.2.2.2.2.2.2.2.2 f2;have n4:=n1.2.2.2.2.2.2.2.2 n2;obtain ⟨v,hv⟩:=Zfr h.okw q0 q1 p0 p1 ta0 ta1 x0 x1 f4.1 f4.2.1;have sn:=T4 h (gn:=T.ny.g) (n:=T.ny.f - 1) y0 y1 n4.1 n4.2.1 (by omega) (by omega) hv;rw[if_pos ⟨k11,m⟩];refine ⟨_,?_,sn.1,?_,UM h.okw hg _ _ _ _,gt⟩
   ·show ({ rOf T with pc:=T.pc+1 },if T.made=true then _ else _)=_
    rw[if_pos m];rfl
   ·show (Z2 W T.y T.ny.g (T.ny.f - 1) _).s - W.s=Q.u+1 - Q.u
    have:(Z2 W T.y T.ny.g (T.ny.f - 1) (VI T T.x T.nx.g)).s=W.s+1:=sn.2;omega
  ·rw[if_neg (show ¬ (T.pc=11∧T.made=true) from fun x=>m x.2),if_neg (show ¬ (T.pc=12∧T.made=true) by omega),if_neg (show ¬ (T.pc=13∧T.held=true) by omega)]
   refine ⟨Q,?_,h,nochg,hg,gt⟩;show ({ rOf T with pc:=T.pc+1 },if T.made=true then _ else _)=_;rw[if_neg m];rfl
 rw[if_neg k11,if_neg (show ¬ (T.pc=11∧T.made=true) from fun x=>k11 x.1)];by_cases k12:T.pc=12
 ·rw[if_pos k12]
  by_cases m:T.made=true
  ·rw[if_pos ⟨k12,m⟩]
   obtain ⟨n1,n2,n3,q0,q1,p0,p1⟩:=t6 m;have n4:=n1.2.2.2.2.2.2.2.2 n2;by_cases e:(ZW T.ny T.ta).2=true
   ·obtain ⟨v,hv⟩:=ZhD n1 (show W.f≤200 by omega) ta0 ta1
    have sn:=T4 h (gn:=T.ny.g) (n:=W.f) y0 y1 n4.1 n4.2.1 (by omega) (by omega) hv;rw[if_pos e];refine ⟨_,?_,sn.1,?_,UM h.okw hg _ _ _ _,gt⟩
    ·show ({ rOf T with pc:=T.pc+1 },if T.made=true∧(ZW T.ny T.ta).2=true then Xm Q T.y T.ny.g Q.f (ZW T.ny T.ta).1 else Q)=_
     rw[if_pos ⟨m,e⟩,h.par.2.2.2.2.1];rfl
    ·show (Z2 W T.y T.ny.g W.f _).s - W.s=Q.u+1 - Q.u
     have:=sn.2;omega
   ·rw[if_neg e]
    refine ⟨Q,?_,h,nochg,hg,gt⟩;show ({ rOf T with pc:=T.pc+1 },if T.made=true∧(ZW T.ny T.ta).2=true then Xm Q T.y T.ny.g Q.f (ZW T.ny T.ta).1 else Q)=_;rw[if_neg (fun x=>e x.2)];rfl
  ·rw[if_neg (show ¬ (T.pc=12∧T.made=true) from fun x=>m x.2),if_neg (show ¬ (T.pc=13∧T.held=true) by omega)]
   refine ⟨Q,?_,h,nochg,hg,gt⟩;show ({ rOf T with pc:=T.pc+1 },if T.made=true∧(ZW T.ny T.ta).2=true then Xm Q T.y T.ny.g Q.f (ZW T.ny T.ta).1 else Q)=_;rw[if_neg (fun x=>m x.1)];rfl
 rw[if_neg k12,if_neg (show ¬ (T.pc=12∧T.made=true) from fun x=>k12 x.1)];have k13:T.pc=13:=by omega
 by_cases m:T.held=true
 ·rw[if_pos ⟨k13,m⟩]
  obtain ⟨f1,f2,f3⟩:=t7 (late.2 m);have f4:=f1.2.2.2.2.2.2.2.2 f2;by_cases e:(ZW T.nx T.en).2=true
  ·obtain ⟨v,hv⟩:=ZhD f1 (show W.f≤200 by omega) en0 en1
   have sn:=T4 h (gn:=T.nx.g) (n:=W.f) x0 x1 f4.1 f4.2.1 (by omega) (by omega) hv;rw[if_pos e];refine ⟨_,?_,sn.1,?_,UM h.okw hg _ _ _ _,gt⟩
   ·show ({ rOf T with pc:=T.pc+1 },if T.held=true∧(ZW T.nx T.en).2=true then Xm Q T.x T.nx.g Q.f (ZW T.nx T.en).1 else Q)=_
    rw[if_pos ⟨m,e⟩,h.par.2.2.2.2.1];rfl
   ·show (Z2 W T.x T.nx.g W.f _).s - W.s=Q.u+1 - Q.u
    have:=sn.2;omega
  ·rw[if_neg e]
   refine ⟨Q,?_,h,nochg,hg,gt⟩;show ({ rOf T with pc:=T.pc+1 },if T.held=true∧(ZW T.nx T.en).2=true then Xm Q T.x T.nx.g Q.f (ZW T.nx T.en).1 else Q)=_;rw[if_neg (fun x=>e x.2)];rfl
 ·rw[if_neg (show ¬ (T.pc=13∧T.held=true) from fun x=>m x.2)]
  refine ⟨Q,?_,h,nochg,hg,gt⟩;show ({ rOf T with pc:=T.pc+1 },if T.held=true∧(ZW T.nx T.en).2=true then Xm Q T.x T.nx.g Q.f (ZW T.nx T.en).1 else Q)=_;rw[if_neg (fun x=>m x.1)];rfl
end
end Go.W
