/- A part of the proofs about the pair's laws (RaK). -/
import Derived.Test.YtidbbnkpglggdaaGreatRaD
namespace Go.W
open Go.Proofs
set_option linter.unusedSimpArgs false
set_option linter.unusedVariables false
set_option maxHeartbeats 8000000
set_option maxRecDepth 100000
attribute [local irreducible] Wm WmA
attribute [local simp] YP lkp Vq prs V9 prT ddL idL Yy Ue Ren Ve NObj.none ZT
def vf (Q:QZ) (x:Int):StZ:=Q.S.getD x.toNat Zu
def ZdV (Q:QZ) (x:Int):TmZ:=Q.T.getD x.toNat ⟨0,0,0,0,0⟩
def YO (Q:QZ):QZ:={ Q with u:=Q.u+1 }
def UZ (Q:QZ) (R:RZ):Bool:=decide (if R.way=3 then R.sx.k=2∧R.tx.sd=0∧ZK Q.c Q.d R.tx.nm (Yj Q.d R.tx.pr)=R.sh else 1≤R.way∧R.way≤2∧R.sx.k=1∧R.sx.g=R.gn)
def c0R (Q:QZ) (R:RZ):RZ×QZ:=({ R with sx:=vf Q R.x },YO Q)
def c1R (Q:QZ) (R:RZ):RZ×QZ:=({ R with tx:=ZdV Q R.x },YO Q)
def c2R (Q:QZ) (R:RZ):RZ×QZ:=if UZ Q R=true then ({ R with held:=(ZO Q R.x R.sx { R.sx with k:=R.sx.k+2 }).1 },(ZO Q R.x R.sx { R.sx with k:=R.sx.k+2 }).2) else (R,Q)
def c3R (Q:QZ) (R:RZ):RZ×QZ:=({ R with sy:=vf Q R.y },YO Q)
def c4R (Q:QZ) (R:RZ):RZ×QZ:=({ R with ty:=ZdV Q R.y },YO Q)
def c6R (Q:QZ) (R:RZ):RZ×QZ:=if R.held=true∧R.free=false then ({ R with sx:=vf Q R.x },YO Q) else (R,Q)
def ZeL (Q:QZ) (R:RZ):RZ×QZ:=(R,if R.made=true then Xa Q R.x R.nx.g (R.nx.f - 1) ⟨1,R.q,R.p,R.ta,R.y,R.ny.g⟩ else Q)
def ZeK (Q:QZ) (R:RZ):RZ×QZ:=(R,if R.made=true then Xa Q R.y R.ny.g (R.ny.f - 1) ⟨1,R.q,R.p,R.ta,R.x,R.nx.g⟩ else Q)
def Zct (Q:QZ) (R:RZ):RZ×QZ:=(R,if R.made=true∧(ZJ R.ny R.ta).2=true then Xa Q R.y R.ny.g Q.f (ZJ R.ny R.ta).1 else Q)
def Zcu (Q:QZ) (R:RZ):RZ×QZ:=(R,if R.held=true∧(ZJ R.nx R.en).2=true then Xa Q R.x R.nx.g Q.f (ZJ R.nx R.en).1 else Q)
theorem UJ {Q:QZ} (h:okQ Q=true):okQ (YO Q)=true:=by
 obtain ⟨h1,h2,h3,h4,h5,h6,h7,h8,h9⟩:=Zr h;exact decide_eq_true ⟨h1,h2,h3,h4,h5,h6,h7,h8,by show 0≤Q.u+1;omega⟩
def Zak (Q:QZ) (R:RZ):Bool:=decide (R.x<0∨Q.a*Q.b≤R.x∨R.y<0∨Q.a*Q.b≤R.y∨R.x / Q.b=R.y / Q.b)
def Uc (Q:QZ) (R:RZ) (k:Int):RZ×QZ:=if k=0 then c0R Q R else if k=1 then c1R Q R else if k=2 then c2R Q R else if k=3 then c3R Q R else if k=4 then c4R Q R else if k=5 then XE Q R else if k=6 then c6R Q R else if k=7 then T7 Q R else if k=8 then c6R Q R else if k=9 then T7 Q R else if k=10 then ZeL Q R else if k=11 then ZeK Q R else if k=12 then Zct Q R else Zcu Q R
def ZG (Q:QZ) (R:RZ):RZ×QZ:=if 14≤R.pc then (R,Q) else if Zak Q R=true then ({ R with pc:=R.pc+1 },Q) else Uc Q { R with pc:=R.pc+1 } R.pc
def ZfC (Q:QZ) (R:RZ):Bool:=Zak Q R || (decide (¬ (R.pc=10∧R.made=true)∨(1≤R.nx.g∧R.nx.g≤Q.g∧0≤R.nx.f - 1∧R.nx.f - 1≤Q.f))&&(decide (¬ (R.pc=11∧R.made=true)∨(1≤R.ny.g∧R.ny.g≤Q.g∧0≤R.ny.f - 1∧R.ny.f - 1≤Q.f))&&(decide (¬ (R.pc=12∧R.made=true∧(ZJ R.ny R.ta).2=true)∨(1≤R.ny.g∧R.ny.g≤Q.g))&&decide (¬ (R.pc=13∧R.held=true∧(ZJ R.nx R.en).2=true)∨(1≤R.nx.g∧R.nx.g≤Q.g)))))
theorem Zh4 {Q:QZ} {R:RZ} (h:ZfC Q R=true) (hi:Zak Q R=false):(R.pc=10→R.made=true→1≤R.nx.g∧R.nx.g≤Q.g∧0≤R.nx.f - 1∧R.nx.f - 1≤Q.f)∧(R.pc=11→R.made=true→1≤R.ny.g∧R.ny.g≤Q.g∧0≤R.ny.f - 1∧R.ny.f - 1≤Q.f)∧(R.pc=12→R.made=true→(ZJ R.ny R.ta).2=true→1≤R.ny.g∧R.ny.g≤Q.g)∧(R.pc=13→R.held=true→(ZJ R.nx R.en).2=true→1≤R.nx.g∧R.nx.g≤Q.g):=by
 unfold ZfC at h;rw[hi,Bool.false_or,Bool.and_eq_true,Bool.and_eq_true,Bool.and_eq_true]at h;obtain ⟨h1,h2,h3,h4⟩:=h;exact ⟨fun a b=>(of_decide_eq_true h1).resolve_left fun x=>x ⟨a,b⟩,fun a b=>(of_decide_eq_true h2).resolve_left fun x=>x ⟨a,b⟩,fun a b c=>(of_decide_eq_true h3).resolve_left fun x=>x ⟨a,b,c⟩,fun a b c=>(of_decide_eq_true h4).resolve_left fun x=>x ⟨a,b,c⟩⟩
theorem ZiB {Q:QZ} {R:RZ} (h:Zak Q R=false→(R.pc=10→R.made=true→1≤R.nx.g∧R.nx.g≤Q.g∧0≤R.nx.f - 1∧R.nx.f - 1≤Q.f)∧(R.pc=11→R.made=true→1≤R.ny.g∧R.ny.g≤Q.g∧0≤R.ny.f - 1∧R.ny.f - 1≤Q.f)∧(R.pc=12→R.made=true→(ZJ R.ny R.ta).2=true→1≤R.ny.g∧R.ny.g≤Q.g)∧(R.pc=13→R.held=true→(ZJ R.nx R.en).2=true→1≤R.nx.g∧R.nx.g≤Q.g)):ZfC Q R=true:=by
 unfold ZfC;by_cases hi:Zak Q R=true
 ·rw[hi];rfl
 ·have hi:Zak Q R=false:=by simpa using hi
  obtain ⟨h1,h2,h3,h4⟩:=h hi;have imp:∀ {p q:Prop},(p→q)→¬ p∨q:=fun {p q} f=>(Classical.em p).elim (fun hp=>.inr (f hp)) .inl;rw[hi,Bool.false_or,Bool.and_eq_true,Bool.and_eq_true,Bool.and_eq_true];exact ⟨decide_eq_true (imp fun x=>h1 x.1 x.2),decide_eq_true (imp fun x=>h2 x.1 x.2),decide_eq_true (imp fun x=>h3 x.1 x.2.1 x.2.2),decide_eq_true (imp fun x=>h4 x.1 x.2.1 x.2.2)⟩
theorem Zef {Q:QZ} {R:RZ} (h:Zak Q R=false):0≤R.x∧R.x<Q.a*Q.b∧0≤R.y∧R.y<Q.a*Q.b∧R.x / Q.b≠R.y / Q.b:=by
 have:=of_decide_eq_false h;refine ⟨?_,?_,?_,?_,fun e=>this (.inr (.inr (.inr (.inr e))))⟩<;>omega
theorem Zbr {Q:QZ} (h:okQ Q=true) (x gn n:Int) (r:RcZ) (x0:0≤x) (x1:x<Q.a*Q.b):okQ (Xa Q x gn n r)=true:=XS h _ _ _ _ (by have:=(Zr h).2.2.2.1;omega)
theorem Zku {Q:QZ} (h:okQ Q=true) (R:RZ):okQ (c2R Q R).2=true:=by
 unfold c2R;by_cases c:UZ Q R=true
 ·rw[if_pos c];exact Ye h _ _ _
 ·rw[if_neg c];exact h
theorem Zg5 {Q:QZ} (h:okQ Q=true) (R:RZ):okQ (c6R Q R).2=true:=by
 unfold c6R;by_cases c:R.held=true∧R.free=false
 ·rw[if_pos c];exact UJ h
 ·rw[if_neg c];exact h
theorem Zh0 {Q:QZ} (h:okQ Q=true) (R:RZ) (x0:0≤R.x) (x1:R.x<Q.a*Q.b):okQ (ZeL Q R).2=true:=by
 unfold ZeL;by_cases c:R.made=true
 ·rw[if_pos c];exact Zbr h _ _ _ _ x0 x1
 ·rw[if_neg c];exact h
theorem ZiW {Q:QZ} (h:okQ Q=true) (R:RZ) (x0:0≤R.y) (x1:R.y<Q.a*Q.b):okQ (ZeK Q R).2=true:=by
 unfold ZeK;by_cases c:R.made=true
 ·rw[if_pos c];exact Zbr h _ _ _ _ x0 x1
 ·rw[if_neg c];exact h
theorem Zh2 {Q:QZ} (h:okQ Q=true) (R:RZ) (x0:0≤R.y) (x1:R.y<Q.a*Q.b):okQ (Zct Q R).2=true:=by
 unfold Zct;by_cases c:R.made=true∧(ZJ R.ny R.ta).2=true
 ·rw[if_pos c];exact Zbr h _ _ _ _ x0 x1
 ·rw[if_neg c];exact h
theorem Ziu {Q:QZ} (h:okQ Q=true) (R:RZ) (x0:0≤R.x) (x1:R.x<Q.a*Q.b):okQ (Zcu Q R).2=true:=by
 unfold Zcu;by_cases c:R.held=true∧(ZJ R.nx R.en).2=true
 ·rw[if_pos c];exact Zbr h _ _ _ _ x0 x1
 ·rw[if_neg c];exact h
theorem xJ {Q:QZ} (h:okQ Q=true) (R:RZ):okQ (ZG Q R).2=true:=by
 unfold ZG;by_cases c:14≤R.pc
 ·rw[if_pos c];exact h
 rw[if_neg c];by_cases hi:Zak Q R=true
 ·rw[if_pos hi];exact h
 rw[if_neg hi];obtain ⟨x0,x1,y0,y1,_⟩:=Zef (by simpa using hi);unfold Uc;by_cases k0:R.pc=0
 ·rw[if_pos k0];exact UJ h
 rw[if_neg k0];by_cases k1:R.pc=1
 ·rw[if_pos k1];exact UJ h
 rw[if_neg k1];by_cases k2:R.pc=2
 ·rw[if_pos k2];exact Zku h _
 rw[if_neg k2];by_cases k3:R.pc=3
 ·rw[if_pos k3];exact UJ h
 rw[if_neg k3];by_cases k4:R.pc=4
 ·rw[if_pos k4];exact UJ h
 rw[if_neg k4];by_cases k5:R.pc=5
 ·rw[if_pos k5];exact yZ h _
 rw[if_neg k5];by_cases k6:R.pc=6
 ·rw[if_pos k6];exact Zg5 h _
 rw[if_neg k6];by_cases k7:R.pc=7
 ·rw[if_pos k7];exact yo h _
 rw[if_neg k7];by_cases k8:R.pc=8
 ·rw[if_pos k8];exact Zg5 h _
 rw[if_neg k8];by_cases k9:R.pc=9
 ·rw[if_pos k9];exact yo h _
 rw[if_neg k9];by_cases k10:R.pc=10
 ·rw[if_pos k10];exact Zh0 h _ x0 x1
 rw[if_neg k10];by_cases k11:R.pc=11
 ·rw[if_pos k11];exact ZiW h _ y0 y1
 rw[if_neg k11];by_cases k12:R.pc=12
 ·rw[if_pos k12];exact Zh2 h _ y0 y1
 rw[if_neg k12];exact Ziu h _ x0 x1
end Go.W
