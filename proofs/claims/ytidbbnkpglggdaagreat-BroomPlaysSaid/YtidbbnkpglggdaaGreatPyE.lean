/- So many steps of a try. A try that is alone: what its fourteen steps come to. A try that is alone: its steps, one by one. A try that is alone: what it comes to. A try that is alone: what it comes to, in one law. What a lone try does to all cells, and what it leaves as it was. What tries do that come -/
import Derived.Test.YtidbbnkpglggdaaGreatPsU
import Derived.Test.YtidbbnkpglggdaaGreatPsQ
import Derived.Test.YtidbbnkpglggdaaGreatPaA
import Derived.Test.YtidbbnkpglggdaaGreatWkC
import Derived.Test.YtidbbnkpglggdaaGreatPsX
namespace Go.W
open Go.Proofs
set_option linter.unusedSimpArgs false
set_option linter.unusedVariables false
set_option maxHeartbeats 8000000
set_option maxRecDepth 100000
attribute [local irreducible] Wm WmA
attribute [local simp] YP lkp Vq prs V9 prT ddL idL Yy Ue Ren Ve NObj.none ZT
def zh:List AV→Bool
 | [.int .i64 kd,.bool fl,.int .i64 sg,.int .i64 sl,.int .i64 sf,.int .i64 nm,.int .i64 sd,.int .i64 pr,.int .i64 le,.int .i64 un]=>decide (-9223372036854775808≤kd∧kd≤9223372036854775807∧-9223372036854775808≤sg∧sg≤9223372036854775807∧-9223372036854775808≤sl∧sl≤9223372036854775807∧-9223372036854775808≤sf∧sf≤9223372036854775807∧-9223372036854775808≤nm∧nm≤9223372036854775807∧-9223372036854775808≤sd∧sd≤9223372036854775807∧-9223372036854775808≤pr∧pr≤9223372036854775807∧-9223372036854775808≤le∧le≤9223372036854775807∧-9223372036854775808≤un∧un≤9223372036854775807)
 | _=>false
theorem Uj {c:List AV} (h:zh c=true):∃ (kd:Int) (fl:Bool) (sg sl sf nm sd pr le un:Int),c=[.int .i64 kd,.bool fl,.int .i64 sg,.int .i64 sl,.int .i64 sf,.int .i64 nm,.int .i64 sd,.int .i64 pr,.int .i64 le,.int .i64 un]∧-9223372036854775808≤kd∧kd≤9223372036854775807∧-9223372036854775808≤sg∧sg≤9223372036854775807∧-9223372036854775808≤sl∧sl≤9223372036854775807∧-9223372036854775808≤sf∧sf≤9223372036854775807∧-9223372036854775808≤nm∧nm≤9223372036854775807∧-9223372036854775808≤sd∧sd≤9223372036854775807∧-9223372036854775808≤pr∧pr≤9223372036854775807∧-9223372036854775808≤le∧le≤9223372036854775807∧-9223372036854775808≤un∧un≤9223372036854775807:=by
 unfold zh at h;split at h
 ·exact ⟨_,_,_,_,_,_,_,_,_,_,rfl,of_decide_eq_true h⟩
 ·cases h
theorem ZaQ:∀ {els:List (List AV)},els.all zh=true→Yo els=els
 | [],_=>rfl
 | c :: r,h=>by
  simp only[List.all_cons,Bool.and_eq_true]at h;obtain ⟨kd,fl,sg,sl,sf,nm,sd,pr,le,un,rfl,_⟩:=Uj h.1;simp[Yo,t0L,AV.t0,ZaQ h.2]
theorem Zba:∀ {els:List (List AV)},els.all zh=true→Xr els=true
 | [],_=>rfl
 | c :: r,h=>by
  simp only[List.all_cons,Bool.and_eq_true]at h;obtain ⟨kd,fl,sg,sl,sf,nm,sd,pr,le,un,rfl,_⟩:=Uj h.1;simp[Xr,clL,AV.cl,Zba h.2]
def okO (a b c f g:Int) (k:Nat):List AV→Option (Int×Int)
 | [.int .i64 kd,.bool fl,.int .i64 sg,.int .i64 sl,.int .i64 sf,.int .i64 nm,.int .i64 sd,.int .i64 pr,.int .i64 le,.int .i64 un]=>(match ZX ⟨kd,fl,sg,sl,sf⟩,UV ⟨nm,sd,pr,le,un⟩ with
  | some v,some u=>if (k:Int)<a*b∧1≤sg∧sg≤g∧1≤sl∧sf<f∧(ZA kd=true∨5≤kd)∧fl=false∧YW c ⟨nm,sd,pr,le,un⟩ (if sl<le then le else sl) 0=0 then some (v,u) else none
  | _,_=>none)
 | _=>none
def ordS (o:List AV):List AV:=o.take 5
def ordT (o:List AV):List AV:=o.drop 5
def YF (a b c d e f g:Int) (els:List (List AV)):Nat→Option (List (List AV)×List (List AV)×List (List AV))
 | 0=>some ((W0 a b c d e f g).ws,zS (a*b).toNat,zT (a*b).toNat)
 | k+1=>match YF a b c d e f g els k with
  | none=>none
  | some (ws,S,T)=>match okO a b c f g k (els.getD k []) with
   | none=>none
   | some (v,u)=>some ((ws.set (2*k) [.int .u64 v]).set (2*k+1) [.int .u64 u],S.set k (ordS (els.getD k [])),T.set k (ordT (els.getD k [])))
theorem vO {a b c d e f g:Int} {els:List (List AV)} {k:Nat} (h:YF a b c d e f g els k=none):∀ j,YF a b c d e f g els (k+j)=none
 | 0=>h
 | j+1=>by
  show YF a b c d e f g els ((k+j)+1)=none;simp only[YF,vO h j]
theorem yb {c:List AV} (hc:t0L c=c):∀ {L:List (List AV)} (k:Nat),Yo L=L→Yo (L.set k c)=L.set k c
 | [],_,_=>rfl
 | x :: r,0,h=>by
  simp only[Yo,List.cons.injEq]at h;simp only[List.set_cons_zero,Yo,hc,h.2]
 | x :: r,k+1,h=>by
  simp only[Yo,List.cons.injEq]at h;simp only[List.set_cons_succ,Yo,h.1,yb hc k h.2]
theorem zV {c:List AV} (hc:clL c=true):∀ {L:List (List AV)} (k:Nat),Xr L=true→Xr (L.set k c)=true
 | [],_,_=>rfl
 | x :: r,0,h=>by
  simp only[Xr,Bool.and_eq_true]at h;simp only[List.set_cons_zero,Xr,hc,h.2,Bool.and_self]
 | x :: r,k+1,h=>by
  simp only[Xr,Bool.and_eq_true]at h;simp only[List.set_cons_succ,Xr,h.1,zV hc k h.2,Bool.and_self]
def okL (n:Nat) (L:List (List AV)):Prop:=L.length=n∧Yo L=L∧Xr L=true∧∀ c,c∈L→c.length=5
theorem ZbK {L:List (List AV)} (h:∀ c,c∈L→c.length=5) {x:List AV} (hx:x.length=5) (k:Nat):∀ c,c∈L.set k x→c.length=5:=fun c hc=>by
 rcases List.mem_or_eq_of_mem_set hc with h3|h3
 ·exact h c h3
 ·rw[h3];exact hx
theorem ZbE {x:List AV} (hx:x.length=5) (n:Nat):∀ c,c∈List.replicate n x→c.length=5:=fun c hc=>by rw[List.eq_of_mem_replicate hc];exact hx
theorem Zaf {a b c f g:Int} {k:Nat} {o:List AV} {v u:Int} (ho:zh o=true) (h:okO a b c f g k o=some (v,u)):(k:Int)<a*b∧(0≤v∧v<18446744073709551616)∧(0≤u∧u<18446744073709551616):=by
 obtain ⟨kd,fl,sg,sl,sf,nm,sd,pr,le,un,rfl,_⟩:=Uj ho;simp only[okO]at h;split at h
 ·rename_i v' u' h1 h2
  by_cases hc:(k:Int)<a*b∧1≤sg∧sg≤g∧1≤sl∧sf<f∧(ZA kd=true∨5≤kd)∧fl=false∧YW c ⟨nm,sd,pr,le,un⟩ (if sl<le then le else sl) 0=0
  ·rw[if_pos hc]at h
   simp only[Option.some.injEq,Prod.mk.injEq]at h;obtain ⟨rfl,rfl⟩:=h;exact ⟨hc.1,U6 h1,ZbA h2⟩
  ·rw[if_neg hc]at h;cases h
 ·cases h
theorem XR {a b c d e f g:Int} {els:List (List AV)} (hcf:X7 a b c d e f g=true) (he:els.all zh=true):∀ (k:Nat) (ws S T:List (List AV)),k≤els.length→YF a b c d e f g els k=some (ws,S,T)→(k:Int)≤a*b∧ws.all isW=true∧ws.length=(a*b*2+a*b*g*(f+1)).toNat∧okL (a*b).toNat S∧okL (a*b).toNat T
 | 0,ws,S,T,_,h=>by
  simp only[YF,Option.some.injEq,Prod.mk.injEq]at h;obtain ⟨rfl,rfl,rfl⟩:=h;have hall:=ZB hcf;exact ⟨by simp only[Int.natCast_zero];omega,ZdQ _,List.length_replicate ..,⟨List.length_replicate ..,Tm rfl _,To rfl _,ZbE rfl _⟩,⟨List.length_replicate ..,Tm rfl _,To rfl _,ZbE rfl _⟩⟩
 | k+1,ws,S,T,hk,h=>by
  simp only[YF]at h;split at h
  ·cases h
  ·rename_i ws0 S0 T0 h0
   split at h
   ·cases h
   ·rename_i v u hO
    simp only[Option.some.injEq,Prod.mk.injEq]at h;obtain ⟨rfl,rfl,rfl⟩:=h;have hkl:k<els.length:=(by omega);have hrow:zh (els.getD k [])=true:=by
     rw[List.getD_eq_getElem?_getD,List.getElem?_eq_getElem hkl];exact List.all_eq_true.1 he _ (List.getElem_mem hkl)
    obtain ⟨hkn,hv,hu⟩:=Zaf hrow hO;obtain ⟨i1,i2,i3,i4,i5⟩:=XR hcf he k ws0 S0 T0 (by omega) h0;obtain ⟨kd,fl,sg,sl,sf,nm,sd,pr,le,un,hoe,_⟩:=Uj hrow;rw[hoe];exact ⟨by omega,TI (TI i2 hv.1 hv.2 _) hu.1 hu.2 _,by simp only[List.length_set];exact i3,
     ⟨by simp only[List.length_set];exact i4.1,yb rfl k i4.2.1,zV rfl k i4.2.2.1,ZbK i4.2.2.2 rfl k⟩,⟨by simp only[List.length_set];exact i5.1,yb rfl k i5.2.1,zV rfl k i5.2.2.1,ZbK i5.2.2.2 rfl k⟩⟩
def Y2 (a b c d e f g:Int) (els:List (List AV)):AV:=match YF a b c d e f g els els.length with
 | some (ws,S,T)=>.tup [.op 0 (wzC ⟨a,b,c,d,e,f,g,ws,2*els.length,0,[]⟩),.op 0 (qC a b c d e f g S T),.bool true]
 | none=>.tup [.raw (.pointer none),.raw (.pointer none),.bool false]
def d5:List AV→Option Ans
 | [.agg [.int .i64 a,.int .i64 b,.int .i64 c,.int .i64 d,.int .i64 e,.int .i64 f,.int .i64 g],.os _ 10 els]=>if els.all zh=true then some ⟨if X7 a b c d e f g=true then Y2 a b c d e f g els else .tup [.raw (.pointer none),.raw (.pointer none),.bool false],[.free]⟩ else none
 | _=>none
theorem ok5:NOk [(10,false)] d5:=by
 intro xs aa h;unfold d5 at h;split at h
 ·split at h
  ·rename_i a b c d e f g u els hc
   have t1:=ZaQ hc;have t2:=Zba hc;injection h with h;subst h;split
   ·rename_i hcf
    unfold Y2;split
    ·rename_i ws S T hb
     obtain ⟨i1,i2,i3,⟨i4,i5,i6,_⟩,⟨i7,i8,i9,_⟩⟩:=XR hcf hc _ _ _ _ (Nat.le_refl _) hb;have hT:=ZW i2;have hC:=ZV i2;refine ⟨Zp ?_,?_⟩<;>simp[wzC,qC,hT,hC,i5,i6,i8,i9,t1,t2]
    ·refine ⟨Zp ?_,?_⟩<;>simp[t1,t2]
   ·refine ⟨Zp ?_,?_⟩<;>simp[t1,t2]
  ·cases h
 ·cases h
def I9 (a b c d e f g:Int) (els:List (List AV)) (k:Nat) (ws S T:List (List AV)):St:=⟨[(2,.ptr (.top 1) 0 0),(7,.ptr (.top 2) 0 0),(9,.ptr (.top 3) 0 0),(11,.ptr (.top 4) 0 0),(43,.sl (.top 0) 0 els.length),(44,.int .i64 els.length),(45,.int .i64 k)],[(0,.view 0 10 els),(1,.cells 0 [.int .i64 a,.int .i64 b,.int .i64 c,.int .i64 d,.int .i64 e,.int .i64 f,.int .i64 g]),(2,.cells 0 [.int .i64 a,.int .i64 b,.int .i64 c,.int .i64 d,.int .i64 e,.int .i64 f,.int .i64 g]),(3,.cells 0 [.int .i64 a,.int .i64 b,.int .i64 c,.int .i64 d,.int .i64 e,.int .i64 f,.int .i64 g,.op 0 [.os 0 1 ws,.int .i64 (2*k),.bot,.bot,.bot,.bot,.bot],.op 0 [.int .u64 0],.os 0 14 []]),(4,.cells 0 [.int .i64 a,.int .i64 b,.int .i64 c,.int .i64 d,.int .i64 e,.int .i64 f,.int .i64 g,.os 0 5 S,.os 0 5 T,.os 0 1 (jzL (a*b).toNat (g*(f+1)).toNat),.int .i64 0,.os 0 14 [],.int .i64 0])],5⟩
end Go.W
namespace Go.W
open Go.Proofs
set_option linter.unusedSimpArgs false
set_option linter.unusedVariables false
set_option maxHeartbeats 8000000
set_option maxRecDepth 100000
theorem YY {els vs:List (List AV)} {k:Nat} {v:Int} (h:Yh els vs (k+1)=some v):∃ x,Yh els vs k=some x∧0≤ZM (vs.getD k [])∧ZM (vs.getD k [])≤2 ^ (ZM (els.getD k [])).toNat - 1∧v=x+ZM (vs.getD k [])*2 ^ (YV els k).toNat:=by
 simp only[Yh]at h;cases hx:Yh els vs k with
 | none=>rw[hx]at h;cases h
 | some x =>
  rw[hx]at h;simp only at h;by_cases h1:ZM (vs.getD k [])<0
  ·rw[if_pos h1]at h;cases h
  ·rw[if_neg h1]at h
   by_cases h2:2 ^ (ZM (els.getD k [])).toNat - 1<ZM (vs.getD k [])
   ·rw[if_pos h2]at h;cases h
   ·rw[if_neg h2]at h
    injection h with h;exact ⟨x,rfl,by omega,by omega,h.symm⟩
theorem X8 {els vs:List (List AV)} {k:Nat} {x:Int} (hx:Yh els vs k=some x) (h1:0≤ZM (vs.getD k [])) (h2:ZM (vs.getD k [])≤2 ^ (ZM (els.getD k [])).toNat - 1):Yh els vs (k+1)=some (x+ZM (vs.getD k [])*2 ^ (YV els k).toNat):=by
 simp only[Yh,hx];rw[if_neg (by omega),if_neg (by omega)]
theorem U4 {s:StZ} {v:Int} (h:ZX s=some v):Zc v=s∧0≤s.k∧s.k≤8∧0≤s.g∧s.g≤255∧0≤s.l∧s.l≤65535∧0≤s.f∧s.f≤255:=by
 unfold ZX at h;by_cases hk:8<s.k
 ·rw[if_pos hk]at h;cases h
 rw[if_neg hk]at h;obtain ⟨x4,h4,a4,b4,e4⟩:=YY h;obtain ⟨x3,h3,a3,b3,e3⟩:=YY h4;obtain ⟨x2,h2,a2,b2,e2⟩:=YY h3;obtain ⟨x1,h1,a1,b1,e1⟩:=YY h2;obtain ⟨x0,h0,a0,b0,e0⟩:=YY h1;simp only[Yh,Option.some.injEq]at h0;subst h0 e0 e1 e2 e3 e4;simp[ZM,YV]at a0 b0 a1 b1 a2 b2 a3 b3 a4 b4⊢;obtain ⟨k,fl,g,l,f⟩:=s;simp only at hk a0 b0 a1 b1 a2 b2 a3 b3 a4 b4⊢;refine ⟨?_,a0,by omega,a2,b2,a3,b3,a4,b4⟩;cases fl
 ·simp[Zc,TU]
  omega
 ·simp[Zc,TU]
  omega
theorem VL {s:StZ} (h0:0≤s.k) (h1:s.k≤8) (h2:0≤s.g) (h3:s.g≤255) (h4:0≤s.l) (h5:s.l≤65535) (h6:0≤s.f) (h7:s.f≤255):∃ v,ZX s=some v:=by
 unfold ZX;rw[if_neg (by omega)];obtain ⟨k,fl,g,l,f⟩:=s;simp only at h0 h1 h2 h3 h4 h5 h6 h7⊢;refine ⟨_,X8 (X8 (X8 (X8 (X8 rfl ?_ ?_) ?_ ?_) ?_ ?_) ?_ ?_) ?_ ?_⟩<;>cases fl<;>simp[ZM]<;>omega
theorem Zgu {t:TmZ} {v:Int} (h:UV t=some v):Yc v=t:=by
 unfold UV at h;obtain ⟨x4,h4,a4,b4,e4⟩:=YY h;obtain ⟨x3,h3,a3,b3,e3⟩:=YY h4;obtain ⟨x2,h2,a2,b2,e2⟩:=YY h3;obtain ⟨x1,h1,a1,b1,e1⟩:=YY h2;obtain ⟨x0,h0,a0,b0,e0⟩:=YY h1;simp only[Yh,Option.some.injEq]at h0;subst h0 e0 e1 e2 e3 e4;simp[ZM,YV]at a0 b0 a1 b1 a2 b2 a3 b3 a4 b4⊢;obtain ⟨n,s,p,l,u⟩:=t;simp only at a0 b0 a1 b1 a2 b2 a3 b3 a4 b4⊢;simp[Yc,TU];omega
theorem Zjg {r:RcZ} {v:Int} (h:zK r=some v):Vn v=r:=by
 unfold zK at h;by_cases hk:5<r.k
 ·rw[if_pos hk]at h;cases h
 rw[if_neg hk]at h;obtain ⟨x5,h5,a5,b5,e10⟩:=YY h;obtain ⟨x4,h4,a4,b4,e4⟩:=YY h5;obtain ⟨x3,h3,a3,b3,e3⟩:=YY h4;obtain ⟨x2,h2,a2,b2,e2⟩:=YY h3;obtain ⟨x1,h1,a1,b1,e1⟩:=YY h2;obtain ⟨x0,h0,a0,b0,e0⟩:=YY h1;simp only[Yh,Option.some.injEq]at h0;subst h0 e0 e1 e2 e3 e4 e10;simp[ZM,YV]at a0 b0 a1 b1 a2 b2 a3 b3 a4 b4 a5 b5⊢;obtain ⟨k,q,p,t,c,g⟩:=r;simp only at a0 b0 a1 b1 a2 b2 a3 b3 a4 b4 a5 b5 hk⊢;simp[Vn,TU];omega
theorem ZcR {r:RcZ} (h0:0≤r.k) (h1:r.k≤5) (h2:0≤r.q) (h3:r.q≤65535) (h4:0≤r.p) (h5:r.p≤65535) (h6:0≤r.t) (h7:r.t≤1000000) (h8:0≤r.c) (h9:r.c≤31) (h10:0≤r.g) (h11:r.g≤15):∃ v,zK r=some v:=by
 unfold zK;rw[if_neg (by omega)];obtain ⟨k,q,p,t,c,g⟩:=r;simp only at h0 h1 h2 h3 h4 h5 h6 h7 h8 h9 h10 h11⊢;refine ⟨_,X8 (X8 (X8 (X8 (X8 (X8 rfl ?_ ?_) ?_ ?_) ?_ ?_) ?_ ?_) ?_ ?_) ?_ ?_⟩<;>simp[ZM]<;>omega
theorem yH {ws:List (List AV)} {i:Nat} {v:Int} (h:i<ws.length):wAt (ws.set i [.int .u64 v]) i=v:=by
 unfold wAt;rw[List.getElem?_set_self h]
theorem XD {ws:List (List AV)} {i j:Nat} {c:List AV} (h:i≠j):wAt (ws.set i c) j=wAt ws j:=by
 unfold wAt;rw[List.getElem?_set_ne h]
def idl (a b x y:Int):Bool:=decide (UH a b x<0∨UH a b y<0∨UH a b x=UH a b y)
theorem Xv (W:WZ) (T:TZ):YI W T=idl W.a W.b T.x T.y:=rfl
theorem Zdv {W:WZ} {x:Int} {v:Int} (h:(2*x).toNat<W.ws.length):sAt (Zbk W (2*x).toNat v) x=v:=yH h
theorem ZeP {W:WZ} {x y:Int} {v:Int} (h:(2*y).toNat≠(2*x).toNat):sAt (Zbk W (2*y).toNat v) x=sAt W x:=XD h
theorem ZgB {W:WZ} {x y:Int} {v:Int} (h:(2*y).toNat≠(2*x+1).toNat):tAt (Zbk W (2*y).toNat v) x=tAt W x:=XD h
section
variable {W:WZ} {x y sh wx wy q p ta en:Int} {tx ty:TmZ} {held made free:Bool} {nx ny:StZ}
theorem q0 (hi:idl W.a W.b x y=false):Zw W ⟨3,x,0,y,sh,0,wx,wy,tx,ty,held,made,free,q,p,ta,en,nx,ny⟩=(⟨3,x,0,y,sh,1,sAt W x,wy,tx,ty,held,made,free,q,p,ta,en,nx,ny⟩,Yn W):=by
 simp[Zw,ZP,Xv,hi]
theorem q1 (hi:idl W.a W.b x y=false):Zw W ⟨3,x,0,y,sh,1,wx,wy,tx,ty,held,made,free,q,p,ta,en,nx,ny⟩=(⟨3,x,0,y,sh,2,wx,wy,Yc (tAt W x),ty,held,made,free,q,p,ta,en,nx,ny⟩,Yn W):=by
 simp[Zw,ZP,Xv,hi]
theorem q3 (hi:idl W.a W.b x y=false):Zw W ⟨3,x,0,y,sh,3,wx,wy,tx,ty,held,made,free,q,p,ta,en,nx,ny⟩=(⟨3,x,0,y,sh,4,wx,sAt W y,tx,ty,held,made,free,q,p,ta,en,nx,ny⟩,Yn W):=by
 simp[Zw,ZP,Xv,hi]
theorem q4 (hi:idl W.a W.b x y=false):Zw W ⟨3,x,0,y,sh,4,wx,wy,tx,ty,held,made,free,q,p,ta,en,nx,ny⟩=(⟨3,x,0,y,sh,5,wx,wy,tx,Yc (tAt W y),held,made,free,q,p,ta,en,nx,ny⟩,Yn W):=by
 simp[Zw,ZP,Xv,hi]
theorem q6 (hi:idl W.a W.b x y=false):Zw W ⟨3,x,0,y,sh,6,wx,wy,tx,ty,true,made,false,q,p,ta,en,nx,ny⟩=(⟨3,x,0,y,sh,7,sAt W x,wy,tx,ty,true,made,false,q,p,ta,en,nx,ny⟩,Yn W):=by
 simp[Zw,ZP,Xv,hi,YE]
theorem q7 {v:Int} {n2:StZ} (hi:idl W.a W.b x y=false) (hr:Zh (Zc wx) (if made=true then q else 0) W.f=(n2,0)) (hv:ZX n2=some v) (hs:sAt W x=wx):Zw W ⟨3,x,0,y,sh,7,wx,wy,tx,ty,true,made,false,q,p,ta,en,nx,ny⟩=(⟨3,x,0,y,sh,8,wx,wy,tx,ty,true,made,true,q,p,ta,W.t,n2,ny⟩,if zJ n2.k=true then Vz (Zbk W (2*x).toNat v) 7 x n2.g 0 0 0 0 n2.k else Zbk W (2*x).toNat v):=by
 simp[Zw,ZP,Xv,hi,Uf,XK,hr,Zs,hv,hs]
theorem q8 (hi:idl W.a W.b x y=false):Zw W ⟨3,x,0,y,sh,8,wx,wy,tx,ty,held,made,true,q,p,ta,en,nx,ny⟩=(⟨3,x,0,y,sh,9,wx,wy,tx,ty,held,made,true,q,p,ta,en,nx,ny⟩,W):=by
 simp[Zw,ZP,Xv,hi,YE]
theorem q9 (hi:idl W.a W.b x y=false):Zw W ⟨3,x,0,y,sh,9,wx,wy,tx,ty,held,made,true,q,p,ta,en,nx,ny⟩=(⟨3,x,0,y,sh,10,wx,wy,tx,ty,held,made,true,q,p,ta,en,nx,ny⟩,W):=by
 simp[Zw,ZP,Xv,hi,Uf]
end
theorem muls {u v m r s:Int} (h:u*m+r=v*m+s) (h0:0≤r) (h1:r<m) (h2:0≤s) (h3:s<m):u=v∧r=s:=by
 have hm:0≤m:=by omega
 by_cases a1:u<v
 ·have:=Int.mul_le_mul_of_nonneg_right (show u+1≤v by omega) hm
  rw[Int.add_mul,Int.one_mul]at this;omega
 ·by_cases a2:v<u
  ·have:=Int.mul_le_mul_of_nonneg_right (show v+1≤u by omega) hm
   rw[Int.add_mul,Int.one_mul]at this;omega
  ·have e:u=v:=by omega
   subst e;exact ⟨rfl,by omega⟩
section
variable {a b f g x gen n:Int}
theorem zr (h0:0≤x) (h1:x<a*b) (h2:1≤gen) (h3:gen≤g) (h4:0≤n) (h5:n≤f):ZY a b f g x gen n=a*b*2+(x*g+gen - 1)*(f+1)+n:=by
 unfold ZY;rw[if_neg (by omega),if_neg (by omega),if_neg (by omega),if_neg (by omega),if_neg (by omega),if_neg (by omega)]
theorem Zh9 (hg:0≤g) (hf:0≤f):ZY a b f g x gen n<0∨a*b*2≤ZY a b f g x gen n:=by
 unfold ZY
 repeat' split
 all_goals first|(left;omega)|skip
 right;have h1:=Int.mul_nonneg (show 0≤x by omega) hg;have h2:=Int.mul_nonneg (show 0≤x*g+gen - 1 by omega) (show 0≤f+1 by omega);omega
theorem xv (h0:0≤x) (h1:x<a*b) (h2:1≤gen) (h3:gen≤g) (h4:0≤n) (h5:n≤f):a*b*2≤ZY a b f g x gen n∧ZY a b f g x gen n<a*b*2+a*b*g*(f+1):=by
 rw[zr h0 h1 h2 h3 h4 h5];have k1:=Int.mul_nonneg h0 (show 0≤g by omega);have k2:=Int.mul_nonneg (show 0≤x*g+gen - 1 by omega) (show 0≤f+1 by omega);have k3:=Int.mul_le_mul_of_nonneg_right (show x+1≤a*b by omega) (show 0≤g by omega);rw[Int.add_mul,Int.one_mul]at k3;have k4:=Int.mul_le_mul_of_nonneg_right (show x*g+gen - 1+1≤a*b*g by omega) (show 0≤f+1 by omega);rw[Int.add_mul,Int.one_mul]at k4;omega
theorem ZfY {x' gen' n':Int} (h0:0≤x) (h1:x<a*b) (h2:1≤gen) (h3:gen≤g) (h4:0≤n) (h5:n≤f) (k0:0≤x') (k1:x'<a*b) (k2:1≤gen') (k3:gen'≤g) (k4:0≤n') (k5:n'≤f) (h:ZY a b f g x gen n=ZY a b f g x' gen' n'):x=x'∧gen=gen'∧n=n':=by
 rw[zr h0 h1 h2 h3 h4 h5,zr k0 k1 k2 k3 k4 k5]at h;obtain ⟨e1,e2⟩:=muls (m:=f+1) (u:=x*g+gen - 1) (v:=x'*g+gen' - 1) (r:=n) (s:=n') (by omega) h4 (by omega) k4 (by omega);obtain ⟨e3,e4⟩:=muls (m:=g) (u:=x) (v:=x') (r:=gen - 1) (s:=gen' - 1) (by omega) (by omega) (by omega) (by omega) (by omega);exact ⟨e3,by omega,e2⟩
end
theorem ZaX (W:WZ) (x g n:Int) (r:RcZ):(ZH W x g n r).a=W.a∧(ZH W x g n r).b=W.b∧(ZH W x g n r).f=W.f∧(ZH W x g n r).g=W.g∧(ZH W x g n r).lg=W.lg∧(ZH W x g n r).ws.length=W.ws.length∧∀ i:Nat,(ZY W.a W.b W.f W.g x g n<0∨ZY W.a W.b W.f W.g x g n≠i)→wAt (ZH W x g n r).ws i=wAt W.ws i:=by
 unfold ZH;split
 ·exact ⟨rfl,rfl,rfl,rfl,rfl,rfl,fun _ _=>rfl⟩
 ·split
  ·exact ⟨rfl,rfl,rfl,rfl,rfl,rfl,fun _ _=>rfl⟩
  ·split
   ·exact ⟨rfl,rfl,rfl,rfl,rfl,rfl,fun _ _=>rfl⟩
   ·exact ⟨rfl,rfl,rfl,rfl,rfl,List.length_set ..,fun i hi=>XD (by omega)⟩
theorem Zjb {W:WZ} {x g n:Int} {r:RcZ} {v:Int} (hv:zK r=some v) (h0:0≤ZY W.a W.b W.f W.g x g n) (h1:ZY W.a W.b W.f W.g x g n<W.ws.length):wAt (ZH W x g n r).ws (ZY W.a W.b W.f W.g x g n).toNat=v:=by
 unfold ZH;rw[hv];simp only;rw[if_neg (by omega),if_neg (by omega)];exact yH (by omega)
def goodZ (F G:Int) (s:StZ):Prop:=s.k=2∧s.fl=false∧1≤s.g∧s.g≤G∧1≤s.l∧s.l≤65535∧0≤s.f∧s.f<F
theorem Zkc {a b x y:Int} (hx0:0≤x) (hx:x<a*b) (hi:idl a b x y=false):x≠y:=by
 intro e;subst e;unfold idl at hi;simp at hi
section
variable {W:WZ} {x y sh:Int}
end
section
variable {W:WZ} {x y sh:Int}
end
def X5 (W:WZ):Int×Int×Int×Int×Int×Int×Int×Int:=(W.a,W.b,W.c,W.d,W.e,W.f,W.g,W.t)
theorem ZQ (W:WZ) (x old:Int) (s:StZ):X5 (Zs W x old s).2=X5 W:=by
 unfold Zs;split
 ·rfl
 ·split<;>rfl
theorem Ug (W:WZ) (x g n:Int) (r:RcZ):X5 (ZH W x g n r)=X5 W:=by
 unfold ZH;split
 ·rfl
 ·split
  ·rfl
  ·split<;>rfl
theorem vJ (W:WZ) (k c g o w q p e:Int):X5 (Vz W k c g o w q p e)=X5 W:=rfl
theorem Zd3 (W:WZ) (T:TZ):X5 (Xj W T).2=X5 W:=by
 unfold Xj;split
 ·exact ZQ _ _ _ _
 ·rfl
theorem Zdh (W:WZ) (T:TZ):X5 (YE W T).2=X5 W:=by
 unfold YE;split<;>rfl
theorem Zei (W:WZ) (T:TZ):X5 (Y7 W T).2=X5 W:=by
 unfold Y7
 repeat' split
 ·exact ZQ _ _ _ _
 ·exact ZQ _ _ _ _
 ·rfl
 ·rfl
theorem ZfD (W:WZ) (T:TZ):X5 (Uf W T).2=X5 W:=by
 unfold Uf;split
 ·split
  ·split
   ·simp only
    split
    ·exact ZQ _ _ _ _
    ·exact ZQ _ _ _ _
   ·exact ZQ _ _ _ _
  ·rfl
 ·rfl
theorem yV (W:WZ) (T:TZ):X5 (YC W T)=X5 W:=by
 unfold YC
 repeat' split
 all_goals first|exact Ug _ _ _ _ _|rfl
theorem ZdL (W:WZ) (T:TZ):X5 (ZP W T).2=X5 W:=by
 unfold ZP
 repeat' split
 all_goals first|exact Zd3 W T|exact Zei W T|exact Zdh W T|exact ZfD W T|exact yV W T|rfl
theorem ZcL (W:WZ) (T:TZ):X5 (Zw W T).2=X5 W:=by
 unfold Zw;split
 ·rfl
 ·split
  ·rfl
  ·exact ZdL W T
theorem yx {W:WZ} {x old:Int} {s:StZ} {j:Nat} (h:j≠(2*x).toNat):wAt (Zs W x old s).2.ws j=wAt W.ws j:=by
 unfold Zs;split
 ·rfl
 ·split
  ·exact XD (fun e=>h e.symm)
  ·rfl
theorem Vt {W:WZ} (hW:okW W=true) {x g n:Int} {r:RcZ} {j:Nat} (hj:(j:Int)<W.a*W.b*2):wAt (ZH W x g n r).ws j=wAt W.ws j:=by
 have hc:=ZE (Zk hW).1;have hs:=Zh9 (a:=W.a) (b:=W.b) (f:=W.f) (g:=W.g) (x:=x) (gen:=g) (n:=n) (by omega) (by omega);exact (ZaX W x g n r).2.2.2.2.2.2 j (by omega)
section
variable {W:WZ} {T:TZ} {j:Nat}
theorem ZaA (hW:okW W=true) (hj:(j:Int)<W.a*W.b*2):wAt (YC W T).ws j=wAt W.ws j:=by
 unfold YC
 repeat' split
 all_goals first|exact Vt hW hj|rfl
end
theorem Xd {W V:WZ} (h:X5 W=X5 V):W.a=V.a∧W.b=V.b∧W.c=V.c∧W.d=V.d∧W.f=V.f∧W.g=V.g∧W.t=V.t:=by
 simp only[X5,Prod.mk.injEq]at h;exact ⟨h.1,h.2.1,h.2.2.1,h.2.2.2.1,h.2.2.2.2.2.1,h.2.2.2.2.2.2.1,h.2.2.2.2.2.2.2⟩
def stW (W:WZ) (i:Int):StZ:=Zc (sAt W i)
def tmW (W:WZ) (i:Int):TmZ:=Yc (tAt W i)
theorem vN {W:WZ} {x old:Int} {s:StZ} (hx0:0≤x) (hl:2*x+1<W.ws.length) (h:(Zs W x old s).1=true):sAt W x=old∧stW (Zs W x old s).2 x=s∧(∀ i:Int,0≤i→i≠x→stW (Zs W x old s).2 i=stW W i)∧(∀ i:Int,0≤i→tmW (Zs W x old s).2 i=tmW W i)∧(Zs W x old s).2.lg=W.lg∧(Zs W x old s).2.ws.length=W.ws.length:=by
 unfold Zs at h⊢;cases hv:ZX s with
 | none=>rw[hv]at h;cases h
 | some v =>
  rw[hv]at h;simp only at h⊢;by_cases e:sAt W x=old
  ·rw[if_pos e]
   refine ⟨e,?_,fun i i0 hi=>?_,fun i i0=>?_,rfl,List.length_set ..⟩
   ·unfold stW
    simp only;rw[Zdv (by omega)];exact (U4 hv).1
   ·unfold stW
    simp only;rw[ZeP (by omega)]
   ·unfold tmW
    simp only;rw[ZgB (by omega)]
  ·rw[if_neg e]at h;cases h
theorem UK {W:WZ} {x old:Int} {s:StZ} (h:(Zs W x old s).1=false):(Zs W x old s).2.ws=W.ws∧(Zs W x old s).2.lg=W.lg:=by
 unfold Zs at h⊢;cases hv:ZX s with
 | none=>exact ⟨rfl,rfl⟩
 | some v =>
  rw[hv]at h;simp only at h⊢;by_cases e:sAt W x=old
  ·rw[if_pos e]at h;cases h
  ·rw[if_neg e];exact ⟨rfl,rfl⟩
theorem Zgm {W:WZ} {x old:Int} {s:StZ} {v:Int} (hv:ZX s=some v) (h:(Zs W x old s).1=false):sAt W x≠old:=by
 unfold Zs at h;rw[hv]at h;simp only at h;intro e;rw[if_pos e]at h;cases h
theorem Zcf {W V:WZ} (h:V.ws=W.ws) (i:Int):stW V i=stW W i∧tmW V i=tmW W i∧sAt V i=sAt W i:=by
 unfold stW tmW sAt tAt;rw[h];exact ⟨rfl,rfl,rfl⟩
def ZbX (i:Int):List AV→Int
 | [.int .i64 k,.int .i64 c,.int .i64 g,.int .i64 o,.int .i64 w,_,_,_,_,_,.int .i64 q,_,_,_]=>if k=2 then (if c=i then q else 0)+(if o=i then q else 0) else 0
 | _=>0
def Ua (i:Int):List (List AV)→Int
 | []=>0
 | r :: l=>ZbX i r+Ua i l
theorem TC (i:Int):∀ a b:List (List AV),Ua i (a++b)=Ua i a+Ua i b
 | [],b=>by simp[Ua]
 | r :: a,b=>by
  simp only[List.cons_append,Ua,TC i a b];omega
theorem ZkM (i c g o w q p t e:Int):ZbX i (evC 2 c g o w q p t e)=(if c=i then q else 0)+(if o=i then q else 0):=by
 simp[evC,ZbX]
theorem Zhb {i k c g o w q p t e:Int} (h:k≠2):ZbX i (evC k c g o w q p t e)=0:=by
 simp[evC,ZbX,h]
def ZI (T:TZ) (i:Int):Bool:=T.held&&!T.free&&decide (T.x=i)
def zH (T:TZ) (i:Int):Int:=if ZI T i=true∧T.made=true then T.q else 0
def ZbW (i:Int):List TZ→Nat
 | []=>0
 | T :: l=>(if ZI T i=true then 1 else 0)+ZbW i l
def Zg3 (i:Int):List TZ→Int
 | []=>0
 | T :: l=>zH T i+Zg3 i l
theorem Zaw (i:Int):∀ (l:List TZ) (k:Nat) (T T':TZ),l[k]?=some T→ZbW i (l.set k T')+(if ZI T i=true then 1 else 0)=ZbW i l+(if ZI T' i=true then 1 else 0)
 | [],k,T,T',h=>by simp at h
 | A :: l,0,T,T',h=>by
  simp only[List.getElem?_cons_zero,Option.some.injEq]at h;subst h;simp only[List.set_cons_zero,ZbW];omega
 | A :: l,k+1,T,T',h=>by
  simp only[List.getElem?_cons_succ]at h;have:=Zaw i l k T T' h;simp only[List.set_cons_succ,ZbW];omega
theorem ZaJ (i:Int):∀ (l:List TZ) (k:Nat) (T T':TZ),l[k]?=some T→Zg3 i (l.set k T')=Zg3 i l - zH T i+zH T' i
 | [],k,T,T',h=>by simp at h
 | A :: l,0,T,T',h=>by
  simp only[List.getElem?_cons_zero,Option.some.injEq]at h;subst h;simp only[List.set_cons_zero,Zg3];omega
 | A :: l,k+1,T,T',h=>by
  simp only[List.getElem?_cons_succ]at h;have:=ZaJ i l k T T' h;simp only[List.set_cons_succ,Zg3];omega
def Zb7 (F:Int) (s:StZ):Prop:=(s.k=1∨s.k=2∨s.k=3∨s.k=4→1≤s.l∧s.f<F)∧(s.fl=true→Yb s.k=true)
def ZdM (W:WZ) (T:TZ):Prop:=(Zc T.wx).l=(stW W T.x).l∧(Zc T.wx).f=(stW W T.x).f∧(T.made=true→1≤T.q∧T.q≤(stW W T.x).l)∧(T.pc=7∨T.pc=9→Yb (Zc T.wx).k=true)
 ∧ (T.pc=7→sAt W T.x=T.wx∨(stW W T.x).fl=true)∧(T.pc=8→(stW W T.x).fl=true)∧(T.pc=9→(stW W T.x).fl=true∧sAt W T.x=T.wx)∧3≤T.pc∧T.pc≤9
def Zcl (B W:WZ) (T:TZ):Prop:=0≤T.pc∧T.pc≤14∧(idl B.a B.b T.x T.y=true→T.held=false∧T.made=false)∧(T.pc≤2→T.held=false)∧(T.pc≤5→T.made=false)∧(T.pc≤7→T.free=false)∧(T.made=true→T.held=true)∧(T.free=true→T.held=true)∧(T.held=true→T.free=false→ZdM W T)
def LogJ (n:Int) (L:List (List AV)):Prop:=∀ r,r∈L→∃ k c g o w q p t e:Int,r=evC k c g o w q p t e∧(k=2→0≤c∧c<n∧0≤o∧o<n)
def Vr (B:WZ) (was:Int→Int) (W:WZ) (Ts:List TZ):Prop:=okW W=true∧X5 W=X5 B∧(∀ i:Int,0≤i→i<B.a*B.b→Zb7 B.f (stW W i)∧ZbW i Ts=(if Yb (stW W i).k=true then 1 else 0)∧(stW W i).l+Ua i W.lg=was i+Zg3 i Ts)∧LogJ (B.a*B.b) W.lg∧∀ T,T∈Ts→Zcl B W T
theorem xD {i:Int} {Ts:List TZ} {T:TZ} (h:T∈Ts) (hh:ZI T i=true):1≤ZbW i Ts:=by
 induction Ts with
 | nil=>cases h
 | cons A l ih =>
  show 1≤(if ZI A i=true then 1 else 0)+ZbW i l;rcases List.mem_cons.1 h with e|h
  ·rw[← e,if_pos hh];omega
  ·have:=ih h
   omega
theorem Zez {i:Int} {Ts:List TZ} (h:ZbW i Ts=0) {T:TZ} (hT:T∈Ts):ZI T i=false:=by
 by_cases e:ZI T i=true
 ·have:=xD hT e;omega
 ·simpa using e
theorem ZbF {α:Type} {l:List α} {k:Nat} {a b:α} (h:b∈l.set k a):b=a∨∃ j:Nat,j≠k∧l[j]?=some b:=by
 obtain ⟨j,hj⟩:=List.getElem?_of_mem h;by_cases e:j=k
 ·subst e
  rw[List.getElem?_set]at hj;simp only[if_true]at hj;split at hj
  ·injection hj with hj;exact .inl hj.symm
  ·cases hj
 ·rw[List.getElem?_set_ne (fun x=>e x.symm)]at hj
  exact .inr ⟨j,e,hj⟩
theorem ZeZ {i:Int} {Ts:List TZ}:∀ {k j:Nat} {T U:TZ},Ts[k]?=some T→Ts[j]?=some U→j≠k→ZI T i=true→ZI U i=true→2≤ZbW i Ts:=by
 induction Ts with
 | nil=>intro k j T U h;simp at h
 | cons A l ih =>
  intro k j T U h1 h2 hne a b;show 2≤(if ZI A i=true then 1 else 0)+ZbW i l;cases k with
  | zero =>
   cases j with
   | zero=>exact absurd rfl hne
   | succ j =>
    simp only[List.getElem?_cons_zero,Option.some.injEq]at h1;simp only[List.getElem?_cons_succ]at h2;have:=xD (List.mem_of_getElem? h2) b;rw[h1,if_pos a];omega
  | succ k =>
   simp only[List.getElem?_cons_succ]at h1;cases j with
   | zero =>
    simp only[List.getElem?_cons_zero,Option.some.injEq]at h2;have:=xD (List.mem_of_getElem? h1) a;rw[h2,if_pos b];omega
   | succ j =>
    simp only[List.getElem?_cons_succ]at h2;have:=ih h1 h2 (by omega) a b;omega
theorem vc {B W W':WZ} {T:TZ} (h:Zcl B W T) (k:ZI T T.x=true→sAt W' T.x=sAt W T.x):Zcl B W' T:=by
 obtain ⟨h1,h2,h3,h4,h5,h6,h7,h8,h9⟩:=h;refine ⟨h1,h2,h3,h4,h5,h6,h7,h8,fun a b=>?_⟩;have e:=k (by simp[ZI,a,b]);have e2:stW W' T.x=stW W T.x:=by unfold stW;rw[e]
 have:=h9 a b;unfold ZdM at this⊢;rw[e,e2];exact this
theorem ZaR {B:WZ} {was:Int→Int} {W W':WZ} {Ts:List TZ} {k:Nat} {T T':TZ} (h:Vr B was W Ts) (hk:Ts[k]?=some T) (ok:okW W'=true) (par:X5 W'=X5 W) (hst:∀ i:Int,0≤i→i<B.a*B.b→sAt W' i=sAt W i) (hlg:W'.lg=W.lg)
  (hh:∀ i,ZI T' i=ZI T i) (ho:∀ i,zH T' i=zH T i) (hx:∀ U:TZ,U∈Ts→ZI U U.x=true→0≤U.x∧U.x<B.a*B.b) (hT:Zcl B W' T'):Vr B was W' (Ts.set k T'):=by
 obtain ⟨s1,s2,s3,s4,s10⟩:=h
 refine ⟨ok,par.trans s2,fun i i0 i1=>?_,by rw[hlg];exact s4,fun U hU=>?_⟩
 ·obtain ⟨c1,c2,c3⟩:=s3 i i0 i1
  have e:stW W' i=stW W i:=by unfold stW;rw[hst i i0 i1]
  have hc:=Zaw i Ts k T T' hk;have ho2:=ZaJ i Ts k T T' hk;rw[hh i]at hc;rw[ho i]at ho2;rw[e,hlg];exact ⟨c1,by omega,by omega⟩
 ·rcases ZbF hU with rfl|⟨j,hj,hm⟩
  ·exact hT
  ·have hmem:=List.mem_of_getElem? hm
   exact vc (s10 U hmem) fun a=>hst U.x (hx U hmem a).1 (hx U hmem a).2
theorem ZiK {a b:TmZ} {l o:Int} (h:(Zf a b l o).1≠0):1≤(Zf a b l o).1∧(Zf a b l o).1≤l∧(Zf a b l o).1≤o:=by
 have key:(Zf a b l o).1=0∨(1≤(if o<l then o else l)∧(Zf a b l o).1=(if o<l then o else l)):=by
  unfold Zf;obtain ⟨m,e⟩:∃ x,(if o<l then o else l)=x:=⟨_,rfl⟩;rw[e]
  repeat' split
  all_goals first|exact .inl rfl|exact .inr ⟨by omega,rfl⟩
 rcases key with k|⟨k1,k2⟩
 ·exact absurd k h
 ·rw[k2]
  refine ⟨k1,?_,?_⟩
  ·split<;>omega
  ·split<;>omega
theorem U1 {B:WZ} {was:Int→Int} {W:WZ} {Ts:List TZ} {U:TZ} {i:Int} (h:Vr B was W Ts) (hU:U∈Ts) (a:ZI U i=true):U.held=true∧U.free=false∧U.x=i∧idl B.a B.b U.x U.y=false∧0≤i∧i<B.a*B.b∧ZdM W U:=by
 have hj:=h.2.2.2.2 U hU;obtain ⟨h1,h2,h3,h4,h5,h6,h7,h8,h9⟩:=hj;simp only[ZI,Bool.and_eq_true,Bool.not_eq_true',decide_eq_true_eq]at a;obtain ⟨⟨a1,a2⟩,a3⟩:=a;have hi:idl B.a B.b U.x U.y=false:=by
  by_cases e:idl B.a B.b U.x U.y=true
  ·have:=(h3 e).1;rw[a1]at this;cases this
  ·simpa using e
 have p:=Xd h.2.1;have hin:=Xc (W:=W) (T:=U) h.1 (by rw[Xv,p.1,p.2.1];exact hi);rw[p.1,p.2.1]at hin;exact ⟨a1,a2,a3,hi,by rw[← a3];exact hin.1,by rw[← a3];exact hin.2.1,h9 a1 a2⟩
theorem xM {B:WZ} {was:Int→Int} {W W':WZ} {Ts:List TZ} {k:Nat} {T T':TZ} (z:Int) (h:Vr B was W Ts) (hk:Ts[k]?=some T) (ok:okW W'=true) (par:X5 W'=X5 W)
  (hst:∀ i:Int,0≤i→i<B.a*B.b→i≠z→sAt W' i=sAt W i)
  (hcell:∀ i:Int,0≤i→i<B.a*B.b→i=z→Zb7 B.f (stW W' i))
  (hcnt:∀ i:Int,0≤i→i<B.a*B.b→(if Yb (stW W' i).k=true then 1 else 0)+(if ZI T i=true then 1 else 0)=(if Yb (stW W i).k=true then 1 else 0)+(if ZI T' i=true then 1 else 0))
  (hsum:∀ i:Int,0≤i→i<B.a*B.b→(stW W' i).l+Ua i W'.lg - zH T' i=(stW W i).l+Ua i W.lg - zH T i)
  (hU:∀ (j:Nat) (U:TZ),j≠k→Ts[j]?=some U→ZI U z=false) (hlog:LogJ (B.a*B.b) W'.lg) (hT:Zcl B W' T'):Vr B was W' (Ts.set k T'):=by
 have h':=h
 obtain ⟨s1,s2,s3,s4,s10⟩:=h
 refine ⟨ok,par.trans s2,fun i i0 i1=>?_,hlog,fun U hUm=>?_⟩
 ·obtain ⟨c1,c2,c3⟩:=s3 i i0 i1
  have hc:=Zaw i Ts k T T' hk;have ho:=ZaJ i Ts k T T' hk;have hn:=hcnt i i0 i1;have hs:=hsum i i0 i1;refine ⟨?_,by omega,by omega⟩;by_cases e:i=z
  ·exact hcell i i0 i1 e
  ·have e2:stW W' i=stW W i:=by unfold stW;rw[hst i i0 i1 e]
   rw[e2];exact c1
 ·rcases ZbF hUm with rfl|⟨j,hj,hm⟩
  ·exact hT
  ·have hmem:=List.mem_of_getElem? hm
   refine vc (s10 U hmem) fun a=>?_;have r:=U1 h' hmem a;refine hst U.x r.2.2.2.2.1 r.2.2.2.2.2.1 fun e=>?_;have:=hU j U hj hm;rw[← e,a]at this;cases this
theorem UD {W:WZ} {x old:Int} {s:StZ} {i:Int} (i0:0≤i) (x0:0≤x) (h:i≠x):sAt (Zs W x old s).2 i=sAt W i:=by
 unfold sAt;exact yx (by omega)
theorem zu {W:WZ} (h:okW W=true) {x:Int} (h0:0≤x) (h1:x<W.a*W.b):2*x+1<W.ws.length:=by
 obtain ⟨hcf,hw,hwl,_⟩:=Zk h;have hc:=ZE hcf;have hall:=ZB hcf;have hwd:=Yt (f:=W.f) (g:=W.g) (show 0≤W.a*W.b by omega) hall.2 (by omega) (by omega);omega
theorem zx {B W:WZ} {x old:Int} {s:StZ} (hW:okW W=true) (hp:X5 W=X5 B) (x0:0≤x) (x1:x<B.a*B.b) (h:(Zs W x old s).1=true):sAt W x=old∧stW (Zs W x old s).2 x=s∧(∀ i:Int,0≤i→i≠x→stW (Zs W x old s).2 i=stW W i):=by
 have p:=Xd hp;have:=vN x0 (zu hW x0 (by rw[p.1,p.2.1];exact x1)) h;exact ⟨this.1,this.2.1,this.2.2.1⟩
theorem TH {B:WZ} {was:Int→Int} {W:WZ} {Ts:List TZ} {i:Int} (h:Vr B was W Ts) (i0:0≤i) (i1:i<B.a*B.b) (hl:Yb (stW W i).k=false) {T:TZ} (hT:T∈Ts):ZI T i=false:=by
 have c:=(h.2.2.1 i i0 i1).2.1;rw[hl,if_neg (by simp)]at c;exact Zez c hT
theorem zI {B:WZ} {was:Int→Int} {W:WZ} {Ts:List TZ} {i:Int} (h:Vr B was W Ts) (i0:0≤i) (i1:i<B.a*B.b) {T:TZ} (hT:T∈Ts) (a:ZI T i=true):Yb (stW W i).k=true:=by
 by_cases e:Yb (stW W i).k=true
 ·exact e
 ·have:=TH h i0 i1 (by simpa using e) hT
  rw[a]at this;cases this
theorem Ze3 {B:WZ} {was:Int→Int} {W:WZ} {Ts:List TZ} {i:Int} (h:Vr B was W Ts) (i0:0≤i) (i1:i<B.a*B.b) {k j:Nat} {T U:TZ} (hk:Ts[k]?=some T) (a:ZI T i=true) (hj:j≠k) (hU:Ts[j]?=some U):ZI U i=false:=by
 by_cases e:ZI U i=true
 ·have h2:=ZeZ hk hU hj a e
  have c:=(h.2.2.1 i i0 i1).2.1;split at c<;>omega
 ·simpa using e
theorem xV {k:Int} (h:Yb k=true):k=3∨k=4:=by
 simp only[Yb,Bool.or_eq_true,decide_eq_true_eq]at h;exact h
theorem Zit {k:Int} (h:Yb k=false):k≠3∧k≠4:=by
 simp only[Yb,Bool.or_eq_false_iff,decide_eq_false_iff_not]at h;exact h
theorem Ul {k:Int} (h:ZA k=true):k=1∨k=2:=by
 simp only[ZA,Bool.or_eq_true,decide_eq_true_eq]at h;exact h
end Go.W
