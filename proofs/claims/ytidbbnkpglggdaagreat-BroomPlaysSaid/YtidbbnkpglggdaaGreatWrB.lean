/- Code by computation; a function's specification by its arguments; the walk's rules for both. Rows of data. Walks on annotated code for the older kinds of specifications. An array, or a struct, that a cell owns comes to stand by itself, named by that cell. A call whose first argument points into a st -/
import Derived.Test.YtidbbnkpglggdaaGreatWkC
namespace Go.W
set_option linter.unusedSimpArgs false
set_option linter.unusedVariables false
inductive AC where
 | skip
 | reg (ops:List MO) (m n:Nat)
 | draw (ops:List MO) (pr:List (List Nat)) (m n:Nat)
 | seq (a b:AC)
 | cond (c:X) (a b:AC)
 | block (id:Nat) (a:AC)
 | loop (a:AC)
 | exit (id:Nat)
 | ret
def AC.un:AC→MCode
 | .skip=>.skip
 | .reg o _ _=>.reg o
 | .draw o p _ _=>.draw o p
 | .seq a b=>.seq a.un b.un
 | .cond c a b=>.cond c a.un b.un
 | .block i a=>.block i a.un
 | .loop a=>.loop a.un
 | .exit i=>.exit i
 | .ret=>.ret
def cloQ:List (List Nat)→List (List Nat)→List (List Nat)
 | acc,[]=>acc
 | acc,p :: r=>cloQ (acc++[(p++p.flatMap (fun j=>acc.getD j [])).eraseDups]) r
def AC.ok (N:Nat):AC→Bool
 | .reg o _ n=>Zcs N o&&Nat.beq n o.length
 | .draw o p _ n=>T8 N o p (cloQ [] p)&&Nat.beq n o.length
 | .seq a b=>a.ok N&&b.ok N
 | .cond _ a b=>a.ok N&&b.ok N
 | .block _ a=>a.ok N
 | .loop a=>a.ok N
 | _=>true
def xU:List Nat→Nat→Nat
 | [],m=>m
 | k :: r,m=>xU r (m ||| (1 <<< k))
def clrD:Option Nat→Nat→Nat
 | some d,m=>m ^^^ (m &&& (1 <<< d))
 | none,m=>m
def UX:List MO→Nat→Nat
 | [],m=>m
 | o :: r,m=>xU o.looks (clrD o.dst (UX r m))
def ZiI:List (Nat×Nat)→Nat→Nat
 | [],_=>0
 | (k,m) :: r,i=>if k=i then m else ZiI r i
def xu:MCode→List (Nat×Nat)→Nat→Nat→Nat
 | .skip,_,_,K=>K
 | .reg o,_,_,K=>UX o K
 | .draw o _,_,_,K=>UX o K
 | .seq a b,xs,R,K=>xu a xs R (xu b xs R K)
 | .cond c a b,xs,R,K=>xU c.looks (xu a xs R K ||| xu b xs R K)
 | .block i a,xs,R,K=>xu a ((i,K) :: xs) R K
 | .loop a,xs,R,_=>xu a xs R (xu a xs R 0)
 | .exit i,xs,_,_=>ZiI xs i
 | .ret,_,R,_=>R
def ann:MCode→List (Nat×Nat)→Nat→Nat→AC×Nat
 | .skip,_,_,K=>(.skip,K)
 | .reg o,_,_,K=>(.reg o K o.length,UX o K)
 | .draw o p,_,_,K=>(.draw o p K o.length,UX o K)
 | .seq a b,xs,R,K=>match ann b xs R K with
  | (b',k)=>match ann a xs R k with
   | (a',k')=>(.seq a' b',k')
 | .cond c a b,xs,R,K=>match ann a xs R K,ann b xs R K with
  | (a',k),(b',k')=>(.cond c a' b',xU c.looks (k ||| k'))
 | .block i a,xs,R,K=>match ann a ((i,K) :: xs) R K with
  | (a',k)=>(.block i a',k)
 | .loop a,xs,R,_=>match ann a xs R (xu a xs R (xu a xs R 0)) with
  | (a',k)=>(.loop a',k)
 | .exit i,xs,_,_=>(.exit i,ZiI xs i)
 | .ret,_,R,_=>(.ret,R)
theorem z9:∀ (c:MCode) (xs:List (Nat×Nat)) (R K:Nat),(ann c xs R K).1.un=c
 | .skip,_,_,_=>rfl
 | .reg o,_,_,_=>rfl
 | .draw o p,_,_,_=>rfl
 | .seq a b,xs,R,K=>by
  have h1:=z9 b xs R K;have h2:=z9 a xs R (ann b xs R K).2;simp only[ann,AC.un];rw[h1,h2]
 | .cond c a b,xs,R,K=>by simp only[ann,AC.un];rw[z9 a,z9 b]
 | .block i a,xs,R,K=>by simp only[ann,AC.un];rw[z9 a]
 | .loop a,xs,R,K=>by simp only[ann,AC.un];rw[z9 a]
 | .exit i,_,_,_=>rfl
 | .ret,_,_,_=>rfl
def rvL:List RV→List Nat
 | []=>[]
 | .t n :: r=>n :: rvL r
 | .c _ _ a :: r=>a :: rvL r
def Ziq (P:Program) (fn:Func):Option (AC×List RV) :=
 match ZeJ P fn,Zaj P fn.results.toList with
 | some mc,some res=>some ((ann mc [] (xU (rvL res) 0) (xU (rvL res) 0)).1,res)
 | _,_=>none
theorem xl {P:Program} {fn:Func} {ac:AC} {res:List RV} (h:Ziq P fn=some (ac,res)):ZeJ P fn=some ac.un∧Zaj P fn.results.toList=some res:=by
 unfold Ziq at h;split at h
 ·rename_i mc r h1 h2
  injection h with h;injection h with h3 h4;subst h3 h4;rw[z9];exact ⟨h1,h2⟩
 ·cases h
def Xi:Nat→TL→TL
 | _,[]=>[]
 | m,(k,v) :: r=>if (m >>> k) % 2=1 then (k,v) :: Xi (m ^^^ (1 <<< k)) r else Xi m r
theorem xQ:∀ (tl:TL) (m j:Nat),lk (Xi m tl) j≠.bot→(m >>> j) % 2=1∧lk (Xi m tl) j=lk tl j
 | [],m,j,h=>absurd rfl h
 | (k,v) :: r,m,j,h=>by
  simp only[Xi]at h⊢;split at h
  ·rename_i hk
   rw[if_pos hk];simp only[lk]at h⊢;split at h
   ·rename_i e;subst e;rw[if_pos rfl,if_pos rfl];exact ⟨hk,rfl⟩
   ·rename_i e
    rw[if_neg e,if_neg e];obtain ⟨h1,h2⟩:=xQ r _ j h;refine ⟨?_,h2⟩;rw[Nat.shiftRight_xor_distrib]at h1;have:(1 <<< k) >>> j % 2=0:=by
     rw[Nat.one_shiftLeft,Nat.shiftRight_eq_div_pow];rcases Nat.lt_trichotomy j k with h|h|h
     ·rw[Nat.pow_div (by omega) (by omega),show k - j=(k - j - 1)+1 from by omega,Nat.pow_succ]
      omega
     ·exact absurd h e
     ·rw[Nat.div_eq_of_lt (Nat.pow_lt_pow_right (by omega) h)]
    have hx:((m >>> j) ^^^ ((1 <<< k) >>> j)) % 2=((m >>> j) % 2 ^^^ ((1 <<< k) >>> j) % 2):=Nat.xor_mod_two_pow (n:=1);rw[hx,this,Nat.xor_zero]at h1;exact h1
  ·rename_i hk
   rw[if_neg hk];obtain ⟨h1,h2⟩:=xQ r m j h;have e:j≠k:=fun e=>hk (by rw[← e];exact h1);simp only[lk];rw[if_neg e];exact ⟨h1,h2⟩
section
variable {P:Program} {E:FuncId→Option Spec} {w0:World} {S:Sc} {N:Nat} {D:List Deferred} {s:St} {Q:Exit→St→Prop}
theorem SatS.shrink {a:Act} {w:World} (h:SatS w0 S N D s a w) (m:Nat):SatS w0 S N D ⟨Xi m s.tl,TG [] s.hl,s.nb⟩ a w:=by
 obtain ⟨⟨Es,h1⟩,h2,h3⟩:=h;have e:hk (TG [] s.hl)=hk s.hl:=funext fun x=>xw _ _ _ (by simp);refine ⟨⟨Es,h1.ne,h1.cl,?_,?_,fun ρ hρ t ht=>?_,?_⟩,h2,h3⟩
 ·rw[e];exact h1.fr
 ·rw[e];exact h1.pin
 ·have e:=(xQ s.tl m t ht).2
  rw[e]at ht⊢;exact h1.tm ρ hρ t ht
 ·rw[e];exact h1.hp
theorem vz {c:MCode} (m:Nat) (h:Wm P w0 S N D c s fun e s' => Q e ⟨Xi m s'.tl,TG [] s'.hl,s'.nb⟩):Wm P w0 S N D c s Q:=fun code hc a w hs =>
 wp_mono (h code hc a w hs) fun _ a w ⟨s',hs',hq⟩ => ⟨_,hs'.shrink m,hq⟩
variable (P w0 S N D) in
def WmA (c:AC) (s:St) (Q:Exit→St→Prop):Prop:=c.ok N=true→Wm P w0 S N D c.un s Q
variable (P w0 S N D) in
def ZbV (b:AC) (Q:Exit→St→Prop):Exit→St→Prop
 | .normal,s=>WmA P w0 S N D b s Q
 | e,s=>Q e s
theorem YZ {c:AC} {s':St} (h:Imp S.m s s') (hw:WmA P w0 S N D c s' Q):WmA P w0 S N D c s Q:=fun hok=>Zju h (hw hok)
theorem ZgE {c:AC} {Q':Exit→St→Prop} (h:WmA P w0 S N D c s Q) (hq:∀ e s,Q e s→Q' e s):WmA P w0 S N D c s Q':=fun hok=>xX (h hok) hq
theorem Zfz (h:Q .normal s):WmA P w0 S N D .skip s Q:=fun _=>Zeq h
theorem ZhE (h:Q .ret s):WmA P w0 S N D .ret s Q:=fun _=>Zg2 h
theorem Zgf {id:Nat} (h:Q (.exit id) s):WmA P w0 S N D (.exit id) s Q:=fun _=>ZdX h
theorem ZhG {x y:AC} (h:WmA P w0 S N D x s (ZbV P w0 S N D y Q)):WmA P w0 S N D (.seq x y) s Q:=fun hok=>by
 simp only[AC.ok,Bool.and_eq_true]at hok;refine Zhe (xX (h hok.1) fun e s hq=>?_);cases e with
 | normal=>exact hq hok.2
 | _=>exact hq
theorem vF {id:Nat} {x:AC} (h:WmA P w0 S N D x s (Yp id Q)):WmA P w0 S N D (.block id x) s Q:=fun hok=>Zbb (h hok)
theorem Zf4 {c:X} {x y:AC} {b:Bool} (hb:c.ev (lk s.tl)=.bool b) (ht:b=true→WmA P w0 S N D x s Q) (hf:b=false→WmA P w0 S N D y s Q):WmA P w0 S N D (.cond c x y) s Q:=fun hok=>by
 simp only[AC.ok,Bool.and_eq_true]at hok;exact Zij hb (fun e=>ht e hok.1) (fun e=>hf e hok.2)
theorem Zf8 {c:AC} {α:Type} (I:α→St) (R:α→Prop) (μ:α→Nat) (x0:α) (h0:R x0) (hle:Imp S.m s (I x0)) (hr:∀ x,R x→WmA P w0 S N D c (I x) (vK S.m I R μ x Q)):WmA P w0 S N D (.loop c) s Q:=fun hok =>
 ZiM I R μ x0 h0 hle fun x hx=>hr x hx hok
variable (P w0 S N D) in
def ZcK (c:AC) (Q:Exit→St→Prop) (n:Nat) (s:St):Prop:=c.ok N=true→Tb P w0 S N D c.un Q n s
variable (P w0 S N D) in
def unA (c:AC) (Q:Exit→St→Prop) (n:Nat):Exit→St→Prop
 | .normal,s=>ZcK P w0 S N D c Q n s
 | e,s=>Q e s
theorem Zco {c:AC} {n:Nat} (h:WmA P w0 S N D c s (unA P w0 S N D c Q n)):ZcK P w0 S N D c Q (n+1) s:=fun hok =>
 zN (xX (h hok) fun e s hq=>by
  cases e with
  | normal=>exact hq hok
  | _=>exact hq)
theorem Yk (n:Nat) {c:AC} (h:ZcK P w0 S N D c Q n s):WmA P w0 S N D (.loop c) s Q:=fun hok=>Zd1 n (h hok)
instance {x y:AC}:ZR (WmA P w0 S N D (.seq x y) s Q) (WmA P w0 S N D x s (ZbV P w0 S N D y Q)):=⟨ZhG⟩
instance:ZR (WmA P w0 S N D .skip s Q) (Q .normal s):=⟨Zfz⟩
instance:ZR (WmA P w0 S N D .ret s Q) (Q .ret s):=⟨ZhE⟩
instance {id:Nat} {x:AC}:ZR (WmA P w0 S N D (.block id x) s Q) (WmA P w0 S N D x s (Yp id Q)):=⟨vF⟩
instance {id:Nat}:ZR (WmA P w0 S N D (.exit id) s Q) (Q (.exit id) s):=⟨Zgf⟩
instance {b:AC}:ZR (ZbV P w0 S N D b Q .normal s) (WmA P w0 S N D b s Q):=⟨fun h=>h⟩
instance {b:AC}:ZR (ZbV P w0 S N D b Q .ret s) (Q .ret s):=⟨fun h=>h⟩
instance {b:AC} {id:Nat}:ZR (ZbV P w0 S N D b Q (.exit id) s) (Q (.exit id) s):=⟨fun h=>h⟩
instance {c:AC} {n:Nat}:ZR (unA P w0 S N D c Q n .ret s) (Q .ret s):=⟨fun h=>h⟩
instance {c:AC} {n id:Nat}:ZR (unA P w0 S N D c Q n (.exit id) s) (Q (.exit id) s):=⟨fun h=>h⟩
instance {c:AC} {n:Nat}:ZR (unA P w0 S N D c Q n .normal s) (ZcK P w0 S N D c Q n s):=⟨fun h=>h⟩
instance {c:AC} {n:Nat}:ZR (ZcK P w0 S N D c Q (n+1) s) (WmA P w0 S N D c s (unA P w0 S N D c Q n)):=⟨Zco⟩
abbrev kL:=@Zf8
theorem regC (hE:Zd P E) {mos:List MO} (hfit:Zcs N mos=true) (h:ecC E s.nb (fun tl hl=>Q .normal ⟨tl,hl,s.nb+8*mos.length⟩) mos 0 s.tl s.hl):Wm P w0 S N D (.reg mos) s Q:=fun code hc a w hs=>by
 cases code<;>simp only[rC,reduceCtorEq,Option.some.injEq]at hc
 case region id ops d =>
  split at hc
  ·rename_i l hl
   split at hc
   ·cases hc
   ·rename_i hd
    injection hc with hc;injection hc with hc;subst hc;have hd':d=false:=(by simpa using hd);subst hd';obtain ⟨g1,g2⟩:=TJ hl;obtain ⟨⟨Es,hsat⟩,hN,hD⟩:=hs;have hsz:ops.size=l.length:=(by rw[← Array.length_toList,g1]);refine wp_region ?_;have:=seqC (P:=P) (E:=E) (w0:=w0) (S:=S) (N:=N) (D:=D) (ops:=ops) (nb:=s.nb) (m:=0) (Q:=fun e a' w' => ∃ s',SatS w0 S N D s' a' w'∧Q e s') hE l 0 Es _ s.tl s.hl a w
     (fun tl hl Es U a w k1 k2 k3 k4 k5=>⟨_,ZcF (n:=l.length) k2 (fun x hx=>k3 x (by simpa using hx)) k4 k5,k1⟩) h (fun k mo hk=>by
      obtain ⟨o,o1,o2⟩:=g2 k _ hk;refine ⟨o,by rw[Nat.zero_add,← Array.getElem?_toList];exact o1,o2,fun d hd=>?_⟩;have:=List.all_eq_true.1 hfit _ (List.mem_of_getElem? hk);rw[hd]at this;simpa using this) hsat (fun x hx=>by simpa using hx) hD hN
    rw[List.range_eq_range',hsz];simpa using this
  ·cases hc
 all_goals ((repeat' (split at hc))<;>first|(cases hc;done)|(simp only[Option.map_eq_some_iff,reduceCtorEq,and_false,exists_false]at hc;done))
theorem kR (hE:Zd P E) {mos:List MO} {m n nb:Nat} {tl:TL} {hl:HL} (h:∀ K:TL→HL→Prop,(∀ tl hl,Q .normal ⟨tl,hl,nb+8*n⟩→K tl hl)→ecC E nb (fun tl hl=>K (Xi m tl) (TG [] hl)) mos 0 tl hl):WmA P w0 S N D (.reg mos m n) ⟨tl,hl,nb⟩ Q:=fun hok=>by
 simp only[AC.ok,Bool.and_eq_true,Nat.beq_eq]at hok;obtain ⟨hok,rfl⟩:=hok;exact vz m (regC hE hok (h (fun tl hl=>Q .normal ⟨tl,hl,nb+8*mos.length⟩) fun _ _ h=>h))
def Zb (pr:List (List Nat)) (lg:LG):Bool:=Zhu (Zai (cloQ [] pr)) lg
theorem kD (hE:Zd P E) (Zq:P.follows .mixedOrders=true) {mos:List MO} {pr:List (List Nat)} {m n nb:Nat} {tl:TL} {hl:HL} (h:∀ K:TL→HL→Prop,(∀ tl hl,Q .normal ⟨tl,hl,nb+8*n⟩→K tl hl)→Vp (Yq E nb mos 0 tl hl []) fun x=>Zb pr x.2.2=true∧K (Xi m x.1) (TG [] x.2.1)):WmA P w0 S N D (.draw mos pr m n) ⟨tl,hl,nb⟩ Q:=fun hok=>by
 simp only[AC.ok,Bool.and_eq_true,Nat.beq_eq]at hok;obtain ⟨hok,rfl⟩:=hok;exact vz m (ZeR hE Zq (cloQ [] pr) hok (h (fun tl hl=>Q .normal ⟨tl,hl,nb+8*mos.length⟩) fun _ _ h=>h))
structure Fn (α:Type) where
 ms:YM
 pre:α→Prop
 args:α→List AV
 ans:α→Ans
noncomputable def Fn.d {α:Type} (F:Fn α) (xs:List AV):Option Ans :=
 open Classical in if h:∃ x,F.pre x∧F.args x=xs then some (F.ans h.choose) else none
structure Fn.Ok {α:Type} (F:Fn α):Prop where
 inj:∀ x y,F.pre x→F.pre y→F.args x=F.args y→F.ans x=F.ans y
 ends:∀ x,F.pre x→Ends (oA F.ms (F.args x)) (uR F.ms (F.args x) (F.ans x)) (nR F.ms (F.args x) (F.ans x))∧X9 (Zjk (oA F.ms (F.args x)) (nR F.ms (F.args x) (F.ans x)).length) (lR F.ms (F.args x) (F.ans x))=true
theorem Fn.d_some {α:Type} {F:Fn α} {xs:List AV} {a:Ans} (h:F.d xs=some a):∃ x,F.pre x∧F.args x=xs∧a=F.ans x:=by
 unfold Fn.d at h;split at h
 ·rename_i h1
  injection h with h;exact ⟨h1.choose,h1.choose_spec.1,h1.choose_spec.2,h.symm⟩
 ·cases h
theorem Fn.eq {α:Type} {F:Fn α} (hF:F.Ok) (x:α) (h:F.pre x):F.d (F.args x)=some (F.ans x):=by
 unfold Fn.d;have h1:∃ y,F.pre y∧F.args y=F.args x:=⟨x,h,rfl⟩;rw[dif_pos h1];exact congrArg some (hF.inj _ _ h1.choose_spec.1 h h1.choose_spec.2)
theorem Fn.Ok.eq' {α:Type} {F:Fn α} (hF:F.Ok) (x:α) (h:F.pre x):F.d (F.args x)=some (F.ans x):=Fn.eq hF x h
theorem Fn.nok {α:Type} {F:Fn α} (hF:F.Ok):NOk F.ms F.d:=fun xs a h=>by
 obtain ⟨x,h1,rfl,rfl⟩:=Fn.d_some h;exact hF.ends x h1
noncomputable def Fn.spec {α:Type} (F:Fn α) (hF:F.Ok):Spec:=Zm F.ms F.d (Fn.nok hF)
theorem Fn.spec_fn {α:Type} (F:Fn α) (hF:F.Ok) (args:List AV) (G:NH) (nb:Nat):(F.spec hF).fn args G nb=yw F.ms F.d args G nb:=rfl
theorem Fn.sound {α:Type} {F:Fn α} (hF:F.Ok) {f:FuncId} {fn:Func} {ac:AC} {res:List RV} (hf:P.funcs[f]?=some fn) (hn:(fn.name == "runtime.NumGoroutine")=false) (ha:Ziq P fn=some (ac,res)) (hk:ac.ok fn.ntmps=true) (hl:∀ x,F.pre x→Nat.ble (aA F.ms (F.args x)).length fn.ntmps=true)
  (hw:∀ x,F.pre x→∀ (w0:World) (S:Sc),S.m=(oA F.ms (F.args x)).length→WmA P w0 S fn.ntmps [] ac ⟨Zcp 0 (aA F.ms (F.args x)),ZS 0 (oA F.ms (F.args x)),(oA F.ms (F.args x)).length⟩
   (Zgy res fun v s=>Imp (oA F.ms (F.args x)).length ⟨[(0,v)],s.hl,s.nb⟩ ⟨[(0,lR F.ms (F.args x) (F.ans x))],ZS 0 (uR F.ms (F.args x) (F.ans x)++nR F.ms (F.args x) (F.ans x)),(oA F.ms (F.args x)).length+(nR F.ms (F.args x) (F.ans x)).length⟩)):Sound P f (F.spec hF):=by
 obtain ⟨h1,h2⟩:=xl ha
 refine yC hf hn h1 h2 (Fn.nok hF) (fun xs a h=>?_) fun xs a h w0 S hS=>?_
 ·obtain ⟨x,g1,rfl,rfl⟩:=Fn.d_some h
  exact Nat.le_of_ble_eq_true (hl x g1)
 ·obtain ⟨x,g1,rfl,rfl⟩:=Fn.d_some h
  exact hw x g1 w0 S hS hk
end
attribute [simp] Xi Fn.spec_fn
def AV.fl:AV→Bool
 | .int _ _ | .bool _ | .str _=>true
 | _=>false
class Dat {α:Type} (g:α→List AV):Prop where
 dat:∀ x,(g x).all AV.fl=true
 inj:∀ x y,g x=g y→x=y
def rows {α:Type} (g:α→List AV) (l:List α):List (List AV):=l.map g
section
variable {α:Type} {g:α→List AV}
theorem zF {c:List AV} (h:c.all AV.fl=true) (n:Nat):t0L c=c∧clL c=true∧tlL n c=true∧Zbs c=true:=by
 induction c with
 | nil=>exact ⟨rfl,rfl,rfl,rfl⟩
 | cons a c ih =>
  simp only[List.all_cons,Bool.and_eq_true]at h ih;obtain ⟨h1,h2,h3,h4⟩:=ih h.2;have:AV.t0 a=a∧AV.cl a=true∧AV.tl n a=true∧AV.dat a=true:=by cases a<;>simp_all [AV.fl,AV.dat,AV.t0,AV.cl,AV.tl]
  exact ⟨by rw[t0L,this.1,h1],by rw[clL,this.2.1,h2];rfl,by rw[tlL,this.2.2.1,h3];rfl,by unfold Zbs at h4⊢;rw[List.all_cons,this.2.2.2,h4];rfl⟩
@[simp] theorem ZiY (l:List α):(rows g l).length=l.length:=List.length_map ..
@[simp] theorem rows_nil:rows g []=[]:=rfl
@[simp] theorem rows_dat [Dat g] (l:List α):XY (rows g l)=true:=List.all_eq_true.2 fun c hc=>by obtain ⟨o,_,rfl⟩:=List.mem_map.1 hc;exact (zF (Dat.dat o) 0).2.2.2
@[simp] theorem Zim [Dat g]:∀ l:List α,Yo (rows g l)=rows g l
 | []=>rfl
 | x :: l=>by show t0L (g x) :: Yo (rows g l)=_;rw[(zF (Dat.dat x) 0).1,Zim l];rfl
@[simp] theorem Zi9 [Dat g]:∀ l:List α,Xr (rows g l)=true
 | []=>rfl
 | x :: l=>by show (clL (g x)&&Xr (rows g l))=_;rw[(zF (Dat.dat x) 0).2.1,Zi9 l];rfl
@[simp] theorem Zjd [Dat g] (n:Nat):∀ l:List α,UR n (rows g l)=true
 | []=>rfl
 | x :: l=>by show (tlL n (g x)&&UR n (rows g l))=_;rw[(zF (Dat.dat x) n).2.2.1,Zjd n l];rfl
@[simp] theorem ZkC (n:Nat) (l:List α):(rows g l).take n=rows g (l.take n):=by unfold rows;rw[List.map_take]
@[simp] theorem ZjC (n:Nat) (l:List α):(rows g l).drop n=rows g (l.drop n):=by unfold rows;rw[List.map_drop]
theorem ZbB [Dat g]:∀ {l l':List α},rows g l=rows g l'→l=l'
 | [],[],_=>rfl
 | [],_ :: _,h=>by cases h
 | _ :: _,[],h=>by cases h
 | x :: l,y :: l',h=>by
  simp only[rows,List.map_cons,List.cons.injEq]at h;rw[Dat.inj _ _ h.1,ZbB (l:=l) (l':=l') h.2]
@[simp] theorem rows_eq [Dat g] (l l':List α):rows g l=rows g l'↔l=l':=⟨ZbB,fun h=>by rw[h]⟩
end
def Uy:NObj→NObj→List (Nat×Option Nat)
 | .cells _ c,.cells _ c' => V9 c c'
 | _,_=>[]
def V8 (s s':St):List (Nat×Option Nat)→List (Nat×Option Nat)
 | []=>[]
 | (x,some y) :: r=>Uy (hk s.hl y) (hk s'.hl x)++V8 s s' r
 | (_,none) :: r=>V8 s s' r
def YH (m:Nat) (s s':St):List (Nat×Option Nat):=ddL (Vq m s s'++V8 s s' (Vq m s s'))
theorem xF:∀ {pl:List (Nat×Option Nat)} {x:Nat} {v:Option Nat},lkp pl x=some v→(x,v)∈pl
 | [],x,v,h=>by cases h
 | (k,u) :: r,x,v,h=>by
  simp only[lkp]at h;split at h
  ·rename_i e
   injection h with h;subst e h;exact List.mem_cons_self
  ·exact List.mem_cons_of_mem _ (xF h)
theorem xj:∀ {l:List (Nat×Option Nat)},(l.filterMap (·.2)).Nodup→∀ {x x' y:Nat},(x,some y)∈l→(x',some y)∈l→x=x'
 | [],_,x,x',y,h,_=>by cases h
 | (k,u) :: r,h,x,x',y,h1,h2=>by
  cases u with
  | none =>
   simp only[List.mem_cons,Prod.mk.injEq,reduceCtorEq,and_false,false_or]at h1 h2;exact xj (l:=r) (by simpa using h) h1 h2
  | some z =>
   have h0:=List.nodup_cons.1 (show (z :: r.filterMap (·.2)).Nodup by simpa using h);have mem:∀ {q:Nat},(q,some y)∈r→y∈r.filterMap (·.2):=fun {q} hq=>List.mem_filterMap.2 ⟨_,hq,rfl⟩;simp only[List.mem_cons,Prod.mk.injEq,Option.some.injEq]at h1 h2;rcases h1 with ⟨rfl,rfl⟩ | h1
   ·rcases h2 with ⟨rfl,_⟩ | h2
    ·rfl
    ·exact absurd (mem h2) h0.1
   ·rcases h2 with ⟨rfl,rfl⟩ | h2
    ·exact absurd (mem h1) h0.1
    ·exact xj h0.2 h1 h2
def plC (m:Nat) (pl:List (Nat×Option Nat)) (s':St):Bool:=anB m pl&&pl.all (fun p=>decide (p.1<s'.nb))&&decide (((pl.filter fun p=>!(hk s'.hl p.1).isFree).filterMap (·.2)).Nodup)
theorem LeN.mk2 {m:Nat} {pl:List (Nat×Option Nat)} {s s':St} (h:plC m pl s'=true) (ht:∀ p,p∈s'.tl→Ren (YP pl (hk s.hl) (hk s'.hl)) (lk s.tl p.1) p.2)
  (ho:∀ p,p∈s'.hl→p.2.tag<s'.nb∧(match lkp pl p.1 with
  | some (some y)=>NLe (YP pl (hk s.hl) (hk s'.hl)) (hk s.hl y) p.2
  | some none=>p.2.none
  | none=>p.2=.free)):LeN m pl s s':=by
 simp only[plC,Bool.and_eq_true]at h
 refine ⟨ZcM h.1.1,fun p hp=>of_decide_eq_true (List.all_eq_true.1 h.1.2 p hp),fun x x' y e1 e2 z1 z2=>?_,ht,ho⟩
 have nf:∀ {q:Nat},hk s'.hl q≠.free→(!(hk s'.hl q).isFree)=true:=fun {q} hq=>by
  cases hf:(hk s'.hl q).isFree with
  | true=>exact absurd (Xg.1 hf) hq
  | false=>rfl
 exact xj (of_decide_eq_true h.2) (List.mem_filter.2 ⟨xF e1,nf z1⟩) (List.mem_filter.2 ⟨xF e2,nf z2⟩)
theorem Imp.aua {m:Nat} {s s':St} (h:plC m (YH m s s') s'=true) (ht:∀ p,p∈s'.tl→Ren (YP (YH m s s') (hk s.hl) (hk s'.hl)) (lk s.tl p.1) p.2)
  (ho:∀ p,p∈s'.hl→p.2.tag<s'.nb∧(match lkp (YH m s s') p.1 with
  | some (some y)=>NLe (YP (YH m s s') (hk s.hl) (hk s'.hl)) (hk s.hl y) p.2
  | some none=>p.2.none
  | none=>p.2=.free)):Imp m s s':=Imp.le _ (LeN.mk2 h ht ho)
theorem kI {Q:Exit→St→Prop} {s:St} {id j:Nat} (h:Q (.exit j) s) (hne:j≠id:=by decide):Yp id Q (.exit j) s:=Za hne h
theorem kT {P:Program} {w0:World} {S:Sc} {N:Nat} {D:List Deferred} {s:St} {Q:Exit→St→Prop} {c:X} {x y:AC} {b:Bool} (ht:b=true→WmA P w0 S N D x s Q) (hf:b=false→WmA P w0 S N D y s Q) (hb:c.ev (lk s.tl)=.bool b:=by with_unfolding_all rfl):WmA P w0 S N D (.cond c x y) s Q:=Zf4 hb ht hf
theorem Imp.aut {m:Nat} {s s':St} (ht:∀ p,p∈s'.tl→Ren (YP (Vq m s s') (hk s.hl) (hk s'.hl)) (lk s.tl p.1) p.2)
  (ho:∀ p,p∈s'.hl→p.2.tag<s'.nb∧(match lkp (Vq m s s') p.1 with
  | some (some y)=>NLe (YP (Vq m s s') (hk s.hl) (hk s'.hl)) (hk s.hl y) p.2
  | some none=>p.2.none
  | none=>p.2=.free)) (h:plB m (Vq m s s') s'.nb=true:=by kernel_rfl):Imp m s s':=Imp.auto h ht ho
theorem Zo {P:Program} {f:FuncId} {fn:Func} {ac:AC} {res:List RV} (hf:P.funcs[f]?=some fn) (hn:(fn.name == "runtime.NumGoroutine")=false) (ha:Ziq P fn=some (ac,res)) (hk:ac.ok fn.ntmps=true) {d:List AV→List NObj→Option AV} (hok:ROk d)
  (hw:∀ xs os r,d xs os=some r→∀ (vs:List Value) (ρ0:Env),Z8 ρ0 xs vs→∃ ys:List AV,ys.length≤fn.ntmps∧(∀ ρ,Z8 ρ xs vs→Z8 ρ ys vs)∧∀ (w0:World) (S:Sc),S.m=os.length→WmA P w0 S fn.ntmps [] ac ⟨Zcp 0 ys,ZS 0 os,os.length⟩
   (Zgy res fun v s=>Imp os.length ⟨[(0,v)],s.hl,s.nb⟩ ⟨[(0,(yt os.length r).1)],ZS os.length (yt os.length r).2,os.length+(yt os.length r).2.length⟩)):Sound P f (rdS d hok):=by
 obtain ⟨h1,h2⟩:=xl ha
 refine ZfW hf hn h1 h2 hok fun xs os r h vs ρ0 hvs=>?_
 obtain ⟨ys,a,b,c⟩:=hw xs os r h vs ρ0 hvs
 exact ⟨ys,a,b,fun w0 S hS=>c w0 S hS hk⟩
theorem Zi {P:Program} {f:FuncId} {fn:Func} {ac:AC} {res:List RV} (hf:P.funcs[f]?=some fn) (hn:(fn.name == "runtime.NumGoroutine")=false) (ha:Ziq P fn=some (ac,res)) (hk:ac.ok fn.ntmps=true) {ms:YM} {d:List AV→Option Ans} (hok:NOk ms d)
  (hlen:∀ xs a,d xs=some a→(aA ms xs).length≤fn.ntmps)
  (hw:∀ xs a,d xs=some a→∀ (w0:World) (S:Sc),S.m=(oA ms xs).length→WmA P w0 S fn.ntmps [] ac ⟨Zcp 0 (aA ms xs),ZS 0 (oA ms xs),(oA ms xs).length⟩
   (Zgy res fun v s=>Imp (oA ms xs).length ⟨[(0,v)],s.hl,s.nb⟩ ⟨[(0,lR ms xs a)],ZS 0 (uR ms xs a++nR ms xs a),(oA ms xs).length+(nR ms xs a).length⟩)):Sound P f (Zm ms d hok):=by
 obtain ⟨h1,h2⟩:=xl ha
 exact yC hf hn h1 h2 hok hlen fun xs a h w0 S hS=>hw xs a h w0 S hS hk
section
variable {w0:World} {S:Sc} {N:Nat} {D:List Deferred} {s:St}
end
def Zdc (D:Nat):List AV→Option (List AV)
 | .ptr p i f :: as=>if i=0∧f=D then some (.ptr p 0 0 :: as) else none
 | _=>none
def Ziw (D:Nat):List AV→List AV
 | .ptr p i _ :: as=>.ptr p i D :: as
 | as=>as
theorem Zcc {D:Nat} {args as:List AV} (h:Zdc D args=some as):∃ p r,args=.ptr p 0 D :: r∧as=.ptr p 0 0 :: r:=by
 unfold Zdc at h;split at h
 ·split at h
  ·rename_i p i f r hh
   obtain ⟨rfl,rfl⟩:=hh;injection h with h;exact ⟨_,_,rfl,h.symm⟩
  ·cases h
 ·cases h
theorem ZcP {D:Nat} {ml:ML} {p:Nm} {r las:List AV} (h:YN ml las (.ptr p 0 0 :: r)):YN ml (Ziw D las) (.ptr p 0 D :: r):=by
 cases las with
 | nil=>simp only[YN]at h
 | cons a las =>
  simp only[YN]at h;obtain ⟨h1,h2⟩:=h;cases a with
  | ptr x i f =>
   simp only[XT]at h1;simp only[Ziw,YN,XT];refine ⟨?_,h2⟩;split at h1
   ·rename_i y k e
    exact ⟨h1.1,h1.2.1,trivial⟩
   ·exact h1.elim
  | bot=>simp only[Ziw,YN,XT];exact ⟨trivial,h2⟩
  | _=>simp only[XT]at h1
theorem Zgp (D:Nat) (l:List AV):(Ziw D l).length=l.length:=by
 unfold Ziw;split<;>rfl
def Zh3 (D:Nat) (ms:YM) (d:List AV→Option Ans) (args:List AV) (G:NH) (nb:Nat):Option Res :=
 match Zdc D args with
 | some as=>yw ms d as G nb
 | none=>none
theorem yq {D:Nat} {ms:YM} {d:List AV→Option Ans} {args:List AV} {G:NH} {nb:Nat} {r:Res} (h:Zh3 D ms d args G nb=some r):∃ as,Zdc D args=some as∧yw ms d as G nb=some r:=by
 unfold Zh3 at h;split at h
 ·rename_i as e;exact ⟨as,e,h⟩
 ·cases h
def Zhh (D:Nat) (ms:YM) (d:List AV→Option Ans) (hok:NOk ms d):Spec where
 fn:=Zh3 D ms d
 loc:=fun args G G' nb r h hG=>by
  obtain ⟨as,e,h⟩:=yq h;unfold Zh3;rw[e];exact (Zm ms d hok).loc as G G' nb r h hG
 nm:=fun args G nb r h x hx=>by
  obtain ⟨as,e,h⟩:=yq h;exact (Zm ms d hok).nm as G nb r h x hx
theorem ZiH (D:Nat) (ms:YM) (d:List AV→Option Ans) (hok:NOk ms d) (args:List AV) (G:NH) (nb:Nat):(Zhh D ms d hok).fn args G nb=Zh3 D ms d args G nb:=rfl
theorem Zie (D:Nat) (ms:YM) (d:List AV→Option Ans) (p:Nm) (as:List AV) (G:NH) (nb:Nat):Zh3 D ms d (.ptr p 0 D :: as) G nb=yw ms d (.ptr p 0 0 :: as) G nb:=by
 simp[Zh3,Zdc]
attribute [simp] ZiH Zie Ziw
theorem yn {P:Program} {f:FuncId} {fn:Func} {ac:AC} {res:List RV} (hf:P.funcs[f]?=some fn) (hn:(fn.name == "runtime.NumGoroutine")=false) (ha:Ziq P fn=some (ac,res)) (hk:ac.ok fn.ntmps=true) {D:Nat} {ms:YM} {d:List AV→Option Ans} (hok:NOk ms d)
  (hlen:∀ xs a,d xs=some a→(aA ms xs).length≤fn.ntmps)
  (hw:∀ xs a,d xs=some a→∀ (w0:World) (S:Sc),S.m=(oA ms xs).length→WmA P w0 S fn.ntmps [] ac ⟨Zcp 0 (Ziw D (aA ms xs)),ZS 0 (oA ms xs),(oA ms xs).length⟩
   (Zgy res fun v s=>Imp (oA ms xs).length ⟨[(0,v)],s.hl,s.nb⟩ ⟨[(0,lR ms xs a)],ZS 0 (uR ms xs a++nR ms xs a),(oA ms xs).length+(nR ms xs a).length⟩)):Sound P f (Zhh D ms d hok):=by
 obtain ⟨hrc,hres⟩:=xl ha
 obtain ⟨c,hb,hrc⟩:=Uw hrc
 refine ⟨⟨fn,hf,hn,by rw[hb];rfl⟩,fun w0 S Es U G w avs vs nb r h1 h2 h3 h4 h5 h6 h7 h8=>?_⟩
 obtain ⟨as,e,h7⟩:=yq h7
 obtain ⟨p,q,rfl,rfl⟩:=Zcc e
 obtain ⟨xs,ml,a,g1,g2,g3,g4,rfl⟩:=UB h7
 obtain ⟨hc,hargs⟩:=ym g1
 obtain ⟨e1,e2⟩:=hok xs a g4
 exact (yS hf hb hrc hres (by rw[Zgp];exact hlen xs a g4) e1 e2 (fun w0 S hS=>hw xs a g4 w0 S hS hk) h1 h3 h4 h5 h6 h8 (ZcP hargs) hc (zX g3 hc.1) (Tv g2))
end Go.W
