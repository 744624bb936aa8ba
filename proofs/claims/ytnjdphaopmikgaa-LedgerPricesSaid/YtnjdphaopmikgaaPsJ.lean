/- What an order comes to by events, as the document counts it, and as a model does. What may happen keeps both accounts alike. One more event: both accounts go on alike. Prices, and what was bought and paid. Rows by participants come to what all did in a name. -/
import Derived.Test.YtnjdphaopmikgaaPsI
import Derived.Test.YtnjdphaopmikgaaPsG
namespace Go.W
open Go.Proofs
set_option linter.unusedSimpArgs false
set_option linter.unusedVariables false
set_option maxHeartbeats 8000000
theorem zB {a b:TmZ} {l o:Int} (h:(Zb a b l o).1≠0):1≤(Zb a b l o).1∧(Zb a b l o).1≤l∧(Zb a b l o).1≤o:=by
  have key:(Zb a b l o).1=0∨(1≤(if o<l then o else l)∧(Zb a b l o).1=(if o<l then o else l)):=by
    unfold Zb;obtain ⟨m,e⟩:∃ x,(if o<l then o else l)=x:=⟨_,rfl⟩;rw[e]
    repeat' split
    all_goals first|exact .inl rfl|exact .inr ⟨by omega,rfl⟩
  rcases key with k|⟨k1,k2⟩
  · exact absurd k h
  · rw[k2]
    refine ⟨k1,?_,?_⟩
    · split<;>omega
    · split<;>omega
theorem zU {a b:TmZ} {l o:Int} (h:(Zb a b l o).1≠0):(a.sd=0∧b.sd=1)∨(a.sd=1∧b.sd=0):=by
  unfold Zb at h;by_cases c:a.sd=1
  · simp only[if_pos c]at h
    by_cases c1:b.sd≠0
    · rw[if_pos c1]at h;exact absurd rfl h
    · exact .inr ⟨c,by omega⟩
  · simp only[if_neg c]at h
    by_cases c1:a.sd≠0
    · rw[if_pos c1]at h;exact absurd rfl h
    rw[if_neg c1]at h
    by_cases c2:b.sd≠1
    · rw[if_pos c2]at h;exact absurd rfl h
    · exact .inl ⟨by omega,by omega⟩
structure EvZ where
  k:Int
  c:Int
  g:Int
  o:Int
  w:Int
  t:TmZ
  q:Int
  p:Int
  tk:Int
  e:Int
structure OrZ where
  c:Int
  g:Int
  t:TmZ
  q:Int
  l:Int
  f:Int
  a:Bool
  r:Bool
  e:Int
def o0:OrZ:=⟨0,0,⟨0,0,0,0,0⟩,0,0,0,false,false,0⟩
def byO (F:Int) (o:OrZ):Int:=if o.l=0 then 5 else if F≤o.f then 8 else 0
def U0 (e:EvZ):OrZ:=⟨e.c,e.g,e.t,e.q,e.q,0,false,false,0⟩
def Zt (o:OrZ) (q:Int):OrZ:={ o with l:=o.l - q,f:=o.f+1 }
def XT (o:OrZ) (e:EvZ):OrZ:=if e.k=3 then { o with e:=6 } else if e.k=4 then { o with a:=true } else if e.k=5 then { o with e:=7 } else if e.k=6 then { o with r:=true } else if e.k=7 then { o with e:=e.e } else o
def Zav (c g:Int) (e:EvZ):Bool:=decide (e.c=c∧e.g=g)
def ZaK (c g:Int) (e:EvZ):Bool:=decide (e.k=2∧e.o=c∧e.w=g)
def Zcn (c g:Int) (s:OrZ×Bool) (e:EvZ):OrZ×Bool:=if e.k=1∧Zav c g e=true then (⟨c,g,e.t,e.q,e.q,0,false,false,0⟩,true) else s
def ZaW (c g:Int) (s:OrZ×Bool) (e:EvZ):OrZ×Bool:=if e.k=2∧(Zav c g e=true∨ZaK c g e=true) then (Zt s.1 e.q,s.2) else s
def Zdq (F c g:Int) (s:OrZ×Bool) (e:EvZ):OrZ×Bool:=if ZaK c g e=true then ({ s.1 with e:=byO F s.1 },s.2) else s
def ofE (F c g:Int) (s:OrZ×Bool) (e:EvZ):OrZ×Bool :=
  if Zav c g e=false then Zdq F c g (ZaW c g (Zcn c g s e) e) e else (XT (Zdq F c g (ZaW c g (Zcn c g s e) e) e).1 e,(Zdq F c g (ZaW c g (Zcn c g s e) e) e).2)
def ofL (F c g:Int) (L:List EvZ):OrZ×Bool:=L.foldl (ofE F c g) (o0,false)
theorem XF (F c g:Int) (L:List EvZ) (e:EvZ):ofL F c g (L++[e])=ofE F c g (ofL F c g L) e:=by
  unfold ofL;rw[List.foldl_append];rfl
theorem Tu {c g:Int} {e:EvZ} (h:¬ (e.k=1∧Zav c g e=true)) (s:OrZ×Bool):Zcn c g s e=s:=by unfold Zcn;rw[if_neg h]
theorem yh {c g:Int} {e:EvZ} (h:¬ (e.k=2∧(Zav c g e=true∨ZaK c g e=true))) (s:OrZ×Bool):ZaW c g s e=s:=by unfold ZaW;rw[if_neg h]
theorem Tn {F c g:Int} {e:EvZ} (h:ZaK c g e=false) (s:OrZ×Bool):Zdq F c g s e=s:=by unfold Zdq;rw[if_neg (by rw[h];simp)]
theorem Zan {o:OrZ} {e:EvZ} (h:e.k=1∨e.k=2):XT o e=o:=by
  unfold XT;rw[if_neg (by omega),if_neg (by omega),if_neg (by omega),if_neg (by omega),if_neg (by omega)]
theorem ZM {F c g:Int} {e:EvZ} (h1:Zav c g e=false) (h2:ZaK c g e=false) (s:OrZ×Bool):ofE F c g s e=s:=by
  unfold ofE;rw[if_pos h1,Tu (by rw[h1];simp),yh (by rw[h1,h2];simp),Tn h2]
theorem vY {F c g:Int} {e:EvZ} (h1:Zav c g e=true) (h2:e.k=1) (s:OrZ×Bool):ofE F c g s e=(U0 e,true):=by
  have hcg:=of_decide_eq_true h1;have h3:ZaK c g e=false:=decide_eq_false (by omega);have a1:Zcn c g s e=(U0 e,true):=by
    unfold Zcn U0;rw[if_pos ⟨h2,h1⟩,hcg.1,hcg.2]
  unfold ofE;rw[if_neg (by rw[h1];simp),a1,yh (by omega),Tn h3,Zan (.inl h2)]
theorem vZ {F c g:Int} {e:EvZ} (h1:Zav c g e=true) (h2:e.k=2) (h3:ZaK c g e=false) (s:OrZ×Bool):ofE F c g s e=(Zt s.1 e.q,s.2):=by
  have a2:ZaW c g s e=(Zt s.1 e.q,s.2):=by unfold ZaW;rw[if_pos ⟨h2,.inl h1⟩]
  unfold ofE;rw[if_neg (by rw[h1];simp),Tu (by omega),a2,Tn h3,Zan (.inr h2)]
theorem zY {F c g:Int} {e:EvZ} (h1:Zav c g e=false) (h3:ZaK c g e=true) (s:OrZ×Bool):ofE F c g s e=({ Zt s.1 e.q with e:=byO F (Zt s.1 e.q) },s.2):=by
  have hk:=(of_decide_eq_true h3).1;have a2:ZaW c g s e=(Zt s.1 e.q,s.2):=by unfold ZaW;rw[if_pos ⟨hk,.inr h3⟩]
  unfold ofE;rw[if_pos h1,Tu (by omega),a2];unfold Zdq;rw[if_pos h3]
theorem VI {F c g:Int} {e:EvZ} (h1:Zav c g e=true) (h2:3≤e.k) (s:OrZ×Bool):ofE F c g s e=(XT s.1 e,s.2):=by
  have h3:ZaK c g e=false:=decide_eq_false (by omega);unfold ofE;rw[if_neg (by rw[h1];simp),Tu (by omega),yh (by omega),Tn h3]
def Zq (c:Int) (L:List EvZ):Int:=L.foldl (fun x e=>if e.k=1∧e.c=c then e.g else x) 0
theorem Ut (c:Int) (L:List EvZ) (e:EvZ):Zq c (L++[e])=if e.k=1∧e.c=c then e.g else Zq c L:=by
  unfold Zq;rw[List.foldl_append];rfl
def ZS (L:List EvZ):Int:=match L.getLast? with
  | none=>0
  | some e=>e.tk
def Yr (s:OrZ×Bool):Int:=if s.2=false then 3 else if s.1.e≠0 then 29 else 0
structure CfE where
  n:Int
  b:Int
  nm:Int
  F:Int
  G:Int
def yI (C:CfE):Prop:=1≤C.n∧C.n≤24∧1≤C.b∧C.b≤4∧1≤C.nm∧C.nm≤3∧1≤C.F∧C.F≤4∧1≤C.G∧C.G≤15
def ZE (C:CfE) (L:List EvZ) (e:EvZ):Int :=
  if e.tk<ZS L then 5 else if e.k<1∨7<e.k then 6
  else if e.k=1 then
    (if e.c<0∨C.n≤e.c then 21 else if 0<Zq e.c L∧(ofL C.F e.c (Zq e.c L) L).1.e=0 then 27 else if C.G≤Zq e.c L then 28 else if e.g≠Zq e.c L+1 then 20 else ZL C.nm e.t e.q 0)
  else if Yr (ofL C.F e.c e.g L)≠0 then Yr (ofL C.F e.c e.g L)
  else if e.k=2 then
    (if Yr (ofL C.F e.o e.w L)≠0 then Yr (ofL C.F e.o e.w L)
     else if (ofL C.F e.c e.g L).1.c / C.b=(ofL C.F e.o e.w L).1.c / C.b then 1
     else if byO C.F (ofL C.F e.c e.g L).1≠0∨byO C.F (ofL C.F e.o e.w L).1≠0∨(ofL C.F e.o e.w L).1.a=true then 29
     else if (Zb (ofL C.F e.c e.g L).1.t (ofL C.F e.o e.w L).1.t (ofL C.F e.c e.g L).1.l (ofL C.F e.o e.w L).1.l).1=0∨(Zb (ofL C.F e.c e.g L).1.t (ofL C.F e.o e.w L).1.t (ofL C.F e.c e.g L).1.l (ofL C.F e.o e.w L).1.l).1≠e.q∨(Zb (ofL C.F e.c e.g L).1.t (ofL C.F e.o e.w L).1.t (ofL C.F e.c e.g L).1.l (ofL C.F e.o e.w L).1.l).2≠e.p then 23 else 0)
  else if e.k=3 then (if byO C.F (ofL C.F e.c e.g L).1≠0∨(ofL C.F e.c e.g L).1.a=true then 29 else 0)
  else if e.k=4 then (if (ofL C.F e.c e.g L).1.a=true then 1 else 0)
  else if e.k=5 then (if e.tk<(ofL C.F e.c e.g L).1.t.un∨byO C.F (ofL C.F e.c e.g L).1≠0∨(ofL C.F e.c e.g L).1.a=true then 26 else 0)
  else if e.k=6 then (if (ofL C.F e.c e.g L).1.r=true then 1 else 0)
  else (if (if byO C.F (ofL C.F e.c e.g L).1=0∧(ofL C.F e.c e.g L).1.a=true then 6 else byO C.F (ofL C.F e.c e.g L).1)=0∨(if byO C.F (ofL C.F e.c e.g L).1=0∧(ofL C.F e.c e.g L).1.a=true then 6 else byO C.F (ofL C.F e.c e.g L).1)≠e.e then 1 else 0)
def isO (c g:Int) (o:OrZ):Bool:=decide (o.c=c)&&decide (o.g=g)
def ZC (c g:Int) (os:List OrZ):Option Nat:=os.findIdx? (isO c g)
def Yz (c:Int):List OrZ→Option OrZ
  | []=>none
  | o :: r=>match Yz c r with
    | some x=>some x
    | none=>if o.c=c then some o else none
def zu (c:Int) (os:List OrZ):Int:=match Yz c os with
  | some o=>o.g
  | none=>0
def doZ (F:Int) (os:List OrZ) (e:EvZ):List OrZ :=
  if e.k=1 then os++[U0 e]
  else match ZC e.c e.g os with
    | none=>os
    | some i=>match os[i]? with
      | none=>os
      | some x=>if e.k=2 then (match ZC e.o e.w os with
          | none=>os
          | some j=>match os[j]? with
            | none=>os
            | some y=>(os.set i (Zt x e.q)).set j { Zt y e.q with e:=byO F (Zt y e.q) })
        else os.set i (XT x e)
def Zd3 (C:CfE) (o:OrZ):Prop:=0≤o.c∧o.c<C.n∧1≤o.g∧o.g≤C.G∧0≤o.t.nm∧o.t.nm<C.nm∧(o.t.sd=0∨o.t.sd=1)∧1≤o.t.pr∧o.t.pr≤9999∧o.t.un≤1000000∧1≤o.q∧o.q≤9999∧0≤o.l∧o.l≤o.q∧0≤o.f∧o.f≤C.F
structure InvL (C:CfE) (L:List EvZ) (os:List OrZ):Prop where
  of:∀ o,o∈os→ofL C.F o.c o.g L=(o,true)
  no:∀ c g,(∀ o,o∈os→isO c g o=false)→(ofL C.F c g L).2=false
  one:∀ (i j:Nat) (x y:OrZ),os[i]?=some x→os[j]?=some y→x.c=y.c→x.g=y.g→i=j
  gen:∀ c,Zq c L=zu c os
  top:∀ o,o∈os→o.g≤zu o.c os
  ok:∀ o,o∈os→Zd3 C o
  tk:0≤ZS L
theorem Vn {c:Int}:∀ {os:List OrZ} {o:OrZ},Yz c os=some o→o∈os∧o.c=c
  | [],_,h=>by cases h
  | x :: r,o,h=>by
    simp only[Yz]at h;split at h
    · rename_i y hy
      injection h with h
      subst h
      have:=Vn hy
      exact ⟨List.mem_cons_of_mem _ this.1,this.2⟩
    · split at h
      · rename_i e
        injection h with h
        subst h
        exact ⟨List.mem_cons_self ..,e⟩
      · cases h
theorem T7 {c:Int} (x:OrZ):∀ os:List OrZ,Yz c (os++[x])=if x.c=c then some x else Yz c os
  | []=>by simp[Yz]
  | o :: r=>by
    rw[List.cons_append];simp only[Yz,T7 x r];by_cases e:x.c=c
    · simp[e]
    · simp[e]
theorem Zej {c g:Int} {o:OrZ} (h:isO c g o=true):o.c=c∧o.g=g:=by simpa [isO] using h
theorem zS {c g:Int} {os:List OrZ} {i:Nat} (h:ZC c g os=some i):∃ o,os[i]?=some o∧o.c=c∧o.g=g:=by
  unfold ZC at h;rw[List.findIdx?_eq_some_iff_getElem]at h;obtain ⟨h1,h2,_⟩:=h;exact ⟨os[i],List.getElem?_eq_getElem h1,Zej h2⟩
theorem vU {c g:Int} {os:List OrZ} (h:ZC c g os=none):∀ o,o∈os→isO c g o=false:=by
  unfold ZC at h;rw[List.findIdx?_eq_none_iff]at h;exact h
theorem vR {c q:Int} {t:TmZ} (h:ZL c t q 0=0):0≤t.nm∧t.nm<c∧(t.sd=0∨t.sd=1)∧1≤q∧q≤9999∧1≤t.pr∧t.pr≤9999∧t.un≤1000000:=by
 unfold ZL at h;by_cases c1:t.nm<0
 ·rw[if_pos c1]at h;omega
 rw[if_neg c1]at h;by_cases c2:c≤t.nm
 ·rw[if_pos c2]at h;omega
 rw[if_neg c2]at h;by_cases c3:t.sd≠0∧t.sd≠1
 ·rw[if_pos c3]at h;omega
 rw[if_neg c3]at h;by_cases c4:q<1
 ·rw[if_pos c4]at h;omega
 rw[if_neg c4]at h;by_cases c5:9999<q
 ·rw[if_pos c5]at h;omega
 rw[if_neg c5]at h;by_cases c6:t.pr<1
 ·rw[if_pos c6]at h;omega
 rw[if_neg c6]at h;by_cases c7:9999<t.pr
 ·rw[if_pos c7]at h;omega
 rw[if_neg c7]at h;by_cases c8:t.le<1
 ·rw[if_pos c8]at h;omega
 rw[if_neg c8]at h;by_cases c9:q<t.le
 ·rw[if_pos c9]at h;omega
 rw[if_neg c9]at h;by_cases d1:t.un≤0
 ·rw[if_pos d1]at h;omega
 rw[if_neg d1]at h;by_cases d2:1000000<t.un
 ·rw[if_pos d2]at h;omega
 exact ⟨by omega,by omega,by omega,by omega,by omega,by omega,by omega,by omega⟩
section
variable {C:CfE} {L:List EvZ} {os:List OrZ} {e:EvZ}
theorem TQ (L:List EvZ) (e:EvZ):ZS (L++[e])=e.tk:=by
 unfold ZS;rw[List.getLast?_append];rfl
theorem UF (h:InvL C L os) {c g:Int} (hl:Yr (ofL C.F c g L)=0):∃ i x,ZC c g os=some i∧os[i]?=some x∧x∈os∧x.c=c∧x.g=g∧ofL C.F c g L=(x,true)∧x.e=0:=by
 unfold Yr at hl;by_cases c1:(ofL C.F c g L).2=false
 ·rw[if_pos c1]at hl;omega
 rw[if_neg c1]at hl;by_cases c2:(ofL C.F c g L).1.e≠0
 ·rw[if_pos c2]at hl;omega
 cases hf:ZC c g os with
 | none=>exact absurd (h.no c g (vU hf)) c1
 | some i =>
  obtain ⟨x,h1,h2,h3⟩:=zS hf;have hm:=List.mem_of_getElem? h1;have ho:=h.of x hm;rw[h2,h3]at ho;refine ⟨i,x,rfl,h1,hm,h2,h3,ho,?_⟩;rw[ho]at c2;simpa using c2
theorem ZcA (h:InvL C L os) {c:Int} {o:OrZ} (hm:o∈os) (hc:o.c=c):o.g≤zu c os:=by
 have:=h.top o hm;rw[hc]at this;exact this
theorem zO {c:Int}:∀ {os:List OrZ} {i:Nat} {x y:OrZ},os[i]?=some x→y.c=x.c→y.g=x.g→zu c (os.set i y)=zu c os:=by
 have key:∀ (os:List OrZ) (i:Nat) (x y:OrZ),os[i]?=some x→y.c=x.c→y.g=x.g→(Yz c (os.set i y)).map (fun o=>o.g)=(Yz c os).map (fun o=>o.g):=by
  intro os
  induction os with
  | nil=>intro i x y h;simp at h
  | cons a r ih =>
   intro i x y h hc hg;cases i with
   | zero =>
    injection h with h;subst h;simp only[List.set_cons_zero,Yz];cases Yz c r with
    | some z=>rfl
    | none =>
     simp only;rw[hc];by_cases e:a.c=c
     ·rw[if_pos e,if_pos e];simp[hg]
     ·rw[if_neg e,if_neg e]
   | succ i =>
    have:=ih i x y h hc hg;simp only[List.set_cons_succ,Yz];cases h1:Yz c (r.set i y) with
    | some z =>
     cases h2:Yz c r with
     | some z2=>rw[h1,h2]at this;exact this
     | none=>rw[h1,h2]at this;cases this
    | none =>
     cases h2:Yz c r with
     | some z2=>rw[h1,h2]at this;cases this
     | none=>rfl
 intro os i x y h hc hg;have:=key os i x y h hc hg;unfold zu;cases h1:Yz c (os.set i y) with
 | some z =>
  cases h2:Yz c os with
  | some z2=>rw[h1,h2]at this;injection this
  | none=>rw[h1,h2]at this;cases this
 | none =>
  cases h2:Yz c os with
  | some z2=>rw[h1,h2]at this;cases this
  | none=>rfl
theorem vC (h:InvL C L os) {os':List OrZ} (hk:¬ e.k=1) (ht:0≤e.tk) (hlen:os'.length=os.length)
  (hs:∀ (i:Nat) (x:OrZ),os[i]?=some x→∃ y,os'[i]?=some y∧y.c=x.c∧y.g=x.g∧Zd3 C y∧ofE C.F x.c x.g (x,true) e=(y,true))
  (hg:∀ c,zu c os'=zu c os) (hn:∀ c g,(∀ o,o∈os→isO c g o=false)→Zav c g e=false∧ZaK c g e=false):InvL C (L++[e]) os':=by
 have back:∀ (i:Nat) (y:OrZ),os'[i]?=some y→∃ x,os[i]?=some x∧y.c=x.c∧y.g=x.g∧Zd3 C y∧ofE C.F x.c x.g (x,true) e=(y,true):=fun i y hy=>by
  have hi:=(List.getElem?_eq_some_iff.1 hy).1;obtain ⟨x,hx⟩:∃ x,os[i]?=some x:=⟨_,List.getElem?_eq_getElem (by omega)⟩;obtain ⟨y',h1,h2,h3,h4,h5⟩:=hs i x hx;rw[hy]at h1;injection h1 with h1;subst h1;exact ⟨x,hx,h2,h3,h4,h5⟩
 refine ⟨fun y hy=>?_,fun c g hno=>?_,fun i j x y hx hy hc hg' => ?_,fun c=>?_,fun y hy=>?_,fun y hy=>?_,by rw[TQ];exact ht⟩
 ·obtain ⟨i,hi⟩:=List.getElem?_of_mem hy
  obtain ⟨x,hx,h2,h3,h4,h5⟩:=back i y hi;rw[XF,h2,h3,h.of x (List.mem_of_getElem? hx)];exact h5
 ·have hno2:∀ o,o∈os→isO c g o=false:=fun x hx=>by
   obtain ⟨i,hi⟩:=List.getElem?_of_mem hx;obtain ⟨y,h1,h2,h3,_⟩:=hs i x hi;have:=hno y (List.mem_of_getElem? h1);unfold isO at this⊢;rw[← h2,← h3];exact this
  obtain ⟨f1,f2⟩:=hn c g hno2;rw[XF,ZM f1 f2];exact h.no c g hno2
 ·obtain ⟨x',a1,a2,a3,_⟩:=back i x hx
  obtain ⟨y',b1,b2,b3,_⟩:=back j y hy;exact h.one i j x' y' a1 b1 (by rw[← a2,← b2];exact hc) (by rw[← a3,← b3];exact hg')
 ·rw[Ut,if_neg (fun x=>hk x.1),h.gen c,hg c]
 ·obtain ⟨i,hi⟩:=List.getElem?_of_mem hy
  obtain ⟨x,hx,h2,h3,_⟩:=back i y hi;rw[h2,h3,hg];exact h.top x (List.mem_of_getElem? hx)
 ·obtain ⟨i,hi⟩:=List.getElem?_of_mem hy
  exact (back i y hi).choose_spec.2.2.2.1
theorem Tv {x:OrZ} (h1:¬ (e.c=x.c∧e.g=x.g)) (h2:¬ (e.k=2∧e.o=x.c∧e.w=x.g)) (s:OrZ×Bool):ofE C.F x.c x.g s e=s:=ZM (decide_eq_false h1) (decide_eq_false h2) s
theorem Zc6 (h:InvL C L os) (hk:3≤e.k) (ht:0≤e.tk) {i:Nat} {x:OrZ} (hi:os[i]?=some x) (hc:x.c=e.c) (hg:x.g=e.g):InvL C (L++[e]) (os.set i (XT x e)):=by
 have hcg:(XT x e).c=x.c∧(XT x e).g=x.g∧(XT x e).t=x.t∧(XT x e).q=x.q∧(XT x e).l=x.l∧(XT x e).f=x.f:=by
  unfold XT
  repeat' split
  all_goals exact ⟨rfl,rfl,rfl,rfl,rfl,rfl⟩
 refine vC h (by omega) ht (List.length_set ..) (fun j y hj=>?_) (fun c=>zO hi hcg.1 hcg.2.1) (fun c g hno=>?_)
 ·by_cases e1:j=i
  ·subst e1
   rw[hi]at hj;injection hj with hj;subst hj;have ok:=h.ok x (List.mem_of_getElem? hi);refine ⟨XT x e,List.getElem?_set_self (List.getElem?_eq_some_iff.1 hi).1,hcg.1,hcg.2.1,?_,?_⟩
   ·unfold Zd3 at ok⊢
    rw[hcg.1,hcg.2.1,hcg.2.2.1,hcg.2.2.2.1,hcg.2.2.2.2.1,hcg.2.2.2.2.2];exact ok
   ·exact VI (decide_eq_true ⟨hc.symm,hg.symm⟩) hk _
  ·refine ⟨y,by rw[List.getElem?_set_ne (fun a=>e1 a.symm)];exact hj,rfl,rfl,h.ok y (List.mem_of_getElem? hj),?_⟩
   refine Tv (fun a=>e1 ?_) (by omega) _;exact h.one j i y x hj hi (by rw[← a.1,hc]) (by rw[← a.2,hg])
 ·refine ⟨decide_eq_false fun a=>?_,decide_eq_false (by omega)⟩
  have:=hno x (List.mem_of_getElem? hi);simp[isO,hc,hg,a.1,a.2]at this
end
section
variable {C:CfE} {L:List EvZ} {os:List OrZ} {e:EvZ}
theorem UY (h:ZE C L e=0):ZS L≤e.tk∧1≤e.k∧e.k≤7:=by
 unfold ZE at h;by_cases c1:e.tk<ZS L
 ·rw[if_pos c1]at h;omega
 rw[if_neg c1]at h;by_cases c2:e.k<1∨7<e.k
 ·rw[if_pos c2]at h;omega
 omega
theorem Zeh (h:ZE C L e=0) (k:e.k=1):0≤e.c∧e.c<C.n∧¬ (0<Zq e.c L∧(ofL C.F e.c (Zq e.c L) L).1.e=0)∧Zq e.c L<C.G∧e.g=Zq e.c L+1∧ZL C.nm e.t e.q 0=0:=by
 have h0:=UY h;unfold ZE at h;rw[if_neg (by omega),if_neg (by omega),if_pos k]at h;by_cases c1:e.c<0∨C.n≤e.c
 ·rw[if_pos c1]at h;omega
 rw[if_neg c1]at h;by_cases c2:0<Zq e.c L∧(ofL C.F e.c (Zq e.c L) L).1.e=0
 ·rw[if_pos c2]at h;omega
 rw[if_neg c2]at h;by_cases c3:C.G≤Zq e.c L
 ·rw[if_pos c3]at h;omega
 rw[if_neg c3]at h;by_cases c4:e.g≠Zq e.c L+1
 ·rw[if_pos c4]at h;omega
 rw[if_neg c4]at h;exact ⟨by omega,by omega,c2,by omega,by omega,h⟩
theorem xI (h:ZE C L e=0) (k:e.k≠1):Yr (ofL C.F e.c e.g L)=0:=by
 have h0:=UY h;unfold ZE at h;rw[if_neg (by omega),if_neg (by omega),if_neg k]at h;by_cases c1:Yr (ofL C.F e.c e.g L)≠0
 ·rw[if_pos c1]at h;exact h
 ·simpa using c1
theorem can_2 (h:ZE C L e=0) (k:e.k=2):Yr (ofL C.F e.o e.w L)=0∧(ofL C.F e.c e.g L).1.c / C.b≠(ofL C.F e.o e.w L).1.c / C.b∧byO C.F (ofL C.F e.c e.g L).1=0∧byO C.F (ofL C.F e.o e.w L).1=0∧(ofL C.F e.o e.w L).1.a=false∧Zb (ofL C.F e.c e.g L).1.t (ofL C.F e.o e.w L).1.t (ofL C.F e.c e.g L).1.l (ofL C.F e.o e.w L).1.l=(e.q,e.p)∧e.q≠0:=by
 have h0:=UY h;have hl:=xI h (by omega);unfold ZE at h;rw[if_neg (by omega),if_neg (by omega),if_neg (by omega),if_neg (fun x=>x hl),if_pos k]at h;by_cases c1:Yr (ofL C.F e.o e.w L)≠0
 ·rw[if_pos c1]at h;exact absurd h c1
 rw[if_neg c1]at h;by_cases c2:(ofL C.F e.c e.g L).1.c / C.b=(ofL C.F e.o e.w L).1.c / C.b
 ·rw[if_pos c2]at h;omega
 rw[if_neg c2]at h;by_cases c3:byO C.F (ofL C.F e.c e.g L).1≠0∨byO C.F (ofL C.F e.o e.w L).1≠0∨(ofL C.F e.o e.w L).1.a=true
 ·rw[if_pos c3]at h;omega
 rw[if_neg c3]at h;obtain ⟨⟨q,p⟩,hm⟩:∃ z,Zb (ofL C.F e.c e.g L).1.t (ofL C.F e.o e.w L).1.t (ofL C.F e.c e.g L).1.l (ofL C.F e.o e.w L).1.l=z:=⟨_,rfl⟩;rw[hm]at h⊢;by_cases c4:q=0∨q≠e.q∨p≠e.p
 ·rw[if_pos c4]at h;omega
 refine ⟨by simpa using c1,c2,by omega,by omega,?_,?_,by omega⟩
 ·by_cases ha:(ofL C.F e.o e.w L).1.a=true
  ·exact absurd (.inr (.inr ha)) c3
  ·simpa using ha
 ·rw[show q=e.q by omega,show p=e.p by omega]
theorem vT (h:InvL C L os) (c:Int):0≤zu c os:=by
 unfold zu;cases hl:Yz c os with
 | none=>simp
 | some o =>
  have:=h.ok o (Vn hl).1;have g1:=this.2.2.1;simp only;omega
theorem Zcl (hC:yI C) (h:InvL C L os) (hc:ZE C L e=0) (k:e.k=1):InvL C (L++[e]) (os++[U0 e]):=by
 obtain ⟨c1,c2,c3,c4,c5,c6⟩:=Zeh hc k;have hk:=vR c6;obtain ⟨_,_,_,_,_,_,hF,_⟩:=hC;have g0:=vT h e.c;rw[h.gen]at c4 c5;have lt:∀ o,o∈os→o.c=e.c→o.g<e.g:=fun o ho hoc=>by
  have:=ZcA h ho hoc;omega
 have gapp:∀ c,zu c (os++[U0 e])=if e.c=c then e.g else zu c os:=fun c=>by
  unfold zu;rw[T7];by_cases a:e.c=c
  ·rw[if_pos (show (U0 e).c=c from a),if_pos a];rfl
  ·rw[if_neg (show ¬ (U0 e).c=c from a),if_neg a]
 refine ⟨fun o ho=>?_,fun c g hno=>?_,fun i j x y hx hy hxc hxg=>?_,fun c=>?_,fun o ho=>?_,fun o ho=>?_,?_⟩
 ·rw[XF]
  rcases List.mem_append.1 ho with h1|h1
  ·rw[Tv (x:=o) (fun a=>?_) (by omega)]
   ·exact h.of o h1
   ·have:=lt o h1 a.1.symm
    omega
  ·rw[List.mem_singleton.1 h1]
   exact vY (decide_eq_true ⟨rfl,rfl⟩) k _
 ·have h1:=hno (U0 e) (List.mem_append.2 (.inr (List.mem_singleton.2 rfl)))
  rw[XF,ZM (decide_eq_false fun a=>?_) (decide_eq_false (by omega))]
  ·exact h.no c g fun o ho=>hno o (List.mem_append.2 (.inl ho))
  ·simp[isO,U0,a.1,a.2]at h1
 ·have key:∀ (i j:Nat) (x:OrZ),os[i]?=some x→x.c=e.c→x.g=e.g→False:=fun i j x hi a b=>by
   have:=lt x (List.mem_of_getElem? hi) a;omega
  by_cases a:i<os.length
  ·rw[List.getElem?_append_left a]at hx
   by_cases b:j<os.length
   ·rw[List.getElem?_append_left b]at hy
    exact h.one i j x y hx hy hxc hxg
   ·rw[List.getElem?_append_right (by omega)]at hy
    have hj:j - os.length=0:=by
     by_cases z:j - os.length=0
     ·exact z
     ·rw[List.getElem?_eq_none (by simp;omega)]at hy;cases hy
    rw[hj]at hy;injection hy with hy;exact (key i j x hx (by rw[hxc,← hy];rfl) (by rw[hxg,← hy];rfl)).elim
  ·rw[List.getElem?_append_right (by omega)]at hx
   have hi:i - os.length=0:=by
    by_cases z:i - os.length=0
    ·exact z
    ·rw[List.getElem?_eq_none (by simp;omega)]at hx;cases hx
   rw[hi]at hx;injection hx with hx;by_cases b:j<os.length
   ·rw[List.getElem?_append_left b]at hy
    exact (key j i y hy (by rw[← hxc,← hx];rfl) (by rw[← hxg,← hx];rfl)).elim
   ·have hj:=(List.getElem?_eq_some_iff.1 hy).1
    rw[List.length_append]at hj;simp at hj;omega
 ·rw[Ut,gapp,h.gen]
  by_cases a:e.c=c
  ·rw[if_pos ⟨k,a⟩,if_pos a]
  ·rw[if_neg (fun x=>a x.2),if_neg a]
 ·rw[gapp]
  rcases List.mem_append.1 ho with h1|h1
  ·by_cases a:e.c=o.c
   ·rw[if_pos a]
    have:=lt o h1 a.symm;omega
   ·rw[if_neg a];exact h.top o h1
  ·rw[List.mem_singleton.1 h1]
   show e.g≤if e.c=e.c then e.g else _;rw[if_pos rfl];omega
 ·rcases List.mem_append.1 ho with h1|h1
  ·exact h.ok o h1
  ·rw[List.mem_singleton.1 h1]
   exact ⟨c1,c2,by show 1≤e.g;omega,by show e.g≤C.G;omega,hk.1,hk.2.1,hk.2.2.1,hk.2.2.2.2.2.1,hk.2.2.2.2.2.2.1,hk.2.2.2.2.2.2.2,hk.2.2.2.1,hk.2.2.2.2.1,by show 0≤e.q;omega,by show e.q≤e.q;omega,by show (0:Int)≤0;omega,by show (0:Int)≤C.F;omega⟩
 ·rw[TQ]
  have:=UY hc;have:=h.tk;omega
theorem by_0 {F:Int} {o:OrZ} (h:byO F o=0):o.l≠0∧o.f<F:=by
 unfold byO at h;by_cases c1:o.l=0
 ·rw[if_pos c1]at h;omega
 rw[if_neg c1]at h;by_cases c2:F≤o.f
 ·rw[if_pos c2]at h;omega
 exact ⟨c1,by omega⟩
theorem Uv (h:InvL C L os) (hc:ZE C L e=0) (k:e.k=2):∃ i x j y,ZC e.c e.g os=some i∧os[i]?=some x∧x.c=e.c∧x.g=e.g∧ofL C.F e.c e.g L=(x,true)∧x.e=0∧ZC e.o e.w os=some j∧os[j]?=some y∧y.c=e.o∧y.g=e.w∧ofL C.F e.o e.w L=(y,true)∧y.e=0∧x.c / C.b≠y.c / C.b∧byO C.F x=0∧byO C.F y=0∧y.a=false∧Zb x.t y.t x.l y.l=(e.q,e.p)∧e.q≠0∧i≠j:=by
 obtain ⟨i,x,a1,a2,a3,a4,a5,a6,a7⟩:=UF h (xI hc (by omega));obtain ⟨l2,d1,d2,d3,d4,d5,d6⟩:=can_2 hc k;obtain ⟨j,y,b1,b2,b3,b4,b5,b6,b7⟩:=UF h l2;rw[a6]at d1 d2 d5;rw[b6]at d1 d3 d4 d5;refine ⟨i,x,j,y,a1,a2,a4,a5,a6,a7,b1,b2,b4,b5,b6,b7,d1,d2,d3,d4,d5,d6,fun hij=>?_⟩;subst hij;rw[a2]at b2;injection b2 with b2;subst b2;exact d1 rfl
theorem Zbx (h:InvL C L os) (hc:ZE C L e=0) (k:e.k=2):InvL C (L++[e]) (doZ C.F os e):=by
 obtain ⟨i,x,j,y,a1,a2,a3,a4,a5,a6,b1,b2,b3,b4,b5,b6,d1,d2,d3,d4,d5,d6,hij⟩:=Uv h hc k;have hd:doZ C.F os e=(os.set i (Zt x e.q)).set j { Zt y e.q with e:=byO C.F (Zt y e.q) }:=by
  unfold doZ;rw[if_neg (by omega),a1];simp only;rw[a2];simp only;rw[if_pos k,b1];simp only;rw[b2]
 rw[hd];have hxy:x.c≠y.c:=fun z=>d1 (by rw[z]);have mq:=zB (a:=x.t) (b:=y.t) (l:=x.l) (o:=y.l) (by rw[d5];exact d6);rw[d5]at mq;simp only at mq;have fx:=by_0 d2;have fy:=by_0 d3;have hj2:(os.set i (Zt x e.q))[j]?=some y:=by rw[List.getElem?_set_ne hij];exact b2
 have ox:=h.ok x (List.mem_of_getElem? a2);have oy:=h.ok y (List.mem_of_getElem? b2);have h0:=UY hc;have htk:=h.tk;refine vC h (by omega) (by omega) (by rw[List.length_set,List.length_set]) (fun m z hm=>?_) (fun c=>?_) (fun c g hno=>?_)
 ·by_cases e1:m=i
  ·subst e1
   rw[a2]at hm;injection hm with hm;subst hm;refine ⟨Zt x e.q,by rw[List.getElem?_set_ne (fun a=>hij a.symm)];exact List.getElem?_set_self (List.getElem?_eq_some_iff.1 a2).1,rfl,rfl,?_,?_⟩
   ·obtain ⟨z1,z2,z3,z4,z5,z6,z7,z8,z9,z10,z11,z12,z13,z14,z15,z16⟩:=ox
    exact ⟨z1,z2,z3,z4,z5,z6,z7,z8,z9,z10,z11,z12,by show 0≤x.l - e.q;omega,by show x.l - e.q≤x.q;omega,by show 0≤x.f+1;omega,by show x.f+1≤C.F;omega⟩
   ·exact vZ (decide_eq_true ⟨a3.symm,a4.symm⟩) k (decide_eq_false fun z=>hxy (by rw[← z.2.1,b3])) _
  ·by_cases e2:m=j
   ·subst e2
    rw[b2]at hm;injection hm with hm;subst hm;refine ⟨_,List.getElem?_set_self (by rw[List.length_set];exact (List.getElem?_eq_some_iff.1 b2).1),rfl,rfl,?_,?_⟩
    ·obtain ⟨z1,z2,z3,z4,z5,z6,z7,z8,z9,z10,z11,z12,z13,z14,z15,z16⟩:=oy
     exact ⟨z1,z2,z3,z4,z5,z6,z7,z8,z9,z10,z11,z12,by show 0≤y.l - e.q;omega,by show y.l - e.q≤y.q;omega,by show 0≤y.f+1;omega,by show y.f+1≤C.F;omega⟩
    ·exact zY (decide_eq_false fun z=>hxy (by rw[a3,z.1])) (decide_eq_true ⟨k,b3.symm,b4.symm⟩) _
   ·refine ⟨z,by rw[List.getElem?_set_ne (fun a=>e2 a.symm),List.getElem?_set_ne (fun a=>e1 a.symm)];exact hm,rfl,rfl,h.ok z (List.mem_of_getElem? hm),?_⟩
    refine Tv (fun a=>e1 ?_) (fun a=>e2 ?_) _
    ·exact h.one m i z x hm a2 (by rw[← a.1,a3]) (by rw[← a.2,a4])
    ·exact h.one m j z y hm b2 (by rw[← a.2.1,b3]) (by rw[← a.2.2,b4])
 ·exact (zO (y:={ Zt y e.q with e:=byO C.F (Zt y e.q) }) hj2 rfl rfl).trans (zO (y:=Zt x e.q) a2 rfl rfl)
 ·refine ⟨decide_eq_false fun a=>?_,decide_eq_false fun a=>?_⟩
  ·have:=hno x (List.mem_of_getElem? a2)
   simp[isO,a3,a4,a.1,a.2]at this
  ·have:=hno y (List.mem_of_getElem? b2)
   simp[isO,b3,b4,a.2.1,a.2.2]at this
theorem ZdY (hC:yI C) (h:InvL C L os) (hc:ZE C L e=0):InvL C (L++[e]) (doZ C.F os e):=by
 have h0:=UY hc;have htk:=h.tk;by_cases k1:e.k=1
 ·have:doZ C.F os e=os++[U0 e]:=by unfold doZ;rw[if_pos k1]
  rw[this];exact Zcl hC h hc k1
 by_cases k2:e.k=2
 ·exact Zbx h hc k2
 obtain ⟨i,x,a1,a2,a3,a4,a5,a6,a7⟩:=UF h (xI hc k1);have hd:doZ C.F os e=os.set i (XT x e):=by
  unfold doZ;rw[if_neg k1,a1];simp only;rw[a2];simp only;rw[if_neg k2]
 rw[hd];exact Zc6 h (by omega) (by omega) a2 a4 a5
theorem inv_0 (C:CfE):InvL C [] [] where
 of:=fun o h=>absurd h (by simp)
 no:=fun c g _=>rfl
 one:=fun i j x y h=>absurd h (by simp)
 gen:=fun c=>rfl
 top:=fun o h=>absurd h (by simp)
 ok:=fun o h=>absurd h (by simp)
 tk:=by simp[ZS]
end
def yw {α:Type} (f:List EvZ→EvZ→α→α):List EvZ→List EvZ→α→α
 | _,[],a=>a
 | past,e :: r,a=>yw f (past++[e]) r (f past e a)
theorem Vo {α:Type} (f:List EvZ→EvZ→α→α):∀ (past L:List EvZ) (e:EvZ) (a:α),yw f past (L++[e]) a=f (past++L) e (yw f past L a)
 | past,[],e,a=>by simp[yw]
 | past,x :: r,e,a=>by
  rw[List.cons_append];simp only[yw];rw[Vo f (past++[x]) r e,List.append_assoc]
  rfl
def XD (C:CfE) (past:List EvZ) (e:EvZ):Int:=(ofL C.F e.c e.g past).1.t.nm
def Zek (C:CfE) (nm:Int) (past:List EvZ) (e:EvZ) (a:List Int):List Int:=if e.k=2∧XD C past e=nm then a++[e.p] else a
def Zr (C:CfE) (nm:Int) (L:List EvZ):List Int:=yw (Zek C nm) [] L []
theorem XX (C:CfE) (nm:Int) (L:List EvZ) (e:EvZ):Zr C nm (L++[e])=if e.k=2∧XD C L e=nm then Zr C nm L++[e.p] else Zr C nm L:=by
 unfold Zr;rw[Vo,List.nil_append];rfl
structure R5 where
 b:Int
 s:Int
 p:Int
 g:Int
 n:Int
def z5:R5:=⟨0,0,0,0,0⟩
def add5 (x y:R5):R5:=⟨x.b+y.b,x.s+y.s,x.p+y.p,x.g+y.g,x.n+y.n⟩
def xa (C:CfE) (past:List EvZ) (e:EvZ):Int:=if (ofL C.F e.c e.g past).1.t.sd=1 then e.o else e.c
def zj (C:CfE) (past:List EvZ) (e:EvZ):Int:=if (ofL C.F e.c e.g past).1.t.sd=1 then e.c else e.o
def Zdx (C:CfE) (part:Int) (past:List EvZ) (e:EvZ) (r:R5):R5:=if xa C past e / C.b=part then add5 r ⟨e.q,0,e.q*e.p,0,1⟩ else r
def Zae (C:CfE) (part:Int) (past:List EvZ) (e:EvZ) (r:R5):R5:=if zj C past e / C.b=part then add5 r ⟨0,e.q,0,e.q*e.p,1⟩ else r
def ZbO (C:CfE) (part nm:Int) (past:List EvZ) (e:EvZ) (r:R5):R5:=if e.k=2∧XD C past e=nm then Zae C part past e (Zdx C part past e r) else r
def Ug (C:CfE) (part nm:Int) (L:List EvZ):R5:=yw (ZbO C part nm) [] L z5
theorem VL (C:CfE) (part nm:Int) (L:List EvZ) (e:EvZ):Ug C part nm (L++[e])=ZbO C part nm L e (Ug C part nm L):=by
 unfold Ug;rw[Vo,List.nil_append]
def Zd9 (C:CfE) (nm:Int) (past:List EvZ) (e:EvZ) (r:Int×Int):Int×Int:=if e.k=2∧XD C past e=nm then (r.1+e.q,r.2+e.q*e.p) else r
def X4 (C:CfE) (nm:Int) (L:List EvZ):Int×Int:=yw (Zd9 C nm) [] L (0,0)
theorem Zam (C:CfE) (nm:Int) (L:List EvZ) (e:EvZ):X4 C nm (L++[e])=if e.k=2∧XD C L e=nm then ((X4 C nm L).1+e.q,(X4 C nm L).2+e.q*e.p) else X4 C nm L:=by
 unfold X4;rw[Vo,List.nil_append];rfl
inductive OkL (C:CfE):List EvZ→List OrZ→Prop
 | nil:OkL C [] []
 | snoc {L:List EvZ} {os:List OrZ} {e:EvZ}:OkL C L os→ZE C L e=0→OkL C (L++[e]) (doZ C.F os e)
theorem YD {C:CfE} (hC:yI C) {L:List EvZ} {os:List OrZ} (h:OkL C L os):InvL C L os:=by
 induction h with
 | nil=>exact inv_0 C
 | snoc h1 h2 ih=>exact ZdY hC ih h2
section
variable {C:CfE} {L:List EvZ} {os:List OrZ} {e:EvZ}
theorem Xs (hC:yI C) (h:InvL C L os) (hc:ZE C L e=0) (k:e.k=2):1≤e.q∧e.q≤9999∧1≤e.p∧e.p≤9999∧0≤e.c∧e.c<C.n∧0≤e.o∧e.o<C.n∧0≤XD C L e∧XD C L e<C.nm
  ∧ ((ofL C.F e.c e.g L).1.t.sd=0∧(ofL C.F e.o e.w L).1.t.sd=1∨(ofL C.F e.c e.g L).1.t.sd=1∧(ofL C.F e.o e.w L).1.t.sd=0)∧(ofL C.F e.o e.w L).1.t.nm=XD C L e∧e.c / C.b≠e.o / C.b:=by
 obtain ⟨i,x,j,y,a1,a2,a3,a4,a5,a6,b1,b2,b3,b4,b5,b6,d1,d2,d3,d4,d5,d6,hij⟩:=Uv h hc k
 have ox:=h.ok x (List.mem_of_getElem? a2)
 have oy:=h.ok y (List.mem_of_getElem? b2)
 obtain ⟨x1,x2,x3,x4,x5,x6,x7,x8,x9,x10,x11,x12,x13,x14,x15,x16⟩:=ox
 obtain ⟨y1,y2,y3,y4,y5,y6,y7,y8,y9,y10,y11,y12,y13,y14,y15,y16⟩:=oy
 have mq:=zB (a:=x.t) (b:=y.t) (l:=x.l) (o:=y.l) (by rw[d5];exact d6)
 have ms:=zU (a:=x.t) (b:=y.t) (l:=x.l) (o:=y.l) (by rw[d5];exact d6)
 rw[d5]at mq
 simp only at mq
 have mp:1≤e.p∧e.p≤9999∧x.t.nm=y.t.nm:=by
  have hm:=d5;unfold Zb at hm;obtain ⟨hi,e1⟩:∃ z,(if x.t.sd=1 then y.t.pr else x.t.pr)=z:=⟨_,rfl⟩;obtain ⟨lo,e2⟩:∃ z,(if x.t.sd=1 then x.t.pr else y.t.pr)=z:=⟨_,rfl⟩;have q1:1≤hi∧hi≤9999:=by rw[← e1];split<;>omega
  have q2:1≤lo∧lo≤9999:=by rw[← e2];split<;>omega
  rw[e1,e2]at hm;have zero:∀ {z:Int×Int},z=(0,0)→z=(e.q,e.p)→False:=fun {z} u v=>by
   rw[u]at v;injection v with v1 v2;omega
  by_cases c1:(if x.t.sd=1 then y.t.sd else x.t.sd)≠0
  ·rw[if_pos c1]at hm;exact (zero rfl hm).elim
  rw[if_neg c1]at hm;by_cases c2:(if x.t.sd=1 then x.t.sd else y.t.sd)≠1
  ·rw[if_pos c2]at hm;exact (zero rfl hm).elim
  rw[if_neg c2]at hm;by_cases c3:x.t.nm≠y.t.nm
  ·rw[if_pos c3]at hm;exact (zero rfl hm).elim
  rw[if_neg c3]at hm;by_cases c4:hi<lo
  ·rw[if_pos c4]at hm;exact (zero rfl hm).elim
  rw[if_neg c4]at hm;by_cases c5:(if y.l<x.l then y.l else x.l)<1
  ·rw[if_pos c5]at hm;exact (zero rfl hm).elim
  rw[if_neg c5]at hm;by_cases c6:(if y.l<x.l then y.l else x.l)<(if x.t.le<y.t.le then y.t.le else x.t.le)
  ·rw[if_pos c6]at hm;exact (zero rfl hm).elim
  rw[if_neg c6]at hm;injection hm with _ hm;exact ⟨by omega,by omega,by omega⟩
 unfold XD
 rw[a5,b5]
 simp only
 exact ⟨mq.1,by omega,mp.1,mp.2.1,by omega,by omega,by omega,by omega,x5,x6,ms,mp.2.2.symm,by rw[← a3,← b3];exact d1⟩
end
def Ts (f:Nat→Int):Nat→Int
 | 0=>0
 | k+1=>Ts f k+f k
theorem Xd {f g:Nat→Int}:∀ {P:Nat},(∀ p,p<P→f p=g p)→Ts f P=Ts g P
 | 0,_=>rfl
 | k+1,h=>by simp only[Ts];rw[Xd (P:=k) fun p hp=>h p (by omega),h k (by omega)]
theorem Tx (f:Nat→Int) (c q:Int):∀ P:Nat,Ts (fun p=>f p+if c=(p:Int) then q else 0) P=Ts f P+if 0≤c∧c<P then q else 0
 | 0=>by simp[Ts];intro h1 h2;omega
 | k+1=>by
  simp only[Ts];rw[Tx f c q k];by_cases e:c=(k:Int)
  ·rw[if_pos e,if_neg (by omega),if_pos (by omega)];omega
  ·rw[if_neg e]
   by_cases d:0≤c∧c<(k:Int)
   ·rw[if_pos d,if_pos (by omega)];omega
   ·rw[if_neg d,if_neg (by omega)];omega
section
variable {C:CfE}
theorem ZbA {P:Nat} {c:Int} (hC:yI C) (hP:C.n=P*C.b) (h0:0≤c) (h1:c<C.n):0≤c / C.b∧c / C.b<P:=by
 obtain ⟨_,_,b1,_⟩:=hC;exact ⟨Int.ediv_nonneg h0 (by omega),Int.ediv_lt_of_lt_mul (by omega) (by rw[← hP];exact h1)⟩
theorem Zdf (hC:yI C) {P:Nat} (hP:C.n=P*C.b) (nm:Int) {L:List EvZ} {os:List OrZ} (h:OkL C L os):Ts (fun p=>(Ug C p nm L).b) P=(X4 C nm L).1∧Ts (fun p=>(Ug C p nm L).p) P=(X4 C nm L).2:=by
 induction h with
 | nil =>
  have z:∀ P:Nat,Ts (fun p=>(0:Int)) P=0:=fun P=>by
   induction P with
   | zero=>rfl
   | succ k ih=>simp only[Ts];omega
  exact ⟨z P,z P⟩
 | @snoc L os e h1 hc ih =>
  have hi:=YD hC h1;rw[Zam];by_cases k:e.k=2∧XD C L e=nm
  ·obtain ⟨f1,f2,f3,f4,f5,f6,f7,f8,_⟩:=Xs hC hi hc k.1
   rw[if_pos k];have hb:0≤xa C L e∧xa C L e<C.n:=(by unfold xa;split<;>omega);have ho:=ZbA hC hP hb.1 hb.2;have e1:∀ p:Nat,p<P→(Ug C p nm (L++[e])).b=(Ug C p nm L).b+if xa C L e / C.b=(p:Int) then e.q else 0:=fun p _=>by
    rw[VL];unfold ZbO Zae Zdx add5;rw[if_pos k]
    repeat' split
    all_goals (try simp only)
    all_goals first|rfl|omega
   have e2:∀ p:Nat,p<P→(Ug C p nm (L++[e])).p=(Ug C p nm L).p+if xa C L e / C.b=(p:Int) then e.q*e.p else 0:=fun p _=>by
    rw[VL];unfold ZbO Zae Zdx add5;rw[if_pos k]
    repeat' split
    all_goals (try simp only)
    all_goals first|rfl|omega
   constructor
   ·rw[Xd e1,Tx,if_pos ho,ih.1]
   ·rw[Xd e2,Tx,if_pos ho,ih.2]
  ·rw[if_neg k]
   have e1:∀ p:Nat,p<P→Ug C p nm (L++[e])=Ug C p nm L:=fun p _=>by
    rw[VL];unfold ZbO;rw[if_neg k]
   constructor
   ·rw[Xd fun p hp=>by rw[e1 p hp]];exact ih.1
   ·rw[Xd fun p hp=>by rw[e1 p hp]];exact ih.2
def bnd (m:Nat) (r:R5):Prop:=0≤r.b∧r.b≤200000000*m∧0≤r.s∧r.s≤200000000*m∧0≤r.p∧r.p≤200000000*m∧0≤r.g∧r.g≤200000000*m∧0≤r.n∧r.n≤200000000*m
theorem ZaQ {q p:Int} (h1:1≤q) (h2:q≤9999) (h3:1≤p) (h4:p≤9999):0≤q*p∧q*p≤99980001:=vX (by omega) h2 (by omega) h4
theorem zR (hC:yI C) (part nm:Int) {L:List EvZ} {os:List OrZ} (h:OkL C L os):bnd L.length (Ug C part nm L):=by
 induction h with
 | nil=>exact ⟨Int.le_refl _,Int.le_refl _,Int.le_refl _,Int.le_refl _,Int.le_refl _,Int.le_refl _,Int.le_refl _,Int.le_refl _,Int.le_refl _,Int.le_refl _⟩
 | @snoc L os e h1 hc ih =>
  have hi:=YD hC h1;rw[VL,List.length_append];obtain ⟨g1,g2,g3,g4,g5,g6,g7,g8,g9,g10⟩:=ih;unfold ZbO;by_cases k:e.k=2∧XD C L e=nm
  ·obtain ⟨f1,f2,f3,f4,_⟩:=Xs hC hi hc k.1
   have hm:=ZaQ f1 f2 f3 f4;rw[if_pos k];unfold Zae Zdx add5 bnd;have hl:((L.length+[e].length:Nat):Int)=L.length+1:=(by simp);rw[hl]
   repeat' split
   all_goals ((try simp only);omega)
  ·rw[if_neg k]
   unfold bnd;have hl:((L.length+[e].length:Nat):Int)=L.length+1:=(by simp);rw[hl];omega
theorem TD (hC:yI C) (nm:Int) {L:List EvZ} {os:List OrZ} (h:OkL C L os):((Zr C nm L).length:Int)≤(X4 C nm L).1∧(X4 C nm L).1≤200000000*L.length∧0≤(X4 C nm L).2∧(X4 C nm L).2≤200000000*L.length∧(Zr C nm L).length≤L.length∧(Zr C nm L=[]→(X4 C nm L).1=0)∧∀ p,p∈Zr C nm L→1≤p∧p≤9999:=by
 induction h with
 | nil=>exact ⟨Int.le_refl _,Int.le_refl _,Int.le_refl _,Int.le_refl _,Nat.le_refl _,fun _=>rfl,fun p hp=>by cases hp⟩
 | @snoc L os e h1 hc ih =>
  have hi:=YD hC h1;obtain ⟨g1,g2,g3,g4,g5,g6,g7⟩:=ih;rw[XX,Zam,List.length_append];have hl:((L.length+[e].length:Nat):Int)=L.length+1:=by simp
  rw[hl];by_cases k:e.k=2∧XD C L e=nm
  ·obtain ⟨f1,f2,f3,f4,_⟩:=Xs hC hi hc k.1
   have hm:=ZaQ f1 f2 f3 f4;rw[if_pos k,if_pos k,List.length_append];have hl2:(((Zr C nm L).length+[e.p].length:Nat):Int)=(Zr C nm L).length+1:=(by simp);rw[hl2];refine ⟨by simp only;omega,by simp only;omega,by simp only;omega,by simp only;omega,by simp;omega,fun a=>by simp at a,fun p hp=>?_⟩;rcases List.mem_append.1 hp with h2|h2
   ·exact g7 p h2
   ·rw[List.mem_singleton.1 h2];exact ⟨f3,f4⟩
  ·rw[if_neg k,if_neg k]
   exact ⟨g1,by omega,g3,by omega,by simp;omega,g6,g7⟩
end
attribute [local irreducible] Wm
attribute [local simp] Yu lkp Ui prs Th prT ddL idL Yn U1 Ren Vz NObj.none ZZ
end Go.W
