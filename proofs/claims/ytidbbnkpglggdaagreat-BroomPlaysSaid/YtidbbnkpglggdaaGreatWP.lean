/- The walk over code, on states that are written out. States by other names: what is said, is said by other names, or not at all. -/
import Derived.Test.YtidbbnkpglggdaaGreatWN
namespace Go.W
set_option linter.unusedSimpArgs false
set_option linter.unusedVariables false
def lk:List (Nat×AV)→Nat→AV
 | [],_=>.bot
 | (k,v) :: r,j=>if j=k then v else lk r j
def hk:List (Nat×NObj)→NH
 | [],_=>.free
 | (k,v) :: r,j=>if j=k then v else hk r j
theorem Ziy (k:Nat) (v:AV) (r:List (Nat×AV)):lk ((k,v) :: r)=upd (lk r) k v:=rfl
theorem ZhO (k:Nat) (v:NObj) (r:List (Nat×NObj)):hk ((k,v) :: r)=upd (hk r) k v:=rfl
structure St where
 tl:List (Nat×AV)
 hl:List (Nat×NObj)
 nb:Nat
def UW (tl:List (Nat×AV)) (d:Option Nat) (v:AV):List (Nat×AV) :=
 match d with
 | some d=>(d,v) :: tl
 | none=>tl
def vM (hl:List (Nat×NObj)):List (Nat×NObj)→List (Nat×NObj)
 | []=>hl
 | (x,o) :: r=>vM ((x,o) :: hl) r
theorem vb:∀ (hs hl:List (Nat×NObj)),hk (vM hl hs)=Yr (hk hl) hs
 | [],_=>rfl
 | (x,o) :: r,hl=>by rw[vM,vb r,ZhO];rfl
theorem Zcz (tl:List (Nat×AV)) (mo:MO) (r:Res):lk (UW tl mo.dst r.v)=yu (lk tl) mo r:=by
 unfold UW yu;cases mo.dst<;>rfl
def Yq (E:FuncId→Option Spec) (nb:Nat):List MO→Nat→List (Nat×AV)→List (Nat×NObj)→List (Nat×List Nat×List Nat)→Option (List (Nat×AV)×List (Nat×NObj)×List (Nat×List Nat×List Nat))
 | [],_,tl,hl,lg=>some (tl,hl,lg)
 | mo :: r,i,tl,hl,lg =>
  match mo.g with
  | none=>match YL E (lk tl) (hk hl) (nb+8*i) mo.op with
   | some q=>if q.n=8 then Yq E nb r (i+1) (UW tl mo.dst q.v) (vM hl q.hs) (lg++[(i,q.hs.map (·.1),q.rd)]) else none
   | none=>none
  | some (s,want)=>match lk tl s with
   | .bool b =>
    if b=want then (match YL E (lk ((s,.bool want) :: tl)) (hk hl) (nb+8*i) mo.op with
     | some q=>if q.n=8 then Yq E nb r (i+1) (UW ((s,.bool want) :: tl) mo.dst q.v) (vM hl q.hs) (lg++[(i,q.hs.map (·.1),q.rd)]) else none
     | none=>none)
    else Yq E nb r (i+1) (UW ((s,.bool (!want)) :: tl) mo.dst (.raw undef)) hl (lg++[(i,[],[])])
   | .raw v=>if US v=true then Yq E nb r (i+1) (UW tl mo.dst (.raw undef)) hl (lg++[(i,[],[])]) else none
   | _=>none
def nm (nb i:Nat):Nat:=nb+8*i
def xH (l:List (Nat×MO×Res)):List (Nat×List Nat×List Nat):=l.map fun x=>(x.1,x.2.2.hs.map (·.1),x.2.2.rd)
theorem xS {tl:List (Nat×AV)} {s:Nat} {v:AV} (h:lk tl s=v):lk ((s,v) :: tl)=lk tl:=by
 funext j
 rw[Ziy,UA];split
 ·rename_i e;subst e;exact h.symm
 ·rfl
theorem yI {E:FuncId→Option Spec} {nb:Nat}:∀ {mos:List MO} {i:Nat} {tl:List (Nat×AV)} {hl:List (Nat×NObj)} {lg:List (Nat×List Nat×List Nat)} {x:List (Nat×AV)×List (Nat×NObj)×List (Nat×List Nat×List Nat)},Yq E nb mos i tl hl lg=some x →
  ∃ l,Runs E (nm nb) l (lk tl) (hk hl) (lk x.1) (hk x.2.1)∧l.map (·.1)=List.range' i mos.length∧l.map (·.2.1)=mos∧x.2.2=lg++xH l∧∀ y,y∈l→y.2.2.n=8
 | [],i,tl,hl,lg,x,h=>by
  simp only[Yq,Option.some.injEq]at h;subst h;exact ⟨[],.nil _ _,rfl,rfl,by simp[xH],by simp⟩
 | mo :: r,i,tl,hl,lg,x,h=>by
  have go:∀ {tl0:List (Nat×AV)} {q:Res},lk tl0=lk tl→XH E (lk tl) (hk hl) (nm nb i) mo=some q→q.n=8→Yq E nb r (i+1) (UW tl0 mo.dst q.v) (vM hl q.hs) (lg++[(i,q.hs.map (·.1),q.rd)])=some x →
    ∃ l,Runs E (nm nb) l (lk tl) (hk hl) (lk x.1) (hk x.2.1)∧l.map (·.1)=List.range' i (mo :: r).length∧l.map (·.2.1)=mo :: r∧x.2.2=lg++xH l∧∀ y,y∈l→y.2.2.n=8:=by
   intro tl0 q h0 hst hn8 hev
   obtain ⟨l,h1,h2,h3,h4,h5⟩:=yI hev
   refine ⟨(i,mo,q) :: l,.cons hst ?_,by simp[h2,List.range'_succ],by simp[h3],by rw[h4];simp[xH],fun y hy=>(List.mem_cons.1 hy).elim (fun e=>by rw[e];exact hn8) (h5 y)⟩
   rw[Zcz,vb,h0]at h1
   exact h1
  simp only[Yq]at h;cases hg:mo.g with
  | none =>
   simp only[hg]at h;split at h
   ·rename_i q hq
    split at h
    ·rename_i h8
     exact go rfl (by simp only[XH,hg];exact hq) h8 h
    ·cases h
   ·cases h
  | some sw =>
   obtain ⟨s,want⟩:=sw;simp only[hg]at h;split at h
   ·rename_i b hb
    split at h
    ·rename_i e
     subst e;split at h
     ·rename_i q hq
      split at h
      ·rename_i h8
       rw[xS hb]at hq;exact go (xS hb) (by simp only[XH,hg,hb,if_true];exact hq) h8 h
      ·cases h
     ·cases h
    ·rename_i e
     have hb':lk tl s=.bool (!want):=(by rw[hb];cases b<;>cases want<;>simp_all);exact go (q:=⟨.raw undef,[],[],8⟩) (xS hb') (by simp only[XH,hg,hb,if_neg e]) rfl h
   ·rename_i v hb
    split at h
    ·rename_i e
     exact go (q:=⟨.raw undef,[],[],8⟩) rfl (by simp only[XH,hg,hb,if_pos e]) rfl h
    ·cases h
   ·cases h
def ZdG (x y:MO):Bool :=
 (match x.dst with
 | some d=>!(y.looks.contains d)&&(y.dst != some d)
 | none=>true) &&
 (match y.dst with
 | some d=>!(x.looks.contains d)
 | none=>true)
def Zfj (pr:Nat→List Nat):List (Nat×MO)→Bool
 | []=>true
 | x :: l=>l.all (fun y=>(pr y.1).contains x.1 || ZdG x.2 y.2)&&Zfj pr l
def Zeo (x y:Nat×List Nat×List Nat):Bool:=x.2.1.all (fun n=>!((y.2.2++y.2.1).contains n))&&y.2.1.all (fun n=>!(x.2.2.contains n))
def Zhu (pr:Nat→List Nat):List (Nat×List Nat×List Nat)→Bool
 | []=>true
 | x :: l=>l.all (fun y=>(pr y.1).contains x.1 || Zeo x y)&&Zhu pr l
theorem ZaC {pr:Nat→List Nat}:∀ (l:List (Nat×MO×Res)),Zfj pr (l.map fun x=>(x.1,x.2.1))=true→Zhu pr (xH l)=true→vU pr l=true
 | [],_,_=>rfl
 | x :: l,h1,h2=>by
  simp only[List.map_cons,Zfj,Bool.and_eq_true,List.all_map,List.all_eq_true,xH,Zhu,Function.comp]at h1 h2;simp only[vU,Bool.and_eq_true,List.all_eq_true];refine ⟨fun y hy=>?_,ZaC l h1.2 h2.2⟩;have a1:=h1.1 y hy;have a2:=h2.1 y hy;simp only[Bool.or_eq_true]at a1 a2⊢;rcases a1 with a1|a1
  ·exact .inl a1
  ·rcases a2 with a2|a2
   ·exact .inl a2
   ·right
    simp only[ZdG,Bool.and_eq_true]at a1;simp only[Zeo,Bool.and_eq_true]at a2;simp only[yW,Bool.and_eq_true];exact ⟨⟨a1,a2.1⟩,a2.2⟩
def Zai (pr:List (List Nat)) (i:Nat):List Nat:=pr.getD i []
def VD (mos:List MO):List (Nat×MO):=(List.range' 0 mos.length).zip mos
structure SatS (w0:World) (S:Sc) (N:Nat) (D:List Deferred) (s:St) (a:Act) (w:World):Prop where
 sat:∃ Es,Sat w0 S Es (fun x:Nm=>s.nb≤x.mx) (lk s.tl) (HF (hk s.hl)) a w
 size:a.tmps.size=N
 defers:a.defers=D
section
variable (P:Program) (E:FuncId→Option Spec) (w0:World) (S:Sc) (N:Nat) (D:List Deferred)
def Wm (c:MCode) (s:St) (Q:Exit→St→Prop):Prop:=∀ code,rC P code=some c→∀ a w,SatS w0 S N D s a w→code.wp P (fun e a' w' => ∃ s',SatS w0 S N D s' a' w'∧Q e s') a w
def vE (b:MCode) (Q:Exit→St→Prop):Exit→St→Prop
 | .normal,s=>Wm P w0 S N D b s Q
 | e,s=>Q e s
def Yp (id:Nat) (Q:Exit→St→Prop):Exit→St→Prop
 | .exit j,s=>if j=id then Q .normal s else Q (.exit j) s
 | e,s=>Q e s
def Vp {α:Type} (r:Option α) (K:α→Prop):Prop:=∃ x,r=some x∧K x
end
theorem TO {α:Type} (x:α) (K:α→Prop):Vp (some x) K=K x:=by
 simp[Vp]
theorem Zce {α:Type} (K:α→Prop):Vp none K=False:=by
 simp[Vp]
theorem ZeA {α:Type} (c:Prop) [Decidable c] (x y:Option α) (K:α→Prop):Vp (if c then x else y) K=((c→Vp x K)∧(¬ c→Vp y K)):=by
 by_cases h:c<;>simp[h]
section
variable {P:Program} {E:FuncId→Option Spec} {w0:World} {S:Sc} {N:Nat} {D:List Deferred} {s:St} {Q:Exit→St→Prop}
theorem xX {c:MCode} {Q':Exit→St→Prop} (h:Wm P w0 S N D c s Q) (hq:∀ e s,Q e s→Q' e s):Wm P w0 S N D c s Q' :=
 fun code hc a w hs=>wp_mono (h code hc a w hs) fun _ _ _ ⟨s',h1,h2⟩ => ⟨s',h1,hq _ _ h2⟩
theorem Zeq (h:Q .normal s):Wm P w0 S N D .skip s Q:=fun code hc a w hs=>by
 cases code<;>simp only[rC,reduceCtorEq]at hc
 case skip=>exact wp_skip ⟨s,hs,h⟩
 all_goals ((repeat' (split at hc))<;>first|(cases hc;done)|(simp only[Option.map_eq_some_iff,reduceCtorEq,and_false,exists_false]at hc;done))
theorem Zg2 (h:Q .ret s):Wm P w0 S N D .ret s Q:=fun code hc a w hs=>by
 cases code<;>simp only[rC,reduceCtorEq]at hc
 case ret=>exact wp_ret ⟨s,hs,h⟩
 all_goals ((repeat' (split at hc))<;>first|(cases hc;done)|(simp only[Option.map_eq_some_iff,reduceCtorEq,and_false,exists_false]at hc;done))
theorem ZdX {id:Nat} (h:Q (.exit id) s):Wm P w0 S N D (.exit id) s Q:=fun code hc a w hs=>by
 cases code<;>simp only[rC,reduceCtorEq,Option.some.injEq]at hc
 case exit j=>injection hc with hc;subst hc;exact wp_exit ⟨s,hs,h⟩
 all_goals ((repeat' (split at hc))<;>first|(cases hc;done)|(simp only[Option.map_eq_some_iff,reduceCtorEq,and_false,exists_false]at hc;done))
theorem Zhe {x y:MCode} (h:Wm P w0 S N D x s (vE P w0 S N D y Q)):Wm P w0 S N D (.seq x y) s Q:=fun code hc a w hs=>by
 cases code<;>simp only[rC,reduceCtorEq,Option.some.injEq]at hc
 case seq c d =>
  split at hc
  ·rename_i x' y' h1 h2
   injection hc with hc;injection hc with e1 e2;subst e1 e2;refine wp_seq (wp_mono (h c h1 a w hs) fun e a' w' ⟨s',q1,q2⟩ => ?_);cases e with
   | normal=>exact q2 d h2 a' w' q1
   | _=>exact ⟨s',q1,q2⟩
  ·cases hc
 all_goals ((repeat' (split at hc))<;>first|(cases hc;done)|(simp only[Option.map_eq_some_iff,reduceCtorEq,and_false,exists_false]at hc;done))
theorem Zbb {id:Nat} {x:MCode} (h:Wm P w0 S N D x s (Yp id Q)):Wm P w0 S N D (.block id x) s Q:=fun code hc a w hs=>by
 cases code<;>simp only[rC,reduceCtorEq,Option.some.injEq]at hc
 case block j c =>
  cases hq:rC P c with
  | none=>simp[hq]at hc
  | some x' =>
   simp only[hq,Option.map_some,Option.some.injEq,MCode.block.injEq]at hc;obtain ⟨e1,e2⟩:=hc;subst e1 e2;refine wp_block (wp_mono (h c hq a w hs) fun e a' w' ⟨s',q1,q2⟩ => ?_);cases e with
   | exit k =>
    simp only[Yp]at q2;simp only[Exit.inBlock];split at q2
    ·rename_i e;rw[if_pos e];exact ⟨s',q1,q2⟩
    ·rename_i e;rw[if_neg e];exact ⟨s',q1,q2⟩
   | _=>exact ⟨s',q1,q2⟩
 all_goals ((repeat' (split at hc))<;>first|(cases hc;done)|(simp only[Option.map_eq_some_iff,reduceCtorEq,and_false,exists_false]at hc;done))
theorem Zij {c:X} {x y:MCode} {b:Bool} (hb:c.ev (lk s.tl)=.bool b) (ht:b=true→Wm P w0 S N D x s Q) (hf:b=false→Wm P w0 S N D y s Q):Wm P w0 S N D (.cond c x y) s Q:=fun code hc a w hs=>by
 cases code<;>simp only[rC,reduceCtorEq,Option.some.injEq]at hc
 case cond o c d =>
  split at hc
  ·rename_i x' y' h1 h2
   injection hc with hc;injection hc with e0 e1 e2;subst e0 e1 e2;obtain ⟨Es,hsat⟩:=hs.sat;obtain ⟨ρ,hρ⟩:=hsat.ne;have:=hsat.ev hρ o;rw[hb,Rep]at this;refine wp_cond_split this (fun e=>ht e c h1 a w hs) (fun e=>hf e d h2 a w hs)
  ·cases hc
 all_goals ((repeat' (split at hc))<;>first|(cases hc;done)|(simp only[Option.map_eq_some_iff,reduceCtorEq,and_false,exists_false]at hc;done))
def Zcv (ks:List Nat) (tl:List (Nat×AV)):List (Nat×AV):=ks.map fun k=>(k,lk tl k)
theorem ZfS (ks:List Nat) (tl:List (Nat×AV)) (j:Nat) (h:lk (Zcv ks tl) j≠.bot):lk (Zcv ks tl) j=lk tl j:=by
 induction ks with
 | nil=>exact absurd rfl h
 | cons k ks ih =>
  unfold Zcv at h ih⊢;simp only[List.map_cons,lk]at h⊢;split
  ·rename_i e;rw[e]
  ·rename_i e;rw[if_neg e]at h;exact ih h
theorem SatS.keep {a:Act} {w:World} (h:SatS w0 S N D s a w) (ks:List Nat):SatS w0 S N D ⟨Zcv ks s.tl,s.hl,s.nb⟩ a w:=by
 obtain ⟨⟨Es,h1⟩,h2,h3⟩:=h;refine ⟨⟨Es,h1.ne,h1.cl,h1.fr,h1.pin,fun ρ hρ t ht=>?_,h1.hp⟩,h2,h3⟩;have e:=ZfS ks s.tl t ht;rw[e]at ht⊢;exact h1.tm ρ hρ t ht
theorem TJ {ops:Array Oper}:∀ {l:List Oper} {mos:List MO},rOs P ops l=some mos→mos.length=l.length∧∀ (i:Nat) (m:MO),mos[i]?=some m→∃ o,l[i]?=some o∧rO P ops o=some m
 | [],mos,h=>by simp only[rOs,Option.some.injEq]at h;subst h;simp
 | o :: l,mos,h=>by
  simp only[rOs]at h;cases h1:rO P ops o with
  | none=>simp[h1]at h
  | some m =>
   cases h2:rOs P ops l with
   | none=>simp[h1,h2]at h
   | some q =>
    simp only[h1,h2,Option.some.injEq]at h;subst h;obtain ⟨q1,q2⟩:=TJ h2;refine ⟨by simp[q1],fun i m' hm=>?_⟩;cases i with
    | zero=>simp at hm;subst hm;exact ⟨o,rfl,h1⟩
    | succ i=>simpa using q2 i m' (by simpa using hm)
def Zcs (N:Nat) (mos:List MO):Bool:=mos.all fun m=>match m.dst with
 | some d=>d<N
 | none=>true
theorem ZgY (hE:Zd P E) {ops:Array Oper} {bs:Nat→Nat} {mt:Nat} {B:Nat→Prop} {Es0:Env→Prop} {H0:NH} {lb:Nat} {Q:Exit→Act→World→Prop} {Tf:Nat→AV} {Hf:NH} (hB:∀ m,m<mt→B m) (hQ:∀ Es U a w,Sat w0 S Es U Tf (HF Hf) a w→(∀ x:Nm,mt≤x.mx→B x.mx→U x)→a.defers=D→a.tmps.size=N→Adv Es0 H0 Es Hf (fun x:Nm=>lb≤x.mx∧x.mx<mt)→Q .normal a w) :
  ∀ (l:List (Nat×MO×Res)) (i nb:Nat) (Es:Env→Prop) (U:Nm→Prop) (T:Nat→AV) (H:NH) (a:Act) (w:World),Runs E bs l T H Tf Hf→l.map (·.1)=List.range' i l.length→i+l.length=ops.size →
   (∀ x,x∈l→∃ o,ops[x.1]?=some o∧rO P ops o=some x.2.1∧∀ d,x.2.1.dst=some d→d<N)→Sat w0 S Es U T (HF H) a w→(∀ x:Nm,nb≤x.mx→B x.mx→U x)→lb≤nb→nb≤mt→l.Pairwise (fun y z=>bs y.1+y.2.2.n≤bs z.1)→(∀ y,y∈l→nb≤bs y.1∧bs y.1+y.2.2.n≤mt)→Adv Es0 H0 Es H (fun x:Nm=>lb≤x.mx∧x.mx<nb)→a.defers=D→a.tmps.size=N→wpOps P ops Q (List.range' i l.length) a w
 | [],i,nb,Es,U,T,H,a,w,hr,_,hi,_,hsat,hU,_,hnb,_,_,hA,hD,hN=>by
  cases hr;exact hQ Es U a w hsat (fun x hx hb=>hU x (by omega) hb) hD hN (hA.mono fun x hx=>⟨hx.1,by omega⟩)
 | (j,mo,r) :: l,i,nb,Es,U,T,H,a,w,hr,hix,hi,hops,hsat,hU,hlb,hnb,hpw,hmt,hA,hD,hN=>by
  simp only[List.map_cons,List.length_cons,List.range'_succ,List.cons.injEq]at hix;obtain ⟨rfl,hix⟩:=hix;cases hr with
  | cons h1 h2 =>
   obtain ⟨o,ho,hro,hdst⟩:=hops (j,mo,r) List.mem_cons_self;have hb:=hmt (j,mo,r) List.mem_cons_self;simp only at hb;rw[List.pairwise_cons]at hpw;rw[List.length_cons,List.range'_succ,wpOps_cons];refine ZhX hE hsat ho hro h1 (fun x hx=>hU x (by omega) (hB _ (by omega))) (by rw[hN];exact hdst) fun Es' a' w' hsat' hd' hn' hadv=>?_;exact ZgY hE hB hQ l (j+1) (bs j+r.n) Es' _ _ _ a' w' h2 hix (by simp at hi;omega) (fun x hx=>hops x (List.mem_cons_of_mem _ hx)) hsat' (fun x hx hbx=>⟨hU x (by omega) hbx,fun hb=>by omega⟩) (by omega) hb.2 hpw.2 (fun y hy=>⟨hpw.1 y hy,(hmt y (List.mem_cons_of_mem _ hy)).2⟩) (hA.trans hadv (fun x h1 h2=>by omega) (fun x hx=>by omega)) (hd'.trans hD) (hn'.trans hN)
theorem ZcF {tl:List (Nat×AV)} {hl:List (Nat×NObj)} {nb n:Nat} {Es:Env→Prop} {U:Nm→Prop} {a:Act} {w:World} (h:Sat w0 S Es U (lk tl) (HF (hk hl)) a w) (hU:∀ x:Nm,nb+8*n≤x.mx→U x) (hD:a.defers=D) (hN:a.tmps.size=N):SatS w0 S N D ⟨tl,hl,nb+8*n⟩ a w :=
 ⟨⟨Es,h.ne,fun ρ ρ' h1 h2=>h.cl ρ ρ' h1 fun x hx=>h2 x fun hb=>hx (hU x hb),fun x hx=>h.fr x (hU x hx),h.pin,h.tm,h.hp⟩,hN,hD⟩
theorem Zc5 {l:List (Nat×MO×Res)} {i:Nat} {mos:List MO} (h1:l.map (·.1)=List.range' i mos.length) (h2:l.map (·.2.1)=mos) {x:Nat×MO×Res} (hx:x∈l):∃ k,x.1=i+k∧mos[k]?=some x.2.1:=by
 obtain ⟨k,hk⟩:=List.mem_iff_getElem?.1 hx;have e1:(l.map (·.1))[k]?=some x.1:=by simp[hk]
 have e2:(l.map (·.2.1))[k]?=some x.2.1:=by simp[hk]
 rw[h1]at e1;rw[h2]at e2;rw[List.getElem?_range']at e1
 ·simp at e1;exact ⟨k,e1.symm,e2⟩
 ·exact (List.getElem?_eq_some_iff.1 e2).1
def T8 (N:Nat) (mos:List MO) (pr cl:List (List Nat)):Bool:=Zcs N mos&&Zfj (Zai cl) (VD mos)&&((VD mos).all fun x=>(Zai pr x.1).all fun j=>j<x.1)&&(cl.length == mos.length)&&(VD mos).all fun x=>(Zai cl x.1).all fun j=>(Zai pr x.1).any fun k=>k == j || (Zai cl k).contains j
theorem ZeR (hE:Zd P E) (Zq:P.follows .mixedOrders=true) {mos:List MO} {pr:List (List Nat)} (cl:List (List Nat)) (hok:T8 N mos pr cl=true) (h:Vp (Yq E s.nb mos 0 s.tl s.hl []) fun x=>Zhu (Zai cl) x.2.2=true∧Q .normal ⟨x.1,x.2.1,s.nb+8*mos.length⟩):Wm P w0 S N D (.draw mos pr) s Q:=fun code hc a w hs=>by
 cases code<;>simp only[rC,reduceCtorEq,Option.some.injEq]at hc
 case region id ops d =>
  split at hc
  ·rename_i l hl
   split at hc
   ·rename_i hd
    injection hc with hc;injection hc with hc hc2;subst hc hc2;subst hd;simp only[T8,Bool.and_eq_true]at hok;obtain ⟨⟨⟨⟨hfit,hstat⟩,hback⟩,hcll⟩,hcl⟩:=hok;obtain ⟨x,hx,hdyn,hq⟩:=h;obtain ⟨ll,r1,r2,r3,r4,r8⟩:=yI hx;obtain ⟨g1,g2⟩:=TJ hl;obtain ⟨⟨Es,hsat⟩,hN,hD⟩:=hs;have hlen:ll.length=l.length:=(by rw[← r3];simp);have hsz:ops.size=l.length:=(by rw[← Array.length_toList,g1]);have hops:∀ x,x∈ll→∃ o,ops[x.1]?=some o∧rO P ops o=some x.2.1∧∀ d,x.2.1.dst=some d→d<N:=fun y hy=>by
     obtain ⟨k,k1,k2⟩:=Zc5 r2 r3 hy;obtain ⟨o,o1,o2⟩:=g2 k _ k2;refine ⟨o,by rw[k1,Nat.zero_add,← Array.getElem?_toList];exact o1,o2,fun d hd=>?_⟩;have:=List.all_eq_true.1 hfit _ (List.mem_of_getElem? k2);rw[hd]at this;simpa using this
    have hpo:∀ i o,ops[i]?=some o→Zai (ops.toList.map Vo) i=Vo o:=fun i o ho=>by
     rw[← Array.getElem?_toList]at ho;simp[Zai,List.getD_eq_getElem?_getD,ho]
    have hwi:ll.map (fun x=>(x.1,x.2.1))=VD l:=by
     unfold VD;rw[← r2]
     conv=>rhs;rw[← r3]
     clear hops r1 r2 r3 r4 r8 hlen
     induction ll with
     | nil=>rfl
     | cons y ll ih=>simp[ih]
    refine wp_region_any Zq ?_;refine Zdp (P:=P) (E:=E) (w0:=w0) (S:=S) (N:=N) (D:=D) (ops:=ops) (pr:=Zai cl) (bs:=nm s.nb) (mt:=s.nb+8*ops.size) (B:=fun _=>True) (Es0:=Es) (H0:=hk s.hl) (lb:=s.nb) (Tf:=lk x.1) (Hf:=hk x.2.1) hE (fun i o ho j hj=>?_) (fun i o ho e he hb=>?_) (fun _ _=>trivial)
     (fun Es U a w h1 h2 h3 h4 _=>⟨_,ZcF (n:=ops.size) h1 (fun x hx=>h2 x hx trivial) h3 h4,by rw[hsz];exact hq⟩)
     ops.size ll (Array.replicate ops.size false) Es _ _ _ a { w with drawn:=w.drawn+1 } (by rw[hlen,hsz]) r1 (ZaC ll (by rw[hwi];exact hstat) (by rw[r4]at hdyn;simpa using hdyn)) (by rw[r2];exact List.nodup_range') hops (by simp) (fun i hi=>?_) (fun i o ho hni=>absurd ?_ hni)
     ⟨hsat.ne,hsat.cl,hsat.fr,hsat.pin,hsat.tm,fun ρ hρ=>(hsat.hp ρ hρ).drew⟩ (fun x hx _=>by show s.nb≤x.mx;omega) (fun y hy=>by have h8:=r8 y hy;obtain ⟨k,k1,k2⟩:=Zc5 r2 r3 hy;have:=(List.getElem?_eq_some_iff.1 k2).1;refine ⟨by simp only[nm];omega,by simp only[nm];omega,fun x hx=>by simp only[nm]at hx;show s.nb≤x.mx;omega,fun z hz hne m h1 h2 h3=>?_⟩;have:=r8 z hz;simp only[nm]at h1 h2 h3;omega) (Adv.refl _ _ _) hD hN
    ·have hi:=(Array.getElem?_eq_some_iff.1 ho).1
     have hm:(i,l[i]'(by omega))∈VD l:=by
      unfold VD;refine List.mem_iff_getElem?.2 ⟨i,?_⟩;rw[List.getElem?_zip_eq_some];exact ⟨by rw[List.getElem?_range' (by omega)];simp,List.getElem?_eq_getElem _⟩
     have h1:=List.all_eq_true.1 (List.all_eq_true.1 hcl _ hm) j hj;obtain ⟨k,hk,hkj⟩:=List.any_eq_true.1 h1;rw[hpo i o ho]at hk;unfold Vo at hk;obtain ⟨e,he,hk⟩:=List.mem_filterMap.1 hk;split at hk
     ·rename_i hb
      injection hk with hk;refine ⟨e,Array.mem_toList_iff.1 he,hb,?_⟩;rw[hk];simpa using hkj
     ·cases hk
    ·have hi:=(Array.getElem?_eq_some_iff.1 ho).1
     have hm:(i,l[i]'(by omega))∈VD l:=by
      unfold VD;refine List.mem_iff_getElem?.2 ⟨i,?_⟩;rw[List.getElem?_zip_eq_some];exact ⟨by rw[List.getElem?_range' (by omega)];simp,List.getElem?_eq_getElem _⟩
     have h1:=List.all_eq_true.1 hback _ hm;simp only[hpo i o ho]at h1;have h2:=List.all_eq_true.1 h1 e.on (by unfold Vo;exact List.mem_filterMap.2 ⟨e,Array.mem_toList_iff.2 he,by simp[hb]⟩);simpa using h2
    ·rw[r2,hsz]at *
     simp[hi]
    ·rw[r2,← hsz]
     have:=(Array.getElem?_eq_some_iff.1 ho).1;simp[this]
   ·cases hc
  ·cases hc
 all_goals ((repeat' (split at hc))<;>first|(cases hc;done)|(simp only[Option.map_eq_some_iff,reduceCtorEq,and_false,exists_false]at hc;done))
end
abbrev zw:=Nm→Option (Option Nm)
mutual
def Ren (φ:zw):AV→AV→Prop
 | _,.bot=>True
 | .int k n,.int k' n' => k=k'∧n=n'
 | .bool b,.bool b' => b=b'
 | .str s,.str s' => s=s'
 | .raw v,.raw v' => v=v'
 | .nsl,.nsl=>True
 | .nsl,.sl x i n=>φ x=some none∧i=0∧n=0
 | .sl y i n,.sl x i' n' => φ x=some (some y)∧i=i'∧n=n'
 | .ptr y i f,.ptr x i' f' => φ x=some (some y)∧i=i'∧f=f'
 | .fn f c,.fn f' c' => f=f'∧Ve φ c c'
 | .iface t a,.iface t' a' => t=t'∧Ren φ a a'
 | .agg l,.agg l' => Ve φ l l'
 | .tup l,.tup l' => Ve φ l l'
 | _,_=>False
def Ve (φ:zw):List AV→List AV→Prop
 | [],[]=>True
 | a :: as,b :: bs=>Ren φ a b∧Ve φ as bs
 | _,_=>False
end
def V0:Loc:=⟨0,0,0,0,true⟩
def Env.by (ρ ρ':Env) (φ:zw):Prop:=∀ x v,φ x=some v→ρ' x=match v with|some y=>ρ y|none=>V0
mutual
theorem Ren.rep {φ:zw} {ρ ρ':Env} (hb:Env.by ρ ρ' φ):∀ {a b:AV} {v:Value},Ren φ a b→Rep ρ a v→Rep ρ' b v:=fun {a} {b} {v} h hr=>by
 cases b with
 | bot=>simp[Rep]
 | int k n=>cases a<;>simp only[Ren]at h;simp only[Rep]at hr⊢;rw[← h.1,← h.2];exact hr
 | bool k=>cases a<;>simp only[Ren]at h;simp only[Rep]at hr⊢;rw[← h];exact hr
 | str k=>cases a<;>simp only[Ren]at h;simp only[Rep]at hr⊢;rw[← h];exact hr
 | raw k=>cases a<;>simp only[Ren]at h;simp only[Rep]at hr⊢;rw[← h];exact hr
 | nsl=>cases a<;>simp only[Ren]at h;simp only[Rep]at hr⊢;exact hr
 | ptr x i f =>
  cases a<;>simp only[Ren]at h;simp only[Rep]at hr⊢;have:=hb x _ h.1;simp only at this;rw[this,← h.2.1,← h.2.2];exact hr
 | sl x i n =>
  cases a<;>simp only[Ren]at h
  ·simp only[Rep]at hr⊢
   have:=hb x _ h.1;simp only at this;rw[this,← h.2.1,← h.2.2];exact hr
  ·simp only[Rep]at hr⊢
   have:=hb x _ h.1;exact .inl ⟨by rw[this];rfl,h.2.1,h.2.2,hr⟩
 | fn f c =>
  cases a<;>simp only[Ren]at h;simp only[Rep]at hr⊢;obtain ⟨cs,h1,h2⟩:=hr;exact ⟨cs,by rw[← h.1];exact h1,Ve.rep hb h.2 h2⟩
 | iface t x =>
  cases a<;>simp only[Ren]at h;simp only[Rep]at hr⊢;obtain ⟨u,h1,h2⟩:=hr;exact ⟨u,by rw[← h.1];exact h1,Ren.rep hb h.2 h2⟩
 | agg l =>
  cases a<;>simp only[Ren]at h;simp only[Rep]at hr⊢;obtain ⟨cs,h1,h2⟩:=hr;exact ⟨cs,h1,Ve.rep hb h h2⟩
 | tup l =>
  cases a<;>simp only[Ren]at h;simp only[Rep]at hr⊢;obtain ⟨cs,h1,h2⟩:=hr;exact ⟨cs,h1,Ve.rep hb h h2⟩
 | os t sz els=>cases a<;>simp only[Ren]at h
 | op t c=>cases a<;>simp only[Ren]at h
theorem Ve.rep {φ:zw} {ρ ρ':Env} (hb:Env.by ρ ρ' φ):∀ {as bs:List AV} {vs:List Value},Ve φ as bs→Z8 ρ as vs→Z8 ρ' bs vs:=fun {as} {bs} {vs} h hr=>by
 cases bs with
 | nil=>cases as<;>simp only[Ve]at h;exact hr
 | cons b bs =>
  cases as<;>simp only[Ve]at h;simp only[Z8]at hr⊢;obtain ⟨v,r,h1,h2,h3⟩:=hr;exact ⟨v,r,h1,Ren.rep hb h.1 h2,Ve.rep hb h.2 h3⟩
end
def AObj.none:AObj→Prop
 | .arr _ n _=>n=0
 | .view _ n _=>n=0
 | _=>False
section
variable {w0:World} {S:Sc} {Es:Env→Prop} {U U':Nm→Prop} {T T':Nat→AV} {G G':NH} {a:Act} {w:World}
theorem Sat.ren (h:Sat w0 S Es U T (HF G) a w) (φ:zw) (hob:∀ x,HF G' x≠.free→(∃ y,φ x=some (some y)∧HF G y≠.free∧∀ ρ ρ',Env.by ρ ρ' φ→OLe ρ ρ' (HF G y) (HF G' x))∨(φ x=some none∧(HF G' x).none))
  (hinj:∀ x x' y,φ x=some (some y)→φ x'=some (some y)→HF G' x≠.free→HF G' x'≠.free→x=x') (hkeys:∀ x v,φ x=some v→¬ U' x) (han:∀ x,x<S.m→φ (.top x)=some (some (.top x))) (htm:∀ t,Ren φ (T t) (T' t)) :
  Sat w0 S (fun ρ' => ∃ ρ,Es ρ∧Env.by ρ ρ' φ) U' T' (HF G') a w where
 ne:=by
  obtain ⟨ρ,hρ⟩:=h.ne;refine ⟨fun x=>match φ x with|some (some y)=>ρ y|_=>V0,ρ,hρ,fun x v hv=>?_⟩;simp only[hv];cases v<;>rfl
 cl:=fun ρ ρ' ⟨ρ1,h1,h2⟩ he=>⟨ρ1,h1,fun x v hv=>by rw[he x (hkeys x v hv)];exact h2 x v hv⟩
 fr:=fun x hx=>by
  by_cases e:HF G' x=.free
  ·exact e
  ·rcases hob x e with ⟨y,h1,_⟩ | ⟨h1,_⟩
   ·exact absurd hx (hkeys x _ h1)
   ·exact absurd hx (hkeys x _ h1)
 pin:=fun ρ ρ' ⟨ρ1,h1,h2⟩ ⟨ρ2,h3,h4⟩ x hx=>by
  rcases hob x hx with ⟨y,e1,e2,_⟩ | ⟨e1,_⟩
  ·have a1:=h2 x _ e1
   have a2:=h4 x _ e1;simp only at a1 a2;rw[a1,a2];exact h.pin ρ1 ρ2 h1 h3 y e2
  ·rw[h2 x _ e1,h4 x _ e1]
 tm:=fun ρ' ⟨ρ,h1,h2⟩ t ht=>by
  have hr:=htm t;have ht0:T t≠.bot:=fun e=>by rw[e]at hr;cases hT:T' t<;>rw[hT]at hr ht<;>simp[Ren]at hr ht
  obtain ⟨v,hv,hrep⟩:=h.tm ρ h1 t ht0;exact ⟨v,hv,hr.rep h2 hrep⟩
 hp:=fun ρ' ⟨ρ,h1,h2⟩ => by
  have c:=h.hp ρ h1;have owned:∀ {x},ZF (ρ' x) (HF G' x)→∃ y,φ x=some (some y)∧ρ' x=ρ y∧ZF (ρ y) (HF G y):=fun {x} hx=>by
   have hne:HF G' x≠.free:=fun e=>by rw[e]at hx;exact hx
   rcases hob x hne with ⟨y,e1,e2,e3⟩ | ⟨e1,e2⟩
   ·have a1:=h2 x _ e1
    simp only at a1;refine ⟨y,e1,a1,?_⟩;rw[a1]at hx;exact (e3 ρ ρ' h2).own hx
   ·exfalso
    have a1:=h2 x _ e1;simp only at a1;rw[a1]at hx;cases hH:HF G' x<;>rw[hH]at hx e2<;>simp_all [ZF,AObj.none,V0]
  refine c.re (fun x=>((φ x).bind id).getD x) (fun x=>?_) (fun x hx=>?_) (fun x hx=>?_) (fun x x' hx hx' e=>?_) (fun x hx=>?_)
  ·by_cases hne:HF G' x=.free
   ·rw[hne];trivial
   ·rcases hob x hne with ⟨y,e1,e2,e3⟩ | ⟨e1,e2⟩
    ·have a1:=h2 x _ e1
     simp only at a1;rw[a1];exact (e3 ρ ρ' h2).ok (c.obj y)
    ·have a1:=h2 x _ e1
     simp only at a1;rw[a1];cases hH:HF G' x with
     | free=>trivial
     | cells c=>rw[hH]at e2;exact e2.elim
     | arr sz n f=>rw[hH]at e2;exact .inl ⟨rfl,e2⟩
     | view sz n f=>rw[hH]at e2;exact .inl ⟨rfl,e2⟩
  ·obtain ⟨y,e1,e2,e3⟩:=owned hx
   simp only[e1,Option.bind_some,id,Option.getD_some];exact ⟨e3,by rw[e2]⟩
  ·have hne:HF G' x≠.free:=fun e=>by rw[e]at hx;exact hx
   rcases hob x hne with ⟨y,e1,e2,e3⟩ | ⟨e1,e2⟩
   ·have a1:=h2 x _ e1
    simp only at a1;rw[a1]at hx⊢;exact c.vw y ((e3 ρ ρ' h2).viewed hx)
   ·exfalso
    have a1:=h2 x _ e1;simp only at a1;rw[a1]at hx;cases hH:HF G' x<;>rw[hH]at hx e2<;>simp_all [Yl,AObj.none,V0]
  ·obtain ⟨y,e1,_,_⟩:=owned hx
   obtain ⟨y',e1',_,_⟩:=owned hx';simp only[e1,e1',Option.bind_some,id,Option.getD_some]at e;subst e;exact hinj x x' y e1 e1' (fun e=>by rw[e]at hx;exact hx) (fun e=>by rw[e]at hx';exact hx')
  ·have a1:=h2 _ _ (han x hx)
   simp only at a1;rw[a1];exact c.an x hx
end
mutual
def AV.cl:AV→Bool
 | .ptr _ _ _ | .sl _ _ _=>false
 | .fn _ c=>clP c
 | .iface _ a=>a.cl&&a.plain
 | .agg l=>clP l
 | .tup l=>clP l
 | .os t _ els=>decide (t=0)&&Xr els
 | .op t c=>decide (t=0)&&clL c
 | _=>true
def clP:List AV→Bool
 | []=>true
 | a :: as=>(a.cl&&a.plain)&&clP as
def clL:List AV→Bool
 | []=>true
 | a :: as=>a.cl&&clL as
def Xr:List (List AV)→Bool
 | []=>true
 | a :: as=>clL a&&Xr as
end
mutual
theorem vH {ρ ρ':Env}:∀ {a:AV} {v:Value},a.cl=true→a.plain=true→Rep ρ a v→Rep ρ' a v:=fun {a} {v} h hp hr=>by
 cases a with
 | ptr x i f=>simp[AV.cl]at h
 | sl x i n=>simp[AV.cl]at h
 | os t sz els=>simp[AV.plain]at hp
 | op t c=>simp[AV.plain]at hp
 | fn f c =>
  simp only[AV.cl]at h;simp only[Rep]at hr⊢;obtain ⟨cs,h1,h2⟩:=hr;exact ⟨cs,h1,xh h h2⟩
 | iface t x =>
  simp only[AV.cl,Bool.and_eq_true]at h;simp only[Rep]at hr⊢;obtain ⟨u,h1,h2⟩:=hr;exact ⟨u,h1,vH h.1 h.2 h2⟩
 | agg l =>
  simp only[AV.cl]at h;simp only[Rep]at hr⊢;obtain ⟨cs,h1,h2⟩:=hr;exact ⟨cs,h1,xh h h2⟩
 | tup l =>
  simp only[AV.cl]at h;simp only[Rep]at hr⊢;obtain ⟨cs,h1,h2⟩:=hr;exact ⟨cs,h1,xh h h2⟩
 | _=>simp only[Rep]at hr⊢<;>exact hr
theorem xh {ρ ρ':Env}:∀ {as:List AV} {vs:List Value},clP as=true→Z8 ρ as vs→Z8 ρ' as vs:=fun {as} {vs} h hr=>by
 cases as with
 | nil=>exact hr
 | cons a as =>
  simp only[clP,Bool.and_eq_true]at h;simp only[Z8]at hr⊢;obtain ⟨v,r,h1,h2,h3⟩:=hr;exact ⟨v,r,h1,vH h.1.1 h.1.2 h2,xh h.2 h3⟩
end
theorem Uq:∀ {l:List AV},clL l=true→∀ {j:Nat} {v:AV},l[j]?=some v→v.cl=true
 | [],_,j,v,h=>by simp at h
 | a :: as,h,j,v,hj=>by
  simp only[clL,Bool.and_eq_true]at h;cases j with
  | zero=>simp at hj;subst hj;exact h.1
  | succ j=>exact Uq h.2 (by simpa using hj)
theorem zy:∀ {l:List (List AV)},Xr l=true→∀ {j:Nat} {v:List AV},l[j]?=some v→clL v=true
 | [],_,j,v,h=>by simp at h
 | a :: as,h,j,v,hj=>by
  simp only[Xr,Bool.and_eq_true]at h;cases j with
  | zero=>simp at hj;subst hj;exact h.1
  | succ j=>exact zy h.2 (by simpa using hj)
def NObj.clO:NObj→Bool
 | .cells _ c=>clL c
 | .arr _ _ els=>Xr els
 | .view _ _ els=>Xr els
 | .free=>true
theorem UL {o:NObj} (h:o.clO=true) {j:Nat} {c:List AV} (hc:Zl o j=some c):clL c=true:=by
 cases o<;>simp only[Zl,reduceCtorEq]at hc<;>simp only[NObj.clO]at h
 ·split at hc
  ·injection hc with hc;subst hc;exact h
  ·cases hc
 ·exact zy h hc
 ·exact zy h hc
theorem ZhV {v:AV} (h:v.cl=true) (ro:Bool):(kidV ro v).clO=true:=by
 cases v<;>try rfl
 ·simp only[AV.cl,Bool.and_eq_true]at h
  simp only[kidV];split<;>exact h.2
 ·simp only[AV.cl,Bool.and_eq_true]at h
  simp only[kidV];split
  ·simp[NObj.clO,Xr,h.2]
  ·exact h.2
theorem Zer {o:NObj} (h:∀ (j:Nat) (c:List AV) (v:AV) (f:Nat),Zl o j=some c→c[f]?=some v→v.plain=false→v.cl=true) (t j f:Nat):(kid o t j f).clO=true:=by
 unfold kid;split
 ·cases he:Zl o j with
  | none=>rfl
  | some c =>
   simp only[zp];cases hv:c[f]? with
   | none=>rfl
   | some v =>
    cases hp:v.plain with
    | true=>cases v<;>first | rfl | simp[AV.plain]at hp
    | false=>exact ZhV (h j c v f he hv hp) _
 ·rfl
end Go.W
