/- The walk's rules in the form in which a proof uses them: what 'simp' evaluates, and what it must not enter. Calls that only read, for the walk's simplifier. Bits of words: fields read and put together. A region in the text's order, without a log, and cut into parts between which temporaries go. -/
import Derived.Test.YtidbbnkpglggdaaGreatWcA
import Derived.Test.YtidbbnkpglggdaaGreatWRb
namespace Go.W
set_option linter.unusedSimpArgs false
set_option linter.unusedVariables false
abbrev TL:=List (Nat×AV)
abbrev HL:=List (Nat×NObj)
abbrev LG:=List (Nat×List Nat×List Nat)
def TA (E:FuncId→Option Spec) (nb:Nat) (r:List MO) (i:Nat) (tl:TL) (hl:HL) (lg:LG) (dst:Option Nat) (o:Option Res):Option (TL×HL×LG) :=
 match o with
 | some q=>if q.n=8 then Yq E nb r (i+1) (UW tl dst q.v) (vM hl q.hs) (lg++[(i,q.hs.map (·.1),q.rd)]) else none
 | none=>none
section
variable (E:FuncId→Option Spec) (nb:Nat) (r:List MO) (i:Nat) (tl:TL) (hl:HL) (lg:LG) (dst:Option Nat)
theorem Zcq (v:AV) (hs:List (Nat×NObj)) (rd:List Nat):TA E nb r i tl hl lg dst (some ⟨v,hs,rd,8⟩)=Yq E nb r (i+1) (UW tl dst v) (vM hl hs) (lg++[(i,hs.map (·.1),rd)]):=by simp only[TA,if_true]
theorem Zci:TA E nb r i tl hl lg dst none=none:=by simp only[TA]
theorem Zc8 (c:Prop) [Decidable c] (x y:Option Res):TA E nb r i tl hl lg dst (if c then x else y)=if c then TA E nb r i tl hl lg dst x else TA E nb r i tl hl lg dst y:=by split<;>rfl
def gdK (op:MOp) (s:Nat) (want:Bool) (v:AV):Option (TL×HL×LG) :=
 match v with
 | .bool b=>if b=want then TA E nb r i ((s,.bool want) :: tl) hl lg dst (YL E (lk ((s,.bool want) :: tl)) (hk hl) (nb+8*i) op) else Yq E nb r (i+1) (UW ((s,.bool (!want)) :: tl) dst (.raw undef)) hl (lg++[(i,[],[])])
 | .raw v=>if US v=true then Yq E nb r (i+1) (UW tl dst (.raw undef)) hl (lg++[(i,[],[])]) else none
 | _=>none
theorem ZfT (op:MOp) (s:Nat) (want b:Bool):gdK E nb r i tl hl lg dst op s want (.bool b)=if b=want then TA E nb r i ((s,.bool want) :: tl) hl lg dst (YL E (lk ((s,.bool want) :: tl)) (hk hl) (nb+8*i) op) else Yq E nb r (i+1) (UW ((s,.bool (!want)) :: tl) dst (.raw undef)) hl (lg++[(i,[],[])]):=by simp only[gdK]
theorem Zj1 (op:MOp) (s:Nat):gdK E nb r i tl hl lg dst op s true (.bool true)=TA E nb r i ((s,.bool true) :: tl) hl lg dst (YL E (lk ((s,.bool true) :: tl)) (hk hl) (nb+8*i) op):=by simp[gdK]
theorem ZjE (op:MOp) (s:Nat):gdK E nb r i tl hl lg dst op s false (.bool false)=TA E nb r i ((s,.bool false) :: tl) hl lg dst (YL E (lk ((s,.bool false) :: tl)) (hk hl) (nb+8*i) op):=by simp[gdK]
theorem ZkN (op:MOp) (s:Nat):gdK E nb r i tl hl lg dst op s true (.bool false)=Yq E nb r (i+1) (UW ((s,.bool false) :: tl) dst (.raw undef)) hl (lg++[(i,[],[])]):=by simp[gdK]
theorem Zkm (op:MOp) (s:Nat):gdK E nb r i tl hl lg dst op s false (.bool true)=Yq E nb r (i+1) (UW ((s,.bool true) :: tl) dst (.raw undef)) hl (lg++[(i,[],[])]):=by simp[gdK]
theorem ZjP (op:MOp) (s:Nat) (want:Bool):gdK E nb r i tl hl lg dst op s want (.raw undef)=Yq E nb r (i+1) (UW tl dst (.raw undef)) hl (lg++[(i,[],[])]):=by simp[gdK,US,undef]
theorem Zd7:Yq E nb [] i tl hl lg=some (tl,hl,lg):=by simp only[Yq]
theorem Zf2 (op:MOp):Yq E nb (MO.mk dst op none :: r) i tl hl lg=TA E nb r i tl hl lg dst (YL E (lk tl) (hk hl) (nb+8*i) op):=by
 simp only[Yq,TA];cases YL E (lk tl) (hk hl) (nb+8*i) op<;>rfl
theorem ZeV (op:MOp) (s:Nat) (want:Bool):Yq E nb (MO.mk dst op (some (s,want)) :: r) i tl hl lg=gdK E nb r i tl hl lg dst op s want (lk tl s):=by
 simp only[Yq,gdK];cases lk tl s with
 | bool b =>
  simp only;split
  ·simp only[TA]
   cases YL E (lk ((s,.bool want) :: tl)) (hk hl) (nb+8*i) op<;>rfl
  ·rfl
 | _=>rfl
end
def TG (seen:List Nat):List (Nat×NObj)→List (Nat×NObj)
 | []=>[]
 | (k,o) :: r=>if seen.contains k=true then TG seen r else (k,o) :: TG (k :: seen) r
theorem xw:∀ (hl:List (Nat×NObj)) (seen:List Nat) (x:Nat),x ∉ seen→hk (TG seen hl) x=hk hl x
 | [],_,_,_=>rfl
 | (k,o) :: r,seen,x,h=>by
  simp only[TG];split
  ·rename_i hs
   have hne:x≠k:=fun e=>h (by rw[e];simpa using hs);rw[xw r seen x h,hk,if_neg hne]
  ·simp only[hk]
   split
   ·rfl
   ·rename_i hne
    exact xw r (k :: seen) x (by simp[hne,h])
section
variable {P:Program} {E:FuncId→Option Spec} {w0:World} {S:Sc} {N:Nat} {D:List Deferred} {s:St} {Q:Exit→St→Prop}
theorem vA {b:MCode} (h:Wm P w0 S N D b s Q):vE P w0 S N D b Q .normal s:=h
theorem ZdE {b:MCode} (h:Q .ret s):vE P w0 S N D b Q .ret s:=h
theorem Zb0 {b:MCode} {id:Nat} (h:Q (.exit id) s):vE P w0 S N D b Q (.exit id) s:=h
theorem xz {id:Nat} (h:Q .normal s):Yp id Q .normal s:=h
theorem Zb9 {id:Nat} (h:Q .ret s):Yp id Q .ret s:=h
theorem ZaB {id:Nat} (h:Q .normal s):Yp id Q (.exit id) s:=by simpa [Yp] using h
theorem Za {id j:Nat} (hne:j≠id) (h:Q (.exit j) s):Yp id Q (.exit j) s:=by simpa [Yp,hne] using h
theorem Zej {m:Nat} {α:Type} {I:α→St} {R:α→Prop} {μ:α→Nat} {x:α} (h:Q .ret s):vK m I R μ x Q .ret s:=h
theorem Zb6 {m:Nat} {α:Type} {I:α→St} {R:α→Prop} {μ:α→Nat} {x:α} {id:Nat} (h:Q (.exit id) s):vK m I R μ x Q (.exit id) s:=h
end
def EL:List (FuncId×Spec)→FuncId→Option Spec
 | [],_=>none
 | (k,s) :: r,f=>if f=k then some s else EL r f
theorem Ze {P:Program}:∀ {l:List (FuncId×Spec)},(∀ p,p∈l→Sound P p.1 p.2)→Zd P (EL l)
 | [],_,f,sp,h=>by cases h
 | (k,s) :: r,hl,f,sp,h=>by
  simp only[EL]at h;split at h
  ·rename_i e;injection h with h;subst e h;exact hl _ List.mem_cons_self
  ·exact Ze (fun p hp=>hl p (List.mem_cons_of_mem _ hp)) f sp h
theorem Zg {n:Int} (h1:-9223372036854775808≤n) (h2:n≤9223372036854775807):IntKind.wrap .i64 n=n:=by
 rw[IntKind.wrap_i64];omega
theorem Zfh (ms:YM) (d:List AV→Option Ans) (hok:NOk ms d) (args:List AV) (G:NH) (nb:Nat):(Zm ms d hok).fn args G nb=yw ms d args G nb:=rfl
theorem ZfH {α β:Type} (c:Prop) [Decidable c] (x y:Option α) (f:α→β):Option.map f (if c then x else y)=if c then Option.map f x else Option.map f y:=by split<;>rfl
def flF (p:Nm) (t j:Nat):Nat→List AV→List AV
 | _,[]=>[]
 | f,v :: r=>flV p t j f v :: flF p t j (f+1) r
theorem ZdT (p:Nm) (t j:Nat):∀ (c:List AV) (f k:Nat),(flF p t j f c)[k]?=(c[k]?).map (flV p t j (f+k))
 | [],f,k=>by simp[flF]
 | v :: r,f,0=>by simp[flF]
 | v :: r,f,k+1=>by rw[flF,List.getElem?_cons_succ,List.getElem?_cons_succ,ZdT p t j r (f+1) k];congr 2;omega
theorem ZjB (p:Nm) (t j:Nat) (c:List AV):flC p t j c=flF p t j 0 c:=by
 apply List.ext_getElem?;intro k;rw[Xy,ZdT,Nat.zero_add]
theorem Zfe {α:Type} (f:α→List AV) (l:List α):Yo (l.map f)=l.map (fun x=>t0L (f x)):=by
 induction l with
 | nil=>rfl
 | cons a l ih=>simp[Yo,ih]
theorem Ze8 {α:Type} (f:α→List AV) (l:List α):Xr (l.map f)=l.all (fun x=>clL (f x)):=by
 induction l with
 | nil=>rfl
 | cons a l ih=>simp[Xr,ih]
theorem Zgz {α:Type} (n:Nat) (f:α→List AV) (l:List α):UR n (l.map f)=l.all (fun x=>tlL n (f x)):=by
 induction l with
 | nil=>rfl
 | cons a l ih=>simp[UR,ih]
def anB:Nat→List (Nat×Option Nat)→Bool
 | 0,_=>true
 | n+1,pl=>decide (lkp pl n=some (some n))&&anB n pl
theorem ZcM:∀ {m:Nat} {pl:List (Nat×Option Nat)},anB m pl=true→∀ x,x<m→lkp pl x=some (some x)
 | 0,_,_,x,h=>absurd h (Nat.not_lt_zero x)
 | n+1,pl,h,x,hx=>by
  simp only[anB,Bool.and_eq_true]at h;by_cases e:x=n
  ·subst e;exact of_decide_eq_true h.1
  ·exact ZcM h.2 x (by omega)
def plB (m:Nat) (pl:List (Nat×Option Nat)) (nb:Nat):Bool:=anB m pl&&pl.all (fun p=>decide (p.1<nb))&&decide ((pl.filterMap (·.2)).Nodup)
theorem LeN.mk' {m:Nat} {pl:List (Nat×Option Nat)} {s s':St} (h:plB m pl s'.nb=true) (ht:∀ p,p∈s'.tl→Ren (YP pl (hk s.hl) (hk s'.hl)) (lk s.tl p.1) p.2)
  (ho:∀ p,p∈s'.hl→p.2.tag<s'.nb∧(match lkp pl p.1 with
  | some (some y)=>NLe (YP pl (hk s.hl) (hk s'.hl)) (hk s.hl y) p.2
  | some none=>p.2.none
  | none=>p.2=.free)):LeN m pl s s':=by
 simp only[plB,Bool.and_eq_true]at h
 exact ⟨ZcM h.1.1,fun p hp=>of_decide_eq_true (List.all_eq_true.1 h.1.2 p hp),fun x x' y e1 e2 _ _=>Zev (of_decide_eq_true h.2) e1 e2,ht,ho⟩
section
variable (P:Program) (w0:World) (S:Sc) (N:Nat) (D:List Deferred) (c:MCode) (Q:Exit→St→Prop)
def Tb:Nat→St→Prop
 | 0,_=>False
 | n+1,s=>Wm P w0 S N D c s fun e s' => match e with
  | .normal=>Tb n s'
  | e=>Q e s'
def unK (n:Nat):Exit→St→Prop
 | .normal,s=>Tb P w0 S N D c Q n s
 | e,s=>Q e s
end
section
variable {P:Program} {w0:World} {S:Sc} {N:Nat} {D:List Deferred} {c:MCode} {Q:Exit→St→Prop} {s:St}
theorem zN {n:Nat} (h:Wm P w0 S N D c s (unK P w0 S N D c Q n)):Tb P w0 S N D c Q (n+1) s:=xX h fun e s' hq=>by cases e<;>exact hq
theorem Zb4 {n:Nat} (h:Tb P w0 S N D c Q n s):unK P w0 S N D c Q n .normal s:=h
theorem Zio {n:Nat} (h:Q .ret s):unK P w0 S N D c Q n .ret s:=h
theorem ZeM {n:Nat} {id:Nat} (h:Q (.exit id) s):unK P w0 S N D c Q n (.exit id) s:=h
theorem Zd1 (n:Nat) (h:Tb P w0 S N D c Q n s):Wm P w0 S N D (.loop c) s Q:=fun code hc a w hs=>by
 cases code<;>simp only[rC,reduceCtorEq,Option.some.injEq]at hc
 case loop cc =>
  cases hq:rC P cc with
  | none=>simp[hq]at hc
  | some c' =>
   simp only[hq,Option.map_some,Option.some.injEq,MCode.loop.injEq]at hc;subst hc;intro b k cs;have key:∀ n s,Tb P w0 S N D c' Q n s→∀ a w,SatS w0 S N D s a w →
     ∃ e a' w',(∃ s',SatS w0 S N D s' a' w'∧Q e s')∧Arrives P (lone (b.at a (.code cc :: .inLoop cc :: k)) cs w) b k cs e a' w':=by
    intro n
    induction n with
    | zero=>intro s h;exact h.elim
    | succ n ih =>
     intro s h a w hsat;obtain ⟨e,a₁,w₁,⟨s1,hs1,hq1⟩,harr⟩:=h cc hq a w hsat b (.inLoop cc :: k) cs;cases e with
     | normal =>
      obtain ⟨e₂,a₂,w₂,hq₂,harr₂⟩:=ih s1 hq1 a₁ w₁ hs1;exact ⟨e₂,a₂,w₂,hq₂,.of_steps (Steps.trans harr (.one step_inLoop)) harr₂⟩
     | exit id=>exact ⟨_,a₁,w₁,⟨s1,hs1,hq1⟩,.pass (x:=.inLoop cc) rfl (fun _ _=>.inl (by simp)) harr⟩
     | goto l=>exact ⟨_,a₁,w₁,⟨s1,hs1,hq1⟩,.pass (x:=.inLoop cc) rfl (fun _ _=>.inl (by simp)) harr⟩
     | ret=>exact ⟨_,a₁,w₁,⟨s1,hs1,hq1⟩,.pass (x:=.inLoop cc) rfl (fun _ _=>.inl (by simp)) harr⟩
     | panic ch=>exact ⟨_,a₁,w₁,⟨s1,hs1,hq1⟩,.pass (x:=.inLoop cc) rfl (fun _ _=>.inl (by simp)) harr⟩
     | outgrown=>exact ⟨_,a₁,w₁,⟨s1,hs1,hq1⟩,.pass (x:=.inLoop cc) rfl (fun _ _=>.inl (by simp)) harr⟩
   obtain ⟨e,a',w',hq,harr⟩:=key n s h a w hs;exact ⟨e,a',w',hq,.of_steps (.one step_loop) harr⟩
 all_goals ((repeat' (split at hc))<;>first|(cases hc;done)|(simp only[Option.map_eq_some_iff,reduceCtorEq,and_false,exists_false]at hc;done))
end
mutual
def prs:AV→AV→List (Nat×Option Nat)
 | .ptr (.top y) _ _,.ptr (.top x) _ _=>[(x,some y)]
 | .sl (.top y) _ _,.sl (.top x) _ _=>[(x,some y)]
 | .nsl,.sl (.top x) _ _=>[(x,none)]
 | .fn _ c,.fn _ c' => V9 c c'
 | .iface _ a,.iface _ a' => prs a a'
 | .agg l,.agg l' => V9 l l'
 | .tup l,.tup l' => V9 l l'
 | _,_=>[]
def V9:List AV→List AV→List (Nat×Option Nat)
 | a :: as,b :: bs=>prs a b++V9 as bs
 | _,_=>[]
end
def ddL:List (Nat×Option Nat)→List (Nat×Option Nat)
 | []=>[]
 | p :: r=>p :: (ddL r).filter (fun q=>decide (q.1≠p.1))
def idL:Nat→List (Nat×Option Nat)
 | 0=>[]
 | n+1=>(n,some n) :: idL n
def prT (tl:List (Nat×AV)):List (Nat×AV)→List (Nat×Option Nat)
 | []=>[]
 | (k,v) :: r=>prs (lk tl k) v++prT tl r
def Vq (m:Nat) (s s':St):List (Nat×Option Nat):=ddL (idL m++prT s.tl s'.tl)
theorem Imp.auto {m:Nat} {s s':St} (h:plB m (Vq m s s') s'.nb=true) (ht:∀ p,p∈s'.tl→Ren (YP (Vq m s s') (hk s.hl) (hk s'.hl)) (lk s.tl p.1) p.2)
  (ho:∀ p,p∈s'.hl→p.2.tag<s'.nb∧(match lkp (Vq m s s') p.1 with
  | some (some y)=>NLe (YP (Vq m s s') (hk s.hl) (hk s'.hl)) (hk s.hl y) p.2
  | some none=>p.2.none
  | none=>p.2=.free)):Imp m s s':=Imp.le _ (LeN.mk' h ht ho)
def ZgG:NObj→NObj→Bool
 | .cells _ _,.cells _ _=>true
 | .arr _ _ els,.arr _ _ els' => decide (els'.length=els.length)
 | .cells _ _,.free=>true
 | .arr _ _ _,.free=>true
 | _,_=>false
theorem Ze9 {o o':NObj} (h:ZgG o o'=true):Tx o o':=by
 cases o<;>cases o'<;>simp_all [ZgG,Tx]
def outB (o o':NObj):Bool:=(if o.own=true then ZgG o o' else o'.isFree)&&o'.clO&&decide (o'.tag=0)
def Zax:List NObj→List NObj→Bool
 | o :: os,o' :: r=>outB o o'&&Zax os r
 | [],[]=>true
 | _,_=>false
theorem vr:∀ {os r:List NObj},Zax os r=true→r.length=os.length∧∀ (k:Nat) (o o':NObj),os[k]?=some o→r[k]?=some o'→outB o o'=true
 | [],[],_=>⟨rfl,fun k o o' h=>by simp at h⟩
 | [],_ :: _,h=>by simp[Zax]at h
 | _ :: _,[],h=>by simp[Zax]at h
 | a :: os,b :: r,h=>by
  simp only[Zax,Bool.and_eq_true]at h;obtain ⟨h1,h2⟩:=vr h.2;refine ⟨by simp[h1],fun k o o' e1 e2=>?_⟩;cases k with
  | zero=>simp at e1 e2;subst e1 e2;exact h.1
  | succ k=>exact h2 k o o' (by simpa using e1) (by simpa using e2)
def Ziz (objs outs news:List NObj):Bool:=Zax objs outs&&(news.all (fun o=>o.own&&o.clO&&decide (o.tag=0))&&decide (news.length≤8))
theorem Zp {objs outs news:List NObj} (h:Ziz objs outs news=true):Ends objs outs news:=by
 simp only[Ziz,Bool.and_eq_true]at h;obtain ⟨h1,h2⟩:=vr h.1;refine ⟨h1,fun k o o' e1 e2=>?_,fun k o e=>?_,of_decide_eq_true h.2.2⟩
 ·have:=h2 k o o' e1 e2
  simp only[outB,Bool.and_eq_true]at this;refine ⟨fun ho=>?_,fun ho=>?_,this.1.2,of_decide_eq_true this.2⟩
  ·have h3:=this.1.1;rw[if_pos ho]at h3;exact Ze9 h3
  ·have h3:=this.1.1;rw[if_neg (by rw[ho];simp)]at h3;exact Xg.1 h3
 ·have:=List.all_eq_true.1 h.2.1 o (List.mem_of_getElem? e)
  simp only[Bool.and_eq_true]at this;exact ⟨this.1.1,this.1.2,of_decide_eq_true this.2⟩
attribute [simp low] ZfT
attribute [simp] TG Zd7 Zf2 ZeV Zcq Zci Zc8 Zj1 ZjE ZkN Zkm ZjP TO Zce ZeA YL Zv XX X.ev lk hk UW vM Zcv Zkl ZdI Zl ZgJ Y4 AV.cells AV.one AV.st eqV eqL eq1 EL Zcp ZS Zhu Zeo Zai Zgy z8 Zhz zd zP Vw zi szN
attribute [simp] Zj kid zp kidV NObj.tag NObj.ro NObj.own flV ZjB flF AV.plain ZfH Zfh yw Zav clo AV.t0 t0L Yo AV.cl clL Xr clP Zfe Ze8 Zgz UR tlL AV.tl lo loL Zjn Zkj za yQ apart1 Zil Nm.mx Nm.root Vf wl wrs wr Ya UO NObj.retag yt layL fixO bkN Tt Zas Va Ziz Zax outB ZgG NObj.clO NObj.isFree Zjk X9 VO aA oA lR nR uR List.range List.range.loop
attribute [simp] YD Xf
theorem ZjH (d:List AV→List NObj→Option AV) (hok:ROk d) (args:List AV) (G:NH) (nb:Nat):(rdS d hok).fn args G nb=rdF d args G nb:=rfl
theorem ZhD:Value.oneCell' .nilIface=true:=rfl
theorem ZiD:Value.oneCell' .nilFunc=true:=rfl
theorem Zep:XY []=true:=rfl
theorem Zcn (c:List AV) (r:List (List AV)):XY (c :: r)=(Zbs c&&XY r):=rfl
theorem ZcH (a b:List (List AV)):XY (a++b)=(XY a&&XY b):=by simp[XY]
theorem Zfq:Zbs []=true:=rfl
theorem ZcJ (c:AV) (r:List AV):Zbs (c :: r)=(c.dat&&Zbs r):=rfl
theorem ZbY {l:List (List AV)} (h:XY l=true) (n:Nat):XY (l.take n)=true :=
 List.all_eq_true.2 fun c hc=>List.all_eq_true.1 h c (List.mem_of_mem_take hc)
theorem Zcg {l:List (List AV)} (h:XY l=true) (n:Nat):XY (l.drop n)=true :=
 List.all_eq_true.2 fun c hc=>List.all_eq_true.1 h c (List.mem_of_mem_drop hc)
section
variable (G:NH) (d k:Nat)
theorem ZhB (a:IntKind) (n:Int):lnV G d k (.int a n)=some (.int a n,[],[]):=by cases d<;>rfl
theorem Zfp (b:Bool):lnV G d k (.bool b)=some (.bool b,[],[]):=by cases d<;>rfl
theorem ZhI (b:ByteArray):lnV G d k (.str b)=some (.str b,[],[]):=by cases d<;>rfl
theorem ZhQ:lnV G d k .nsl=some (.nsl,[],[]):=by cases d<;>rfl
theorem ZiR:lnV G d k .bot=some (.bot,[],[]):=by cases d<;>rfl
theorem ZdF (t:TypeId) (a:AV):lnV G d k (.iface t a)=if a.dat=true then some (.iface t a,[],[]) else none:=by cases d<;>rfl
theorem ZhW (v:Value):lnV G d k (.raw v)=if v.oneCell'=true then some (.raw v,[],[]) else none:=by cases d<;>rfl
theorem ZhN (p:Nm) (i n:Nat):lnV G 6 k (.sl p i n)=(match Zhc (Zj G p) i n with
   | some (t,sz,w)=>if XY w=true then some (.sl (.top k) 0 n,[some (p,i)],[.view 0 sz w]) else
    (match VK (lnV G 5) p t i (k+1) w with
    | some (w',ml,os)=>some (.sl (.top k) 0 n,some (p,i) :: ml,.view 0 sz w' :: os)
    | none=>none)
   | none=>none):=rfl
theorem Zi6 (p:Nm) (i n:Nat):lnV G 5 k (.sl p i n)=(match Zhc (Zj G p) i n with
   | some (t,sz,w)=>if XY w=true then some (.sl (.top k) 0 n,[some (p,i)],[.view 0 sz w]) else
    (match VK (lnV G 4) p t i (k+1) w with
    | some (w',ml,os)=>some (.sl (.top k) 0 n,some (p,i) :: ml,.view 0 sz w' :: os)
    | none=>none)
   | none=>none):=rfl
theorem Zjc (p:Nm) (i n:Nat):lnV G 4 k (.sl p i n)=(match Zhc (Zj G p) i n with
   | some (t,sz,w)=>if XY w=true then some (.sl (.top k) 0 n,[some (p,i)],[.view 0 sz w]) else
    (match VK (lnV G 3) p t i (k+1) w with
    | some (w',ml,os)=>some (.sl (.top k) 0 n,some (p,i) :: ml,.view 0 sz w' :: os)
    | none=>none)
   | none=>none):=rfl
theorem ZiU (p:Nm) (i n:Nat):lnV G 3 k (.sl p i n)=(match Zhc (Zj G p) i n with
   | some (t,sz,w)=>if XY w=true then some (.sl (.top k) 0 n,[some (p,i)],[.view 0 sz w]) else
    (match VK (lnV G 2) p t i (k+1) w with
    | some (w',ml,os)=>some (.sl (.top k) 0 n,some (p,i) :: ml,.view 0 sz w' :: os)
    | none=>none)
   | none=>none):=rfl
theorem Zgo (p:Nm) (i f:Nat):lnV G 6 k (.ptr p i f)=(match Zg7 (Zj G p) i with
   | some (t,sz,c)=>(match VK (lnV G 5) p t i (k+1) [c] with
    | some (w',ml,os)=>some (.ptr (.top k) 0 f,some (p,i) :: ml,.view 0 sz w' :: os)
    | none=>none)
   | none=>none):=rfl
theorem ZeX (p:Nm) (i f:Nat):lnV G 5 k (.ptr p i f)=(match Zg7 (Zj G p) i with
   | some (t,sz,c)=>(match VK (lnV G 4) p t i (k+1) [c] with
    | some (w',ml,os)=>some (.ptr (.top k) 0 f,some (p,i) :: ml,.view 0 sz w' :: os)
    | none=>none)
   | none=>none):=rfl
theorem Zfx (p:Nm) (i f:Nat):lnV G 4 k (.ptr p i f)=(match Zg7 (Zj G p) i with
   | some (t,sz,c)=>(match VK (lnV G 3) p t i (k+1) [c] with
    | some (w',ml,os)=>some (.ptr (.top k) 0 f,some (p,i) :: ml,.view 0 sz w' :: os)
    | none=>none)
   | none=>none):=rfl
theorem Zgs (p:Nm) (i f:Nat):lnV G 3 k (.ptr p i f)=(match Zg7 (Zj G p) i with
   | some (t,sz,c)=>(match VK (lnV G 2) p t i (k+1) [c] with
    | some (w',ml,os)=>some (.ptr (.top k) 0 f,some (p,i) :: ml,.view 0 sz w' :: os)
    | none=>none)
   | none=>none):=rfl
theorem Ziv (g:FuncId) (cap:List AV):lnV G 6 k (.fn g cap)=(match Ub (lnV G 5) k cap with
   | some (cap',ml,os)=>some (.fn g cap',ml,os)
   | none=>none):=rfl
theorem Zfi (l:List AV):lnV G 6 k (.agg l)=(match Ub (lnV G 5) k l with
   | some (l',ml,os)=>some (.agg l',ml,os)
   | none=>none):=rfl
theorem Zis (g:FuncId) (cap:List AV):lnV G 5 k (.fn g cap)=(match Ub (lnV G 4) k cap with
   | some (cap',ml,os)=>some (.fn g cap',ml,os)
   | none=>none):=rfl
theorem ZiQ (g:FuncId) (cap:List AV):lnV G 4 k (.fn g cap)=(match Ub (lnV G 3) k cap with
   | some (cap',ml,os)=>some (.fn g cap',ml,os)
   | none=>none):=rfl
end
attribute [simp] ZhD ZiD ZjH rdF Ub VK Zhc Zg7 bkR bk1 Va rOk rsOk rs1 AV.dat ZaF Zed Zep Zcn ZcH Zfq ZcJ ZbY Zcg
attribute [simp] ZhB Zfp ZhI ZhQ ZiR ZdF ZhW ZhN Zi6 Zjc ZiU Zgo ZeX Zfx Zgs Zfi Ziv Zis ZiQ
def TU (w:Int) (lo n:Nat):Int:=w / 2 ^ lo % 2 ^ n
theorem YB (n:Nat):((2 ^ n:Nat):Int)=(2:Int) ^ n:=by simp
theorem YK {n:Int} (h1:0≤n) (h2:n<18446744073709551616):IntKind.wrap .u64 n=n:=by
 rw[IntKind.wrap_u64];omega
theorem Td {a:Nat} (h:a<18446744073709551616):(BitVec.ofInt (IntKind.bits .u64) (a:Int)).toNat=a:=by
 show (BitVec.ofInt 64 (a:Int)).toNat=a;rw[BitVec.toNat_ofInt];omega
theorem ZfR {a:Int} (h1:0≤a) (h2:a<18446744073709551616) {n:Nat} (hn:n≤63):Zah .and .u64 a (2 ^ n - 1)=a % 2 ^ n:=by
 obtain ⟨x,rfl⟩:∃ x:Nat,a=(x:Int):=⟨a.toNat,by omega⟩;have hp:1≤2 ^ n:=Nat.one_le_two_pow;have hlt:2 ^ n≤2 ^ 63:=Nat.pow_le_pow_right (by omega) hn;have e:((2:Int) ^ n - 1)=((2 ^ n - 1:Nat):Int):=by rw[Int.natCast_sub hp,YB];rfl
 have e3:Zah .and .u64 (x:Int) ((2 ^ n - 1:Nat):Int)=IntKind.wrap .u64 ((x &&& (2 ^ n - 1):Nat):Int):=by
  show IntKind.wrap .u64 ((BitVec.ofInt (IntKind.bits .u64) (x:Int) &&& BitVec.ofInt (IntKind.bits .u64) ((2 ^ n - 1:Nat):Int)).toNat:Int)=_;rw[BitVec.toNat_and,Td (by omega),Td (by omega)]
 rw[e,e3,Nat.and_two_pow_sub_one_eq_mod,← YB];have hm:x % 2 ^ n<2 ^ n:=Nat.mod_lt _ (by omega);rw[YK (by omega) (by omega)];exact Int.natCast_emod x (2 ^ n)
theorem Zkv {a v:Int} {lo:Nat} (h1:0≤a) (h2:a<2 ^ lo) (h3:0≤v) (h4:a+v*2 ^ lo<18446744073709551616):Zah .or .u64 a (v*2 ^ lo)=a+v*2 ^ lo:=by
 obtain ⟨x,rfl⟩:∃ x:Nat,a=(x:Int):=⟨a.toNat,by omega⟩;obtain ⟨y,rfl⟩:∃ y:Nat,v=(y:Int):=⟨v.toNat,by omega⟩;have e:((y:Int)*2 ^ lo)=((y*2 ^ lo:Nat):Int):=by rw[Int.natCast_mul,YB]
 rw[e]at h4⊢;have hx:x<2 ^ lo:=by rw[← YB]at h2;exact_mod_cast h2
 have hor:x ||| y*2 ^ lo=x+y*2 ^ lo:=by
  have:=Nat.two_pow_add_eq_or_of_lt hx y;rw[Nat.or_comm,Nat.mul_comm y,← this];omega
 have e3:Zah .or .u64 (x:Int) ((y*2 ^ lo:Nat):Int)=IntKind.wrap .u64 ((x ||| y*2 ^ lo:Nat):Int):=by
  show IntKind.wrap .u64 ((BitVec.ofInt (IntKind.bits .u64) (x:Int) ||| BitVec.ofInt (IntKind.bits .u64) ((y*2 ^ lo:Nat):Int)).toNat:Int)=_;rw[BitVec.toNat_or,Td (by omega),Td (by omega)]
 rw[e3,hor,YK (by omega) (by omega)];exact Int.natCast_add _ _
theorem Zi4 {a:Int} {n:Nat} (hn:n≤64):Zjj .u64 a (n:Int)=a / 2 ^ n:=by
 unfold Zjj;have:min (n:Int).toNat (IntKind.bits .u64)=n:=by
  show min n 64=n;omega
 rw[Int.toNat_natCast]at this;rw[Int.toNat_natCast,this];exact Int.fdiv_eq_ediv_of_nonneg _ (Int.le_of_lt (Int.pow_pos (by omega)))
theorem ZdU {a:Int} {n:Nat} (hn:n≤64) (h1:0≤a) (h2:a*2 ^ n<18446744073709551616):ZiP .u64 a (n:Int)=a*2 ^ n:=by
 unfold ZiP;have:min n (IntKind.bits .u64)=n:=by
  show min n 64=n;omega
 rw[Int.toNat_natCast,this];exact YK (Int.mul_nonneg h1 (Int.le_of_lt (Int.pow_pos (by omega)))) h2
theorem XM (w:Int) (lo n:Nat):0≤TU w lo n∧TU w lo n<2 ^ n:=by
 unfold TU;have:(0:Int)<2 ^ n:=Int.pow_pos (by omega);exact ⟨Int.emod_nonneg _ (by omega),Int.emod_lt_of_pos _ this⟩
def ecC (E:FuncId→Option Spec) (nb:Nat) (K:TL→HL→Prop):List MO→Nat→TL→HL→Prop
 | [],_,tl,hl=>K tl hl
 | mo :: r,i,tl,hl=>match mo.g with
  | none=>(match YL E (lk tl) (hk hl) (nb+8*i) mo.op with
   | some q=>q.n=8∧ecC E nb K r (i+1) (UW tl mo.dst q.v) (vM hl q.hs)
   | none=>False)
  | some (s,want)=>(match lk tl s with
   | .bool b=>if b=want then (match YL E (lk ((s,.bool want) :: tl)) (hk hl) (nb+8*i) mo.op with
     | some q=>q.n=8∧ecC E nb K r (i+1) (UW ((s,.bool want) :: tl) mo.dst q.v) (vM hl q.hs)
     | none=>False)
    else ecC E nb K r (i+1) (UW ((s,.bool (!want)) :: tl) mo.dst (.raw undef)) hl
   | .raw v=>if US v=true then ecC E nb K r (i+1) (UW tl mo.dst (.raw undef)) hl else False
   | _=>False)
section
variable (E:FuncId→Option Spec) (nb:Nat) (K:TL→HL→Prop) (r:List MO) (i:Nat) (tl:TL) (hl:HL) (dst:Option Nat)
def stC (o:Option Res):Prop :=
 match o with
 | some q=>q.n=8∧ecC E nb K r (i+1) (UW tl dst q.v) (vM hl q.hs)
 | none=>False
theorem Zgb (v:AV) (hs:List (Nat×NObj)) (rd:List Nat):stC E nb K r i tl hl dst (some ⟨v,hs,rd,8⟩)=ecC E nb K r (i+1) (UW tl dst v) (vM hl hs):=by simp only[stC,true_and]
theorem Zgh:stC E nb K r i tl hl dst none=False:=by simp only[stC]
theorem ZhC (c:Prop) [Decidable c] (x y:Option Res):stC E nb K r i tl hl dst (if c then x else y)=((c→stC E nb K r i tl hl dst x)∧(¬ c→stC E nb K r i tl hl dst y)):=by
 by_cases hc:c
 ·simp[hc]
 ·simp[hc]
def gdC (op:MOp) (s:Nat) (want:Bool) (v:AV):Prop :=
 match v with
 | .bool b=>if b=want then stC E nb K r i ((s,.bool want) :: tl) hl dst (YL E (lk ((s,.bool want) :: tl)) (hk hl) (nb+8*i) op) else ecC E nb K r (i+1) (UW ((s,.bool (!want)) :: tl) dst (.raw undef)) hl
 | .raw v=>if US v=true then ecC E nb K r (i+1) (UW tl dst (.raw undef)) hl else False
 | _=>False
theorem Zfl (op:MOp) (s:Nat) (want b:Bool):gdC E nb K r i tl hl dst op s want (.bool b)=((b=want→stC E nb K r i ((s,.bool want) :: tl) hl dst (YL E (lk ((s,.bool want) :: tl)) (hk hl) (nb+8*i) op))∧(¬ b=want→ecC E nb K r (i+1) (UW ((s,.bool (!want)) :: tl) dst (.raw undef)) hl)):=by
 by_cases h:b=want<;>simp[gdC,h]
theorem ZkB (op:MOp) (s:Nat):gdC E nb K r i tl hl dst op s true (.bool true)=stC E nb K r i ((s,.bool true) :: tl) hl dst (YL E (lk ((s,.bool true) :: tl)) (hk hl) (nb+8*i) op):=by simp[gdC]
theorem Zkk (op:MOp) (s:Nat):gdC E nb K r i tl hl dst op s false (.bool false)=stC E nb K r i ((s,.bool false) :: tl) hl dst (YL E (lk ((s,.bool false) :: tl)) (hk hl) (nb+8*i) op):=by simp[gdC]
theorem ZjF (op:MOp) (s:Nat):gdC E nb K r i tl hl dst op s true (.bool false)=ecC E nb K r (i+1) (UW ((s,.bool false) :: tl) dst (.raw undef)) hl:=by simp[gdC]
theorem ZjG (op:MOp) (s:Nat):gdC E nb K r i tl hl dst op s false (.bool true)=ecC E nb K r (i+1) (UW ((s,.bool true) :: tl) dst (.raw undef)) hl:=by simp[gdC]
theorem Zkd (op:MOp) (s:Nat) (want:Bool):gdC E nb K r i tl hl dst op s want (.raw undef)=ecC E nb K r (i+1) (UW tl dst (.raw undef)) hl:=by simp only[gdC];exact if_pos rfl
theorem ZhH:ecC E nb K [] i tl hl=K tl hl:=rfl
theorem Zkn (op:MOp):ecC E nb K (MO.mk dst op none :: r) i tl hl=stC E nb K r i tl hl dst (YL E (lk tl) (hk hl) (nb+8*i) op):=by
 simp only[ecC,stC]
theorem ZjW (op:MOp) (s:Nat) (want:Bool):ecC E nb K (MO.mk dst op (some (s,want)) :: r) i tl hl=gdC E nb K r i tl hl dst op s want (lk tl s):=by
 simp only[ecC,gdC,stC]
end
section
variable {P:Program} {E:FuncId→Option Spec} {w0:World} {S:Sc} {N:Nat} {D:List Deferred}
theorem seqC (hE:Zd P E) {ops:Array Oper} {nb:Nat} {K:TL→HL→Prop} {Q:Exit→Act→World→Prop} {m:Nat}:∀ (mos:List MO) (i:Nat) (Es:Env→Prop) (U:Nm→Prop) (tl:TL) (hl:HL) (a:Act) (w:World),
  (∀ tl hl Es U a w,K tl hl→Sat w0 S Es U (lk tl) (HF (hk hl)) a w→(∀ x:Nm,nb+8*(i+mos.length)≤x.mx→U x)→a.defers=D→a.tmps.size=N→wpOps P ops Q (List.range' (i+mos.length) m) a w) →
  ecC E nb K mos i tl hl→(∀ k mo,mos[k]?=some mo→∃ o,ops[i+k]?=some o∧rO P ops o=some mo∧∀ d,mo.dst=some d→d<N)→Sat w0 S Es U (lk tl) (HF (hk hl)) a w→(∀ x:Nm,nb+8*i≤x.mx→U x)→a.defers=D→a.tmps.size=N→wpOps P ops Q (List.range' i (mos.length+m)) a w
 | [],i,Es,U,tl,hl,a,w,hK,h,_,hsat,hU,hD,hN=>by
  have:=hK tl hl Es U a w h hsat (fun x hx=>hU x (by simpa using hx)) hD hN;simpa using this
 | mo :: r,i,Es,U,tl,hl,a,w,hK,h,hops,hsat,hU,hD,hN=>by
  obtain ⟨o,ho,hro,hdst⟩:=hops 0 mo rfl;have go:∀ (tl':TL) {q:Res},lk tl'=lk tl→XH E (lk tl) (hk hl) (nm nb i) mo=some q→q.n=8→ecC E nb K r (i+1) (UW tl' mo.dst q.v) (vM hl q.hs)→wpOps P ops Q (List.range' i ((mo :: r).length+m)) a w:=by
   intro tl' q htl h1 h8 h2;rw[show (mo :: r).length+m=(r.length+m)+1 from by simp only[List.length_cons];omega,List.range'_succ,wpOps_cons];refine ZhX hE hsat ho hro h1 (fun x hx=>hU x (by simp only[nm]at hx;omega)) (by rw[hN];exact hdst) fun Es' a' w' hsat' hd' hn' _=>?_;rw[← htl,← vb,← Zcz]at hsat';refine seqC hE r (i+1) Es' _ _ _ a' w' (fun tl hl Es U a w k1 k2 k3 k4 k5=>?_) h2 (fun k mo' hk=>?_) hsat' (fun x hx=>⟨hU x (by omega),fun hb=>by simp only[nm]at hb;omega⟩) (hd'.trans hD) (hn'.trans hN)
   ·have:=hK tl hl Es U a w k1 k2 (fun x hx=>k3 x (by simp only[List.length_cons]at hx;omega)) k4 k5
    rw[show i+(mo :: r).length=i+1+r.length from by simp only[List.length_cons];omega]at this;exact this
   ·obtain ⟨o',g1,g2⟩:=hops (k+1) mo' (by simpa using hk)
    exact ⟨o',by rw[show i+1+k=i+(k+1) from by omega];exact g1,g2⟩
  have lkc:∀ {s:Nat} {v:AV},lk tl s=v→lk ((s,v) :: tl)=lk tl:=fun {s v} hv=>funext fun t=>by
   by_cases e:t=s
   ·subst e;simp[lk,hv]
   ·simp[lk,e]
  simp only[ecC]at h;cases hg:mo.g with
  | none =>
   simp only[hg]at h;split at h
   ·rename_i q hq
    exact go tl rfl (by simp only[XH,hg];exact hq) h.1 h.2
   ·cases h
  | some sw =>
   obtain ⟨s,want⟩:=sw;simp only[hg]at h;split at h
   ·rename_i b hb
    split at h
    ·rename_i e
     subst e;rw[lkc hb]at h;split at h
     ·rename_i q hq
      exact go _ (lkc hb) (by simp only[XH,hg,hb,if_pos rfl];exact hq) h.1 h.2
     ·cases h
    ·rename_i e
     have e':(!want)=b:=(by cases b<;>cases want<;>simp at e⊢);rw[e']at h;exact go _ (lkc hb) (q:=⟨.raw undef,[],[],8⟩) (by simp only[XH,hg,hb,if_neg e]) rfl h
   ·rename_i v hb
    split at h
    ·rename_i e
     exact go tl rfl (q:=⟨.raw undef,[],[],8⟩) (by simp only[XH,hg,hb,if_pos e]) rfl h
    ·cases h
   ·cases h
end
attribute [simp] ZhH Zkn ZjW Zgb Zgh ZhC ZkB Zkk ZjF ZjG Zkd
attribute [simp low] Zfl
class ZR (G:Prop) (H:outParam Prop):Prop where
 h:H→G
section
variable {P:Program} {w0:World} {S:Sc} {N:Nat} {D:List Deferred} {s:St} {Q:Exit→St→Prop}
instance {x y:MCode}:ZR (Wm P w0 S N D (.seq x y) s Q) (Wm P w0 S N D x s (vE P w0 S N D y Q)):=⟨Zhe⟩
instance:ZR (Wm P w0 S N D .skip s Q) (Q .normal s):=⟨Zeq⟩
instance:ZR (Wm P w0 S N D .ret s Q) (Q .ret s):=⟨Zg2⟩
instance {id:Nat} {x:MCode}:ZR (Wm P w0 S N D (.block id x) s Q) (Wm P w0 S N D x s (Yp id Q)):=⟨Zbb⟩
instance {id:Nat}:ZR (Wm P w0 S N D (.exit id) s Q) (Q (.exit id) s):=⟨ZdX⟩
instance {b:MCode}:ZR (vE P w0 S N D b Q .normal s) (Wm P w0 S N D b s Q):=⟨vA⟩
instance {b:MCode}:ZR (vE P w0 S N D b Q .ret s) (Q .ret s):=⟨ZdE⟩
instance {b:MCode} {id:Nat}:ZR (vE P w0 S N D b Q (.exit id) s) (Q (.exit id) s):=⟨Zb0⟩
instance {id:Nat}:ZR (Yp id Q .normal s) (Q .normal s):=⟨xz⟩
instance {id:Nat}:ZR (Yp id Q .ret s) (Q .ret s):=⟨Zb9⟩
instance {id:Nat}:ZR (Yp id Q (.exit id) s) (Q .normal s):=⟨ZaB⟩
instance {m:Nat} {α:Type} {I:α→St} {R:α→Prop} {μ:α→Nat} {x:α}:ZR (vK m I R μ x Q .ret s) (Q .ret s):=⟨Zej⟩
instance {m:Nat} {α:Type} {I:α→St} {R:α→Prop} {μ:α→Nat} {x:α} {id:Nat}:ZR (vK m I R μ x Q (.exit id) s) (Q (.exit id) s):=⟨Zb6⟩
instance {c:MCode} {n:Nat}:ZR (unK P w0 S N D c Q n .ret s) (Q .ret s):=⟨Zio⟩
instance {c:MCode} {n id:Nat}:ZR (unK P w0 S N D c Q n (.exit id) s) (Q (.exit id) s):=⟨ZeM⟩
instance {c:MCode} {n:Nat}:ZR (unK P w0 S N D c Q n .normal s) (Tb P w0 S N D c Q n s):=⟨Zb4⟩
instance {c:MCode} {n:Nat}:ZR (Tb P w0 S N D c Q (n+1) s) (Wm P w0 S N D c s (unK P w0 S N D c Q n)):=⟨zN⟩
end
class KR (N:Nat) (mos:List MO) where
 ks:List Nat
 ok:Zcs N mos=true
class KD (N:Nat) (mos:List MO) (pr:List (List Nat)) where
 cl:List (List Nat)
 ks:List Nat
 ok:T8 N mos pr cl=true
section
variable {P:Program} {E:FuncId→Option Spec} {w0:World} {S:Sc} {N:Nat} {D:List Deferred} {s:St} {Q:Exit→St→Prop}
end
end Go.W
