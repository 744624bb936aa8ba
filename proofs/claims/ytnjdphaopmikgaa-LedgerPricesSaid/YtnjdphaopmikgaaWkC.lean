/- The walk's rules in the form in which a proof uses them: what 'simp' evaluates, and what it must not enter. Calls that only read, for the walk's simplifier. Bits of words: fields read and put together. A region in the text's order, without a log, and cut into parts between which temporaries go. -/
import Derived.Test.YtnjdphaopmikgaaWcA
import Derived.Test.YtnjdphaopmikgaaWRb
namespace Go.W
set_option linter.unusedSimpArgs false
set_option linter.unusedVariables false
abbrev TL:=List (Nat×AV)
abbrev HL:=List (Nat×NObj)
abbrev LG:=List (Nat×List Nat×List Nat)
def Uc (E:FuncId→Option Spec) (nb:Nat) (r:List MO) (i:Nat) (tl:TL) (hl:HL) (lg:LG) (dst:Option Nat) (o:Option Res):Option (TL×HL×LG) :=
 match o with
 | some q=>Yx E nb r (i+1) (Vj tl dst q.v) (U4 hl q.hs) (lg++[(i,q.hs.map (·.1),q.rd)])
 | none=>none
section
variable (E:FuncId→Option Spec) (nb:Nat) (r:List MO) (i:Nat) (tl:TL) (hl:HL) (lg:LG) (dst:Option Nat)
theorem xJ (v:AV) (hs:List (Nat×NObj)) (rd:List Nat):Uc E nb r i tl hl lg dst (some ⟨v,hs,rd⟩)=Yx E nb r (i+1) (Vj tl dst v) (U4 hl hs) (lg++[(i,hs.map (·.1),rd)]):=rfl
theorem xr:Uc E nb r i tl hl lg dst none=none:=rfl
theorem vk (c:Prop) [Decidable c] (x y:Option Res):Uc E nb r i tl hl lg dst (if c then x else y)=if c then Uc E nb r i tl hl lg dst x else Uc E nb r i tl hl lg dst y:=by split<;>rfl
def gdK (op:MOp) (s:Nat) (want:Bool) (v:AV):Option (TL×HL×LG) :=
 match v with
 | .bool b=>if b=want then Uc E nb r i ((s,.bool want) :: tl) hl lg dst (Ye E (lk ((s,.bool want) :: tl)) (hk hl) (nb+8*i) op) else Yx E nb r (i+1) (Vj ((s,.bool (!want)) :: tl) dst (.raw undef)) hl (lg++[(i,[],[])])
 | .raw v=>if VC v=true then Yx E nb r (i+1) (Vj tl dst (.raw undef)) hl (lg++[(i,[],[])]) else none
 | _=>none
theorem ZbG (op:MOp) (s:Nat) (want b:Bool):gdK E nb r i tl hl lg dst op s want (.bool b)=if b=want then Uc E nb r i ((s,.bool want) :: tl) hl lg dst (Ye E (lk ((s,.bool want) :: tl)) (hk hl) (nb+8*i) op) else Yx E nb r (i+1) (Vj ((s,.bool (!want)) :: tl) dst (.raw undef)) hl (lg++[(i,[],[])]):=rfl
theorem Zeq (op:MOp) (s:Nat):gdK E nb r i tl hl lg dst op s true (.bool true)=Uc E nb r i ((s,.bool true) :: tl) hl lg dst (Ye E (lk ((s,.bool true) :: tl)) (hk hl) (nb+8*i) op):=rfl
theorem Zep (op:MOp) (s:Nat):gdK E nb r i tl hl lg dst op s false (.bool false)=Uc E nb r i ((s,.bool false) :: tl) hl lg dst (Ye E (lk ((s,.bool false) :: tl)) (hk hl) (nb+8*i) op):=rfl
theorem Zd2 (op:MOp) (s:Nat):gdK E nb r i tl hl lg dst op s true (.bool false)=Yx E nb r (i+1) (Vj ((s,.bool false) :: tl) dst (.raw undef)) hl (lg++[(i,[],[])]):=rfl
theorem Zdy (op:MOp) (s:Nat):gdK E nb r i tl hl lg dst op s false (.bool true)=Yx E nb r (i+1) (Vj ((s,.bool true) :: tl) dst (.raw undef)) hl (lg++[(i,[],[])]):=rfl
theorem ZdG (op:MOp) (s:Nat) (want:Bool):gdK E nb r i tl hl lg dst op s want (.raw undef)=Yx E nb r (i+1) (Vj tl dst (.raw undef)) hl (lg++[(i,[],[])]):=rfl
theorem Zaa:Yx E nb [] i tl hl lg=some (tl,hl,lg):=rfl
theorem ZbC (op:MOp):Yx E nb (MO.mk dst op none :: r) i tl hl lg=Uc E nb r i tl hl lg dst (Ye E (lk tl) (hk hl) (nb+8*i) op):=by
 simp only[Yx,Uc];cases Ye E (lk tl) (hk hl) (nb+8*i) op<;>rfl
theorem Zbs (op:MOp) (s:Nat) (want:Bool):Yx E nb (MO.mk dst op (some (s,want)) :: r) i tl hl lg=gdK E nb r i tl hl lg dst op s want (lk tl s):=by
 simp only[Yx,gdK];cases lk tl s with
 | bool b =>
  simp only;split
  ·simp only[Uc]
   cases Ye E (lk ((s,.bool want) :: tl)) (hk hl) (nb+8*i) op<;>rfl
  ·rfl
 | _=>rfl
end
def Vc (seen:List Nat):List (Nat×NObj)→List (Nat×NObj)
 | []=>[]
 | (k,o) :: r=>if seen.contains k=true then Vc seen r else (k,o) :: Vc (k :: seen) r
theorem Um:∀ (hl:List (Nat×NObj)) (seen:List Nat) (x:Nat),x ∉ seen→hk (Vc seen hl) x=hk hl x
 | [],_,_,_=>rfl
 | (k,o) :: r,seen,x,h=>by
  simp only[Vc];split
  ·rename_i hs
   have hne:x≠k:=fun e=>h (by rw[e];simpa using hs);rw[Um r seen x h,hk,if_neg hne]
  ·simp only[hk]
   split
   ·rfl
   ·rename_i hne
    exact Um r (k :: seen) x (by simp[hne,h])
section
variable {P:Program} {E:FuncId→Option Spec} {w0:World} {S:Sc} {N:Nat} {D:List Deferred} {s:St} {Q:Exit→St→Prop}
theorem vV {c:MCode} (h:Wm P w0 S N D c s fun e s' => Q e ⟨s'.tl,Vc [] s'.hl,s'.nb⟩):Wm P w0 S N D c s Q:=fun code hc a w hs =>
 wp_mono (h code hc a w hs) fun _ a w ⟨s',⟨⟨Es,hs⟩,h1,h2⟩,hq⟩ => by
  have e:hk (Vc [] s'.hl)=hk s'.hl:=funext fun x=>Um _ _ _ (by simp);exact ⟨_,⟨⟨Es,by show Sat w0 S Es _ (lk s'.tl) (HF (hk (Vc [] s'.hl))) a w;rw[e];exact hs⟩,h1,h2⟩,hq⟩
theorem wdraw (hE:Zd P E) (hmix:P.follows .mixedOrders=true) {mos:List MO} {pr:List (List Nat)} (cl:List (List Nat)) (ks:List Nat) (hok:yz N mos pr cl=true) (h:∀ K:List (Nat×AV)→List (Nat×NObj)→Prop,(∀ tl hl,Q .normal ⟨tl,hl,s.nb+8*mos.length⟩→K tl hl)→XC (Yx E s.nb mos 0 s.tl s.hl []) fun x=>Zcf (xe cl) x.2.2=true∧K (VG ks x.1) (Vc [] x.2.1)):Wm P w0 S N D (.draw mos pr) s Q :=
 vV (ZcU hE hmix cl ks hok (h (fun tl hl=>Q .normal ⟨tl,hl,s.nb+8*mos.length⟩) fun _ _ h=>h))
theorem T6 {b:MCode} (h:Wm P w0 S N D b s Q):T4 P w0 S N D b Q .normal s:=h
theorem vv {b:MCode} (h:Q .ret s):T4 P w0 S N D b Q .ret s:=h
theorem xF {b:MCode} {id:Nat} (h:Q (.exit id) s):T4 P w0 S N D b Q (.exit id) s:=h
theorem TJ {id:Nat} (h:Q .normal s):Y9 id Q .normal s:=h
theorem xq {id:Nat} (h:Q .ret s):Y9 id Q .ret s:=h
theorem yj {id:Nat} (h:Q .normal s):Y9 id Q (.exit id) s:=by simpa [Y9] using h
theorem zX {id j:Nat} (hne:j≠id) (h:Q (.exit j) s):Y9 id Q (.exit j) s:=by simpa [Y9,hne] using h
theorem vW {m:Nat} {α:Type} {I:α→St} {R:α→Prop} {μ:α→Nat} {x:α} (h:Q .ret s):va m I R μ x Q .ret s:=h
theorem yZ {m:Nat} {α:Type} {I:α→St} {R:α→Prop} {μ:α→Nat} {x:α} {id:Nat} (h:Q (.exit id) s):va m I R μ x Q (.exit id) s:=h
end
def EL:List (FuncId×Spec)→FuncId→Option Spec
 | [],_=>none
 | (k,s) :: r,f=>if f=k then some s else EL r f
theorem Zf {P:Program}:∀ {l:List (FuncId×Spec)},(∀ p,p∈l→Sound P p.1 p.2)→Zd P (EL l)
 | [],_,f,sp,h=>by cases h
 | (k,s) :: r,hl,f,sp,h=>by
  simp only[EL]at h;split at h
  ·rename_i e;injection h with h;subst e h;exact hl _ List.mem_cons_self
  ·exact Zf (fun p hp=>hl p (List.mem_cons_of_mem _ hp)) f sp h
theorem Zh {n:Int} (h1:-9223372036854775808≤n) (h2:n≤9223372036854775807):IntKind.wrap .i64 n=n:=by
 rw[IntKind.wrap_i64];omega
theorem ZbD (ms:Yj) (d:List AV→Option Ans) (hok:NOk ms d) (args:List AV) (G:NH) (nb:Nat):(Zw ms d hok).fn args G nb=yX ms d args G nb:=rfl
theorem ZbM {α β:Type} (c:Prop) [Decidable c] (x y:Option α) (f:α→β):Option.map f (if c then x else y)=if c then Option.map f x else Option.map f y:=by split<;>rfl
def flF (p:Nm) (t j:Nat):Nat→List AV→List AV
 | _,[]=>[]
 | f,v :: r=>flV p t j f v :: flF p t j (f+1) r
theorem ZaF (p:Nm) (t j:Nat):∀ (c:List AV) (f k:Nat),(flF p t j f c)[k]?=(c[k]?).map (flV p t j (f+k))
 | [],f,k=>by simp[flF]
 | v :: r,f,0=>by simp[flF]
 | v :: r,f,k+1=>by rw[flF,List.getElem?_cons_succ,List.getElem?_cons_succ,ZaF p t j r (f+1) k];congr 2;omega
theorem Zeb (p:Nm) (t j:Nat) (c:List AV):flC p t j c=flF p t j 0 c:=by
 apply List.ext_getElem?;intro k;rw[Yi,ZaF,Nat.zero_add]
theorem Za4 {α:Type} (f:α→List AV) (l:List α):Xc (l.map f)=l.map (fun x=>t0L (f x)):=by
 induction l with
 | nil=>rfl
 | cons a l ih=>simp[Xc,ih]
theorem Za8 {α:Type} (f:α→List AV) (l:List α):VW (l.map f)=l.all (fun x=>clL (f x)):=by
 induction l with
 | nil=>rfl
 | cons a l ih=>simp[VW,ih]
theorem ZaN {α:Type} (n:Nat) (f:α→List AV) (l:List α):V4 n (l.map f)=l.all (fun x=>tlL n (f x)):=by
 induction l with
 | nil=>rfl
 | cons a l ih=>simp[V4,ih]
def anB:Nat→List (Nat×Option Nat)→Bool
 | 0,_=>true
 | n+1,pl=>decide (lkp pl n=some (some n))&&anB n pl
theorem ZbQ:∀ {m:Nat} {pl:List (Nat×Option Nat)},anB m pl=true→∀ x,x<m→lkp pl x=some (some x)
 | 0,_,_,x,h=>absurd h (Nat.not_lt_zero x)
 | n+1,pl,h,x,hx=>by
  simp only[anB,Bool.and_eq_true]at h;by_cases e:x=n
  ·subst e;exact of_decide_eq_true h.1
  ·exact ZbQ h.2 x (by omega)
def plB (m:Nat) (pl:List (Nat×Option Nat)) (nb:Nat):Bool:=anB m pl&&pl.all (fun p=>decide (p.1<nb))&&decide ((pl.filterMap (·.2)).Nodup)
theorem LeN.mk' {m:Nat} {pl:List (Nat×Option Nat)} {s s':St} (h:plB m pl s'.nb=true) (ht:∀ p,p∈s'.tl→Ren (Yu pl (hk s.hl) (hk s'.hl)) (lk s.tl p.1) p.2)
  (ho:∀ p,p∈s'.hl→p.2.tag<s'.nb∧(match lkp pl p.1 with
  | some (some y)=>NLe (Yu pl (hk s.hl) (hk s'.hl)) (hk s.hl y) p.2
  | some none=>p.2.none
  | none=>p.2=.free)):LeN m pl s s':=by
 simp only[plB,Bool.and_eq_true]at h
 exact ⟨ZbQ h.1.1,fun p hp=>of_decide_eq_true (List.all_eq_true.1 h.1.2 p hp),of_decide_eq_true h.2,ht,ho⟩
section
variable (P:Program) (w0:World) (S:Sc) (N:Nat) (D:List Deferred) (c:MCode) (Q:Exit→St→Prop)
def VT:Nat→St→Prop
 | 0,_=>False
 | n+1,s=>Wm P w0 S N D c s fun e s' => match e with
  | .normal=>VT n s'
  | e=>Q e s'
def unK (n:Nat):Exit→St→Prop
 | .normal,s=>VT P w0 S N D c Q n s
 | e,s=>Q e s
end
section
variable {P:Program} {w0:World} {S:Sc} {N:Nat} {D:List Deferred} {c:MCode} {Q:Exit→St→Prop} {s:St}
theorem ye {n:Nat} (h:Wm P w0 S N D c s (unK P w0 S N D c Q n)):VT P w0 S N D c Q (n+1) s:=ZcD h fun e s' hq=>by cases e<;>exact hq
theorem xG {n:Nat} (h:VT P w0 S N D c Q n s):unK P w0 S N D c Q n .normal s:=h
theorem ZcI {n:Nat} (h:Q .ret s):unK P w0 S N D c Q n .ret s:=h
theorem Za3 {n:Nat} {id:Nat} (h:Q (.exit id) s):unK P w0 S N D c Q n (.exit id) s:=h
theorem Yg (n:Nat) (h:VT P w0 S N D c Q n s):Wm P w0 S N D (.loop c) s Q:=fun code hc a w hs=>by
 cases code<;>simp only[rC,reduceCtorEq,Option.some.injEq]at hc
 case loop cc =>
  cases hq:rC P cc with
  | none=>simp[hq]at hc
  | some c' =>
   simp only[hq,Option.map_some,Option.some.injEq,MCode.loop.injEq]at hc;subst hc;intro b k cs;have key:∀ n s,VT P w0 S N D c' Q n s→∀ a w,SatS w0 S N D s a w →
     ∃ e a' w',(∃ s',SatS w0 S N D s' a' w'∧Q e s')∧Arrives P (lone (b.at a (.code cc :: .inLoop cc :: k)) cs w) b k cs e a' w':=by
    intro n
    induction n with
    | zero=>intro s h;exact h.elim
    | succ n ih =>
     intro s h a w hsat;obtain ⟨e,a₁,w₁,⟨s1,hs1,hq1⟩,harr⟩:=h cc hq a w hsat b (.inLoop cc :: k) cs;cases e with
     | normal =>
      obtain ⟨e₂,a₂,w₂,hq₂,harr₂⟩:=ih s1 hq1 a₁ w₁ hs1;exact ⟨e₂,a₂,w₂,hq₂,.of_steps (Steps.trans harr (.one step_inLoop)) harr₂⟩
     | exit id=>exact ⟨_,a₁,w₁,⟨s1,hs1,hq1⟩,.pass (x:=.inLoop cc) rfl (fun _ _=>.inl (by simp)) harr⟩
     | goto l=>exact ⟨_,a₁,w₁,⟨s1,hs1,hq1⟩,.pass (x:=.inLoop cc) rfl (fun _ _=>.inl (by simp)) harr⟩
     | ret=>exact ⟨_,a₁,w₁,⟨s1,hs1,hq1⟩,.pass (x:=.inLoop cc) rfl (fun _ _=>.inl (by simp)) harr⟩
     | panic ch=>exact ⟨_,a₁,w₁,⟨s1,hs1,hq1⟩,.pass (x:=.inLoop cc) rfl (fun _ _=>.inl (by simp)) harr⟩
     | outgrown=>exact ⟨_,a₁,w₁,⟨s1,hs1,hq1⟩,.pass (x:=.inLoop cc) rfl (fun _ _=>.inl (by simp)) harr⟩
   obtain ⟨e,a',w',hq,harr⟩:=key n s h a w hs;exact ⟨e,a',w',hq,.of_steps (.one step_loop) harr⟩
 all_goals ((repeat' (split at hc))<;>first|(cases hc;done)|(simp only[Option.map_eq_some_iff,reduceCtorEq,and_false,exists_false]at hc;done))
end
mutual
def prs:AV→AV→List (Nat×Option Nat)
 | .ptr (.top y) _ _,.ptr (.top x) _ _=>[(x,some y)]
 | .sl (.top y) _ _,.sl (.top x) _ _=>[(x,some y)]
 | .nsl,.sl (.top x) _ _=>[(x,none)]
 | .fn _ c,.fn _ c' => Th c c'
 | .iface _ a,.iface _ a' => prs a a'
 | .agg l,.agg l' => Th l l'
 | .tup l,.tup l' => Th l l'
 | _,_=>[]
def Th:List AV→List AV→List (Nat×Option Nat)
 | a :: as,b :: bs=>prs a b++Th as bs
 | _,_=>[]
end
def ddL:List (Nat×Option Nat)→List (Nat×Option Nat)
 | []=>[]
 | p :: r=>p :: (ddL r).filter (fun q=>decide (q.1≠p.1))
def idL:Nat→List (Nat×Option Nat)
 | 0=>[]
 | n+1=>(n,some n) :: idL n
def prT (tl:List (Nat×AV)):List (Nat×AV)→List (Nat×Option Nat)
 | []=>[]
 | (k,v) :: r=>prs (lk tl k) v++prT tl r
def Ui (m:Nat) (s s':St):List (Nat×Option Nat):=ddL (idL m++prT s.tl s'.tl)
theorem Imp.auto {m:Nat} {s s':St} (h:plB m (Ui m s s') s'.nb=true) (ht:∀ p,p∈s'.tl→Ren (Yu (Ui m s s') (hk s.hl) (hk s'.hl)) (lk s.tl p.1) p.2)
  (ho:∀ p,p∈s'.hl→p.2.tag<s'.nb∧(match lkp (Ui m s s') p.1 with
  | some (some y)=>NLe (Yu (Ui m s s') (hk s.hl) (hk s'.hl)) (hk s.hl y) p.2
  | some none=>p.2.none
  | none=>p.2=.free)):Imp m s s':=Imp.le _ (LeN.mk' h ht ho)
def Zbc:NObj→NObj→Bool
 | .cells _ _,.cells _ _=>true
 | .arr _ _ els,.arr _ _ els' => decide (els'.length=els.length)
 | .cells _ _,.free=>true
 | .arr _ _ _,.free=>true
 | _,_=>false
theorem Zbd {o o':NObj} (h:Zbc o o'=true):Vi o o':=by
 cases o<;>cases o'<;>simp_all [Zbc,Vi]
def outB (o o':NObj):Bool:=(if o.own=true then Zbc o o' else o'.isFree)&&o'.clO&&decide (o'.tag=0)
def zZ:List NObj→List NObj→Bool
 | o :: os,o' :: r=>outB o o'&&zZ os r
 | [],[]=>true
 | _,_=>false
theorem TZ:∀ {os r:List NObj},zZ os r=true→r.length=os.length∧∀ (k:Nat) (o o':NObj),os[k]?=some o→r[k]?=some o'→outB o o'=true
 | [],[],_=>⟨rfl,fun k o o' h=>by simp at h⟩
 | [],_ :: _,h=>by simp[zZ]at h
 | _ :: _,[],h=>by simp[zZ]at h
 | a :: os,b :: r,h=>by
  simp only[zZ,Bool.and_eq_true]at h;obtain ⟨h1,h2⟩:=TZ h.2;refine ⟨by simp[h1],fun k o o' e1 e2=>?_⟩;cases k with
  | zero=>simp at e1 e2;subst e1 e2;exact h.1
  | succ k=>exact h2 k o o' (by simpa using e1) (by simpa using e2)
def Zdg (objs outs news:List NObj):Bool:=zZ objs outs&&(news.all (fun o=>o.own&&o.clO&&decide (o.tag=0))&&decide (news.length≤8))
theorem Zz {objs outs news:List NObj} (h:Zdg objs outs news=true):Ends objs outs news:=by
 simp only[Zdg,Bool.and_eq_true]at h;obtain ⟨h1,h2⟩:=TZ h.1;refine ⟨h1,fun k o o' e1 e2=>?_,fun k o e=>?_,of_decide_eq_true h.2.2⟩
 ·have:=h2 k o o' e1 e2
  simp only[outB,Bool.and_eq_true]at this;refine ⟨fun ho=>?_,fun ho=>?_,this.1.2,of_decide_eq_true this.2⟩
  ·have h3:=this.1.1;rw[if_pos ho]at h3;exact Zbd h3
  ·have h3:=this.1.1;rw[if_neg (by rw[ho];simp)]at h3;exact ZU.1 h3
 ·have:=List.all_eq_true.1 h.2.1 o (List.mem_of_getElem? e)
  simp only[Bool.and_eq_true]at this;exact ⟨this.1.1,this.1.2,of_decide_eq_true this.2⟩
attribute [simp low] ZbG
attribute [simp] Vc Zaa ZbC Zbs xJ xr vk Zeq Zep Zd2 Zdy ZdG xc xf ZaB Ye Zl YG X.ev lk hk Vj U4 VG Zd0 vE Zc ZbZ Z2 AV.cells AV.one AV.st eqV eqL eq1 EL U6 Zs Zcf vi xe ZdJ Vm vI V6 UX Xb Ud szN
attribute [simp] Za kid VU kidV NObj.tag NObj.ro NObj.own flV Zeb flF AV.plain ZbM ZbD yX zN clo AV.t0 t0L Xc AV.cl clL VW clP Za4 Za8 ZaN V4 tlL AV.tl lo loL Zdo ZdS V0 U5 apart1 Zdd Nm.mx Nm.root ZH wl wrs wr Zu X5 NObj.retag TE layL fixO bkN Vw zD YH Zdg zZ outB Zbc NObj.clO NObj.isFree ZdK YU Xr aA oA lR nR uR List.range List.range.loop
attribute [simp] ZK Z7
theorem ZdI (d:List AV→List NObj→Option AV) (hok:ROk d) (args:List AV) (G:NH) (nb:Nat):(rdS d hok).fn args G nb=rdF d args G nb:=rfl
theorem Zdl:Value.oneCell' .nilIface=true:=rfl
theorem Zcq:Value.oneCell' .nilFunc=true:=rfl
theorem vn:YJ []=true:=rfl
theorem xC (c:List AV) (r:List (List AV)):YJ (c :: r)=(ZaI c&&YJ r):=rfl
theorem vG (a b:List (List AV)):YJ (a++b)=(YJ a&&YJ b):=by simp[YJ]
theorem Za6:ZaI []=true:=rfl
theorem Zax (c:AV) (r:List AV):ZaI (c :: r)=(c.dat&&ZaI r):=rfl
theorem xw {l:List (List AV)} (h:YJ l=true) (n:Nat):YJ (l.take n)=true :=
 List.all_eq_true.2 fun c hc=>List.all_eq_true.1 h c (List.mem_of_mem_take hc)
theorem xy {l:List (List AV)} (h:YJ l=true) (n:Nat):YJ (l.drop n)=true :=
 List.all_eq_true.2 fun c hc=>List.all_eq_true.1 h c (List.mem_of_mem_drop hc)
section
variable (G:NH) (d k:Nat)
theorem ZcN (a:IntKind) (n:Int):lnV G d k (.int a n)=some (.int a n,[],[]):=by cases d<;>rfl
theorem Za7 (b:Bool):lnV G d k (.bool b)=some (.bool b,[],[]):=by cases d<;>rfl
theorem Zcw (b:ByteArray):lnV G d k (.str b)=some (.str b,[],[]):=by cases d<;>rfl
theorem Zcu:lnV G d k .nsl=some (.nsl,[],[]):=by cases d<;>rfl
theorem ZcX:lnV G d k .bot=some (.bot,[],[]):=by cases d<;>rfl
theorem vA (t:TypeId) (a:AV):lnV G d k (.iface t a)=if a.dat=true then some (.iface t a,[],[]) else none:=by cases d<;>rfl
theorem Zc4 (v:Value):lnV G d k (.raw v)=if v.oneCell'=true then some (.raw v,[],[]) else none:=by cases d<;>rfl
theorem ZcS (p:Nm) (i n:Nat):lnV G 6 k (.sl p i n)=(match ZbP (Za G p) i n with
   | some (t,sz,w)=>if YJ w=true then some (.sl (.top k) 0 n,[some (p,i)],[.view 0 sz w]) else
    (match Xh (lnV G 5) p t i (k+1) w with
    | some (w',ml,os)=>some (.sl (.top k) 0 n,some (p,i) :: ml,.view 0 sz w' :: os)
    | none=>none)
   | none=>none):=rfl
theorem Zdh (p:Nm) (i n:Nat):lnV G 5 k (.sl p i n)=(match ZbP (Za G p) i n with
   | some (t,sz,w)=>if YJ w=true then some (.sl (.top k) 0 n,[some (p,i)],[.view 0 sz w]) else
    (match Xh (lnV G 4) p t i (k+1) w with
    | some (w',ml,os)=>some (.sl (.top k) 0 n,some (p,i) :: ml,.view 0 sz w' :: os)
    | none=>none)
   | none=>none):=rfl
theorem Zdj (p:Nm) (i n:Nat):lnV G 4 k (.sl p i n)=(match ZbP (Za G p) i n with
   | some (t,sz,w)=>if YJ w=true then some (.sl (.top k) 0 n,[some (p,i)],[.view 0 sz w]) else
    (match Xh (lnV G 3) p t i (k+1) w with
    | some (w',ml,os)=>some (.sl (.top k) 0 n,some (p,i) :: ml,.view 0 sz w' :: os)
    | none=>none)
   | none=>none):=rfl
theorem ZcV (p:Nm) (i n:Nat):lnV G 3 k (.sl p i n)=(match ZbP (Za G p) i n with
   | some (t,sz,w)=>if YJ w=true then some (.sl (.top k) 0 n,[some (p,i)],[.view 0 sz w]) else
    (match Xh (lnV G 2) p t i (k+1) w with
    | some (w',ml,os)=>some (.sl (.top k) 0 n,some (p,i) :: ml,.view 0 sz w' :: os)
    | none=>none)
   | none=>none):=rfl
theorem Zbj (p:Nm) (i f:Nat):lnV G 6 k (.ptr p i f)=(match Zb0 (Za G p) i with
   | some (t,sz,c)=>(match Xh (lnV G 5) p t i (k+1) [c] with
    | some (w',ml,os)=>some (.ptr (.top k) 0 f,some (p,i) :: ml,.view 0 sz w' :: os)
    | none=>none)
   | none=>none):=rfl
theorem Zbh (p:Nm) (i f:Nat):lnV G 5 k (.ptr p i f)=(match Zb0 (Za G p) i with
   | some (t,sz,c)=>(match Xh (lnV G 4) p t i (k+1) [c] with
    | some (w',ml,os)=>some (.ptr (.top k) 0 f,some (p,i) :: ml,.view 0 sz w' :: os)
    | none=>none)
   | none=>none):=rfl
theorem Zbf (p:Nm) (i f:Nat):lnV G 4 k (.ptr p i f)=(match Zb0 (Za G p) i with
   | some (t,sz,c)=>(match Xh (lnV G 3) p t i (k+1) [c] with
    | some (w',ml,os)=>some (.ptr (.top k) 0 f,some (p,i) :: ml,.view 0 sz w' :: os)
    | none=>none)
   | none=>none):=rfl
theorem Za9 (p:Nm) (i f:Nat):lnV G 3 k (.ptr p i f)=(match Zb0 (Za G p) i with
   | some (t,sz,c)=>(match Xh (lnV G 2) p t i (k+1) [c] with
    | some (w',ml,os)=>some (.ptr (.top k) 0 f,some (p,i) :: ml,.view 0 sz w' :: os)
    | none=>none)
   | none=>none):=rfl
theorem ZcC (g:FuncId) (cap:List AV):lnV G 6 k (.fn g cap)=(match XA (lnV G 5) k cap with
   | some (cap',ml,os)=>some (.fn g cap',ml,os)
   | none=>none):=rfl
theorem Zbw (l:List AV):lnV G 6 k (.agg l)=(match XA (lnV G 5) k l with
   | some (l',ml,os)=>some (.agg l',ml,os)
   | none=>none):=rfl
theorem Zcs (g:FuncId) (cap:List AV):lnV G 5 k (.fn g cap)=(match XA (lnV G 4) k cap with
   | some (cap',ml,os)=>some (.fn g cap',ml,os)
   | none=>none):=rfl
theorem ZcP (g:FuncId) (cap:List AV):lnV G 4 k (.fn g cap)=(match XA (lnV G 3) k cap with
   | some (cap',ml,os)=>some (.fn g cap',ml,os)
   | none=>none):=rfl
end
attribute [simp] Zdl Zcq ZdI rdF XA Xh ZbP Zb0 bkR bk1 YH rOk rsOk rs1 AV.dat zG xR vn xC vG Za6 Zax xw xy
attribute [simp] ZcN Za7 Zcw Zcu ZcX vA Zc4 ZcS Zdh Zdj ZcV Zbj Zbh Zbf Za9 Zbw ZcC Zcs ZcP
def ecC (E:FuncId→Option Spec) (nb:Nat) (K:TL→HL→Prop):List MO→Nat→TL→HL→Prop
 | [],_,tl,hl=>K tl hl
 | mo :: r,i,tl,hl=>match mo.g with
  | none=>(match Ye E (lk tl) (hk hl) (nb+8*i) mo.op with
   | some q=>ecC E nb K r (i+1) (Vj tl mo.dst q.v) (U4 hl q.hs)
   | none=>False)
  | some (s,want)=>(match lk tl s with
   | .bool b=>if b=want then (match Ye E (lk ((s,.bool want) :: tl)) (hk hl) (nb+8*i) mo.op with
     | some q=>ecC E nb K r (i+1) (Vj ((s,.bool want) :: tl) mo.dst q.v) (U4 hl q.hs)
     | none=>False)
    else ecC E nb K r (i+1) (Vj ((s,.bool (!want)) :: tl) mo.dst (.raw undef)) hl
   | .raw v=>if VC v=true then ecC E nb K r (i+1) (Vj tl mo.dst (.raw undef)) hl else False
   | _=>False)
section
variable (E:FuncId→Option Spec) (nb:Nat) (K:TL→HL→Prop) (r:List MO) (i:Nat) (tl:TL) (hl:HL) (dst:Option Nat)
def stC (o:Option Res):Prop :=
 match o with
 | some q=>ecC E nb K r (i+1) (Vj tl dst q.v) (U4 hl q.hs)
 | none=>False
theorem ZbI (v:AV) (hs:List (Nat×NObj)) (rd:List Nat):stC E nb K r i tl hl dst (some ⟨v,hs,rd⟩)=ecC E nb K r (i+1) (Vj tl dst v) (U4 hl hs):=by simp only[stC]
theorem Za2:stC E nb K r i tl hl dst none=False:=by simp only[stC]
theorem Zc7 (c:Prop) [Decidable c] (x y:Option Res):stC E nb K r i tl hl dst (if c then x else y)=((c→stC E nb K r i tl hl dst x)∧(¬ c→stC E nb K r i tl hl dst y)):=by
 by_cases hc:c
 ·simp[hc]
 ·simp[hc]
def gdC (op:MOp) (s:Nat) (want:Bool) (v:AV):Prop :=
 match v with
 | .bool b=>if b=want then stC E nb K r i ((s,.bool want) :: tl) hl dst (Ye E (lk ((s,.bool want) :: tl)) (hk hl) (nb+8*i) op) else ecC E nb K r (i+1) (Vj ((s,.bool (!want)) :: tl) dst (.raw undef)) hl
 | .raw v=>if VC v=true then ecC E nb K r (i+1) (Vj tl dst (.raw undef)) hl else False
 | _=>False
theorem ZaX (op:MOp) (s:Nat) (want b:Bool):gdC E nb K r i tl hl dst op s want (.bool b)=((b=want→stC E nb K r i ((s,.bool want) :: tl) hl dst (Ye E (lk ((s,.bool want) :: tl)) (hk hl) (nb+8*i) op))∧(¬ b=want→ecC E nb K r (i+1) (Vj ((s,.bool (!want)) :: tl) dst (.raw undef)) hl)):=by
 by_cases h:b=want<;>simp[gdC,h]
theorem Zd8 (op:MOp) (s:Nat):gdC E nb K r i tl hl dst op s true (.bool true)=stC E nb K r i ((s,.bool true) :: tl) hl dst (Ye E (lk ((s,.bool true) :: tl)) (hk hl) (nb+8*i) op):=by simp[gdC]
theorem Zeo (op:MOp) (s:Nat):gdC E nb K r i tl hl dst op s false (.bool false)=stC E nb K r i ((s,.bool false) :: tl) hl dst (Ye E (lk ((s,.bool false) :: tl)) (hk hl) (nb+8*i) op):=by simp[gdC]
theorem Zd4 (op:MOp) (s:Nat):gdC E nb K r i tl hl dst op s true (.bool false)=ecC E nb K r (i+1) (Vj ((s,.bool false) :: tl) dst (.raw undef)) hl:=by simp[gdC]
theorem Zec (op:MOp) (s:Nat):gdC E nb K r i tl hl dst op s false (.bool true)=ecC E nb K r (i+1) (Vj ((s,.bool true) :: tl) dst (.raw undef)) hl:=by simp[gdC]
theorem Zel (op:MOp) (s:Nat) (want:Bool):gdC E nb K r i tl hl dst op s want (.raw undef)=ecC E nb K r (i+1) (Vj tl dst (.raw undef)) hl:=by simp only[gdC];exact if_pos rfl
theorem Zc5:ecC E nb K [] i tl hl=K tl hl:=rfl
theorem Zd5 (op:MOp):ecC E nb K (MO.mk dst op none :: r) i tl hl=stC E nb K r i tl hl dst (Ye E (lk tl) (hk hl) (nb+8*i) op):=by
 simp only[ecC,stC]
theorem Zee (op:MOp) (s:Nat) (want:Bool):ecC E nb K (MO.mk dst op (some (s,want)) :: r) i tl hl=gdC E nb K r i tl hl dst op s want (lk tl s):=by
 simp only[ecC,gdC,stC]
end
def ecX (E:FuncId→Option Spec) (nb:Nat) (K:TL→HL→Prop):List (List MO×List Nat)→Nat→TL→HL→Prop
 | [],_,tl,hl=>K tl hl
 | (A,ks) :: r,i,tl,hl=>ecC E nb (fun tl hl=>ecX E nb K r (i+A.length) (VG ks tl) (Vc [] hl)) A i tl hl
theorem Zbg (E:FuncId→Option Spec) (nb:Nat) (K:TL→HL→Prop) (A:List MO) (ks:List Nat) (r:List (List MO×List Nat)) (i:Nat) (tl:TL) (hl:HL):ecX E nb K ((A,ks) :: r) i tl hl=ecC E nb (fun tl hl=>ecX E nb K r (i+A.length) (VG ks tl) (Vc [] hl)) A i tl hl:=rfl
section
variable {P:Program} {E:FuncId→Option Spec} {w0:World} {S:Sc} {N:Nat} {D:List Deferred}
theorem seqC (hE:Zd P E) {ops:Array Oper} {nb:Nat} {K:TL→HL→Prop} {Q:Exit→Act→World→Prop} {m:Nat}:∀ (mos:List MO) (i:Nat) (Es:Env→Prop) (U:Nm→Prop) (tl:TL) (hl:HL) (a:Act) (w:World),
  (∀ tl hl Es U a w,K tl hl→Sat w0 S Es U (lk tl) (HF (hk hl)) a w→(∀ x:Nm,nb+8*(i+mos.length)≤x.mx→U x)→a.defers=D→a.tmps.size=N→wpOps P ops Q (List.range' (i+mos.length) m) a w) →
  ecC E nb K mos i tl hl→(∀ k mo,mos[k]?=some mo→∃ o,ops[i+k]?=some o∧rO P ops o=some mo∧∀ d,mo.dst=some d→d<N)→Sat w0 S Es U (lk tl) (HF (hk hl)) a w→(∀ x:Nm,nb+8*i≤x.mx→U x)→a.defers=D→a.tmps.size=N→wpOps P ops Q (List.range' i (mos.length+m)) a w
 | [],i,Es,U,tl,hl,a,w,hK,h,_,hsat,hU,hD,hN=>by
  have:=hK tl hl Es U a w h hsat (fun x hx=>hU x (by simpa using hx)) hD hN;simpa using this
 | mo :: r,i,Es,U,tl,hl,a,w,hK,h,hops,hsat,hU,hD,hN=>by
  obtain ⟨o,ho,hro,hdst⟩:=hops 0 mo rfl;have go:∀ (tl':TL) {q:Res},lk tl'=lk tl→YX E (lk tl) (hk hl) (nm nb i) mo=some q→ecC E nb K r (i+1) (Vj tl' mo.dst q.v) (U4 hl q.hs)→wpOps P ops Q (List.range' i ((mo :: r).length+m)) a w:=by
   intro tl' q htl h1 h2;rw[show (mo :: r).length+m=(r.length+m)+1 from by simp only[List.length_cons];omega,List.range'_succ,wpOps_cons];refine ZdL hE hsat ho hro h1 (fun x hx=>hU x (by simp only[nm]at hx;omega)) (by rw[hN];exact hdst) fun Es' a' w' hsat' hd' hn' => ?_;rw[← htl,← UV,← xU]at hsat';refine seqC hE r (i+1) Es' _ _ _ a' w' (fun tl hl Es U a w k1 k2 k3 k4 k5=>?_) h2 (fun k mo' hk=>?_) hsat' (fun x hx=>⟨hU x (by omega),fun hb=>by simp only[nm]at hb;omega⟩) (hd'.trans hD) (hn'.trans hN)
   ·have:=hK tl hl Es U a w k1 k2 (fun x hx=>k3 x (by simp only[List.length_cons]at hx;omega)) k4 k5
    rw[show i+(mo :: r).length=i+1+r.length from by simp only[List.length_cons];omega]at this;exact this
   ·obtain ⟨o',g1,g2⟩:=hops (k+1) mo' (by simpa using hk)
    exact ⟨o',by rw[show i+1+k=i+(k+1) from by omega];exact g1,g2⟩
  have lkc:∀ {s:Nat} {v:AV},lk tl s=v→lk ((s,v) :: tl)=lk tl:=fun {s v} hv=>funext fun t=>by
   by_cases e:t=s
   ·subst e;simp[lk,hv]
   ·simp[lk,e]
  simp only[ecC]at h;cases hg:mo.g with
  | none =>
   simp only[hg]at h;split at h
   ·rename_i q hq
    exact go tl rfl (by simp only[YX,hg];exact hq) h
   ·cases h
  | some sw =>
   obtain ⟨s,want⟩:=sw;simp only[hg]at h;split at h
   ·rename_i b hb
    split at h
    ·rename_i e
     subst e;rw[lkc hb]at h;split at h
     ·rename_i q hq
      exact go _ (lkc hb) (by simp only[YX,hg,hb,if_pos rfl];exact hq) h
     ·cases h
    ·rename_i e
     have e':(!want)=b:=(by cases b<;>cases want<;>simp at e⊢);rw[e']at h;exact go _ (lkc hb) (q:=⟨.raw undef,[],[]⟩) (by simp only[YX,hg,hb,if_neg e]) h
   ·rename_i v hb
    split at h
    ·rename_i e
     exact go tl rfl (q:=⟨.raw undef,[],[]⟩) (by simp only[YX,hg,hb,if_pos e]) h
    ·cases h
   ·cases h
theorem ZaP {Es:Env→Prop} {U:Nm→Prop} {tl:TL} {H:Nm→AObj} {a:Act} {w:World} (h:Sat w0 S Es U (lk tl) H a w) (ks:List Nat):Sat w0 S Es U (lk (VG ks tl)) H a w :=
 ⟨h.ne,h.cl,h.fr,h.pin,fun ρ hρ t ht=>by
  have e:=yC ks tl t ht;rw[e]at ht⊢;exact h.tm ρ hρ t ht,h.hp⟩
theorem seqX (hE:Zd P E) {ops:Array Oper} {nb:Nat} {K:TL→HL→Prop} {Q:Exit→Act→World→Prop} {n:Nat}
  (hK:∀ tl hl Es U a w,K tl hl→Sat w0 S Es U (lk tl) (HF (hk hl)) a w→(∀ x:Nm,nb+8*n≤x.mx→U x)→a.defers=D→a.tmps.size=N→Q .normal a w) :
  ∀ (segs:List (List MO×List Nat)) (i:Nat) (Es:Env→Prop) (U:Nm→Prop) (tl:TL) (hl:HL) (a:Act) (w:World),i+(segs.map (·.1)).flatten.length=n →
  ecX E nb K segs i tl hl→(∀ k mo,(segs.map (·.1)).flatten[k]?=some mo→∃ o,ops[i+k]?=some o∧rO P ops o=some mo∧∀ d,mo.dst=some d→d<N)→Sat w0 S Es U (lk tl) (HF (hk hl)) a w→(∀ x:Nm,nb+8*i≤x.mx→U x)→a.defers=D→a.tmps.size=N→wpOps P ops Q (List.range' i (n - i)) a w
 | [],i,Es,U,tl,hl,a,w,hn,h,_,hsat,hU,hD,hN=>by
  have hi:i=n:=by simpa using hn
  subst hi;rw[Nat.sub_self];exact hK tl hl Es U a w h hsat hU hD hN
 | (A,ks) :: r,i,Es,U,tl,hl,a,w,hn,h,hops,hsat,hU,hD,hN=>by
  simp only[List.map_cons,List.flatten_cons,List.length_append]at hn hops;rw[Zbg]at h;rw[show n - i=A.length+(n - (i+A.length)) from by omega];refine seqC hE A i Es U tl hl a w (fun tl hl Es U a w k1 k2 k3 k4 k5=>?_) h (fun k mo hk=>hops k mo (by rw[List.getElem?_append_left (by exact (List.getElem?_eq_some_iff.1 hk).1)];exact hk)) hsat hU hD hN;have e:hk (Vc [] hl)=hk hl:=funext fun x=>Um _ _ _ (by simp);refine seqX hE hK r (i+A.length) Es U _ _ a w (by omega) k1 (fun k mo hk=>?_) (by rw[e];exact ZaP k2 ks) k3 k4 k5;obtain ⟨o,g1,g2⟩:=hops (A.length+k) mo (by rw[List.getElem?_append_right (by omega),show A.length+k - A.length=k from by omega];exact hk);exact ⟨o,by rw[show i+A.length+k=i+(A.length+k) from by omega];exact g1,g2⟩
theorem wregX {s:St} {Q:Exit→St→Prop} (hE:Zd P E) {mos:List MO} (segs:List (List MO×List Nat)) (hfit:fits N mos=true) (he:(segs.map (·.1)).flatten=mos)
  (h:∀ K:List (Nat×AV)→List (Nat×NObj)→Prop,(∀ tl hl,Q .normal ⟨tl,hl,s.nb+8*mos.length⟩→K tl hl)→ecX E s.nb K segs 0 s.tl s.hl):Wm P w0 S N D (.reg mos) s Q:=fun code hc a w hs=>by
 cases code<;>simp only[rC,reduceCtorEq,Option.some.injEq]at hc
 case region id ops d =>
  split at hc
  ·rename_i l hl
   split at hc
   ·cases hc
   ·rename_i hd
    injection hc with hc;injection hc with hc;subst hc;have hd':d=false:=(by simpa using hd);subst hd';obtain ⟨g1,g2⟩:=zW hl;obtain ⟨⟨Es,hsat⟩,hN,hD⟩:=hs;have hsz:ops.size=l.length:=(by rw[← Array.length_toList,g1]);refine wp_region ?_;have hx:=h (fun tl hl=>Q .normal ⟨tl,hl,s.nb+8*l.length⟩) fun _ _ h=>h;have:=seqX (P:=P) (E:=E) (w0:=w0) (S:=S) (N:=N) (D:=D) (ops:=ops) (nb:=s.nb) hE (Q:=fun e a' w' => ∃ s',SatS w0 S N D s' a' w'∧Q e s') (n:=l.length)
     (fun tl hl Es U a w k1 k2 k3 k4 k5=>⟨_,vJ (n:=l.length) k2 k3 k4 k5,k1⟩) segs 0 Es _ s.tl s.hl a w (by rw[he];simp) hx (fun k mo hk=>by
      rw[he]at hk;obtain ⟨o,o1,o2⟩:=g2 k _ hk;refine ⟨o,by rw[Nat.zero_add,← Array.getElem?_toList];exact o1,o2,fun d hd=>?_⟩;have:=List.all_eq_true.1 hfit _ (List.mem_of_getElem? hk);rw[hd]at this;simpa using this) hsat (fun x hx=>by simpa using hx) hD hN
    rw[List.range_eq_range',hsz];simpa using this
  ·cases hc
 all_goals ((repeat' (split at hc))<;>first|(cases hc;done)|(simp only[Option.map_eq_some_iff,reduceCtorEq,and_false,exists_false]at hc;done))
end
attribute [simp] Zc5 Zd5 Zee ZbI Za2 Zc7 Zd8 Zeo Zd4 Zec Zel
attribute [simp low] ZaX
class ZR (G:Prop) (H:outParam Prop):Prop where
 h:H→G
section
variable {P:Program} {w0:World} {S:Sc} {N:Nat} {D:List Deferred} {s:St} {Q:Exit→St→Prop}
instance {x y:MCode}:ZR (Wm P w0 S N D (.seq x y) s Q) (Wm P w0 S N D x s (T4 P w0 S N D y Q)):=⟨ZdN⟩
instance:ZR (Wm P w0 S N D .skip s Q) (Q .normal s):=⟨Zcr⟩
instance:ZR (Wm P w0 S N D .ret s Q) (Q .ret s):=⟨ZdX⟩
instance {id:Nat} {x:MCode}:ZR (Wm P w0 S N D (.block id x) s Q) (Wm P w0 S N D x s (Y9 id Q)):=⟨ZbN⟩
instance {id:Nat}:ZR (Wm P w0 S N D (.exit id) s Q) (Q (.exit id) s):=⟨Zdi⟩
instance {b:MCode}:ZR (T4 P w0 S N D b Q .normal s) (Wm P w0 S N D b s Q):=⟨T6⟩
instance {b:MCode}:ZR (T4 P w0 S N D b Q .ret s) (Q .ret s):=⟨vv⟩
instance {b:MCode} {id:Nat}:ZR (T4 P w0 S N D b Q (.exit id) s) (Q (.exit id) s):=⟨xF⟩
instance {id:Nat}:ZR (Y9 id Q .normal s) (Q .normal s):=⟨TJ⟩
instance {id:Nat}:ZR (Y9 id Q .ret s) (Q .ret s):=⟨xq⟩
instance {id:Nat}:ZR (Y9 id Q (.exit id) s) (Q .normal s):=⟨yj⟩
instance {m:Nat} {α:Type} {I:α→St} {R:α→Prop} {μ:α→Nat} {x:α}:ZR (va m I R μ x Q .ret s) (Q .ret s):=⟨vW⟩
instance {m:Nat} {α:Type} {I:α→St} {R:α→Prop} {μ:α→Nat} {x:α} {id:Nat}:ZR (va m I R μ x Q (.exit id) s) (Q (.exit id) s):=⟨yZ⟩
instance {c:MCode} {n:Nat}:ZR (unK P w0 S N D c Q n .ret s) (Q .ret s):=⟨ZcI⟩
instance {c:MCode} {n id:Nat}:ZR (unK P w0 S N D c Q n (.exit id) s) (Q (.exit id) s):=⟨Za3⟩
instance {c:MCode} {n:Nat}:ZR (unK P w0 S N D c Q n .normal s) (VT P w0 S N D c Q n s):=⟨xG⟩
instance {c:MCode} {n:Nat}:ZR (VT P w0 S N D c Q (n+1) s) (Wm P w0 S N D c s (unK P w0 S N D c Q n)):=⟨ye⟩
end
class KR (N:Nat) (mos:List MO) where
 ks:List Nat
 n:Nat
 ok:(fits N mos&&mos.length == n)=true:=by kernel_rfl
class KD (N:Nat) (mos:List MO) (pr:List (List Nat)) where
 cl:List (List Nat)
 ks:List Nat
 n:Nat
 ok:(yz N mos pr cl&&mos.length == n)=true:=by kernel_rfl
abbrev Ma (d:Nat) (o:MOp):MO:=MO.mk (some d) o none
abbrev Mb (o:MOp):MO:=MO.mk none o none
abbrev Mg (d:Nat) (o:MOp) (s:Nat) (b:Bool):MO:=MO.mk (some d) o (some (s,b))
section
variable {P:Program} {E:FuncId→Option Spec} {w0:World} {S:Sc} {N:Nat} {D:List Deferred} {s:St} {Q:Exit→St→Prop}
theorem andE {a:Bool} {x y:Nat} (h:(a&&x == y)=true):a=true∧x=y:=by simpa using h
theorem zK (hE:Zd P E) {mos:List MO} [k:KR N mos] (h:∀ K:List (Nat×AV)→List (Nat×NObj)→Prop,(∀ tl hl,Q .normal ⟨tl,hl,s.nb+8*k.n⟩→K tl hl)→ecC E s.nb (fun tl hl=>K (VG k.ks tl) (Vc [] hl)) mos 0 s.tl s.hl):Wm P w0 S N D (.reg mos) s Q :=
 wregX hE [(mos,k.ks)] (andE k.ok).1 (by simp) (by rw[(andE k.ok).2];exact h)
theorem zL (hE:Zd P E) (hmix:P.follows .mixedOrders=true) {mos:List MO} {pr:List (List Nat)} [k:KD N mos pr] (h:∀ K:List (Nat×AV)→List (Nat×NObj)→Prop,(∀ tl hl,Q .normal ⟨tl,hl,s.nb+8*k.n⟩→K tl hl)→XC (Yx E s.nb mos 0 s.tl s.hl []) fun x=>Zcf (xe k.cl) x.2.2=true∧K (VG k.ks x.1) (Vc [] x.2.1)):Wm P w0 S N D (.draw mos pr) s Q :=
 wdraw hE hmix k.cl k.ks (andE k.ok).1 (by rw[(andE k.ok).2];exact h)
theorem zI {id j:Nat} (h:Q (.exit j) s) (hne:j≠id:=by decide):Y9 id Q (.exit j) s:=zX hne h
theorem zJ {c:X} {x y:MCode} {b:Bool} (ht:b=true→Wm P w0 S N D x s Q) (hf:b=false→Wm P w0 S N D y s Q) (hb:c.ev (lk s.tl)=.bool b:=by with_unfolding_all rfl):Wm P w0 S N D (.cond c x y) s Q:=ZcR hb ht hf
end
attribute [simp] KR.ks KR.n KD.ks KD.cl KD.n
theorem Imp.aut {m:Nat} {s s':St} (ht:∀ p,p∈s'.tl→Ren (Yu (Ui m s s') (hk s.hl) (hk s'.hl)) (lk s.tl p.1) p.2)
  (ho:∀ p,p∈s'.hl→p.2.tag<s'.nb∧(match lkp (Ui m s s') p.1 with
  | some (some y)=>NLe (Yu (Ui m s s') (hk s.hl) (hk s'.hl)) (hk s.hl y) p.2
  | some none=>p.2.none
  | none=>p.2=.free)) (h:plB m (Ui m s s') s'.nb=true:=by kernel_rfl):Imp m s s':=Imp.auto h ht ho
/-- What a function's code is. -/
structure CO (P:Program) (f:FuncId) (fn:Func) (mc:MCode) (res:List RV):Prop where
 a:P.funcs[f]?=some fn
 b:(fn.name == "runtime.NumGoroutine")=false:=by kernel_rfl
 c:Zd1 P fn=some mc:=by kernel_rfl
 d:ZaA P fn.results.toList=some res:=by kernel_rfl
abbrev Aa (d t:Nat):MO:=Ma d (.mv (.t t))
abbrev Ab (d f t:Nat):MO:=Ma d (.faddr f (.t t))
abbrev Ac (d n t:Nat):MO:=Ma d (.load false n (.t t))
abbrev Ad (d t:Nat):MO:=Ma d (.nilck (.t t))
abbrev Ae (n t u:Nat):MO:=Mb (.store n (.t t) (.t u))
abbrev Af (d t u:Nat):MO:=Ma d (.pick (.t t) (.c (.bool true)) (.t u))
abbrev Ag (d n t:Nat):MO:=Ma d (.load true n (.t t))
abbrev Ah (d f t g:Nat) (b:Bool):MO:=Mg d (.faddr f (.t t)) g b
abbrev Ai (d n t g:Nat) (b:Bool):MO:=Mg d (.load false n (.t t)) g b
abbrev Aj (d t g:Nat) (b:Bool):MO:=Mg d (.mv (.t t)) g b
abbrev Ak (d t f:Nat):MO:=Ma d (.ext (.t t) f)
abbrev Al (d t u:Nat):MO:=Ma d (.pick (.t t) (.t u) (.c (.bool false)))
abbrev Am (d n t u:Nat):MO:=Ma d (.iaddr n (.t t) (.t u))
abbrev An (d t:Nat):MO:=Ma d (.box (.t t))
abbrev Ao (d t g:Nat) (b:Bool):MO:=Mg d (.nilck (.t t)) g b
end Go.W
