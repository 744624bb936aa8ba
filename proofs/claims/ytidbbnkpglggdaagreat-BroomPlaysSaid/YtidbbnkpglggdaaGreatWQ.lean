/- A state that says no more, its objects by other names; tags struck. -/
import Derived.Test.YtidbbnkpglggdaaGreatWP
namespace Go.W
set_option linter.unusedSimpArgs false
set_option linter.unusedVariables false
mutual
def AV.t0:AV→AV
 | .os _ sz els=>.os 0 sz (Yo els)
 | .op _ c=>.op 0 (t0L c)
 | v=>v
def t0L:List AV→List AV
 | []=>[]
 | a :: as=>a.t0 :: t0L as
def Yo:List (List AV)→List (List AV)
 | []=>[]
 | a :: as=>t0L a :: Yo as
end
theorem T1:∀ (l:List AV) (j:Nat),(t0L l)[j]?=(l[j]?).map AV.t0
 | [],j=>by simp[t0L]
 | a :: as,0=>by simp[t0L]
 | a :: as,j+1=>by simpa [t0L] using T1 as j
theorem Vc:∀ (l:List (List AV)) (j:Nat),(Yo l)[j]?=(l[j]?).map t0L
 | [],j=>by simp[Yo]
 | a :: as,0=>by simp[Yo]
 | a :: as,j+1=>by simpa [Yo] using Vc as j
theorem zA {v:AV} (h:v.plain=true):v.t0=v:=by cases v<;>first|rfl|simp[AV.plain]at h
theorem ZgD (v:AV):v.t0.plain=v.plain:=by cases v<;>rfl
theorem YD (l:List (List AV)):(Yo l).length=l.length:=by
 induction l with
 | nil=>rfl
 | cons a as ih=>simp[Yo,ih]
theorem Xf (l:List AV):(t0L l).length=l.length:=by
 induction l with
 | nil=>rfl
 | cons a as ih=>simp[t0L,ih]
def NObj.t0:NObj→NObj
 | .free=>.free
 | .cells _ c=>.cells 0 (t0L c)
 | .arr _ sz els=>.arr 0 sz (Yo els)
 | .view _ sz els=>.view 0 sz (Yo els)
theorem Zc6 (ro:Bool) (v:AV):kidV ro v.t0=(kidV ro v).t0:=by
 cases v<;>try rfl
 ·simp only[AV.t0,kidV];split<;>rfl
 ·simp only[AV.t0,kidV];split
  ·simp[NObj.t0,Yo,Xf]
  ·rfl
theorem xR (o:NObj) (j:Nat):Zl o.t0 j=(Zl o j).map t0L:=by
 cases o with
 | free=>rfl
 | cells t c=>simp only[NObj.t0,Zl];split<;>rfl
 | arr t sz els=>simp only[NObj.t0,Zl,Vc]
 | view t sz els=>simp only[NObj.t0,Zl,Vc]
theorem ZkJ {o o':NObj} {t t' j f:Nat} (ht:o.tag=t) (ht':o'.tag=t') (hr:o'.ro=o.ro) (he:∀ k,(Zl o' k).isSome=(Zl o k).isSome) (hv:∀ c c' v',Zl o j=some c→Zl o' j=some c'→c'[f]?=some v'→∃ v,c[f]?=some v∧(kidV o.ro v'=(kidV o.ro v).t0∨kidV o.ro v'=.free)) (hl:∀ c c',Zl o j=some c→Zl o' j=some c'→c'.length=c.length):kid o' t' j f=(kid o t j f).t0∨kid o' t' j f=.free:=by
 unfold kid;rw[if_pos ht,if_pos ht',hr];have h1:=he j;cases h2:Zl o j with
 | none =>
  rw[h2]at h1;cases h3:Zl o' j with
  | none=>exact .inl rfl
  | some c' => rw[h3]at h1;cases h1
 | some c =>
  rw[h2]at h1;cases h3:Zl o' j with
  | none=>rw[h3]at h1;cases h1
  | some c' =>
   simp only[zp];cases h4:c'[f]? with
   | none =>
    have hle:=hl c c' h2 h3;have h6:=List.getElem?_eq_none_iff.1 h4;have h5:c[f]?=none:=List.getElem?_eq_none_iff.2 (by omega);rw[h5];exact .inl rfl
   | some v' =>
    obtain ⟨v,e1,e2⟩:=hv c c' v' h2 h3 h4;rw[e1];exact e2
def lkp:List (Nat×Option Nat)→Nat→Option (Option Nat)
 | [],_=>none
 | (k,v) :: r,j=>if j=k then some v else lkp r j
theorem ZaL:∀ {pl:List (Nat×Option Nat)} {x:Nat} {v:Option Nat},lkp pl x=some v→(x,v)∈pl
 | [],_,_,h=>by cases h
 | (k,u) :: r,x,v,h=>by
  simp only[lkp]at h;split at h
  ·rename_i e;injection h with h;subst e h;exact List.mem_cons_self
  ·exact List.mem_cons_of_mem _ (ZaL h)
theorem Zev:∀ {pl:List (Nat×Option Nat)},(pl.filterMap (·.2)).Nodup→∀ {x x' y:Nat},lkp pl x=some (some y)→lkp pl x'=some (some y)→x=x'
 | [],_,_,_,_,h,_=>by cases h
 | (k,u) :: r,hn,x,x',y,h,h' => by
  have tail:(r.filterMap (·.2)).Nodup:=by
   cases u with
   | none=>simpa using hn
   | some z=>simp at hn;exact hn.2
  have notin:∀ z,u=some z→∀ q,lkp r q≠some (some z):=fun z hz q hq=>by
   subst hz;have hn':=List.nodup_cons.1 (show (z :: r.filterMap (·.2)).Nodup by simpa using hn);exact hn'.1 (List.mem_filterMap.2 ⟨_,ZaL hq,rfl⟩)
  simp only[lkp]at h h';split at h
  ·rename_i e
   injection h with h;split at h'
   ·rename_i e';rw[e,e']
   ·exact absurd h' (notin y h x')
  ·split at h'
   ·rename_i e'
    injection h' with h';exact absurd h (notin y h' x)
   ·exact Zev tail h h'
def NObj.isFree:NObj→Bool
 | .free=>true
 | _=>false
theorem Xg {o:NObj}:o.isFree=true↔o=.free:=by cases o<;>simp[NObj.isFree]
def YP (pl:List (Nat×Option Nat)) (G G':NH):zw
 | .top n=>(lkp pl n).map (·.map Nm.top)
 | .sub p t j f=>if (Zj G' (.sub p t j f)).isFree=true then none else (match YP pl G G' p with
  | some (some y)=>some (some (.sub y (Zj G y).tag j f))
  | _=>none)
def Ue (φ:zw) (v:AV):AV→Prop
 | .os t sz els=>v.t0=.os t sz els∧(AV.os t sz els).cl=true
 | .op t c=>v.t0=.op t c∧(AV.op t c).cl=true
 | v' => Ren φ v v'
def Yy (φ:zw):List AV→List AV→Prop
 | [],[]=>True
 | a :: as,b :: bs=>Ue φ a b∧Yy φ as bs
 | _,_=>False
def ZT (φ:zw):List (List AV)→List (List AV)→Prop
 | [],[]=>True
 | a :: as,b :: bs=>Yy φ a b∧ZT φ as bs
 | _,_=>False
def NLe (φ:zw):NObj→NObj→Prop
 | _,.free=>True
 | .cells _ c,.cells _ c' => Yy φ c c'
 | .arr _ sz els,.arr _ sz' els' => sz=sz'∧((Yo els=els'∧Xr els'=true)∨ZT φ els els')
 | .view _ sz els,.view _ sz' els' => sz=sz'∧((Yo els=els'∧Xr els'=true)∨ZT φ els els')
 | _,_=>False
def NObj.none:NObj→Prop
 | .arr _ _ els=>els=[]
 | .view _ _ els=>els=[]
 | .free=>True
 | _=>False
structure LeN (m:Nat) (pl:List (Nat×Option Nat)) (s s':St):Prop where
 an:∀ x,x<m→lkp pl x=some (some x)
 keys:∀ p,p∈pl→p.1<s'.nb
 inj:∀ x x' y,lkp pl x=some (some y)→lkp pl x'=some (some y)→hk s'.hl x≠.free→hk s'.hl x'≠.free→x=x'
 tm:∀ p,p∈s'.tl→Ren (YP pl (hk s.hl) (hk s'.hl)) (lk s.tl p.1) p.2
 ob:∀ p,p∈s'.hl→p.2.tag<s'.nb∧(match lkp pl p.1 with
  | some (some y)=>NLe (YP pl (hk s.hl) (hk s'.hl)) (hk s.hl y) p.2
  | some none=>p.2.none
  | none=>p.2=.free)
theorem Zhm:∀ {tl:List (Nat×AV)} {t:Nat},lk tl t≠.bot→(t,lk tl t)∈tl
 | [],_,h=>absurd rfl h
 | (k,v) :: r,t,h=>by
  simp only[lk]at h⊢;split
  ·rename_i e;subst e;exact List.mem_cons_self
  ·rename_i e;rw[if_neg e]at h;exact List.mem_cons_of_mem _ (Zhm h)
theorem Zc2:∀ {hl:List (Nat×NObj)} {t:Nat},hk hl t≠.free→(t,hk hl t)∈hl
 | [],_,h=>absurd rfl h
 | (k,v) :: r,t,h=>by
  simp only[hk]at h⊢;split
  ·rename_i e;subst e;exact List.mem_cons_self
  ·rename_i e;rw[if_neg e]at h;exact List.mem_cons_of_mem _ (Zc2 h)
theorem vX {φ:zw}:∀ {as bs:List AV},Yy φ as bs→as.length=bs.length∧∀ (j:Nat) (b:AV),bs[j]?=some b→∃ a,as[j]?=some a∧Ue φ a b
 | [],[],_=>⟨rfl,fun j b h=>by simp at h⟩
 | a :: as,b :: bs,h=>by
  obtain ⟨h1,h2⟩:=vX h.2;refine ⟨by simp[h1],fun j c hc=>?_⟩;cases j with
  | zero=>simp at hc;subst hc;exact ⟨a,rfl,h.1⟩
  | succ j=>simpa using h2 j c (by simpa using hc)
theorem yA {φ:zw}:∀ {as bs:List (List AV)},ZT φ as bs→as.length=bs.length∧∀ (j:Nat) (b:List AV),bs[j]?=some b→∃ a,as[j]?=some a∧Yy φ a b
 | [],[],_=>⟨rfl,fun j b h=>by simp at h⟩
 | a :: as,b :: bs,h=>by
  obtain ⟨h1,h2⟩:=yA h.2;refine ⟨by simp[h1],fun j c hc=>?_⟩;cases j with
  | zero=>simp at hc;subst hc;exact ⟨a,rfl,h.1⟩
  | succ j=>simpa using h2 j c (by simpa using hc)
theorem Zdu {φ:zw} {v:AV} (h:v.t0.cl=true):Ue φ v v.t0∨(v.plain=true∧v.cl=true):=by
 cases hp:v.plain with
 | true=>rw[zA hp]at h;exact .inr ⟨rfl,h⟩
 | false=>cases v<;>simp only[AV.plain,Bool.true_eq_false]at hp<;>exact .inl ⟨rfl,h⟩
def CAl (φ:zw) (v v':AV):Prop:=Ue φ v v'∨(v'=v∧v.plain=true∧v.cl=true)
theorem NLe.elems {φ:zw} {o o':NObj} (h:NLe φ o o') (hne:o'≠.free):o.ro=o'.ro∧(∀ k,(Zl o' k).isSome=(Zl o k).isSome)∧(∀ j c c',Zl o j=some c→Zl o' j=some c'→c'.length=c.length∧∀ (f:Nat) (v':AV),c'[f]?=some v'→∃ v,c[f]?=some v∧CAl φ v v'):=by
 have cellw:∀ {c c':List AV},Yy φ c c'→c'.length=c.length∧∀ (f:Nat) (v':AV),c'[f]?=some v'→∃ v,c[f]?=some v∧CAl φ v v':=fun {c c'} hc=>by
  obtain ⟨h1,h2⟩:=vX hc;exact ⟨h1.symm,fun f v' hv=>by obtain ⟨v,e1,e2⟩:=h2 f v' hv;exact ⟨v,e1,.inl e2⟩⟩
 have rows:∀ {els els':List (List AV)},((Yo els=els'∧Xr els'=true)∨ZT φ els els')→els'.length=els.length∧∀ (j:Nat) (c c':List AV),els[j]?=some c→els'[j]?=some c'→c'.length=c.length∧∀ (f:Nat) (v':AV),c'[f]?=some v'→∃ v,c[f]?=some v∧CAl φ v v':=fun {els els'} hr=>by
  rcases hr with ⟨h1,h2⟩ | hr
  ·subst h1
   refine ⟨YD _,fun j c c' hc hc' => ?_⟩;rw[Vc,hc]at hc';simp only[Option.map_some,Option.some.injEq]at hc';subst hc';refine ⟨Xf _,fun f v' hv=>?_⟩;have hcl:=Uq (zy h2 (j:=j) (by rw[Vc,hc];rfl)) hv;rw[T1]at hv;cases hcf:c[f]? with
   | none=>rw[hcf]at hv;cases hv
   | some v =>
    rw[hcf]at hv;simp only[Option.map_some,Option.some.injEq]at hv;subst hv;refine ⟨v,rfl,?_⟩;rcases Zdu (φ:=φ) hcl with h|⟨h,h'⟩
    ·exact .inl h
    ·exact .inr ⟨zA h,h,h'⟩
  ·obtain ⟨h1,h2⟩:=yA hr
   refine ⟨h1.symm,fun j c c' hc hc' => ?_⟩;obtain ⟨c2,e1,e2⟩:=h2 j c' hc';rw[hc]at e1;injection e1 with e1;subst e1;exact cellw e2
 have some_iff:∀ {els els':List (List AV)},els'.length=els.length→∀ k,(els'[k]?).isSome=(els[k]?).isSome:=fun {els els'} hl k=>by
  rcases Nat.lt_or_ge k els.length with h|h
  ·rw[List.getElem?_eq_getElem h,List.getElem?_eq_getElem (by omega)];rfl
  ·rw[List.getElem?_eq_none h,List.getElem?_eq_none (by omega)]
 cases o<;>cases o'<;>simp only[NLe]at h<;>try (exact absurd rfl hne)
 ·refine ⟨rfl,fun k=>?_,fun j c c' hc hc' => ?_⟩
  ·simp only[Zl];split<;>rfl
  ·simp only[Zl]at hc hc'
   split at hc
   ·rename_i e
    rw[if_pos e]at hc';injection hc with hc;injection hc' with hc';subst hc hc';exact cellw h
   ·cases hc
 ·obtain ⟨r1,r2⟩:=rows h.2
  exact ⟨rfl,some_iff r1,fun j c c' hc hc' => r2 j c c' hc hc'⟩
 ·obtain ⟨r1,r2⟩:=rows h.2
  exact ⟨rfl,some_iff r1,fun j c c' hc hc' => r2 j c c' hc hc'⟩
theorem CAl.kidV {φ:zw} {v v':AV} (h:CAl φ v v') (ro:Bool):Go.W.kidV ro v'=(Go.W.kidV ro v).t0∨Go.W.kidV ro v'=.free:=by
 rcases h with h|⟨rfl,h,_⟩
 ·cases v'<;>simp only[Ue]at h
  case os t sz els=>left;rw[← Zc6,h.1]
  case op t c=>left;rw[← Zc6,h.1]
  all_goals exact .inr rfl
 ·right;cases v'<;>first|rfl|simp[AV.plain]at h
theorem CAl.own {φ:zw} {v v':AV} (h:CAl φ v v') (hp:v'.plain=false):v.t0=v'∧v'.cl=true:=by
 rcases h with h|⟨rfl,h,_⟩
 ·cases v'<;>simp only[AV.plain,Bool.true_eq_false]at hp
  ·exact h
  ·exact h
 ·rw[h]at hp;cases hp
theorem ZjD {φ:zw} {ρ ρ':Env} (hb:Env.by ρ ρ' φ) {x y:Nm} {t t' j:Nat} {c c':List AV} (hl:c'.length=c.length) (hc:∀ (f:Nat) (v':AV),c'[f]?=some v'→∃ v,c[f]?=some v∧CAl φ v v')
  (hk:∀ (f:Nat) (v':AV),c'[f]?=some v'→v'.plain=false→ρ' (.sub x t' j f)=ρ (.sub y t j f)):CLe ρ ρ' (flC y t j c) (flC x t' j c'):=by
 refine ⟨by simp[hl],fun k v' hv=>?_⟩
 rw[Xy]at hv⊢
 cases hc':c'[k]? with
 | none=>simp[hc']at hv
 | some u' =>
  obtain ⟨u,e1,e2⟩:=hc k u' hc';simp only[hc',Option.map_some,Option.some.injEq]at hv;subst hv;simp only[e1,Option.map_some];refine ⟨_,rfl,fun z hz=>?_⟩;cases hp:u'.plain with
  | true =>
   rw[Xp hp];rcases e2 with h|⟨rfl,h,h'⟩
   ·have:Ren φ u u':=by cases u'<;>first|exact h|simp[AV.plain]at hp
    by_cases hbot:u'=.bot
    ·subst hbot;simp[Rep]
    ·have hup:u.plain=true:=by cases u'<;>cases u<;>first|rfl|(simp[Ren]at this;done)|exact absurd rfl hbot
     rw[Xp hup]at hz;exact this.rep hb hz
   ·rw[Xp h]at hz
    exact vH h' h hz
  | false =>
   obtain ⟨h1,h2⟩:=e2.own hp;have:=hk k u' hc' hp;cases u'<;>simp only[AV.plain,Bool.true_eq_false]at hp
   ·cases u<;>simp only[AV.t0,reduceCtorEq,AV.os.injEq]at h1
    simp only[flV,Rep]at hz⊢;rw[this,← h1.2.2,YD];exact hz
   ·cases u<;>simp only[AV.t0,reduceCtorEq,AV.op.injEq]at h1
    simp only[flV,Rep]at hz⊢;rw[this];exact hz
theorem Zks {φ:zw} {v:AV} (h:v.t0.cl=true):CAl φ v v.t0:=by
 rcases Zdu (φ:=φ) h with h|⟨h,h'⟩
 ·exact .inl h
 ·exact .inr ⟨zA h,h,h'⟩
theorem Za5 {φ:zw} {o:NObj} (h:o.t0.clO=true):o.ro=o.t0.ro∧(∀ k,(Zl o.t0 k).isSome=(Zl o k).isSome)∧(∀ j c c',Zl o j=some c→Zl o.t0 j=some c'→c'.length=c.length∧∀ (f:Nat) (v':AV),c'[f]?=some v'→∃ v,c[f]?=some v∧CAl φ v v'):=by
 refine ⟨by cases o<;>rfl,fun k=>by rw[xR];cases Zl o k<;>rfl,fun j c c' hc hc' => ?_⟩;have hcl:=UL h hc';rw[xR,hc]at hc';simp only[Option.map_some,Option.some.injEq]at hc';subst hc';refine ⟨Xf _,fun f v' hv=>?_⟩;have hvc:=Uq hcl hv;rw[T1]at hv;cases hcf:c[f]? with
 | none=>rw[hcf]at hv;cases hv
 | some v =>
  rw[hcf]at hv;simp only[Option.map_some,Option.some.injEq]at hv;subst hv;exact ⟨v,rfl,Zks hvc⟩
theorem TE {G:NH} {n:Nat} (h:(G n).none):∀ x:Nm,x.root=n→x≠.top n→Zj G x=.free
 | .top k,hr,hne=>by simp only[Nm.root]at hr;subst hr;exact absurd rfl hne
 | .sub a b c d,hr,_=>by
  simp only[Nm.root]at hr;rw[Zj];by_cases ea:a=.top n
  ·subst ea
   rw[Zj];refine XZ (fun j c hc=>?_) _ _ _;cases ho:G n<;>rw[ho]at h hc<;>simp only[NObj.none]at h<;>simp only[Zl,reduceCtorEq]at hc
   all_goals (subst h;simp at hc)
  ·rw[TE h a hr ea];simp[kid,Zl]
section
variable {w0:World} {S:Sc} {N:Nat} {D:List Deferred} {s s':St} {pl:List (Nat×Option Nat)}
theorem LeN.root {m:Nat} (h:LeN m pl s s') {n:Nat} (hne:hk s'.hl n≠.free):(∃ y,lkp pl n=some (some y)∧NLe (YP pl (hk s.hl) (hk s'.hl)) (hk s.hl y) (hk s'.hl n))∨(lkp pl n=some none∧(hk s'.hl n).none):=by
 have h1:=(h.ob _ (Zc2 hne)).2;simp only at h1;split at h1
 ·rename_i y e;exact .inl ⟨y,e,h1⟩
 ·rename_i e;exact .inr ⟨e,h1⟩
 ·exact absurd h1 hne
theorem LeN.get {m:Nat} (h:LeN m pl s s') {n y0:Nat} (hn:lkp pl n=some (some y0)):∀ x:Nm,x.root=n→Zj (hk s'.hl) x≠.free→∃ y,YP pl (hk s.hl) (hk s'.hl) x=some (some y)∧y.root=y0∧(x=.top n→y=.top y0) ∧
  (x≠.top n→Zj (hk s'.hl) x=(Zj (hk s.hl) y).t0∧(Zj (hk s'.hl) x).clO=true)
 | .top k,hr,hne=>by
  simp only[Nm.root]at hr;subst hr;exact ⟨.top y0,by simp[YP,hn],rfl,fun _=>rfl,fun e=>absurd rfl e⟩
 | .sub p t j f,hr,hne=>by
  simp only[Nm.root]at hr;have hx:=hne;rw[Zj]at hne;have hgp:Zj (hk s'.hl) p≠.free:=fun e=>hne (by rw[e];simp[kid,Zl]);obtain ⟨y,i1,i2,i3,i4⟩:=LeN.get h hn p hr hgp;have htag:(Zj (hk s'.hl) p).tag=t:=by
   by_cases e:(Zj (hk s'.hl) p).tag=t
   ·exact e
   ·exact absurd (Y9 e) hne
  have hnm:YP pl (hk s.hl) (hk s'.hl) (.sub p t j f)=some (some (.sub y (Zj (hk s.hl) y).tag j f)):=by
   rw[YP,if_neg (by rw[Xg];exact hx),i1]
  have key:∀ {o o':NObj},o.ro=o'.ro→(∀ k,(Zl o' k).isSome=(Zl o k).isSome)→(∀ j c c',Zl o j=some c→Zl o' j=some c'→c'.length=c.length∧∀ (f:Nat) (v':AV),c'[f]?=some v'→∃ v,c[f]?=some v∧CAl (YP pl (hk s.hl) (hk s'.hl)) v v')→o'.tag=t→kid o' t j f≠.free →
    kid o' t j f=(kid o o.tag j f).t0∧(kid o' t j f).clO=true:=fun {o o'} h1 h2 h3 h4 h5=>by
   refine ⟨?_,?_⟩
   ·rcases ZkJ (o:=o) (o':=o') (t:=o.tag) (t':=t) (j:=j) (f:=f) rfl h4 h1.symm h2 (fun c c' v' hc hc' hv=>by
     obtain ⟨v,e1,e2⟩:=(h3 j c c' hc hc').2 f v' hv;exact ⟨v,e1,e2.kidV _⟩) (fun c c' hc hc' => (h3 j c c' hc hc').1) with e|e
    ·exact e
    ·exact absurd e h5
   ·refine Zer (fun j c v f hc hv hp=>?_) t j f
    have h6:=h2 j;rw[hc]at h6;cases hoc:Zl o j with
    | none=>rw[hoc]at h6;cases h6
    | some c0 =>
     obtain ⟨v0,_,e2⟩:=(h3 j c0 c hoc hc).2 f v hv;exact (e2.own hp).2
  refine ⟨_,hnm,by simpa [Nm.root] using i2,(fun e=>by cases e),fun _=>?_⟩;rw[Zj,Zj];by_cases ep:p=.top n
  ·subst ep
   have hy:=i3 rfl;subst hy;have hle:=(h.root (n:=n) hgp);rcases hle with ⟨y1,e1,e2⟩ | ⟨e1,_⟩
   ·rw[hn]at e1
    injection e1 with e1;injection e1 with e1;subst e1;obtain ⟨k1,k2,k3⟩:=e2.elems hgp;exact key k1 k2 k3 htag hne
   ·rw[hn]at e1;cases e1
  ·obtain ⟨g1,g2⟩:=i4 ep
   rw[g1]at g2 htag hne⊢;obtain ⟨k1,k2,k3⟩:=Za5 (φ:=YP pl (hk s.hl) (hk s'.hl)) g2;exact key k1 k2 k3 htag hne
theorem Zbf {G G':NH} (h:∀ x x' y,lkp pl x=some (some y)→lkp pl x'=some (some y)→G' x≠.free→G' x'≠.free→x=x'):∀ {x x' y:Nm},YP pl G G' x=some (some y)→YP pl G G' x'=some (some y)→Zj G' x≠.free→Zj G' x'≠.free→x=x'
 | .top n,.top n',y,h1,h2,z1,z2=>by
  simp only[YP]at h1 h2;cases e1:lkp pl n with
  | none=>simp[e1]at h1
  | some v =>
   cases e2:lkp pl n' with
   | none=>simp[e2]at h2
   | some v' =>
    cases v<;>cases v'<;>simp[e1,e2]at h1 h2;rename_i a b;rw[← h2]at h1;injection h1 with h1;subst h1;rw[h _ _ _ e1 e2 z1 z2]
 | .top n,.sub p t j f,y,h1,h2,_,_=>by
  simp only[YP]at h1 h2;split at h2
  ·cases h2
  ·split at h2
   ·simp only[Option.some.injEq]at h2
    subst h2;cases e1:lkp pl n with
    | none=>simp[e1]at h1
    | some v=>cases v<;>simp[e1]at h1
   ·cases h2
 | .sub p t j f,.top n,y,h1,h2,_,_=>by
  simp only[YP]at h1 h2;split at h1
  ·cases h1
  ·split at h1
   ·simp only[Option.some.injEq]at h1
    subst h1;cases e1:lkp pl n with
    | none=>simp[e1]at h2
    | some v=>cases v<;>simp[e1]at h2
   ·cases h1
 | .sub p t j f,.sub p' t' j' f',y,h1,h2,g1,g2=>by
  have q1:Zj G' p≠.free:=fun e=>g1 (by rw[Zj,e];simp[kid,Zl]);have q2:Zj G' p'≠.free:=fun e=>g2 (by rw[Zj,e];simp[kid,Zl]);simp only[YP]at h1 h2;split at h1
  ·cases h1
  ·split at h2
   ·cases h2
   ·split at h1
    ·rename_i y1 e1
     split at h2
     ·rename_i y2 e2
      simp only[Option.some.injEq]at h1 h2;rw[← h2]at h1;simp only[Nm.sub.injEq]at h1;obtain ⟨a1,a2,a3,a4⟩:=h1;subst a1;have:=Zbf h e1 e2 q1 q2;subst this;have t1:(Zj G' p).tag=t:=by
       by_cases e:(Zj G' p).tag=t
       ·exact e
       ·exact absurd (Y9 e) g1
      have t2:(Zj G' p).tag=t':=by
       by_cases e:(Zj G' p).tag=t'
       ·exact e
       ·exact absurd (Y9 e) g2
      rw[← t1,← t2,a3,a4]
     ·cases h2
    ·cases h1
theorem LeN.mx {m:Nat} (h:LeN m pl s s'):∀ x v,YP pl (hk s.hl) (hk s'.hl) x=some v→x.mx<s'.nb
 | .top n,v,hv=>by
  simp only[YP]at hv;cases e:lkp pl n with
  | none=>simp[e]at hv
  | some u=>exact h.keys _ (ZaL e)
 | .sub p t j f,v,hv=>by
  have hv0:=hv;simp only[YP]at hv;split at hv
  ·cases hv
  ·rename_i hnf
   have hg:Zj (hk s'.hl) (.sub p t j f)≠.free:=fun e=>hnf (Xg.2 e);have hgp:Zj (hk s'.hl) p≠.free:=fun e=>hg (by rw[Zj,e];simp[kid,Zl]);split at hv
   ·rename_i y ey
    have i:=LeN.mx h p _ ey;have htag:(Zj (hk s'.hl) p).tag=t:=by
     by_cases e:(Zj (hk s'.hl) p).tag=t
     ·exact e
     ·exact absurd (Y9 e) hg
    have hroot:hk s'.hl p.root≠.free:=Ui hgp;have ht:t<s'.nb:=by
     by_cases ep:p=.top p.root
     ·have:=(h.ob _ (Zc2 hroot)).1
      rw[ep,Zj]at htag;rw[← htag];exact this
     ·rcases h.root hroot with ⟨y1,e1,_⟩ | ⟨e1,e2⟩
      ·obtain ⟨y2,_,_,_,i4⟩:=h.get e1 p rfl hgp
       have:=(i4 ep).1;rw[this]at htag;have:(Zj (hk s.hl) y2).t0.tag=0:=(by cases Zj (hk s.hl) y2<;>rfl);omega
      ·exfalso
       exact hgp (TE e2 p rfl ep)
    simp only[Nm.mx];omega
   ·cases hv
theorem SatS.le {a:Act} {w:World} (h:SatS w0 S N D s a w) (hle:LeN S.m pl s s'):SatS w0 S N D s' a w:=by
 obtain ⟨Es,hs⟩:=h.sat;have nonf:∀ {x:Nm},HF (hk s'.hl) x≠.free→Zj (hk s'.hl) x≠.free:=fun hx e=>hx (Zt.2 e);refine ⟨⟨_,hs.ren (G':=hk s'.hl) (U':=fun x:Nm=>s'.nb≤x.mx) (T':=lk s'.tl) (YP pl (hk s.hl) (hk s'.hl)) (fun x hx=>?_) (fun x x' y h1 h2 h3 h4=>Zbf hle.inj h1 h2 (nonf h3) (nonf h4)) (fun x v hv=>by have:=hle.mx x v hv;omega) (fun x hx=>by simp[YP,hle.an x hx]) (fun t=>?_)⟩,h.size,h.defers⟩
 ·have hx':=nonf hx
  have hroot:=Ui hx';rcases hle.root hroot with ⟨y0,e1,e2⟩ | ⟨e1,e2⟩
  ·left
   obtain ⟨y,g1,g2,g3,g4⟩:=hle.get e1 x rfl hx';have fin:∀ {o o':NObj},Zj (hk s'.hl) x=o'→Zj (hk s.hl) y=o→o.ro=o'.ro→(∀ k,(Zl o' k).isSome=(Zl o k).isSome)→(∀ j c c',Zl o j=some c→Zl o' j=some c'→c'.length=c.length∧∀ (f:Nat) (v':AV),c'[f]?=some v'→∃ v,c[f]?=some v∧CAl (YP pl (hk s.hl) (hk s'.hl)) v v')→(NLe (YP pl (hk s.hl) (hk s'.hl)) o o'∨o'=o.t0) →
     HF (hk s.hl) y≠.free∧∀ ρ ρ',Env.by ρ ρ' (YP pl (hk s.hl) (hk s'.hl))→OLe ρ ρ' (HF (hk s.hl) y) (HF (hk s'.hl) x):=fun {o o'} hgx hgy h1 h2 h3 h4=>by
    have hne:o'≠.free:=by rw[← hgx];exact hx'
    have cells:∀ ρ ρ',Env.by ρ ρ' (YP pl (hk s.hl) (hk s'.hl))→∀ j c c',Zl o j=some c→Zl o' j=some c'→CLe ρ ρ' (flC y o.tag j c) (flC x o'.tag j c'):=fun ρ ρ' hb j c c' hc hc' => by
     obtain ⟨l1,l2⟩:=h3 j c c' hc hc';refine ZjD hb l1 l2 fun f v' hv hp=>?_;have hkn:Zj (hk s'.hl) (.sub x o'.tag j f)≠.free:=by
      rw[Zj,hgx];unfold kid;rw[if_pos rfl,hc'];simp only[zp,hv];cases v'<;>simp only[AV.plain,Bool.true_eq_false]at hp<;>simp only[kidV]<;>split<;>simp
     have:=hb (.sub x o'.tag j f) (some (.sub y o.tag j f)) (by
      rw[YP,if_neg (by rw[Xg];exact hkn),g1];show some (some (Nm.sub y (Zj (hk s.hl) y).tag j f))=_;rw[hgy])
     exact this
    have hHx:HF (hk s'.hl) x=flO x o':=by unfold HF;rw[hgx]
    have hHy:HF (hk s.hl) y=flO y o:=by unfold HF;rw[hgy]
    have rowl:∀ {els els':List (List AV)},(∀ k,(els'[k]?).isSome=(els[k]?).isSome)→els'.length=els.length:=fun {els els'} hk=>by
     rcases Nat.lt_trichotomy els'.length els.length with h|h|h
     ·have:=hk els'.length
      rw[List.getElem?_eq_getElem h,List.getElem?_eq_none (Nat.le_refl _)]at this;cases this
     ·exact h
     ·have:=hk els.length
      rw[List.getElem?_eq_getElem h,List.getElem?_eq_none (Nat.le_refl _)]at this;cases this
    have szs:∀ {t z l t' z' l'},(o=.arr t z l∧o'=.arr t' z' l')∨(o=.view t z l∧o'=.view t' z' l')→z=z':=fun {t z l t' z' l'} hh=>by
     rcases h4 with h4|h4
     ·rcases hh with ⟨rfl,rfl⟩ | ⟨rfl,rfl⟩<;>exact h4.1
     ·rcases hh with ⟨rfl,rfl⟩ | ⟨rfl,rfl⟩<;>simp only[NObj.t0,NObj.arr.injEq,NObj.view.injEq]at h4<;>exact h4.2.1.symm
    have shape:(∃ t c t' c',o=.cells t c∧o'=.cells t' c')∨(∃ t z l t' z' l',o=.arr t z l∧o'=.arr t' z' l')∨(∃ t z l t' z' l',o=.view t z l∧o'=.view t' z' l'):=by
     rcases h4 with h4|h4
     ·cases o<;>cases o'<;>simp only[NLe]at h4<;>first|exact absurd rfl hne|simp
     ·subst h4
      cases o<;>first|exact absurd rfl hne|simp[NObj.t0]
    rw[hHx,hHy]
    rcases shape with ⟨t,c,t',c',rfl,rfl⟩ | ⟨t,z,l,t',z',l',rfl,rfl⟩ | ⟨t,z,l,t',z',l',rfl,rfl⟩
    ·exact ⟨by simp[flO],fun ρ ρ' hb=>.cells (cells ρ ρ' hb 0 c c' (by simp[Zl]) (by simp[Zl]))⟩
    ·have e:=szs (.inl ⟨rfl,rfl⟩)
     subst e;have el:=rowl (els:=l) (els':=l') h2;refine ⟨by simp[flO],fun ρ ρ' hb=>?_⟩;simp only[flO,el];refine .arr fun i hi=>?_;rw[List.getD_eq_getElem?_getD,List.getD_eq_getElem?_getD,List.getElem?_eq_getElem hi,List.getElem?_eq_getElem (by omega),Option.getD_some,Option.getD_some];exact cells ρ ρ' hb i _ _ (by simp[Zl,hi]) (by simp[Zl,show i<l'.length by omega])
    ·have e:=szs (.inr ⟨rfl,rfl⟩)
     subst e;have el:=rowl (els:=l) (els':=l') h2;refine ⟨by simp[flO],fun ρ ρ' hb=>?_⟩;simp only[flO,el];refine .view fun i hi=>?_;rw[List.getD_eq_getElem?_getD,List.getD_eq_getElem?_getD,List.getElem?_eq_getElem hi,List.getElem?_eq_getElem (by omega),Option.getD_some,Option.getD_some];exact cells ρ ρ' hb i _ _ (by simp[Zl,hi]) (by simp[Zl,show i<l'.length by omega])
   refine ⟨y,g1,?_⟩;by_cases ex:x=.top x.root
   ·have hy:=g3 ex
    obtain ⟨k1,k2,k3⟩:=e2.elems hroot;refine fin (o:=hk s.hl y0) (o':=hk s'.hl x.root) ?_ (by rw[hy];rfl) k1 k2 k3 (.inl e2);rw[ex];rfl
   ·obtain ⟨q1,q2⟩:=g4 ex
    rw[q1]at q2;obtain ⟨k1,k2,k3⟩:=Za5 (φ:=YP pl (hk s.hl) (hk s'.hl)) q2;exact fin q1 rfl k1 k2 k3 (.inr rfl)
  ·right
   have ex:x=.top x.root:=by
    by_cases e:x=.top x.root
    ·exact e
    ·exact absurd (TE e2 x rfl e) hx'
   refine ⟨by rw[ex];simp[YP,e1],?_⟩;have:HF (hk s'.hl) x=flO x (hk s'.hl x.root):=(by unfold HF;rw[ex];rfl);rw[this];cases ho:hk s'.hl x.root with
   | free=>exact absurd ho hroot
   | cells t c=>rw[ho]at e2;exact e2.elim
   | arr t sz els=>rw[ho]at e2;simp only[NObj.none]at e2;subst e2;rfl
   | view t sz els=>rw[ho]at e2;simp only[NObj.none]at e2;subst e2;rfl
 ·by_cases hb:lk s'.tl t=.bot
  ·rw[hb];cases lk s.tl t<;>simp[Ren]
  ·exact hle.tm _ (Zhm hb)
variable {P:Program} {Q:Exit→St→Prop}
end
end Go.W
