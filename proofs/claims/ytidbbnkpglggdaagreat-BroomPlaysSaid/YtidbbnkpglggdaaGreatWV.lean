/- What comes with a call, as the callee has it. A call: the callee's world, and back. -/
import Derived.Test.YtidbbnkpglggdaaGreatWT
namespace Go.W
set_option linter.unusedSimpArgs false
set_option linter.unusedVariables false
abbrev ML:=List (Option (Nm×Nat))
def Zdw (ml:ML):Nm→Option (Option (Nm×Nat))
 | .top k=>ml[k]?
 | _=>none
mutual
def XT (ml:ML):AV→AV→Prop
 | .bot,_=>True
 | .int k n,.int k' n' => k=k'∧n=n'
 | .bool b,.bool b' => b=b'
 | .str s,.str s' => s=s'
 | .raw v,.raw v' => v=v'
 | .nsl,.nsl=>True
 | .sl x i n,.sl y j n' => match Zdw ml x with
  | some (some (y',k))=>y'=y∧j=i+k∧n=n'
  | _=>False
 | .sl x i n,.nsl=>Zdw ml x=some none∧i=0∧n=0
 | .ptr x i f,.ptr y j f' => match Zdw ml x with
  | some (some (y',k))=>y'=y∧j=i+k∧f=f'
  | _=>False
 | .fn f c,.fn f' c' => f=f'∧YN ml c c'
 | .iface t a,.iface t' a' => t=t'∧XT ml a a'
 | .agg l,.agg l' => YN ml l l'
 | .tup l,.tup l' => YN ml l l'
 | _,_=>False
def YN (ml:ML):List AV→List AV→Prop
 | [],[]=>True
 | a :: as,b :: bs=>XT ml a b∧YN ml as bs
 | _,_=>False
end
def Y6 (L:Loc) (k:Nat):Loc:={ L with base:=L.base+k*L.sz,cap:=L.cap - k }
def xK (ρ:Env) (ml:ML) (x:Nat):Loc:=match ml[x]? with
 | some (some (y,k))=>Y6 (ρ y) k
 | _=>V0
theorem Xu (L:Loc):Y6 L 0=L:=by simp[Y6]
def inML (ml:ML) (ρ ρl:Env):Prop:=∀ x,x<ml.length→ρl (.top x)=xK ρ ml x
theorem xE {ml:ML} {x:Nm} {v:Option (Nm×Nat)} (h:Zdw ml x=some v):∃ k,x=.top k∧ml[k]?=some v∧k<ml.length:=by
 cases x with
 | top k=>exact ⟨k,rfl,h,(List.getElem?_eq_some_iff.1 h).1⟩
 | sub p t j f=>cases h
mutual
theorem XT.rep {ml:ML} {ρ ρl:Env} (hb:inML ml ρ ρl):∀ {a g:AV} {v:Value},XT ml a g→Rep ρ g v→Rep ρl a v:=fun {a} {g} {v} h hr=>by
 cases a with
 | int k n=>cases g<;>simp only[XT]at h<;>(obtain ⟨rfl,rfl⟩:=h;simp only[Rep]at hr⊢;exact hr)
 | bool b=>cases g<;>simp only[XT]at h<;>(subst h;simp only[Rep]at hr⊢;exact hr)
 | str b=>cases g<;>simp only[XT]at h<;>(subst h;simp only[Rep]at hr⊢;exact hr)
 | raw b=>cases g<;>simp only[XT]at h<;>(subst h;simp only[Rep]at hr⊢;exact hr)
 | bot=>simp[Rep]
 | nsl=>cases g<;>simp only[XT]at h;simp only[Rep]at hr⊢;exact hr
 | sl x i n =>
  cases g<;>simp only[XT]at h
  case nsl =>
   simp only[Rep]at hr⊢;obtain ⟨h1,rfl,rfl⟩:=h;refine .inl ⟨?_,rfl,rfl,hr⟩;obtain ⟨k,rfl,h1,hk⟩:=xE h1;rw[hb k hk];simp[xK,h1,V0]
  case sl y j n' =>
   split at h
   ·rename_i y' k h1
    obtain ⟨rfl,rfl,rfl⟩:=h;have he:ρl x=Y6 (ρ y') k:=by
     obtain ⟨q,rfl,h1,hq⟩:=xE h1;rw[hb q hq];simp[xK,h1]
    simp only[Rep]at hr⊢;rw[he];rcases hr with ⟨h2,h3,h4,h5⟩ | ⟨h2,h3,off,h4,h5⟩
    ·exact .inl ⟨h2,by omega,h4,h5⟩
    ·refine .inr ⟨h2,by simp only[Y6];omega,off,?_,fun hlt=>?_⟩
     ·rw[h4];simp only[Y6];congr 1;omega
     ·simp only[Y6]at hlt⊢
      rw[h5 (by omega),Nat.add_mul];omega
   ·exact h.elim
 | ptr x i f =>
  cases g<;>simp only[XT]at h
  case ptr y j f' =>
   split at h
   ·rename_i y' k h1
    obtain ⟨rfl,rfl,rfl⟩:=h;have he:ρl x=Y6 (ρ y') k:=by
     obtain ⟨q,rfl,h1,hq⟩:=xE h1;rw[hb q hq];simp[xK,h1]
    simp only[Rep]at hr⊢;rw[he];refine ⟨hr.1,?_⟩;rw[hr.2];simp only[Y6];congr 3;rw[Nat.add_mul];omega
   ·exact h.elim
 | fn f c =>
  cases g<;>simp only[XT]at h;obtain ⟨rfl,h⟩:=h;simp only[Rep]at hr⊢;obtain ⟨cs,h1,h2⟩:=hr;exact ⟨cs,h1,YN.rep hb h h2⟩
 | iface t a =>
  cases g<;>simp only[XT]at h;obtain ⟨rfl,h⟩:=h;simp only[Rep]at hr⊢;obtain ⟨y,h1,h2⟩:=hr;exact ⟨y,h1,XT.rep hb h h2⟩
 | agg l =>
  cases g<;>simp only[XT]at h;simp only[Rep]at hr⊢;obtain ⟨cs,h1,h2⟩:=hr;exact ⟨cs,h1,YN.rep hb h h2⟩
 | tup l =>
  cases g<;>simp only[XT]at h;simp only[Rep]at hr⊢;obtain ⟨cs,h1,h2⟩:=hr;exact ⟨cs,h1,YN.rep hb h h2⟩
 | os t sz els=>cases g<;>simp only[XT]at h
 | op t c=>cases g<;>simp only[XT]at h
theorem YN.rep {ml:ML} {ρ ρl:Env} (hb:inML ml ρ ρl):∀ {as gs:List AV} {vs:List Value},YN ml as gs→Z8 ρ gs vs→Z8 ρl as vs:=fun {as} {gs} {vs} h hr=>by
 cases as with
 | nil=>cases gs<;>simp only[YN]at h;simp only[Z8]at hr⊢;exact hr
 | cons a as =>
  cases gs<;>simp only[YN]at h;simp only[Z8]at hr⊢;obtain ⟨v,r,h1,h2,h3⟩:=hr;exact ⟨v,r,h1,XT.rep hb h.1 h2,YN.rep hb h.2 h3⟩
end
theorem YN.get {ml:ML}:∀ {as bs:List AV},YN ml as bs→as.length=bs.length∧∀ (j:Nat) (a:AV),as[j]?=some a→∃ b,bs[j]?=some b∧XT ml a b
 | [],[],_=>⟨rfl,fun j b h=>by simp at h⟩
 | a :: as,b :: bs,h=>by
  rw[YN]at h;obtain ⟨h1,h2⟩:=YN.get h.2;refine ⟨by simp[h1],fun j c hc=>?_⟩;cases j with
  | zero=>simp at hc;subst hc;exact ⟨b,rfl,h.1⟩
  | succ j=>simpa using h2 j c (by simpa using hc)
 | [],b :: bs,h=>by simp[YN]at h
 | a :: as,[],h=>by simp[YN]at h
inductive Seen:Nat→NObj→NObj→Prop
 | own {og:NObj} (h:og.own=true) (hc:og.t0.clO=true):Seen 0 og og.t0
 | row {i t sz n:Nat} {els:List (List AV)} {og:NObj} (h:og=.arr t sz els∨og=.view t sz els) (hn:i+n≤els.length) (hc:Xr (Yo ((els.drop i).take n))=true):Seen i og (.view 0 sz (Yo ((els.drop i).take n)))
 | one {t z:Nat} {c:List AV} {og:NObj} (h:og=.cells t c∨og=.view t z [c]) (hc:clL (t0L c)=true):Seen 0 og (.view 0 c.length [t0L c])
theorem Seen.cl {i:Nat} {og o:NObj} (h:Seen i og o):o.clO=true:=by
 cases h with
 | own h hc=>exact hc
 | row h hn hc=>exact hc
 | one h hc=>simp[NObj.clO,Xr,hc]
theorem Seen.tag {i:Nat} {og o:NObj} (h:Seen i og o):o.tag=0:=by
 cases h with
 | own h hc=>cases og<;>rfl
 | row h hn hc=>rfl
 | one h hc=>rfl
theorem Seen.elem {i:Nat} {og o:NObj} (h:Seen i og o) {j:Nat} {c:List AV} (hc:Zl o j=some c):∃ c',Zl og (i+j)=some c'∧c=t0L c':=by
 cases h with
 | own h hcl =>
  rw[xR]at hc;rw[Nat.zero_add];cases he:Zl og j with
  | none=>rw[he]at hc;cases hc
  | some c' => rw[he]at hc;simp at hc;exact ⟨c',rfl,hc.symm⟩
 | @row _ t sz n els _ h hn hcl =>
  simp only[Zl]at hc;rw[Vc,List.getElem?_take]at hc;split at hc
  ·rw[List.getElem?_drop]at hc
   cases he:els[i+j]? with
   | none=>rw[he]at hc;cases hc
   | some c' =>
    rw[he]at hc;simp at hc;refine ⟨c',?_,hc.symm⟩;rcases h with rfl|rfl<;>exact he
  ·cases hc
 | @one t z c0 _ h hcl =>
  rw[Nat.zero_add];simp only[Zl]at hc;cases j with
  | zero =>
   simp at hc;refine ⟨c0,?_,hc.symm⟩;rcases h with rfl|rfl<;>rfl
  | succ j=>simp at hc
theorem Zes {u:AV} (r ro:Bool) (hr:r=false→ro=false) (hne:kidV r u.t0≠.free) (hcl:(kidV r u.t0).clO=true):Seen 0 (kidV ro u) (kidV r u.t0):=by
 cases u<;>simp only[AV.t0,kidV]at hne hcl⊢<;>try (exact absurd rfl hne)
 case os t sz els =>
  cases r with
  | false =>
   rw[hr rfl];simp only[Bool.false_eq_true,if_false]at hcl⊢;exact Seen.own (og:=.arr t sz els) rfl hcl
  | true =>
   simp only[if_true]at hcl⊢;have e:Yo els=Yo ((els.drop 0).take els.length):=(by simp);rw[e]at hcl⊢;exact Seen.row (t:=t) (by cases ro<;>simp) (by simp) hcl
 case op t c =>
  cases r with
  | false =>
   rw[hr rfl];simp only[Bool.false_eq_true,if_false]at hcl⊢;exact Seen.own (og:=.cells t c) rfl hcl
  | true =>
   simp only[if_true,Xf]at hcl⊢;refine Seen.one (t:=t) (z:=c.length) (by cases ro<;>simp) ?_;simpa [NObj.clO,Xr] using hcl
theorem Seen.kid {i:Nat} {og o:NObj} (h:Seen i og o) {t j f:Nat} (hne:kid o t j f≠.free):t=0∧Seen 0 (kid og og.tag (i+j) f) (kid o t j f):=by
 have ht:t=0:=by
  by_cases e:o.tag=t
  ·rw[← e,h.tag]
  ·exact absurd (Y9 e) hne
 subst ht;refine ⟨rfl,?_⟩;have hcl:(Go.W.kid o 0 j f).clO=true:=Zer (fun j c v f hc hv hp=>Uq (UL h.cl hc) hv) 0 j f;unfold Go.W.kid at hne hcl⊢;rw[if_pos h.tag]at hne hcl⊢;rw[if_pos rfl];cases he:Zl o j with
 | none=>rw[he]at hne;exact absurd rfl hne
 | some c =>
  obtain ⟨c',e1,e2⟩:=h.elem he;rw[he]at hne hcl;rw[e1];simp only[zp]at hne hcl⊢;rw[e2,T1]at hne hcl⊢;cases hu:c'[f]? with
  | none=>rw[hu]at hne;exact absurd rfl hne
  | some u =>
   rw[hu]at hne hcl;simp only[Option.map_some]at hne hcl⊢;refine Zes _ _ (fun hr=>?_) hne hcl;cases h with
   | own h hc=>cases og<;>simp_all [NObj.own,NObj.ro]
   | row h hn hc=>cases hr
   | one h hc=>cases hr
def ZeH (ml:ML):Nm→Nat
 | .top k=>match ml[k]? with
  | some (some (_,i))=>i
  | _=>0
 | _=>0
def psi (ml:ML) (G:NH):Nm→Option Nm
 | .top k=>match ml[k]? with
  | some (some (p,_))=>some p
  | _=>none
 | .sub x _ j f=>match psi ml G x with
  | some y=>some (.sub y (Zj G y).tag (ZeH ml x+j) f)
  | none=>none
theorem U0 (ml:ML) (G:NH) (x:Nm) (t j f:Nat):psi ml G (.sub x t j f)=(psi ml G x).map fun y=>.sub y (Zj G y).tag (ZeH ml x+j) f:=by
 rw[psi];cases psi ml G x<;>rfl
def yv (G:NH) (ml:ML) (objs:List NObj):Prop:=ml.length=objs.length∧∀ (k:Nat) (x:Option (Nm×Nat)) (o:NObj),ml[k]?=some x→objs[k]?=some o→match x with
 | some (p,i)=>Seen i (Zj G p) o
 | none=>(∃ sz,o=.view 0 sz []∨o=.arr 0 sz [])
def ZS:Nat→List NObj→List (Nat×NObj)
 | _,[]=>[]
 | i,o :: r=>(i,o) :: ZS (i+1) r
theorem ZaG:∀ (l:List NObj) (i x:Nat),hk (ZS i l) x=if i≤x then (l[x - i]?).getD .free else .free
 | [],i,x=>by simp[ZS,hk]
 | o :: r,i,x=>by
  rw[ZS,hk,ZaG r];by_cases e:x=i
  ·subst e;simp
  ·rw[if_neg e]
   by_cases h:i≤x
   ·rw[if_pos h,if_pos (by omega)]
    obtain ⟨d,hd⟩:∃ d,x - i=d+1:=⟨x - i - 1,by omega⟩;rw[hd,show x - (i+1)=d by omega];simp
   ·rw[if_neg h,if_neg (by omega)]
theorem TV (l:List NObj) (x:Nat):hk (ZS 0 l) x=(l[x]?).getD .free:=by simp[ZaG]
section
variable {G:NH} {ml:ML} {objs:List NObj}
theorem yj (h:yv G ml objs) {k:Nat} (hne:hk (ZS 0 objs) k≠.free):∃ x o,ml[k]?=some x∧objs[k]?=some o∧hk (ZS 0 objs) k=o∧k<objs.length:=by
 rw[TV]at hne⊢;cases ho:objs[k]? with
 | none=>rw[ho]at hne;exact absurd rfl hne
 | some o =>
  have hk:=(List.getElem?_eq_some_iff.1 ho).1;exact ⟨_,o,List.getElem?_eq_getElem (by rw[h.1];exact hk),rfl,rfl,hk⟩
theorem zL (h:yv G ml objs):∀ x:Nm,Zj (hk (ZS 0 objs)) x≠.free→x.mx=x.root∧x.root<objs.length∧((∃ y,psi ml G x=some y∧Seen (ZeH ml x) (Zj G y) (Zj (hk (ZS 0 objs)) x)∧Zj G y≠.free)∨(∃ k sz,x=.top k∧ml[k]?=some none∧(Zj (hk (ZS 0 objs)) x=.view 0 sz []∨Zj (hk (ZS 0 objs)) x=.arr 0 sz [])))
 | .top k,hne=>by
  obtain ⟨x,o,h1,h2,h3,h4⟩:=yj h hne;refine ⟨rfl,h4,?_⟩;have h5:=h.2 k x o h1 h2;rw[Zj,h3];cases x with
  | none=>obtain ⟨sz,h5⟩:=h5;exact .inr ⟨k,sz,rfl,h1,h5⟩
  | some q =>
   obtain ⟨p,i⟩:=q;refine .inl ⟨p,by simp[psi,h1],by simpa [ZeH,h1] using h5,fun e=>?_⟩;simp only at h5;rw[e]at h5;cases h5 with
   | own h _=>cases h
   | row h _ _=>rcases h with h | h<;>cases h
   | one h _=>rcases h with h | h<;>cases h
 | .sub x t j f,hne=>by
  rw[Zj]at hne;have hgx:Zj (hk (ZS 0 objs)) x≠.free:=fun e=>hne (by rw[e];simp[kid,Zl]);obtain ⟨i1,i2,i3⟩:=zL h x hgx;rcases i3 with ⟨y,g1,g2,g3⟩ | ⟨k,sz,rfl,g1,g2⟩
  ·obtain ⟨rfl,hs⟩:=g2.kid hne
   refine ⟨by simp only[Nm.mx,Nm.root];omega,i2,.inl ⟨_,by rw[U0,g1];rfl,?_,?_⟩⟩
   ·rw[Zj,Zj];exact hs
   ·rw[Zj]
    intro e;rw[e]at hs;generalize kid _ 0 j f=o at hs;cases hs with
    | own h _=>cases h
    | row h _ _=>rcases h with h | h<;>cases h
    | one h _=>rcases h with h | h<;>cases h
  ·exfalso
   apply hne;rcases g2 with g2|g2<;>rw[g2]<;>exact XZ (fun j c hc=>by simp[Zl]at hc) _ _ _
end
theorem Zkf {ρ ρl:Env} {x y:Nm} {t j j':Nat} {c:List AV} (hcl:clL (t0L c)=true) (hk:∀ (f:Nat) (v:AV),(t0L c)[f]?=some v→v.plain=false→ρl (.sub x 0 j f)=ρ (.sub y t j' f)):CLe ρ ρl (flC y t j' c) (flC x 0 j (t0L c)):=by
 refine ⟨by simp[Xf],fun k v' hv=>?_⟩;rw[Xy,T1]at hv;rw[Xy];cases hc:c[k]? with
 | none=>rw[hc]at hv;cases hv
 | some u =>
  rw[hc]at hv;simp only[Option.map_some,Option.some.injEq]at hv;subst hv;refine ⟨_,rfl,fun z hz=>?_⟩;have hg:(t0L c)[k]?=some u.t0:=by rw[T1,hc];rfl
  have hucl:=Uq hcl hg;cases hp:u.plain with
  | true =>
   rw[Xp hp]at hz;rw[zA hp]at hucl⊢;rw[Xp hp];exact vH hucl hp hz
  | false =>
   have:=hk k u.t0 hg (by rw[ZgD];exact hp);cases u<;>simp only[AV.plain,Bool.true_eq_false]at hp
   ·simp only[AV.t0,flV,Rep,YD]at hz⊢;rw[this];exact hz
   ·simp only[AV.t0,flV,Rep]at hz⊢;rw[this];exact hz
theorem Reg.shift {ρ ρl:Env} {L:Loc} {sz n n' i:Nat} {f f':Nat→List AV} {w:World} (h:Reg ρ L sz n' f' w) (hn:i+n≤n') (hc:∀ j,j<n→CLe ρ ρl (f' (i+j)) (f j)):Reg ρl (Y6 L i) sz n f w where
 nn:=h.nn
 esz:=h.esz
 cap:=by have:=h.cap;simp only[Y6];omega
 len j hj:=by rw[← (hc j hj).1];exact h.len _ (by omega)
 cell j hj k v hv:=by
  obtain ⟨u,h1,h2⟩:=(hc j hj).2 k v hv;obtain ⟨x,h3,h4,h5⟩:=h.cell (i+j) (by omega) k u h1;refine ⟨x,?_,h2 x h4,h5⟩;rw[← h3];simp only[Y6,h.esz]
  congr 2
  rw[Nat.add_mul];omega
theorem ZcO {ρ ρl:Env} {x y:Nm} {i:Nat} {og o:NObj} {w:World} (hs:Seen i og o) (hok:Xe ρ (ρ y) (flO y og) w) (hx:ρl x=Y6 (ρ y) i) (hk:∀ j f,kid o 0 j f≠.free→ρl (.sub x 0 j f)=ρ (.sub y og.tag (i+j) f)) :
  Xe ρl (ρl x) (flO x o) w∧(ZF (ρl x) (flO x o)→ZF (ρ y) (flO y og))∧(Yl (ρl x) (flO x o)→ZF (ρ y) (flO y og)∨Yl (ρ y) (flO y og)):=by
 have hcl:=hs.cl
 have htag:=hs.tag
 have cell:∀ j c c',Zl o j=some c→Zl og (i+j)=some c'→c=t0L c'→CLe ρ ρl (flC y og.tag (i+j) c') (flC x 0 j c):=fun j c c' h1 h2 e=>by
  subst e;refine Zkf (UL hcl h1) fun f v hv hp=>hk j f ?_;unfold kid;rw[if_pos htag,h1];simp only[zp,hv];cases v<;>simp only[AV.plain,Bool.true_eq_false]at hp<;>simp only[kidV]<;>split<;>simp
 rw[hx]
 cases hs with
 | own h hc =>
  rw[Xu];have ole:OLe ρ ρl (flO y og) (flO x og.t0):=by
   cases og with
   | free=>cases h
   | view t sz els=>cases h
   | cells t c=>exact .cells (cell 0 (t0L c) c (by simp[Zl,NObj.t0]) (by simp[Zl]) rfl)
   | arr t sz els =>
    simp only[NObj.t0,flO,YD];refine .arr fun j hj=>?_;have e1:(Yo els)[j]?=some (t0L els[j]):=(by rw[Vc,List.getElem?_eq_getElem hj];rfl);rw[List.getD_eq_getElem?_getD,List.getD_eq_getElem?_getD,List.getElem?_eq_getElem hj,e1,Option.getD_some,Option.getD_some];have:=cell j (t0L els[j]) els[j] (by simp only[NObj.t0,Zl];exact e1) (by simp[Zl,hj]) rfl;rw[Nat.zero_add]at this;exact this
  exact ⟨ole.ok hok,fun h=>ole.own h,fun h=>.inr (ole.viewed h)⟩
 | @row _ t sz n els _ h hn hc =>
  have len:(Yo ((els.drop i).take n)).length=n:=by rw[YD,List.length_take,List.length_drop];omega
  have reg:Reg ρ (ρ y) sz els.length (fun j=>flC y t j (els.getD j [])) w→Reg ρl (Y6 (ρ y) i) sz n (fun j=>flC x 0 j ((Yo ((els.drop i).take n)).getD j [])) w:=fun hr=>by
   refine hr.shift hn fun j hj=>?_;have e0:els[i+j]?=some els[i+j]:=List.getElem?_eq_getElem (by omega);have e1:(Yo ((els.drop i).take n))[j]?=some (t0L els[i+j]):=(by rw[Vc,List.getElem?_take,if_pos hj,List.getElem?_drop,e0];rfl);rw[List.getD_eq_getElem?_getD,List.getD_eq_getElem?_getD,e0,e1,Option.getD_some,Option.getD_some];have:=cell j (t0L els[i+j]) els[i+j] (by simp only[Zl];exact e1) (by rcases h with rfl|rfl<;>simp only[Zl]<;>exact e0) rfl;rcases h with rfl|rfl<;>exact this
  rcases h with rfl|rfl
  ·simp only[flO,len]at hok⊢
   refine ⟨?_,fun h=>h.elim,fun h=>.inl h⟩;rcases hok with ⟨h1,h2⟩ | ⟨h1,_⟩
   ·exact .inl ⟨h1,by omega⟩
   ·exact .inr (reg h1)
  ·simp only[flO,len]at hok⊢
   refine ⟨?_,fun h=>h.elim,fun h=>.inr h⟩;rcases hok with ⟨h1,h2⟩ | h1
   ·exact .inl ⟨h1,by omega⟩
   ·exact .inr (reg h1)
 | @one t z c _ h hc =>
  rw[Xu];have hcell:∀ tg,og.tag=tg→CLe ρ ρl (flC y tg 0 c) (flC x 0 0 (t0L c)):=fun tg e=>by
   have:=cell 0 (t0L c) c (by simp[Zl]) (by rcases h with rfl|rfl<;>simp[Zl]) rfl;rw[e]at this;exact this
  rcases h with rfl|rfl
  ·simp only[flO,List.length_singleton]at hok⊢
   refine ⟨.inr ?_,fun h=>h.elim,fun h=>.inl trivial⟩;have h1:=hok.1;rw[Vx]at h1;refine h1.cle fun j hj=>?_;obtain rfl:j=0:=(by omega);exact hcell t rfl
  ·simp only[flO,List.length_singleton]at hok⊢
   refine ⟨?_,fun h=>h.elim,fun h=>.inr h⟩;rcases hok with ⟨_,h2⟩ | h1
   ·cases h2
   ·right
    have hz:=h1.len 0 (by omega);simp at hz;rw[← hz]at h1;refine h1.cle fun j hj=>?_;obtain rfl:j=0:=(by omega);exact hcell t rfl
def Zcr (ρ0:Env) (ml:ML) (G:NH):Env
 | .top k=>xK ρ0 ml k
 | .sub p t j f=>match psi ml G (.sub p t j f) with
  | some y=>ρ0 y
  | none=>V0
theorem zs {ρ0:Env} {ml:ML} {G:NH} {x y:Nm} (h:psi ml G x=some y):Zcr ρ0 ml G x=Y6 (ρ0 y) (ZeH ml x):=by
 cases x with
 | top k =>
  simp only[psi]at h;simp only[Zcr,xK,ZeH];cases hm:ml[k]? with
  | none=>simp[hm]at h
  | some q =>
   cases q with
   | none=>simp[hm]at h
   | some q=>obtain ⟨p,i⟩:=q;simp[hm]at h;subst h;rfl
 | sub p t j f=>simp only[Zcr,h,ZeH,Xu]
def Zaq (ρ0:Env) (G:NH) (ml:ML) (objs:List NObj):Sc where
 own b:=∃ x,Zj (hk (ZS 0 objs)) x≠.free∧ZF (Zcr ρ0 ml G x) (HF (hk (ZS 0 objs)) x)∧b=(Zcr ρ0 ml G x).blk
 m:=objs.length
 A:=fun k=>xK ρ0 ml k
def xT (ml:ML) (objs:List NObj):Prop:=∀ (k k':Nat) (p p':Nm) (i i':Nat) (o:NObj),k≠k'→ml[k]?=some (some (p,i))→ml[k']?=some (some (p',i'))→objs[k]?=some o→o.own=true→¬ pre p p'∧¬ pre p' p
theorem Za3 {p q:Nm}:∀ {x:Nm},pre p x→pre q x→pre p q∨pre q p
 | .top n,h,h' => by simp only[pre]at h h';subst h h';exact .inl (Xz _)
 | .sub y t j f,h,h' => by
  rcases h with h|h
  ·subst h;exact .inr h'
  ·rcases h' with h' | h'
   ·subst h';exact .inl (.inr h)
   ·exact Za3 h h'
section
variable {w0:World} {S:Sc} {ρ0:Env} {G:NH} {w:World} {ml:ML} {objs:List NObj}
theorem Uh (hc:yv G ml objs):∀ {x y:Nm},psi ml G x=some y→∃ p i,ml[x.root]?=some (some (p,i))∧pre p y∧(∀ k,x=.top k→y=p)
 | .top k,y,h=>by
  simp only[psi]at h;cases hm:ml[k]? with
  | none=>simp[hm]at h
  | some q =>
   cases q with
   | none=>simp[hm]at h
   | some q=>obtain ⟨p,i⟩:=q;simp[hm]at h;subst h;exact ⟨p,i,hm,Xz _,fun _ _=>rfl⟩
 | .sub x t j f,y,h=>by
  rw[U0]at h;cases hx:psi ml G x with
  | none=>simp[hx]at h
  | some z =>
   simp[hx]at h;subst h;obtain ⟨p,i,h1,h2,_⟩:=Uh hc hx;exact ⟨p,i,h1,.inr h2,fun k e=>by cases e⟩
theorem VW (hc:yv G ml objs):∀ {x:Nm},(Zj (hk (ZS 0 objs)) x).own=true→(hk (ZS 0 objs) x.root).own=true
 | .top k,h=>h
 | .sub x t j f,h=>VW hc (x:=x) (ZdR h).1
theorem Zc1 (hc:yv G ml objs):∀ {x x' y:Nm},x.root=x'.root→Zj (hk (ZS 0 objs)) x≠.free→Zj (hk (ZS 0 objs)) x'≠.free→psi ml G x=some y→psi ml G x'=some y→x=x'
 | .top k,.top k',y,hr,_,_,_,_=>by simp only[Nm.root]at hr;rw[hr]
 | .top k,.sub x t j f,y,hr,_,_,h,h' => by
  exfalso;obtain ⟨p,i,h1,h2,h3⟩:=Uh hc h;have e:=h3 k rfl;subst e;rw[U0]at h';cases hx:psi ml G x with
  | none=>simp[hx]at h'
  | some z =>
   simp only[hx,Option.map_some,Option.some.injEq]at h';obtain ⟨p',i',g1,g2,_⟩:=Uh hc hx;simp only[Nm.root]at hr h1;rw[← hr,h1]at g1;simp only[Option.some.injEq,Prod.mk.injEq]at g1;have:=VJ g2;rw[← g1.1,← h']at this;simp only[depth]at this;omega
 | .sub x t j f,.top k,y,hr,_,_,h,h' => by
  exfalso;obtain ⟨p,i,h1,h2,h3⟩:=Uh hc h';have e:=h3 k rfl;subst e;rw[U0]at h;cases hx:psi ml G x with
  | none=>simp[hx]at h
  | some z =>
   simp only[hx,Option.map_some,Option.some.injEq]at h;obtain ⟨p',i',g1,g2,_⟩:=Uh hc hx;simp only[Nm.root]at hr h1;rw[hr,h1]at g1;simp only[Option.some.injEq,Prod.mk.injEq]at g1;have:=VJ g2;rw[← g1.1,← h]at this;simp only[depth]at this;omega
 | .sub x t j f,.sub x' t' j' f',y,hr,g,g',h,h' => by
  have gx:Zj (hk (ZS 0 objs)) x≠.free:=fun e=>g (by rw[Zj,e];simp[kid,Zl]);have gx':Zj (hk (ZS 0 objs)) x'≠.free:=fun e=>g' (by rw[Zj,e];simp[kid,Zl]);have tag0:∀ {x:Nm} {t j f},Zj (hk (ZS 0 objs)) (.sub x t j f)≠.free→Zj (hk (ZS 0 objs)) x≠.free→t=0:=fun {x t j f} g gx=>by
   rw[Zj]at g;have ht:(Zj (hk (ZS 0 objs)) x).tag=t:=by
    by_cases e:(Zj (hk (ZS 0 objs)) x).tag=t
    ·exact e
    ·exact absurd (Y9 e) g
   rcases (zL hc x gx).2.2 with ⟨y,_,hs,_⟩ | ⟨k,sz,rfl,_,hs⟩
   ·rw[← ht,hs.tag]
   ·rcases hs with hs|hs<;>rw[hs]at ht<;>exact ht.symm
  rw[U0]at h h';cases hx:psi ml G x with
  | none=>simp[hx]at h
  | some z =>
   cases hx':psi ml G x' with
   | none=>simp[hx']at h'
   | some z' =>
    simp only[hx,hx',Option.map_some,Option.some.injEq]at h h';rw[← h']at h;simp only[Nm.sub.injEq]at h;obtain ⟨rfl,_,e3,e4⟩:=h;have:=Zc1 hc (x:=x) (x':=x') hr gx gx' hx hx';subst this;rw[tag0 g gx,tag0 g' gx',e4,show j=j' by omega]
theorem ZcY (h:HCore w0 S ρ0 (HF G) w) (hc:yv G ml objs) (hap:xT ml objs) {ρl:Env} (hl:∀ x,(Zj (hk (ZS 0 objs)) x≠.free∨∃ k,k<objs.length∧x=.top k)→ρl x=Zcr ρ0 ml G x):HCore w (Zaq ρ0 G ml objs) ρl (HF (hk (ZS 0 objs))) w:=by
 have nf:∀ {x:Nm} {L:Loc},ZF L (HF (hk (ZS 0 objs)) x)→Zj (hk (ZS 0 objs)) x≠.free:=fun ho e=>by rw[Zt.2 e]at ho;exact ho
 have nfv:∀ {x:Nm} {L:Loc},Yl L (HF (hk (ZS 0 objs)) x)→Zj (hk (ZS 0 objs)) x≠.free:=fun ho e=>by rw[Zt.2 e]at ho;exact ho
 have main:∀ x,Zj (hk (ZS 0 objs)) x≠.free→Xe ρl (ρl x) (HF (hk (ZS 0 objs)) x) w∧(ZF (ρl x) (HF (hk (ZS 0 objs)) x)→∃ y,psi ml G x=some y∧ZF (ρ0 y) (HF G y)∧(ρl x).blk=(ρ0 y).blk)∧(Yl (ρl x) (HF (hk (ZS 0 objs)) x)→∃ y,psi ml G x=some y∧(ZF (ρ0 y) (HF G y)∨Yl (ρ0 y) (HF G y))∧(ρl x).blk=(ρ0 y).blk):=fun x hx=>by
  rcases (zL hc x hx).2.2 with ⟨y,g1,g2,g3⟩ | ⟨k,sz,rfl,g1,g2⟩
  ·have hρ:ρl x=Y6 (ρ0 y) (ZeH ml x):=by rw[hl x (.inl hx),zs g1]
   have:=ZcO (ρ:=ρ0) (ρl:=ρl) (x:=x) (y:=y) (w:=w) g2 (h.obj y) hρ (fun j f hkk=>by
    have hkn:Zj (hk (ZS 0 objs)) (.sub x 0 j f)≠.free:=hkk;rw[hl _ (.inl hkn),zs (by rw[U0,g1];rfl)];simp only[ZeH,Xu])
   refine ⟨this.1,fun ho=>⟨y,g1,this.2.1 ho,by rw[hρ];rfl⟩,fun ho=>⟨y,g1,this.2.2 ho,by rw[hρ];rfl⟩⟩
  ·have hρ:ρl (.top k)=V0:=by rw[hl _ (.inl hx)];simp[Zcr,xK,g1]
   have e:HF (hk (ZS 0 objs)) (.top k)=flO (.top k) (Zj (hk (ZS 0 objs)) (.top k)):=rfl;rw[e,hρ];rcases g2 with g2|g2<;>rw[g2]
   ·exact ⟨.inl ⟨rfl,rfl⟩,(fun h=>h.elim),(fun h=>by cases h)⟩
   ·exact ⟨.inl ⟨rfl,rfl⟩,(fun h=>by cases h),(fun h=>h.elim)⟩
 have lown:∀ {x},ZF (ρl x) (HF (hk (ZS 0 objs)) x)→(hk (ZS 0 objs) x.root).own=true:=fun {x} ho=>by
  refine VW hc ?_;have e:HF (hk (ZS 0 objs)) x=flO x (Zj (hk (ZS 0 objs)) x):=rfl;rw[e]at ho;cases hg:Zj (hk (ZS 0 objs)) x<;>rw[hg]at ho<;>first|rfl|exact ho.elim
 have meet:∀ {x x' y:Nm},ZF (ρl x) (HF (hk (ZS 0 objs)) x)→Zj (hk (ZS 0 objs)) x'≠.free→psi ml G x=some y→psi ml G x'=some y→x=x':=fun {x x' y} ho hx' h1 h2=>by
  by_cases hr:x.root=x'.root
  ·exact Zc1 hc hr (nf ho) hx' h1 h2
  ·exfalso
   obtain ⟨p,i,a1,a2,_⟩:=Uh hc h1;obtain ⟨p',i',b1,b2,_⟩:=Uh hc h2;have hro:=lown ho;have hne:hk (ZS 0 objs) x.root≠.free:=yG hro;obtain ⟨_,o,c1,c2,c3,c4⟩:=yj hc hne;rw[c3]at hro;obtain ⟨d1,d2⟩:=hap _ _ p p' i i' o hr a1 b1 c2 hro;rcases Za3 a2 b2 with e|e
   ·exact d1 e
   ·exact d2 e
 refine ⟨rfl,rfl,rfl,Nat.le_refl _,fun _ _ _=>rfl,fun x=>?_,fun x hx=>?_,fun x x' hx hx' e=>?_,fun x hx=>?_,fun x hx=>?_⟩
 ·by_cases e:Zj (hk (ZS 0 objs)) x=.free
  ·rw[Zt.2 e];trivial
  ·exact (main x e).1
 ·obtain ⟨y,g1,g2,g3⟩:=(main x (nf hx)).2.1 hx
  rw[g3];refine ⟨(h.own y g2).1,.inr ⟨x,nf hx,?_,?_⟩⟩
  ·rw[← hl x (.inl (nf hx))];exact hx
  ·rw[← hl x (.inl (nf hx))];exact g3.symm
 ·obtain ⟨y,g1,g2,g3⟩:=(main x (nf hx)).2.1 hx
  obtain ⟨y',k1,k2,k3⟩:=(main x' (nf hx')).2.1 hx';rw[g3,k3]at e;have:=h.dist y y' g2 k2 e;subst this;exact meet hx (nf hx') g1 k1
 ·have hxv:=nfv hx
  obtain ⟨y,g1,g2,g3⟩:=(main x hxv).2.2 hx;rw[g3];refine ⟨?_,?_⟩
  ·rcases g2 with g2|g2
   ·exact (h.own y g2).1
   ·have:=(h.vw y g2).1;have:=h.size;omega
  ·rintro ⟨z,z1,z2,z3⟩
   have hz:ZF (ρl z) (HF (hk (ZS 0 objs)) z):=(by rw[hl z (.inl z1)];exact z2);obtain ⟨y',k1,k2,k3⟩:=(main z z1).2.1 hz;rw[← hl z (.inl z1),k3]at z3;rcases g2 with g2|g2
   ·have:=h.dist y y' g2 k2 z3
    subst this;have:=meet hz hxv k1 g1;subst this;cases ho:HF (hk (ZS 0 objs)) z<;>rw[ho]at hx hz<;>simp[ZF,Yl]at hx hz
   ·have a1:=h.vw y g2
    have a2:=(h.own y' k2).2;rw[z3]at a1;rcases a2 with a2|a2
    ·omega
    ·exact a1.2 a2
 ·have hx:x<objs.length:=hx
  rw[hl _ (.inr ⟨x,hx,rfl⟩)];rfl
end
end Go.W
