/- Objects that own others: a heap of trees, and the flat heap that it stands for. What an operation does to a heap of trees. -/
import Derived.Test.YtidbbnkpglggdaaGreatWH
namespace Go.W
set_option linter.unusedSimpArgs false
set_option linter.unusedVariables false
inductive NObj where
 | free
 | cells (t:Nat) (c:List AV)
 | arr (t sz:Nat) (els:List (List AV))
 | view (t sz:Nat) (els:List (List AV))
 deriving Inhabited
abbrev NH:=Nat→NObj
def NObj.tag:NObj→Nat
 | .free=>0
 | .cells t _=>t
 | .arr t _ _=>t
 | .view t _ _=>t
def NObj.ro:NObj→Bool
 | .view _ _ _=>true
 | _=>false
def NObj.own:NObj→Bool
 | .cells _ _=>true
 | .arr _ _ _=>true
 | _=>false
def Zl:NObj→Nat→Option (List AV)
 | .cells _ c,i=>if i=0 then some c else none
 | .arr _ _ els,i=>els[i]?
 | .view _ _ els,i=>els[i]?
 | .free,_=>none
def kidV (ro:Bool):AV→NObj
 | .os t sz els=>if ro=true then .view t sz els else .arr t sz els
 | .op t c=>if ro=true then .view t c.length [c] else .cells t c
 | _=>.free
def zp (ro:Bool) (c:List AV) (f:Nat):NObj:=match c[f]? with
 | some v=>kidV ro v
 | none=>.free
def kid (o:NObj) (t j f:Nat):NObj:=if o.tag=t then (match Zl o j with
 | some c=>zp o.ro c f
 | none=>.free) else .free
def Zj (G:NH):Nm→NObj
 | .top n=>G n
 | .sub p t j f=>kid (Zj G p) t j f
def AV.plain:AV→Bool
 | .os _ _ _ | .op _ _=>false
 | _=>true
def flV (p:Nm) (t j f:Nat):AV→AV
 | .os _ _ els=>.sl (.sub p t j f) 0 els.length
 | .op _ _=>.ptr (.sub p t j f) 0 0
 | v=>v
def flC (p:Nm) (t j:Nat) (c:List AV):List AV:=c.mapIdx fun f v=>flV p t j f v
def flO (p:Nm):NObj→AObj
 | .free=>.free
 | .cells t c=>.cells (flC p t 0 c)
 | .arr t sz els=>.arr sz els.length (fun j=>flC p t j (els.getD j []))
 | .view t sz els=>.view sz els.length (fun j=>flC p t j (els.getD j []))
def HF (G:NH) (x:Nm):AObj:=flO x (Zj G x)
theorem Xp {p:Nm} {t j f:Nat} {v:AV} (h:v.plain=true):flV p t j f v=v:=by
 cases v<;>first|rfl|simp[AV.plain]at h
@[simp] theorem Vx (p:Nm) (t j:Nat) (c:List AV):(flC p t j c).length=c.length:=by simp[flC]
theorem Xy (p:Nm) (t j:Nat) (c:List AV) (f:Nat):(flC p t j c)[f]?=(c[f]?).map (flV p t j f):=by simp[flC]
theorem Y8 {p:Nm} {t j:Nat} {c:List AV} (h:c.all AV.plain=true):flC p t j c=c:=by
 apply List.ext_getElem?;intro f;rw[Xy];cases hc:c[f]? with
 | none=>rfl
 | some v =>
  have:=List.all_eq_true.1 h v (List.mem_of_getElem? hc);simp[Xp this]
theorem ZeC (G:NH) (p:Nm) (i:Nat):VZ (HF G p) i=(Zl (Zj G p) i).map (flC p (Zj G p).tag i):=by
 unfold HF;cases Zj G p with
 | free=>rfl
 | cells t c =>
  simp only[flO,VZ,Zl,NObj.tag];split
  ·rename_i e;subst e;rfl
  ·rfl
 | arr t sz els =>
  simp only[flO,VZ,Zl,NObj.tag];split
  ·rename_i h;rw[List.getD_eq_getElem?_getD,List.getElem?_eq_getElem h];rfl
  ·rename_i h;rw[List.getElem?_eq_none (by omega)];rfl
 | view t sz els =>
  simp only[flO,VZ,Zl,NObj.tag];split
  ·rename_i h;rw[List.getD_eq_getElem?_getD,List.getElem?_eq_getElem h];rfl
  ·rename_i h;rw[List.getElem?_eq_none (by omega)];rfl
def szN:NObj→Option Nat
 | .arr _ sz _=>some sz
 | .view _ sz _=>some sz
 | _=>none
theorem ZbH (G:NH) (p:Nm):Zag (HF G p)=szN (Zj G p):=by
 unfold HF;cases Zj G p<;>rfl
theorem Zt {G:NH} {x:Nm}:HF G x=.free↔Zj G x=.free:=by
 unfold HF;cases Zj G x<;>simp[flO]
def UO (x:Nm) (old:NObj):NObj→AV
 | .arr t sz els=>.os t sz els
 | .cells t c=>.op t c
 | .view _ _ _=>.bot
 | .free=>match old with
  | .arr _ _ els=>.sl x 0 els.length
  | .cells _ _=>.ptr x 0 0
  | _=>.bot
def Ya (o:NObj) (j f:Nat) (v:AV):NObj :=
 match o with
 | .cells t c=>.cells t (if j=0 then c.set f v else c)
 | .arr t sz els=>.arr t sz (els.set j ((els.getD j []).set f v))
 | o=>o
def wr (G:NH):Nm→NObj→Nat×NObj
 | .top n,o=>(n,o)
 | .sub p t j f,o=>wr G p (Ya (Zj G p) j f (UO (.sub p t j f) (Zj G (.sub p t j f)) o))
def pre (p:Nm):Nm→Prop
 | .top n=>p=.top n
 | .sub q t j f=>p=.sub q t j f∨pre p q
theorem Xz (p:Nm):pre p p:=by cases p<;>simp[pre]
def depth:Nm→Nat
 | .top _=>0
 | .sub p _ _ _=>depth p+1
theorem VJ {p:Nm}:∀ {x:Nm},pre p x→depth p≤depth x
 | .top n,h=>by simp only[pre]at h;subst h;exact Nat.le_refl _
 | .sub y t j f,h=>by
  rcases h with h|h
  ·subst h;exact Nat.le_refl _
  ·have:=VJ h;simp only[depth];omega
theorem UI {n:Nat}:∀ {x:Nm},pre (.top n) x↔x.root=n
 | .top m=>by simp only[pre,Nm.top.injEq,Nm.root];exact eq_comm
 | .sub y t j f=>by simp only[pre,Nm.root,reduceCtorEq,false_or];exact UI
def Tx:NObj→NObj→Prop
 | .cells _ _,.cells _ _=>True
 | .arr _ _ els,.arr _ _ els' => els'.length=els.length
 | .cells _ _,.free=>True
 | .arr _ _ _,.free=>True
 | _,_=>False
theorem Tx.own {o o':NObj} (h:Tx o o'):o.own=true:=by
 cases o<;>cases o'<;>simp_all [Tx,NObj.own]
theorem YU {G:NH} {n:Nat} {o:NObj}:∀ {x:Nm},x.root≠n→Zj (upd G n o) x=Zj G x
 | .top m,h=>Zn _ _ h
 | .sub y t j f,h=>by rw[Zj,Zj,YU (x:=y) h]
theorem ZdR {o:NObj} {t j f:Nat} (h:(kid o t j f).own=true):o.own=true∧o.tag=t∧∃ c v,Zl o j=some c∧c[f]?=some v∧kidV false v=kid o t j f:=by
 unfold kid at h⊢;split at h
 ·rename_i ht
  simp only[ht,if_true]at h⊢;cases he:Zl o j with
  | none=>simp[he,NObj.own]at h
  | some c =>
   simp only[he]at h⊢;unfold zp at h⊢;cases hc:c[f]? with
   | none=>simp[hc,NObj.own]at h
   | some v =>
    simp only[hc]at h⊢;cases o with
    | free=>simp[Zl]at he
    | cells t' d=>exact ⟨rfl,trivial,c,v,rfl,hc,rfl⟩
    | arr t' sz els=>exact ⟨rfl,trivial,c,v,rfl,hc,rfl⟩
    | view t sz els=>cases v<;>simp[kidV,NObj.ro,NObj.own]at h
 ·simp[NObj.own]at h
theorem UE (o:NObj) (j f:Nat) (v:AV):(Ya o j f v).tag=o.tag:=by cases o<;>rfl
theorem Zdo (o:NObj) (j f:Nat) (v:AV):(Ya o j f v).ro=o.ro:=by cases o<;>rfl
theorem Zaz {o:NObj} {j f:Nat} {v:AV} {c:List AV} (ho:o.own=true) (hc:Zl o j=some c) (i:Nat):Zl (Ya o j f v) i=if i=j then some (c.set f v) else Zl o i:=by
 cases o with
 | free=>simp[NObj.own]at ho
 | view t sz els=>simp[NObj.own]at ho
 | cells t d =>
  simp only[Zl]at hc;split at hc
  ·rename_i e
   subst e;injection hc with hc;subst hc;simp only[Ya,Zl,if_true];split
   ·rfl
   ·rfl
  ·cases hc
 | arr t sz els =>
  simp only[Zl]at hc;simp only[Ya,Zl];have hlt:=(List.getElem?_eq_some_iff.1 hc).1;rw[List.getD_eq_getElem?_getD,hc,Option.getD_some,List.getElem?_set];by_cases e:i=j
  ·subst e;simp[hlt]
  ·rw[if_neg (fun h=>e h.symm),if_neg e]
theorem TW {o:NObj} {j f:Nat} {v u:AV} {c:List AV} (ho:o.own=true) (hc:Zl o j=some c) (hu:c[f]?=some u) (j' f':Nat):kid (Ya o j f v) o.tag j' f'=if j'=j∧f'=f then kidV false v else kid o o.tag j' f':=by
 have hro:o.ro=false:=by cases o<;>simp_all [NObj.own,NObj.ro]
 unfold kid;rw[UE,Zdo,Zaz ho hc,hro];simp only[if_true];have hlt:=(List.getElem?_eq_some_iff.1 hu).1;by_cases e:j'=j
 ·subst e
  simp only[if_true,hc,zp,List.getElem?_set,true_and];by_cases e2:f'=f
  ·subst e2;simp[hlt]
  ·rw[if_neg (fun h=>e2 h.symm),if_neg e2]
 ·simp only[if_neg e,e,false_and,if_false]
theorem Y9 {o:NObj} {t j f:Nat} (h:o.tag≠t):kid o t j f=.free:=by unfold kid;rw[if_neg h]
theorem ZbR {o:NObj} {j f:Nat} {v u:AV} {c:List AV} (q:Nm) (ho:o.own=true) (hc:Zl o j=some c) (hu:c[f]?=some u) (he:flV q o.tag j f v=flV q o.tag j f u):flO q (Ya o j f v)=flO q o:=by
 have key:flC q o.tag j (c.set f v)=flC q o.tag j c:=by
  apply List.ext_getElem?;intro k;rw[Xy,Xy,List.getElem?_set];by_cases e:f=k
  ·subst e
   rw[if_pos rfl,if_pos (List.getElem?_eq_some_iff.1 hu).1,hu];simp[he]
  ·rw[if_neg e]
 cases o with
 | free=>simp[NObj.own]at ho
 | view t sz els=>simp[NObj.own]at ho
 | cells t d =>
  simp only[Zl]at hc;split at hc
  ·rename_i e
   subst e;injection hc with hc;subst hc;simp only[Ya,flO,if_true];simp only[NObj.tag]at key;rw[key]
  ·cases hc
 | arr t sz els =>
  simp only[Zl]at hc;simp only[Ya,flO,List.length_set,AObj.arr.injEq,true_and];simp only[NObj.tag]at key
  funext i
  rw[List.getD_eq_getElem?_getD,List.getD_eq_getElem?_getD,List.getD_eq_getElem?_getD,hc,List.getElem?_set];by_cases e:j=i
  ·subst e
   rw[if_pos rfl,if_pos (List.getElem?_eq_some_iff.1 hc).1,hc];simpa using key
  ·rw[if_neg e]
theorem Zck {x:Nm} {old o:NObj} (h:Tx old o):kidV false (UO x old o)=o:=by
 cases old<;>cases o<;>simp_all [Tx,UO,kidV]
theorem ZdH {p:Nm} {t j f:Nat} {old o:NObj} {u:AV} (h:Tx old o) (hu:kidV false u=old):flV p t j f (UO (.sub p t j f) old o)=flV p t j f u:=by
 cases u<;>simp[kidV]at hu<;>subst hu<;>cases o<;>simp_all [Tx,UO,flV]
theorem ye {o:NObj} {j f:Nat} {v:AV} (ho:o.own=true):Tx o (Ya o j f v):=by
 cases o<;>simp_all [NObj.own,Ya,Tx]
theorem yO (G:NH):∀ (p:Nm) (o':NObj),Tx (Zj G p) o'→Zj (upd G (wr G p o').1 (wr G p o').2) p=o'∧(∀ x,¬ pre p x→HF (upd G (wr G p o').1 (wr G p o').2) x=HF G x) ∧
  ∀ x,¬ pre p x→¬ pre x p→Zj (upd G (wr G p o').1 (wr G p o').2) x=Zj G x
 | .top n,o',h=>by
  refine ⟨Zx _ _ _,fun x hx=>?_,fun x hx _=>?_⟩
  ·have:x.root≠n:=fun e=>hx (UI.2 e)
   unfold HF;show flO x (Zj (upd G n o') x)=_;rw[YU this]
  ·exact YU fun e=>hx (UI.2 e)
 | .sub q t j f,o',h=>by
  have hown:=h.own;obtain ⟨ho,ht,c,u,hc,hu,hk⟩:=ZdR (o:=Zj G q) (t:=t) (j:=j) (f:=f) hown;obtain ⟨i1,i2,i3⟩:=yO G q (Ya (Zj G q) j f (UO (.sub q t j f) (Zj G (.sub q t j f)) o')) (ye ho);have hw:wr G (.sub q t j f) o'=wr G q (Ya (Zj G q) j f (UO (.sub q t j f) (Zj G (.sub q t j f)) o')):=rfl;rw[hw];generalize hG':upd G (wr G q (Ya (Zj G q) j f (UO (.sub q t j f) (Zj G (.sub q t j f)) o'))).1 (wr G q (Ya (Zj G q) j f (UO (.sub q t j f) (Zj G (.sub q t j f)) o'))).2=G' at i1 i2 i3⊢;have kids:∀ j' f',kid (Zj G' q) t j' f'=if j'=j∧f'=f then o' else kid (Zj G q) t j' f':=fun j' f' => by
   rw[i1,← ht,TW ho hc hu,ht];split
   ·exact Zck h
   ·rfl
  have tags:∀ t',t'≠t→∀ j' f',kid (Zj G' q) t' j' f'=.free∧kid (Zj G q) t' j' f'=.free:=fun t' hne j' f' =>
   ⟨Y9 (by rw[i1,UE,ht];exact fun e=>hne e.symm),Y9 (by rw[ht];exact fun e=>hne e.symm)⟩
  have below:∀ x,pre q x→x≠q→¬ pre (.sub q t j f) x→Zj G' x=Zj G x:=by
   intro x
   induction x with
   | top m=>intro hx hne _;simp only[pre]at hx;exact absurd hx.symm hne
   | sub y t' j' f' ih =>
    intro hx hne hnp;have hqy:pre q y:=by
     rcases hx with hx|hx
     ·exact absurd hx.symm hne
     ·exact hx
    have hny:¬ pre (.sub q t j f) y:=fun h=>hnp (.inr h);by_cases e:y=q
    ·subst e
     by_cases et:t'=t
     ·subst et
      have:=kids j' f';rw[if_neg (fun hh=>hnp (.inl (by rw[hh.1,hh.2])))]at this;exact this
     ·obtain ⟨a,b⟩:=tags t' et j' f'
      show kid _ _ _ _=kid _ _ _ _;rw[a,b]
    ·rw[Zj,Zj,ih hqy e hny]
  refine ⟨?_,fun x hx=>?_,fun x hx hx' => ?_⟩
  ·have:=kids j f
   rw[if_pos ⟨rfl,rfl⟩]at this;exact this
  ·by_cases hq:pre q x
   ·by_cases e:x=q
    ·subst e
     unfold HF;rw[i1];refine ZbR x ho hc hu ?_;rw[ht];exact ZdH h hk
    ·unfold HF;rw[below x hq e hx]
   ·exact i2 x hq
  ·by_cases hq:pre q x
   ·have e:x≠q:=fun e=>hx' (by subst e;exact .inr (Xz _))
    exact below x hq e hx
   ·refine i3 x hq fun hh=>hx' (.inr hh)
theorem Zgj (G:NH) (p:Nm) {o':NObj} (h:Tx (Zj G p) o') (hk:∀ t j f,kid o' t j f=kid (Zj G p) t j f∨kid o' t j f=.free):∀ x,pre p x→x≠p→Zj (upd G (wr G p o').1 (wr G p o').2) x=Zj G x∨Zj (upd G (wr G p o').1 (wr G p o').2) x=.free:=by
 intro x
 induction x with
 | top m=>intro hx hne;simp only[pre]at hx;exact absurd hx.symm hne
 | sub y t j f ih =>
  intro hx hne;have hy:pre p y:=by
   rcases hx with hx|hx
   ·exact absurd hx.symm hne
   ·exact hx
  rw[Zj,Zj];by_cases e:y=p
  ·subst e
   rw[(yO G y o' h).1];exact hk t j f
  ·rcases ih hy e with i|i
   ·rw[i];exact .inl rfl
   ·rw[i];right;simp[kid,Zl]
structure Res where
 v:AV
 hs:List (Nat×NObj)
 rd:List Nat
 n:Nat
structure Spec where
 fn:List AV→NH→Nat→Option Res
 loc:∀ args G G' nb r,fn args G nb=some r→(∀ x,x∈r.rd∨x∈r.hs.map (·.1)→G x=G' x)→fn args G' nb=some r
 nm:∀ args G nb r,fn args G nb=some r→∀ x,x∈r.hs.map (·.1)→(nb≤x∧x<nb+r.n)∨G x≠.free
def AV.st:AV→Bool
 | .agg _ | .tup _ | .bot | .os _ _ _ | .op _ _=>false
 | .raw v=>v.oneCell'
 | _=>true
theorem Zj6 {v:AV} (h:v.st=true):v.one=true:=by cases v<;>simp_all [AV.st,AV.one]
theorem Zgw {v:AV} (h:v.st=true):v.plain=true:=by cases v<;>simp_all [AV.st,AV.plain]
theorem yX {l:List AV} (h:l.all AV.st=true):l.all AV.one=true:=List.all_eq_true.2 fun v hv=>Zj6 (List.all_eq_true.1 h v hv)
theorem YQ {l:List AV} (h:l.all AV.st=true):l.all AV.plain=true:=List.all_eq_true.2 fun v hv=>Zgw (List.all_eq_true.1 h v hv)
mutual
def AV.tl (n:Nat):AV→Bool
 | .os t _ els=>decide (t<n)&&UR n els
 | .op t c=>decide (t<n)&&tlL n c
 | _=>true
def tlL (n:Nat):List AV→Bool
 | []=>true
 | a :: as=>a.tl n&&tlL n as
def UR (n:Nat):List (List AV)→Bool
 | []=>true
 | a :: as=>tlL n a&&UR n as
end
theorem ZdO {n:Nat}:∀ {l:List AV},tlL n l=true→∀ {j:Nat} {v:AV},l[j]?=some v→v.tl n=true
 | [],_,j,v,h=>by simp at h
 | a :: as,h,j,v,hj=>by
  simp only[tlL,Bool.and_eq_true]at h;cases j with
  | zero=>simp at hj;subst hj;exact h.1
  | succ j=>exact ZdO h.2 (by simpa using hj)
theorem zt {n:Nat}:∀ {l:List (List AV)},UR n l=true→∀ {j:Nat} {v:List AV},l[j]?=some v→tlL n v=true
 | [],_,j,v,h=>by simp at h
 | a :: as,h,j,v,hj=>by
  simp only[UR,Bool.and_eq_true]at h;cases j with
  | zero=>simp at hj;subst hj;exact h.1
  | succ j=>exact zt h.2 (by simpa using hj)
def ZgJ:NObj→Nat→Nat→List AV→Option NObj
 | .cells t c,i,f,l=>if i=0 then (if f+l.length≤c.length then some (.cells t (Y4 c f l)) else none) else none
 | .arr t sz els,i,f,l=>match els[i]? with
  | some c=>if f+l.length≤sz∧c.length=sz then some (.arr t sz (els.set i (Y4 c f l))) else none
  | none=>none
 | _,_,_,_=>none
def zi (G:NH):AV→Option (List (List AV)×List Nat×Nat)
 | .nsl=>some ([],[],0)
 | .raw (.slice (some _) 0 _)=>some ([],[],0)
 | .sl p i n=>match Zj G p with
  | .arr _ sz els=>if i+n≤els.length then some ((els.drop i).take n,[p.root],sz) else none
  | .view _ sz els=>if i+n≤els.length then some ((els.drop i).take n,[p.root],sz) else none
  | _=>none
 | _=>none
def XX (r:FRes):Res:=⟨r.v,[],[],8⟩
def noH:Nm→AObj:=fun _=>.free
def MOp.isPure:MOp→Bool
 | .alloc _ | .box _ | .load _ _ _ | .store _ _ _ | .iaddr _ _ _ | .slc _ _ _ _ | .app _ _ _ _ | .appz _ _ _ _ | .mks _ _ _ _ _ | .bsl _ _ _ _ | .call _ _ | .stop | .clr _ _ | .mp _=>false
 | _=>true
def YL (E:FuncId→Option Spec) (T:Nat→AV) (G:NH) (nb:Nat) (m:MOp):Option Res :=
 match m with
 | .alloc z=>if z.all AV.st=true then some ⟨.ptr (.top nb) 0 0,[(nb,.cells 0 z)],[],8⟩ else none
 | .box x=>if (x.ev T).cells.all AV.st=true then some ⟨.ptr (.top nb) 0 0,[(nb,.cells 0 (x.ev T).cells)],[],8⟩ else none
 | .load ag n x=>match x.ev T with
  | .ptr p i f=>match Zl (Zj G p) i with
   | some c=>if ag=true then (if f+n≤c.length then some ⟨.agg (((flC p (Zj G p).tag i c).drop f).take n),[],[p.root],8⟩ else none)
    else (match c[f]? with
     | some v=>some ⟨flV p (Zj G p).tag i f v,[],[p.root],8⟩
     | none=>none)
   | none=>none
  | _=>none
 | .store n x y=>match x.ev T with
  | .ptr p i f=>if (y.ev T).cells.all AV.st=true∧(y.ev T).cells.length=n then
    (match ZgJ (Zj G p) i f (y.ev T).cells with
    | some o' => some ⟨.bot,[wr G p o'],[],8⟩
    | none=>none) else none
  | _=>none
 | .iaddr sz x i=>match x.ev T,i.ev T with
  | .sl p s n,.int _ j=>if szN (Zj G p)=some sz then (if 0≤j∧j<n then some ⟨.ptr p (s+j.toNat) 0,[],[p.root],8⟩ else none) else none
  | _,_=>none
 | .slc sz x lo hi=>match x.ev T with
  | .sl p s n =>
   match lo.elim (AV.int .i64 0) (X.ev T),hi.elim (AV.int .i64 n) (X.ev T) with
   | .int _ l,.int _ h=>if szN (Zj G p)=some sz then (if 0≤l∧l≤h∧h≤n then some ⟨.sl p (s+l.toNat) (h.toNat - l.toNat),[],[p.root],8⟩ else none) else none
   | _,_=>none
  | .nsl =>
   match lo.elim (AV.int .i64 0) (X.ev T),hi.elim (AV.int .i64 0) (X.ev T) with
   | .int _ l,.int _ h=>if l=0∧h=0 then some ⟨.nsl,[],[],8⟩ else none
   | _,_=>none
  | _=>none
 | .app sz bytes x y=>match zi G (y.ev T) with
  | some (els',rd,sz') =>
   if (els'=[]∨sz'=sz)∧els'.all (fun c=>c.all AV.plain)=true then
    (match x.ev T with
    | .nsl=>if els'.length*bytes≤140737488355328∧els'.length≤9223372036854775807 then some ⟨.sl (.top nb) 0 els'.length,[(nb,.arr 0 sz els')],rd,8⟩ else none
    | .sl p s n=>match Zj G p with
     | .arr _ sz2 els=>if sz2=sz∧s+n=els.length∧UR nb els=true∧(n+els'.length)*bytes≤140737488355328∧n+els'.length≤9223372036854775807 then
       some ⟨.sl (.top nb) 0 (n+els'.length),[wr G p .free,(nb,.arr 0 sz (els.drop s++els'))],rd,8⟩ else none
     | _=>none
    | _=>none)
   else none
  | none=>none
 | .appz sz bytes x y=>match x.ev T,y.ev T with
  | .nsl,.int .i64 n=>if 0<n∧n*bytes≤140737488355328∧n≤9223372036854775807 then some ⟨.sl (.top nb) 0 n.toNat,[(nb,.arr 0 sz [])],[],8⟩ else none
  | _,_=>none
 | .mks sz bytes z l c=>match l.ev T,c.ev T with
  | .int _ a,.int _ b=>if a=b∧0≤a∧a*bytes≤281474976710656∧a≤9223372036854775807∧z.length=sz∧z.all AV.st=true then some ⟨.sl (.top nb) 0 a.toNat,[(nb,.arr 0 sz (List.replicate a.toNat z))],[],8⟩ else none
  | _,_=>none
 | .bsl sz n z ps=>match zP ((List.replicate n z).flatten) (Vw T ps) with
  | some c=>if c.length=n*sz∧n*sz≤16777216∧0<sz∧c.all AV.st=true then some ⟨.sl (.top nb) 0 n,[(nb,.arr 0 sz ((List.range n).map fun j=>(c.drop (j*sz)).take sz))],[],8⟩ else none
  | none=>none
 | .call f args=>match f.ev T with
  | .fn g cap=>match E g with
   | some sp=>sp.fn (args.map (X.ev T)++cap) G nb
   | none=>none
  | _=>none
 | .clr sz x=>match x.ev T with
  | .sl (.top p) s n=>match G p with
   | .arr t sz' els=>if sz'=sz∧0<n∧s+n=els.length∧els.all (fun c=>c.all AV.plain)=true then some ⟨.tup [],[(p,.arr t sz (els.take s))],[],8⟩ else none
   | _=>none
  | _=>none
 | .mp _=>none
 | .mv x=>(Zv T noH (.top 0) (.mv x)).map XX
 | .pick c a b=>(Zv T noH (.top 0) (.pick c a b)).map XX
 | .nilck x=>(Zv T noH (.top 0) (.nilck x)).map XX
 | .bin op x y=>(Zv T noH (.top 0) (.bin op x y)).map XX
 | .eq ng k x y=>(Zv T noH (.top 0) (.eq ng k x y)).map XX
 | .un op x=>(Zv T noH (.top 0) (.un op x)).map XX
 | .conv k x=>(Zv T noH (.top 0) (.conv k x)).map XX
 | .mkif t x=>(Zv T noH (.top 0) (.mkif t x)).map XX
 | .faddr off x=>(Zv T noH (.top 0) (.faddr off x)).map XX
 | .fld ag off n x=>(Zv T noH (.top 0) (.fld ag off n x)).map XX
 | .paddr len sz x i=>(Zv T noH (.top 0) (.paddr len sz x i)).map XX
 | .idx ag len sz x i=>(Zv T noH (.top 0) (.idx ag len sz x i)).map XX
 | .len x=>(Zv T noH (.top 0) (.len x)).map XX
 | .slen x=>(Zv T noH (.top 0) (.slen x)).map XX
 | .cap x=>(Zv T noH (.top 0) (.cap x)).map XX
 | .stop=>none
 | .mn xs=>(Zv T noH (.top 0) (.mn xs)).map XX
 | .mx xs=>(Zv T noH (.top 0) (.mx xs)).map XX
 | .build z ps=>(Zv T noH (.top 0) (.build z ps)).map XX
 | .ext x i=>(Zv T noH (.top 0) (.ext x i)).map XX
 | .tas t z ok x=>(Zv T noH (.top 0) (.tas t z ok x)).map XX
 | .mkfn f cap=>(Zv T noH (.top 0) (.mkfn f cap)).map XX
theorem TQ {E:FuncId→Option Spec} {T:Nat→AV} {G:NH} {nb:Nat} {m:MOp} (h:m.isPure=true):YL E T G nb m=(Zv T noH (.top 0) m).map XX:=by
 cases m<;>first|rfl|simp[MOp.isPure]at h
theorem ZbT {T:Nat→AV} {H H':Nm→AObj} {nb nb':Nm} {m:MOp} {r:FRes} (h:m.isPure=true) (hs:Zv T H nb m=some r):Zv T H' nb' m=some r∧r.hs=[]:=by
 cases m<;>simp only[MOp.isPure,Bool.false_eq_true]at h<;>refine ⟨hs,?_⟩<;>simp only[Zv]at hs<;>(repeat' (split at hs))<;>first|(cases hs;done)|(injection hs with hs;subst hs;rfl)
section
variable {P:Program} {w0:World} {S:Sc} {Es:Env→Prop} {U:Nm→Prop} {T:Nat→AV} {G:NH} {a:Act} {w:World}
def V7 (P:Program) (w0:World) (S:Sc) (Es:Env→Prop) (G:NH) (a:Act) (w:World) (o:Oper) (r:Res) (F:Nm→Prop):Prop :=
 (∃ (w':World) (g:Env) (nx:Next),(execOp a.eval o).run P w=.ok nx w' ∧
  ((∃ v,nx=.value v∧∀ ρ,Es ρ→(∀ x,F x→ρ x=g x)→Rep ρ r.v v)∨(nx=.skip∧r.v=.bot)) ∧
  ∀ ρ,Es ρ→(∀ x,F x→ρ x=g x)→HCore w0 S ρ (HF (Yr G r.hs)) w')∧∀ x,¬ F x→Zj (Yr G r.hs) x≠.free→Zj G x≠.free
theorem V7.of_same {o:Oper} {rf:FRes} {r:Res} {F:Nm→Prop} (h:Yu P w0 S Es (HF G) a w o rf F) (hv:rf.v=r.v) (hf:rf.hs=[]) (hn:r.hs=[]):V7 P w0 S Es G a w o r F:=by
 obtain ⟨w',g,nx,h1,h2,h3⟩:=h;refine ⟨⟨w',g,nx,h1,by rw[← hv];exact h2,fun ρ hρ hg=>?_⟩,fun x _ hx=>by rw[hn]at hx;exact hx⟩;have:=h3 ρ hρ hg;rw[hf]at this;rw[hn];exact this
theorem XI {G:NH} {n:Nat} (h:G n=.free):∀ {x:Nm},x.root=n→Zj G x=.free
 | .top m,e=>by simp only[Nm.root]at e;subst e;exact h
 | .sub y t j f,e=>by rw[Zj,XI h (x:=y) e];simp[kid,Zl]
theorem XZ {o:NObj} (h:∀ j c,Zl o j=some c→c.all AV.plain=true) (t j f:Nat):kid o t j f=.free:=by
 unfold kid;split
 ·cases he:Zl o j with
  | none=>rfl
  | some c =>
   simp only[zp];cases hc:c[f]? with
   | none=>rfl
   | some v =>
    have:=List.all_eq_true.1 (h j c he) v (List.mem_of_getElem? hc);cases v<;>first|rfl|simp[AV.plain]at this
 ·rfl
theorem ZgZ {n:Nat} {o:NObj} (hf:G n=.free) (hp:∀ j c,Zl o j=some c→c.all AV.plain=true):HF (upd G n o)=upd (HF G) (.top n) (flO (.top n) o):=by
 funext x
 by_cases hr:x.root=n
 ·by_cases e:x=.top n
  ·subst e;rw[Zx];unfold HF;rw[Zj,Zx]
  ·rw[Zn _ _ e]
   have h1:HF G x=.free:=Zt.2 (XI hf hr);rw[h1];refine Zt.2 ?_;clear h1
   induction x with
   | top m=>simp only[Nm.root]at hr;subst hr;exact absurd rfl e
   | sub y t j f ih =>
    simp only[Nm.root]at hr;rw[Zj];by_cases e2:y=.top n
    ·subst e2;rw[Zj,Zx];exact XZ hp t j f
    ·rw[ih hr e2];simp[kid,Zl]
 ·have e:x≠.top n:=fun e=>hr (by rw[e];rfl)
  rw[Zn _ _ e];unfold HF;rw[YU hr]
theorem xZ:∀ (x:Nm),x.root≤x.mx
 | .top n=>Nat.le_refl _
 | .sub y t j f=>by have:=xZ y;simp only[Nm.root,Nm.mx];omega
theorem Zkg {n:Nat} {o:NObj} {F:Nm→Prop} (hf:G n=.free) (hp:∀ j c,Zl o j=some c→c.all AV.plain=true) (hF:F (.top n)):∀ x,¬ F x→Zj (upd G n o) x≠.free→Zj G x≠.free:=by
 intro x hx hne;have e:x≠.top n:=fun e=>hx (by rw[e];exact hF);have:HF (upd G n o) x=HF G x:=by rw[ZgZ hf hp,Zn _ _ e]
 intro h0;rw[← Zt,← this,Zt]at h0;exact hne h0
theorem V7.of_new {o:Oper} {rf:FRes} {r:Res} {F:Nm→Prop} {n:Nat} {ob:NObj} (h:Yu P w0 S Es (HF G) a w o rf F) (hv:rf.v=r.v) (hn:r.hs=[(n,ob)]) (hf:rf.hs=[(.top n,flO (.top n) ob)]) (hfr:G n=.free) (hF:F (.top n)) (hp:∀ j c,Zl ob j=some c→c.all AV.plain=true):V7 P w0 S Es G a w o r F:=by
 obtain ⟨w',g,nx,h1,h2,h3⟩:=h;refine ⟨⟨w',g,nx,h1,by rw[← hv];exact h2,fun ρ hρ hg=>?_⟩,?_⟩
 ·have:=h3 ρ hρ hg
  rw[hf]at this;rw[hn];show HCore w0 S ρ (HF (upd G n ob)) w';rw[ZgZ hfr hp];exact this
 ·rw[hn];exact Zkg hfr hp hF
theorem yy {p:Nm} {t j f:Nat} {c l:List AV} (hl:l.all AV.plain=true) (hle:f+l.length≤c.length):flC p t j (Y4 c f l)=Y4 (flC p t j c) f l:=by
 apply List.ext_getElem?;intro k;rw[Xy];by_cases h1:f≤k∧k<f+l.length
 ·rw[Uz hle h1.1 h1.2,Uz (by simpa using hle) h1.1 h1.2]
  cases hk:l[k - f]? with
  | none=>rfl
  | some v =>
   have:=List.all_eq_true.1 hl v (List.mem_of_getElem? hk);simp[Xp this]
 ·have h2:k<f∨f+l.length≤k:=by omega
  rw[Vu hle h2,Vu (by simpa using hle) h2,Xy]
theorem Zc9 {o o':NObj} {i f:Nat} {l:List AV} (h:ZgJ o i f l=some o'):Tx o o'∧o'.tag=o.tag:=by
 cases o<;>simp only[ZgJ,reduceCtorEq]at h
 ·split at h
  ·split at h
   ·injection h with h;subst h;exact ⟨trivial,rfl⟩
   ·cases h
  ·cases h
 ·split at h
  ·split at h
   ·injection h with h;subst h;exact ⟨by simp[Tx],rfl⟩
   ·cases h
  ·cases h
theorem Zex {p:Nm} {o o':NObj} {i f:Nat} {l:List AV} (hl:l.all AV.plain=true) (h:ZgJ o i f l=some o'):UY (flO p o) i f l=some (flO p o'):=by
 cases o<;>simp only[ZgJ,reduceCtorEq]at h
 ·rename_i t c
  split at h
  ·rename_i e
   split at h
   ·rename_i hle
    injection h with h;subst h;subst e;simp only[flO,UY,if_true,Vx];rw[if_pos hle,yy hl hle]
   ·cases h
  ·cases h
 ·rename_i t sz els
  split at h
  ·rename_i c hc
   split at h
   ·rename_i hle
    injection h with h;subst h;have hi:=(List.getElem?_eq_some_iff.1 hc).1;simp only[flO,UY,List.length_set];rw[if_pos hi,if_pos hle.1]
    congr 2
    funext j
    by_cases e:j=i
    ·subst e
     rw[if_pos rfl,List.getD_eq_getElem?_getD,List.getD_eq_getElem?_getD,hc,List.getElem?_set,if_pos rfl,if_pos hi];exact (yy hl (by rw[Option.getD_some,hle.2];exact hle.1)).symm
    ·rw[if_neg e,List.getD_eq_getElem?_getD,List.getD_eq_getElem?_getD,List.getElem?_set,if_neg (fun e' => e e'.symm)]
   ·cases h
  ·cases h
theorem ZfG {o o':NObj} {i f:Nat} {l:List AV} (hl:l.all AV.plain=true) (h:ZgJ o i f l=some o') (t j k:Nat):kid o' t j k=kid o t j k∨kid o' t j k=.free:=by
 have key:∀ {c:List AV},f+l.length≤c.length→zp false (Y4 c f l) k=zp false c k∨zp false (Y4 c f l) k=.free:=fun {c} hle=>by
  unfold zp;by_cases h1:f≤k∧k<f+l.length
  ·rw[Uz hle h1.1 h1.2]
   right;cases hk:l[k - f]? with
   | none=>rfl
   | some v =>
    have:=List.all_eq_true.1 hl v (List.mem_of_getElem? hk);cases v<;>first|rfl|simp[AV.plain]at this
  ·rw[Vu hle (by omega)];exact .inl rfl
 cases o<;>simp only[ZgJ,reduceCtorEq]at h
 ·rename_i t' c
  split at h
  ·rename_i e
   split at h
   ·rename_i hle
    injection h with h;subst h;simp only[kid,NObj.tag,Zl,NObj.ro];by_cases ht:t'=t
    ·subst ht;simp only[if_true]
     by_cases ej:j=0
     ·simp only[ej,if_true];exact key hle
     ·simp[ej]
    ·simp only[ht,if_false];exact .inl trivial
   ·cases h
  ·cases h
 ·rename_i t' sz els
  split at h
  ·rename_i c hc
   split at h
   ·rename_i hle
    injection h with h;subst h;have hi:=(List.getElem?_eq_some_iff.1 hc).1;simp only[kid,NObj.tag,Zl,NObj.ro];by_cases ht:t'=t
    ·subst ht;simp only[if_true]
     by_cases ej:i=j
     ·subst ej
      rw[List.getElem?_set,if_pos rfl,if_pos hi,hc];exact key (by rw[hle.2];exact hle.1)
     ·rw[List.getElem?_set,if_neg ej];exact .inl rfl
    ·simp only[ht,if_false];exact .inl trivial
   ·cases h
  ·cases h
theorem ZiN {p:Nm} {o':NObj} (hl:Tx (Zj G p) o') (hk:∀ t j f,kid o' t j f=kid (Zj G p) t j f∨kid o' t j f=.free):∀ x,HF (Yr G [wr G p o']) x=upd (HF G) p (flO p o') x∨HF (Yr G [wr G p o']) x=.free:=by
 intro x;show HF (upd G (wr G p o').1 (wr G p o').2) x=_∨_;obtain ⟨h1,h2,_⟩:=yO G p o' hl;by_cases e:x=p
 ·subst e
  rw[Zx];left;unfold HF;rw[h1]
 ·rw[Zn _ _ e]
  by_cases hp:pre p x
  ·rcases Zgj G p hl hk x hp e with h|h
   ·left;unfold HF;rw[h]
   ·right;exact Zt.2 h
  ·left;exact h2 x hp
theorem Zjy {p:Nm} {o':NObj} (hl:Tx (Zj G p) o') (hk:∀ t j f,kid o' t j f=kid (Zj G p) t j f∨kid o' t j f=.free):∀ x,Zj (Yr G [wr G p o']) x≠.free→Zj G x≠.free:=by
 intro x hx h0;rcases ZiN hl hk x with h|h
 ·by_cases e:x=p
  ·subst e;rw[h0]at hl;cases o'<;>simp[Tx]at hl
  ·rw[Zn _ _ e,Zt.2 h0]at h;exact hx (Zt.1 h)
 ·exact hx (Zt.1 h)
end
end Go.W
