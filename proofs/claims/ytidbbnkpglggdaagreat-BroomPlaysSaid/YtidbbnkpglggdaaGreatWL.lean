/- Every operation but a call, told of a heap of trees. Every operation but a call does what the step over a heap of trees says. -/
import Derived.Test.YtidbbnkpglggdaaGreatWJ
namespace Go.W
set_option linter.unusedSimpArgs false
set_option linter.unusedVariables false
def CLe (ρ ρ':Env) (c c':List AV):Prop:=c.length=c'.length∧∀ (k:Nat) (v':AV),c'[k]?=some v'→∃ v,c[k]?=some v∧∀ u,Rep ρ v u→Rep ρ' v' u
theorem CLe.refl (ρ:Env) (c:List AV):CLe ρ ρ c c:=⟨rfl,fun k v h=>⟨v,h,fun _ h=>h⟩⟩
theorem Reg.cle {ρ ρ':Env} {L:Loc} {sz n:Nat} {f f':Nat→List AV} {w:World} (h:Reg ρ L sz n f w) (hf:∀ i,i<n→CLe ρ ρ' (f i) (f' i)):Reg ρ' L sz n f' w :=
 ⟨h.nn,h.esz,h.cap,fun i hi=>by rw[← (hf i hi).1];exact h.len i hi,fun i hi j v hv=>by
  obtain ⟨u,hu,hr⟩:=(hf i hi).2 j v hv;obtain ⟨x,h1,h2,h3⟩:=h.cell i hi j u hu;exact ⟨x,h1,hr x h2,h3⟩⟩
inductive OLe (ρ ρ':Env):AObj→AObj→Prop
 | free (o:AObj):OLe ρ ρ' o .free
 | cells {c c':List AV} (h:CLe ρ ρ' c c'):OLe ρ ρ' (.cells c) (.cells c')
 | arr {sz n:Nat} {f f':Nat→List AV} (h:∀ i,i<n→CLe ρ ρ' (f i) (f' i)):OLe ρ ρ' (.arr sz n f) (.arr sz n f')
 | view {sz n:Nat} {f f':Nat→List AV} (h:∀ i,i<n→CLe ρ ρ' (f i) (f' i)):OLe ρ ρ' (.view sz n f) (.view sz n f')
theorem OLe.ok {ρ ρ':Env} {o o':AObj} (h:OLe ρ ρ' o o') {L:Loc} {w:World} (hok:Xe ρ L o w):Xe ρ' L o' w:=by
 cases h with
 | free=>trivial
 | cells h =>
  refine ⟨?_,by rw[← h.1];exact hok.2⟩;have:=hok.1.cle (f':=fun _=>_) (fun i _=>h);rw[h.1]at this;exact this
 | arr h=>exact hok.imp id fun hok=>⟨hok.1.cle h,hok.2⟩
 | view h=>exact hok.imp id fun hok=>hok.cle h
theorem OLe.own {ρ ρ':Env} {o o':AObj} (h:OLe ρ ρ' o o') {L:Loc} (ho:ZF L o'):ZF L o:=by
 cases h with
 | free=>exact ho.elim
 | cells h=>trivial
 | arr h=>exact ho
 | view h=>exact ho
theorem OLe.viewed {ρ ρ':Env} {o o':AObj} (h:OLe ρ ρ' o o') {L:Loc} (ho:Yl L o'):Yl L o:=by
 cases h with
 | free=>exact ho.elim
 | cells h=>exact ho
 | arr h=>exact ho
 | view h=>exact ho
theorem Ur {ρ ρ':Env} {x y:Nm} {t t' i i':Nat} {c:List AV} (hp:∀ v∈c,v.plain=true→∀ u,Rep ρ v u→Rep ρ' v u) (hk:∀ f v,c[f]?=some v→v.plain=false→ρ' (.sub x t i f)=ρ (.sub y t' i' f)):CLe ρ ρ' (flC y t' i' c) (flC x t i c):=by
 refine ⟨by simp,fun k v' hv=>?_⟩;rw[Xy]at hv⊢;cases hc:c[k]? with
 | none=>simp[hc]at hv
 | some v =>
  simp only[hc,Option.map_some,Option.some.injEq]at hv⊢;refine ⟨_,rfl,fun u hu=>?_⟩;subst hv;cases hpl:v.plain with
  | true=>rw[Xp hpl]at hu⊢;exact hp v (List.mem_of_getElem? hc) hpl u hu
  | false =>
   have:=hk k v hc hpl;cases v<;>simp only[AV.plain,Bool.true_eq_false]at hpl
   ·simp only[flV,Rep]at hu⊢;rw[this];exact hu
   ·simp only[flV,Rep]at hu⊢;rw[this];exact hu
theorem HCore.ole {w0:World} {S:Sc} {ρ ρ':Env} {H H':Nm→AObj} {w:World} (h:HCore w0 S ρ H w) (φ:Nm→Nm) (hle:∀ x,OLe ρ ρ' (H (φ x)) (H' x)) (hρ:∀ x,H' x≠.free→ρ' x=ρ (φ x)) (hinj:∀ x y,H' x≠.free→H' y≠.free→φ x=φ y→x=y) (han:∀ x,x<S.m→ρ' (.top x)=S.A x):HCore w0 S ρ' H' w:=by
 have nf:∀ {x L},ZF L (H' x)→H' x≠.free:=fun ho e=>by rw[e]at ho;exact ho
 refine h.re φ (fun x=>?_) (fun x hx=>?_) (fun x hx=>?_) (fun x y hx hy e=>hinj x y (nf hx) (nf hy) e) han
 ·by_cases e:H' x=.free
  ·rw[e];trivial
  ·rw[hρ x e];exact (hle x).ok (h.obj _)
 ·have e:=nf hx
  rw[hρ x e]at hx⊢;exact ⟨(hle x).own hx,rfl⟩
 ·have e:H' x≠.free:=fun e=>by rw[e]at hx;exact hx
  rw[hρ x e]at hx⊢;exact h.vw _ ((hle x).viewed hx)
section
variable {P:Program} {w0:World} {S:Sc} {Es:Env→Prop} {U:Nm→Prop} {T:Nat→AV} {G:NH} {a:Act} {w:World}
def mvN (n:Nat) (p:Nm) (t s:Nat):Nm→Nm
 | .top m=>.top m
 | .sub y t' j f=>if y=.top n then .sub p t (s+j) f else .sub (mvN n p t s y) t' j f
theorem ZaT {o o':NObj} {t t' j j':Nat} (ht:o.tag=t) (ht':o'.tag=t') (hr:o.ro=o'.ro) (he:Zl o j=Zl o' j') (f:Nat):kid o t j f=kid o' t' j' f:=by
 unfold kid;rw[if_pos ht,if_pos ht',he,hr]
theorem Uu {n:Nat} {p:Nm} {t s:Nat}:∀ {x:Nm},x.root=n→x≠.top n→pre p (mvN n p t s x)∧mvN n p t s x≠p∧depth p<depth (mvN n p t s x)
 | .top m,h,hne=>by simp only[Nm.root]at h;subst h;exact absurd rfl hne
 | .sub y t' j f,h,hne=>by
  simp only[Nm.root]at h;simp only[mvN];split
  ·refine ⟨.inr (Xz _),fun e=>?_,by simp[depth]⟩
   have:=congrArg depth e;simp[depth]at this
  ·rename_i hy
   obtain ⟨h1,h2,h3⟩:=Uu (p:=p) (t:=t) (s:=s) h hy;refine ⟨.inr h1,fun e=>?_,by simp only[depth];omega⟩;have:=congrArg depth e;simp only[depth]at this;omega
theorem ZcS {n:Nat} {p:Nm} {t s:Nat}:∀ {x y:Nm},x.root=n→y.root=n→x≠.top n→y≠.top n→(∀ z u j f,pre (.sub z u j f) x→z=.top n→u=0)→(∀ z u j f,pre (.sub z u j f) y→z=.top n→u=0)→mvN n p t s x=mvN n p t s y→x=y
 | .top m,_,h,_,hne,_,_,_,_=>by simp only[Nm.root]at h;subst h;exact absurd rfl hne
 | .sub x t1 j1 f1,.top m,_,h,_,hne,_,_,_=>by simp only[Nm.root]at h;subst h;exact absurd rfl hne
 | .sub x t1 j1 f1,.sub y t2 j2 f2,h1,h2,_,_,hx,hy,e=>by
  simp only[Nm.root]at h1 h2;simp only[mvN]at e;by_cases ex:x=.top n
  ·rw[if_pos ex]at e
   by_cases ey:y=.top n
   ·rw[if_pos ey]at e
    simp only[Nm.sub.injEq,true_and]at e;have u1:=hx x t1 j1 f1 (.inl rfl) ex;have u2:=hy y t2 j2 f2 (.inl rfl) ey;have:j1=j2:=(by omega);rw[ex,ey,u1,u2,this,e.2]
   ·rw[if_neg ey]at e
    simp only[Nm.sub.injEq]at e;have:=(Uu (p:=p) (t:=t) (s:=s) h2 ey).2.1;exact absurd e.1.symm this
  ·rw[if_neg ex]at e
   by_cases ey:y=.top n
   ·rw[if_pos ey]at e
    simp only[Nm.sub.injEq]at e;have:=(Uu (p:=p) (t:=t) (s:=s) h1 ex).2.1;exact absurd e.1 this
   ·rw[if_neg ey]at e
    simp only[Nm.sub.injEq]at e;rw[ZcS h1 h2 ex ey (fun z u j f hz ht=>hx z u j f (.inr hz) ht) (fun z u j f hz ht=>hy z u j f (.inr hz) ht) e.1,e.2.1,e.2.2.1,e.2.2.2]
theorem ZeB {G0 G1:NH} {n t0 s sz:Nat} {p:Nm} {els els':List (List AV)} (hp:Zj G0 p=.arr t0 sz els) (h1:G1 n=.arr 0 sz (els.drop s++els')) (hpl:els'.all (fun c=>c.all AV.plain)=true) :
  ∀ x:Nm,x.root=n→x≠.top n→Zj G1 x≠.free→Zj G1 x=Zj G0 (mvN n p t0 s x)∧∀ z u j f,pre (.sub z u j f) x→z=.top n→u=0:=by
 intro x
 induction x with
 | top m=>intro hr hne;simp only[Nm.root]at hr;subst hr;exact absurd rfl hne
 | sub y t j f ih =>
  intro hr hne hg;simp only[Nm.root]at hr;by_cases ey:y=.top n
  ·subst ey
   simp only[mvN,if_true];rw[Zj,Zj,h1]at hg⊢;have ht:t=0:=by
    by_cases e:t=0
    ·exact e
    ·exact absurd (Y9 (by simp only[NObj.tag];exact fun e' => e e'.symm)) hg
   subst ht;have hj:j<els.length - s:=by
    rcases Nat.lt_or_ge j (els.length - s) with h|h
    ·exact h
    ·exfalso
     apply hg;unfold kid;simp only[NObj.tag,if_true,Zl];rw[List.getElem?_append_right (by simpa using h)];cases hc:els'[j - (els.drop s).length]? with
     | none=>rfl
     | some c =>
      have hc2:=List.all_eq_true.1 hpl c (List.mem_of_getElem? hc);unfold zp;simp only;cases hv:c[f]? with
      | none=>rfl
      | some v =>
       have:=List.all_eq_true.1 hc2 v (List.mem_of_getElem? hv);cases v<;>first|rfl|simp[AV.plain]at this
   refine ⟨?_,fun z u j' f' hz hzt=>?_⟩
   ·rw[Zj,hp]
    refine ZaT (o:=.arr 0 sz (els.drop s++els')) (o':=.arr t0 sz els) rfl rfl rfl ?_ f;simp only[Zl];rw[List.getElem?_append_left (by simpa using hj),List.getElem?_drop]
   ·rcases hz with hz|hz
    ·injection hz
    ·subst hzt;simp only[pre,reduceCtorEq]at hz
  ·have hgy:Zj G1 y≠.free:=fun h=>hg (by rw[Zj,h];simp[kid,Zl])
   obtain ⟨i1,i2⟩:=ih hr ey hgy;simp only[mvN,if_neg ey];refine ⟨by rw[Zj,Zj,i1],fun z u j' f' hz hzt=>?_⟩;rcases hz with hz|hz
   ·injection hz with e1 e2 e3 e4;exact absurd (e1.symm.trans hzt) ey
   ·exact i2 z u j' f' hz hzt
def NObj.tlO (n:Nat):NObj→Bool
 | .cells t c=>decide (t<n)&&tlL n c
 | .arr t _ els=>decide (t<n)&&UR n els
 | .view t _ els=>decide (t<n)&&UR n els
 | .free=>true
theorem Zf6 {n:Nat} {o:NObj} (h:o.tlO n=true) {j:Nat} {c:List AV} (hc:Zl o j=some c):tlL n c=true:=by
 cases o<;>simp only[Zl,reduceCtorEq]at hc<;>simp only[NObj.tlO,Bool.and_eq_true]at h
 ·split at hc
  ·injection hc with hc;subst hc;exact h.2
  ·cases hc
 ·exact zt h.2 hc
 ·exact zt h.2 hc
theorem Zg0 {n:Nat} {o:NObj} (h:∀ j c,Zl o j=some c→tlL n c=true) (t j f:Nat):(kid o t j f).tlO n=true:=by
 unfold kid;split
 ·cases he:Zl o j with
  | none=>rfl
  | some c =>
   simp only[zp];cases hv:c[f]? with
   | none=>rfl
   | some v =>
    have:=ZdO (h j c he) hv;cases v<;>try rfl
    ·simp only[kidV]
     split<;>exact this
    ·rename_i t' c'
     simp only[kidV];split
     ·simp only[AV.tl,Bool.and_eq_true]at this
      have t1:=of_decide_eq_true this.1;simp[NObj.tlO,UR,t1,this.2]
     ·exact this
 ·rfl
theorem ZhT {n:Nat} {o:NObj} (h:o.tlO n=true) (hf:o≠.free):o.tag<n:=by
 cases o<;>simp_all [NObj.tlO,NObj.tag]
theorem Zht {G1:NH} {n:Nat} (ht:(G1 n).tag=0) (hg:∀ j c,Zl (G1 n) j=some c→tlL n c=true):∀ x:Nm,x.root=n→Zj G1 x≠.free→x.mx=n∧(x≠.top n→(Zj G1 x).tlO n=true)
 | .top m,hr,_=>by simp only[Nm.root]at hr;subst hr;exact ⟨rfl,fun h=>absurd rfl h⟩
 | .sub y t j f,hr,hne=>by
  simp only[Nm.root]at hr;rw[Zj]at hne;have hgy:Zj G1 y≠.free:=fun h=>hne (by rw[h];simp[kid,Zl]);obtain ⟨i1,i2⟩:=Zht ht hg y hr hgy;have htag:(Zj G1 y).tag=t:=by
   by_cases e:(Zj G1 y).tag=t
   ·exact e
   ·exact absurd (Y9 e) hne
  by_cases ey:y=.top n
  ·subst ey
   rw[Zj]at htag;refine ⟨by simp only[Nm.mx];omega,fun _=>?_⟩;rw[Zj,Zj];exact Zg0 hg t j f
  ·have h2:=i2 ey
   have:=ZhT h2 hgy;refine ⟨by simp only[Nm.mx];omega,fun _=>?_⟩;rw[Zj];exact Zg0 (fun j c hc=>Zf6 h2 hc) t j f
theorem UF {G:NH} {p:Nm} (h:Zj G p=.free):∀ {x:Nm},pre p x→Zj G x=.free
 | .top m,hx=>by simp only[pre]at hx;subst hx;exact h
 | .sub y t j f,hx=>by
  rcases hx with hx|hx
  ·subst hx;exact h
  ·rw[Zj,UF h hx];simp[kid,Zl]
theorem xA {n:Nat} {p:Nm} {t s:Nat}:∀ {x:Nm},x.root=n→x≠.top n→(mvN n p t s x).root=p.root
 | .top m,h,hne=>by simp only[Nm.root]at h;subst h;exact absurd rfl hne
 | .sub y t' j f,h,hne=>by
  simp only[Nm.root]at h;simp only[mvN];split
  ·rfl
  ·rename_i hy;exact xA (x:=y) h hy
set_option maxHeartbeats 2000000 in
theorem Zcx {F:Nm→Prop} {o:Oper} {nb:Nat} (h:Sat w0 S Es U T (HF G) a w) (hF0:∀ x:Nm,x.mx=nb→F x) (hFU:∀ x,F x→U x) {p:Nm} {t0 sz s n n':Nat} {els els':List (List AV)} {g:Nat→List AV} {rd:List Nm} {rd':List Nat}
  (hp:Zj G p=.arr t0 sz els) (hsn:s+n=els.length) (hn':els'.length=n') (hpl:els'.all (fun c=>c.all AV.plain)=true) (htl:UR nb els=true) (hg:∀ j,j<n'→g j=els'.getD j [])
  (hd:Yu P w0 S Es (HF G) a w o ⟨.sl (.top nb) 0 (n+n'),[(p,.free),(.top nb,.arr sz (n+n') (Zbu n (fun j=>flC p t0 (s+j) (els.getD (s+j) [])) g))],rd⟩ (fun x=>x=.top nb)) :
  V7 P w0 S Es G a w o ⟨.sl (.top nb) 0 (n+n'),[wr G p .free,(nb,.arr 0 sz (els.drop s++els'))],rd',8⟩ F:=by
 obtain ⟨w',g0,nx,h1,h2,h3⟩:=hd
 obtain ⟨ρ0,hρ0⟩:=h.ne
 have hnbU:U (.top nb):=hFU _ (hF0 _ rfl)
 have hnbf:G nb=.free:=Zt.1 (h.fr _ hnbU)
 have hrp:p.root≠nb:=fun e=>by have:=XI hnbf e;rw[hp]at this;cases this
 have hlike:Tx (Zj G p) .free:=by rw[hp];trivial
 have hkf:∀ t j f,kid .free t j f=kid (Zj G p) t j f∨kid .free t j f=.free:=fun t j f=>.inr (by simp[kid,Zl])
 obtain ⟨a1,a2,a3⟩:=yO G p .free hlike
 generalize hG1:upd G (wr G p .free).1 (wr G p .free).2=G1 at a1 a2 a3
 have hwr:∀ x,HF G1 x=upd (HF G) p .free x∨HF G1 x=.free:=by rw[← hG1];exact ZiN hlike hkf
 have hnw1:∀ x,Zj G1 x≠.free→Zj G x≠.free:=by rw[← hG1];exact Zjy hlike hkf
 let G2:NH:=upd G1 nb (.arr 0 sz (els.drop s++els'))
 have hG2:Yr G [wr G p .free,(nb,.arr 0 sz (els.drop s++els'))]=G2:=by show upd (upd G _ _) _ _=_;rw[hG1]
 have hnb2:G2 nb=.arr 0 sz (els.drop s++els'):=Zx _ _ _
 have hoth:∀ x:Nm,x.root≠nb→Zj G2 x=Zj G1 x:=fun x hx=>YU hx
 have hrow:=ZeB (G0:=G) (G1:=G2) hp hnb2 hpl
 have hmx:∀ x:Nm,x.root=nb→Zj G2 x≠.free→x.mx=nb:=fun x hr hx=>(Zht (G1:=G2) (by rw[hnb2];rfl) (fun j c hc=>by
  rw[hnb2]at hc;simp only[Zl]at hc;rcases Nat.lt_or_ge j (els.drop s).length with hj|hj
  ·rw[List.getElem?_append_left hj,List.getElem?_drop]at hc
   exact zt htl hc
  ·rw[List.getElem?_append_right hj]at hc
   have:=List.all_eq_true.1 hpl c (List.mem_of_getElem? hc);clear hc
   induction c with
   | nil=>rfl
   | cons v r ih =>
    simp only[List.all_cons,Bool.and_eq_true]at this;simp only[tlL,Bool.and_eq_true];exact ⟨by have:=this.1;cases v<;>simp_all [AV.plain,AV.tl],ih this.2⟩) x hr hx).1
 have lenE:(els.drop s++els').length=n+n':=by rw[List.length_append,List.length_drop,hn'];omega
 refine ⟨⟨w',fun x=>if x=.top nb then g0 x else if x.root=nb then ρ0 (mvN nb p t0 s x) else g0 x,nx,h1,?_,fun ρ hρ hgg=>?_⟩,fun x hx hne=>?_⟩
 ·rcases h2 with ⟨v,e1,e2⟩ | e
  ·refine .inl ⟨v,e1,fun ρ hρ hgg=>e2 ρ hρ fun x hx=>?_⟩
   subst hx;rw[hgg _ (hF0 _ rfl)];exact if_pos rfl
  ·exact .inr e
 ·have c1:=h3 ρ hρ fun x hx=>by subst hx;rw[hgg _ (hF0 _ rfl)];exact if_pos rfl
  show HCore w0 S ρ (HF (Yr G [wr G p .free,(nb,.arr 0 sz (els.drop s++els'))])) w';rw[hG2];have e1:Yr (HF G) [(p,AObj.free),(.top nb,.arr sz (n+n') (Zbu n (fun j=>flC p t0 (s+j) (els.getD (s+j) [])) g))]=upd (upd (HF G) p .free) (.top nb) (.arr sz (n+n') (Zbu n (fun j=>flC p t0 (s+j) (els.getD (s+j) [])) g)):=rfl;rw[e1]at c1;have moved:∀ x:Nm,x.root=nb→x≠.top nb→Zj G2 x≠.free→ρ x=ρ (mvN nb p t0 s x):=fun x hr hne hx=>by
   rw[hgg x (hF0 _ (hmx x hr hx))];simp only;rw[if_neg hne,if_pos hr];refine h.pin ρ0 ρ hρ0 hρ _ fun e=>hx ?_;rw[(hrow x hr hne hx).1];exact Zt.1 e
  refine c1.ole (fun x=>if x.root=nb∧x≠.top nb then mvN nb p t0 s x else x) (fun x=>?_) (fun x hx=>?_) (fun x y hx hy e=>?_) c1.an
  ·by_cases hr:x.root=nb
   ·by_cases e:x=.top nb
    ·subst e
     rw[if_neg (fun hh=>hh.2 rfl),Zx];have:HF G2 (.top nb)=.arr sz (n+n') (fun j=>flC (.top nb) 0 j ((els.drop s++els').getD j [])):=(by unfold HF;rw[Zj,hnb2,flO,lenE]);rw[this];refine .arr fun i hi=>?_;unfold Zbu;by_cases hin:i<n
     ·rw[if_pos hin]
      have e2:(els.drop s++els').getD i []=els.getD (s+i) []:=by
       rw[List.getD_eq_getElem?_getD,List.getD_eq_getElem?_getD,List.getElem?_append_left (by rw[List.length_drop];omega),List.getElem?_drop]
      rw[e2];refine Ur (fun v _ _ u hu=>hu) fun f v hv hpv=>?_;have hk:Zj G2 (.sub (.top nb) 0 i f)≠.free:=by
       rw[Zj,Zj,hnb2];unfold kid;simp only[NObj.tag,if_true,Zl,NObj.ro];have hsi:s+i<els.length:=(by omega);rw[List.getElem?_append_left (by rw[List.length_drop];omega),List.getElem?_drop,List.getElem?_eq_getElem hsi];rw[List.getD_eq_getElem?_getD,List.getElem?_eq_getElem hsi,Option.getD_some]at hv;simp only[zp,hv];cases v<;>first|(simp only[AV.plain,Bool.true_eq_false]at hpv;done)|simp[kidV]
      have:=moved _ rfl (by simp) hk;rw[this];simp[mvN]
     ·rw[if_neg hin,hg (i - n) (by omega)]
      have e2:(els.drop s++els').getD i []=els'.getD (i - n) []:=by
       rw[List.getD_eq_getElem?_getD,List.getD_eq_getElem?_getD,List.getElem?_append_right (by rw[List.length_drop];omega),List.length_drop]
       congr 3;omega
      rw[e2];have hcp:(els'.getD (i - n) []).all AV.plain=true:=by
       rw[List.getD_eq_getElem?_getD];cases hc:els'[i - n]? with
       | none=>rfl
       | some c=>exact List.all_eq_true.1 hpl c (List.mem_of_getElem? hc)
      rw[Y8 hcp];exact CLe.refl _ _
    ·rw[if_pos ⟨hr,e⟩]
     by_cases hfree:Zj G2 x=.free
     ·rw[Zt.2 hfree];exact .free _
     ·obtain ⟨b1,b2⟩:=hrow x hr e hfree
      obtain ⟨d1,d2,_⟩:=Uu (p:=p) (t:=t0) (s:=s) hr e;have hmr:=xA (p:=p) (t:=t0) (s:=s) hr e;rw[Zn _ _ (fun hh=>by rw[hh]at hmr;exact hrp hmr.symm),Zn _ _ d2];unfold HF;rw[b1];have hkk:∀ i f c v,Zl (Zj G (mvN nb p t0 s x)) i=some c→c[f]?=some v→v.plain=false→ρ (.sub x (Zj G (mvN nb p t0 s x)).tag i f)=ρ (.sub (mvN nb p t0 s x) (Zj G (mvN nb p t0 s x)).tag i f):=fun i f c v hc hv hpv=>by
       have hk:Zj G2 (.sub x (Zj G (mvN nb p t0 s x)).tag i f)≠.free:=by
        rw[Zj,b1];unfold kid;rw[if_pos rfl,hc];simp only[zp,hv];cases v<;>simp only[AV.plain,Bool.true_eq_false]at hpv<;>simp only[kidV]<;>split<;>simp
       have:=moved _ (by exact hr) (by simp) hk;rw[this];simp only[mvN,if_neg e]
      cases hob:Zj G (mvN nb p t0 s x) with
      | free=>exact .free _
      | cells t c =>
       rw[hob]at hkk;exact .cells (Ur (fun v _ _ u hu=>hu) fun f v hv hpv=>hkk 0 f c v (by simp[Zl]) hv hpv)
      | arr t z l =>
       rw[hob]at hkk;refine .arr fun i hi=>Ur (fun v _ _ u hu=>hu) fun f v hv hpv=>?_;rw[List.getD_eq_getElem?_getD,List.getElem?_eq_getElem hi,Option.getD_some]at hv;exact hkk i f _ v (by simp[Zl,hi]) hv hpv
      | view t z l =>
       rw[hob]at hkk;refine .view fun i hi=>Ur (fun v _ _ u hu=>hu) fun f v hv hpv=>?_;rw[List.getD_eq_getElem?_getD,List.getElem?_eq_getElem hi,Option.getD_some]at hv;exact hkk i f _ v (by simp[Zl,hi]) hv hpv
   ·rw[if_neg (fun hh=>hr hh.1),Zn _ _ (fun e=>hr (by rw[e];rfl))]
    have:HF G2 x=HF G1 x:=(by unfold HF;rw[hoth x hr]);rw[this];rcases hwr x with e|e
    ·rw[e]
     cases upd (HF G) p .free x with
     | free=>exact .free _
     | cells c=>exact .cells (CLe.refl _ _)
     | arr sz n f=>exact .arr fun _ _=>CLe.refl _ _
     | view sz n f=>exact .view fun _ _=>CLe.refl _ _
    ·rw[e];exact .free _
  ·by_cases hr:x.root=nb∧x≠.top nb
   ·rw[if_pos hr];exact moved x hr.1 hr.2 fun e=>hx (Zt.2 e)
   ·rw[if_neg hr]
  ·have hx':Zj G2 x≠.free:=fun e=>hx (Zt.2 e)
   have hy':Zj G2 y≠.free:=fun e=>hy (Zt.2 e);have mixed:∀ x y:Nm,Zj G2 x≠.free→Zj G2 y≠.free→(x.root=nb∧x≠.top nb)→¬ (y.root=nb∧y≠.top nb)→mvN nb p t0 s x≠y:=fun x y hx hy hc hc' e=>by
    obtain ⟨d1,d2,_⟩:=Uu (p:=p) (t:=t0) (s:=s) hc.1 hc.2;have hmr:=xA (p:=p) (t:=t0) (s:=s) hc.1 hc.2;rw[e]at d1 hmr;have hyr:y.root≠nb:=(by rw[hmr];exact hrp);rw[hoth y hyr]at hy;exact hy (UF a1 d1)
   by_cases hc:x.root=nb∧x≠.top nb
   ·by_cases hc':y.root=nb∧y≠.top nb
    ·rw[if_pos hc,if_pos hc']at e
     exact ZcS hc.1 hc'.1 hc.2 hc'.2 (hrow x hc.1 hc.2 hx').2 (hrow y hc'.1 hc'.2 hy').2 e
    ·rw[if_pos hc,if_neg hc']at e
     exact absurd e (mixed x y hx' hy' hc hc')
   ·by_cases hc':y.root=nb∧y≠.top nb
    ·rw[if_neg hc,if_pos hc']at e
     exact absurd e.symm (mixed y x hy' hx' hc' hc)
    ·rw[if_neg hc,if_neg hc']at e;exact e
 ·have hne':Zj G2 x≠.free:=by rw[← hG2];exact hne
  by_cases hr:x.root=nb
  ·exact absurd (hF0 x (hmx x hr hne')) hx
  ·rw[hoth x hr]at hne'
   exact hnw1 x hne'
end
section
variable {P:Program} {w0:World} {S:Sc} {Es:Env→Prop} {U:Nm→Prop} {T:Nat→AV} {G:NH} {a:Act} {w:World}
theorem Zd8 {G:NH} {p:Nm} {i:Nat} {c:List AV} (h:Zl (Zj G p) i=some c):VZ (HF G p) i=some (flC p (Zj G p).tag i c):=by
 rw[ZeC,h];rfl
theorem vR {v:Value} {els:List (List AV)} {rd:List Nat} {sz:Nat} (h:zi G (.raw v)=some (els,rd,sz)):∃ ad c,v=.slice (some ad) 0 c∧els=[]∧rd=[]∧sz=0:=by
 cases v with
 | slice a l c =>
  cases a with
  | none=>simp[zi]at h
  | some ad=>cases l with
   | zero=>simp only[zi,Option.some.injEq,Prod.mk.injEq]at h;exact ⟨ad,c,rfl,h.1.symm,h.2.1.symm,h.2.2.symm⟩
   | succ l=>simp[zi]at h
 | _=>simp[zi]at h
theorem Zcj {v:AV} {els:List (List AV)} {rd:List Nat} {sz:Nat} (h:zi G v=some (els,rd,sz)) (hp:els.all (fun c=>c.all AV.plain)=true):∃ (g:Nat→List AV) (rd':List Nm),Vj (HF G) v=some (els.length,g,rd',sz)∧∀ j,j<els.length→g j=els.getD j []:=by
 cases v<;>(try simp only[zi,reduceCtorEq]at h)
 case raw v =>
  obtain ⟨ad,c,rfl,rfl,rfl,rfl⟩:=vR h;exact ⟨_,_,rfl,fun j hj=>by simp at hj⟩
 case nsl =>
  simp only[Option.some.injEq,Prod.mk.injEq]at h;obtain ⟨rfl,rfl,rfl⟩:=h;exact ⟨_,_,rfl,fun j hj=>by simp at hj⟩
 case sl p i n =>
  have key:∀ (t:Nat) (l:List (List AV)),i+n≤l.length→els=(l.drop i).take n→(∀ j,j<els.length→flC p t (i+j) (l.getD (i+j) [])=els.getD j [])∧els.length=n:=fun t l hle e=>by
   have hlen:els.length=n:=(by rw[e,List.length_take,List.length_drop];omega);refine ⟨fun j hj=>?_,hlen⟩;have hij:i+j<l.length:=(by omega);have e1:els[j]?=l[i+j]?:=(by rw[e,List.getElem?_take,if_pos (by omega),List.getElem?_drop]);rw[List.getD_eq_getElem?_getD,List.getD_eq_getElem?_getD,e1,List.getElem?_eq_getElem hij,Option.getD_some];refine Y8 (List.all_eq_true.1 hp _ ?_);rw[List.getElem?_eq_getElem hij]at e1;exact List.mem_of_getElem? e1
  have hHF:HF G p=flO p (Zj G p):=rfl;cases ho:Zj G p with
  | free=>simp[ho]at h
  | cells t c=>simp[ho]at h
  | arr t z l =>
   simp only[ho]at h;split at h
   ·rename_i hle
    simp only[Option.some.injEq,Prod.mk.injEq]at h;obtain ⟨k1,k2⟩:=key t l hle h.1.symm;refine ⟨fun j=>flC p t (i+j) (l.getD (i+j) []),[p],?_,k1⟩;simp only[Vj,hHF,ho,flO];rw[if_pos hle,k2,h.2.2]
   ·cases h
  | view t z l =>
   simp only[ho]at h;split at h
   ·rename_i hle
    simp only[Option.some.injEq,Prod.mk.injEq]at h;obtain ⟨k1,k2⟩:=key t l hle h.1.symm;refine ⟨fun j=>flC p t (i+j) (l.getD (i+j) []),[p],?_,k1⟩;simp only[Vj,hHF,ho,flO];rw[if_pos hle,k2,h.2.2]
   ·cases h
theorem ZaO {nb sz n:Nat} {els:List (List AV)} {g:Nat→List AV} (hn:els.length=n) (hp:∀ (j:Nat) (c:List AV),els[j]?=some c→c.all AV.plain=true) (hg:∀ j,j<n→g j=els.getD j []) (h0:∀ j,n≤j→g j=[]):flO (.top nb) (.arr 0 sz els)=.arr sz n g:=by
 simp only[flO,hn,AObj.arr.injEq,true_and]
 funext j
 rcases Nat.lt_or_ge j n with h|h
 ·rw[hg j h,List.getD_eq_getElem?_getD,List.getElem?_eq_getElem (by omega),Option.getD_some]
  exact Y8 (hp j _ (List.getElem?_eq_getElem (by omega)))
 ·rw[h0 j h,List.getD_eq_getElem?_getD,List.getElem?_eq_none (by omega)];rfl
theorem Yu.row {o:Oper} {F:Nm→Prop} {v:AV} {hs:List (Nm×AObj)} {rd:List Nm} {x:Nm} {sz n:Nat} {g g':Nat→List AV} (h:Yu P w0 S Es (HF G) a w o ⟨v,[(x,.arr sz n g)],rd⟩ F) (hg:∀ j,j<n→g j=g' j):Yu P w0 S Es (HF G) a w o ⟨v,[(x,.arr sz n g')],rd⟩ F:=by
 obtain ⟨w',g0,nx,h1,h2,h3⟩:=h;refine ⟨w',g0,nx,h1,h2,fun ρ hρ hgg=>?_⟩;have c:=h3 ρ hρ hgg;refine c.ole id (fun y=>?_) (fun _ _=>rfl) (fun _ _ _ _ e=>e) c.an;show OLe ρ ρ (upd (HF G) x (.arr sz n g) y) (upd (HF G) x (.arr sz n g') y);by_cases e:y=x
 ·subst e;rw[Zx,Zx];exact .arr fun i hi=>by rw[hg i hi];exact CLe.refl _ _
 ·rw[Zn _ _ e,Zn _ _ e]
  cases HF G y with
  | free=>exact .free _
  | cells c=>exact .cells (CLe.refl _ _)
  | arr sz n f=>exact .arr fun _ _=>CLe.refl _ _
  | view sz n f=>exact .view fun _ _=>CLe.refl _ _
theorem ZaW {p t sz:Nat} {els:List (List AV)} (hp:∀ (j:Nat) (c:List AV),els[j]?=some c→c.all AV.plain=true):flO (.top p) (.arr t sz els)=.arr sz els.length (fun j=>els.getD j []):=by
 show AObj.arr sz els.length _=_
 congr 1
 funext j
 by_cases hj:j<els.length
 ·rw[List.getD_eq_getElem?_getD,List.getElem?_eq_getElem hj];exact Y8 (hp j _ (List.getElem?_eq_getElem hj))
 ·rw[List.getD_eq_getElem?_getD,List.getElem?_eq_none (by omega)];rfl
set_option maxHeartbeats 2000000 in
theorem ZgF (h:Sat w0 S Es U T (HF G) a w) {F:Nm→Prop} {o:Oper} {nb:Nat} (hF0:∀ x:Nm,x.mx=nb→F x) (hFU:∀ x,F x→U x) {E:FuncId→Option Spec} {m:MOp} {r:Res} (hm:rOp P o.op=some m) (hc:m.isCall=false) (hs:YL E T G nb m=some r):V7 P w0 S Es G a w o r F:=by
 have hF:F (.top nb):=hF0 _ rfl;have hU:U (.top nb):=hFU _ hF;have hnbf:G nb=.free:=Zt.1 (h.fr _ hU);by_cases hp:m.isPure=true
 ·rw[TQ hp]at hs
  cases hf:Zv T noH (.top 0) m with
  | none=>simp[hf]at hs
  | some rf =>
   simp only[hf,Option.map_some,Option.some.injEq]at hs;subst hs;obtain ⟨h1,h2⟩:=ZbT (H':=HF G) (nb':=.top nb) hp hf;exact V7.of_same (Zar h hF hU hm hc h1) rfl h2 rfl
 have ok:=fun {rf:FRes} (hs:Zv T (HF G) (.top nb) m=some rf)=>Zar h hF hU hm hc hs;have one:∀ {c:List AV},c.all AV.st=true→∀ j d,Zl (.cells 0 c) j=some d→d.all AV.plain=true:=fun {c} hst j d hd=>by
  simp only[Zl]at hd;split at hd
  ·injection hd with hd;subst hd;exact YQ hst
  ·cases hd
 cases m<;>simp only[MOp.isPure,not_true_eq_false,Bool.false_eq_true,not_false_eq_true]at hp<;>simp only[YL]at hs
 case mp o=>cases hs
 case clr sz x =>
  split at hs
  ·rename_i p s n hx
   split at hs
   ·rename_i t sz' els hp
    split at hs
    ·rename_i hcond
     injection hs with hs;subst hs;obtain ⟨rfl,h1,h2,h3⟩:=hcond;have hpl:∀ (j:Nat) (c:List AV),els[j]?=some c→c.all AV.plain=true:=fun j c hc=>List.all_eq_true.1 h3 c (List.mem_of_getElem? hc);have e1:HF G (.top p)=.arr sz' els.length (fun j=>els.getD j []):=by
      show flO (.top p) (G p)=_;rw[hp];exact ZaW hpl
     have this:Yu P w0 S Es (HF G) a w o ⟨.tup [],[(.top p,.arr sz' s (fun j=>els.getD j []))],[]⟩ F:=ok (by simp only[Zv,hx,e1,true_and];rw[if_pos ⟨h1,h2⟩]);have this:=Yu.row (hs:=[]) this (g':=fun j=>(els.take s).getD j []) (fun j hj=>by
      rw[List.getD_eq_getElem?_getD,List.getD_eq_getElem?_getD,List.getElem?_take,if_pos hj])
     have hs':(els.take s).length=s:=(by rw[List.length_take];omega);have hpl2:∀ (j:Nat) (c:List AV),(els.take s)[j]?=some c→c.all AV.plain=true:=fun j c hc=>by
      rw[List.getElem?_take]at hc;split at hc
      ·exact hpl j c hc
      ·cases hc
     have kf:∀ (q:NObj),(∀ j c,Zl q j=some c→c.all AV.plain=true)→∀ t j f,kid q t j f=.free:=fun q hq t j f=>XZ hq t j f;have k1:∀ t j f,kid (G p) t j f=.free:=kf _ (fun j c hc=>hpl j c (by rw[hp]at hc;exact hc));have k2:∀ t' j f,kid (.arr t sz' (els.take s)) t' j f=.free:=kf _ (fun j c hc=>hpl2 j c hc);have below:∀ (G2:NH),(∀ t j f,kid (G2 p) t j f=.free)→∀ x:Nm,x.root=p→x≠.top p→Zj G2 x=.free:=fun G2 hk x=>by
      induction x with
      | top n=>intro hr hne;simp only[Nm.root]at hr;subst hr;exact absurd rfl hne
      | sub y t j f ih =>
       intro hr _;simp only[Nm.root]at hr;by_cases hy:y=.top p
       ·subst hy;exact hk t j f
       ·rw[Zj,ih hr hy];simp[kid,Zl]
     have hall:HF (upd G p (.arr t sz' (els.take s)))=upd (HF G) (.top p) (.arr sz' s (fun j=>(els.take s).getD j [])):=by
      funext x
      by_cases hr:x.root=p
      ·by_cases hx':x=.top p
       ·subst hx'
        rw[Zx];show flO (.top p) (upd G p _ p)=_;rw[Zx];rw[ZaW hpl2,hs']
       ·rw[Zn _ _ hx']
        unfold HF;rw[below _ (fun t' j f=>by rw[Zx];exact k2 t' j f) x hr hx',below G k1 x hr hx']
      ·have hx':x≠.top p:=fun e=>hr (by rw[e];rfl)
       rw[Zn _ _ hx'];unfold HF;rw[YU hr]
     obtain ⟨w',g,nx,q1,q2,q3⟩:=this;refine ⟨⟨w',g,nx,q1,q2,fun ρ hρ hg=>?_⟩,fun x _ hx' => ?_⟩
     ·show HCore w0 S ρ (HF (upd G p (.arr t sz' (els.take s)))) w'
      rw[hall];exact q3 ρ hρ hg
     ·change Zj (upd G p (.arr t sz' (els.take s))) x≠.free at hx'
      by_cases hr:x.root=p
      ·by_cases e:x=.top p
       ·subst e;show G p≠.free;rw[hp];simp
       ·exact absurd (below _ (fun t' j f=>by rw[Zx];exact k2 t' j f) x hr e) hx'
      ·rwa [YU hr]at hx'
    ·cases hs
   ·cases hs
  ·cases hs
 case alloc z =>
  split at hs
  ·rename_i hst
   injection hs with hs;subst hs;have:=ok (rf:=⟨.ptr (.top nb) 0 0,[(.top nb,.cells z)],[]⟩) rfl;exact V7.of_new this rfl rfl (by simp[flO,Y8 (YQ hst)]) hnbf hF (one hst)
  ·cases hs
 case box x =>
  split at hs
  ·rename_i hst
   injection hs with hs;subst hs;have:=ok (rf:=⟨.ptr (.top nb) 0 0,[(.top nb,.cells (x.ev T).cells)],[]⟩) (by simp only[Zv];rw[if_pos (yX hst)]);exact V7.of_new this rfl rfl (by simp[flO,Y8 (YQ hst)]) hnbf hF (one hst)
  ·cases hs
 case load ag n x =>
  split at hs
  ·rename_i p i f hx
   split at hs
   ·rename_i c hc'
    split at hs
    ·rename_i hag
     split at hs
     ·rename_i hle
      injection hs with hs;subst hs;have:=ok (rf:=⟨.agg (((flC p (Zj G p).tag i c).drop f).take n),[],[p]⟩) (by simp only[Zv,hx,Zd8 hc',if_pos hag,Vx,if_pos hle]);exact V7.of_same this rfl rfl rfl
     ·cases hs
    ·rename_i hag
     split at hs
     ·rename_i v hv
      injection hs with hs;subst hs;have:=ok (rf:=⟨flV p (Zj G p).tag i f v,[],[p]⟩) (by simp only[Zv,hx,Zd8 hc',if_neg hag,Xy,hv,Option.map_some]);exact V7.of_same this rfl rfl rfl
     ·cases hs
   ·cases hs
  ·cases hs
 case store n x y =>
  split at hs
  ·rename_i p i f hx
   split at hs
   ·rename_i hcond
    split at hs
    ·rename_i o' ho'
     injection hs with hs;subst hs;have hpl:=YQ hcond.1;have:=ok (rf:=⟨.bot,[(p,flO p o')],[]⟩) (by
      have e:=Zex (p:=p) hpl ho';simp only[Zv,hx];rw[if_pos ⟨yX hcond.1,hcond.2⟩];unfold HF;rw[e])
     have hlike:=(Zc9 ho').1;have hkid:=ZfG hpl ho';obtain ⟨w',g,nx,h1,h2,h3⟩:=this;refine ⟨⟨w',g,nx,h1,h2,fun ρ hρ hg=>(h3 ρ hρ hg).weaken (ZiN hlike hkid)⟩,fun x _ hx=>Zjy hlike hkid x hx⟩
    ·cases hs
   ·cases hs
  ·cases hs
 case iaddr sz x i =>
  split at hs
  ·rename_i p s n k j hx hi
   split at hs
   ·rename_i hsz
    split at hs
    ·rename_i hj
     injection hs with hs;subst hs;have:=ok (rf:=⟨.ptr p (s+j.toNat) 0,[],[p]⟩) (by simp only[Zv,hx,hi];rw[ZbH,if_pos hsz,if_pos hj]);exact V7.of_same this rfl rfl rfl
    ·cases hs
   ·cases hs
  ·cases hs
 case stop=>cases hs
 case slc sz x lo hi =>
  split at hs
  ·rename_i p s n hx
   split at hs
   ·rename_i k1 l k2 hh hl1 hl2
    split at hs
    ·rename_i hsz
     split at hs
     ·rename_i hle
      injection hs with hs;subst hs;have:=ok (rf:=⟨.sl p (s+l.toNat) (hh.toNat - l.toNat),[],[p]⟩) (by simp only[Zv,hx,hl1,hl2];rw[ZbH,if_pos hsz,if_pos hle]);exact V7.of_same this rfl rfl rfl
     ·cases hs
    ·cases hs
   ·cases hs
  ·rename_i hx
   split at hs
   ·rename_i k1 l k2 hh hl1 hl2
    split at hs
    ·rename_i hle
     injection hs with hs;subst hs;have:=ok (rf:=⟨.nsl,[],[]⟩) (by simp only[Zv,hx,hl1,hl2];rw[if_pos hle]);exact V7.of_same this rfl rfl rfl
    ·cases hs
   ·cases hs
  ·cases hs
 case app sz bytes x y =>
  split at hs
  ·rename_i els' rd sz' hr
   split at hs
   ·rename_i hcond
    obtain ⟨hsz,hpl⟩:=hcond;obtain ⟨g,rd',hrs,hgg⟩:=Zcj hr hpl;have hsz2:els'.length=0∨sz'=sz:=hsz.imp (fun e=>by rw[e];rfl) id;have hplj:∀ (j:Nat) (c:List AV),els'[j]?=some c→c.all AV.plain=true:=fun j c hc=>List.all_eq_true.1 hpl c (List.mem_of_getElem? hc);split at hs
    ·rename_i hx
     split at hs
     ·rename_i hb
      injection hs with hs;subst hs;have:=ok (rf:=⟨.sl (.top nb) 0 els'.length,[(.top nb,.arr sz els'.length g)],rd'⟩) (by simp only[Zv,hrs,hx];rw[if_pos hsz2,if_pos hb]);have:=Yu.row (hs:=[]) this (g':=fun j=>if j<els'.length then els'.getD j [] else []) (fun j hj=>by rw[hgg j hj,if_pos hj]);exact V7.of_new this rfl rfl (by rw[ZaO rfl hplj (fun j hj=>if_pos hj) (fun j hj=>if_neg (by omega))]) hnbf hF (fun j c hc=>hplj j c hc)
     ·cases hs
    ·rename_i p s n hx
     split at hs
     ·rename_i t0 sz2 els hp
      split at hs
      ·rename_i hb
       obtain ⟨rfl,hsn,htl,hb1,hb2⟩:=hb;injection hs with hs;subst hs;have hstep:Zv T (HF G) (.top nb) (.app sz2 bytes x y)=some ⟨.sl (.top nb) 0 (n+els'.length),[(p,.free),(.top nb,.arr sz2 (n+els'.length) (Zbu n (fun j=>flC p t0 (s+j) (els.getD (s+j) [])) g))],rd'⟩:=by
        have hHF:HF G p=.arr sz2 els.length (fun j=>flC p t0 j (els.getD j [])):=(by unfold HF;rw[hp];rfl);simp only[Zv,hrs,hx,hHF];rw[if_pos hsz2,if_pos ⟨trivial,hsn,hb1,hb2⟩]
       have:=Zar h (F:=fun x=>x=.top nb) (nb:=.top nb) rfl hU hm hc hstep;exact Zcx h hF0 hFU hp hsn rfl hpl htl hgg this
      ·cases hs
     ·cases hs
    ·cases hs
   ·cases hs
  ·cases hs
 case appz sz bytes x y =>
  split at hs
  ·rename_i n hx hy
   split at hs
   ·rename_i hcond
    injection hs with hs;subst hs;have:=ok (rf:=⟨.sl (.top nb) 0 n.toNat,[(.top nb,.arr sz 0 (fun _=>[]))],[]⟩) (by simp only[Zv,hx,hy];rw[if_pos hcond]);exact V7.of_new this rfl rfl (by simp[flO,flC]) hnbf hF (fun j c hc=>by simp[Zl]at hc)
   ·cases hs
  ·cases hs
 case mks sz bytes z l c =>
  split at hs
  ·rename_i k1 x k2 y hl hc'
   split at hs
   ·rename_i hcond
    obtain ⟨e1,e2,e3,e4,e5,e6⟩:=hcond;injection hs with hs;subst hs;have:=ok (rf:=⟨.sl (.top nb) 0 x.toNat,[(.top nb,.arr sz x.toNat (fun _=>z))],[]⟩) (by simp only[Zv,hl,hc'];rw[if_pos ⟨e1,e2,e3,e4,e5⟩]);have:=Yu.row (hs:=[]) this (g':=fun j=>if j<x.toNat then z else []) (fun j hj=>by rw[if_pos hj]);refine V7.of_new this rfl rfl ?_ hnbf hF (fun j c hc=>?_)
    ·have e:=ZaO (nb:=nb) (sz:=sz) (n:=x.toNat) (els:=List.replicate x.toNat z) (g:=fun j=>if j<x.toNat then z else []) (by simp) (fun j d hd=>by
      rw[List.getElem?_replicate]at hd;split at hd
      ·injection hd with hd;subst hd;exact YQ e6
      ·cases hd) (fun j hj=>by
      rw[List.getD_eq_getElem?_getD,List.getElem?_replicate,if_pos hj,if_pos hj];rfl) (fun j hj=>if_neg (by omega))
     rw[e]
    ·simp only[Zl]at hc
     rw[List.getElem?_replicate]at hc;split at hc
     ·injection hc with hc;subst hc;exact YQ e6
     ·cases hc
   ·cases hs
  ·cases hs
 case bsl sz n z ps =>
  split at hs
  ·rename_i c hc'
   split at hs
   ·rename_i hcond
    obtain ⟨e1,e2,e3,e4⟩:=hcond;injection hs with hs;subst hs;have hpl:∀ j:Nat,((c.drop (j*sz)).take sz).all AV.plain=true:=fun j=>List.all_eq_true.2 fun v hv=>List.all_eq_true.1 (YQ e4) v (List.mem_of_mem_drop (List.mem_of_mem_take hv));have:=ok (rf:=⟨.sl (.top nb) 0 n,[(.top nb,.arr sz n (fun j=>(c.drop (j*sz)).take sz))],[]⟩) (by simp only[Zv,hc'];rw[if_pos ⟨e1,e2,e3⟩]);have:=Yu.row (hs:=[]) this (g':=fun j=>if j<n then (c.drop (j*sz)).take sz else []) (fun j hj=>by rw[if_pos hj]);have hget:∀ j,((List.range n).map fun j=>(c.drop (j*sz)).take sz)[j]?=if j<n then some ((c.drop (j*sz)).take sz) else none:=fun j=>by
     rw[List.getElem?_map];rcases Nat.lt_or_ge j n with h|h
     ·rw[List.getElem?_range h,if_pos h];rfl
     ·rw[List.getElem?_eq_none (by simpa using h),if_neg (by omega)];rfl
    refine V7.of_new this rfl rfl ?_ hnbf hF (fun j d hd=>?_)
    ·have e:=ZaO (nb:=nb) (sz:=sz) (n:=n) (els:=(List.range n).map fun j=>(c.drop (j*sz)).take sz) (g:=fun j=>if j<n then (c.drop (j*sz)).take sz else []) (by simp) (fun j d hd=>by
      rw[hget]at hd;split at hd
      ·injection hd with hd;subst hd;exact hpl j
      ·cases hd) (fun j hj=>by
      rw[List.getD_eq_getElem?_getD,hget,if_pos hj,if_pos hj];rfl) (fun j hj=>if_neg (by omega))
     rw[e]
    ·simp only[Zl]at hd
     rw[hget]at hd;split at hd
     ·injection hd with hd;subst hd;exact hpl j
     ·cases hd
   ·cases hs
  ·cases hs
 case call f args=>simp[MOp.isCall]at hc
end
end Go.W
