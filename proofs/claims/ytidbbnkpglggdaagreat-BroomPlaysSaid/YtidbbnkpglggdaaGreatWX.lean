/- A call: back to the caller. A call keeps what its body's walk says. -/
import Derived.Test.YtidbbnkpglggdaaGreatWV
namespace Go.W
set_option linter.unusedSimpArgs false
set_option linter.unusedVariables false
def wrs (G:NH):List (Nm×NObj)→List (Nat×NObj)
 | []=>[]
 | (p,o) :: r=>wr G p o :: wrs (upd G (wr G p o).1 (wr G p o).2) r
theorem xf:∀ (ws:List (Nm×NObj)) (G:NH),(∀ q∈ws,Tx (Zj G q.1) q.2)→ws.Pairwise (fun a b=>¬ pre a.1 b.1∧¬ pre b.1 a.1) →
  (∀ q∈ws,Zj (Yr G (wrs G ws)) q.1=q.2)∧(∀ x,(∀ q∈ws,¬ pre q.1 x)→HF (Yr G (wrs G ws)) x=HF G x)∧(∀ x,(∀ q∈ws,¬ pre q.1 x∧¬ pre x q.1)→Zj (Yr G (wrs G ws)) x=Zj G x)
 | [],G,_,_=>⟨by simp,fun _ _=>rfl,fun _ _=>rfl⟩
 | (p,o) :: r,G,hl,hp=>by
  rw[List.pairwise_cons]at hp;obtain ⟨a1,a2,a3⟩:=yO G p o (hl _ List.mem_cons_self);obtain ⟨b1,b2,b3⟩:=xf r (upd G (wr G p o).1 (wr G p o).2) (fun q hq=>by
   rw[a3 q.1 (hp.1 q hq).1 (hp.1 q hq).2];exact hl q (List.mem_cons_of_mem _ hq)) hp.2
  refine ⟨fun q hq=>?_,fun x hx=>?_,fun x hx=>?_⟩
  ·rcases List.mem_cons.1 hq with rfl|hq
   ·show Zj (Yr (upd G _ _) (wrs _ r)) p=o
    rw[b3 p fun q hq=>⟨(hp.1 q hq).2,(hp.1 q hq).1⟩];exact a1
   ·exact b1 q hq
  ·show HF (Yr (upd G _ _) (wrs _ r)) x=_
   rw[b2 x fun q hq=>hx q (List.mem_cons_of_mem _ hq)];exact a2 x (hx _ List.mem_cons_self)
  ·show Zj (Yr (upd G _ _) (wrs _ r)) x=_
   rw[b3 x fun q hq=>hx q (List.mem_cons_of_mem _ hq)];exact a3 x (hx _ List.mem_cons_self).1 (hx _ List.mem_cons_self).2
def wl (nb:Nat):ML→List NObj→List NObj→List (Nm×NObj)
 | some (p,_) :: r,o :: os,o' :: os' => if o.own=true then (p,o'.retag nb) :: wl nb r os os' else wl nb r os os'
 | none :: r,_ :: os,_ :: os' => wl nb r os os'
 | _,_,_=>[]
theorem TB {nb:Nat}:∀ {ml:ML} {objs outs:List NObj} {q:Nm×NObj},q∈wl nb ml objs outs→∃ (k i:Nat) (o o':NObj),ml[k]?=some (some (q.1,i))∧objs[k]?=some o∧outs[k]?=some o'∧o.own=true∧q.2=o'.retag nb
 | some (p,i) :: r,o :: os,o' :: os',q,h=>by
  simp only[wl]at h;split at h
  ·rename_i ho
   rcases List.mem_cons.1 h with rfl|h
   ·exact ⟨0,i,o,o',rfl,rfl,rfl,ho,rfl⟩
   ·obtain ⟨k,j,a,b,h1,h2,h3,h4,h5⟩:=TB h
    exact ⟨k+1,j,a,b,by simpa using h1,by simpa using h2,by simpa using h3,h4,h5⟩
  ·obtain ⟨k,j,a,b,h1,h2,h3,h4,h5⟩:=TB h
   exact ⟨k+1,j,a,b,by simpa using h1,by simpa using h2,by simpa using h3,h4,h5⟩
 | none :: r,o :: os,o' :: os',q,h=>by
  simp only[wl]at h;obtain ⟨k,j,a,b,h1,h2,h3,h4,h5⟩:=TB h;exact ⟨k+1,j,a,b,by simpa using h1,by simpa using h2,by simpa using h3,h4,h5⟩
 | [],_,_,_,h=>by simp[wl]at h
 | some (p,i) :: r,[],_,_,h=>by simp[wl]at h
 | some (p,i) :: r,_ :: _,[],_,h=>by simp[wl]at h
 | none :: r,[],_,_,h=>by simp[wl]at h
 | none :: r,_ :: _,[],_,h=>by simp[wl]at h
theorem Zif {nb:Nat}:∀ {ml:ML} {objs outs:List NObj} {k i:Nat} {p:Nm} {o o':NObj},ml[k]?=some (some (p,i))→objs[k]?=some o→outs[k]?=some o'→o.own=true→(p,o'.retag nb)∈wl nb ml objs outs
 | [],_,_,k,_,_,_,_,h,_,_,_=>by simp at h
 | m :: r,[],_,k,_,_,_,_,_,h,_,_=>by simp at h
 | m :: r,_ :: _,[],k,_,_,_,_,_,_,h,_=>by simp at h
 | some (p',i') :: r,o1 :: os,o1' :: os',k,i,p,o,o',h1,h2,h3,h4=>by
  cases k with
  | zero=>simp at h1 h2 h3;obtain ⟨rfl,rfl⟩:=h1;subst h2 h3;simp[wl,h4]
  | succ k =>
   have:=Zif (nb:=nb) (by simpa using h1) (by simpa using h2) (by simpa using h3) h4;simp only[wl];split
   ·exact List.mem_cons_of_mem _ this
   ·exact this
 | none :: r,o1 :: os,o1' :: os',k,i,p,o,o',h1,h2,h3,h4=>by
  cases k with
  | zero=>simp at h1
  | succ k =>
   have:=Zif (nb:=nb) (by simpa using h1) (by simpa using h2) (by simpa using h3) h4;simp only[wl];exact this
theorem TK {nb:Nat}:∀ {ml:ML} {objs outs:List NObj},xT ml objs→(wl nb ml objs outs).Pairwise (fun a b=>¬ pre a.1 b.1∧¬ pre b.1 a.1)
 | some (p,i) :: r,o :: os,o' :: os',h=>by
  have tail:xT r os:=fun k k' p p' i i' o hne h1 h2 h3 h4=>h (k+1) (k'+1) p p' i i' o (by omega) (by simpa using h1) (by simpa using h2) (by simpa using h3) h4;simp only[wl];split
  ·rename_i ho
   rw[List.pairwise_cons];refine ⟨fun q hq=>?_,TK tail⟩;obtain ⟨k,j,a,b,h1,h2,h3,h4,h5⟩:=TB hq;exact h 0 (k+1) p q.1 i j o (by omega) rfl (by simpa using h1) rfl ho
  ·exact TK tail
 | none :: r,o :: os,o' :: os',h=>by
  have tail:xT r os:=fun k k' p p' i i' o hne h1 h2 h3 h4=>h (k+1) (k'+1) p p' i i' o (by omega) (by simpa using h1) (by simpa using h2) (by simpa using h3) h4;simp only[wl];exact TK tail
 | [],_,_,_=>by simp[wl]
 | some (p,i) :: r,[],_,_=>by simp[wl]
 | some (p,i) :: r,_ :: _,[],_=>by simp[wl]
 | none :: r,[],_,_=>by simp[wl]
 | none :: r,_ :: _,[],_=>by simp[wl]
def ZdW (ml:ML) (nb:Nat):Prop:=∀ (k:Nat) (p:Nm) (i:Nat),ml[k]?=some (some (p,i))→p.mx<nb
theorem Zb8 {o:NObj} (h:o.clO=true) (t j f:Nat):(kid o t j f).tag=0:=by
 unfold kid;split
 ·cases he:Zl o j with
  | none=>rfl
  | some c =>
   simp only[zp];cases hv:c[f]? with
   | none=>rfl
   | some v =>
    have:=Uq (UL h he) hv;cases v<;>try rfl
    ·simp only[AV.cl,Bool.and_eq_true]at this
     have:=of_decide_eq_true this.1;simp only[kidV];split<;>exact this
    ·simp only[AV.cl,Bool.and_eq_true]at this
     have:=of_decide_eq_true this.1;simp only[kidV];split<;>exact this
 ·rfl
inductive Back (G' Gf:NH) (nb m:Nat) (ml:ML) (objs:List NObj):Nm→Nm→Prop
 | new (i:Nat):Back G' Gf nb m ml objs (.top (nb+i)) (.top (m+i))
 | came {k i:Nat} {p:Nm} {o:NObj} (h1:ml[k]?=some (some (p,i))) (h2:objs[k]?=some o) (h3:o.own=true):Back G' Gf nb m ml objs p (.top k)
 | sub {x z:Nm} (j f:Nat) (h:Back G' Gf nb m ml objs x z):Back G' Gf nb m ml objs (.sub x (Zj G' x).tag j f) (.sub z (Zj Gf z).tag j f)
section
variable {G G' Gf:NH} {nb m:Nat} {ml:ML} {objs outs news:List NObj}
theorem Zcm {x z:Nm} (h:Back G' Gf nb m ml objs x z):nb≤x.root∨∃ (k i:Nat) (p:Nm) (o:NObj),ml[k]?=some (some (p,i))∧objs[k]?=some o∧o.own=true∧pre p x:=by
 induction h with
 | new i=>left;simp[Nm.root]
 | came h1 h2 h3=>exact .inr ⟨_,_,_,_,h1,h2,h3,Xz _⟩
 | sub j f h ih =>
  rcases ih with ih|⟨k,i,p,o,a1,a2,a3,a4⟩
  ·exact .inl ih
  ·exact .inr ⟨k,i,p,o,a1,a2,a3,.inr a4⟩
theorem zb (hap:xT ml objs) (hnm:ZdW ml nb) {x z:Nm} (h:Back G' Gf nb m ml objs x z) {k i t j f:Nat} {o:NObj} (h1:ml[k]?=some (some (.sub x t j f,i))) (h2:objs[k]?=some o) (h3:o.own=true):False:=by
 rcases Zcm h with h4|⟨k',i',p,o',a1,a2,a3,a4⟩
 ·have:=hnm _ _ _ h1
  have:=xZ x;simp only[Nm.mx]at *;omega
 ·by_cases e:k'=k
  ·subst e
   rw[h1]at a1;simp only[Option.some.injEq,Prod.mk.injEq]at a1;have:=VJ a4;rw[← a1.1]at this;simp only[depth]at this;omega
  ·exact (hap k' k p _ i' i o' e a1 h1 a2 a3).1 (.inr a4)
theorem Zbq (hap:xT ml objs) (hnm:ZdW ml nb) {x z:Nm} (h:Back G' Gf nb m ml objs x z):∀ {z'},Back G' Gf nb m ml objs x z'→z=z':=by
 induction h with
 | new i =>
  intro z' h';generalize hx:Nm.top (nb+i)=x at h';cases h' with
  | new i' => injection hx with hx;rw[show i=i' by omega]
  | came h1 h2 h3=>have:=hnm _ _ _ h1;rw[← hx]at this;simp only[Nm.mx]at this;omega
  | sub j f h=>cases hx
 | @came k i p o h1 h2 h3 =>
  intro z' h';cases h' with
  | new i' => have:=hnm _ _ _ h1;simp only[Nm.mx]at this;omega
  | @came k' i' _ o' g1 g2 g3 =>
   by_cases e:k=k'
   ·rw[e]
   ·exact absurd (Xz p) (hap k k' p p i i' o e h1 g1 h2 h3).1
  | sub j f h=>exact (zb hap hnm h h1 h2 h3).elim
 | @sub x z j f h ih =>
  intro z' h';generalize hx:Nm.sub x (Zj G' x).tag j f=y at h';cases h' with
  | new i' => cases hx
  | came h1 h2 h3=>rw[← hx]at h1;exact (zb hap hnm h h1 h2 h3).elim
  | sub j' f' h' =>
   injection hx with e1 e2 e3 e4;subst e1 e3 e4;rw[ih h']
theorem Zf3 (hlen:ml.length=m) {x z:Nm} (h:Back G' Gf nb m ml objs x z):∀ {x'},Back G' Gf nb m ml objs x' z→x=x':=by
 induction h with
 | new i =>
  intro x' h';generalize hz:Nm.top (m+i)=z at h';cases h' with
  | new i' => injection hz with hz;rw[show i=i' by omega]
  | came h1 h2 h3 =>
   injection hz with hz;have:=(List.getElem?_eq_some_iff.1 h1).1;omega
  | sub j f h=>cases hz
 | @came k i p o h1 h2 h3 =>
  intro x' h';generalize hz:Nm.top k=z at h';cases h' with
  | new i' =>
   injection hz with hz;have:=(List.getElem?_eq_some_iff.1 h1).1;omega
  | came g1 g2 g3 =>
   injection hz with hz;subst hz;rw[h1]at g1;simp only[Option.some.injEq,Prod.mk.injEq]at g1;exact g1.1
  | sub j f h=>cases hz
 | @sub x z j f h ih =>
  intro x' h';generalize hz:Nm.sub z (Zj Gf z).tag j f=y at h';cases h' with
  | new i' => cases hz
  | came h1 h2 h3=>cases hz
  | sub j' f' h' =>
   injection hz with e1 e2 e3 e4;subst e1 e3 e4;rw[ih h']
def Vf (G:NH) (nb:Nat) (ml:ML) (objs outs news:List NObj):List (Nat×NObj):=wrs G (wl nb ml objs outs)++ZS nb news
theorem zq {κ α:Type} [DecidableEq κ]:∀ (a b:List (κ×α)) (H:κ→α),Yr H (a++b)=Yr (Yr H a) b
 | [],_,_=>rfl
 | (x,o) :: r,b,H=>by simp[Yr,zq r]
theorem Ty:∀ (l:List NObj) (i:Nat) (H:NH) (x:Nat),Yr H (ZS i l) x=if i≤x∧x<i+l.length then (l[x - i]?).getD .free else H x
 | [],i,H,x=>by simp[ZS,Yr];omega
 | o :: r,i,H,x=>by
  rw[ZS,Yr,Ty r];by_cases e:x=i
  ·subst e
   rw[if_neg (by omega),Zx,if_pos (by simp)];simp
  ·rw[Zn _ _ e]
   by_cases h:i+1≤x∧x<i+1+r.length
   ·rw[if_pos h,if_pos (by simp;omega)]
    obtain ⟨d,hd⟩:∃ d,x - i=d+1:=⟨x - i - 1,by omega⟩;rw[hd,show x - (i+1)=d by omega];simp
   ·rw[if_neg h,if_neg (by simp;omega)]
structure Ends (objs outs news:List NObj):Prop where
 len:outs.length=objs.length
 out:∀ (k:Nat) (o o':NObj),objs[k]?=some o→outs[k]?=some o'→(o.own=true→Tx o o')∧(o.own=false→o'=.free)∧o'.clO=true∧o'.tag=0
 new:∀ (k:Nat) (o:NObj),news[k]?=some o→o.own=true∧o.clO=true∧o.tag=0
 few:news.length≤8
theorem Tx.trans0 {og o:NObj} (h:og.own=true) {nb:Nat} (hl:Tx og.t0 o):Tx og (o.retag nb):=by
 cases og<;>simp[NObj.own]at h<;>cases o<;>simp_all [Tx,NObj.t0,NObj.retag,YD]
set_option linter.unusedSectionVars false
section
variable (hc:yv G ml objs) (hap:xT ml objs) (hnm:ZdW ml nb) (hend:Ends objs outs news) (hnew:∀ k,nb≤k→k<nb+8→G k=.free) (hG':G'=Yr G (Vf G nb ml objs outs news)) (hGf:Gf=hk (ZS 0 (outs++news))) (hm:m=objs.length)
include hc hap hnm hend hnew hG'
theorem Zau:∀ q∈wl nb ml objs outs,Tx (Zj G q.1) q.2:=fun q hq=>by
 obtain ⟨k,i,o,o',h1,h2,h3,h4,h5⟩:=TB hq;have hs:=hc.2 k _ o h1 h2;simp only at hs;have hl:=(hend.out k o o' h2 h3).1 h4;rw[h5];cases hs with
 | own h hcl=>exact Tx.trans0 h hl
 | row h _ _=>cases h4
 | one h _=>cases h4
theorem Zdz {x:Nm} (hr:¬ (nb≤x.root∧x.root<nb+8)) (hx:∀ (k i:Nat) (p:Nm) (o:NObj),ml[k]?=some (some (p,i))→objs[k]?=some o→o.own=true→¬ pre p x):HF G' x=HF G x:=by
 have h1:=(xf _ G (Zau hc hap hnm hend hnew hG') (TK hap)).2.1 x fun q hq=>by
  obtain ⟨k,i,o,o',h1,h2,h3,h4,h5⟩:=TB hq;exact hx k i q.1 o h1 h2 h4
 rw[← h1,hG',Vf,zq];have:∀ {y:Nm},¬ (nb≤y.root∧y.root<nb+8)→Zj (Yr (Yr G (wrs G (wl nb ml objs outs))) (ZS nb news)) y=Zj (Yr G (wrs G (wl nb ml objs outs))) y:=fun {y} hy=>ZU (by rw[Ty,if_neg];have:=hend.few;omega);unfold HF;rw[this hr]
theorem yD {k i:Nat} {p:Nm} {o o':NObj} (h1:ml[k]?=some (some (p,i))) (h2:objs[k]?=some o) (h3:outs[k]?=some o') (h4:o.own=true):Zj G' p=o'.retag nb:=by
 have:=(xf _ G (Zau hc hap hnm hend hnew hG') (TK hap)).1 _ (Zif (nb:=nb) h1 h2 h3 h4);rw[hG',Vf,zq];refine Eq.trans ?_ this;exact ZU (by
  have:=hnm _ _ _ h1;have:=xZ p;rw[Ty,if_neg (by omega)])
include hGf hm
theorem vG:∀ x:Nm,Zj G' x≠.free→(nb≤x.root∧x.root<nb+8∨∃ (k i:Nat) (p:Nm) (o:NObj),ml[k]?=some (some (p,i))∧objs[k]?=some o∧o.own=true∧pre p x)→∃ z,Back G' Gf nb m ml objs x z∧(∃ t,Zj G' x=(Zj Gf z).retag t)∧(Zj Gf z).clO=true∧((x.mx<nb+8∧nb≤x.mx∧(Zj G' x).tag=0)∨∃ (k i:Nat) (o:NObj),ml[k]?=some (some (x,i))∧objs[k]?=some o∧o.own=true∧z=.top k)∧(Zj Gf z).own=true
 | x,hne,hw=>by
  have came:∀ {k i:Nat} {o:NObj},ml[k]?=some (some (x,i))→objs[k]?=some o→o.own=true→∃ z,Back G' Gf nb m ml objs x z∧(∃ t,Zj G' x=(Zj Gf z).retag t)∧(Zj Gf z).clO=true∧((x.mx<nb+8∧nb≤x.mx∧(Zj G' x).tag=0)∨∃ (k i:Nat) (o:NObj),ml[k]?=some (some (x,i))∧objs[k]?=some o∧o.own=true∧z=.top k)∧(Zj Gf z).own=true:=fun {k i o} h1 h2 h3=>by
   have hk:=(List.getElem?_eq_some_iff.1 h2).1;obtain ⟨oo,h4⟩:∃ oo,outs[k]?=some oo:=⟨_,List.getElem?_eq_getElem (by rw[hend.len];exact hk)⟩;have h5:=yD hc hap hnm hend hnew hG' h1 h2 h4 h3;have h6:Zj Gf (.top k)=oo:=by
    rw[hGf,Zj,TV,List.getElem?_append_left (by rw[hend.len];exact hk),h4];rfl
   refine ⟨.top k,.came h1 h2 h3,⟨nb,by rw[h5,h6]⟩,by rw[h6];exact (hend.out k o _ h2 h4).2.2.1,.inr ⟨k,i,o,h1,h2,h3,rfl⟩,?_⟩;rw[h6];have hl:=(hend.out k o _ h2 h4).1 h3;rw[h5]at hne;cases o<;>cases oo<;>first|rfl|exact hl.elim|exact absurd rfl hne|(simp[NObj.own]at h3)
  by_cases hcm:∃ (k i:Nat) (o:NObj),ml[k]?=some (some (x,i))∧objs[k]?=some o∧o.own=true
  ·obtain ⟨k,i,o,h1,h2,h3⟩:=hcm
   exact came h1 h2 h3
  cases x with
  | top n =>
   rcases hw with ⟨h1,h2⟩ | ⟨k,i,p,o,h1,h2,h3,h4⟩
   ·simp only[Nm.root]at h1 h2
    have e:G' n=if nb≤n∧n<nb+news.length then (news[n - nb]?).getD .free else Yr G (wrs G (wl nb ml objs outs)) n:=(by rw[hG',Vf,zq,Ty]);have hf:Yr G (wrs G (wl nb ml objs outs)) n=.free:=by
     have:=(xf _ G (Zau hc hap hnm hend hnew hG') (TK hap)).2.2 (.top n) fun q hq=>by
      obtain ⟨k,i,o,o',g1,g2,g3,g4,g5⟩:=TB hq;have h7:=hnm _ _ _ g1;have h8:=xZ q.1;refine ⟨fun h=>?_,fun h=>?_⟩
      ·simp only[pre]at h
       rw[h]at h7;simp only[Nm.mx]at h7;omega
      ·have h9:=UI.1 h
       omega
     rw[show Yr G (wrs G (wl nb ml objs outs)) n=Zj (Yr G (wrs G (wl nb ml objs outs))) (.top n) from rfl,this];exact hnew n h1 h2
    rw[Zj,e]at hne⊢;by_cases hlt:nb≤n∧n<nb+news.length
    ·rw[if_pos hlt]at hne⊢
     obtain ⟨o1,hg⟩:∃ o1,news[n - nb]?=some o1:=⟨_,List.getElem?_eq_getElem (by omega)⟩;have h6:Zj Gf (.top (m+(n - nb)))=o1:=by
      rw[hGf,Zj,TV,List.getElem?_append_right (by rw[hend.len];omega),hend.len,show m+(n - nb) - objs.length=n - nb by omega,hg];rfl
     have hnw:=hend.new _ _ hg;refine ⟨.top (m+(n - nb)),?_,⟨0,?_⟩,by rw[h6];exact hnw.2.1,.inl ⟨h2,h1,by rw[hg];exact hnw.2.2⟩,by rw[h6];exact hnw.1⟩
     ·have:=Back.new (G':=G') (Gf:=Gf) (nb:=nb) (m:=m) (ml:=ml) (objs:=objs) (n - nb)
      rw[show nb+(n - nb)=n by omega]at this;exact this
     ·rw[hg,h6,Option.getD_some]
      have:=hnw.2.2;clear hg h6 hnw;cases o1<;>simp only[NObj.tag]at this<;>simp[NObj.retag,this]
    ·rw[if_neg hlt,hf]at hne;exact absurd rfl hne
   ·simp only[pre]at h4
    subst h4;exact absurd ⟨k,i,o,h1,h2,h3⟩ hcm
  | sub y t j f =>
   have hgy:Zj G' y≠.free:=fun e=>hne (by rw[Zj,e];simp[kid,Zl]);have hwy:nb≤y.root∧y.root<nb+8∨∃ (k i:Nat) (p:Nm) (o:NObj),ml[k]?=some (some (p,i))∧objs[k]?=some o∧o.own=true∧pre p y:=by
    rcases hw with hw|⟨k,i,p,o,h1,h2,h3,h4⟩
    ·exact .inl hw
    ·rcases h4 with h4|h4
     ·subst h4;exact absurd ⟨k,i,o,h1,h2,h3⟩ hcm
     ·exact .inr ⟨k,i,p,o,h1,h2,h3,h4⟩
   obtain ⟨z,b1,⟨ty,b2⟩,b3,b4,b5⟩:=vG y hgy hwy;have hzne:Zj Gf z≠.free:=fun e=>hgy (by rw[b2,e];rfl);have htag:(Zj G' y).tag=t:=by
    by_cases e:(Zj G' y).tag=t
    ·exact e
    ·exact absurd (Y9 e) hne
   have hty:ty=t:=(by rw[b2,XG ty hzne]at htag;exact htag);have key:Zj G' (.sub y t j f)=Zj Gf (.sub z (Zj Gf z).tag j f):=by
    rw[Zj,Zj,b2,← hty,VI ty hzne]
   have hcl:(kid (Zj Gf z) (Zj Gf z).tag j f).clO=true:=Zer (fun j c v f hc hv hp=>Uq (UL b3 hc) hv) _ j f;have hkne:kid (Zj Gf z) (Zj Gf z).tag j f≠.free:=(by rw[key]at hne;exact hne);refine ⟨.sub z (Zj Gf z).tag j f,by rw[← htag];exact .sub j f b1,⟨(Zj G' (.sub y t j f)).tag,?_⟩,hcl,.inl ?_,?_⟩
   ·rw[← key];cases Zj G' (.sub y t j f)<;>rfl
   ·simp only[Nm.mx]
    have htx:(Zj G' (.sub y t j f)).tag=0:=(by rw[key];exact Zb8 b3 _ _ _);rcases b4 with ⟨b4,b4',b4''⟩ | ⟨k,i,o,g1,g2,g3,g4⟩
    ·rw[htag]at b4''
     exact ⟨by omega,by omega,htx⟩
    ·have:=hnm _ _ _ g1
     have:t=nb:=by
      have hk:=(List.getElem?_eq_some_iff.1 g2).1;obtain ⟨oo,h4⟩:∃ oo,outs[k]?=some oo:=⟨_,List.getElem?_eq_getElem (by rw[hend.len];exact hk)⟩;have h5:=yD hc hap hnm hend hnew hG' g1 g2 h4 g3;have hon:oo≠.free:=fun e=>hgy (by rw[h5,e];rfl);rw[h5,XG nb hon]at htag;exact htag.symm
     exact ⟨by omega,by omega,htx⟩
   ·have:∀ {o:NObj} {t j f},o.own=true→kid o t j f≠.free→(kid o t j f).own=true:=fun {o t j f} ho hk=>by
     unfold kid at hk⊢;split at hk
     ·rename_i h
      rw[if_pos h];cases he:Zl o j with
      | none=>rw[he]at hk;exact absurd rfl hk
      | some c =>
       rw[he]at hk;simp only[zp]at hk⊢;cases hv:c[f]? with
       | none=>rw[hv]at hk;exact absurd rfl hk
       | some v =>
        rw[hv]at hk;simp only at hk⊢;have hro:o.ro=false:=(by cases o<;>simp_all [NObj.own,NObj.ro]);rw[hro]at hk⊢;cases v<;>simp only[kidV]at hk⊢<;>first|exact absurd rfl hk|rfl
     ·exact absurd rfl hk
    exact this b5 hkne
end
end
def bkN (nb m:Nat) (ml:ML):Nm→Nm
 | .top x=>if m≤x then .top (nb+(x - m)) else (match ml[x]? with
  | some (some (p,_))=>p
  | _=>.top x)
 | x=>x
mutual
def Tt (f:Nm→Nm):AV→AV
 | .sl x i n=>.sl (f x) i n
 | .ptr x i g=>.ptr (f x) i g
 | .fn g c=>.fn g (Zas f c)
 | .iface t a=>.iface t (Tt f a)
 | .agg l=>.agg (Zas f l)
 | .tup l=>.tup (Zas f l)
 | v=>v
def Zas (f:Nm→Nm):List AV→List AV
 | []=>[]
 | a :: as=>Tt f a :: Zas f as
end
mutual
def X9 (p:Nm→Bool):AV→Bool
 | .sl x _ _=>p x
 | .ptr x _ _=>p x
 | .fn _ c=>VO p c
 | .iface _ a=>X9 p a
 | .agg l=>VO p l
 | .tup l=>VO p l
 | _=>true
def VO (p:Nm→Bool):List AV→Bool
 | []=>true
 | a :: as=>X9 p a&&VO p as
end
mutual
theorem zR {p:Nm→Bool} {f:Nm→Nm} {ρ ρ':Env} (hb:∀ x,p x=true→ρ' (f x)=ρ x):∀ {a:AV} {v:Value},X9 p a=true→Rep ρ a v→Rep ρ' (Tt f a) v:=fun {a} {v} h hr=>by
 cases a with
 | sl x i n=>simp only[Tt,Rep]at hr⊢;rw[hb x h];exact hr
 | ptr x i n=>simp only[Tt,Rep]at hr⊢;rw[hb x h];exact hr
 | fn g c =>
  simp only[X9]at h;simp only[Tt,Rep]at hr⊢;obtain ⟨cs,h1,h2⟩:=hr;exact ⟨cs,h1,U7 hb h h2⟩
 | iface t a =>
  simp only[X9]at h;simp only[Tt,Rep]at hr⊢;obtain ⟨x,h1,h2⟩:=hr;exact ⟨x,h1,zR hb h h2⟩
 | agg l =>
  simp only[X9]at h;simp only[Tt,Rep]at hr⊢;obtain ⟨cs,h1,h2⟩:=hr;exact ⟨cs,h1,U7 hb h h2⟩
 | tup l =>
  simp only[X9]at h;simp only[Tt,Rep]at hr⊢;obtain ⟨cs,h1,h2⟩:=hr;exact ⟨cs,h1,U7 hb h h2⟩
 | _=>simp only[Tt,Rep]at hr⊢<;>exact hr
theorem U7 {p:Nm→Bool} {f:Nm→Nm} {ρ ρ':Env} (hb:∀ x,p x=true→ρ' (f x)=ρ x):∀ {as:List AV} {vs:List Value},VO p as=true→Z8 ρ as vs→Z8 ρ' (Zas f as) vs:=fun {as} {vs} h hr=>by
 cases as with
 | nil=>exact hr
 | cons a as =>
  simp only[VO,Bool.and_eq_true]at h;simp only[Zas,Z8]at hr⊢;obtain ⟨v,r,h1,h2,h3⟩:=hr;exact ⟨v,r,h1,zR hb h.1 h2,U7 hb h.2 h3⟩
end
def Zjk (objs:List NObj) (n:Nat):Nm→Bool
 | .top x=>if objs.length≤x then decide (x<objs.length+n) else (match objs[x]? with
  | some (.cells _ _)=>true
  | _=>false)
 | _=>false
theorem ZkA {ρ ρ':Env} {x z:Nm} {o:NObj} (t:Nat) (hcl:o.clO=true) (hk:∀ j f,kid o o.tag j f≠.free→ρ' (.sub x t j f)=ρ (.sub z o.tag j f)):OLe ρ ρ' (flO z o) (flO x (o.retag t)):=by
 have cell:∀ i c,Zl o i=some c→CLe ρ ρ' (flC z o.tag i c) (flC x t i c):=fun i c hc=>Ur (fun v hv hp u hu=>by
   obtain ⟨k,hk'⟩:=List.getElem?_of_mem hv;exact vH (Uq (UL hcl hc) hk') hp hu) (fun f v hv hp=>hk i f (by
   unfold kid;rw[if_pos rfl,hc];simp only[zp,hv];cases v<;>simp only[AV.plain,Bool.true_eq_false]at hp<;>simp only[kidV]<;>split<;>simp))
 cases o with
 | free=>exact .free _
 | cells t c=>exact .cells (cell 0 c (by simp[Zl]))
 | arr t z l =>
  refine .arr fun i hi=>?_;rw[List.getD_eq_getElem?_getD,List.getElem?_eq_getElem hi,Option.getD_some];exact cell i _ (by simp[Zl,hi])
 | view t z l =>
  refine .view fun i hi=>?_;rw[List.getD_eq_getElem?_getD,List.getElem?_eq_getElem hi,Option.getD_some];exact cell i _ (by simp[Zl,hi])
section
variable {P:Program}
set_option maxHeartbeats 2000000 in
theorem yS {f:FuncId} {fn:Func} {c:Code} {mc:MCode} {res:List RV} (hf:P.funcs[f]?=some fn) (hb:fn.body=some c) (hrc:rC P c=some mc) (hres:Zaj P fn.results.toList=some res)
  {largs:List AV} {objs outs news:List NObj} {lres:AV} (harg:largs.length≤fn.ntmps) (hend:Ends objs outs news) (hnms:X9 (Zjk objs news.length) lres=true)
  (hw:∀ (w0:World) (S:Sc),S.m=objs.length→Wm P w0 S fn.ntmps [] mc ⟨Zcp 0 largs,ZS 0 objs,objs.length⟩ (Zgy res fun v s=>Imp objs.length ⟨[(0,v)],s.hl,s.nb⟩ ⟨[(0,lres)],ZS 0 (outs++news),objs.length+news.length⟩))
  {w0:World} {S:Sc} {Es:Env→Prop} {U:Nm→Prop} {G:NH} {w:World} {avs:List AV} {vs:List Value} {nb:Nat} {ml:ML} (hne:∃ ρ,Es ρ) (hfr:∀ x,U x→HF G x=.free) (hpin:∀ ρ ρ',Es ρ→Es ρ'→∀ x,HF G x≠.free→ρ x=ρ' x)
  (hp:∀ ρ,Es ρ→HCore w0 S ρ (HF G) w) (hrep:∀ ρ,Es ρ→Z8 ρ avs vs) (hF:∀ x:Nm,nb≤x.mx∧x.mx<nb+8→U x) (hargs:YN ml largs avs) (hc:yv G ml objs) (hap:xT ml objs) (hnm:ZdW ml nb) :
  (Calls P f vs.toArray w fun e w' => ∃ (v:Value) (g:Env),e=.returned v∧∀ ρ,Es ρ→(∀ x:Nm,nb≤x.mx∧x.mx<nb+8→ρ x=g x)→Rep ρ (Tt (bkN nb objs.length ml) lres) v∧HCore w0 S ρ (HF (Yr G (Vf G nb ml objs outs news))) w') ∧
  ∀ x:Nm,¬ (nb≤x.mx∧x.mx<nb+8)→Zj (Yr G (Vf G nb ml objs outs news)) x≠.free→Zj G x≠.free:=by
 obtain ⟨ρ0,h0⟩:=hne
 have hlen:ml.length=objs.length:=hc.1
 have hnew:∀ k,nb≤k→k<nb+8→G k=.free:=fun k h1 h2=>Zt.1 (hfr (.top k) (hF _ ⟨h1,h2⟩))
 generalize hG':Yr G (Vf G nb ml objs outs news)=G'
 generalize hGf:hk (ZS 0 (outs++news))=Gf
 have after:=vG (G:=G) (G':=G') (Gf:=Gf) (nb:=nb) (m:=objs.length) (ml:=ml) (objs:=objs) (outs:=outs) (news:=news) hc hap hnm hend hnew hG'.symm hGf.symm rfl
 have far:=fun {x:Nm} => Zdz (G:=G) (G':=G') (nb:=nb) (ml:=ml) (objs:=objs) (outs:=outs) (news:=news) hc hap hnm hend hnew hG'.symm (x:=x)
 let aff:Nm→Prop:=fun x=>(nb≤x.root∧x.root<nb+8)∨∃ (k i:Nat) (p:Nm) (o:NObj),ml[k]?=some (some (p,i))∧objs[k]?=some o∧o.own=true∧pre p x
 have unaff:∀ {x:Nm},¬ aff x→HF G' x=HF G x:=fun {x} hx=>far (fun h=>hx (.inl h)) fun k i p o h1 h2 h3 h4=>hx (.inr ⟨k,i,p,o,h1,h2,h3,h4⟩)
 have cameO:∀ {k i:Nat} {p:Nm} {o:NObj},ml[k]?=some (some (p,i))→objs[k]?=some o→o.own=true→Zj G p≠.free∧i=0:=fun {k i p o} h1 h2 h3=>by
  have hs:=hc.2 k _ o h1 h2;simp only at hs;cases hs with
  | own h _=>exact ⟨yG h,rfl⟩
  | row h _ _=>cases h3
  | one h _=>cases h3
 have hroot:∀ x:Nm,Zj (hk (ZS 0 objs)) x≠.free→x.mx<objs.length:=fun x hx=>by
  obtain ⟨h1,h2,_⟩:=zL hc x hx;omega
 let El:Env→Prop:=fun ρl=>∀ x,(Zj (hk (ZS 0 objs)) x≠.free∨∃ k,k<objs.length∧x=.top k)→ρl x=Zcr ρ0 ml G x
 have hcalls:=yr (P:=P) (w0:=w) (S:=Zaq ρ0 G ml objs) (avs:=largs) (vs:=vs) (hl:=ZS 0 objs) (nb:=objs.length) (Es:=El) (w:=w) hf hb hrc hres ⟨Zcr ρ0 ml G,fun _ _=>rfl⟩ (fun ρ ρ' hρ he x hx=>by
   rw[he x (by
    rcases hx with hx|⟨k,hk,rfl⟩
    ·have:=hroot x hx;omega
    ·simp only[Nm.mx];omega)]
   exact hρ x hx) (fun x hx=>by
   by_cases e:Zj (hk (ZS 0 objs)) x=.free
   ·exact Zt.2 e
   ·have:=hroot x e;omega) (fun ρ ρ' h1 h2 x hx=>by
   have hx':Zj (hk (ZS 0 objs)) x≠.free:=fun e=>hx (Zt.2 e);rw[h1 x (.inl hx'),h2 x (.inl hx')]) (fun ρ hρ=>ZcY (hp ρ0 h0) hc hap hρ) (fun ρ hρ=>hargs.rep (ρ:=ρ0) (fun k hk=>by rw[hρ _ (.inr ⟨k,by omega,rfl⟩)];rfl) (hrep ρ0 h0)) harg (hw w (Zaq ρ0 G ml objs) rfl)
 have came_c:∀ {ρf:Env} {H:Nm→AObj} {w':World},HCore w (Zaq ρ0 G ml objs) ρf H w'→∀ {k i:Nat} {p:Nm} {o:NObj},ml[k]?=some (some (p,i))→objs[k]?=some o→o.own=true→ρf (.top k)=ρ0 p:=fun {ρf H w'} hcf {k i p o} h1 h2 h3=>by
  have:=hcf.an k (by show k<objs.length;exact (List.getElem?_eq_some_iff.1 h2).1);rw[this];show xK ρ0 ml k=_;rw[xK,h1,(cameO h1 h2 h3).2];exact Xu _
 refine ⟨hcalls.mono fun e w' ⟨v,av,s',he,hK,a',ha',hsat⟩ => ?_,fun x hx hg=>?_⟩
 ·have hfin:=hK _ _ _ _ _ _ rfl hsat
  obtain ⟨Ef,hs⟩:=hfin.sat;obtain ⟨ρf,hρf⟩:=hs.ne;have hcf:=hs.hp ρf hρf;have hGf':HF (hk (ZS 0 (outs++news)))=HF Gf:=by rw[hGf]
  rw[show (⟨[(0,lres)],ZS 0 (outs++news),objs.length+news.length⟩:St).hl=ZS 0 (outs++news) from rfl,hGf']at hcf;have hres':∃ u,a'.tmps[0]?=some u∧Rep ρf lres u∨lres=.bot:=by
   by_cases hb:lres=.bot
   ·exact ⟨.nilIface,.inr hb⟩
   ·obtain ⟨u,h1,h2⟩:=hs.tm ρf hρf 0 (by simpa [lk] using hb)
    exact ⟨u,.inl ⟨h1,by simpa [lk] using h2⟩⟩
  have hvrep:Rep ρf lres v:=by
   obtain ⟨u,h⟩:=hres';rcases h with ⟨h1,h2⟩ | h
   ·rw[ha']at h1
    simp at h1;subst h1;exact h2
   ·rw[h];simp[Rep]
  classical
  refine ⟨v,fun x=>if h:∃ z,Back G' Gf nb objs.length ml objs x z then ρf h.choose else ρ0 x,he,fun ρ hρ hg=>?_⟩;have hgz:∀ {x z:Nm},nb≤x.mx∧x.mx<nb+8→Back G' Gf nb objs.length ml objs x z→ρ x=ρf z:=fun {x z} hx hz=>by
   rw[hg x hx];have hex:∃ z,Back G' Gf nb objs.length ml objs x z:=⟨z,hz⟩;simp only[dif_pos hex];rw[Zbq hap hnm hex.choose_spec hz]
  have hcame:∀ {k i:Nat} {p:Nm} {o:NObj},ml[k]?=some (some (p,i))→objs[k]?=some o→o.own=true→ρ p=ρf (.top k):=fun {k i p o} h1 h2 h3=>by
   rw[came_c hcf h1 h2 h3];exact hpin ρ ρ0 hρ h0 p fun e=>(cameO h1 h2 h3).1 (Zt.1 e)
  have hbk:∀ {x z:Nm},Zj G' x≠.free→aff x→Back G' Gf nb objs.length ml objs x z→ρ x=ρf z:=fun {x z} hx ha hz=>by
   obtain ⟨z',b1,b2,b3,b4,b5⟩:=after x hx ha;have:=Zbq hap hnm b1 hz;subst this;rcases b4 with ⟨c1,c2,_⟩ | ⟨k,i,o,g1,g2,g3,g4⟩
   ·exact hgz ⟨c2,c1⟩ b1
   ·rw[g4];exact hcame g1 g2 g3
  have affsub:∀ {x:Nm} {t j f:Nat},aff x→aff (.sub x t j f):=fun {x t j f} h=>by
   rcases h with h|⟨k,i,p,o,h1,h2,h3,h4⟩
   ·exact .inl h
   ·exact .inr ⟨k,i,p,o,h1,h2,h3,.inr h4⟩
  have cρ:=hp ρ hρ;have wrote:∀ {x:Nm},Zj G' x≠.free→aff x→∃ z,Back G' Gf nb objs.length ml objs x z∧ρ x=ρf z∧OLe ρf ρ (HF Gf z) (HF G' x)∧(Zj Gf z).own=true:=fun {x} hx ha=>by
   obtain ⟨z,b1,⟨t,b2⟩,b3,b4,b5⟩:=after x hx ha;refine ⟨z,b1,hbk hx ha b1,?_,b5⟩;have e1:HF G' x=flO x ((Zj Gf z).retag t):=(by unfold HF;rw[b2]);have e2:HF Gf z=flO z (Zj Gf z):=rfl;rw[e1,e2];have hzne:=yG b5;have htag:(Zj G' x).tag=t:=(by rw[b2,XG t hzne]);refine ZkA t b3 fun j f hk=>?_;have hkn:Zj G' (.sub x t j f)≠.free:=(by rw[Zj,b2,VI t hzne];exact hk);have:=Back.sub j f b1;rw[htag]at this;exact hbk hkn (affsub ha) this
  have ownB:∀ {b:Nat},(Zaq ρ0 G ml objs).own b→∃ y,aff y∧ZF (ρ0 y) (HF G y)∧b=(ρ0 y).blk:=fun {b} ⟨z,z1,z2,z3⟩ => by
   rcases (zL hc z z1).2.2 with ⟨y,g1,g2,g3⟩ | ⟨k,sz,rfl,g1,g2⟩
   ·have hl:=zs (ρ0:=ρ0) g1
    have hown:(Zj (hk (ZS 0 objs)) z).own=true:=by
     have e:HF (hk (ZS 0 objs)) z=flO z (Zj (hk (ZS 0 objs)) z):=rfl;rw[e]at z2;cases hgz:Zj (hk (ZS 0 objs)) z<;>rw[hgz]at z2<;>first|rfl|exact z2.elim
    obtain ⟨p,i,a1,a2,a3⟩:=Uh hc g1;have hro:=VW hc hown;obtain ⟨_,o,c1,c2,c3,c4⟩:=yj hc (yG hro);rw[c3]at hro;refine ⟨y,.inr ⟨_,i,p,o,a1,c2,hro,a2⟩,?_,by rw[z3,hl];rfl⟩;have:=ZcO (ρ:=ρ0) (ρl:=Zcr ρ0 ml G) (x:=z) (y:=y) (w:=w) g2 ((hp ρ0 h0).obj y) hl (fun j f hk=>by
     rw[zs (by rw[U0,g1];rfl)];simp only[ZeH,Xu])
    exact this.2.1 z2
   ·have e:Zcr ρ0 ml G (.top k)=V0:=by simp[Zcr,xK,g1]
    have e2:HF (hk (ZS 0 objs)) (.top k)=flO (.top k) (Zj (hk (ZS 0 objs)) (.top k)):=rfl;rw[e,e2]at z2;rcases g2 with g2|g2<;>rw[g2]at z2<;>cases z2
  have pinO:∀ {y:Nm},ZF (ρ0 y) (HF G y)→ρ y=ρ0 y∧HF G y≠.free:=fun {y} hy=>by
   have hne:HF G y≠.free:=fun e=>by rw[e]at hy;exact hy
   exact ⟨hpin ρ ρ0 hρ h0 y hne,hne⟩
  have ownB':∀ {b:Nat},(Zaq ρ0 G ml objs).own b→∃ y,aff y∧ZF (ρ y) (HF G y)∧b=(ρ y).blk:=fun {b} hb=>by
   obtain ⟨y,h1,h2,h3⟩:=ownB hb;have:=(pinO h2).1;exact ⟨y,h1,by rw[this];exact h2,by rw[this];exact h3⟩
  have still:∀ {x:Nm},¬ aff x→(ZF (ρ x) (HF G x)∨Yl (ρ x) (HF G x))→¬ (Zaq ρ0 G ml objs).own (ρ x).blk∧(ρ x).blk<w.heap.size:=fun {x} hx ho=>by
   refine ⟨fun hb=>?_,?_⟩
   ·obtain ⟨y,h1,h2,h3⟩:=ownB' hb
    rcases ho with ho|ho
    ·have:=cρ.dist x y ho h2 h3
     subst this;exact hx h1
    ·have a1:=cρ.vw x ho
     have a2:=(cρ.own y h2).2;rw[h3]at a1;rcases a2 with a2|a2
     ·omega
     ·exact a1.2 a2
   ·rcases ho with ho|ho
    ·exact (cρ.own x ho).1
    ·have:=(cρ.vw x ho).1;have:=cρ.size;omega
  have blkW:∀ {z:Nm},ZF (ρf z) (HF Gf z)→(ρf z).blk<w'.heap.size∧(w0.heap.size≤(ρf z).blk∨S.own (ρf z).blk):=fun {z} hz=>by
   obtain ⟨h1,h2⟩:=hcf.own z hz;refine ⟨h1,?_⟩;rcases h2 with h2|h2
   ·have:=cρ.size;exact .inl (by omega)
   ·obtain ⟨y,_,h3,h4⟩:=ownB' h2
    rw[h4];exact (cρ.own y h3).2
  have nf:∀ {x:Nm} {L:Loc},ZF L (HF G' x)→Zj G' x≠.free:=fun ho e=>by rw[Zt.2 e]at ho;exact ho
  have nfv:∀ {x:Nm} {L:Loc},Yl L (HF G' x)→Zj G' x≠.free:=fun ho e=>by rw[Zt.2 e]at ho;exact ho
  refine ⟨zR (p:=Zjk objs news.length) (f:=bkN nb objs.length ml) (ρ:=ρf) (fun x hx=>?_) hnms hvrep,?_⟩
  ·cases x with
   | sub p t j f=>cases hx
   | top n =>
    simp only[Zjk]at hx;simp only[bkN];split at hx
    ·rename_i hle
     have hlt:=of_decide_eq_true hx;rw[if_pos hle];have hb:=Back.new (G':=G') (Gf:=Gf) (nb:=nb) (m:=objs.length) (ml:=ml) (objs:=objs) (n - objs.length);rw[show objs.length+(n - objs.length)=n by omega]at hb;have:=hend.few;exact hgz (by simp only[Nm.mx];omega) hb
    ·rename_i hle
     rw[if_neg hle];have hnl:n<objs.length:=(by omega);obtain ⟨t,cc,ho⟩:∃ t cc,objs[n]?=some (.cells t cc):=by
      cases ho:objs[n]? with
      | none=>rw[ho]at hx;cases hx
      | some o=>cases o<;>rw[ho]at hx<;>first | exact ⟨_,_,rfl⟩ | cases hx
     have hm:ml[n]?=some ml[n]:=List.getElem?_eq_getElem (by omega);cases hmn:ml[n] with
     | none =>
      exfalso;have:=hc.2 n _ _ hm ho;rw[hmn]at this;obtain ⟨sz,h|h⟩:=this<;>cases h
     | some q =>
      obtain ⟨p,i⟩:=q;rw[hmn]at hm;rw[hm];exact hcame hm ho rfl
  ·refine ⟨hcf.os.trans cρ.os,hcf.tape.trans cρ.tape,hcf.output.trans cρ.output,Nat.le_trans cρ.size hcf.size,fun b h1 h2=>?_,fun x=>?_,fun x hx=>?_,fun x x' hx hx' e=>?_,fun x hx=>?_,cρ.an⟩
   ·rw[hcf.frame b (by have:=cρ.size;omega) fun hb=>?_]
    ·exact cρ.frame b h1 h2
    ·obtain ⟨y,_,h3,h4⟩:=ownB' hb
     have:=(cρ.own y h3).2;rw[← h4]at this;rcases this with h|h
     ·omega
     ·exact h2 h
   ·by_cases hfx:Zj G' x=.free
    ·rw[Zt.2 hfx];trivial
    ·by_cases ha:aff x
     ·obtain ⟨z,b1,b2,b3,b4⟩:=wrote hfx ha
      rw[b2];exact b3.ok (hcf.obj z)
     ·rw[unaff ha]
      by_cases ho:ZF (ρ x) (HF G x)
      ·have:=still ha (.inl ho)
       exact (cρ.obj x).same (hcf.frame _ this.2 this.1)
      ·by_cases hv:Yl (ρ x) (HF G x)
       ·have:=still ha (.inr hv)
        exact (cρ.obj x).same (hcf.frame _ this.2 this.1)
       ·exact (cρ.obj x).nil_same ho hv
   ·by_cases ha:aff x
    ·obtain ⟨z,b1,b2,b3,b4⟩:=wrote (nf hx) ha
     rw[b2]at hx⊢;exact blkW (b3.own hx)
    ·rw[unaff ha]at hx
     have:=cρ.own x hx;have:=hcf.size;exact ⟨by omega,(cρ.own x hx).2⟩
   ·have mixed:∀ {x x':Nm},ZF (ρ x) (HF G' x)→ZF (ρ x') (HF G' x')→aff x→¬ aff x'→(ρ x).blk=(ρ x').blk→False:=fun {x x'} hx hx' ha ha' e=>by
     obtain ⟨z,b1,b2,b3,b4⟩:=wrote (nf hx) ha;rw[unaff ha']at hx';have h1:=still ha' (.inl hx');rw[b2]at hx e;have h2:=(hcf.own z (b3.own hx)).2;rw[e]at h2;rcases h2 with h2|h2
     ·omega
     ·exact h1.1 h2
    by_cases ha:aff x
    ·by_cases ha':aff x'
     ·obtain ⟨z,b1,b2,b3,b4⟩:=wrote (nf hx) ha
      obtain ⟨z',b1',b2',b3',b4'⟩:=wrote (nf hx') ha';rw[b2]at hx e;rw[b2']at hx' e;have:=hcf.dist z z' (b3.own hx) (b3'.own hx') e;subst this;exact Zf3 hlen b1 b1'
     ·exact (mixed hx hx' ha ha' e).elim
    ·by_cases ha':aff x'
     ·exact (mixed hx' hx ha' ha e.symm).elim
     ·rw[unaff ha]at hx
      rw[unaff ha']at hx';exact cρ.dist x x' hx hx' e
   ·by_cases ha:aff x
    ·exfalso
     obtain ⟨z,b1,b2,b3,b4⟩:=wrote (nfv hx) ha;have h1:=b3.viewed hx;have e:HF Gf z=flO z (Zj Gf z):=rfl;rw[e]at h1;cases hgz:Zj Gf z<;>rw[hgz]at h1 b4<;>simp_all [NObj.own,flO,Yl]
    ·rw[unaff ha]at hx
     exact cρ.vw x hx
 ·by_cases ha:aff x
  ·obtain ⟨z,b1,b2,b3,b4,b5⟩:=after x hg ha
   rcases b4 with ⟨c1,c2,_⟩ | ⟨k,i,o,g1,g2,g3,g4⟩
   ·exact absurd ⟨c2,c1⟩ hx
   ·exact (cameO g1 g2 g3).1
  ·intro e
   exact hg (Zt.1 (by rw[unaff ha];exact Zt.2 e))
end
end Go.W
