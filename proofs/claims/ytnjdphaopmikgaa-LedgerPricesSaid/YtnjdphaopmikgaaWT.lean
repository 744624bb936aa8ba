/- An object that a cell names comes to be owned by that cell. Loops; a function's beginning and end. -/
import Derived.Test.YtnjdphaopmikgaaWQ
namespace Go.W
set_option linter.unusedSimpArgs false
set_option linter.unusedVariables false
def NObj.retag (t:Nat):NObj→NObj
 | .free=>.free
 | .cells _ c=>.cells t c
 | .arr _ sz els=>.arr t sz els
 | .view _ sz els=>.view t sz els
def Zx:NObj→AV
 | .arr _ sz els=>.os 0 sz els
 | .cells _ c=>.op 0 c
 | _=>.bot
theorem OLe.refl (ρ:Env) (o:AObj):OLe ρ ρ o o:=by
 cases o with
 | free=>exact .free _
 | cells c=>exact .cells (CLe.refl _ _)
 | arr sz n f=>exact .arr fun _ _=>CLe.refl _ _
 | view sz n f=>exact .view fun _ _=>CLe.refl _ _
theorem xz (t:Nat) (o:NObj) (j:Nat):Zc (o.retag t) j=Zc o j:=by cases o<;>rfl
theorem Zbt (t:Nat) (o:NObj):(o.retag t).ro=o.ro:=by cases o<;>rfl
theorem Yt (t:Nat) {o:NObj} (h:o≠.free):(o.retag t).tag=t:=by cases o<;>first|rfl|exact absurd rfl h
theorem Y2 (t:Nat) {o:NObj} (h:o≠.free) (j f:Nat):kid (o.retag t) t j f=kid o o.tag j f :=
 yR (Yt t h) rfl (Zbt t o) (xz t o j) f
theorem VV {o:NObj} (h:o.own=true):o≠.free:=by intro e;rw[e]at h;cases h
theorem TG {ρ:Env} {x y:Nm} {o:NObj} (t':Nat) (hk:∀ (a b:Nat) (c:List AV) (v:AV),Zc o a=some c→c[b]?=some v→v.plain=false→ρ (.sub x t' a b)=ρ (.sub y o.tag a b)):OLe ρ ρ (flO y o) (flO x (o.retag t')):=by
 cases o with
 | free=>exact .free _
 | cells t c=>exact .cells (XJ (fun v _ _ u hu=>hu) fun f v hv hp=>hk 0 f c v (by simp[Zc]) hv hp)
 | arr t z l =>
  refine .arr fun i hi=>XJ (fun v _ _ u hu=>hu) fun f v hv hpv=>?_;rw[List.getD_eq_getElem?_getD,List.getElem?_eq_getElem hi,Option.getD_some]at hv;exact hk i f _ v (by simp[Zc,hi]) hv hpv
 | view t z l =>
  refine .view fun i hi=>XJ (fun v _ _ u hu=>hu) fun f v hv hpv=>?_;rw[List.getD_eq_getElem?_getD,List.getElem?_eq_getElem hi,Option.getD_some]at hv;exact hk i f _ v (by simp[Zc,hi]) hv hpv
section
variable {w0:World} {S:Sc} {Es:Env→Prop} {U U':Nm→Prop} {T:Nat→AV} {G G':NH} {a:Act} {w:World}
theorem Sat.graft (h:Sat w0 S Es U T (HF G) a w) (φ:Nm→Option Nm) (hdom:∀ x y,φ x=some y→U x∧¬ U' x∧¬ U' y∧φ y=none) (hU:∀ x,U' x→U x)
  (hob:∀ x,HF G' x≠.free→HF G ((φ x).getD x)≠.free∧∀ ρ,Es ρ→(∀ x y,φ x=some y→ρ x=ρ y)→OLe ρ ρ (HF G ((φ x).getD x)) (HF G' x)) (hfree:∀ x,U' x→HF G' x=.free)
  (hinj:∀ x x',HF G' x≠.free→HF G' x'≠.free→(φ x).getD x=(φ x').getD x'→x=x'):Sat w0 S (fun ρ=>Es ρ∧∀ x y,φ x=some y→ρ x=ρ y) U' T (HF G') a w where
 ne:=by
  obtain ⟨ρ0,h0⟩:=h.ne;refine ⟨fun x=>ρ0 ((φ x).getD x),h.cl ρ0 _ h0 fun x hx=>?_,fun x y hxy=>?_⟩
  ·cases e:φ x with
   | none=>rfl
   | some y=>exact absurd (hdom x y e).1 hx
  ·simp only[hxy,(hdom x y hxy).2.2.2,Option.getD_some,Option.getD_none]
 cl:=fun ρ ρ' ⟨h1,h2⟩ he=>⟨h.cl ρ ρ' h1 fun x hx=>he x fun hu=>hx (hU x hu),fun x y hxy=>by
  obtain ⟨_,d2,d3,_⟩:=hdom x y hxy;rw[he x d2,he y d3];exact h2 x y hxy⟩
 fr:=hfree
 pin:=fun ρ ρ' ⟨h1,h2⟩ ⟨h3,h4⟩ x hx=>by
  have hn:=(hob x hx).1;have:=h.pin ρ ρ' h1 h3 _ hn;cases e:φ x with
  | none=>simpa [e] using this
  | some y=>rw[h2 x y e,h4 x y e];simpa [e] using this
 tm:=fun ρ ⟨h1,_⟩ t ht=>h.tm ρ h1 t ht
 hp:=fun ρ ⟨h1,h2⟩ => by
  refine (h.hp ρ h1).ole (fun x=>(φ x).getD x) (fun x=>?_) (fun x hx=>?_) (fun x y hx hy e=>hinj x y hx hy e) (h.hp ρ h1).an
  ·by_cases e:HF G' x=.free
   ·rw[e];exact .free _
   ·exact (hob x e).2 ρ h1 h2
  ·cases e:φ x with
   | none=>rfl
   | some y=>exact h2 x y e
end
def V5 (p:Nm) (tp nb j f k tk:Nat):Nm→Option Nm
 | .top _=>none
 | .sub y t a b=>if y=p∧t=nb then (if a=j∧b=f then some (.top k) else some (.sub p tp a b))
  else match V5 p tp nb j f k tk y with
   | some z=>some (.sub z (if y=.sub p nb j f then tk else t) a b)
   | none=>none
theorem Xa {p:Nm} {tp nb j f k tk:Nat}:∀ {x z:Nm},V5 p tp nb j f k tk x=some z→(pre p x∧x≠p∧nb≤x.mx)∧(pre (.top k) z∨(∃ a b,pre (.sub p tp a b) z))
 | .top n,z,h=>by cases h
 | .sub y t a b,z,h=>by
  simp only[V5]at h;have nself:∀ {y:Nm},Nm.sub y t a b≠y:=fun {y} e=>by have:=congrArg depth e;simp[depth]at this
  split at h
  ·rename_i hc
   obtain ⟨rfl,rfl⟩:=hc;refine ⟨⟨.inr (Yc _),nself,by simp only[Nm.mx];omega⟩,?_⟩;split at h
   ·injection h with h;subst h;exact .inl (Yc _)
   ·injection h with h;subst h;exact .inr ⟨a,b,Yc _⟩
  ·split at h
   ·rename_i z' hz
    injection h with h;subst h;obtain ⟨⟨h1,h2,h3⟩,h4⟩:=Xa hz;refine ⟨⟨.inr h1,fun e=>?_,by simp only[Nm.mx];omega⟩,?_⟩
    ·have:=Y3 h1
     rw[← e]at this;simp only[depth]at this;omega
    ·rcases h4 with h4|⟨a',b',h4⟩
     ·exact .inl (.inr h4)
     ·exact .inr ⟨a',b',.inr h4⟩
   ·cases h
def Z5 (G:NH) (nb:Nat) (p:Nm) (j f k:Nat):List (Nat×NObj):=[(k,.free),wr G p ((Zu (Za G p) j f (Zx (G k))).retag nb)]
section
variable {G:NH} {nb k j f:Nat} {p:Nm} {c:List AV} {v:AV}
def Xt (v:AV) (k:Nat) (o:NObj):Prop:=(∃ t sz els,v=.sl (.top k) 0 els.length∧o=.arr t sz els)∨(∃ t cs,v=.ptr (.top k) 0 0∧o=.cells t cs)
theorem Xt.kid {o:NObj} (h:Xt v k o):kidV false (Zx o)=o.retag 0:=by
 rcases h with ⟨t,sz,els,_,rfl⟩ | ⟨t,cs,_,rfl⟩<;>rfl
theorem Xt.ne {o:NObj} (h:Xt v k o):o≠.free:=by
 rcases h with ⟨t,sz,els,_,rfl⟩ | ⟨t,cs,_,rfl⟩<;>simp
theorem Zab (hown:(Za G p).own=true) (hc:Zc (Za G p) j=some c) (hv:c[f]?=some v) (hk:Xt v k (G k)) (hr:p.root≠k) (G':NH) (hG':G'=ZG G (Z5 G nb p j f k)) :
  Za G' p=(Zu (Za G p) j f (Zx (G k))).retag nb∧(∀ x:Nm,x.root=k→Za G' x=.free)∧(∀ x,¬ pre p x→x.root≠k→HF G' x=HF G x) ∧
  ∀ x,pre p x→x≠p→Za G' x≠.free→∃ z,V5 p (Za G p).tag nb j f k (G k).tag x=some z∧Za G z≠.free∧x.mx≤max (max nb p.mx) z.mx∧(x=.sub p nb j f→z=.top k∧Za G' x=(G k).retag 0)∧(x≠.sub p nb j f→Za G' x=Za G z):=by
 have hlike:Vi (Za (upd G k .free) p) ((Zu (Za G p) j f (Zx (G k))).retag nb):=by
  rw[Z8 hr];cases ho:Za G p<;>rw[ho]at hown<;>simp_all [NObj.own,Zu,NObj.retag,Vi]
 have hwr:wr (upd G k .free) p ((Zu (Za G p) j f (Zx (G k))).retag nb)=wr G p ((Zu (Za G p) j f (Zx (G k))).retag nb):=VO (by rw[Ze _ _ hr])
 obtain ⟨a1,a2,a3⟩:=UJ (upd G k .free) p _ hlike
 rw[hwr]at a1 a2 a3
 have e0:upd (upd G k .free) (wr G p ((Zu (Za G p) j f (Zx (G k))).retag nb)).1 (wr G p ((Zu (Za G p) j f (Zx (G k))).retag nb)).2=G':=by rw[hG'];rfl
 rw[e0]at a1 a2 a3
 have hkfree:G' k=.free:=by
  rw[← e0,Ze _ _ (by rw[VM];exact fun e=>hr e.symm),Zj]
 refine ⟨a1,fun x hx=>YC hkfree hx,fun x h1 h2=>?_,fun x=>?_⟩
 ·rw[a2 x h1];unfold HF;rw[Z8 h2]
 ·induction x with
  | top n=>intro hx hne;simp only[pre]at hx;exact absurd hx.symm hne
  | sub y t a b ih =>
   intro hx hne hg;have hy:pre p y:=by
    rcases hx with hx|hx
    ·exact absurd hx.symm hne
    ·exact hx
   have hpk:(Zu (Za G p) j f (Zx (G k)))≠.free:=by
    intro e;have:=Vg (v:=Zx (G k)) (j:=j) (f:=f) hown;rw[e]at this;cases ho:Za G p<;>rw[ho]at e<;>simp_all [Zu,NObj.own]
   by_cases e:y=p
   ·subst e
    have hg0:=hg;rw[Za,a1]at hg;have ht:t=nb:=by
     by_cases et:t=nb
     ·exact et
     ·exact absurd (Z1 (by rw[Yt nb hpk];exact fun e=>et e.symm)) hg
    subst ht;have key:Za G' (.sub y t a b)=if a=j∧b=f then (G k).retag 0 else kid (Za G y) (Za G y).tag a b:=by
     rw[Za,a1,Y2 t hpk,Y0,Y8 hown hc hv,hk.kid]
    by_cases hab:a=j∧b=f
    ·obtain ⟨rfl,rfl⟩:=hab
     rw[if_pos ⟨rfl,rfl⟩]at key;refine ⟨.top k,by simp[V5],hk.ne,?_,fun _=>⟨rfl,key⟩,fun h=>absurd rfl h⟩;simp only[Nm.mx];omega
    ·rw[if_neg hab]at key
     refine ⟨.sub y (Za G y).tag a b,by simp[V5,hab],?_,by simp only[Nm.mx];omega,fun h=>?_,fun _=>key⟩
     ·rw[Za,← key];exact hg0
     ·injection h with _ _ h3 h4;exact absurd ⟨h3,h4⟩ hab
   ·have hgy:Za G' y≠.free:=fun e=>hg (by rw[Za,e];simp[kid,Zc])
    obtain ⟨z,i1,i2,i3,i4,i5⟩:=ih hy e hgy;by_cases eq:y=.sub p nb j f
    ·obtain ⟨hz,q4⟩:=i4 eq
     subst hz;have hg1:=hg;rw[Za,q4]at hg1;have ht:t=0:=by
      by_cases et:t=0
      ·exact et
      ·exact absurd (Z1 (by rw[Yt 0 hk.ne];exact fun e=>et e.symm)) hg1
     subst ht;have key:Za G' (.sub y 0 a b)=Za G (.sub (.top k) (G k).tag a b):=by
      rw[Za,q4,Y2 0 hk.ne];rfl
     refine ⟨.sub (.top k) (G k).tag a b,by simp only[V5,i1];rw[if_neg (fun h=>e h.1),if_pos eq],by rw[← key];exact hg,by simp only[Nm.mx]at i3⊢;omega,fun h=>?_,fun _=>key⟩;have:=congrArg depth h;rw[eq]at this;simp[depth]at this
    ·have i5:=i5 eq
     have key:Za G' (.sub y t a b)=Za G (.sub z t a b):=(by rw[Za,i5];rfl);refine ⟨.sub z t a b,by simp only[V5,i1];rw[if_neg (fun h=>e h.1),if_neg eq],by rw[← key];exact hg,by simp only[Nm.mx]at i3⊢;omega,fun h=>?_,fun _=>key⟩;injection h with h1;exact absurd h1 e
theorem ym {G':NH} (hr:p.root≠k) (h0:∀ t a b,Za G' (.sub (.sub p nb j f) t a b)≠.free→t=0) {tp tk:Nat}:∀ {x x' z:Nm},V5 p tp nb j f k tk x=some z→V5 p tp nb j f k tk x'=some z→Za G' x≠.free→Za G' x'≠.free→x=x'
 | .top n,_,_,h,_,_,_=>by cases h
 | .sub y t a b,.top n,_,_,h,_,_=>by cases h
 | .sub y t a b,.sub y' t' a' b',z,h,h',g,g' => by
  have gy:Za G' y≠.free:=fun e=>g (by rw[Za,e];simp[kid,Zc]);have gy':Za G' y'≠.free:=fun e=>g' (by rw[Za,e];simp[kid,Zc]);have notp:∀ {y z:Nm},V5 p tp nb j f k tk y=some z→z≠p:=fun {y z} h e=>by
   subst e;rcases (Xa h).2 with h|⟨a,b,h⟩
   ·exact hr (XZ.1 h)
   ·have:=Y3 h;simp only[depth]at this;omega
  have mixed:∀ {y t a b y' t' a' b' z},y=p∧t=nb→¬ (y'=p∧t'=nb)→V5 p tp nb j f k tk (.sub y t a b)=some z→V5 p tp nb j f k tk (.sub y' t' a' b')=some z→False:=fun {y t a b y' t' a' b' z} hc hc' h h' => by
   simp only[V5,if_pos hc]at h;simp only[V5,if_neg hc']at h';split at h'
   ·rename_i z' hz'
    injection h' with h';split at h
    ·injection h with h;rw[← h']at h;cases h
    ·injection h with h
     rw[← h']at h;injection h with h1;exact notp hz' h1.symm
   ·cases h'
  by_cases hc:y=p∧t=nb
  ·by_cases hc':y'=p∧t'=nb
   ·simp only[V5,if_pos hc]at h
    simp only[V5,if_pos hc']at h';obtain ⟨rfl,rfl⟩:=hc;obtain ⟨rfl,rfl⟩:=hc';split at h
    ·rename_i q
     split at h'
     ·rename_i q';rw[q.1,q.2,q'.1,q'.2]
     ·injection h with h;injection h' with h';rw[← h]at h';cases h'
    ·split at h'
     ·injection h with h;injection h' with h';rw[← h']at h;cases h
     ·injection h with h;injection h' with h';rw[← h']at h;injection h with _ _ h3 h4;rw[h3,h4]
   ·exact (mixed hc hc' h h').elim
  ·by_cases hc':y'=p∧t'=nb
   ·exact (mixed hc' hc h' h).elim
   ·simp only[V5,if_neg hc]at h
    simp only[V5,if_neg hc']at h';split at h
    ·rename_i z1 e1
     split at h'
     ·rename_i z2 e2
      injection h with h;injection h' with h';rw[← h']at h;injection h with h1 h2 h3 h4;subst h1;have:=ym hr h0 e1 e2 gy gy';subst this;by_cases eq:y=.sub p nb j f
      ·subst eq
       rw[h0 _ _ _ g,h0 _ _ _ g',h3,h4]
      ·rw[if_neg eq,if_neg eq]at h2
       rw[h2,h3,h4]
     ·cases h'
    ·cases h
end
section
variable {w0:World} {S:Sc} {N:Nat} {D:List Deferred} {s:St}
set_option maxHeartbeats 1000000 in
theorem SatS.absorb {a:Act} {w:World} (h:SatS w0 S N D s a w) (p:Nm) (j f k:Nat) {c:List AV} {v:AV} (hown:(Za (hk s.hl) p).own=true) (hc:Zc (Za (hk s.hl) p) j=some c) (hv:c[f]?=some v) (hn:Xt v k (hk s.hl k)) (hr:p.root≠k) :
  SatS w0 S N D ⟨s.tl,U4 s.hl (Z5 (hk s.hl) s.nb p j f k),s.nb+1⟩ a w:=by
 obtain ⟨Es,hs⟩:=h.sat
 generalize hG:hk s.hl=G at hs hown hc hv hn⊢
 generalize hG':hk (U4 s.hl (Z5 G s.nb p j f k))=G'
 have hG2:G'=ZG G (Z5 G s.nb p j f k):=by rw[← hG',UV,hG]
 obtain ⟨b1,b2,b3,b4⟩:=Zab (nb:=s.nb) hown hc hv hn hr G' hG2
 have valid:∀ {x:Nm},Za G x≠.free→x.mx<s.nb:=fun {x} hx=>by
  rcases Nat.lt_or_ge x.mx s.nb with h|h
  ·exact h
  ·exact absurd (Zi.1 (hs.fr x h)) hx
 have hpm:p.mx<s.nb:=valid (VV hown)
 have hpk:(Zu (Za G p) j f (Zx (G k)))≠.free:=by
  intro e;cases ho:Za G p<;>rw[ho]at e hown<;>simp_all [Zu,NObj.own]
 have tagp:∀ t a b,kid (Za G' p) t a b≠.free→t=s.nb:=fun t a b hk=>by
  rw[b1]at hk;by_cases et:t=s.nb
  ·exact et
  ·exact absurd (Z1 (by rw[Yt _ hpk];exact fun e=>et e.symm)) hk
 let φ:Nm→Option Nm:=fun x=>if (Za G' x).isFree=true then none else V5 p (Za G p).tag s.nb j f k (G k).tag x
 have φv:∀ {x:Nm},Za G' x≠.free→φ x=V5 p (Za G p).tag s.nb j f k (G k).tag x:=fun {x} hx=>if_neg (fun e=>hx (ZU.1 e))
 have φs:∀ {x y:Nm},φ x=some y→Za G' x≠.free∧V5 p (Za G p).tag s.nb j f k (G k).tag x=some y:=fun {x y} hxy=>by
  by_cases e:(Za G' x).isFree=true
  ·have:φ x=none:=if_pos e
   rw[this]at hxy;cases hxy
  ·have hx:Za G' x≠.free:=fun e' => e (ZU.2 e')
   exact ⟨hx,by rw[← φv hx];exact hxy⟩
 have old:∀ {y:Nm},Za G y≠.free→(pre (.top k) y∨∃ a b,pre (.sub p (Za G p).tag a b) y)→Za G' y=.free:=fun {y} hy hh=>by
  rcases hh with hh|⟨a,b,hh⟩
  ·exact b2 y (XZ.1 hh)
  ·have hq:Za G (.sub p (Za G p).tag a b)≠.free:=fun e=>hy (Y4 e hh)
   have htp:(Za G p).tag<s.nb:=(by have:=valid hq;simp only[Nm.mx]at this;omega);refine Y4 ?_ hh;rw[Za];by_cases e:kid (Za G' p) (Za G p).tag a b=.free
   ·exact e
   ·have:=tagp _ _ _ e;omega
 have h00:∀ t a b,Za G' (.sub (.sub p s.nb j f) t a b)≠.free→t=0:=fun t a b hg=>by
  have hq:Za G' (.sub p s.nb j f)≠.free:=fun e=>hg (by rw[Za,e];simp[kid,Zc]);obtain ⟨z,_,_,_,i4,_⟩:=b4 (.sub p s.nb j f) (Or.inr (Yc _)) (fun e=>by have:=congrArg depth e;simp[depth]at this) hq;obtain ⟨_,i4⟩:=i4 rfl;rw[Za,i4]at hg;by_cases et:t=0
  ·exact et
  ·exact absurd (Z1 (by rw[Yt 0 hn.ne];exact fun e=>et e.symm)) hg
 have below:∀ {x:Nm},φ x≠none→pre p x∧x≠p:=fun {x} hx=>by
  cases e:φ x with
  | none=>exact absurd e hx
  | some y=>have:=(Xa (φs e).2).1;exact ⟨this.1,this.2.1⟩
 suffices hfin:∃ Es',Sat w0 S Es' (fun x:Nm=>s.nb+1≤x.mx) (lk s.tl) (HF G') a w by
  rw[← hG']at hfin;exact ⟨hfin,h.size,h.defers⟩
 refine ⟨_,hs.graft (G':=G') (U':=fun x:Nm=>s.nb+1≤x.mx) φ (fun x y hxy=>?_) (fun x hx=>by show s.nb≤x.mx;omega) (fun x hx=>?_) (fun x hx=>?_) (fun x x' hx hx' e=>?_)⟩
 ·obtain ⟨hx,hg⟩:=φs hxy
  obtain ⟨⟨r1,r2,r3⟩,r4⟩:=Xa hg;obtain ⟨z,i1,i2,i3,_⟩:=b4 x r1 r2 hx;rw[hg]at i1;injection i1 with i1;subst i1;have hym:=valid i2;refine ⟨r3,by omega,by omega,if_pos (ZU.2 (old i2 r4))⟩
 ·have hx':Za G' x≠.free:=fun e=>hx (Zi.2 e)
  by_cases hpx:pre p x∧x≠p
  ·obtain ⟨z,i1,i2,i3,i4,i5⟩:=b4 x hpx.1 hpx.2 hx'
   have e:φ x=some z:=(by rw[φv hx'];exact i1);rw[e,Option.getD_some];refine ⟨fun e=>i2 (Zi.1 e),fun ρ hρ hg=>?_⟩;have kids:∀ t t' a b,Za G' (.sub x t a b)≠.free→(if x=.sub p s.nb j f then (G k).tag else t)=t'→ρ (.sub x t a b)=ρ (.sub z t' a b):=fun t t' a b hk ht' => by
    refine hg _ _ ?_;rw[φv hk];simp only[V5,i1];rw[if_neg (fun h=>hpx.2 h.1),ht']
   by_cases eq:x=.sub p s.nb j f
   ·obtain ⟨hz,q4⟩:=i4 eq
    subst hz;have e1:HF G' x=flO x ((G k).retag 0):=(by unfold HF;rw[q4]);have e2:HF G (.top k)=flO (.top k) (G k):=rfl;rw[e1,e2];refine TG 0 fun a b c v hc hv hp=>kids 0 (G k).tag a b ?_ (if_pos eq);rw[Za,q4,Y2 0 hn.ne];unfold kid;rw[if_pos rfl,hc];simp only[VU,hv];cases v<;>simp only[AV.plain,Bool.true_eq_false]at hp<;>simp only[kidV]<;>split<;>simp
   ·have i5:=i5 eq
    have e1:HF G' x=flO x ((Za G z).retag (Za G z).tag):=by
     unfold HF;rw[i5];congr 1;cases Za G z<;>rfl
    rw[e1];refine TG _ fun a b c v hc hv hp=>kids _ _ a b ?_ (if_neg eq);rw[Za,i5];unfold kid;rw[if_pos rfl,hc];simp only[VU,hv];cases v<;>simp only[AV.plain,Bool.true_eq_false]at hp<;>simp only[kidV]<;>split<;>simp
  ·have e:φ x=none:=by
    by_cases e:φ x=none
    ·exact e
    ·exact absurd (below e) hpx
   rw[e,Option.getD_none];by_cases exp:x=p
   ·subst exp
    have hne:HF G x≠.free:=fun e=>VV hown (Zi.1 e);refine ⟨hne,fun ρ hρ hg=>?_⟩;have e1:HF G' x=flO x ((Zu (Za G x) j f (Zx (G k))).retag s.nb):=(by unfold HF;rw[b1]);have e2:HF G x=flO x (Za G x):=rfl;rw[e1,e2];have kidq:∀ a b,kid (Za G' x) s.nb a b=if a=j∧b=f then (G k).retag 0 else kid (Za G x) (Za G x).tag a b:=fun a b=>by
     rw[b1,Y2 s.nb hpk,Y0,Y8 hown hc hv,hn.kid]
    have cell:∀ i d,Zc (Za G x) i=some d→CLe ρ ρ (flC x (Za G x).tag i d) (flC x s.nb i (if i=j then d.set f (Zx (G k)) else d)):=fun i d hd=>by
     refine ⟨by split<;>simp,fun b v' hv' => ?_⟩;rw[Yi]at hv'⊢;cases hdb:d[b]? with
     | none =>
      have hlt:=List.getElem?_eq_none_iff.1 hdb;rw[List.getElem?_eq_none (by split<;>simpa using hlt)]at hv';cases hv'
     | some u =>
      have hlt:=(List.getElem?_eq_some_iff.1 hdb).1;refine ⟨_,rfl,fun z hz=>?_⟩;by_cases hab:i=j∧b=f
      ·obtain ⟨rfl,rfl⟩:=hab
       rw[hc]at hd;injection hd with hd;subst hd;rw[hv]at hdb;injection hdb with hdb;subst hdb;rw[if_pos rfl,List.getElem?_set,if_pos rfl,if_pos hlt]at hv';simp only[Option.map_some,Option.some.injEq]at hv';subst hv';have hkn:Za G' (.sub x s.nb i b)≠.free:=by
        rw[Za,kidq,if_pos ⟨rfl,rfl⟩];intro e;have:=hn.ne;cases hgk:G k<;>rw[hgk]at e this<;>simp[NObj.retag]at e this
       have hρq:ρ (.sub x s.nb i b)=ρ (.top k):=hg _ _ (by rw[φv hkn];simp[V5]);rcases hn with ⟨t,sz,els,rfl,hgk⟩ | ⟨t,cs,rfl,hgk⟩
       ·rw[hgk];simp only[Zx,flV,Rep]at hz⊢;rw[hρq];exact hz
       ·rw[hgk];simp only[Zx,flV,Rep]at hz⊢;rw[hρq];exact hz
      ·have e3:(if i=j then d.set f (Zx (G k)) else d)[b]?=some u:=by
        split
        ·rename_i eij
         rw[List.getElem?_set,if_neg (fun e=>hab ⟨eij,e.symm⟩)];exact hdb
        ·exact hdb
       rw[e3]at hv';simp only[Option.map_some,Option.some.injEq]at hv';subst hv';cases hp:u.plain with
       | true=>rw[Yd hp]at hz⊢;exact hz
       | false =>
        have hkn:Za G' (.sub x s.nb i b)≠.free:=by
         rw[Za,kidq,if_neg hab];unfold kid;rw[if_pos rfl,hd];simp only[VU,hdb];cases u<;>simp only[AV.plain,Bool.true_eq_false]at hp<;>simp only[kidV]<;>split<;>simp
        have hρq:ρ (.sub x s.nb i b)=ρ (.sub x (Za G x).tag i b):=hg _ _ (by rw[φv hkn];simp[V5,hab]);cases u<;>simp only[AV.plain,Bool.true_eq_false]at hp
        ·simp only[flV,Rep]at hz⊢;rw[hρq];exact hz
        ·simp only[flV,Rep]at hz⊢;rw[hρq];exact hz
    cases ho:Za G x with
    | free=>rw[ho]at hown;cases hown
    | view t z l=>rw[ho]at hown;cases hown
    | cells t d =>
     rw[ho]at cell;have:=cell 0 d (by simp[Zc]);simp only[Zu,NObj.retag,flO];refine .cells ?_;by_cases ej:j=0
     ·subst ej;rw[if_pos rfl]at this⊢;exact this
     ·rw[if_neg (fun e=>ej e.symm)]at this;rw[if_neg ej];exact this
    | arr t z l =>
     rw[ho]at cell hc;simp only[Zc]at hc;simp only[Zu,NObj.retag,flO,List.length_set];refine .arr fun i hi=>?_;have:=cell i l[i] (by simp[Zc,hi]);rw[List.getD_eq_getElem?_getD,List.getD_eq_getElem?_getD,List.getD_eq_getElem?_getD,List.getElem?_eq_getElem hi,Option.getD_some,List.getElem?_set,hc,Option.getD_some];by_cases ej:j=i
     ·subst ej
      rw[if_pos rfl,if_pos hi,Option.getD_some];rw[if_pos rfl]at this;have e5:l[j]=c:=(by rw[List.getElem?_eq_getElem hi]at hc;injection hc);rw[e5]at this⊢;exact this
     ·rw[if_neg ej,List.getElem?_eq_getElem hi,Option.getD_some]
      rw[if_neg (fun e=>ej e.symm)]at this;exact this
   ·have hnp:¬ pre p x:=fun hh=>hpx ⟨hh,exp⟩
    have hrk:x.root≠k:=fun e=>hx' (b2 x e);rw[b3 x hnp hrk]at hx⊢;exact ⟨hx,fun ρ _ _=>OLe.refl _ _⟩
 ·refine Zi.2 ?_
  by_cases e:Za G' x=.free
  ·exact e
  ·exfalso
   have hx:s.nb+1≤x.mx:=hx;by_cases hpx:pre p x∧x≠p
   ·obtain ⟨z,_,i2,i3,_⟩:=b4 x hpx.1 hpx.2 e
    have:=valid i2;omega
   ·by_cases exp:x=p
    ·subst exp;omega
    ·have hnp:¬ pre p x:=fun hh=>hpx ⟨hh,exp⟩
     have hrk:x.root≠k:=fun h=>e (b2 x h);have:Za G x≠.free:=fun h=>e (Zi.1 (by rw[b3 x hnp hrk];exact Zi.2 h));have:=valid this;omega
 ·have hx1:Za G' x≠.free:=fun e=>hx (Zi.2 e)
  have hx2:Za G' x'≠.free:=fun e=>hx' (Zi.2 e);have mixed:∀ {x x' z:Nm},Za G' x'≠.free→φ x=some z→z=x'→False:=fun {x x' z} hx' hφ e=>by
   subst e;obtain ⟨g1,g2⟩:=φs hφ;obtain ⟨⟨r1,r2,_⟩,r4⟩:=Xa g2;obtain ⟨z',i1,i2,_⟩:=b4 _ r1 r2 g1;rw[g2]at i1;injection i1 with i1;subst i1;exact hx' (old i2 r4)
  cases e1:φ x with
  | none =>
   cases e2:φ x' with
   | none=>simpa [e1,e2] using e
   | some z' => simp only[e1,e2,Option.getD_none,Option.getD_some]at e;exact (mixed hx1 e2 e.symm).elim
  | some z =>
   cases e2:φ x' with
   | none=>simp only[e1,e2,Option.getD_none,Option.getD_some]at e;exact (mixed hx2 e1 e).elim
   | some z' =>
    simp only[e1,e2,Option.getD_some]at e;subst e;exact ym hr h00 (φs e1).2 (φs e2).2 hx1 hx2
variable {P:Program} {Q:Exit→St→Prop}
end
def Imp (m:Nat) (s s':St):Prop:=∀ w0 S N D a w,S.m=m→SatS w0 S N D s a w→SatS w0 S N D s' a w
theorem Imp.refl (m:Nat) (s:St):Imp m s s:=fun _ _ _ _ _ _ _ h=>h
theorem Imp.trans {m:Nat} {s t u:St} (h:Imp m s t) (h':Imp m t u):Imp m s u:=fun w0 S N D a w hm hs=>h' w0 S N D a w hm (h w0 S N D a w hm hs)
theorem Imp.le {m:Nat} {s s':St} (pl:List (Nat×Option Nat)) (h:LeN m pl s s'):Imp m s s':=fun _ _ _ _ _ _ hm hs=>hs.le (by rw[hm];exact h)
theorem Imp.absorb {m:Nat} {s:St} (p:Nm) (j f k:Nat) {c:List AV} {v:AV} (hown:(Za (hk s.hl) p).own=true) (hc:Zc (Za (hk s.hl) p) j=some c) (hv:c[f]?=some v) (hn:Xt v k (hk s.hl k)) (hr:p.root≠k) :
  Imp m s ⟨s.tl,U4 s.hl (Z5 (hk s.hl) s.nb p j f k),s.nb+1⟩:=fun _ _ _ _ _ _ _ hs=>hs.absorb p j f k hown hc hv hn hr
section
variable {w0:World} {S:Sc} {N:Nat} {D:List Deferred} {P:Program} {s:St} {Q:Exit→St→Prop}
theorem Xv {c:MCode} {s':St} (h:Imp S.m s s') (hw:Wm P w0 S N D c s' Q):Wm P w0 S N D c s Q:=fun code hc a w hs=>hw code hc a w (h _ _ _ _ _ _ rfl hs)
def va (m:Nat) {α:Type} (I:α→St) (R:α→Prop) (μ:α→Nat) (x:α) (Q:Exit→St→Prop):Exit→St→Prop
 | .normal,s=>∃ y,R y∧μ y<μ x∧Imp m s (I y)
 | e,s=>Q e s
theorem Z4 {c:MCode} {α:Type} (I:α→St) (R:α→Prop) (μ:α→Nat) (x0:α) (h0:R x0) (hle:Imp S.m s (I x0)) (hr:∀ x,R x→Wm P w0 S N D c (I x) (va S.m I R μ x Q)):Wm P w0 S N D (.loop c) s Q:=fun code hc a w hs=>by
 cases code<;>simp only[rC,reduceCtorEq,Option.some.injEq]at hc
 case loop cc =>
  cases hq:rC P cc with
  | none=>simp[hq]at hc
  | some c' =>
   simp only[hq,Option.map_some,Option.some.injEq,MCode.loop.injEq]at hc;subst hc;intro b k cs;have key:∀ n x,μ x=n→R x→∀ a w,SatS w0 S N D (I x) a w →
     ∃ e a' w',(∃ s',SatS w0 S N D s' a' w'∧Q e s')∧Arrives P (lone (b.at a (.code cc :: .inLoop cc :: k)) cs w) b k cs e a' w':=by
    intro n
    induction n using Nat.strongRecOn with
    | _ n ih =>
     intro x hn hR a w hsat;obtain ⟨e,a₁,w₁,⟨s1,hs1,hq1⟩,harr⟩:=hr x hR cc hq a w hsat b (.inLoop cc :: k) cs;cases e with
     | normal =>
      obtain ⟨y,hy,hlt,hpl⟩:=hq1;obtain ⟨e₂,a₂,w₂,hq₂,harr₂⟩:=ih (μ y) (hn ▸ hlt) y rfl hy a₁ w₁ (hpl _ _ _ _ _ _ rfl hs1);exact ⟨e₂,a₂,w₂,hq₂,.of_steps (Steps.trans harr (.one step_inLoop)) harr₂⟩
     | exit id=>exact ⟨_,a₁,w₁,⟨s1,hs1,hq1⟩,.pass (x:=.inLoop cc) rfl (fun _ _=>.inl (by simp)) harr⟩
     | goto l=>exact ⟨_,a₁,w₁,⟨s1,hs1,hq1⟩,.pass (x:=.inLoop cc) rfl (fun _ _=>.inl (by simp)) harr⟩
     | ret=>exact ⟨_,a₁,w₁,⟨s1,hs1,hq1⟩,.pass (x:=.inLoop cc) rfl (fun _ _=>.inl (by simp)) harr⟩
     | panic ch=>exact ⟨_,a₁,w₁,⟨s1,hs1,hq1⟩,.pass (x:=.inLoop cc) rfl (fun _ _=>.inl (by simp)) harr⟩
     | outgrown=>exact ⟨_,a₁,w₁,⟨s1,hs1,hq1⟩,.pass (x:=.inLoop cc) rfl (fun _ _=>.inl (by simp)) harr⟩
   obtain ⟨e,a',w',hq,harr⟩:=key _ x0 rfl h0 a w (hle _ _ _ _ _ _ rfl hs);exact ⟨e,a',w',hq,.of_steps (.one step_loop) harr⟩
 all_goals ((repeat' (split at hc))<;>first|(cases hc;done)|(simp only[Option.map_eq_some_iff,reduceCtorEq,and_false,exists_false]at hc;done))
end
inductive RV where
 | t (n:Nat)
 | c (ag:Bool) (n a:Nat)
def rRV (P:Program):ResultVar→Option RV
 | .tmp t=>some (.t t)
 | .cell a t=>match TW P t,XY P t with
  | some ag,some n=>some (.c ag n a)
  | _,_=>none
def ZaA (P:Program):List ResultVar→Option (List RV)
 | []=>some []
 | x :: r=>match rRV P x,ZaA P r with
  | some y,some q=>some (y :: q)
  | _,_=>none
def vI (s:St):RV→Option AV
 | .t n=>match lk s.tl n with
  | .bot=>none
  | v=>some v
 | .c ag n a=>match lk s.tl a with
  | .ptr o i f=>match Zc (Za (hk s.hl) o) i with
   | some c=>if ag=true then (if f+n≤c.length then some (.agg (((flC o (Za (hk s.hl) o).tag i c).drop f).take n)) else none) else (c[f]?).map (flV o (Za (hk s.hl) o).tag i f)
   | none=>none
  | _=>none
def V6 (s:St):List RV→Option (List AV)
 | []=>some []
 | x :: r=>match vI s x,V6 s r with
  | some y,some q=>some (y :: q)
  | _,_=>none
def Vm (s:St):List RV→Option AV
 | [x]=>vI s x
 | l=>match V6 s l with
  | some q=>some (.tup q)
  | none=>none
def ZdJ (res:List RV) (K:AV→St→Prop):Exit→St→Prop
 | .normal,s=>XC (Vm s res) fun v=>K v s
 | .ret,s=>XC (Vm s res) fun v=>K v s
 | _,_=>False
def U6:Nat→List AV→List (Nat×AV)
 | _,[]=>[]
 | i,v :: r=>(i,v) :: U6 (i+1) r
theorem Zaf:∀ (avs:List AV) (i t:Nat),lk (U6 i avs) t≠.bot→∃ j,t=i+j∧avs[j]?=some (lk (U6 i avs) t)
 | [],_,_,h=>absurd rfl h
 | v :: r,i,t,h=>by
  simp only[U6,lk]at h⊢;split
  ·rename_i e;exact ⟨0,by omega,by simp⟩
  ·rename_i e
   rw[if_neg e]at h;obtain ⟨j,h1,h2⟩:=Zaf r (i+1) t h;exact ⟨j+1,by omega,by simpa using h2⟩
section
variable {P:Program} {w0:World} {S:Sc}
theorem Zdk {s:St} {Es:Env→Prop} {U:Nm→Prop} {a:Act} {w:World} (h:Sat w0 S Es U (lk s.tl) (HF (hk s.hl)) a w) {x:ResultVar} {r:RV} (hx:rRV P x=some r) {v:AV} (hv:vI s r=some v) :
  ∃ u,(match x with|.tmp t=>pure (a.tmps.getD t undef)|.cell b t=>do loadVar t (← asAddr (a.tmps.getD b undef)):Sem Value).run P w=.ok u w∧∀ ρ,Es ρ→Rep ρ v u:=by
 obtain ⟨ρ0,h0⟩:=h.ne
 cases x with
 | tmp t =>
  simp only[rRV,Option.some.injEq]at hx;subst hx;have hv':lk s.tl t=v∧v≠.bot:=by
   simp only[vI]at hv;split at hv
   ·cases hv
   ·rename_i hne;injection hv with hv;exact ⟨hv,fun e=>hne (by rw[hv,e])⟩
  refine ⟨a.tmps.getD t undef,rfl,fun ρ hρ=>?_⟩;obtain ⟨u,h1,h2⟩:=h.tm ρ hρ t (by rw[hv'.1];exact hv'.2);rw[Array.getD_eq_getD_getElem?,h1,← hv'.1];exact h2
 | cell b t =>
  simp only[rRV]at hx;split at hx
  ·rename_i ag n hag hn
   injection hx with hx;subst hx;simp only[vI]at hv;split at hv
   ·rename_i o i f hp
    split at hv
    ·rename_i c hc0
     have hc:=Zay hc0;generalize hcc:flC o (Za (hk s.hl) o).tag i c=cc at hc hv;have hccl:cc.length=c.length:=(by rw[← hcc];simp);have hccg:(c[f]?).map (flV o (Za (hk s.hl) o).tag i f)=cc[f]?:=(by rw[← hcc,Yi]);rw[hccg]at hv;have addr:∀ ρ,Es ρ→(ρ o).nil=false∧a.tmps.getD b undef=.pointer (some ⟨(ρ o).blk,(ρ o).base+(i*(ρ o).sz+f),none⟩):=fun ρ hρ=>by
      obtain ⟨u,h1,h2⟩:=h.tm ρ hρ b (by rw[hp];simp);rw[hp,Rep]at h2;exact ⟨h2.1,by rw[Array.getD_eq_getD_getElem?,h1];exact h2.2⟩
     have pt:∀ ρ,Es ρ→∃ u,(do loadVar t (← asAddr (a.tmps.getD b undef)):Sem Value).run P w=.ok u w∧Rep ρ v u:=fun ρ hρ=>by
      obtain ⟨hnil,hav⟩:=addr ρ hρ;obtain ⟨vs,h1,h2,h3,h4⟩:=VB ((h.hp ρ hρ).obj o) hc hnil;cases ag
      ·simp only[Bool.false_eq_true,if_false]at hv
       obtain ⟨u,hu,hr⟩:=h1.get hv;have:=h2 f u hu;exact ⟨u,by simp[hav,asAddr,loadVar,YR hag,← Nat.add_assoc,this],hr⟩
      ·simp only[if_true]at hv
       split at hv
       ·rename_i hle
        rw[← hccl]at hle;injection hv with hv;subst hv;have h5:=V2 (V3 h2 f) n;have h6:=(h1.drop f).take n;obtain ⟨d,hd1,hd2⟩:=yH hag;have hlen:((vs.drop f).take n).length=n:=(by have:=h1.length;simp;omega);have:=run_loadVar_mid (P:=P) w (ρ o).blk ((ρ o).base+i*(ρ o).sz+f) t _ d h5 hd1 hd2 (by rw[hlen];exact hn);exact ⟨.agg ((vs.drop f).take n).toArray,by simp[hav,asAddr,← Nat.add_assoc,this],by rw[Rep];exact ⟨_,rfl,by simpa using h6⟩⟩
       ·cases hv
     obtain ⟨u,h1,_⟩:=pt ρ0 h0;refine ⟨u,h1,fun ρ hρ=>?_⟩;obtain ⟨u',h1',h2'⟩:=pt ρ hρ;rw[h1]at h1';injection h1' with h1' _;rw[h1'];exact h2'
    ·cases hv
   ·cases hv
  ·cases hx
theorem V1 {s:St}:∀ (l:List RV) (q:List AV),V6 s l=some q→q.length=l.length
 | [],q,h=>by simp only[V6,Option.some.injEq]at h;subst h;rfl
 | x :: l,q,h=>by
  simp only[V6]at h;split at h
  ·rename_i h3
   injection h with h;subst h;simp[V1 l _ h3]
  ·cases h
theorem xu {fn:Func} {res:List RV} (hres:ZaA P fn.results.toList=some res) {s:St} {Es:Env→Prop} {U:Nm→Prop} {a:Act} {w:World} (h:Sat w0 S Es U (lk s.tl) (HF (hk s.hl)) a w) {v:AV} (hv:Vm s res=some v) :
  ∃ u,(results fn a.tmps).run P w=.ok u w∧∀ ρ,Es ρ→Rep ρ v u:=by
 have all:∀ (l:List ResultVar) (res:List RV) (q:List AV),ZaA P l=some res→V6 s res=some q→∃ us:List Value,(l.mapM fun (x:ResultVar)=>(match x with|.tmp t=>pure (a.tmps.getD t undef)|.cell b t=>do loadVar t (← asAddr (a.tmps.getD b undef)):Sem Value)).run P w=.ok us w∧∀ ρ,Es ρ→ZB ρ q us:=by
  intro l
  induction l with
  | nil=>intro res q h1 h2;simp only[ZaA,Option.some.injEq]at h1;subst h1;simp only[V6,Option.some.injEq]at h2;subst h2;exact ⟨[],rfl,fun _ _=>rfl⟩
  | cons x l ih =>
   intro res q h1 h2;simp only[ZaA]at h1;cases hx:rRV P x with
   | none=>simp[hx]at h1
   | some y =>
    cases hl:ZaA P l with
    | none=>simp[hx,hl]at h1
    | some ys =>
     simp only[hx,hl,Option.some.injEq]at h1;subst h1;simp only[V6]at h2;cases hy:vI s y with
     | none=>simp[hy]at h2
     | some u =>
      cases hq:V6 s ys with
      | none=>simp[hy,hq]at h2
      | some us =>
       simp only[hy,hq,Option.some.injEq]at h2;subst h2;obtain ⟨u1,r1,r2⟩:=Zdk (P:=P) h hx hy;obtain ⟨us1,s1,s2⟩:=ih ys us hl hq;refine ⟨u1 :: us1,?_,fun ρ hρ=>⟨u1,us1,rfl,r2 ρ hρ,s2 ρ hρ⟩⟩;rw[List.mapM_cons,Sem.run_bind,r1,Result.andThen_ok,Sem.run_bind,s1]
       rfl
 have hm:∃ q,V6 s res=some q∧((∃ u,q=[u]∧v=u)∨(q.length≠1∧v=.tup q)):=by
  unfold Vm at hv;split at hv
  ·exact ⟨[v],by simp[V6,hv],.inl ⟨v,rfl,rfl⟩⟩
  ·rename_i hne
   split at hv
   ·rename_i q hq
    injection hv with hv;refine ⟨q,hq,.inr ⟨fun hlen=>?_,hv.symm⟩⟩;have:=V1 res q hq
    match res,this with
    | [x],_=>exact hne x rfl
    | [],h=>rw[hlen]at h;simp at h
    | x :: y :: l,h=>rw[hlen]at h;simp at h
   ·cases hv
 obtain ⟨q,hq,hqv⟩:=hm
 obtain ⟨us,h1,h2⟩:=all fn.results.toList res q hres hq
 obtain ⟨ρ0,h0⟩:=h.ne
 have hlen:=(h2 ρ0 h0).length
 have hrun:(results fn a.tmps).run P w=.ok (if h:us.toArray.size=1 then us.toArray[0] else .tuple us.toArray) w:=by
  unfold results;rw[Array.mapM_eq_mapM_toList,Sem.run_bind,Sem.run_map];exact congrArg (fun r:Result (List Value)=>(r.andThen fun a w' => Result.ok a.toArray w').andThen fun a w' => (pure (if h:a.size=1 then a[0] else Value.tuple a):Sem Value).run P w') h1
 rcases hqv with ⟨u,rfl,rfl⟩ | ⟨hne,rfl⟩
 ·obtain ⟨x,rfl⟩:=List.length_eq_one_iff.1 hlen
  refine ⟨x,by simpa using hrun,fun ρ hρ=>?_⟩;obtain ⟨y,r,e,h3,_⟩:=h2 ρ hρ;injection e with e1 e2;rw[e1];exact h3
 ·refine ⟨.tuple us.toArray,?_,fun ρ hρ=>by rw[Rep];exact ⟨_,rfl,h2 ρ hρ⟩⟩
  rw[dif_neg (by simp;omega)]at hrun;exact hrun
theorem UH {f:FuncId} {fn:Func} {c:Code} {mc:MCode} {res:List RV} (hf:P.funcs[f]?=some fn) (hb:fn.body=some c) (hrc:rC P c=some mc) (hres:ZaA P fn.results.toList=some res)
  {avs:List AV} {vs:List Value} {hl:List (Nat×NObj)} {nb:Nat} {Es:Env→Prop} {w:World} (hne:∃ ρ,Es ρ) (hcl:∀ ρ ρ',Es ρ→(∀ x:Nm,¬ nb≤x.mx→ρ' x=ρ x)→Es ρ') (hfr:∀ x:Nm,nb≤x.mx→HF (hk hl) x=.free) (hpin:∀ ρ ρ',Es ρ→Es ρ'→∀ x,HF (hk hl) x≠.free→ρ x=ρ' x) (hp:∀ ρ,Es ρ→HCore w0 S ρ (HF (hk hl)) w) (hargs:∀ ρ,Es ρ→ZB ρ avs vs) (hlen:avs.length≤fn.ntmps)
  {K:AV→St→Prop} (h:Wm P w0 S fn.ntmps [] mc ⟨U6 0 avs,hl,nb⟩ (ZdJ res K)) :
  Calls P f vs.toArray w fun e w' => ∃ (v:Value) (av:AV) (s':St),e=.returned v∧K av s'∧∃ a':Act,a'.tmps=#[v]∧SatS w0 S 1 [] ⟨[(0,av)],s'.hl,s'.nb⟩ a' w':=by
 obtain ⟨ρ0,h0⟩:=hne
 have hvl:=(hargs ρ0 h0).length
 refine calls_of_wp hf hb (wp_mono (h c hrc _ w ⟨⟨Es,⟨ρ0,h0⟩,hcl,hfr,hpin,fun ρ hρ t ht=>?_,hp⟩,?_,rfl⟩) fun e a' w' ⟨s',⟨⟨Es',hs'⟩,_,hD⟩,hq⟩ => ?_)
 ·obtain ⟨j,h1,h2⟩:=Zaf avs 0 t ht
  obtain ⟨v,h3,h4⟩:=(hargs ρ hρ).get h2;refine ⟨v,?_,h4⟩;have hj:j<vs.length:=(List.getElem?_eq_some_iff.1 h3).1;rw[h1,Nat.zero_add,Array.getElem?_append_left (by simpa using hj)];simpa using h3
 ·simp;omega
 ·have fin:XC (Vm s' res) (fun v=>K v s')→bodyPost P fn (fun e w' => ∃ (v:Value) (av:AV) (s':St),e=.returned v∧K av s'∧∃ a':Act,a'.tmps=#[v]∧SatS w0 S 1 [] ⟨[(0,av)],s'.hl,s'.nb⟩ a' w') .normal a' w':=by
   rintro ⟨av,hav,hK⟩;obtain ⟨u,hu,hr⟩:=xu hres hs' hav;refine ⟨hD,u,hu,u,av,s',rfl,hK,{ a' with tmps:=#[u],defers:=[] },rfl,⟨Es',hs'.ne,hs'.cl,hs'.fr,hs'.pin,fun ρ hρ t ht=>?_,hs'.hp⟩,rfl,rfl⟩;simp only[lk]at ht⊢;split at ht
   ·rename_i e;subst e;exact ⟨u,rfl,hr ρ hρ⟩
   ·exact absurd rfl ht
  cases e with
  | normal=>exact fin hq
  | ret=>exact fin hq
  | _=>exact hq.elim
end
end Go.W
