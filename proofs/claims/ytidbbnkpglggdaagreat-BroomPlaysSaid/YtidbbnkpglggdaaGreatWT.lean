/- An object that a cell names comes to be owned by that cell. Loops; a function's beginning and end. -/
import Derived.Test.YtidbbnkpglggdaaGreatWQ
namespace Go.W
set_option linter.unusedSimpArgs false
set_option linter.unusedVariables false
def NObj.retag (t:Nat):NObj→NObj
 | .free=>.free
 | .cells _ c=>.cells t c
 | .arr _ sz els=>.arr t sz els
 | .view _ sz els=>.view t sz els
def ZZ:NObj→AV
 | .arr _ sz els=>.os 0 sz els
 | .cells _ c=>.op 0 c
 | _=>.bot
theorem OLe.refl (ρ:Env) (o:AObj):OLe ρ ρ o o:=by
 cases o with
 | free=>exact .free _
 | cells c=>exact .cells (CLe.refl _ _)
 | arr sz n f=>exact .arr fun _ _=>CLe.refl _ _
 | view sz n f=>exact .view fun _ _=>CLe.refl _ _
theorem Zch (t:Nat) (o:NObj) (j:Nat):Zl (o.retag t) j=Zl o j:=by cases o<;>rfl
theorem ZfP (t:Nat) (o:NObj):(o.retag t).ro=o.ro:=by cases o<;>rfl
theorem XG (t:Nat) {o:NObj} (h:o≠.free):(o.retag t).tag=t:=by cases o<;>first|rfl|exact absurd rfl h
theorem VI (t:Nat) {o:NObj} (h:o≠.free) (j f:Nat):kid (o.retag t) t j f=kid o o.tag j f :=
 ZaT (XG t h) rfl (ZfP t o) (Zch t o j) f
theorem yG {o:NObj} (h:o.own=true):o≠.free:=by intro e;rw[e]at h;cases h
theorem Za4 {ρ:Env} {x y:Nm} {o:NObj} (t':Nat) (hk:∀ (a b:Nat) (c:List AV) (v:AV),Zl o a=some c→c[b]?=some v→v.plain=false→ρ (.sub x t' a b)=ρ (.sub y o.tag a b)):OLe ρ ρ (flO y o) (flO x (o.retag t')):=by
 cases o with
 | free=>exact .free _
 | cells t c=>exact .cells (Ur (fun v _ _ u hu=>hu) fun f v hv hp=>hk 0 f c v (by simp[Zl]) hv hp)
 | arr t z l =>
  refine .arr fun i hi=>Ur (fun v _ _ u hu=>hu) fun f v hv hpv=>?_;rw[List.getD_eq_getElem?_getD,List.getElem?_eq_getElem hi,Option.getD_some]at hv;exact hk i f _ v (by simp[Zl,hi]) hv hpv
 | view t z l =>
  refine .view fun i hi=>Ur (fun v _ _ u hu=>hu) fun f v hv hpv=>?_;rw[List.getD_eq_getElem?_getD,List.getElem?_eq_getElem hi,Option.getD_some]at hv;exact hk i f _ v (by simp[Zl,hi]) hv hpv
section
variable {w0:World} {S:Sc} {Es:Env→Prop} {U U':Nm→Prop} {T:Nat→AV} {G G':NH} {a:Act} {w:World}
theorem Sat.graft (h:Sat w0 S Es U T (HF G) a w) (φ:Nm→Option Nm) (hdom:∀ x y,φ x=some y→U x∧¬ U' x∧¬ U' y∧φ y=none) (hU:∀ x,U' x→U x)
  (hob:∀ x,HF G' x≠.free→HF G ((φ x).getD x)≠.free∧∀ ρ,Es ρ→(∀ x y,φ x=some y→ρ x=ρ y)→OLe ρ ρ (HF G ((φ x).getD x)) (HF G' x)) (hfree:∀ x,U' x→HF G' x=.free)
  (hinj:∀ x x',HF G' x≠.free→HF G' x'≠.free→(φ x).getD x=(φ x').getD x'→x=x'):Sat w0 S (fun ρ=>Es ρ∧∀ x y,φ x=some y→ρ x=ρ y) U' T (HF G') a w where
 ne:=by
  obtain ⟨ρ0,h0⟩:=h.ne;refine ⟨fun x=>ρ0 ((φ x).getD x),h.cl ρ0 _ h0 fun x hx=>?_,fun x y hxy=>?_⟩
  ·cases e:φ x with
   | none=>rfl
   | some y=>exact absurd (hdom x y e).1 hx
  ·simp only[hxy,(hdom x y hxy).2.2.2,Option.getD_some,Option.getD_none]
 cl:=fun ρ ρ' ⟨h1,h2⟩ he=>⟨h.cl ρ ρ' h1 fun x hx=>he x fun hu=>hx (hU x hu),fun x y hxy=>by
  obtain ⟨_,d2,d3,_⟩:=hdom x y hxy;rw[he x d2,he y d3];exact h2 x y hxy⟩
 fr:=hfree
 pin:=fun ρ ρ' ⟨h1,h2⟩ ⟨h3,h4⟩ x hx=>by
  have hn:=(hob x hx).1;have:=h.pin ρ ρ' h1 h3 _ hn;cases e:φ x with
  | none=>simpa [e] using this
  | some y=>rw[h2 x y e,h4 x y e];simpa [e] using this
 tm:=fun ρ ⟨h1,_⟩ t ht=>h.tm ρ h1 t ht
 hp:=fun ρ ⟨h1,h2⟩ => by
  refine (h.hp ρ h1).ole (fun x=>(φ x).getD x) (fun x=>?_) (fun x hx=>?_) (fun x y hx hy e=>hinj x y hx hy e) (h.hp ρ h1).an
  ·by_cases e:HF G' x=.free
   ·rw[e];exact .free _
   ·exact (hob x e).2 ρ h1 h2
  ·cases e:φ x with
   | none=>rfl
   | some y=>exact h2 x y e
end
def ze (p:Nm) (tp nb j f k tk:Nat):Nm→Option Nm
 | .top _=>none
 | .sub y t a b=>if y=p∧t=nb then (if a=j∧b=f then some (.top k) else some (.sub p tp a b))
  else match ze p tp nb j f k tk y with
   | some z=>some (.sub z (if y=.sub p nb j f then tk else t) a b)
   | none=>none
theorem VE {p:Nm} {tp nb j f k tk:Nat}:∀ {x z:Nm},ze p tp nb j f k tk x=some z→(pre p x∧x≠p∧nb≤x.mx)∧(pre (.top k) z∨(∃ a b,pre (.sub p tp a b) z))
 | .top n,z,h=>by cases h
 | .sub y t a b,z,h=>by
  simp only[ze]at h;have nself:∀ {y:Nm},Nm.sub y t a b≠y:=fun {y} e=>by have:=congrArg depth e;simp[depth]at this
  split at h
  ·rename_i hc
   obtain ⟨rfl,rfl⟩:=hc;refine ⟨⟨.inr (Xz _),nself,by simp only[Nm.mx];omega⟩,?_⟩;split at h
   ·injection h with h;subst h;exact .inl (Xz _)
   ·injection h with h;subst h;exact .inr ⟨a,b,Xz _⟩
  ·split at h
   ·rename_i z' hz
    injection h with h;subst h;obtain ⟨⟨h1,h2,h3⟩,h4⟩:=VE hz;refine ⟨⟨.inr h1,fun e=>?_,by simp only[Nm.mx];omega⟩,?_⟩
    ·have:=VJ h1
     rw[← e]at this;simp only[depth]at this;omega
    ·rcases h4 with h4|⟨a',b',h4⟩
     ·exact .inl (.inr h4)
     ·exact .inr ⟨a',b',.inr h4⟩
   ·cases h
def Xb (G:NH) (nb:Nat) (p:Nm) (j f k:Nat):List (Nat×NObj):=[(k,.free),wr G p ((Ya (Zj G p) j f (ZZ (G k))).retag nb)]
section
variable {G:NH} {nb k j f:Nat} {p:Nm} {c:List AV} {v:AV}
def VU (v:AV) (k:Nat) (o:NObj):Prop:=(∃ t sz els,v=.sl (.top k) 0 els.length∧o=.arr t sz els)∨(∃ t cs,v=.ptr (.top k) 0 0∧o=.cells t cs)
theorem VU.kid {o:NObj} (h:VU v k o):kidV false (ZZ o)=o.retag 0:=by
 rcases h with ⟨t,sz,els,_,rfl⟩ | ⟨t,cs,_,rfl⟩<;>rfl
theorem VU.ne {o:NObj} (h:VU v k o):o≠.free:=by
 rcases h with ⟨t,sz,els,_,rfl⟩ | ⟨t,cs,_,rfl⟩<;>simp
theorem Zdg (hown:(Zj G p).own=true) (hc:Zl (Zj G p) j=some c) (hv:c[f]?=some v) (hk:VU v k (G k)) (hr:p.root≠k) (G':NH) (hG':G'=Yr G (Xb G nb p j f k)) :
  Zj G' p=(Ya (Zj G p) j f (ZZ (G k))).retag nb∧(∀ x:Nm,x.root=k→Zj G' x=.free)∧(∀ x,¬ pre p x→x.root≠k→HF G' x=HF G x) ∧
  ∀ x,pre p x→x≠p→Zj G' x≠.free→∃ z,ze p (Zj G p).tag nb j f k (G k).tag x=some z∧Zj G z≠.free∧x.mx≤max (max nb p.mx) z.mx∧(x=.sub p nb j f→z=.top k∧Zj G' x=(G k).retag 0)∧(x≠.sub p nb j f→Zj G' x=Zj G z):=by
 have hlike:Tx (Zj (upd G k .free) p) ((Ya (Zj G p) j f (ZZ (G k))).retag nb):=by
  rw[YU hr];cases ho:Zj G p<;>rw[ho]at hown<;>simp_all [NObj.own,Ya,NObj.retag,Tx]
 have hwr:wr (upd G k .free) p ((Ya (Zj G p) j f (ZZ (G k))).retag nb)=wr G p ((Ya (Zj G p) j f (ZZ (G k))).retag nb):=ya (by rw[Zn _ _ hr])
 obtain ⟨a1,a2,a3⟩:=yO (upd G k .free) p _ hlike
 rw[hwr]at a1 a2 a3
 have e0:upd (upd G k .free) (wr G p ((Ya (Zj G p) j f (ZZ (G k))).retag nb)).1 (wr G p ((Ya (Zj G p) j f (ZZ (G k))).retag nb)).2=G':=by rw[hG'];rfl
 rw[e0]at a1 a2 a3
 have hkfree:G' k=.free:=by
  rw[← e0,Zn _ _ (by rw[UT];exact fun e=>hr e.symm),Zx]
 refine ⟨a1,fun x hx=>XI hkfree hx,fun x h1 h2=>?_,fun x=>?_⟩
 ·rw[a2 x h1];unfold HF;rw[YU h2]
 ·induction x with
  | top n=>intro hx hne;simp only[pre]at hx;exact absurd hx.symm hne
  | sub y t a b ih =>
   intro hx hne hg;have hy:pre p y:=by
    rcases hx with hx|hx
    ·exact absurd hx.symm hne
    ·exact hx
   have hpk:(Ya (Zj G p) j f (ZZ (G k)))≠.free:=by
    intro e;have:=ye (v:=ZZ (G k)) (j:=j) (f:=f) hown;rw[e]at this;cases ho:Zj G p<;>rw[ho]at e<;>simp_all [Ya,NObj.own]
   by_cases e:y=p
   ·subst e
    have hg0:=hg;rw[Zj,a1]at hg;have ht:t=nb:=by
     by_cases et:t=nb
     ·exact et
     ·exact absurd (Y9 (by rw[XG nb hpk];exact fun e=>et e.symm)) hg
    subst ht;have key:Zj G' (.sub y t a b)=if a=j∧b=f then (G k).retag 0 else kid (Zj G y) (Zj G y).tag a b:=by
     rw[Zj,a1,VI t hpk,UE,TW hown hc hv,hk.kid]
    by_cases hab:a=j∧b=f
    ·obtain ⟨rfl,rfl⟩:=hab
     rw[if_pos ⟨rfl,rfl⟩]at key;refine ⟨.top k,by simp[ze],hk.ne,?_,fun _=>⟨rfl,key⟩,fun h=>absurd rfl h⟩;simp only[Nm.mx];omega
    ·rw[if_neg hab]at key
     refine ⟨.sub y (Zj G y).tag a b,by simp[ze,hab],?_,by simp only[Nm.mx];omega,fun h=>?_,fun _=>key⟩
     ·rw[Zj,← key];exact hg0
     ·injection h with _ _ h3 h4;exact absurd ⟨h3,h4⟩ hab
   ·have hgy:Zj G' y≠.free:=fun e=>hg (by rw[Zj,e];simp[kid,Zl])
    obtain ⟨z,i1,i2,i3,i4,i5⟩:=ih hy e hgy;by_cases eq:y=.sub p nb j f
    ·obtain ⟨hz,q4⟩:=i4 eq
     subst hz;have hg1:=hg;rw[Zj,q4]at hg1;have ht:t=0:=by
      by_cases et:t=0
      ·exact et
      ·exact absurd (Y9 (by rw[XG 0 hk.ne];exact fun e=>et e.symm)) hg1
     subst ht;have key:Zj G' (.sub y 0 a b)=Zj G (.sub (.top k) (G k).tag a b):=by
      rw[Zj,q4,VI 0 hk.ne];rfl
     refine ⟨.sub (.top k) (G k).tag a b,by simp only[ze,i1];rw[if_neg (fun h=>e h.1),if_pos eq],by rw[← key];exact hg,by simp only[Nm.mx]at i3⊢;omega,fun h=>?_,fun _=>key⟩;have:=congrArg depth h;rw[eq]at this;simp[depth]at this
    ·have i5:=i5 eq
     have key:Zj G' (.sub y t a b)=Zj G (.sub z t a b):=(by rw[Zj,i5];rfl);refine ⟨.sub z t a b,by simp only[ze,i1];rw[if_neg (fun h=>e h.1),if_neg eq],by rw[← key];exact hg,by simp only[Nm.mx]at i3⊢;omega,fun h=>?_,fun _=>key⟩;injection h with h1;exact absurd h1 e
theorem Zbt {G':NH} (hr:p.root≠k) (h0:∀ t a b,Zj G' (.sub (.sub p nb j f) t a b)≠.free→t=0) {tp tk:Nat}:∀ {x x' z:Nm},ze p tp nb j f k tk x=some z→ze p tp nb j f k tk x'=some z→Zj G' x≠.free→Zj G' x'≠.free→x=x'
 | .top n,_,_,h,_,_,_=>by cases h
 | .sub y t a b,.top n,_,_,h,_,_=>by cases h
 | .sub y t a b,.sub y' t' a' b',z,h,h',g,g' => by
  have gy:Zj G' y≠.free:=fun e=>g (by rw[Zj,e];simp[kid,Zl]);have gy':Zj G' y'≠.free:=fun e=>g' (by rw[Zj,e];simp[kid,Zl]);have notp:∀ {y z:Nm},ze p tp nb j f k tk y=some z→z≠p:=fun {y z} h e=>by
   subst e;rcases (VE h).2 with h|⟨a,b,h⟩
   ·exact hr (UI.1 h)
   ·have:=VJ h;simp only[depth]at this;omega
  have mixed:∀ {y t a b y' t' a' b' z},y=p∧t=nb→¬ (y'=p∧t'=nb)→ze p tp nb j f k tk (.sub y t a b)=some z→ze p tp nb j f k tk (.sub y' t' a' b')=some z→False:=fun {y t a b y' t' a' b' z} hc hc' h h' => by
   simp only[ze,if_pos hc]at h;simp only[ze,if_neg hc']at h';split at h'
   ·rename_i z' hz'
    injection h' with h';split at h
    ·injection h with h;rw[← h']at h;cases h
    ·injection h with h
     rw[← h']at h;injection h with h1;exact notp hz' h1.symm
   ·cases h'
  by_cases hc:y=p∧t=nb
  ·by_cases hc':y'=p∧t'=nb
   ·simp only[ze,if_pos hc]at h
    simp only[ze,if_pos hc']at h';obtain ⟨rfl,rfl⟩:=hc;obtain ⟨rfl,rfl⟩:=hc';split at h
    ·rename_i q
     split at h'
     ·rename_i q';rw[q.1,q.2,q'.1,q'.2]
     ·injection h with h;injection h' with h';rw[← h]at h';cases h'
    ·split at h'
     ·injection h with h;injection h' with h';rw[← h']at h;cases h
     ·injection h with h;injection h' with h';rw[← h']at h;injection h with _ _ h3 h4;rw[h3,h4]
   ·exact (mixed hc hc' h h').elim
  ·by_cases hc':y'=p∧t'=nb
   ·exact (mixed hc' hc h' h).elim
   ·simp only[ze,if_neg hc]at h
    simp only[ze,if_neg hc']at h';split at h
    ·rename_i z1 e1
     split at h'
     ·rename_i z2 e2
      injection h with h;injection h' with h';rw[← h']at h;injection h with h1 h2 h3 h4;subst h1;have:=Zbt hr h0 e1 e2 gy gy';subst this;by_cases eq:y=.sub p nb j f
      ·subst eq
       rw[h0 _ _ _ g,h0 _ _ _ g',h3,h4]
      ·rw[if_neg eq,if_neg eq]at h2
       rw[h2,h3,h4]
     ·cases h'
    ·cases h
end
section
variable {w0:World} {S:Sc} {N:Nat} {D:List Deferred} {s:St}
set_option maxHeartbeats 1000000 in
theorem SatS.absorb {a:Act} {w:World} (h:SatS w0 S N D s a w) (p:Nm) (j f k:Nat) {c:List AV} {v:AV} (hown:(Zj (hk s.hl) p).own=true) (hc:Zl (Zj (hk s.hl) p) j=some c) (hv:c[f]?=some v) (hn:VU v k (hk s.hl k)) (hr:p.root≠k) :
  SatS w0 S N D ⟨s.tl,vM s.hl (Xb (hk s.hl) s.nb p j f k),s.nb+1⟩ a w:=by
 obtain ⟨Es,hs⟩:=h.sat
 generalize hG:hk s.hl=G at hs hown hc hv hn⊢
 generalize hG':hk (vM s.hl (Xb G s.nb p j f k))=G'
 have hG2:G'=Yr G (Xb G s.nb p j f k):=by rw[← hG',vb,hG]
 obtain ⟨b1,b2,b3,b4⟩:=Zdg (nb:=s.nb) hown hc hv hn hr G' hG2
 have valid:∀ {x:Nm},Zj G x≠.free→x.mx<s.nb:=fun {x} hx=>by
  rcases Nat.lt_or_ge x.mx s.nb with h|h
  ·exact h
  ·exact absurd (Zt.1 (hs.fr x h)) hx
 have hpm:p.mx<s.nb:=valid (yG hown)
 have hpk:(Ya (Zj G p) j f (ZZ (G k)))≠.free:=by
  intro e;cases ho:Zj G p<;>rw[ho]at e hown<;>simp_all [Ya,NObj.own]
 have tagp:∀ t a b,kid (Zj G' p) t a b≠.free→t=s.nb:=fun t a b hk=>by
  rw[b1]at hk;by_cases et:t=s.nb
  ·exact et
  ·exact absurd (Y9 (by rw[XG _ hpk];exact fun e=>et e.symm)) hk
 let φ:Nm→Option Nm:=fun x=>if (Zj G' x).isFree=true then none else ze p (Zj G p).tag s.nb j f k (G k).tag x
 have φv:∀ {x:Nm},Zj G' x≠.free→φ x=ze p (Zj G p).tag s.nb j f k (G k).tag x:=fun {x} hx=>if_neg (fun e=>hx (Xg.1 e))
 have φs:∀ {x y:Nm},φ x=some y→Zj G' x≠.free∧ze p (Zj G p).tag s.nb j f k (G k).tag x=some y:=fun {x y} hxy=>by
  by_cases e:(Zj G' x).isFree=true
  ·have:φ x=none:=if_pos e
   rw[this]at hxy;cases hxy
  ·have hx:Zj G' x≠.free:=fun e' => e (Xg.2 e')
   exact ⟨hx,by rw[← φv hx];exact hxy⟩
 have old:∀ {y:Nm},Zj G y≠.free→(pre (.top k) y∨∃ a b,pre (.sub p (Zj G p).tag a b) y)→Zj G' y=.free:=fun {y} hy hh=>by
  rcases hh with hh|⟨a,b,hh⟩
  ·exact b2 y (UI.1 hh)
  ·have hq:Zj G (.sub p (Zj G p).tag a b)≠.free:=fun e=>hy (UF e hh)
   have htp:(Zj G p).tag<s.nb:=(by have:=valid hq;simp only[Nm.mx]at this;omega);refine UF ?_ hh;rw[Zj];by_cases e:kid (Zj G' p) (Zj G p).tag a b=.free
   ·exact e
   ·have:=tagp _ _ _ e;omega
 have h00:∀ t a b,Zj G' (.sub (.sub p s.nb j f) t a b)≠.free→t=0:=fun t a b hg=>by
  have hq:Zj G' (.sub p s.nb j f)≠.free:=fun e=>hg (by rw[Zj,e];simp[kid,Zl]);obtain ⟨z,_,_,_,i4,_⟩:=b4 (.sub p s.nb j f) (Or.inr (Xz _)) (fun e=>by have:=congrArg depth e;simp[depth]at this) hq;obtain ⟨_,i4⟩:=i4 rfl;rw[Zj,i4]at hg;by_cases et:t=0
  ·exact et
  ·exact absurd (Y9 (by rw[XG 0 hn.ne];exact fun e=>et e.symm)) hg
 have below:∀ {x:Nm},φ x≠none→pre p x∧x≠p:=fun {x} hx=>by
  cases e:φ x with
  | none=>exact absurd e hx
  | some y=>have:=(VE (φs e).2).1;exact ⟨this.1,this.2.1⟩
 suffices hfin:∃ Es',Sat w0 S Es' (fun x:Nm=>s.nb+1≤x.mx) (lk s.tl) (HF G') a w by
  rw[← hG']at hfin;exact ⟨hfin,h.size,h.defers⟩
 refine ⟨_,hs.graft (G':=G') (U':=fun x:Nm=>s.nb+1≤x.mx) φ (fun x y hxy=>?_) (fun x hx=>by show s.nb≤x.mx;omega) (fun x hx=>?_) (fun x hx=>?_) (fun x x' hx hx' e=>?_)⟩
 ·obtain ⟨hx,hg⟩:=φs hxy
  obtain ⟨⟨r1,r2,r3⟩,r4⟩:=VE hg;obtain ⟨z,i1,i2,i3,_⟩:=b4 x r1 r2 hx;rw[hg]at i1;injection i1 with i1;subst i1;have hym:=valid i2;refine ⟨r3,by omega,by omega,if_pos (Xg.2 (old i2 r4))⟩
 ·have hx':Zj G' x≠.free:=fun e=>hx (Zt.2 e)
  by_cases hpx:pre p x∧x≠p
  ·obtain ⟨z,i1,i2,i3,i4,i5⟩:=b4 x hpx.1 hpx.2 hx'
   have e:φ x=some z:=(by rw[φv hx'];exact i1);rw[e,Option.getD_some];refine ⟨fun e=>i2 (Zt.1 e),fun ρ hρ hg=>?_⟩;have kids:∀ t t' a b,Zj G' (.sub x t a b)≠.free→(if x=.sub p s.nb j f then (G k).tag else t)=t'→ρ (.sub x t a b)=ρ (.sub z t' a b):=fun t t' a b hk ht' => by
    refine hg _ _ ?_;rw[φv hk];simp only[ze,i1];rw[if_neg (fun h=>hpx.2 h.1),ht']
   by_cases eq:x=.sub p s.nb j f
   ·obtain ⟨hz,q4⟩:=i4 eq
    subst hz;have e1:HF G' x=flO x ((G k).retag 0):=(by unfold HF;rw[q4]);have e2:HF G (.top k)=flO (.top k) (G k):=rfl;rw[e1,e2];refine Za4 0 fun a b c v hc hv hp=>kids 0 (G k).tag a b ?_ (if_pos eq);rw[Zj,q4,VI 0 hn.ne];unfold kid;rw[if_pos rfl,hc];simp only[zp,hv];cases v<;>simp only[AV.plain,Bool.true_eq_false]at hp<;>simp only[kidV]<;>split<;>simp
   ·have i5:=i5 eq
    have e1:HF G' x=flO x ((Zj G z).retag (Zj G z).tag):=by
     unfold HF;rw[i5];congr 1;cases Zj G z<;>rfl
    rw[e1];refine Za4 _ fun a b c v hc hv hp=>kids _ _ a b ?_ (if_neg eq);rw[Zj,i5];unfold kid;rw[if_pos rfl,hc];simp only[zp,hv];cases v<;>simp only[AV.plain,Bool.true_eq_false]at hp<;>simp only[kidV]<;>split<;>simp
  ·have e:φ x=none:=by
    by_cases e:φ x=none
    ·exact e
    ·exact absurd (below e) hpx
   rw[e,Option.getD_none];by_cases exp:x=p
   ·subst exp
    have hne:HF G x≠.free:=fun e=>yG hown (Zt.1 e);refine ⟨hne,fun ρ hρ hg=>?_⟩;have e1:HF G' x=flO x ((Ya (Zj G x) j f (ZZ (G k))).retag s.nb):=(by unfold HF;rw[b1]);have e2:HF G x=flO x (Zj G x):=rfl;rw[e1,e2];have kidq:∀ a b,kid (Zj G' x) s.nb a b=if a=j∧b=f then (G k).retag 0 else kid (Zj G x) (Zj G x).tag a b:=fun a b=>by
     rw[b1,VI s.nb hpk,UE,TW hown hc hv,hn.kid]
    have cell:∀ i d,Zl (Zj G x) i=some d→CLe ρ ρ (flC x (Zj G x).tag i d) (flC x s.nb i (if i=j then d.set f (ZZ (G k)) else d)):=fun i d hd=>by
     refine ⟨by split<;>simp,fun b v' hv' => ?_⟩;rw[Xy]at hv'⊢;cases hdb:d[b]? with
     | none =>
      have hlt:=List.getElem?_eq_none_iff.1 hdb;rw[List.getElem?_eq_none (by split<;>simpa using hlt)]at hv';cases hv'
     | some u =>
      have hlt:=(List.getElem?_eq_some_iff.1 hdb).1;refine ⟨_,rfl,fun z hz=>?_⟩;by_cases hab:i=j∧b=f
      ·obtain ⟨rfl,rfl⟩:=hab
       rw[hc]at hd;injection hd with hd;subst hd;rw[hv]at hdb;injection hdb with hdb;subst hdb;rw[if_pos rfl,List.getElem?_set,if_pos rfl,if_pos hlt]at hv';simp only[Option.map_some,Option.some.injEq]at hv';subst hv';have hkn:Zj G' (.sub x s.nb i b)≠.free:=by
        rw[Zj,kidq,if_pos ⟨rfl,rfl⟩];intro e;have:=hn.ne;cases hgk:G k<;>rw[hgk]at e this<;>simp[NObj.retag]at e this
       have hρq:ρ (.sub x s.nb i b)=ρ (.top k):=hg _ _ (by rw[φv hkn];simp[ze]);rcases hn with ⟨t,sz,els,rfl,hgk⟩ | ⟨t,cs,rfl,hgk⟩
       ·rw[hgk];simp only[ZZ,flV,Rep]at hz⊢;rw[hρq];exact hz
       ·rw[hgk];simp only[ZZ,flV,Rep]at hz⊢;rw[hρq];exact hz
      ·have e3:(if i=j then d.set f (ZZ (G k)) else d)[b]?=some u:=by
        split
        ·rename_i eij
         rw[List.getElem?_set,if_neg (fun e=>hab ⟨eij,e.symm⟩)];exact hdb
        ·exact hdb
       rw[e3]at hv';simp only[Option.map_some,Option.some.injEq]at hv';subst hv';cases hp:u.plain with
       | true=>rw[Xp hp]at hz⊢;exact hz
       | false =>
        have hkn:Zj G' (.sub x s.nb i b)≠.free:=by
         rw[Zj,kidq,if_neg hab];unfold kid;rw[if_pos rfl,hd];simp only[zp,hdb];cases u<;>simp only[AV.plain,Bool.true_eq_false]at hp<;>simp only[kidV]<;>split<;>simp
        have hρq:ρ (.sub x s.nb i b)=ρ (.sub x (Zj G x).tag i b):=hg _ _ (by rw[φv hkn];simp[ze,hab]);cases u<;>simp only[AV.plain,Bool.true_eq_false]at hp
        ·simp only[flV,Rep]at hz⊢;rw[hρq];exact hz
        ·simp only[flV,Rep]at hz⊢;rw[hρq];exact hz
    cases ho:Zj G x with
    | free=>rw[ho]at hown;cases hown
    | view t z l=>rw[ho]at hown;cases hown
    | cells t d =>
     rw[ho]at cell;have:=cell 0 d (by simp[Zl]);simp only[Ya,NObj.retag,flO];refine .cells ?_;by_cases ej:j=0
     ·subst ej;rw[if_pos rfl]at this⊢;exact this
     ·rw[if_neg (fun e=>ej e.symm)]at this;rw[if_neg ej];exact this
    | arr t z l =>
     rw[ho]at cell hc;simp only[Zl]at hc;simp only[Ya,NObj.retag,flO,List.length_set];refine .arr fun i hi=>?_;have:=cell i l[i] (by simp[Zl,hi]);rw[List.getD_eq_getElem?_getD,List.getD_eq_getElem?_getD,List.getD_eq_getElem?_getD,List.getElem?_eq_getElem hi,Option.getD_some,List.getElem?_set,hc,Option.getD_some];by_cases ej:j=i
     ·subst ej
      rw[if_pos rfl,if_pos hi,Option.getD_some];rw[if_pos rfl]at this;have e5:l[j]=c:=(by rw[List.getElem?_eq_getElem hi]at hc;injection hc);rw[e5]at this⊢;exact this
     ·rw[if_neg ej,List.getElem?_eq_getElem hi,Option.getD_some]
      rw[if_neg (fun e=>ej e.symm)]at this;exact this
   ·have hnp:¬ pre p x:=fun hh=>hpx ⟨hh,exp⟩
    have hrk:x.root≠k:=fun e=>hx' (b2 x e);rw[b3 x hnp hrk]at hx⊢;exact ⟨hx,fun ρ _ _=>OLe.refl _ _⟩
 ·refine Zt.2 ?_
  by_cases e:Zj G' x=.free
  ·exact e
  ·exfalso
   have hx:s.nb+1≤x.mx:=hx;by_cases hpx:pre p x∧x≠p
   ·obtain ⟨z,_,i2,i3,_⟩:=b4 x hpx.1 hpx.2 e
    have:=valid i2;omega
   ·by_cases exp:x=p
    ·subst exp;omega
    ·have hnp:¬ pre p x:=fun hh=>hpx ⟨hh,exp⟩
     have hrk:x.root≠k:=fun h=>e (b2 x h);have:Zj G x≠.free:=fun h=>e (Zt.1 (by rw[b3 x hnp hrk];exact Zt.2 h));have:=valid this;omega
 ·have hx1:Zj G' x≠.free:=fun e=>hx (Zt.2 e)
  have hx2:Zj G' x'≠.free:=fun e=>hx' (Zt.2 e);have mixed:∀ {x x' z:Nm},Zj G' x'≠.free→φ x=some z→z=x'→False:=fun {x x' z} hx' hφ e=>by
   subst e;obtain ⟨g1,g2⟩:=φs hφ;obtain ⟨⟨r1,r2,_⟩,r4⟩:=VE g2;obtain ⟨z',i1,i2,_⟩:=b4 _ r1 r2 g1;rw[g2]at i1;injection i1 with i1;subst i1;exact hx' (old i2 r4)
  cases e1:φ x with
  | none =>
   cases e2:φ x' with
   | none=>simpa [e1,e2] using e
   | some z' => simp only[e1,e2,Option.getD_none,Option.getD_some]at e;exact (mixed hx1 e2 e.symm).elim
  | some z =>
   cases e2:φ x' with
   | none=>simp only[e1,e2,Option.getD_none,Option.getD_some]at e;exact (mixed hx2 e1 e).elim
   | some z' =>
    simp only[e1,e2,Option.getD_some]at e;subst e;exact Zbt hr h00 (φs e1).2 (φs e2).2 hx1 hx2
variable {P:Program} {Q:Exit→St→Prop}
end
def Imp (m:Nat) (s s':St):Prop:=∀ w0 S N D a w,S.m=m→SatS w0 S N D s a w→SatS w0 S N D s' a w
theorem Imp.refl (m:Nat) (s:St):Imp m s s:=fun _ _ _ _ _ _ _ h=>h
theorem Imp.trans {m:Nat} {s t u:St} (h:Imp m s t) (h':Imp m t u):Imp m s u:=fun w0 S N D a w hm hs=>h' w0 S N D a w hm (h w0 S N D a w hm hs)
theorem Imp.le {m:Nat} {s s':St} (pl:List (Nat×Option Nat)) (h:LeN m pl s s'):Imp m s s':=fun _ _ _ _ _ _ hm hs=>hs.le (by rw[hm];exact h)
theorem Imp.absorb {m:Nat} {s:St} (p:Nm) (j f k:Nat) {c:List AV} {v:AV} (hown:(Zj (hk s.hl) p).own=true) (hc:Zl (Zj (hk s.hl) p) j=some c) (hv:c[f]?=some v) (hn:VU v k (hk s.hl k)) (hr:p.root≠k) :
  Imp m s ⟨s.tl,vM s.hl (Xb (hk s.hl) s.nb p j f k),s.nb+1⟩:=fun _ _ _ _ _ _ _ hs=>hs.absorb p j f k hown hc hv hn hr
section
variable {w0:World} {S:Sc} {N:Nat} {D:List Deferred} {P:Program} {s:St} {Q:Exit→St→Prop}
theorem Zju {c:MCode} {s':St} (h:Imp S.m s s') (hw:Wm P w0 S N D c s' Q):Wm P w0 S N D c s Q:=fun code hc a w hs=>hw code hc a w (h _ _ _ _ _ _ rfl hs)
def vK (m:Nat) {α:Type} (I:α→St) (R:α→Prop) (μ:α→Nat) (x:α) (Q:Exit→St→Prop):Exit→St→Prop
 | .normal,s=>∃ y,R y∧μ y<μ x∧Imp m s (I y)
 | e,s=>Q e s
theorem ZiM {c:MCode} {α:Type} (I:α→St) (R:α→Prop) (μ:α→Nat) (x0:α) (h0:R x0) (hle:Imp S.m s (I x0)) (hr:∀ x,R x→Wm P w0 S N D c (I x) (vK S.m I R μ x Q)):Wm P w0 S N D (.loop c) s Q:=fun code hc a w hs=>by
 cases code<;>simp only[rC,reduceCtorEq,Option.some.injEq]at hc
 case loop cc =>
  cases hq:rC P cc with
  | none=>simp[hq]at hc
  | some c' =>
   simp only[hq,Option.map_some,Option.some.injEq,MCode.loop.injEq]at hc;subst hc;intro b k cs;have key:∀ n x,μ x=n→R x→∀ a w,SatS w0 S N D (I x) a w →
     ∃ e a' w',(∃ s',SatS w0 S N D s' a' w'∧Q e s')∧Arrives P (lone (b.at a (.code cc :: .inLoop cc :: k)) cs w) b k cs e a' w':=by
    intro n
    induction n using Nat.strongRecOn with
    | _ n ih =>
     intro x hn hR a w hsat;obtain ⟨e,a₁,w₁,⟨s1,hs1,hq1⟩,harr⟩:=hr x hR cc hq a w hsat b (.inLoop cc :: k) cs;cases e with
     | normal =>
      obtain ⟨y,hy,hlt,hpl⟩:=hq1;obtain ⟨e₂,a₂,w₂,hq₂,harr₂⟩:=ih (μ y) (hn ▸ hlt) y rfl hy a₁ w₁ (hpl _ _ _ _ _ _ rfl hs1);exact ⟨e₂,a₂,w₂,hq₂,.of_steps (Steps.trans harr (.one step_inLoop)) harr₂⟩
     | exit id=>exact ⟨_,a₁,w₁,⟨s1,hs1,hq1⟩,.pass (x:=.inLoop cc) rfl (fun _ _=>.inl (by simp)) harr⟩
     | goto l=>exact ⟨_,a₁,w₁,⟨s1,hs1,hq1⟩,.pass (x:=.inLoop cc) rfl (fun _ _=>.inl (by simp)) harr⟩
     | ret=>exact ⟨_,a₁,w₁,⟨s1,hs1,hq1⟩,.pass (x:=.inLoop cc) rfl (fun _ _=>.inl (by simp)) harr⟩
     | panic ch=>exact ⟨_,a₁,w₁,⟨s1,hs1,hq1⟩,.pass (x:=.inLoop cc) rfl (fun _ _=>.inl (by simp)) harr⟩
     | outgrown=>exact ⟨_,a₁,w₁,⟨s1,hs1,hq1⟩,.pass (x:=.inLoop cc) rfl (fun _ _=>.inl (by simp)) harr⟩
   obtain ⟨e,a',w',hq,harr⟩:=key _ x0 rfl h0 a w (hle _ _ _ _ _ _ rfl hs);exact ⟨e,a',w',hq,.of_steps (.one step_loop) harr⟩
 all_goals ((repeat' (split at hc))<;>first|(cases hc;done)|(simp only[Option.map_eq_some_iff,reduceCtorEq,and_false,exists_false]at hc;done))
end
inductive RV where
 | t (n:Nat)
 | c (ag:Bool) (n a:Nat)
def rRV (P:Program):ResultVar→Option RV
 | .tmp t=>some (.t t)
 | .cell a t=>match vd P t,UG P t with
  | some ag,some n=>some (.c ag n a)
  | _,_=>none
def Zaj (P:Program):List ResultVar→Option (List RV)
 | []=>some []
 | x :: r=>match rRV P x,Zaj P r with
  | some y,some q=>some (y :: q)
  | _,_=>none
def Zhz (s:St):RV→Option AV
 | .t n=>match lk s.tl n with
  | .bot=>none
  | v=>some v
 | .c ag n a=>match lk s.tl a with
  | .ptr o i f=>match Zl (Zj (hk s.hl) o) i with
   | some c=>if ag=true then (if f+n≤c.length then some (.agg (((flC o (Zj (hk s.hl) o).tag i c).drop f).take n)) else none) else (c[f]?).map (flV o (Zj (hk s.hl) o).tag i f)
   | none=>none
  | _=>none
def zd (s:St):List RV→Option (List AV)
 | []=>some []
 | x :: r=>match Zhz s x,zd s r with
  | some y,some q=>some (y :: q)
  | _,_=>none
def z8 (s:St):List RV→Option AV
 | [x]=>Zhz s x
 | l=>match zd s l with
  | some q=>some (.tup q)
  | none=>none
def Zgy (res:List RV) (K:AV→St→Prop):Exit→St→Prop
 | .normal,s=>Vp (z8 s res) fun v=>K v s
 | .ret,s=>Vp (z8 s res) fun v=>K v s
 | _,_=>False
def Zcp:Nat→List AV→List (Nat×AV)
 | _,[]=>[]
 | i,v :: r=>(i,v) :: Zcp (i+1) r
theorem Zdf:∀ (avs:List AV) (i t:Nat),lk (Zcp i avs) t≠.bot→∃ j,t=i+j∧avs[j]?=some (lk (Zcp i avs) t)
 | [],_,_,h=>absurd rfl h
 | v :: r,i,t,h=>by
  simp only[Zcp,lk]at h⊢;split
  ·rename_i e;exact ⟨0,by omega,by simp⟩
  ·rename_i e
   rw[if_neg e]at h;obtain ⟨j,h1,h2⟩:=Zdf r (i+1) t h;exact ⟨j+1,by omega,by simpa using h2⟩
section
variable {P:Program} {w0:World} {S:Sc}
theorem Zi2 {s:St} {Es:Env→Prop} {U:Nm→Prop} {a:Act} {w:World} (h:Sat w0 S Es U (lk s.tl) (HF (hk s.hl)) a w) {x:ResultVar} {r:RV} (hx:rRV P x=some r) {v:AV} (hv:Zhz s r=some v) :
  ∃ u,(match x with|.tmp t=>pure (a.tmps.getD t undef)|.cell b t=>do loadVar t (← asAddr (a.tmps.getD b undef)):Sem Value).run P w=.ok u w∧∀ ρ,Es ρ→Rep ρ v u:=by
 obtain ⟨ρ0,h0⟩:=h.ne
 cases x with
 | tmp t =>
  simp only[rRV,Option.some.injEq]at hx;subst hx;have hv':lk s.tl t=v∧v≠.bot:=by
   simp only[Zhz]at hv;split at hv
   ·cases hv
   ·rename_i hne;injection hv with hv;exact ⟨hv,fun e=>hne (by rw[hv,e])⟩
  refine ⟨a.tmps.getD t undef,rfl,fun ρ hρ=>?_⟩;obtain ⟨u,h1,h2⟩:=h.tm ρ hρ t (by rw[hv'.1];exact hv'.2);rw[Array.getD_eq_getD_getElem?,h1,← hv'.1];exact h2
 | cell b t =>
  simp only[rRV]at hx;split at hx
  ·rename_i ag n hag hn
   injection hx with hx;subst hx;simp only[Zhz]at hv;split at hv
   ·rename_i o i f hp
    split at hv
    ·rename_i c hc0
     have hc:=Zd8 hc0;generalize hcc:flC o (Zj (hk s.hl) o).tag i c=cc at hc hv;have hccl:cc.length=c.length:=(by rw[← hcc];simp);have hccg:(c[f]?).map (flV o (Zj (hk s.hl) o).tag i f)=cc[f]?:=(by rw[← hcc,Xy]);rw[hccg]at hv;have addr:∀ ρ,Es ρ→(ρ o).nil=false∧a.tmps.getD b undef=.pointer (some ⟨(ρ o).blk,(ρ o).base+(i*(ρ o).sz+f),none⟩):=fun ρ hρ=>by
      obtain ⟨u,h1,h2⟩:=h.tm ρ hρ b (by rw[hp];simp);rw[hp,Rep]at h2;exact ⟨h2.1,by rw[Array.getD_eq_getD_getElem?,h1];exact h2.2⟩
     have pt:∀ ρ,Es ρ→∃ u,(do loadVar t (← asAddr (a.tmps.getD b undef)):Sem Value).run P w=.ok u w∧Rep ρ v u:=fun ρ hρ=>by
      obtain ⟨hnil,hav⟩:=addr ρ hρ;obtain ⟨vs,h1,h2,h3,h4⟩:=TN ((h.hp ρ hρ).obj o) hc hnil;cases ag
      ·simp only[Bool.false_eq_true,if_false]at hv
       obtain ⟨u,hu,hr⟩:=h1.get hv;have:=h2 f u hu;exact ⟨u,by simp[hav,asAddr,loadVar,Vh hag,← Nat.add_assoc,this],hr⟩
      ·simp only[if_true]at hv
       split at hv
       ·rename_i hle
        rw[← hccl]at hle;injection hv with hv;subst hv;have h5:=zc (T6 h2 f) n;have h6:=(h1.drop f).take n;obtain ⟨d,hd1,hd2⟩:=ZbJ hag;have hlen:((vs.drop f).take n).length=n:=(by have:=h1.length;simp;omega);have:=run_loadVar_mid (P:=P) w (ρ o).blk ((ρ o).base+i*(ρ o).sz+f) t _ d h5 hd1 hd2 (by rw[hlen];exact hn);exact ⟨.agg ((vs.drop f).take n).toArray,by simp[hav,asAddr,← Nat.add_assoc,this],by rw[Rep];exact ⟨_,rfl,by simpa using h6⟩⟩
       ·cases hv
     obtain ⟨u,h1,_⟩:=pt ρ0 h0;refine ⟨u,h1,fun ρ hρ=>?_⟩;obtain ⟨u',h1',h2'⟩:=pt ρ hρ;rw[h1]at h1';injection h1' with h1' _;rw[h1'];exact h2'
    ·cases hv
   ·cases hv
  ·cases hx
theorem T3 {s:St}:∀ (l:List RV) (q:List AV),zd s l=some q→q.length=l.length
 | [],q,h=>by simp only[zd,Option.some.injEq]at h;subst h;rfl
 | x :: l,q,h=>by
  simp only[zd]at h;split at h
  ·rename_i h3
   injection h with h;subst h;simp[T3 l _ h3]
  ·cases h
theorem yU {fn:Func} {res:List RV} (hres:Zaj P fn.results.toList=some res) {s:St} {Es:Env→Prop} {U:Nm→Prop} {a:Act} {w:World} (h:Sat w0 S Es U (lk s.tl) (HF (hk s.hl)) a w) {v:AV} (hv:z8 s res=some v) :
  ∃ u,(results fn a.tmps).run P w=.ok u w∧∀ ρ,Es ρ→Rep ρ v u:=by
 have all:∀ (l:List ResultVar) (res:List RV) (q:List AV),Zaj P l=some res→zd s res=some q→∃ us:List Value,(l.mapM fun (x:ResultVar)=>(match x with|.tmp t=>pure (a.tmps.getD t undef)|.cell b t=>do loadVar t (← asAddr (a.tmps.getD b undef)):Sem Value)).run P w=.ok us w∧∀ ρ,Es ρ→Z8 ρ q us:=by
  intro l
  induction l with
  | nil=>intro res q h1 h2;simp only[Zaj,Option.some.injEq]at h1;subst h1;simp only[zd,Option.some.injEq]at h2;subst h2;exact ⟨[],rfl,fun _ _=>rfl⟩
  | cons x l ih =>
   intro res q h1 h2;simp only[Zaj]at h1;cases hx:rRV P x with
   | none=>simp[hx]at h1
   | some y =>
    cases hl:Zaj P l with
    | none=>simp[hx,hl]at h1
    | some ys =>
     simp only[hx,hl,Option.some.injEq]at h1;subst h1;simp only[zd]at h2;cases hy:Zhz s y with
     | none=>simp[hy]at h2
     | some u =>
      cases hq:zd s ys with
      | none=>simp[hy,hq]at h2
      | some us =>
       simp only[hy,hq,Option.some.injEq]at h2;subst h2;obtain ⟨u1,r1,r2⟩:=Zi2 (P:=P) h hx hy;obtain ⟨us1,s1,s2⟩:=ih ys us hl hq;refine ⟨u1 :: us1,?_,fun ρ hρ=>⟨u1,us1,rfl,r2 ρ hρ,s2 ρ hρ⟩⟩;rw[List.mapM_cons,Sem.run_bind,r1,Result.andThen_ok,Sem.run_bind,s1]
       rfl
 have hm:∃ q,zd s res=some q∧((∃ u,q=[u]∧v=u)∨(q.length≠1∧v=.tup q)):=by
  unfold z8 at hv;split at hv
  ·exact ⟨[v],by simp[zd,hv],.inl ⟨v,rfl,rfl⟩⟩
  ·rename_i hne
   split at hv
   ·rename_i q hq
    injection hv with hv;refine ⟨q,hq,.inr ⟨fun hlen=>?_,hv.symm⟩⟩;have:=T3 res q hq
    match res,this with
    | [x],_=>exact hne x rfl
    | [],h=>rw[hlen]at h;simp at h
    | x :: y :: l,h=>rw[hlen]at h;simp at h
   ·cases hv
 obtain ⟨q,hq,hqv⟩:=hm
 obtain ⟨us,h1,h2⟩:=all fn.results.toList res q hres hq
 obtain ⟨ρ0,h0⟩:=h.ne
 have hlen:=(h2 ρ0 h0).length
 have hrun:(results fn a.tmps).run P w=.ok (if h:us.toArray.size=1 then us.toArray[0] else .tuple us.toArray) w:=by
  unfold results;rw[Array.mapM_eq_mapM_toList,Sem.run_bind,Sem.run_map];exact congrArg (fun r:Result (List Value)=>(r.andThen fun a w' => Result.ok a.toArray w').andThen fun a w' => (pure (if h:a.size=1 then a[0] else Value.tuple a):Sem Value).run P w') h1
 rcases hqv with ⟨u,rfl,rfl⟩ | ⟨hne,rfl⟩
 ·obtain ⟨x,rfl⟩:=List.length_eq_one_iff.1 hlen
  refine ⟨x,by simpa using hrun,fun ρ hρ=>?_⟩;obtain ⟨y,r,e,h3,_⟩:=h2 ρ hρ;injection e with e1 e2;rw[e1];exact h3
 ·refine ⟨.tuple us.toArray,?_,fun ρ hρ=>by rw[Rep];exact ⟨_,rfl,h2 ρ hρ⟩⟩
  rw[dif_neg (by simp;omega)]at hrun;exact hrun
theorem yr {f:FuncId} {fn:Func} {c:Code} {mc:MCode} {res:List RV} (hf:P.funcs[f]?=some fn) (hb:fn.body=some c) (hrc:rC P c=some mc) (hres:Zaj P fn.results.toList=some res)
  {avs:List AV} {vs:List Value} {hl:List (Nat×NObj)} {nb:Nat} {Es:Env→Prop} {w:World} (hne:∃ ρ,Es ρ) (hcl:∀ ρ ρ',Es ρ→(∀ x:Nm,¬ nb≤x.mx→ρ' x=ρ x)→Es ρ') (hfr:∀ x:Nm,nb≤x.mx→HF (hk hl) x=.free) (hpin:∀ ρ ρ',Es ρ→Es ρ'→∀ x,HF (hk hl) x≠.free→ρ x=ρ' x) (hp:∀ ρ,Es ρ→HCore w0 S ρ (HF (hk hl)) w) (hargs:∀ ρ,Es ρ→Z8 ρ avs vs) (hlen:avs.length≤fn.ntmps)
  {K:AV→St→Prop} (h:Wm P w0 S fn.ntmps [] mc ⟨Zcp 0 avs,hl,nb⟩ (Zgy res K)) :
  Calls P f vs.toArray w fun e w' => ∃ (v:Value) (av:AV) (s':St),e=.returned v∧K av s'∧∃ a':Act,a'.tmps=#[v]∧SatS w0 S 1 [] ⟨[(0,av)],s'.hl,s'.nb⟩ a' w':=by
 obtain ⟨ρ0,h0⟩:=hne
 have hvl:=(hargs ρ0 h0).length
 refine calls_of_wp hf hb (wp_mono (h c hrc _ w ⟨⟨Es,⟨ρ0,h0⟩,hcl,hfr,hpin,fun ρ hρ t ht=>?_,hp⟩,?_,rfl⟩) fun e a' w' ⟨s',⟨⟨Es',hs'⟩,_,hD⟩,hq⟩ => ?_)
 ·obtain ⟨j,h1,h2⟩:=Zdf avs 0 t ht
  obtain ⟨v,h3,h4⟩:=(hargs ρ hρ).get h2;refine ⟨v,?_,h4⟩;have hj:j<vs.length:=(List.getElem?_eq_some_iff.1 h3).1;rw[h1,Nat.zero_add,Array.getElem?_append_left (by simpa using hj)];simpa using h3
 ·simp;omega
 ·have fin:Vp (z8 s' res) (fun v=>K v s')→bodyPost P fn (fun e w' => ∃ (v:Value) (av:AV) (s':St),e=.returned v∧K av s'∧∃ a':Act,a'.tmps=#[v]∧SatS w0 S 1 [] ⟨[(0,av)],s'.hl,s'.nb⟩ a' w') .normal a' w':=by
   rintro ⟨av,hav,hK⟩;obtain ⟨u,hu,hr⟩:=yU hres hs' hav;refine ⟨hD,u,hu,u,av,s',rfl,hK,{ a' with tmps:=#[u],defers:=[] },rfl,⟨Es',hs'.ne,hs'.cl,hs'.fr,hs'.pin,fun ρ hρ t ht=>?_,hs'.hp⟩,rfl,rfl⟩;simp only[lk]at ht⊢;split at ht
   ·rename_i e;subst e;exact ⟨u,rfl,hr ρ hρ⟩
   ·exact absurd rfl ht
  cases e with
  | normal=>exact fin hq
  | ret=>exact fin hq
  | _=>exact hq.elim
end
end Go.W
