/- What a step depends on; steps that may be exchanged. Calls; one operation of a region; a region in the order of its text; a region that draws its order. -/
import Derived.Test.YtidbbnkpglggdaaGreatWL
namespace Go.W
set_option linter.unusedSimpArgs false
set_option linter.unusedVariables false
def X.looks:X→List Nat
 | .t n=>[n]
 | .c _=>[]
def optL (x:Option X):List Nat:=x.elim [] X.looks
def MOp.looks:MOp→List Nat
 | .mv x | .box x | .load _ _ x | .nilck x | .un _ x | .conv _ x | .mkif _ x | .faddr _ x | .fld _ _ _ x | .len x | .slen x | .cap x | .ext x _ | .tas _ _ _ x=>x.looks
 | .pick c a b=>c.looks++(a.looks++b.looks)
 | .alloc _ | .stop=>[]
 | .store _ x y | .bin _ x y | .eq _ _ x y | .iaddr _ x y | .paddr _ _ x y | .idx _ _ _ x y | .app _ _ x y | .appz _ _ x y | .mks _ _ _ x y=>x.looks++y.looks
 | .slc _ x lo hi=>x.looks++(optL lo++optL hi)
 | .mn xs | .mx xs | .mkfn _ xs=>xs.flatMap X.looks
 | .build _ ps | .bsl _ _ _ ps=>ps.flatMap fun p=>p.2.2.looks
 | .call f args=>f.looks++args.flatMap X.looks
 | .clr _ x=>x.looks
 | .mp o=>match o with
  | .mk=>[]
  | .ln x | .rg x | .nx x | .nt x=>x.looks
  | .lk _ _ x k | .en _ x k=>x.looks++k.looks
  | .up x k v | .st x k v=>x.looks++(k.looks++v.looks)
def MO.looks (o:MO):List Nat:=(match o.g with|some (s,_)=>[s]|none=>[])++o.op.looks
section
variable {T T':Nat→AV}
theorem Zy {x:X} (h:∀ t,t∈x.looks→T t=T' t):x.ev T'=x.ev T:=by
 cases x with
 | t n=>exact (h n (by simp[X.looks])).symm
 | c v=>rfl
theorem U3:∀ {l:List X},(∀ t,t∈l.flatMap X.looks→T t=T' t)→l.map (X.ev T')=l.map (X.ev T)
 | [],_=>rfl
 | x :: r,h=>by
  simp only[List.flatMap_cons,List.mem_append]at h;rw[List.map_cons,List.map_cons,Zy fun t ht=>h t (.inl ht),U3 fun t ht=>h t (.inr ht)]
theorem zY:∀ {l:List (Nat×Nat×X)},(∀ t,t∈(l.flatMap fun p=>p.2.2.looks)→T t=T' t)→Vw T' l=Vw T l
 | [],_=>rfl
 | (a,b,x) :: r,h=>by
  simp only[List.flatMap_cons,List.mem_append]at h;have:=zY (l:=r) fun t ht=>h t (.inr ht);unfold Vw at this⊢;rw[List.map_cons,List.map_cons,this];simp only[Zy fun t ht=>h t (.inl ht)]
theorem zG {x:Option X} {d:AV} (h:∀ t,t∈optL x→T t=T' t):x.elim d (X.ev T')=x.elim d (X.ev T):=by
 cases x with
 | none=>rfl
 | some y=>exact Zy h
theorem ZU {G G':NH}:∀ {p:Nm},G p.root=G' p.root→Zj G' p=Zj G p
 | .top n,h=>h.symm
 | .sub q t j f,h=>by rw[Zj,Zj,ZU (p:=q) h]
theorem UT (G:NH):∀ (p:Nm) (o:NObj),(wr G p o).1=p.root
 | .top n,o=>rfl
 | .sub q t j f,o=>by rw[wr];exact UT G q _
theorem ya {G G':NH}:∀ {p:Nm} {o:NObj},G p.root=G' p.root→wr G' p o=wr G p o
 | .top n,o,h=>rfl
 | .sub q t j f,o,h=>by
  rw[wr,wr,ZU (p:=q) h,ZU (p:=.sub q t j f) h];exact ya h
theorem Ui {G:NH} {p:Nm} (h:Zj G p≠.free):G p.root≠.free:=fun e=>h (XI e rfl)
theorem vV {G G':NH} {v:AV} {els:List (List AV)} {rd:List Nat} {sz:Nat} (h:zi G v=some (els,rd,sz)) (hG:∀ x,x∈rd→G x=G' x):zi G' v=some (els,rd,sz):=by
 cases v<;>(try simp only[zi,reduceCtorEq]at h⊢)
 case raw v =>
  obtain ⟨ad,c,rfl,rfl,rfl,rfl⟩:=vR h
  rfl
 case nsl=>exact h
 case sl p i n =>
  have key:rd=[p.root]:=by
   cases ho:Zj G p<;>rw[ho]at h<;>simp only[reduceCtorEq]at h
   all_goals
    split at h
    ·simp only[Option.some.injEq,Prod.mk.injEq]at h;exact h.2.1.symm
    ·cases h
  rw[ZU (hG p.root (by rw[key];simp))];exact h
theorem Zb1 {H:Nm→AObj} {nb:Nm} {m:MOp} (hp:m.isPure=true) (hT:∀ t,t∈m.looks→T t=T' t):Zv T' H nb m=Zv T H nb m:=by
 cases m<;>simp only[MOp.isPure,Bool.false_eq_true]at hp<;>simp only[MOp.looks,List.mem_append]at hT<;>simp only[Zv]
 case mv x=>rw[Zy hT]
 case pick c a b=>rw[Zy fun t ht=>hT t (.inl ht),Zy (x:=a) fun t ht=>hT t (.inr (.inl ht)),Zy (x:=b) fun t ht=>hT t (.inr (.inr ht))]
 case nilck x=>rw[Zy hT]
 case bin op x y=>rw[Zy fun t ht=>hT t (.inl ht),Zy (x:=y) fun t ht=>hT t (.inr ht)]
 case eq ng k x y=>rw[Zy fun t ht=>hT t (.inl ht),Zy (x:=y) fun t ht=>hT t (.inr ht)]
 case un op x=>rw[Zy hT]
 case conv k x=>rw[Zy hT]
 case mkif t x=>rw[Zy hT]
 case faddr off x=>rw[Zy hT]
 case fld ag off n x=>rw[Zy hT]
 case paddr len sz x i=>rw[Zy fun t ht=>hT t (.inl ht),Zy (x:=i) fun t ht=>hT t (.inr ht)]
 case idx ag len sz x i=>rw[Zy fun t ht=>hT t (.inl ht),Zy (x:=i) fun t ht=>hT t (.inr ht)]
 case len x=>rw[Zy hT]
 case slen x=>rw[Zy hT]
 case cap x=>rw[Zy hT]
 case mn xs=>rw[U3 hT]
 case mx xs=>rw[U3 hT]
 case build z ps=>rw[zY hT]
 case ext x i=>rw[Zy hT]
 case tas t z ok x=>rw[Zy hT]
 case mkfn f cap=>rw[U3 hT]
theorem U9 {E:FuncId→Option Spec} {G G':NH} {nb:Nat} {m:MOp} {r:Res} (hT:∀ t,t∈m.looks→T t=T' t) (hs:YL E T G nb m=some r) (hG:∀ x,x∈r.rd∨x∈r.hs.map (·.1)→G x=G' x):YL E T' G' nb m=some r:=by
 by_cases hp:m.isPure=true
 ·rw[TQ hp]at hs⊢
  rw[Zb1 hp hT];exact hs
 cases m<;>simp only[MOp.isPure,not_true_eq_false,Bool.false_eq_true,not_false_eq_true]at hp<;>simp only[MOp.looks,List.mem_append]at hT<;>simp only[YL]at hs⊢
 case alloc z=>exact hs
 case mp o=>cases hs
 case clr sz x =>
  rw[Zy hT];split at hs
  ·rename_i p s n hx
   have key:p∈r.hs.map (·.1):=by
    split at hs
    ·split at hs
     ·injection hs with hs;rw[← hs];simp
     ·cases hs
    ·cases hs
   try rw[hx]
   try simp only
   rw[← hG _ (.inr key)];exact hs
  ·cases hs
 case box x=>rw[Zy hT];exact hs
 case load ag n x =>
  rw[Zy hT];split at hs
  ·rename_i p i f hx
   have key:p.root∈r.rd:=by
    split at hs
    ·split at hs
     ·split at hs
      ·injection hs with hs;rw[← hs];simp
      ·cases hs
     ·split at hs
      ·injection hs with hs;rw[← hs];simp
      ·cases hs
    ·cases hs
   try rw[hx]
   try simp only
   rw[ZU (hG _ (.inl key))];exact hs
  ·cases hs
 case store n x y =>
  rw[Zy fun t ht=>hT t (.inl ht),Zy (x:=y) fun t ht=>hT t (.inr ht)];split at hs
  ·rename_i p i f hx
   try rw[hx]
   try simp only
   split at hs
   ·rename_i hc
    split at hs
    ·rename_i o' ho'
     injection hs with hs;have key:G p.root=G' p.root:=hG _ (.inr (by rw[← hs];simp[UT]));rw[if_pos hc,ZU key,ho'];simp only;rw[ya key,hs]
    ·cases hs
   ·cases hs
  ·cases hs
 case iaddr sz x i =>
  rw[Zy fun t ht=>hT t (.inl ht),Zy (x:=i) fun t ht=>hT t (.inr ht)];split at hs
  ·rename_i p s n k j hx hi
   try rw[hx,hi]
   try simp only
   have key:p.root∈r.rd:=by
    split at hs
    ·split at hs
     ·injection hs with hs;rw[← hs];simp
     ·cases hs
    ·cases hs
   rw[ZU (hG _ (.inl key))];exact hs
  ·cases hs
 case stop=>cases hs
 case slc sz x lo hi =>
  rw[Zy fun t ht=>hT t (.inl ht)];split at hs
  ·rename_i p s n hx
   try rw[hx]
   try simp only
   rw[zG (x:=lo) fun t ht=>hT t (.inr (.inl ht)),zG (x:=hi) fun t ht=>hT t (.inr (.inr ht))];split at hs
   ·rename_i h1 h2
    try rw[h1,h2]
    try simp only
    have key:p.root∈r.rd:=by
     split at hs
     ·split at hs
      ·injection hs with hs;rw[← hs];simp
      ·cases hs
     ·cases hs
    rw[ZU (hG _ (.inl key))];exact hs
   ·cases hs
  ·rename_i hx
   try rw[hx]
   try simp only
   rw[zG (x:=lo) fun t ht=>hT t (.inr (.inl ht)),zG (x:=hi) fun t ht=>hT t (.inr (.inr ht))];exact hs
  ·cases hs
 case app sz bytes x y =>
  rw[Zy fun t ht=>hT t (.inl ht),Zy (x:=y) fun t ht=>hT t (.inr ht)];split at hs
  ·rename_i els' rd sz' hy
   split at hs
   ·rename_i hsz
    split at hs
    ·rename_i hx
     split at hs
     ·rename_i hb
      injection hs with hs;rw[vV hy fun z hz=>hG z (.inl (by rw[← hs];exact hz))]
      try simp only
      rw[if_pos hsz]
      try rw[hx]
      try simp only
      rw[if_pos hb,hs]
     ·cases hs
    ·rename_i p s n hx
     cases hzo:Zj G p<;>rw[hzo]at hs<;>simp only[reduceCtorEq]at hs;rename_i t0 sz2 els;split at hs
     ·rename_i hb
      injection hs with hs;have key:G p.root=G' p.root:=hG _ (.inr (by rw[← hs];simp[UT]));rw[vV hy fun z hz=>hG z (.inl (by rw[← hs];exact hz))]
      try simp only
      rw[if_pos hsz]
      try rw[hx]
      try simp only
      rw[ZU key,hzo]
      try simp only
      rw[if_pos hb,ya key,hs]
     ·cases hs
    ·cases hs
   ·cases hs
  ·cases hs
 case appz sz bytes x y=>rw[Zy fun t ht=>hT t (.inl ht),Zy (x:=y) fun t ht=>hT t (.inr ht)];exact hs
 case mks sz bytes z l c=>rw[Zy fun t ht=>hT t (.inl ht),Zy (x:=c) fun t ht=>hT t (.inr ht)];exact hs
 case bsl sz n z ps=>rw[zY hT];exact hs
 case call f args =>
  rw[Zy fun t ht=>hT t (.inl ht),U3 fun t ht=>hT t (.inr ht)];split at hs
  ·rename_i g cap hf
   try rw[hf]
   try simp only
   split at hs
   ·rename_i sp hsp
    try rw[hsp]
    exact sp.loc _ _ _ _ _ hs hG
   ·cases hs
  ·cases hs
theorem ZbL {E:FuncId→Option Spec} {G:NH} {nb:Nat} {m:MOp} {r:Res} (hs:YL E T G nb m=some r):∀ x,x∈r.hs.map (·.1)→(nb≤x∧x<nb+r.n)∨G x≠.free:=by
 by_cases hp:m.isPure=true
 ·rw[TQ hp]at hs
  cases hf:Zv T noH (.top 0) m with
  | none=>simp[hf]at hs
  | some rf=>simp only[hf,Option.map_some,Option.some.injEq]at hs;subst hs;intro x hx;simp[XX]at hx
 cases m<;>simp only[MOp.isPure,not_true_eq_false,Bool.false_eq_true,not_false_eq_true]at hp<;>simp only[YL]at hs
 case mp o=>cases hs
 case clr sz x =>
  split at hs
  ·split at hs
   ·rename_i t sz' els hp
    split at hs
    ·injection hs with hs
     rw[← hs];intro z hz;simp at hz;subst hz;right;rw[hp];simp
    ·cases hs
   ·cases hs
  ·cases hs
 case call f args =>
  split at hs
  ·split at hs
   ·rename_i sp hsp;exact sp.nm _ _ _ _ hs
   ·cases hs
  ·cases hs
 case store n x y =>
  split at hs
  ·rename_i p i f hx
   split at hs
   ·split at hs
    ·rename_i o' ho
     injection hs with hs;rw[← hs];intro z hz;simp[UT]at hz;subst hz;right;refine Ui fun e=>?_;rw[e]at ho;cases ho
    ·cases hs
   ·cases hs
  ·cases hs
 case app sz bytes x y =>
  split at hs
  ·split at hs
   ·split at hs
    ·split at hs
     ·injection hs with hs;rw[← hs];intro z hz;simp at hz;subst hz;exact .inl ⟨Nat.le_refl _,by simp⟩
     ·cases hs
    ·rename_i p s n hx
     cases hzo:Zj G p<;>rw[hzo]at hs<;>simp only[reduceCtorEq]at hs;split at hs
     ·injection hs with hs
      rw[← hs];intro z hz;simp[UT]at hz;rcases hz with rfl|rfl
      ·right;exact Ui (by rw[hzo];simp)
      ·exact .inl ⟨Nat.le_refl _,by simp⟩
     ·cases hs
    ·cases hs
   ·cases hs
  ·cases hs
 all_goals (repeat' (split at hs))
 all_goals first|(cases hs;done)|(injection hs with hs;rw[← hs];intro z hz;simp at hz;subst hz;exact .inl ⟨Nat.le_refl _,by simp⟩)|(injection hs with hs;rw[← hs];intro z hz;simp at hz)
end
structure Sound (P:Program) (f:FuncId) (sp:Spec):Prop where
 fn:∃ fn,P.funcs[f]?=some fn∧(fn.name == "runtime.NumGoroutine")=false∧fn.body.isNone=false
 calls:∀ (w0:World) (S:Sc) (Es:Env→Prop) (U:Nm→Prop) (H:NH) (w:World) (avs:List AV) (vs:List Value) (nb:Nat) (r:Res),(∃ ρ,Es ρ)→(∀ ρ ρ',Es ρ→(∀ x,¬ U x→ρ' x=ρ x)→Es ρ')→(∀ x,U x→HF H x=.free)→(∀ ρ ρ',Es ρ→Es ρ'→∀ x,HF H x≠.free→ρ x=ρ' x) →
  (∀ ρ,Es ρ→HCore w0 S ρ (HF H) w)→(∀ ρ,Es ρ→Z8 ρ avs vs)→sp.fn avs H nb=some r→(∀ x:Nm,nb≤x.mx∧x.mx<nb+r.n→U x) →
  (Calls P f vs.toArray w fun e w' => ∃ (v:Value) (g:Env),e=.returned v∧∀ ρ,Es ρ→(∀ x:Nm,nb≤x.mx∧x.mx<nb+r.n→ρ x=g x)→Rep ρ r.v v∧HCore w0 S ρ (HF (Yr H r.hs)) w') ∧
  ∀ x:Nm,¬ (nb≤x.mx∧x.mx<nb+r.n)→Zj (Yr H r.hs) x≠.free→Zj H x≠.free
def Adv (Es:Env→Prop) (H:NH) (Es':Env→Prop) (H':NH) (F:Nm→Prop):Prop:=(∃ g:Env,∀ ρ,Es ρ→(∀ x,F x→ρ x=g x)→Es' ρ)∧∀ x,¬ F x→Zj H' x≠.free→Zj H x≠.free
theorem Adv.refl (Es:Env→Prop) (H:NH) (F:Nm→Prop):Adv Es H Es H F:=⟨⟨fun _=>⟨0,0,0,0,false⟩,fun _ h _=>h⟩,fun _ _ h=>h⟩
theorem Adv.mono {Es Es':Env→Prop} {H H':NH} {F F':Nm→Prop} (h:Adv Es H Es' H' F) (hF:∀ x,F x→F' x):Adv Es H Es' H' F' :=
 ⟨h.1.imp fun g hg ρ h1 h2=>hg ρ h1 fun x hx=>h2 x (hF x hx),fun x hx=>h.2 x fun hf=>hx (hF x hf)⟩
theorem Adv.trans {Es Es1 Es2:Env→Prop} {H H1 H2:NH} {F1 F2 F:Nm→Prop} (h1:Adv Es H Es1 H1 F1) (h2:Adv Es1 H1 Es2 H2 F2) (hd:∀ x,F1 x→¬ F2 x) (hF:∀ x,F1 x∨F2 x→F x):Adv Es H Es2 H2 F:=by
 obtain ⟨⟨g1,k1⟩,n1⟩:=h1;obtain ⟨⟨g2,k2⟩,n2⟩:=h2
 classical
 refine ⟨⟨fun x=>if F1 x then g1 x else g2 x,fun ρ hρ hx=>k2 ρ (k1 ρ hρ fun x h=>?_) fun x h=>?_⟩,fun x hx h=>n1 x (fun hf=>hx (hF x (.inl hf))) (n2 x (fun hf=>hx (hF x (.inr hf))) h)⟩
 ·rw[hx x (hF x (.inl h))];exact if_pos h
 ·rw[hx x (hF x (.inr h))];exact if_neg fun h' => hd x h' h
def Zd (P:Program) (E:FuncId→Option Spec):Prop:=∀ f sp,E f=some sp→Sound P f sp
def US:Value→Bool
 | .tuple _=>true
 | _=>false
def XH (E:FuncId→Option Spec) (T:Nat→AV) (H:NH) (nb:Nat) (mo:MO):Option Res :=
 match mo.g with
 | none=>YL E T H nb mo.op
 | some (s,want)=>match T s with
  | .bool b=>if b=want then YL E T H nb mo.op else some ⟨.raw undef,[],[],8⟩
  | .raw v=>if US v=true then some ⟨.raw undef,[],[],8⟩ else none
  | _=>none
def yu (T:Nat→AV) (mo:MO) (r:Res):Nat→AV:=match mo.dst with
 | some d=>upd T d r.v
 | none=>T
theorem X0:∀ (hs:List (Nat×NObj)) (H:NH) (x:Nat),x ∉ hs.map (·.1)→Yr H hs x=H x
 | [],_,_,_=>rfl
 | (y,o) :: r,H,x,h=>by
  simp only[List.map_cons,List.mem_cons,not_or]at h;rw[Yr,X0 r _ x h.2,Zn _ _ h.1]
theorem Zfr {E:FuncId→Option Spec} {T:Nat→AV} {H:NH} {nb:Nat} {m:MO} {r:Res} (hs:XH E T H nb m=some r):∀ x,x∈r.hs.map (·.1)→(nb≤x∧x<nb+r.n)∨H x≠.free:=by
 unfold XH at hs;split at hs
 ·exact ZbL hs
 ·split at hs
  ·split at hs
   ·exact ZbL hs
   ·injection hs with hs;rw[← hs];intro z hz;simp at hz
  ·split at hs
   ·injection hs with hs;rw[← hs];intro z hz;simp at hz
   ·cases hs
  ·cases hs
section
variable {P:Program} {w0:World} {S:Sc} {Es:Env→Prop} {U:Nm→Prop} {T:Nat→AV} {H:NH} {a:Act} {w:World} {E:FuncId→Option Spec}
theorem Sat.next (h:Sat w0 S Es U T (HF H) a w) {mo:MO} {r:Res} {F:Nm→Prop} (hF:∀ x,F x→U x) (hnw:∀ x,¬ F x→Zj (Yr H r.hs) x≠.free→Zj H x≠.free) (hd:∀ d,mo.dst=some d→d<a.tmps.size) {w':World} {g:Env} {v:Value}
  (hv:r.v≠.bot→∀ ρ,Es ρ→(∀ x,F x→ρ x=g x)→Rep ρ r.v v) (hw:∀ ρ,Es ρ→(∀ x,F x→ρ x=g x)→HCore w0 S ρ (HF (Yr H r.hs)) w') :
  Sat w0 S (fun ρ=>Es ρ∧∀ x,F x→ρ x=g x) (fun x=>U x∧¬ F x) (yu T mo r) (HF (Yr H r.hs)) (a.put mo.dst v) w' where
 ne:=by
  obtain ⟨ρ0,h0⟩:=h.ne
  classical
  refine ⟨fun x=>if F x then g x else ρ0 x,h.cl ρ0 _ h0 fun x hx=>if_neg fun hf=>hx (hF x hf),fun x hx=>if_pos hx⟩
 cl:=fun ρ ρ' hρ he=>⟨h.cl ρ ρ' hρ.1 fun x hx=>he x fun hu=>hx hu.1,fun x hx=>by rw[he x fun hu=>hu.2 hx];exact hρ.2 x hx⟩
 fr:=fun x hx=>by
  by_cases e:Zj (Yr H r.hs) x=.free
  ·exact Zt.2 e
  ·exact absurd (Zt.1 (h.fr x hx.1)) (hnw x hx.2 e)
 pin:=fun ρ ρ' hρ hρ' x hx=>by
  by_cases hf:F x
  ·rw[hρ.2 x hf,hρ'.2 x hf]
  ·exact h.pin ρ ρ' hρ.1 hρ'.1 x fun e=>hnw x hf (fun e' => hx (Zt.2 e')) (Zt.1 e)
 tm:=fun ρ hρ t ht=>by
  unfold yu at ht⊢;cases hdst:mo.dst with
  | none =>
   simp only[hdst]at ht⊢;exact h.tm ρ hρ.1 t ht
  | some d =>
   simp only[hdst]at ht⊢;by_cases e:t=d
   ·subst e
    rw[Zx]at ht⊢;refine ⟨v,?_,hv ht ρ hρ.1 hρ.2⟩;simp[Act.put,hd t hdst]
   ·rw[Zn _ _ e]at ht⊢
    obtain ⟨u,hu,hr⟩:=h.tm ρ hρ.1 t ht;refine ⟨u,?_,hr⟩;simp only[Act.put];rw[Array.getElem?_setIfInBounds_ne (fun e' => e e'.symm)];exact hu
 hp:=fun ρ hρ=>hw ρ hρ.1 hρ.2
theorem Zfm {op:Op} {f:X} {args:List X} (hm:rOp P op=some (.call f args)):∃ fo ca aty,op=.call { callee:=.value fo,args:=ca,argTypes:=aty }∧f=rX fo∧args=ca.toList.map rX:=by
 cases op with
 | call c =>
  obtain ⟨callee,ca,aty⟩:=c;cases callee with
  | value fo=>simp only[rOp,Option.some.injEq,MOp.call.injEq]at hm;exact ⟨fo,ca,aty,rfl,hm.1.symm,hm.2.symm⟩
  | invoke q s=>simp only[rOp,reduceCtorEq]at hm
  | builtin b =>
   exfalso;cases b<;>simp only[rOp,reduceCtorEq,Option.some.injEq]at hm
   all_goals (repeat' (split at hm))
   all_goals first|(cases hm;done)|(simp only[reduceCtorEq,Option.some.injEq]at hm;done)
 | alloc t=>simp only[rOp]at hm;cases hz:YJ P t<;>simp[hz]at hm
 | build t ps =>
  exfalso;simp only[rOp]at hm
  (repeat' (split at hm))
  all_goals first|(cases hm;done)|(simp only[Option.map_eq_some_iff,reduceCtorEq,and_false,exists_false]at hm;done)
 | buildSlice t n ps =>
  exfalso;simp only[rOp]at hm
  (repeat' (split at hm))
  all_goals first|(cases hm;done)|(simp only[Option.map_eq_some_iff,reduceCtorEq,and_false,exists_false]at hm;done)
 | slice t x lo hi mx =>
  exfalso;cases mx<;>simp only[rOp,reduceCtorEq]at hm
  (repeat' (split at hm))
  all_goals first|(cases hm;done)|(simp only[reduceCtorEq,Option.some.injEq]at hm;done)
 | makeFunc fn q q2 =>
  exfalso;cases fn<;>simp only[rOp,reduceCtorEq]at hm
  (repeat' (split at hm))
  all_goals first|(cases hm;done)|(simp only[reduceCtorEq,Option.some.injEq]at hm;done)
 | makeMap t r=>exfalso;cases r<;>simp only[rOp,reduceCtorEq,Option.map_eq_some_iff,and_false,exists_false]at hm
 | next x b=>exfalso;cases b<;>simp only[rOp,reduceCtorEq,Option.some.injEq]at hm
 | mapUpdate t x k v=>exfalso;simp only[rOp,reduceCtorEq,Option.map_eq_some_iff,and_false,exists_false]at hm
 | entryStore t x k v=>exfalso;simp only[rOp,reduceCtorEq,Option.map_eq_some_iff,and_false,exists_false]at hm
 | range t x=>exfalso;simp only[rOp,reduceCtorEq,Option.map_eq_some_iff,and_false,exists_false]at hm
 | lookup t x k ok =>
  exfalso;simp only[rOp]at hm;split at hm
  ·simp only[reduceCtorEq,Option.map_eq_some_iff,and_false,exists_false]at hm
  ·cases hm
 | mapEntry t x k =>
  exfalso;simp only[rOp]at hm;split at hm
  ·simp only[reduceCtorEq,Option.map_eq_some_iff,and_false,exists_false]at hm
  ·cases hm
 | _ =>
  exfalso;simp only[rOp,reduceCtorEq,Option.some.injEq]at hm
  try (repeat' (split at hm))
  all_goals first|(cases hm;done)|(simp only[reduceCtorEq,Option.some.injEq]at hm;done)
theorem Zi7 {m:MOp} {nb:Nat} {r:Res} (hc:m.isCall=false) (hs:YL E T H nb m=some r):r.n=8:=by
 cases m<;>simp only[MOp.isCall,Bool.true_eq_false]at hc<;>simp only[YL,Option.map_eq_some_iff]at hs
 all_goals first|(obtain ⟨rf,_,rfl⟩:=hs;rfl)|skip
 all_goals (repeat' (split at hs))
 all_goals first|(cases hs;done)|(injection hs with hs;rw[← hs])
theorem Zid (hE:Zd P E) (h:Sat w0 S Es U T (HF H) a w) {o:Oper} {nb:Nat} {f:X} {args:List X} {r:Res} (hm:rOp P o.op=some (.call f args)) (hs:YL E T H nb (.call f args)=some r) (hF:∀ x:Nm,nb≤x.mx∧x.mx<nb+r.n→U x)
  {K:Act→World→Prop} {Q:Exit→Act→World→Prop} (hK:∀ (v:Value) (w':World) (g:Env),(∀ ρ,Es ρ→(∀ x:Nm,nb≤x.mx∧x.mx<nb+r.n→ρ x=g x)→Rep ρ r.v v∧HCore w0 S ρ (HF (Yr H r.hs)) w')→(∀ x:Nm,¬ (nb≤x.mx∧x.mx<nb+r.n)→Zj (Yr H r.hs) x≠.free→Zj H x≠.free)→K (a.put o.dst v) w'):o.wp P a w K Q:=by
 simp only[YL]at hs
 split at hs
 ·rename_i g cap hf
  split at hs
  ·rename_i sp hsp
   obtain ⟨fo,ca,aty,ho,hff,hargs⟩:∃ fo ca aty,o.op=.call { callee:=.value fo,args:=ca,argTypes:=aty }∧f=rX fo∧args=ca.toList.map rX:=by
    exact Zfm hm
   subst hff hargs;have hsound:=hE g sp hsp;obtain ⟨fn,hfn,hname,hbody⟩:=hsound.fn;obtain ⟨ρ0,h0⟩:=h.ne;have hfe:=h.ev h0 fo;rw[hf,Rep]at hfe;obtain ⟨cs,hfe,_⟩:=hfe;have hreps:∀ ρ,Es ρ→Z8 ρ (List.map (X.ev T) (List.map rX ca.toList)++cap) (ca.toList.map a.eval++cs.toList):=fun ρ hρ=>by
    have h1:=h.ev hρ fo;rw[hf,Rep]at h1;obtain ⟨cs',h1,h2⟩:=h1;rw[hfe]at h1;simp only[Value.func.injEq,true_and]at h1;subst h1;exact (Zdj h hρ ca.toList).append h2
   have hcalls:=hsound.calls w0 S Es U H w _ _ nb r h.ne h.cl h.fr h.pin h.hp hreps hs hF;have hex:(execOp a.eval o).run P w=.ok (.enter g (ca.toList.map a.eval++cs.toList).toArray) w:=by
    have e:(ca.map a.eval)++cs=(ca.toList.map a.eval++cs.toList).toArray:=(by apply Array.ext';simp);have hname':¬ fn.name="runtime.NumGoroutine":=(by simpa using hname);have hbody':¬ fn.body=none:=(by intro e;rw[e]at hbody;cases hbody);simp[execOp,ho,resolve,hfe,Deferred.ofValue,invoke,callFunc,hfn,hname',hbody',e]
   unfold Oper.wp;rw[hex,Oper.upon_enter];refine hcalls.1.mono fun e w' he=>?_;obtain ⟨v,gg,rfl,hvv⟩:=he;exact hK v w' gg hvv hcalls.2
  ·cases hs
 ·cases hs
theorem vl {ops:Array Oper} {tmps:Array Value} {j s:Nat} {b:Bool} (hj:(ops[j]?).bind (·.dst)=some s) (hv:tmps[s]?=some (.bool b)):yielded ops tmps j=some b:=by
 unfold yielded;rw[hj];simp[hv]
theorem ZhX (hE:Zd P E) (h:Sat w0 S Es U T (HF H) a w) {ops:Array Oper} {i:Nat} {o:Oper} {mo:MO} {nb:Nat} {r:Res} (hi:ops[i]?=some o) (hmo:rO P ops o=some mo) (hs:XH E T H nb mo=some r) (hF:∀ x:Nm,nb≤x.mx∧x.mx<nb+r.n→U x) (hd:∀ d,mo.dst=some d→d<a.tmps.size)
  {K:Act→World→Prop} {Q:Exit→Act→World→Prop} (hK:∀ Es' a' w',Sat w0 S Es' (fun x:Nm=>U x∧¬ (nb≤x.mx∧x.mx<nb+r.n)) (yu T mo r) (HF (Yr H r.hs)) a' w'→a'.defers=a.defers→a'.tmps.size=a.tmps.size→Adv Es H Es' (Yr H r.hs) (fun x:Nm=>nb≤x.mx∧x.mx<nb+r.n)→K a' w'):wpOp P ops Q i K a w:=by
 unfold rO at hmo
 split at hmo
 ·rename_i m hm
  have putsize:∀ (d:Option Tmp) (v:Value),(a.put d v).tmps.size=a.tmps.size∧(a.put d v).defers=a.defers:=fun d v=>by cases d<;>simp[Act.put]
  have exec:∀ {g:Option (Nat×Bool)},mo=⟨o.dst,m,g⟩→YL E T H nb m=some r→o.wp P a w K Q:=by
   intro g hmo hst;have hdst:mo.dst=o.dst:=(by rw[hmo]);cases hcall:m.isCall with
   | true =>
    cases m<;>simp only[MOp.isCall,Bool.false_eq_true]at hcall;rename_i f args;refine Zid hE h hm hst hF fun v w' gg hvv hnw=>?_;have:=h.next (mo:=mo) (r:=r) (F:=fun x:Nm=>nb≤x.mx∧x.mx<nb+r.n) hF hnw hd (v:=v) (fun _ ρ hρ hg=>(hvv ρ hρ hg).1) (fun ρ hρ hg=>(hvv ρ hρ hg).2);rw[hdst]at this;exact hK _ _ _ this (putsize _ _).2 (putsize _ _).1 ⟨⟨gg,fun ρ h1 h2=>⟨h1,h2⟩⟩,hnw⟩
   | false =>
    obtain ⟨⟨w',gg,nx,h1,h2,h3⟩,hnm⟩:=ZgF h (F:=fun x:Nm=>nb≤x.mx∧x.mx<nb+r.n) (nb:=nb) (fun x hx=>by have:=Zi7 hcall hst;omega) hF hm hcall hst;unfold Oper.wp;rw[h1];rcases h2 with ⟨v,rfl,hv⟩ | ⟨rfl,hv⟩
    ·rw[Oper.upon_value]
     have:=h.next (mo:=mo) (r:=r) (F:=fun x:Nm=>nb≤x.mx∧x.mx<nb+r.n) hF hnm hd (v:=v) (fun _=>hv) h3;rw[hdst]at this;exact hK _ _ _ this (putsize _ _).2 (putsize _ _).1 ⟨⟨gg,fun ρ h1 h2=>⟨h1,h2⟩⟩,hnm⟩
    ·rw[Oper.upon_skip]
     have:=h.next (mo:=mo) (r:=r) (F:=fun x:Nm=>nb≤x.mx∧x.mx<nb+r.n) hF hnm hd (v:=undef) (fun hb=>absurd hv hb) h3;rw[hdst]at this;exact hK _ _ _ this (putsize _ _).2 (putsize _ _).1 ⟨⟨gg,fun ρ h1 h2=>⟨h1,h2⟩⟩,hnm⟩
  unfold wpOp;simp only[hi];cases hg:o.guard with
  | none =>
   simp only[hg,Option.some.injEq]at hmo;have hw:Region.wanted o (yielded ops a.tmps)=true:=(by simp[Region.wanted,hg]);rw[if_pos hw];refine .inl (exec hmo.symm ?_);rw[← hmo]at hs;exact hs
  | some jw =>
   obtain ⟨j,want⟩:=jw;simp only[hg]at hmo;split at hmo
   ·rename_i s hj
    injection hmo with hmo;have hs':=hs;rw[← hmo]at hs';simp only[XH]at hs';split at hs'
    ·rename_i b hb
     obtain ⟨ρ0,h0⟩:=h.ne;obtain ⟨u,hu,hr⟩:=h.tm ρ0 h0 s (by rw[hb];simp);rw[hb,Rep]at hr;subst hr;have hy:=vl hj hu;have hw:Region.wanted o (yielded ops a.tmps)=(b == want):=(by simp[Region.wanted,hg,hy]);rw[hw];split at hs'
     ·rename_i e
      rw[if_pos (by simp[e])];exact .inl (exec hmo.symm hs')
     ·rename_i e
      rw[if_neg (by simp[e])];injection hs' with hs';obtain ⟨ρ1,h1⟩:=h.ne;have hdst:mo.dst=o.dst:=(by rw[← hmo]);have:=h.next (mo:=mo) (r:=r) (F:=fun x:Nm=>nb≤x.mx∧x.mx<nb+r.n) hF (fun x _ hx=>by rw[← hs']at hx;exact hx) hd (v:=undef) (g:=ρ1) (fun _ ρ _ _=>by rw[← hs',Rep]) (fun ρ hρ _=>by rw[← hs'];exact h.hp ρ hρ);rw[hdst]at this;exact hK _ _ _ this (putsize _ _).2 (putsize _ _).1 ⟨⟨ρ1,fun ρ h1 h2=>⟨h1,h2⟩⟩,fun x _ hx=>by rw[← hs']at hx;exact hx⟩
    ·rename_i uv hb
     split at hs'
     ·rename_i hun
      obtain ⟨ρ0,h0⟩:=h.ne;obtain ⟨u,hu,hr⟩:=h.tm ρ0 h0 s (by rw[hb];simp);rw[hb,Rep]at hr;subst hr;have hy:yielded ops a.tmps j=none:=by
       unfold yielded;rw[hj];cases u<;>simp[US]at hun;simp[hu]
      have hw:Region.wanted o (yielded ops a.tmps)=false:=(by simp[Region.wanted,hg,hy]);rw[hw,if_neg (by simp)];injection hs' with hs';have hdst:mo.dst=o.dst:=(by rw[← hmo]);have:=h.next (mo:=mo) (r:=r) (F:=fun x:Nm=>nb≤x.mx∧x.mx<nb+r.n) hF (fun x _ hx=>by rw[← hs']at hx;exact hx) hd (v:=undef) (g:=ρ0) (fun _ ρ _ _=>by rw[← hs',Rep]) (fun ρ hρ _=>by rw[← hs'];exact h.hp ρ hρ);rw[hdst]at this;exact hK _ _ _ this (putsize _ _).2 (putsize _ _).1 ⟨⟨ρ0,fun ρ h1 h2=>⟨h1,h2⟩⟩,fun x _ hx=>by rw[← hs']at hx;exact hx⟩
     ·cases hs'
    ·cases hs'
   ·cases hmo
 ·cases hmo
inductive Runs (E:FuncId→Option Spec) (bs:Nat→Nat):List (Nat×MO×Res)→(Nat→AV)→(NH)→(Nat→AV)→(NH)→Prop
 | nil (T:Nat→AV) (H:NH):Runs E bs [] T H T H
 | cons {i:Nat} {mo:MO} {r:Res} {l:List (Nat×MO×Res)} {T:Nat→AV} {H:NH} {T':Nat→AV} {H':NH} (h:XH E T H (bs i) mo=some r) (h':Runs E bs l (yu T mo r) (Yr H r.hs) T' H'):Runs E bs ((i,mo,r) :: l) T H T' H'
def yW (x y:Nat×MO×Res):Bool :=
 (match x.2.1.dst with
 | some d=>!(y.2.1.looks.contains d)&&(y.2.1.dst != some d)
 | none=>true) &&
 (match y.2.1.dst with
 | some d=>!(x.2.1.looks.contains d)
 | none=>true) &&
 (x.2.2.hs.map (·.1)).all (fun n=>!((y.2.2.rd++y.2.2.hs.map (·.1)).contains n)) &&
 (y.2.2.hs.map (·.1)).all (fun n=>!(x.2.2.rd.contains n))
theorem yd {T':Nat→AV} {H':NH} {nb:Nat} {m:MO} {r:Res} (hT:∀ t,t∈m.looks→T t=T' t) (hs:XH E T H nb m=some r) (hH:∀ x,x∈r.rd∨x∈r.hs.map (·.1)→H x=H' x):XH E T' H' nb m=some r:=by
 unfold XH at hs⊢;unfold MO.looks at hT;cases hg:m.g with
 | none =>
  simp only[hg]at hs hT⊢;exact U9 (fun t ht=>hT t (by simpa using ht)) hs hH
 | some sw =>
  obtain ⟨s,want⟩:=sw;simp only[hg]at hs hT⊢;rw[← hT s (by simp)];split at hs
  ·rename_i b hb
   split at hs
   ·rename_i e
    rw[if_pos e];exact U9 (fun t ht=>hT t (by simp[ht])) hs hH
   ·rename_i e
    rw[if_neg e];exact hs
  ·exact hs
  ·cases hs
theorem U2 {x:Nat}:∀ (hs:List (Nat×NObj)) (H H':NH),(x∈hs.map (·.1)∨H x=H' x)→Yr H hs x=Yr H' hs x
 | [],H,H',h=>by simpa [Yr] using h
 | (y,o) :: r,H,H',h=>by
  rw[Yr,Yr];refine U2 r _ _ ?_;simp only[List.map_cons,List.mem_cons]at h;by_cases e:x=y
  ·subst e;right;simp
  ·rcases h with (h|h)|h
   ·exact absurd h e
   ·exact .inl h
   ·right;rw[Zn _ _ e,Zn _ _ e];exact h
theorem ZdJ (hs hs':List (Nat×NObj)) (h:∀ x,x∈hs.map (·.1)→x ∉ hs'.map (·.1)):Yr (Yr H hs) hs'=Yr (Yr H hs') hs:=by
 funext x
 by_cases h1:x∈hs.map (·.1)
 ·rw[X0 hs' _ x (h x h1)]
  exact U2 hs _ _ (.inl h1)
 ·rw[X0 hs _ x h1]
  exact U2 hs' _ _ (.inr (X0 hs _ x h1))
theorem Zdb {m m':MO} {r r':Res} (h:∀ d,m.dst=some d→m'.dst≠some d):yu (yu T m r) m' r'=yu (yu T m' r') m r:=by
 unfold yu;cases hd:m.dst with
 | none=>rfl
 | some d =>
  cases hd':m'.dst with
  | none=>rfl
  | some d' =>
   simp only;exact Zgc _ _ _ (fun e=>h d hd (by rw[hd',e]))
theorem swap {bs:Nat→Nat} {i j:Nat} {m m':MO} {r r':Res} (hc:yW (i,m,r) (j,m',r')=true) (h1:XH E T H (bs i) m=some r) (h2:XH E (yu T m r) (Yr H r.hs) (bs j) m'=some r') :
  XH E T H (bs j) m'=some r'∧XH E (yu T m' r') (Yr H r'.hs) (bs i) m=some r∧yu (yu T m r) m' r'=yu (yu T m' r') m r∧Yr (Yr H r.hs) r'.hs=Yr (Yr H r'.hs) r.hs:=by
 simp only[yW,Bool.and_eq_true,List.all_eq_true,Bool.not_eq_true',List.contains_eq_mem,decide_eq_false_iff_not,List.mem_append,not_or]at hc
 obtain ⟨⟨⟨c1,c2⟩,c3⟩,c4⟩:=hc
 have d1:∀ d,m.dst=some d→d ∉ m'.looks∧m'.dst≠some d:=fun d hd=>by rw[hd]at c1;simp only[Bool.and_eq_true,Bool.not_eq_true',decide_eq_false_iff_not,bne_iff_ne,ne_eq]at c1;exact c1
 have d2:∀ d,m'.dst=some d→d ∉ m.looks:=fun d hd=>by rw[hd]at c2;simpa using c2
 have same:∀ {m:MO} {r:Res} {t:Nat},(∀ d,m.dst=some d→d≠t)→yu T m r t=T t:=fun {m r t} h=>by
  unfold yu;cases hd:m.dst with
  | none=>rfl
  | some d=>exact Zn _ _ (fun e=>h d hd e.symm)
 refine ⟨yd (fun t ht=>same fun d hd e=>?_) h2 (fun x hx=>?_),yd (fun t ht=>(same fun d hd e=>?_).symm) h1 (fun x hx=>?_),Zdb fun d hd=>(d1 d hd).2,ZdJ _ _ fun x hx hx' => ?_⟩
 ·subst e;exact (d1 d hd).1 ht
 ·refine X0 _ _ _ fun hm=>?_
  have:=c3 x hm;rcases hx with hx|hx
  ·exact this.1 hx
  ·exact this.2 hx
 ·subst e;exact d2 d hd ht
 ·refine (X0 _ _ _ fun hm=>?_).symm
  rcases hx with hx|hx
  ·exact c4 x hm hx
  ·exact (c3 x hx).2 hm
 ·exact (c3 x hx).2 hx'
theorem ZgQ {bs:Nat→Nat} {T':Nat→AV} {H':NH} {y:Nat×MO×Res} {l2:List (Nat×MO×Res)}:∀ {l1:List (Nat×MO×Res)} {T:Nat→AV} {H:NH},Runs E bs (l1++y :: l2) T H T' H'→(∀ x,x∈l1→yW x y=true) →
  XH E T H (bs y.1) y.2.1=some y.2.2∧Runs E bs (l1++l2) (yu T y.2.1 y.2.2) (Yr H y.2.2.hs) T' H'
 | [],T,H,h,_=>by
  cases h with
  | cons h1 h2=>exact ⟨h1,h2⟩
 | (i,m,r) :: l1,T,H,h,hc=>by
  cases h with
  | cons h1 h2 =>
   obtain ⟨q1,q2⟩:=ZgQ h2 (fun x hx=>hc x (List.mem_cons_of_mem _ hx));obtain ⟨s1,s2,s3,s4⟩:=swap (hc (i,m,r) List.mem_cons_self) h1 q1;refine ⟨s1,?_⟩;rw[s3,s4]at q2;exact .cons s2 q2
def vU (pr:Nat→List Nat):List (Nat×MO×Res)→Bool
 | []=>true
 | x :: l=>l.all (fun y=>(pr y.1).contains x.1 || yW x y)&&vU pr l
theorem vZ {pr:Nat→List Nat}:∀ {l1 l2:List (Nat×MO×Res)} {y:Nat×MO×Res},vU pr (l1++y :: l2)=true→(∀ x,x∈l1→x.1 ∉ pr y.1)→(∀ x,x∈l1→yW x y=true)∧vU pr (l1++l2)=true
 | [],l2,y,h,_=>by
  simp only[List.nil_append,vU,Bool.and_eq_true]at h;exact ⟨fun x hx=>by simp at hx,h.2⟩
 | x :: l1,l2,y,h,hp=>by
  simp only[List.cons_append,vU,Bool.and_eq_true,List.all_append,List.all_cons]at h⊢;obtain ⟨⟨h1,h2,h3⟩,h4⟩:=h;obtain ⟨q1,q2⟩:=vZ h4 (fun z hz=>hp z (List.mem_cons_of_mem _ hz));refine ⟨fun z hz=>?_,⟨h1,h3⟩,q2⟩;rcases List.mem_cons.1 hz with rfl|hz
  ·have:=hp z List.mem_cons_self
   simp only[Bool.or_eq_true,List.contains_eq_mem,decide_eq_true_eq]at h2;exact h2.resolve_left this
  ·exact q1 z hz
theorem ZfB (L:List Nat):∀ (n:Nat),n∈L→∃ i,i∈L∧∀ k,k<i→k ∉ L:=fun n=>by
 induction n using Nat.strongRecOn with
 | _ n ih =>
  intro hn;by_cases h:∃ k,k<n∧k∈L
  ·obtain ⟨k,h1,h2⟩:=h
   exact ih k h1 h2
  ·exact ⟨n,hn,fun k hk hm=>h ⟨k,hk,hm⟩⟩
theorem Zdp (hE:Zd P E) {ops:Array Oper} {pr:Nat→List Nat} {bs:Nat→Nat} {mt:Nat} {B:Nat→Prop} {Es0:Env→Prop} {H0:NH} {lb:Nat} {Tf:Nat→AV} {Hf:NH} {Q:Exit→Act→World→Prop} {D:List Deferred} {N:Nat} (hpr:∀ i o,ops[i]?=some o→∀ j,j∈pr i→∃ e,e∈o.after∧Region.binds .any e=true∧(e.on=j∨j∈pr e.on)) (hlt:∀ i o,ops[i]?=some o→∀ e,e∈o.after→Region.binds .any e=true→e.on<i)
  (hB:∀ m,m<mt→B m) (hQ:∀ Es U a w,Sat w0 S Es U Tf (HF Hf) a w→(∀ x:Nm,mt≤x.mx→B x.mx→U x)→a.defers=D→a.tmps.size=N→Adv Es0 H0 Es Hf (fun x:Nm=>lb≤x.mx∧x.mx<mt)→Q .normal a w) :
  ∀ (fuel:Nat) (l:List (Nat×MO×Res)) (listed:Array Bool) (Es:Env→Prop) (U:Nm→Prop) (T:Nat→AV) (H:NH) (a:Act) (w:World),l.length=fuel→Runs E bs l T H Tf Hf→vU pr l=true→(l.map (·.1)).Nodup →
   (∀ x,x∈l→∃ o,ops[x.1]?=some o∧rO P ops o=some x.2.1∧∀ d,x.2.1.dst=some d→d<N)→listed.size=ops.size→(∀ i,i<ops.size→(listed.getD i true=false↔i∈l.map (·.1)))→(∀ (i:Nat) (o:Oper),ops[i]?=some o→i ∉ l.map (·.1)→∀ e,e∈o.after→Region.binds .any e=true→e.on ∉ l.map (·.1)) →
   Sat w0 S Es U T (HF H) a w→(∀ x:Nm,mt≤x.mx→B x.mx→U x)→(∀ y,y∈l→lb≤bs y.1∧bs y.1+y.2.2.n≤mt∧(∀ x:Nm,bs y.1≤x.mx∧x.mx<bs y.1+y.2.2.n→U x)∧∀ z,z∈l→z.1≠y.1→∀ m,bs y.1≤m→m<bs y.1+y.2.2.n→¬ (bs z.1≤m∧m<bs z.1+z.2.2.n))→Adv Es0 H0 Es H (fun x:Nm=>lb≤x.mx∧x.mx<mt∧∀ y,y∈l→¬ (bs y.1≤x.mx∧x.mx<bs y.1+y.2.2.n))→a.defers=D→a.tmps.size=N→wpAny P .any ops Q fuel listed a w
 | 0,l,listed,Es,U,T,H,a,w,hl,hr,hc,hnd,hops,hsz,hlist,hdown,hsat,hU0,hU,hA,hD,hN=>by
  have:l=[]:=List.length_eq_zero_iff.1 hl;subst this;cases hr;refine ⟨?_,hQ Es U a w hsat hU0 hD hN (hA.mono fun x hx=>⟨hx.1,hx.2.1⟩)⟩;cases hrd:Region.ready .any ops listed with
  | nil=>rfl
  | cons i r =>
   have hi:i∈Region.ready .any ops listed:=(by rw[hrd];simp);obtain ⟨h1,o,ho,_⟩:=mem_ready.1 hi;have:=(hlist i (Array.getElem?_eq_some_iff.1 ho).1).1 h1;simp at this
 | fuel+1,l,listed,Es,U,T,H,a,w,hl,hr,hc,hnd,hops,hsz,hlist,hdown,hsat,hU0,hU,hA,hD,hN=>by
  refine ⟨fun hrd=>?_,fun i hi=>?_⟩
  ·
   exfalso
   cases l with
   | nil=>simp at hl
   | cons x l =>
    obtain ⟨i,hi,hmin⟩:=ZfB ((x :: l).map (·.1)) x.1 (by simp);obtain ⟨y,hy,hyi⟩:=List.mem_map.1 hi;obtain ⟨o,ho,_⟩:=hops y hy;rw[hyi]at ho;have hisz:=(Array.getElem?_eq_some_iff.1 ho).1;have hin:i∈Region.ready .any ops listed:=mem_ready.2 ⟨(hlist i hisz).2 hi,o,ho,fun e he hb=>by
     have hl:=hlt i o ho e he hb;have h2:¬ (listed.getD e.on true=false):=fun hf=>hmin e.on hl ((hlist e.on (by omega)).1 hf);have hs:e.on<listed.size:=(by omega);simp[Array.getElem?_eq_getElem hs]at h2⊢;exact h2⟩
    rw[hrd]at hin;cases hin
  ·obtain ⟨h1,o,ho,hpre⟩:=mem_ready.1 hi
   have hil:=(hlist i (Array.getElem?_eq_some_iff.1 ho).1).1 h1;obtain ⟨y,hy,hyi⟩:=List.mem_map.1 hil;obtain ⟨l1,l2,hsplit⟩:=List.append_of_mem hy;subst hsplit;have hfree:∀ x,x∈l1→x.1 ∉ pr y.1:=fun x hx hmem=>by
    rw[hyi]at hmem;obtain ⟨e,he,hb,hon⟩:=hpr i o ho x.1 hmem;have h2:=hpre e he hb;have done:∀ n j,ops[j]?.isSome=true→j<n→j ∉ (l1++y :: l2).map (·.1)→∀ q,q∈pr j→q ∉ (l1++y :: l2).map (·.1):=by
     intro n
     induction n with
     | zero=>intro j _ hj;omega
     | succ n ih =>
      intro j hjs hj hjn q hq;obtain ⟨oj,hoj⟩:=Option.isSome_iff_exists.1 hjs;obtain ⟨e',he',hb',hon'⟩:=hpr j oj hoj q hq;have hd':=hdown j oj hoj hjn e' he' hb';rcases hon' with hon' | hon'
      ·rw[← hon'];exact hd'
      ·have hlt':=hlt j oj hoj e' he' hb'
       have hj2:=(Array.getElem?_eq_some_iff.1 hoj).1;refine ih e'.on ?_ (by omega) hd' q hon';rw[Array.getElem?_eq_getElem (by omega)];rfl
    have hxr:x.1∈(l1++y :: l2).map (·.1):=List.mem_map.2 ⟨x,by simp[hx],rfl⟩;rcases hon with hon|hon
    case inr =>
     have hlt':=hlt i o ho e he hb;have hi2:=(Array.getElem?_eq_some_iff.1 ho).1;have hel:e.on<listed.size:=(by omega);refine done (e.on+1) e.on (by rw[Array.getElem?_eq_getElem (by omega)];rfl) (by omega) (fun hm=>?_) x.1 hon hxr;have h3:=(hlist e.on (by omega)).2 hm;simp[Array.getElem?_eq_getElem hel]at h2 h3;rw[h2]at h3;cases h3
    rw[hon]at h2;obtain ⟨ox,hox,_⟩:=hops x (by simp[hx]);have h3:=(hlist x.1 (Array.getElem?_eq_some_iff.1 hox).1).2 (List.mem_map.2 ⟨x,by simp[hx],rfl⟩);have hlt:x.1<listed.size:=(by rw[hsz];exact (Array.getElem?_eq_some_iff.1 hox).1);simp[Array.getElem?_eq_getElem hlt]at h2 h3;rw[h2]at h3;cases h3
   obtain ⟨hconf,hc'⟩:=vZ hc hfree;obtain ⟨hstep,hrest⟩:=ZgQ hr hconf;obtain ⟨o',ho',hro,hdst⟩:=hops y hy;rw[hyi]at ho';refine ZhX hE hsat ho' hro hstep (hU y hy).2.2.1 (by rw[hN];exact hdst) fun Es' a' w' hsat' hd' hn' hadv=>?_;have hnd':((l1++l2).map (·.1)).Nodup∧y.1 ∉ (l1++l2).map (·.1):=by
    simp only[List.map_append,List.map_cons]at hnd⊢;rw[List.nodup_append]at hnd⊢;obtain ⟨n1,n2,n3⟩:=hnd;rw[List.nodup_cons]at n2;refine ⟨⟨n1,n2.2,fun p hp q hq=>n3 p hp q (List.mem_cons_of_mem _ hq)⟩,?_⟩;rw[List.mem_append,not_or];exact ⟨fun hm=>n3 _ hm _ List.mem_cons_self rfl,n2.1⟩
   refine Zdp hE hpr hlt hB hQ fuel (l1++l2) _ Es' _ _ _ a' w' (by simp at hl⊢;omega) hrest hc' hnd'.1 (fun x hx=>hops x (by simp at hx⊢;rcases hx with h|h<;>simp[h])) (by simp[hsz]) (fun k hk=>?_) (fun k ok hok hkn e' he' hb' hm=>?_) hsat' (fun x hx hbx=>⟨hU0 x hx hbx,fun hb=>?_⟩) (fun k hk=>have hk0:k∈l1++y :: l2:=(by simp at hk⊢;rcases hk with h|h<;>simp[h]);⟨(hU k hk0).1,(hU k hk0).2.1,fun x hx=>⟨(hU k hk0).2.2.1 x hx,fun hb=>?_⟩,fun z hz=>(hU k hk0).2.2.2 z (by simp at hz⊢;rcases hz with h|h<;>simp[h])⟩) (hA.trans hadv (fun x hx hy2=>hx.2.2 y hy hy2) fun x hx=>?_) (hd'.trans hD) (hn'.trans hN)
   ·by_cases e:k=i
    ·subst e
     constructor
     ·intro h2;simp[hsz,hk]at h2
     ·intro h2;rw[← hyi]at h2;exact absurd h2 hnd'.2
    ·rw[getD_set_ne true (fun e' => e e'.symm),hlist k hk]
     simp only[List.map_append,List.map_cons,List.mem_append,List.mem_cons,hyi];constructor
     ·rintro (h2|h2|h2)
      ·exact .inl h2
      ·exact absurd h2 e
      ·exact .inr h2
     ·rintro (h2|h2)
      ·exact .inl h2
      ·exact .inr (.inr h2)
   ·have hm':e'.on∈(l1++y :: l2).map (·.1):=by
     simp only[List.map_append,List.map_cons,List.mem_append,List.mem_cons]at hm⊢;rcases hm with hm|hm
     ·exact .inl hm
     ·exact .inr (.inr hm)
    by_cases e:k=i
    ·subst e
     rw[ho]at hok;injection hok with hok;subst hok;have h2:=hpre e' he' hb';have hlt':=hlt _ _ ho e' he' hb';have hi2:=(Array.getElem?_eq_some_iff.1 ho).1;have hel:e'.on<listed.size:=(by omega);have h3:=(hlist e'.on (by omega)).2 hm';simp[Array.getElem?_eq_getElem hel]at h2 h3;rw[h2]at h3;cases h3
    ·refine hdown k ok hok (fun hkm=>hkn ?_) e' he' hb' hm'
     simp only[List.map_append,List.map_cons,List.mem_append,List.mem_cons,hyi]at hkm⊢;rcases hkm with h|h|h
     ·exact .inl h
     ·exact absurd h e
     ·exact .inr h
   ·have:=(hU y hy).2.1
    omega
   ·have hne:k.1≠y.1:=fun e=>hnd'.2 (by rw[← e];exact List.mem_map.2 ⟨k,hk,rfl⟩)
    exact (hU y hy).2.2.2 k hk0 hne _ hb.1 hb.2 hx
   ·have hy0:=hU y hy
    rcases hx with hx|hx
    ·exact ⟨hx.1,hx.2.1,fun z hz=>hx.2.2 z (by simp at hz⊢;rcases hz with h|h<;>simp[h])⟩
    ·refine ⟨by omega,by omega,fun z hz=>?_⟩
     have hne:z.1≠y.1:=fun e=>hnd'.2 (by rw[← e];exact List.mem_map.2 ⟨z,hz,rfl⟩);exact hy0.2.2.2 z (by simp at hz⊢;rcases hz with h|h<;>simp[h]) hne _ hx.1 hx.2
end
end Go.W
