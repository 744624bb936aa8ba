/- What the model's operations do, told by the abstract step. -/
import Derived.Test.YtidbbnkpglggdaaGreatWB
namespace Go.W
set_option linter.unusedSimpArgs false
set_option linter.unusedVariables false
structure Sat (w0:World) (S:Sc) (Es:Env→Prop) (U:Nm→Prop) (T:Nat→AV) (H:Nm→AObj) (a:Act) (w:World):Prop where
 ne:∃ ρ,Es ρ
 cl:∀ ρ ρ',Es ρ→(∀ x,¬ U x→ρ' x=ρ x)→Es ρ'
 fr:∀ x,U x→H x=.free
 pin:∀ ρ ρ',Es ρ→Es ρ'→∀ x,H x≠.free→ρ x=ρ' x
 tm:∀ ρ,Es ρ→∀ t,T t≠.bot→∃ v,a.tmps[t]?=some v∧Rep ρ (T t) v
 hp:∀ ρ,Es ρ→HCore w0 S ρ H w
theorem xO (ρ:Env) (v:Value):Rep ρ (ofC v) v:=by
 unfold ofC;split<;>simp[Rep]
theorem zD (ρ:Env):∀ (l:List Value),Z8 ρ (l.map ofC) l
 | []=>rfl
 | v :: r=>⟨v,r,rfl,xO ρ v,zD ρ r⟩
theorem Zig (ρ:Env) (v:Value):Rep ρ (ofV v) v:=by
 unfold ofV;split
 ·rename_i cs;rw[Rep];exact ⟨cs,rfl,zD ρ _⟩
 ·exact xO ρ v
section
variable {P:Program} {w0:World} {S:Sc} {Es:Env→Prop} {U:Nm→Prop} {T:Nat→AV} {H:Nm→AObj} {a:Act} {w:World}
theorem Sat.ev (h:Sat w0 S Es U T H a w) {ρ:Env} (hρ:Es ρ) (x:Operand):Rep ρ ((rX x).ev T) (a.eval x):=by
 cases x with
 | tmp t =>
  show Rep ρ (T t) (a.tmps.getD t undef);by_cases hb:T t=.bot
  ·rw[hb];trivial
  ·obtain ⟨v,h1,h2⟩:=h.tm ρ hρ t hb
   rw[Array.getD_eq_getD_getElem?,h1];exact h2
 | const v=>exact Zig ρ v
 | global g=>rw[rX,X.ev,Rep];rfl
 | func f =>
  rw[rX,X.ev,Rep];exact ⟨#[],rfl,rfl⟩
def Yu (P:Program) (w0:World) (S:Sc) (Es:Env→Prop) (H:Nm→AObj) (a:Act) (w:World) (o:Oper) (r:FRes) (F:Nm→Prop):Prop :=
 ∃ (w':World) (g:Env) (nx:Next),(execOp a.eval o).run P w=.ok nx w' ∧
  ((∃ v,nx=.value v∧∀ ρ,Es ρ→(∀ x,F x→ρ x=g x)→Rep ρ r.v v)∨(nx=.skip∧r.v=.bot)) ∧
  ∀ ρ,Es ρ→(∀ x,F x→ρ x=g x)→HCore w0 S ρ (Yr H r.hs) w'
theorem Yu.pure (h:Sat w0 S Es U T H a w) {o:Oper} {r:FRes} {F:Nm→Prop} (hs:r.hs=[])
  (hv:∀ ρ,Es ρ→∃ v,(execOp a.eval o).run P w=.ok (.value v) w∧Rep ρ r.v v):Yu P w0 S Es H a w o r F:=by
 obtain ⟨ρ0,h0⟩:=h.ne
 obtain ⟨v,h1,h2⟩:=hv ρ0 h0
 refine ⟨w,ρ0,_,h1,.inl ⟨v,rfl,fun ρ hρ _=>?_⟩,fun ρ hρ _=>by rw[hs];exact h.hp ρ hρ⟩
 obtain ⟨v',h3,h4⟩:=hv ρ hρ
 rw[h1]at h3
 injection h3 with h5 h6
 injection h5 with h5
 rw[h5];exact h4
theorem Zey (h:Sat w0 S Es U T H a w) {o:Oper} {F:Nm→Prop} (x:Operand) (ho:o.op=.move x∨o.op=.assign x):Yu P w0 S Es H a w o ⟨(rX x).ev T,[],[]⟩ F :=
 Yu.pure h rfl fun ρ hρ=>⟨a.eval x,by rcases ho with ho|ho<;>simp[execOp,ho],h.ev hρ x⟩
theorem Zdq {ρ:Env} (c:Bool) {x y:AV} {u v:Value} (hx:Rep ρ x u) (hy:Rep ρ y v):Rep ρ (ZdI c x y) (if c then u else v):=by
 unfold ZdI;split
 ·simp only[Rep]at hx hy
  subst hx;subst hy;cases c<;>simp[Rep]
 ·cases c<;>simpa
theorem ZdY (h:Sat w0 S Es U T H a w) {o:Oper} {F:Nm→Prop} (c x y:Operand) (ho:o.op=.pick c x y) {b:Bool} (hc:(rX c).ev T=.bool b) :
  Yu P w0 S Es H a w o ⟨ZdI b ((rX x).ev T) ((rX y).ev T),[],[]⟩ F :=
 Yu.pure h rfl fun ρ hρ=>⟨if b then a.eval x else a.eval y,by
  have:=h.ev hρ c;rw[hc,Rep]at this;simp[execOp,ho,this,asBool],Zdq b (h.ev hρ x) (h.ev hρ y)⟩
theorem vq {ρ:Env} (h:HCore w0 S ρ H w) {x:Nm} {l:List AV} {cs:List Value} (t:TypeId) (hl:Z8 ρ l cs) (h1:l.all AV.one=true) (hx:H x=.free) (hL:ρ x=⟨w.heap.size,0,l.length,1,false⟩) :
  HCore w0 S ρ (upd H x (.cells l)) (w.alloc (.cells cs.toArray t)):=by
 have hlen:=hl.length
 have hone:=hl.all_one h1
 refine h.alloc hx (by rw[hL]) trivial ⟨⟨by rw[hL],by rw[hL],by rw[hL];exact Nat.le_refl _,fun _ _=>rfl,fun i hi j v hv=>?_⟩,fun k hk=>?_⟩
 ·obtain ⟨u,hu,hr⟩:=hl.get hv
  have:i=0:=by omega
  subst this;refine ⟨u,?_,hr,hone u (List.mem_of_getElem? hu)⟩;rw[hL];simp only[Nat.zero_mul,Nat.zero_add];rw[World.cell?_alloc_new];simpa using hu
 ·rw[hL]at hk⊢
  simp only[Nat.one_mul]at hk;simp only[Nat.zero_add];rw[World.cell?_alloc_new,World.frozen?_alloc_new];refine ⟨?_,rfl⟩;simp[List.getElem?_eq_getElem (show k<cs.length by omega)]
theorem ZgI (h:Sat w0 S Es U T H a w) {o:Oper} {F:Nm→Prop} {nb:Nm} (t:TypeId) (x:Operand) (ho:o.op=.box t x) (h1:((rX x).ev T).cells.all AV.one=true) (hF:F nb) (hU:U nb) :
  Yu P w0 S Es H a w o ⟨.ptr nb 0 0,[(nb,.cells ((rX x).ev T).cells)],[]⟩ F:=by
 refine ⟨w.alloc (.cells (a.eval x).cells t),fun _=>⟨w.heap.size,0,((rX x).ev T).cells.length,1,false⟩,.value (.pointer (some ⟨w.heap.size,0,none⟩)),by simp[execOp,ho,Instr.box,newVar,newRow],.inl ⟨_,rfl,fun ρ hρ hg=>?_⟩,fun ρ hρ hg=>?_⟩
 ·have:=hg nb hF
  simp only[Rep,this];simp
 ·have:=vq (h.hp ρ hρ) t ((h.ev hρ x).cells h1) h1 (h.fr nb hU) (hg nb hF)
  simpa [Yr] using this
theorem Zb5 (h:Sat w0 S Es U T H a w) {o:Oper} {F:Nm→Prop} {nb:Nm} (t:TypeId) (ho:o.op=.alloc t) {z:List AV} (hz:YJ P t=some z) (hF:F nb) (hU:U nb) :
  Yu P w0 S Es H a w o ⟨.ptr nb 0 0,[(nb,.cells z)],[]⟩ F:=by
 unfold YJ at hz
 split at hz
 ·rename_i i hi
  split at hz
  ·rename_i zv hzv
   split at hz
   ·rename_i hone
    injection hz with hz;subst hz;refine ⟨w.alloc (.cells zv.cells t),fun _=>⟨w.heap.size,0,(zv.cells.toList.map ofC).length,1,false⟩,.value (.pointer (some ⟨w.heap.size,0,none⟩)),by simp[execOp,ho,Instr.alloc,zeroValue,typeInfo,hi,hzv,newVar,newRow],.inl ⟨_,rfl,fun ρ hρ hg=>?_⟩,fun ρ hρ hg=>?_⟩
    ·have:=hg nb hF
     simp only[Rep,this];simp
    ·have:=vq (h.hp ρ hρ) t (zD ρ zv.cells.toList) hone (h.fr nb hU) (hg nb hF)
     simpa [Yr] using this
   ·cases hz
  ·cases hz
 ·cases hz
theorem TN {ρ:Env} {L:Loc} {o:AObj} {i:Nat} {c:List AV} (h:Xe ρ L o w) (he:VZ o i=some c) (_hn:L.nil=false) :
  ∃ vs,Z8 ρ c vs∧w.rangeAt L.blk (L.base+i*L.sz) vs∧(∀ v∈vs,v.oneCell'=true)∧c.length=L.sz:=by
 have key:∀ {sz n:Nat} {f:Nat→List AV},Reg ρ L sz n f w→i<n→f i=c→∃ vs,Z8 ρ c vs∧w.rangeAt L.blk (L.base+i*L.sz) vs∧(∀ v∈vs,v.oneCell'=true)∧c.length=L.sz:=by
  intro sz n f hr hi hf;have hl:=hr.len i hi;rw[hf]at hl;have hc:=hr.cell i hi;rw[hf]at hc;have hx:∀ j:Nat,j<c.length→∃ x,w.cell? ⟨L.blk,L.base+(i*sz+j),none⟩=some x∧(∀ v,c[j]?=some v→Rep ρ v x)∧x.oneCell'=true:=by
   intro j hj;obtain ⟨x,h1,h2,h3⟩:=hc j c[j] (List.getElem?_eq_getElem hj);exact ⟨x,h1,fun v hv=>by rw[List.getElem?_eq_getElem hj]at hv;injection hv with hv;rw[← hv];exact h2,h3⟩
  refine ⟨(List.range c.length).map fun j=>(w.cell? ⟨L.blk,L.base+(i*sz+j),none⟩).getD undef,?_,?_,?_,by rw[hl,hr.esz]⟩
  ·refine Z8.of_get _ _ (by simp) fun j v hv=>?_
   have hj:j<c.length:=(List.getElem?_eq_some_iff.1 hv).1;obtain ⟨x,h1,h2,_⟩:=hx j hj;exact ⟨x,by simp[hj,h1],h2 v hv⟩
  ·intro j v hv
   have hj:j<c.length:=(by have:=(List.getElem?_eq_some_iff.1 hv).1;simpa using this);obtain ⟨x,h1,_,_⟩:=hx j hj;simp[hj,h1]at hv;rw[hr.esz,← hv,← h1,Nat.add_assoc]
  ·intro v hv
   obtain ⟨j,hj,rfl⟩:=List.mem_map.1 hv;obtain ⟨x,h1,_,h3⟩:=hx j (by simpa using hj);rw[h1];exact h3
 cases o with
 | free=>cases he
 | cells c' =>
  simp only[VZ]at he;split at he
  ·injection he with he;rename_i h0;subst h0;exact key h.1 Nat.one_pos he
  ·cases he
 | arr sz n f =>
  simp only[VZ]at he;split at he
  ·rename_i hi
   injection he with he;rcases h with h|h
   ·omega
   ·exact key h.1 hi he
  ·cases he
 | view sz n f =>
  simp only[VZ]at he;split at he
  ·rename_i hi
   injection he with he;rcases h with h|h
   ·omega
   ·exact key h hi he
  ·cases he
theorem T6 {b o:Nat} {vs:List Value} (h:w.rangeAt b o vs) (f:Nat):w.rangeAt b (o+f) (vs.drop f):=fun j v hv=>by
 have:=h (f+j) v (by simpa using hv)
 rwa [Nat.add_assoc]
theorem zc {b o:Nat} {vs:List Value} (h:w.rangeAt b o vs) (n:Nat):w.rangeAt b o (vs.take n):=fun j v hv=>by
 refine h j v ?_;rw[List.getElem?_take]at hv;split at hv
 ·exact hv
 ·cases hv
theorem Vh {t:TypeId} {b:Bool} (h:vd P t=some b):(isAgg t).run P w=.ok b w:=by
 unfold vd at h;cases hu:P.underlying t with
 | none=>simp[hu]at h
 | some d =>
  unfold isAgg;rw[Sem.run_bind,run_underlying hu w];cases d<;>simp_all
theorem YT {t:TypeId} {n:Nat} (h:UG P t=some n):(sizeOf t).run P w=.ok n w:=by
 unfold UG at h;cases hi:P.info? t with
 | none=>simp[hi]at h
 | some i =>
  simp[hi]at h;simp[sizeOf,typeInfo,hi,h]
theorem ZbJ {t:TypeId} (h:vd P t=some true):∃ d,P.underlying t=some d∧d.isRow=true:=by
 unfold vd at h;cases hu:P.underlying t with
 | none=>simp[hu]at h
 | some d=>exact ⟨d,rfl,by cases d<;>simp_all⟩
theorem vg (h:Sat w0 S Es U T H a w) {o:Oper} {F:Nm→Prop} (t:TypeId) (x:Operand) (ho:o.op=.load t x) (hag:vd P t=some true) {n:Nat} (hn:UG P t=some n)
  {y:Nm} {i f:Nat} (hx:(rX x).ev T=.ptr y i f) {c:List AV} (hc:VZ (H y) i=some c) (hle:f+n≤c.length):Yu P w0 S Es H a w o ⟨.agg ((c.drop f).take n),[],[y]⟩ F:=by
 refine Yu.pure h rfl fun ρ hρ=>?_
 have hr:=h.ev hρ x
 rw[hx,Rep]at hr
 obtain ⟨hnil,hv⟩:=hr
 obtain ⟨vs,h1,h2,h3,h4⟩:=TN ((h.hp ρ hρ).obj y) hc hnil
 have h5:=zc (T6 h2 f) n
 have h6:=(h1.drop f).take n
 obtain ⟨d,hd1,hd2⟩:=ZbJ hag
 refine ⟨.agg ((vs.drop f).take n).toArray,?_,by rw[Rep];exact ⟨_,rfl,by simpa using h6⟩⟩
 have hlen:((vs.drop f).take n).length=n:=by have:=h1.length;simp;omega
 have:=run_loadAt_mid (P:=P) w (ρ y).blk ((ρ y).base+i*(ρ y).sz+f) t _ d h5 hd1 hd2 (by rw[hlen];exact hn)
 simp[execOp,ho,hv,← Nat.add_assoc,this]
theorem ZaH (h:Sat w0 S Es U T H a w) {o:Oper} {F:Nm→Prop} (t:TypeId) (x:Operand) (ho:o.op=.load t x) (hag:vd P t=some false)
  {y:Nm} {i f:Nat} (hx:(rX x).ev T=.ptr y i f) {c:List AV} (hc:VZ (H y) i=some c) {v:AV} (hv:c[f]?=some v):Yu P w0 S Es H a w o ⟨v,[],[y]⟩ F:=by
 refine Yu.pure h rfl fun ρ hρ=>?_
 have hr:=h.ev hρ x
 rw[hx,Rep]at hr
 obtain ⟨hnil,hav⟩:=hr
 obtain ⟨vs,h1,h2,h3,h4⟩:=TN ((h.hp ρ hρ).obj y) hc hnil
 obtain ⟨u,hu,hru⟩:=h1.get hv
 refine ⟨u,?_,hru⟩
 have:=h2 f u hu
 simp[execOp,ho,hav,Instr.loadAt,Instr.sureAddr,loadVar,Vh hag,← Nat.add_assoc,this]
theorem XU (b:Nat):∀ (vs:List Value) (o:Nat) (w:World) (k:Nat),k≠b→(w.setCells b o vs).heap[k]?=w.heap[k]?
 | [],_,_,_,_=>rfl
 | v :: r,o,w,k,h=>by rw[World.setCells,XU b r _ _ k h];exact RowKit.Below.heap_setCell _ _ _ _ h
theorem XV (b:Nat):∀ (vs:List Value) (o:Nat) (w:World),(w.setCells b o vs).heap.size=w.heap.size
 | [],_,_=>rfl
 | v :: r,o,w=>by rw[World.setCells,XV b r];simp
theorem XW (b:Nat):∀ (vs:List Value) (o:Nat) (w:World),(w.setCells b o vs).os=w.os∧(w.setCells b o vs).tape=w.tape∧(w.setCells b o vs).output=w.output
 | [],_,_=>⟨rfl,rfl,rfl⟩
 | v :: r,o,w=>by rw[World.setCells];exact XW b r _ _
theorem VR {c:List AV} {f:Nat} {l:List AV} (h:f+l.length≤c.length):(Y4 c f l).length=c.length:=by
 simp[Y4];omega
theorem Uz {c:List AV} {f:Nat} {l:List AV} (h:f+l.length≤c.length) {j:Nat} (h1:f≤j) (h2:j<f+l.length):(Y4 c f l)[j]?=l[j - f]?:=by
 unfold Y4;rw[List.append_assoc,List.getElem?_append_right (by simp;omega)];rw[List.length_take,Nat.min_eq_left (by omega),List.getElem?_append_left (by omega)]
theorem Vu {c:List AV} {f:Nat} {l:List AV} (h:f+l.length≤c.length) {j:Nat} (h1:j<f∨f+l.length≤j):(Y4 c f l)[j]?=c[j]?:=by
 unfold Y4;rw[List.append_assoc];rcases h1 with h1|h1
 ·rw[List.getElem?_append_left (by simp;omega),List.getElem?_take,if_pos h1]
 ·rw[List.getElem?_append_right (by simp;omega),List.length_take,Nat.min_eq_left (by omega),List.getElem?_append_right (by omega),List.getElem?_drop]
  congr 1
  omega
theorem ZcX {ρ:Env} {L:Loc} {sz n:Nat} {g:Nat→List AV} (h:Reg ρ L sz n g w) (hr:ZeI L sz w) {i f:Nat} {l:List AV} {vs:List Value} (hi:i<n) (hf:f+l.length≤sz) (hl:Z8 ρ l vs) (h1:∀ v∈vs,v.oneCell'=true)
  {g':Nat→List AV} (hg:∀ j,j<n→g' j=if j=i then Y4 (g j) f l else g j) :
  Reg ρ L sz n g' (w.setCells L.blk (L.base+(i*sz+f)) vs)∧ZeI L sz (w.setCells L.blk (L.base+(i*sz+f)) vs):=by
 have hlen:=hl.length
 have hcap:=h.cap
 have hlt:i*sz+f+vs.length≤L.cap*sz:=by
  have:(i+1)*sz≤L.cap*sz:=Nat.mul_le_mul_right _ (by omega);rw[Nat.add_mul]at this;omega
 have hsome:∀ j,j<vs.length→(w.cell? ⟨L.blk,L.base+(i*sz+f)+j,none⟩).isSome=true:=fun j hj=>by
  have:=(hr (i*sz+f+j) (by omega)).1
  rwa [Nat.add_assoc]
 refine ⟨⟨h.nn,h.esz,h.cap,fun j hj=>?_,fun j hj k v hv=>?_⟩,fun k hk=>⟨World.isSome_setCells _ _ _ _ _ (hr k hk).1,by rw[World.frozen?_setCells];exact (hr k hk).2⟩⟩
 ·rw[hg j hj]
  split
  ·rw[VR (by rw[h.len j hj];exact hf)];exact h.len j hj
  ·exact h.len j hj
 ·rw[hg j hj]at hv
  have hgl:=h.len j hj;by_cases e:j=i
  ·subst e
   rw[if_pos rfl]at hv;have hfc:f+l.length≤(g j).length:=(by omega);by_cases hin:f≤k∧k<f+l.length
   ·rw[Uz hfc hin.1 hin.2]at hv
    obtain ⟨u,hu,hru⟩:=hl.get hv;have hk:k - f<vs.length:=(by omega);refine ⟨u,?_,hru,h1 u (List.mem_of_getElem? hu)⟩;have:=World.cell?_setCells_in L.blk vs (L.base+(j*sz+f)) w hsome (k - f) hk;rw[show L.base+(j*sz+k)=L.base+(j*sz+f)+(k - f) by omega,this];rw[List.getElem?_eq_getElem hk]at hu;exact hu
   ·rw[Vu hfc (by omega)]at hv
    obtain ⟨u,hu,hru,ho⟩:=h.cell j hj k v hv;refine ⟨u,?_,hru,ho⟩;rw[World.cell?_setCells_out _ _ _ _ _ (fun _ _=>by show L.base+(j*sz+k)<_∨_≤L.base+(j*sz+k);omega)];exact hu
  ·rw[if_neg e]at hv
   obtain ⟨u,hu,hru,ho⟩:=h.cell j hj k v hv;refine ⟨u,?_,hru,ho⟩;have hk:k<sz:=(by have:=(List.getElem?_eq_some_iff.1 hv).1;omega);rw[World.cell?_setCells_out _ _ _ _ _ (fun _ _=>by
    show L.base+(j*sz+k)<_∨_≤L.base+(j*sz+k);rcases Nat.lt_or_gt_of_ne e with e|e
    ·left
     have:(j+1)*sz≤i*sz:=Nat.mul_le_mul_right _ e;rw[Nat.add_mul]at this;omega
    ·right
     have:(i+1)*sz≤j*sz:=Nat.mul_le_mul_right _ e;rw[Nat.add_mul]at this;omega)]
   exact hu
theorem ZbP (h:Sat w0 S Es U T H a w) {o:Oper} {F:Nm→Prop} (t:TypeId) (x y:Operand) (ho:o.op=.store t x y) {n:Nat} (hn:UG P t=some n)
  {z:Nm} {i f:Nat} (hx:(rX x).ev T=.ptr z i f) (h1:((rX y).ev T).cells.all AV.one=true) (hlen:((rX y).ev T).cells.length=n) {o':AObj} (hs:UY (H z) i f ((rX y).ev T).cells=some o') :
  Yu P w0 S Es H a w o ⟨.bot,[(z,o')],[]⟩ F:=by
 obtain ⟨ρ0,h0⟩:=h.ne
 have key:∀ ρ,Es ρ→(execOp a.eval o).run P w=.ok .skip (w.setCells (ρ z).blk ((ρ z).base+(i*(ρ z).sz+f)) (a.eval y).cells.toList)∧HCore w0 S ρ (upd H z o') (w.setCells (ρ z).blk ((ρ z).base+(i*(ρ z).sz+f)) (a.eval y).cells.toList):=by
  intro ρ hρ;have hr:=h.ev hρ x;rw[hx,Rep]at hr;obtain ⟨hnil,hv⟩:=hr;have hl:=(h.ev hρ y).cells h1;have hone:=hl.all_one h1;have hvl:=hl.length;have hok:=(h.hp ρ hρ).obj z;have main:∀ {sz m:Nat} {g:Nat→List AV},Reg ρ (ρ z) sz m g w→ZeI (ρ z) sz w→i<m→f+((rX y).ev T).cells.length≤sz→ZF (ρ z) (H z)→ZF (ρ z) o' →
    (∀ w',Reg ρ (ρ z) sz m (fun j=>if j=i then Y4 (g j) f ((rX y).ev T).cells else g j) w'→ZeI (ρ z) sz w'→Xe ρ (ρ z) o' w') →
    (execOp a.eval o).run P w=.ok .skip (w.setCells (ρ z).blk ((ρ z).base+(i*(ρ z).sz+f)) (a.eval y).cells.toList)∧HCore w0 S ρ (upd H z o') (w.setCells (ρ z).blk ((ρ z).base+(i*(ρ z).sz+f)) (a.eval y).cells.toList):=by
   intro sz m g hreg hroom hi hf ho1 ho2 hfin
   have hesz:=hreg.esz
   have hcap:=hreg.cap
   have hlt:i*sz+f+(a.eval y).cells.toList.length≤(ρ z).cap*sz:=by
    have:(i+1)*sz≤(ρ z).cap*sz:=Nat.mul_le_mul_right _ (by omega);rw[Nat.add_mul]at this;omega
   have hst:=run_storeCells_cells (P:=P) (ρ z).blk ((ρ z).base+(i*sz+f)) (a.eval y).cells.toList 0 w
    (fun j hj=>by have:=(hroom (i*sz+f+j) (by omega)).1;rwa [Nat.add_zero,Nat.add_assoc])
    (fun j hj=>by have:=(hroom (i*sz+f+j) (by omega)).2;rwa [Nat.add_zero,Nat.add_assoc]) hone
   have hn':(a.eval y).cells.size=n:=by rw[← Array.length_toList];omega
   obtain ⟨r1,r2⟩:=ZcX hreg hroom hi hf hl hone (g':=fun j=>if j=i then Y4 (g j) f ((rX y).ev T).cells else g j) (fun _ _=>rfl)
   rw[hesz]
   refine ⟨?_,?_⟩
   ·rw[Nat.add_zero]at hst
    rw[hesz]at hv;simp[execOp,ho,hv,Instr.storeAt,Instr.sureAddr,storeVar,YT hn,hn',hst]
   ·obtain ⟨e1,e2,e3⟩:=XW (ρ z).blk (a.eval y).cells.toList ((ρ z).base+(i*sz+f)) w
    exact (h.hp ρ hρ).change ho1 ho2 e1 e2 e3 (XV _ _ _ _) (fun b hb=>XU _ _ _ _ _ hb) (hfin _ r1 r2)
  revert hs hok;cases hz:H z with
  | free=>intro hs;cases hs
  | view sz m g=>intro hs;cases hs
  | cells c =>
   intro hs hok;simp only[UY]at hs;split at hs
   ·rename_i hi0
    split at hs
    ·rename_i hle
     injection hs with hs;subst hs;subst hi0;refine main hok.1 hok.2 Nat.one_pos hle (by rw[hz];trivial) trivial fun w' q1 q2=>?_;have hsl:=VR hle;refine ⟨⟨q1.nn,by rw[hsl];exact q1.esz,q1.cap,fun j hj=>by first|rfl|trivial,fun j hj k v hv=>?_⟩,by rw[hsl];exact q2⟩;have hj0:j=0:=(by omega);subst hj0;rw[hsl];exact q1.cell 0 hj k v (by simpa using hv)
    ·cases hs
   ·cases hs
  | arr sz m g =>
   intro hs hok;simp only[UY]at hs;split at hs
   ·rename_i hi
    split at hs
    ·rename_i hle
     injection hs with hs;subst hs;rcases hok with hok|hok
     ·omega
     ·exact main hok.1 hok.2 hi hle (by rw[hz];exact hok.1.nn) hok.1.nn fun w' q1 q2=>.inr ⟨q1,q2⟩
    ·cases hs
   ·cases hs
 refine ⟨_,ρ0,_,(key ρ0 h0).1,.inr ⟨rfl,rfl⟩,fun ρ hρ _=>?_⟩
 have h3:=(key ρ hρ).1
 rw[(key ρ0 h0).1]at h3
 injection h3 with _ h3
 have h4:=(key ρ hρ).2
 rw[← h3]at h4
 simpa [Yr] using h4
theorem T2 (h:Sat w0 S Es U T H a w) {o:Oper} {F:Nm→Prop} (x:Operand) (ho:o.op=.nilCheck x) {v:AV} (hx:(rX x).ev T=v) (hv:(∃ z i f,v=.ptr z i f)∨(∃ f c,v=.fn f c)∨(∃ t u,v=.iface t u)) :
  Yu P w0 S Es H a w o ⟨v,[],[]⟩ F:=by
 refine Yu.pure h rfl fun ρ hρ=>⟨a.eval x,?_,by rw[← hx];exact h.ev hρ x⟩
 have hr:=h.ev hρ x
 rw[hx]at hr
 rcases hv with ⟨z,i,f,rfl⟩ | ⟨f,c,rfl⟩ | ⟨t,u,rfl⟩<;>rw[Rep]at hr
 ·simp[execOp,ho,hr.2]
 ·obtain ⟨cs,hr,_⟩:=hr
  simp[execOp,ho,hr]
 ·obtain ⟨y,hr,_⟩:=hr
  simp[execOp,ho,hr]
theorem UU (op:BinOp) (t:TypeId) (x y:Operand) (k k':IntKind) (p q:Int):(eqGuard op t x y (.int k p) (.int k' q)).run P w=.ok () w:=by
 cases op<;>simp[eqGuard]
theorem Zgl {op:BinOp} {k:IntKind} {p q:Int} {v:AV} (h:Zkl op k p q=some v) (t:TypeId) (ρ:Env):∃ u,(binOp op t (.int k p) (.int k q)).run P w=.ok u w∧Rep ρ v u:=by
 cases op<;>simp only[Zkl,reduceCtorEq]at h
 case quo =>
  split at h
  ·cases h
  ·rename_i hb;injection h with h;subst h;exact ⟨_,by simp[binOp,Op.intDiv,hb],rfl⟩
 case rem =>
  split at h
  ·cases h
  ·rename_i hb;injection h with h;subst h;exact ⟨_,by simp[binOp,Op.intDiv,hb],rfl⟩
 case eql=>injection h with h;subst h;exact ⟨.bool (p == q),by simp[binOp,Op.intCmp],by rw[Rep];congr 1⟩
 case neq=>injection h with h;subst h;exact ⟨.bool (p != q),by simp[binOp,Op.intCmp],by rw[Rep];congr 1;by_cases e:p=q<;>simp[e]⟩
 case lss=>injection h with h;subst h;exact ⟨.bool (decide (p<q)),by simp[binOp,Op.intCmp],rfl⟩
 case leq=>injection h with h;subst h;exact ⟨.bool (decide (p≤q)),by simp[binOp,Op.intCmp],rfl⟩
 case gtr=>injection h with h;subst h;exact ⟨.bool (decide (q<p)),by simp[binOp,Op.intCmp],rfl⟩
 case geq=>injection h with h;subst h;exact ⟨.bool (decide (q≤p)),by simp[binOp,Op.intCmp],rfl⟩
 case add=>injection h with h;subst h;exact ⟨.int k (k.wrap (p+q)),by simp[binOp,Op.intArith],rfl⟩
 case sub=>injection h with h;subst h;exact ⟨.int k (k.wrap (p - q)),by simp[binOp,Op.intArith],rfl⟩
 case mul=>injection h with h;subst h;exact ⟨.int k (k.wrap (p*q)),by simp[binOp,Op.intArith],rfl⟩
 case and=>injection h with h;subst h;exact ⟨.int k (Zah .and k p q),by simp[binOp,Op.intBits,Zah],rfl⟩
 case or=>injection h with h;subst h;exact ⟨.int k (Zah .or k p q),by simp[binOp,Op.intBits,Zah],rfl⟩
 case xor=>injection h with h;subst h;exact ⟨.int k (Zah .xor k p q),by simp[binOp,Op.intBits,Zah],rfl⟩
 case andNot=>injection h with h;subst h;exact ⟨.int k (Zah .andNot k p q),by simp[binOp,Op.intBits,Zah],rfl⟩
theorem xy (h:Sat w0 S Es U T H a w) {o:Oper} {F:Nm→Prop} (op:BinOp) (t t':TypeId) (x y:Operand) (ho:o.op=.binOp op t x y t') {k k':IntKind} {p q:Int} (hx:(rX x).ev T=.int k p) (hy:(rX y).ev T=.int k' q) {v:AV}
  (hv:(op=.shl∧0≤q∧v=.int k (ZiP k p q))∨(op=.shr∧0≤q∧v=.int k (Zjj k p q))∨(k=k'∧Zkl op k p q=some v)) :
  Yu P w0 S Es H a w o ⟨v,[],[]⟩ F:=by
 refine Yu.pure h rfl fun ρ hρ=>?_
 have h1:=h.ev hρ x
 have h2:=h.ev hρ y
 rw[hx,Rep]at h1
 rw[hy,Rep]at h2
 rcases hv with ⟨rfl,hq,rfl⟩ | ⟨rfl,hq,rfl⟩ | ⟨rfl,hv⟩
 ·exact ⟨.int k (ZiP k p q),by simp[execOp,ho,h1,h2,UU,binOp,Op.shift,show ¬ q<0 by omega,ZiP],rfl⟩
 ·exact ⟨.int k (Zjj k p q),by simp[execOp,ho,h1,h2,UU,binOp,Op.shift,show ¬ q<0 by omega,Zjj],rfl⟩
 ·obtain ⟨u,hu,hr⟩:=Zgl (P:=P) (w:=w) hv t ρ
  exact ⟨u,by simp[execOp,ho,h1,h2,UU,hu],hr⟩
theorem Zf5 (h:Sat w0 S Es U T H a w) {o:Oper} {F:Nm→Prop} (t:TypeId) (x:Operand) (ho:o.op=.unOp .not t x) {b:Bool} (hx:(rX x).ev T=.bool b):Yu P w0 S Es H a w o ⟨.bool (!b),[],[]⟩ F:=by
 refine Yu.pure h rfl fun ρ hρ=>?_;have h1:=h.ev hρ x;rw[hx,Rep]at h1;exact ⟨_,by simp[execOp,ho,h1,Op.unary],rfl⟩
theorem ZeN (h:Sat w0 S Es U T H a w) {o:Oper} {F:Nm→Prop} (t:TypeId) (x:Operand) (ho:o.op=.unOp .neg t x) {k:IntKind} {n:Int} (hx:(rX x).ev T=.int k n):Yu P w0 S Es H a w o ⟨.int k (k.wrap (0 - n)),[],[]⟩ F:=by
 refine Yu.pure h rfl fun ρ hρ=>?_;have h1:=h.ev hρ x;rw[hx,Rep]at h1;exact ⟨.int k (k.wrap (0 - n)),by simp[execOp,ho,h1,Op.unary,Op.intArith],by rw[Rep]⟩
theorem Zda (h:Sat w0 S Es U T H a w) {o:Oper} {F:Nm→Prop} (s d:TypeId) (x:Operand) (ho:o.op=.convert s d x) {e:TypeDesc} {k:IntKind} (hs:P.underlying s=some e) (hd:P.underlying d=some (.int k)) {k':IntKind} {n:Int} (hx:(rX x).ev T=.int k' n) :
  Yu P w0 S Es H a w o ⟨.int k (k.wrap n),[],[]⟩ F:=by
 refine Yu.pure h rfl fun ρ hρ=>?_
 have h1:=h.ev hρ x
 rw[hx,Rep]at h1
 exact ⟨_,by simp[execOp,ho,h1,convert,run_underlying hs,run_underlying hd,Conv.intToInt],rfl⟩
theorem Zcw (h:Sat w0 S Es U T H a w) {o:Oper} {F:Nm→Prop} (t:TypeId) (x:Operand) (ho:o.op=.makeInterface t x) {e:TypeDesc} (hs:P.underlying t=some e) (hne:∀ m,e≠.interface m) :
  Yu P w0 S Es H a w o ⟨.iface t ((rX x).ev T),[],[]⟩ F:=by
 refine Yu.pure h rfl fun ρ hρ=>⟨.iface t (a.eval x),?_,by rw[Rep];exact ⟨_,rfl,h.ev hρ x⟩⟩
 cases e<;>first|(exact absurd rfl (hne _))|simp[execOp,ho,Instr.makeInterface,run_underlying hs]
theorem ZbZ (h:Sat w0 S Es U T H a w) {o:Oper} {F:Nm→Prop} (s:TypeId) (x:Operand) (fi:Nat) (ho:o.op=.fieldAddr s x fi) {fs:Array Field} (hs:P.underlying s=some (.struct fs)) {fd:Field} (hf:fs[fi]?=some fd) {n:Nat} (hn:UG P fd.type=some n) (hp:0<n)
  {z:Nm} {i f:Nat} (hx:(rX x).ev T=.ptr z i f):Yu P w0 S Es H a w o ⟨.ptr z i (f+fd.offset),[],[]⟩ F:=by
 refine Yu.pure h rfl fun ρ hρ=>?_
 have h1:=h.ev hρ x
 rw[hx,Rep]at h1
 obtain ⟨hnil,h1⟩:=h1
 refine ⟨.pointer (some ⟨(ρ z).blk,(ρ z).base+(i*(ρ z).sz+f)+fd.offset,none⟩),?_,by rw[Rep];exact ⟨hnil,by simp[Nat.add_assoc]⟩⟩
 simp[execOp,ho,h1,Instr.fieldAt,run_underlying hs,hf,Instr.sureAddr,fieldPlace,YT hn,show n≠0 by omega,Addr.add_mid]
theorem ZaI (h:Sat w0 S Es U T H a w) {o:Oper} {F:Nm→Prop} (t:TypeId) (x:Operand) (fi:Nat) (ho:o.op=.field t x fi) {fs:Array Field} (hs:P.underlying t=some (.struct fs)) {fd:Field} (hf:fs[fi]?=some fd) (hag:vd P fd.type=some true) {n:Nat} (hn:UG P fd.type=some n)
  {c:List AV} (hx:(rX x).ev T=.agg c):Yu P w0 S Es H a w o ⟨.agg ((c.drop fd.offset).take n),[],[]⟩ F:=by
 refine Yu.pure h rfl fun ρ hρ=>?_
 have h1:=h.ev hρ x
 rw[hx,Rep]at h1
 obtain ⟨cs,h1,h2⟩:=h1
 refine ⟨.agg (cs.extract fd.offset (fd.offset+n)),?_,by rw[Rep];refine ⟨_,rfl,?_⟩;have:=(h2.drop fd.offset).take n;rw[Array.toList_extract];simpa [List.extract] using this⟩
 simp[execOp,ho,h1,Instr.field,run_underlying hs,hf,part,asAgg,Vh hag,YT hn]
theorem Zb2 (h:Sat w0 S Es U T H a w) {o:Oper} {F:Nm→Prop} (t:TypeId) (x:Operand) (fi:Nat) (ho:o.op=.field t x fi) {fs:Array Field} (hs:P.underlying t=some (.struct fs)) {fd:Field} (hf:fs[fi]?=some fd) (hag:vd P fd.type=some false)
  {c:List AV} (hx:(rX x).ev T=.agg c) {v:AV} (hv:c[fd.offset]?=some v):Yu P w0 S Es H a w o ⟨v,[],[]⟩ F:=by
 refine Yu.pure h rfl fun ρ hρ=>?_
 have h1:=h.ev hρ x
 rw[hx,Rep]at h1
 obtain ⟨cs,h1,h2⟩:=h1
 obtain ⟨u,hu,hr⟩:=h2.get hv
 refine ⟨u,?_,hr⟩
 have hu':cs[fd.offset]?=some u:=by rw[← Array.getElem?_toList];exact hu
 simp[execOp,ho,h1,Instr.field,run_underlying hs,hf,part,asAgg,Vh hag,hu']
theorem ZjV {ρ:Env} {L:Loc} {o:AObj} {sz:Nat} (h:Xe ρ L o w) (hs:Zag o=some sz) (hn:L.nil=false):L.sz=sz:=by
 cases o with
 | free=>cases hs
 | cells c=>cases hs
 | arr sz' n f =>
  simp only[Zag,Option.some.injEq]at hs;rcases h with h|h
  ·rw[hn]at h;cases h.1
  ·rw[← hs];exact h.1.esz
 | view sz' n f =>
  simp only[Zag,Option.some.injEq]at hs;rcases h with h|h
  ·rw[hn]at h;cases h.1
  ·rw[← hs];exact h.esz
theorem ZbS (h:Sat w0 S Es U T H a w) {o:Oper} {F:Nm→Prop} (t:TypeId) (x y:Operand) (ho:o.op=.indexAddr t x y) {e:TypeId} (hs:P.underlying t=some (.slice e)) {n:Nat} (hn:UG P e=some n)
  {z:Nm} {s m:Nat} (hx:(rX x).ev T=.sl z s m) {k:IntKind} {j:Int} (hy:(rX y).ev T=.int k j) (hj:0≤j∧j<m) (hso:Zag (H z)=some n):Yu P w0 S Es H a w o ⟨.ptr z (s+j.toNat) 0,[],[z]⟩ F:=by
 refine Yu.pure h rfl fun ρ hρ=>?_
 have h1:=h.ev hρ x
 have h2:=h.ev hρ y
 rw[hx,Rep]at h1
 rw[hy,Rep]at h2
 rcases h1 with ⟨_,_,hm,_⟩ | ⟨hnil,hle,off,h1,hoff⟩
 ·omega
 ·have hz:=ZjV ((h.hp ρ hρ).obj z) hso hnil
  refine ⟨.pointer (some ⟨(ρ z).blk,off+j.toNat*n,none⟩),?_,?_⟩
  ·simp[execOp,ho,h1,h2,Instr.indexAt,asIntOf,run_underlying hs,YT hn,hj,Addr.add_mid]
  ·rw[Rep]
   refine ⟨hnil,?_⟩;rw[hoff (by omega),hz,Nat.add_mul,Nat.add_zero,Nat.add_assoc]
theorem Zcb (h:Sat w0 S Es U T H a w) {o:Oper} {F:Nm→Prop} (t:TypeId) (x y:Operand) (ho:o.op=.indexAddr t x y) {e len:TypeId} (hs:P.underlying t=some (.array len e)) {n:Nat} (hn:UG P e=some n)
  {z:Nm} {i f:Nat} (hx:(rX x).ev T=.ptr z i f) {k:IntKind} {j:Int} (hy:(rX y).ev T=.int k j) (hj:0≤j∧j<len):Yu P w0 S Es H a w o ⟨.ptr z i (f+j.toNat*n),[],[]⟩ F:=by
 refine Yu.pure h rfl fun ρ hρ=>?_
 have h1:=h.ev hρ x
 have h2:=h.ev hρ y
 rw[hx,Rep]at h1
 rw[hy,Rep]at h2
 refine ⟨.pointer (some ⟨(ρ z).blk,(ρ z).base+(i*(ρ z).sz+f)+j.toNat*n,none⟩),?_,by rw[Rep];exact ⟨h1.1,by simp[Nat.add_assoc]⟩⟩
 simp[execOp,ho,h1.2,h2,Instr.indexAt,asIntOf,run_underlying hs,YT hn,hj,Addr.add_mid,Instr.sureAddr]
theorem Zat (h:Sat w0 S Es U T H a w) {o:Oper} {F:Nm→Prop} (t:TypeId) (x y:Operand) (ho:o.op=.index t x y) {e len:TypeId} (hs:P.underlying t=some (.array len e)) (hag:vd P e=some true) {n:Nat} (hn:UG P e=some n)
  {c:List AV} (hx:(rX x).ev T=.agg c) {k:IntKind} {j:Int} (hy:(rX y).ev T=.int k j) (hj:0≤j∧j<len):Yu P w0 S Es H a w o ⟨.agg ((c.drop (j.toNat*n)).take n),[],[]⟩ F:=by
 refine Yu.pure h rfl fun ρ hρ=>?_
 have h1:=h.ev hρ x
 have h2:=h.ev hρ y
 rw[hx,Rep]at h1
 rw[hy,Rep]at h2
 obtain ⟨cs,h1,h3⟩:=h1
 refine ⟨.agg (cs.extract (j.toNat*n) (j.toNat*n+n)),?_,by rw[Rep];refine ⟨_,rfl,?_⟩;have:=(h3.drop (j.toNat*n)).take n;rw[Array.toList_extract];simpa [List.extract] using this⟩
 simp[execOp,ho,h1,h2,Instr.index,asIntOf,run_underlying hs,YT hn,hj,part,Vh hag]
theorem ZbU (h:Sat w0 S Es U T H a w) {o:Oper} {F:Nm→Prop} (t:TypeId) (x y:Operand) (ho:o.op=.index t x y) {e len:TypeId} (hs:P.underlying t=some (.array len e)) (hag:vd P e=some false) (hn:UG P e=some 1)
  {c:List AV} (hx:(rX x).ev T=.agg c) {k:IntKind} {j:Int} (hy:(rX y).ev T=.int k j) (hj:0≤j∧j<len) {v:AV} (hv:c[j.toNat]?=some v):Yu P w0 S Es H a w o ⟨v,[],[]⟩ F:=by
 refine Yu.pure h rfl fun ρ hρ=>?_
 have h1:=h.ev hρ x
 have h2:=h.ev hρ y
 rw[hx,Rep]at h1
 rw[hy,Rep]at h2
 obtain ⟨cs,h1,h3⟩:=h1
 obtain ⟨u,hu,hr⟩:=h3.get hv
 have hu':cs[j.toNat]?=some u:=by rw[← Array.getElem?_toList];exact hu
 exact ⟨u,by simp[execOp,ho,h1,h2,Instr.index,asIntOf,run_underlying hs,YT hn,hj,part,Vh hag,hu'],hr⟩
theorem Zfs (h:Sat w0 S Es U T H a w) {o:Oper} {F:Nm→Prop} (x:Operand) (i:Nat) (ho:o.op=.extract x i) {c:List AV} (hx:(rX x).ev T=.tup c) {v:AV} (hv:c[i]?=some v):Yu P w0 S Es H a w o ⟨v,[],[]⟩ F:=by
 refine Yu.pure h rfl fun ρ hρ=>?_;have h1:=h.ev hρ x;rw[hx,Rep]at h1;obtain ⟨cs,h1,h3⟩:=h1;obtain ⟨u,hu,hr⟩:=h3.get hv;have hu':cs[i]?=some u:=by rw[← Array.getElem?_toList];exact hu
 exact ⟨u,by simp[execOp,ho,h1,Instr.extract,hu'],hr⟩
theorem Zc4 (h:Sat w0 S Es U T H a w) {o:Oper} {F:Nm→Prop} (f:FuncId) (fi cap:Array Operand) (ho:o.op=.makeFunc (.func f) fi cap) (hfi:fi.size=0):Yu P w0 S Es H a w o ⟨.fn f ((cap.toList.map rX).map (X.ev T)),[],[]⟩ F:=by
 refine Yu.pure h rfl fun ρ hρ=>⟨.func (.func f) #[] (cap.map a.eval),?_,?_⟩
 ·have:fi=#[]:=Array.eq_empty_of_size_eq_zero hfi
  simp[execOp,ho,Instr.makeFunc,this]
 ·rw[Rep]
  refine ⟨_,rfl,?_⟩;rw[Array.toList_map];generalize cap.toList=l
  induction l with
  | nil=>rfl
  | cons x r ih=>exact ⟨_,_,rfl,h.ev hρ x,ih⟩
theorem Zdj (h:Sat w0 S Es U T H a w) {ρ:Env} (hρ:Es ρ):∀ (l:List Operand),Z8 ρ ((l.map rX).map (X.ev T)) (l.map a.eval)
 | []=>rfl
 | x :: r=>⟨_,_,rfl,h.ev hρ x,Zdj h hρ r⟩
end
end Go.W
