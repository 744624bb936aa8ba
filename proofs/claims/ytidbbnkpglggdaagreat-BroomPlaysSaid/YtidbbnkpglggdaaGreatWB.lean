/- Abstract values, objects and the relation that ties them to a world. The small language of operations, resolved against a program's types, and what an operation does to abstract values and objects. -/
import Derived.WalkKit
import Derived.Deep.MidRow
import Derived.Deep.AppendSrc
import Derived.Laws.MakeOwn
namespace Go.W
set_option linter.unusedSimpArgs false
set_option linter.unusedVariables false
inductive Nm where
 | top (n:Nat)
 | sub (p:Nm) (t j f:Nat)
 deriving DecidableEq,Inhabited
def Nm.root:Nm→Nat
 | .top n=>n
 | .sub p _ _ _=>p.root
def Nm.mx:Nm→Nat
 | .top n=>n
 | .sub p t _ _=>max p.mx t
inductive AV where
 | bot
 | int (k:IntKind) (n:Int)
 | bool (b:Bool)
 | str (s:ByteArray)
 | raw (v:Value)
 | ptr (o:Nm) (i f:Nat)
 | sl (o:Nm) (i n:Nat)
 | nsl
 | fn (f:FuncId) (cap:List AV)
 | iface (t:TypeId) (v:AV)
 | agg (l:List AV)
 | tup (l:List AV)
 | os (t sz:Nat) (els:List (List AV))
 | op (t:Nat) (c:List AV)
 deriving Inhabited
structure Loc where
 blk:Nat
 base:Nat
 sz:Nat
 cap:Nat
 nil:Bool
abbrev Env:=Nm→Loc
mutual
def Rep (ρ:Env):AV→Value→Prop
 | .bot,_=>True
 | .int k n,v=>v=.int k n
 | .bool b,v=>v=.bool b
 | .str s,v=>v=.string s
 | .raw x,v=>v=x
 | .ptr o i f,v=>(ρ o).nil=false∧v=.pointer (some ⟨(ρ o).blk,(ρ o).base+(i*(ρ o).sz+f),none⟩)
 | .sl o i n,v=>((ρ o).nil=true∧i=0∧n=0∧∃ ad,v=.slice ad 0 0) ∨
   ((ρ o).nil=false∧i+n≤(ρ o).cap∧∃ off,v=.slice (some ⟨(ρ o).blk,off,none⟩) n ((ρ o).cap - i)∧(i<(ρ o).cap→off=(ρ o).base+i*(ρ o).sz))
 | .nsl,v=>∃ ad,v=.slice ad 0 0
 | .fn f cap,v=>∃ cs,v=.func (.func f) #[] cs∧Z8 ρ cap cs.toList
 | .iface t a,v=>∃ x,v=.iface t x∧Rep ρ a x
 | .agg l,v=>∃ cs,v=.agg cs∧Z8 ρ l cs.toList
 | .tup l,v=>∃ cs,v=.tuple cs∧Z8 ρ l cs.toList
 | .os _ _ _,_=>False
 | .op _ _,_=>False
def Z8 (ρ:Env):List AV→List Value→Prop
 | [],vs=>vs=[]
 | a :: as,vs=>∃ v r,vs=v :: r∧Rep ρ a v∧Z8 ρ as r
end
theorem Z8.length {ρ:Env}:∀ {l:List AV} {vs:List Value},Z8 ρ l vs→vs.length=l.length
 | [],vs,h=>by simp[Z8]at h;subst h;rfl
 | a :: as,vs,h=>by
  simp only[Z8]at h;obtain ⟨v,r,rfl,_,hr⟩:=h;simp[hr.length]
theorem Z8.get {ρ:Env}:∀ {l:List AV} {vs:List Value},Z8 ρ l vs→∀ {j:Nat} {a:AV},l[j]?=some a→∃ v,vs[j]?=some v∧Rep ρ a v
 | [],_,_,j,a,h=>by simp at h
 | b :: as,vs,h,j,a,hj=>by
  simp only[Z8]at h;obtain ⟨v,r,rfl,h1,hr⟩:=h;cases j with
  | zero=>simp at hj;subst hj;exact ⟨v,rfl,h1⟩
  | succ j=>simpa using hr.get (by simpa using hj)
theorem Z8.append {ρ:Env}:∀ {l l':List AV} {vs vs':List Value},Z8 ρ l vs→Z8 ρ l' vs'→Z8 ρ (l++l') (vs++vs')
 | [],_,vs,_,h,h' => by simp[Z8]at h;subst h;simpa using h'
 | b :: as,_,vs,_,h,h' => by
  simp only[Z8]at h;obtain ⟨v,r,rfl,h1,hr⟩:=h;exact ⟨v,_,rfl,h1,hr.append h'⟩
theorem Z8.drop {ρ:Env}:∀ (n:Nat) {l:List AV} {vs:List Value},Z8 ρ l vs→Z8 ρ (l.drop n) (vs.drop n)
 | 0,_,_,h=>by simpa using h
 | n+1,[],vs,h=>by simp[Z8]at h;subst h;simp[Z8]
 | n+1,b :: as,vs,h=>by
  simp only[Z8]at h;obtain ⟨v,r,rfl,_,hr⟩:=h;simpa using hr.drop n
theorem Z8.take {ρ:Env}:∀ (n:Nat) {l:List AV} {vs:List Value},Z8 ρ l vs→Z8 ρ (l.take n) (vs.take n)
 | 0,_,_,_=>by simp[Z8]
 | n+1,[],vs,h=>by simp[Z8]at h;subst h;simp[Z8]
 | n+1,b :: as,vs,h=>by
  simp only[Z8]at h;obtain ⟨v,r,rfl,h1,hr⟩:=h;simp only[List.take_succ_cons];exact ⟨v,_,rfl,h1,hr.take n⟩
theorem Z8.cons {ρ:Env} {a:AV} {as:List AV} {v:Value} {vs:List Value} (h:Rep ρ a v) (h':Z8 ρ as vs):Z8 ρ (a :: as) (v :: vs):=⟨v,vs,rfl,h,h'⟩
theorem Z8.of_get {ρ:Env}:∀ (l:List AV) (vs:List Value),vs.length=l.length→(∀ (j:Nat) (a:AV),l[j]?=some a→∃ v,vs[j]?=some v∧Rep ρ a v)→Z8 ρ l vs
 | [],vs,hl,_=>by simp at hl;subst hl;rfl
 | b :: as,[],hl,_=>by simp at hl
 | b :: as,v :: r,hl,h=>by
  have h0:=h 0 b rfl;simp at h0;exact ⟨v,r,rfl,h0,Z8.of_get as r (by simpa using hl) (fun j a hj=>by simpa using h (j+1) a (by simpa using hj))⟩
def AV.one:AV→Bool
 | .agg _ | .tup _ | .bot=>false
 | .raw v=>v.oneCell'
 | _=>true
theorem Rep.one {ρ:Env} {a:AV} {v:Value} (h:Rep ρ a v) (h1:a.one=true):v.oneCell'=true:=by
 cases a<;>simp[AV.one]at h1<;>simp only[Rep]at h
 case raw x=>subst h;exact h1
 case sl o i n=>rcases h with ⟨_,_,_,_,rfl⟩ | ⟨_,_,off,rfl,_⟩<;>rfl
 case nsl=>obtain ⟨ad,rfl⟩:=h;rfl
 case ptr o i f=>obtain ⟨_,rfl⟩:=h;rfl
 case fn f cap=>obtain ⟨cs,rfl,_⟩:=h;rfl
 case iface t x=>obtain ⟨y,rfl,_⟩:=h;rfl
 all_goals (subst h;rfl)
def AV.cells:AV→List AV
 | .agg l=>l
 | v=>[v]
theorem Rep.cells {ρ:Env} {a:AV} {v:Value} (h:Rep ρ a v) (hb:a.cells.all AV.one=true):Z8 ρ a.cells v.cells.toList:=by
 cases a<;>simp only[AV.cells,List.all_cons,List.all_nil,Bool.and_true]at hb⊢
 case agg l =>
  rw[Rep]at h;obtain ⟨cs,rfl,h⟩:=h;exact h
 all_goals
  have h1:=Rep.one h hb
  have:v.cells=#[v]:=by cases v<;>first|rfl|(simp[Value.oneCell']at h1)
  rw[this]
  exact Z8.cons h rfl
theorem Z8.all_one {ρ:Env}:∀ {l:List AV} {vs:List Value},Z8 ρ l vs→l.all AV.one=true→∀ v∈vs,v.oneCell'=true
 | [],vs,h,_=>by simp[Z8]at h;subst h;simp
 | b :: as,vs,h,ha=>by
  simp only[Z8]at h;obtain ⟨v,r,rfl,h1,hr⟩:=h;simp at ha;intro x hx;rcases List.mem_cons.1 hx with rfl|hx
  ·exact Rep.one h1 ha.1
  ·exact hr.all_one (by simpa using ha.2) x hx
inductive AObj where
 | free
 | cells (c:List AV)
 | arr (sz n:Nat) (f:Nat→List AV)
 | view (sz n:Nat) (f:Nat→List AV)
 deriving Inhabited
structure Reg (ρ:Env) (L:Loc) (sz n:Nat) (f:Nat→List AV) (w:World):Prop where
 nn:L.nil=false
 esz:L.sz=sz
 cap:n≤L.cap
 len:∀ i,i<n→(f i).length=sz
 cell:∀ i,i<n→∀ (j:Nat) (v:AV),(f i)[j]?=some v→∃ x,w.cell? ⟨L.blk,L.base+(i*sz+j),none⟩=some x∧Rep ρ v x∧x.oneCell'=true
def ZeI (L:Loc) (sz:Nat) (w:World):Prop:=∀ k,k<L.cap*sz→(w.cell? ⟨L.blk,L.base+k,none⟩).isSome=true∧w.frozen? ⟨L.blk,L.base+k,none⟩=false
def Xe (ρ:Env) (L:Loc):AObj→World→Prop
 | .free,_=>True
 | .cells c,w=>Reg ρ L c.length 1 (fun _=>c) w∧ZeI L c.length w
 | .arr sz n f,w=>(L.nil=true∧n=0)∨(Reg ρ L sz n f w∧ZeI L sz w)
 | .view sz n f,w=>(L.nil=true∧n=0)∨Reg ρ L sz n f w
def ZF (L:Loc):AObj→Prop
 | .cells _=>True
 | .arr _ _ _=>L.nil=false
 | _=>False
def Yl (L:Loc):AObj→Prop
 | .view _ _ _=>L.nil=false
 | _=>False
structure Sc where
 own:Nat→Prop
 m:Nat
 A:Nat→Loc
structure HCore (w0:World) (S:Sc) (ρ:Env) (H:Nm→AObj) (w:World):Prop where
 os:w.os=w0.os
 tape:w.tape=w0.tape
 output:w.output=w0.output
 size:w0.heap.size≤w.heap.size
 frame:∀ b,b<w0.heap.size→¬ S.own b→w.heap[b]?=w0.heap[b]?
 obj:∀ x,Xe ρ (ρ x) (H x) w
 own:∀ x,ZF (ρ x) (H x)→(ρ x).blk<w.heap.size∧(w0.heap.size≤(ρ x).blk∨S.own (ρ x).blk)
 dist:∀ x y,ZF (ρ x) (H x)→ZF (ρ y) (H y)→(ρ x).blk=(ρ y).blk→x=y
 vw:∀ x,Yl (ρ x) (H x)→(ρ x).blk<w0.heap.size∧¬ S.own (ρ x).blk
 an:∀ x,x<S.m→ρ (.top x)=S.A x
theorem Reg.same {ρ:Env} {L:Loc} {sz n:Nat} {f:Nat→List AV} {w w':World} (h:Reg ρ L sz n f w) (hb:w'.heap[L.blk]?=w.heap[L.blk]?):Reg ρ L sz n f w' :=
 ⟨h.nn,h.esz,h.cap,h.len,fun i hi j v hv=>by
  obtain ⟨x,h1,h2⟩:=h.cell i hi j v hv;exact ⟨x,by rw[← h1];simp only[World.cell?,hb],h2⟩⟩
theorem ZeI.same {L:Loc} {sz:Nat} {w w':World} (h:ZeI L sz w) (hb:w'.heap[L.blk]?=w.heap[L.blk]?):ZeI L sz w':=fun k hk=>by
 have:=h k hk;simpa only[World.cell?,World.frozen?,hb] using this
theorem Xe.same {ρ:Env} {L:Loc} {o:AObj} {w w':World} (h:Xe ρ L o w) (hb:w'.heap[L.blk]?=w.heap[L.blk]?):Xe ρ L o w':=by
 cases o with
 | free=>trivial
 | cells c=>exact ⟨h.1.same hb,h.2.same hb⟩
 | arr sz n f=>exact h.imp id fun h=>⟨h.1.same hb,h.2.same hb⟩
 | view sz n f=>exact h.imp id fun h=>h.same hb
theorem Xe.nil_same {ρ:Env} {L:Loc} {o:AObj} {w w':World} (h:Xe ρ L o w) (ho:¬ ZF L o) (hv:¬ Yl L o):Xe ρ L o w':=by
 cases o with
 | free=>trivial
 | cells c=>exact (ho trivial).elim
 | arr sz n f =>
  rcases h with h|h
  ·exact .inl h
  ·exact (ho h.1.nn).elim
 | view sz n f =>
  rcases h with h|h
  ·exact .inl h
  ·exact (hv h.nn).elim
def upd {κ α:Type} [DecidableEq κ] (T:κ→α) (k:κ) (v:α):κ→α:=fun j=>if j=k then v else T j
@[simp] theorem Zx {κ α:Type} [DecidableEq κ] (T:κ→α) (k:κ) (v:α):upd T k v k=v:=if_pos rfl
theorem Zn {κ α:Type} [DecidableEq κ] (T:κ→α) {k j:κ} (v:α) (h:j≠k):upd T k v j=T j:=if_neg h
theorem UA {κ α:Type} [DecidableEq κ] (T:κ→α) (k j:κ) (v:α):upd T k v j=if j=k then v else T j:=rfl
theorem Zgc {κ α:Type} [DecidableEq κ] (T:κ→α) {k j:κ} (v u:α) (h:k≠j):upd (upd T k v) j u=upd (upd T j u) k v:=by
 funext x
 simp only[UA];split<;>split<;>simp_all
section
variable {w0:World} {S:Sc} {ρ:Env} {H:Nm→AObj} {w:World}
theorem HCore.same (h:HCore w0 S ρ H w) {w':World} (hh:w'.heap=w.heap) (h1:w'.os=w.os) (h2:w'.tape=w.tape) (h3:w'.output=w.output):HCore w0 S ρ H w' :=
 ⟨h1.trans h.os,h2.trans h.tape,h3.trans h.output,by rw[hh];exact h.size,fun b hb hs=>by rw[hh];exact h.frame b hb hs,fun x=>(h.obj x).same (by rw[hh]),fun x hx=>by rw[hh];exact h.own x hx,h.dist,h.vw,h.an⟩
theorem HCore.drew (h:HCore w0 S ρ H w):HCore w0 S ρ H w.drew:=h.same rfl rfl rfl rfl
theorem HCore.change (h:HCore w0 S ρ H w) {x:Nm} {o':AObj} {w':World} (ho:ZF (ρ x) (H x)) (ho':ZF (ρ x) o') (h1:w'.os=w.os) (h2:w'.tape=w.tape) (h3:w'.output=w.output)
  (hs:w'.heap.size=w.heap.size) (hb:∀ b,b≠(ρ x).blk→w'.heap[b]?=w.heap[b]?) (hok:Xe ρ (ρ x) o' w'):HCore w0 S ρ (upd H x o') w' where
 an:=h.an
 os:=h1.trans h.os
 tape:=h2.trans h.tape
 output:=h3.trans h.output
 size:=by rw[hs];exact h.size
 frame b hlt hns:=by
  rw[hb b ?_]
  ·exact h.frame b hlt hns
  ·rintro rfl
   rcases (h.own x ho).2 with h4|h4
   ·omega
   ·exact hns h4
 obj y:=by
  by_cases e:y=x
  ·subst e;rw[Zx];exact hok
  ·rw[Zn _ _ e]
   by_cases hy:ZF (ρ y) (H y)
   ·exact (h.obj y).same (hb _ fun e' => e (h.dist _ _ hy ho e'))
   ·by_cases hv:Yl (ρ y) (H y)
    ·refine (h.obj y).same (hb _ fun e' => ?_)
     have h4:=h.vw y hv;rw[e']at h4;rcases (h.own x ho).2 with h5|h5
     ·omega
     ·exact h4.2 h5
    ·exact (h.obj y).nil_same hy hv
 own y hy:=by
  rw[hs];by_cases e:y=x
  ·subst e;exact h.own y ho
  ·rw[Zn _ _ e]at hy;exact h.own y hy
 dist y z hy hz e:=by
  have hy':ZF (ρ y) (H y):=by
   by_cases e1:y=x
   ·subst e1;exact ho
   ·rwa [Zn _ _ e1]at hy
  have hz':ZF (ρ z) (H z):=by
   by_cases e1:z=x
   ·subst e1;exact ho
   ·rwa [Zn _ _ e1]at hz
  exact h.dist y z hy' hz' e
 vw y hy:=by
  by_cases e:y=x
  ·subst e;rw[Zx]at hy;cases o'<;>simp_all [ZF,Yl]
  ·rw[Zn _ _ e]at hy;exact h.vw y hy
theorem HCore.alloc (h:HCore w0 S ρ H w) {x:Nm} {o':AObj} {ob:Obj} (hx:H x=.free) (hL:(ρ x).blk=w.heap.size) (ho':ZF (ρ x) o') (hok:Xe ρ (ρ x) o' (w.alloc ob)):HCore w0 S ρ (upd H x o') (w.alloc ob) where
 an:=h.an
 os:=h.os
 tape:=h.tape
 output:=h.output
 size:=by rw[World.size_alloc];have:=h.size;omega
 frame b hlt hns:=by
  have:=h.size;have e:(w.alloc ob).heap[b]?=w.heap[b]?:=by
   show (w.heap.push ob)[b]?=_;rw[Array.getElem?_push,if_neg (by omega)]
  rw[e];exact h.frame b hlt hns
 obj y:=by
  have keep:∀ b,b<w.heap.size→(w.alloc ob).heap[b]?=w.heap[b]?:=fun b hb=>by
   show (w.heap.push ob)[b]?=_;rw[Array.getElem?_push,if_neg (by omega)]
  by_cases e:y=x
  ·subst e;rw[Zx];exact hok
  ·rw[Zn _ _ e]
   by_cases hy:ZF (ρ y) (H y)
   ·exact (h.obj y).same (keep _ (h.own y hy).1)
   ·by_cases hv:Yl (ρ y) (H y)
    ·have:=(h.vw y hv).1
     have:=h.size;exact (h.obj y).same (keep _ (by omega))
    ·exact (h.obj y).nil_same hy hv
 own y hy:=by
  rw[World.size_alloc];by_cases e:y=x
  ·subst e;have:=h.size;exact ⟨by omega,.inl (by omega)⟩
  ·rw[Zn _ _ e]at hy;have:=h.own y hy;exact ⟨by omega,this.2⟩
 dist y z hy hz e:=by
  by_cases e1:y=x
  ·subst e1
   by_cases e2:z=y
   ·exact e2.symm
   ·rw[Zn _ _ e2]at hz
    have:=(h.own z hz).1;omega
  ·rw[Zn _ _ e1]at hy
   by_cases e2:z=x
   ·subst e2
    have:=(h.own y hy).1;omega
   ·rw[Zn _ _ e2]at hz
    exact h.dist y z hy hz e
 vw y hy:=by
  by_cases e:y=x
  ·subst e;rw[Zx]at hy;cases o'<;>simp_all [ZF,Yl]
  ·rw[Zn _ _ e]at hy;exact h.vw y hy
theorem HCore.put (h:HCore w0 S ρ H w) {x:Nm} {o':AObj} (hn:¬ ZF (ρ x) o') (hv:¬ Yl (ρ x) o') (hok:Xe ρ (ρ x) o' w):HCore w0 S ρ (upd H x o') w where
 an:=h.an
 os:=h.os
 tape:=h.tape
 output:=h.output
 size:=h.size
 frame:=h.frame
 obj y:=by
  by_cases e:y=x
  ·subst e;rw[Zx];exact hok
  ·rw[Zn _ _ e];exact h.obj y
 own y hy:=by
  by_cases e:y=x
  ·subst e;rw[Zx]at hy;exact (hn hy).elim
  ·rw[Zn _ _ e]at hy;exact h.own y hy
 dist y z hy hz e:=by
  by_cases e1:y=x
  ·subst e1;rw[Zx]at hy;exact (hn hy).elim
  ·by_cases e2:z=x
   ·subst e2;rw[Zx]at hz;exact (hn hz).elim
   ·rw[Zn _ _ e1]at hy;rw[Zn _ _ e2]at hz;exact h.dist y z hy hz e
 vw y hy:=by
  by_cases e:y=x
  ·subst e;rw[Zx]at hy;exact (hv hy).elim
  ·rw[Zn _ _ e]at hy;exact h.vw y hy
theorem HCore.drop (h:HCore w0 S ρ H w) (x:Nm):HCore w0 S ρ (upd H x .free) w:=h.put (fun h=>h) (fun h=>h) trivial
theorem HCore.move (h:HCore w0 S ρ H w) {x y:Nm} {o':AObj} (hxy:x≠y) (hx:H x=.free) (ho:ZF (ρ y) (H y)) (hb:(ρ x).blk=(ρ y).blk) (ho':ZF (ρ x) o') (hok:Xe ρ (ρ x) o' w) :
  HCore w0 S ρ (upd (upd H y .free) x o') w where
 an:=h.an
 os:=h.os
 tape:=h.tape
 output:=h.output
 size:=h.size
 frame:=h.frame
 obj z:=by
  by_cases e:z=x
  ·subst e;rw[Zx];exact hok
  ·rw[Zn _ _ e]
   by_cases e':z=y
   ·subst e';rw[Zx];trivial
   ·rw[Zn _ _ e'];exact h.obj z
 own z hz:=by
  by_cases e:z=x
  ·subst e;rw[hb];exact h.own y ho
  ·rw[Zn _ _ e]at hz
   by_cases e':z=y
   ·subst e';rw[Zx]at hz;exact hz.elim
   ·rw[Zn _ _ e']at hz;exact h.own z hz
 dist z u hz hu e:=by
  have key:∀ z,z≠x→ZF (ρ z) (upd (upd H y .free) x o' z)→ZF (ρ z) (H z)∧z≠y:=fun z e hz=>by
   rw[Zn _ _ e]at hz;by_cases e':z=y
   ·subst e';rw[Zx]at hz;exact hz.elim
   ·rw[Zn _ _ e']at hz;exact ⟨hz,e'⟩
  by_cases e1:z=x
  ·by_cases e2:u=x
   ·rw[e1,e2]
   ·obtain ⟨h1,h2⟩:=key u e2 hu
    subst e1;rw[hb]at e;exact (h2 (h.dist _ _ ho h1 e).symm).elim
  ·obtain ⟨h1,h2⟩:=key z e1 hz
   by_cases e2:u=x
   ·subst e2
    rw[hb]at e;exact (h2 (h.dist _ _ h1 ho e)).elim
   ·exact h.dist _ _ h1 (key u e2 hu).1 e
 vw z hz:=by
  by_cases e:z=x
  ·subst e;rw[Zx]at hz;cases o'<;>simp_all [ZF,Yl]
  ·rw[Zn _ _ e]at hz
   by_cases e':z=y
   ·subst e';rw[Zx]at hz;exact hz.elim
   ·rw[Zn _ _ e']at hz;exact h.vw z hz
theorem HCore.re (h:HCore w0 S ρ H w) {ρ':Env} {H':Nm→AObj} (φ:Nm→Nm) (hob:∀ x,Xe ρ' (ρ' x) (H' x) w) (hown:∀ x,ZF (ρ' x) (H' x)→ZF (ρ (φ x)) (H (φ x))∧(ρ' x).blk=(ρ (φ x)).blk)
  (hvw:∀ x,Yl (ρ' x) (H' x)→(ρ' x).blk<w0.heap.size∧¬ S.own (ρ' x).blk) (hinj:∀ x y,ZF (ρ' x) (H' x)→ZF (ρ' y) (H' y)→φ x=φ y→x=y) (han:∀ x,x<S.m→ρ' (.top x)=S.A x):HCore w0 S ρ' H' w where
 os:=h.os
 tape:=h.tape
 output:=h.output
 size:=h.size
 frame:=h.frame
 obj:=hob
 own x hx:=by rw[(hown x hx).2];exact h.own _ (hown x hx).1
 dist x y hx hy e:=hinj x y hx hy (h.dist _ _ (hown x hx).1 (hown y hy).1 (by rw[← (hown x hx).2,← (hown y hy).2];exact e))
 vw:=hvw
 an:=han
theorem HCore.weaken (h:HCore w0 S ρ H w) {H':Nm→AObj} (hle:∀ x,H' x=H x∨H' x=.free):HCore w0 S ρ H' w:=by
 refine h.re id (fun x=>?_) (fun x hx=>?_) (fun x hx=>?_) (fun _ _ _ _ e=>e) h.an
 ·rcases hle x with e|e
  ·rw[e];exact h.obj x
  ·rw[e];trivial
 ·rcases hle x with e|e
  ·rw[e]at hx;exact ⟨hx,rfl⟩
  ·rw[e]at hx;exact hx.elim
 ·rcases hle x with e|e
  ·rw[e]at hx;exact h.vw x hx
  ·rw[e]at hx;exact hx.elim
end
inductive X where
 | t (n:Nat)
 | c (v:AV)
 deriving Inhabited
inductive LK where
 | b | i | s
 deriving Inhabited
inductive EqK where
 | bool | string | iface | ptr | slice | func
 | flat (ks:List LK)
 deriving Inhabited
inductive MapOp where
 | mk
 | lk (ok:Bool) (z:AV) (x k:X)
 | up (x k v:X)
 | en (z:AV) (x k:X)
 | st (x s v:X)
 | ln (x:X)
 | rg (x:X)
 | nx (x:X)
 | nt (x:X)
 deriving Inhabited
inductive MOp where
 | mv (x:X)
 | pick (c a b:X)
 | alloc (z:List AV)
 | box (x:X)
 | load (ag:Bool) (n:Nat) (x:X)
 | store (n:Nat) (x y:X)
 | nilck (x:X)
 | bin (op:BinOp) (x y:X)
 | eq (ng:Bool) (k:EqK) (x y:X)
 | un (op:UnOp) (x:X)
 | conv (k:IntKind) (x:X)
 | mkif (t:TypeId) (x:X)
 | faddr (off:Nat) (x:X)
 | fld (ag:Bool) (off n:Nat) (x:X)
 | iaddr (sz:Nat) (x i:X)
 | paddr (len sz:Nat) (x i:X)
 | idx (ag:Bool) (len sz:Nat) (x i:X)
 | slc (sz:Nat) (x:X) (lo hi:Option X)
 | len (x:X)
 | slen (x:X)
 | cap (x:X)
 | stop
 | mn (xs:List X)
 | mx (xs:List X)
 | app (sz bytes:Nat) (x y:X)
 | appz (sz bytes:Nat) (x y:X)
 | mks (sz bytes:Nat) (z:List AV) (l c:X)
 | build (z:List AV) (ps:List (Nat×Nat×X))
 | bsl (sz n:Nat) (z:List AV) (ps:List (Nat×Nat×X))
 | ext (x:X) (i:Nat)
 | tas (t:TypeId) (z:AV) (ok:Bool) (x:X)
 | mkfn (f:FuncId) (cap:List X)
 | call (f:X) (args:List X)
 | clr (sz:Nat) (x:X)
 | mp (o:MapOp)
 deriving Inhabited
structure FRes where
 v:AV
 hs:List (Nm×AObj)
 rd:List Nm
def Yr {κ α:Type} [DecidableEq κ] (H:κ→α):List (κ×α)→κ→α
 | []=>H
 | (x,o) :: r=>Yr (upd H x o) r
def X.ev (T:Nat→AV):X→AV
 | .t n=>T n
 | .c v=>v
def ZdI (c:Bool) (a b:AV):AV :=
 match a,b with
 | .bool p,.bool q=>.bool (if c=true then p else q)
 | _,_=>if c=true then a else b
def VZ:AObj→Nat→Option (List AV)
 | .cells c,i=>if i=0 then some c else none
 | .arr _ n f,i=>if i<n then some (f i) else none
 | .view _ n f,i=>if i<n then some (f i) else none
 | .free,_=>none
def Y4 (c:List AV) (f:Nat) (l:List AV):List AV:=c.take f++l++c.drop (f+l.length)
def UY:AObj→Nat→Nat→List AV→Option AObj
 | .cells c,i,f,l=>if i=0 then (if f+l.length≤c.length then some (.cells (Y4 c f l)) else none) else none
 | .arr sz n g,i,f,l=>if i<n then (if f+l.length≤sz then some (.arr sz n (fun j=>if j=i then Y4 (g j) f l else g j)) else none) else none
 | _,_,_,_=>none
def Zah (op:BinOp) (k:IntKind) (a b:Int):Int :=
 match op with
 | .and=>k.wrap (BitVec.ofInt k.bits a &&& BitVec.ofInt k.bits b).toNat
 | .or=>k.wrap (BitVec.ofInt k.bits a ||| BitVec.ofInt k.bits b).toNat
 | .xor=>k.wrap (BitVec.ofInt k.bits a ^^^ BitVec.ofInt k.bits b).toNat
 | _=>k.wrap (BitVec.ofInt k.bits a &&& ~~~ BitVec.ofInt k.bits b).toNat
def Zkl (op:BinOp) (k:IntKind) (a b:Int):Option AV :=
 match op with
 | .add=>some (.int k (k.wrap (a+b)))
 | .sub=>some (.int k (k.wrap (a - b)))
 | .mul=>some (.int k (k.wrap (a*b)))
 | .quo=>if b=0 then none else some (.int k (k.wrap (a.tdiv b)))
 | .rem=>if b=0 then none else some (.int k (a.tmod b))
 | .and=>some (.int k (Zah .and k a b))
 | .or=>some (.int k (Zah .or k a b))
 | .xor=>some (.int k (Zah .xor k a b))
 | .andNot=>some (.int k (Zah .andNot k a b))
 | .eql=>some (.bool (decide (a=b)))
 | .neq=>some (.bool (decide (a≠b)))
 | .lss=>some (.bool (decide (a<b)))
 | .leq=>some (.bool (decide (a≤b)))
 | .gtr=>some (.bool (decide (b<a)))
 | .geq=>some (.bool (decide (b≤a)))
 | .shl=>none
 | .shr=>none
def ZiP (k:IntKind) (a b:Int):Int:=k.wrap (a*2 ^ (min b.toNat k.bits))
def Zjj (k:IntKind) (a b:Int):Int:=a.fdiv (2 ^ (min b.toNat k.bits))
def eq1:LK→AV→AV→Option Bool
 | .i,.int k a,.int k' b=>if k=k' then some (decide (a=b)) else none
 | .b,.bool a,.bool b=>some (a == b)
 | .s,.str a,.str b=>some (a == b)
 | _,_,_=>none
def eqL:List LK→List AV→List AV→Option Bool
 | [],[],[]=>some true
 | k :: ks,a :: as,b :: bs=>match eq1 k a b,eqL ks as bs with
  | some x,some y=>some (x&&y)
  | _,_=>none
 | _,_,_=>none
def eqV (k:EqK) (a b:AV):Option Bool :=
 match k,a,b with
 | .bool,.bool a,.bool b=>some (a == b)
 | .string,.str a,.str b=>some (a == b)
 | .iface,.iface _ _,.raw .nilIface=>some false
 | .iface,.raw .nilIface,.raw .nilIface=>some true
 | .ptr,.ptr _ _ _,.raw (.pointer none)=>some false
 | .ptr,.raw (.pointer none),.raw (.pointer none)=>some true
 | .flat ks,.agg a,.agg b=>eqL ks a b
 | .slice,.sl _ _ n,_=>if 0<n then some false else none
 | .slice,.raw (.slice none _ _),_=>some true
 | .slice,.raw (.slice (some _) _ _),_=>some false
 | .func,.fn _ _,_=>some false
 | .func,.raw .nilFunc,_=>some true
 | _,_,_=>none
def zP:List AV→List (Nat×Nat×AV)→Option (List AV)
 | c,[]=>some c
 | c,(off,n,v) :: r=>if v.cells.length=n∧off+n≤c.length∧v.cells.all AV.one=true then zP (Y4 c off v.cells) r else none
def Vw (T:Nat→AV) (ps:List (Nat×Nat×X)):List (Nat×Nat×AV):=ps.map fun (a,b,x)=>(a,b,x.ev T)
def Vj (H:Nm→AObj):AV→Option (Nat×(Nat→List AV)×List Nm×Nat)
 | .nsl=>some (0,fun _=>[],[],0)
 | .raw (.slice (some _) 0 _)=>some (0,fun _=>[],[],0)
 | .sl o i n=>match H o with
  | .arr sz m f=>if i+n≤m then some (n,fun j=>f (i+j),[o],sz) else none
  | .view sz m f=>if i+n≤m then some (n,fun j=>f (i+j),[o],sz) else none
  | _=>none
 | _=>none
def Zag:AObj→Option Nat
 | .arr sz _ _=>some sz
 | .view sz _ _=>some sz
 | _=>none
def Zbu (n:Nat) (f g:Nat→List AV):Nat→List AV:=fun j=>if j<n then f j else g (j - n)
def Zv (T:Nat→AV) (H:Nm→AObj) (nb:Nm):MOp→Option FRes
 | .mv x=>some ⟨x.ev T,[],[]⟩
 | .pick c a b=>match c.ev T with
  | .bool cb=>some ⟨ZdI cb (a.ev T) (b.ev T),[],[]⟩
  | _=>none
 | .alloc z=>some ⟨.ptr nb 0 0,[(nb,.cells z)],[]⟩
 | .box x=>if (x.ev T).cells.all AV.one=true then some ⟨.ptr nb 0 0,[(nb,.cells (x.ev T).cells)],[]⟩ else none
 | .load ag n x=>match x.ev T with
  | .ptr o i f=>match VZ (H o) i with
   | some c=>if ag=true then (if f+n≤c.length then some ⟨.agg ((c.drop f).take n),[],[o]⟩ else none)
    else (match c[f]? with
     | some v=>some ⟨v,[],[o]⟩
     | none=>none)
   | none=>none
  | _=>none
 | .store n x y=>match x.ev T with
  | .ptr o i f=>if (y.ev T).cells.all AV.one=true∧(y.ev T).cells.length=n then
    (match UY (H o) i f (y.ev T).cells with
    | some o' => some ⟨.bot,[(o,o')],[]⟩
    | none=>none) else none
  | _=>none
 | .nilck x=>match x.ev T with
  | .ptr o i f=>some ⟨.ptr o i f,[],[]⟩
  | .fn f c=>some ⟨.fn f c,[],[]⟩
  | .iface t v=>some ⟨.iface t v,[],[]⟩
  | _=>none
 | .bin op x y=>match x.ev T,y.ev T with
  | .int k a,.int k' b =>
   if op=.shl then (if b<0 then none else some ⟨.int k (ZiP k a b),[],[]⟩)
   else if op=.shr then (if b<0 then none else some ⟨.int k (Zjj k a b),[],[]⟩)
   else if k=k' then (match Zkl op k a b with
    | some v=>some ⟨v,[],[]⟩
    | none=>none) else none
  | _,_=>none
 | .eq ng k x y=>match eqV k (x.ev T) (y.ev T) with
  | some b=>some ⟨.bool (if ng=true then !b else b),[],[]⟩
  | none=>none
 | .un op x=>match op,x.ev T with
  | .not,.bool b=>some ⟨.bool (!b),[],[]⟩
  | .neg,.int k n=>some ⟨.int k (k.wrap (0 - n)),[],[]⟩
  | _,_=>none
 | .conv k x=>match x.ev T with
  | .int _ n=>some ⟨.int k (k.wrap n),[],[]⟩
  | _=>none
 | .mkif t x=>some ⟨.iface t (x.ev T),[],[]⟩
 | .faddr off x=>match x.ev T with
  | .ptr o i f=>some ⟨.ptr o i (f+off),[],[]⟩
  | _=>none
 | .fld ag off n x=>match x.ev T with
  | .agg c=>if ag=true then (if off+n≤c.length then some ⟨.agg ((c.drop off).take n),[],[]⟩ else none)
   else (match c[off]? with
    | some v=>some ⟨v,[],[]⟩
    | none=>none)
  | _=>none
 | .iaddr sz x i=>match x.ev T,i.ev T with
  | .sl o s n,.int _ j=>if Zag (H o)=some sz then (if 0≤j∧j<n then some ⟨.ptr o (s+j.toNat) 0,[],[o]⟩ else none) else none
  | _,_=>none
 | .paddr len sz x i=>match x.ev T,i.ev T with
  | .ptr o b f,.int _ j=>if 0≤j∧j<len then some ⟨.ptr o b (f+j.toNat*sz),[],[]⟩ else none
  | _,_=>none
 | .idx ag len sz x i=>match x.ev T,i.ev T with
  | .agg c,.int _ j=>if 0≤j∧j<len∧c.length=len*sz then
    (if ag=true then some ⟨.agg ((c.drop (j.toNat*sz)).take sz),[],[]⟩
    else (match c[j.toNat]? with
     | some v=>if sz=1 then some ⟨v,[],[]⟩ else none
     | none=>none)) else none
  | _,_=>none
 | .slc sz x lo hi=>match x.ev T with
  | .sl o s n =>
   match lo.elim (AV.int .i64 0) (X.ev T),hi.elim (AV.int .i64 n) (X.ev T) with
   | .int _ l,.int _ h=>if Zag (H o)=some sz then (if 0≤l∧l≤h∧h≤n then some ⟨.sl o (s+l.toNat) (h.toNat - l.toNat),[],[o]⟩ else none) else none
   | _,_=>none
  | .nsl =>
   match lo.elim (AV.int .i64 0) (X.ev T),hi.elim (AV.int .i64 0) (X.ev T) with
   | .int _ l,.int _ h=>if l=0∧h=0 then some ⟨.nsl,[],[]⟩ else none
   | _,_=>none
  | _=>none
 | .len x=>match x.ev T with
  | .sl _ _ n=>some ⟨.int .i64 n,[],[]⟩
  | .nsl=>some ⟨.int .i64 0,[],[]⟩
  | _=>none
 | .slen x=>match x.ev T with
  | .str s=>some ⟨.int .i64 s.size,[],[]⟩
  | _=>none
 | .cap x=>match x.ev T with
  | .nsl=>some ⟨.int .i64 0,[],[]⟩
  | _=>none
 | .stop=>none
 | .mn xs=>match xs.map (X.ev T) with
  | [.int k a,.int k' b]=>if k=k' then some ⟨.int k (if b<a then b else a),[],[]⟩ else none
  | _=>none
 | .mx xs=>match xs.map (X.ev T) with
  | [.int k a,.int k' b]=>if k=k' then some ⟨.int k (if a<b then b else a),[],[]⟩ else none
  | _=>none
 | .app sz bytes x y=>match Vj H (y.ev T) with
  | some (n',g,rd,sz') =>
   if n'=0∨sz'=sz then
    (match x.ev T with
    | .nsl=>if n'*bytes≤140737488355328∧n'≤9223372036854775807 then some ⟨.sl nb 0 n',[(nb,.arr sz n' g)],rd⟩ else none
    | .sl o s n=>match H o with
     | .arr sz2 m f=>if sz2=sz∧s+n=m∧(n+n')*bytes≤140737488355328∧n+n'≤9223372036854775807 then
       some ⟨.sl nb 0 (n+n'),[(o,.free),(nb,.arr sz (n+n') (Zbu n (fun j=>f (s+j)) g))],rd⟩ else none
     | _=>none
    | _=>none)
   else none
  | none=>none
 | .appz sz bytes x y=>match x.ev T,y.ev T with
  | .nsl,.int .i64 n=>if 0<n∧n*bytes≤140737488355328∧n≤9223372036854775807 then some ⟨.sl nb 0 n.toNat,[(nb,.arr sz 0 (fun _=>[]))],[]⟩ else none
  | _,_=>none
 | .mks sz bytes z l c=>match l.ev T,c.ev T with
  | .int _ a,.int _ b=>if a=b∧0≤a∧a*bytes≤281474976710656∧a≤9223372036854775807∧z.length=sz then some ⟨.sl nb 0 a.toNat,[(nb,.arr sz a.toNat (fun _=>z))],[]⟩ else none
  | _,_=>none
 | .build z ps=>match zP z (Vw T ps) with
  | some c=>some ⟨.agg c,[],[]⟩
  | none=>none
 | .bsl sz n z ps=>match zP ((List.replicate n z).flatten) (Vw T ps) with
  | some c=>if c.length=n*sz∧n*sz≤16777216∧0<sz then some ⟨.sl nb 0 n,[(nb,.arr sz n (fun j=>(c.drop (j*sz)).take sz))],[]⟩ else none
  | none=>none
 | .ext x i=>match x.ev T with
  | .tup l=>match l[i]? with
   | some v=>some ⟨v,[],[]⟩
   | none=>none
  | _=>none
 | .tas t z ok x=>match x.ev T with
  | .iface t' v=>if t'=t then some ⟨if ok=true then .tup [v,.bool true] else v,[],[]⟩ else if ok=true then some ⟨.tup [z,.bool false],[],[]⟩ else none
  | .raw .nilIface=>if ok=true then some ⟨.tup [z,.bool false],[],[]⟩ else none
  | _=>none
 | .mkfn f cap=>some ⟨.fn f (cap.map (X.ev T)),[],[]⟩
 | .call _ _=>none
 | .mp _=>none
 | .clr sz x=>match x.ev T with
  | .sl o s n=>match H o with
   | .arr sz' m f=>if sz'=sz∧0<n∧s+n=m then some ⟨.tup [],[(o,.arr sz s f)],[]⟩ else none
   | _=>none
  | _=>none
def ofC:Value→AV
 | .int k n=>.int k n
 | .bool b=>.bool b
 | .string s=>.str s
 | .slice none 0 0=>.nsl
 | v=>.raw v
def ofV:Value→AV
 | .agg cs=>.agg (cs.toList.map ofC)
 | v=>ofC v
def rX:Operand→X
 | .tmp t=>.t t
 | .const v=>.c (ofV v)
 | .func f=>.c (.fn f [])
 | .global g=>.c (.raw (.pointer (some ⟨g,0,none⟩)))
def vd (P:Program) (t:TypeId):Option Bool :=
 match P.underlying t with
 | some (.struct _) | some (.array _ _)=>some true
 | some _=>some false
 | none=>none
def UG (P:Program) (t:TypeId):Option Nat:=(P.info? t).map (·.size)
def YJ (P:Program) (t:TypeId):Option (List AV) :=
 match P.info? t with
 | some i=>match i.zero with
  | some z=>if (z.cells.toList.map ofC).all AV.one=true then some (z.cells.toList.map ofC) else none
  | none=>none
 | none=>none
def ZjS (P:Program) (t:TypeId):Option AV :=
 match P.info? t with
 | some i=>match i.zero with
  | some z=>some (ofV z)
  | none=>none
 | none=>none
def zero1 (P:Program) (t:TypeId):Option AV :=
 match P.info? t with
 | some i=>match i.zero with
  | some z=>if z.oneCell'=true then some (ofC z) else none
  | none=>none
 | none=>none
def VV (P:Program):List Field→Option (List (Nat×Nat))
 | []=>some []
 | f :: fs=>match UG P f.type,VV P fs with
  | some n,some r=>some ((f.offset,n) :: r)
  | _,_=>none
def Vd (pl:Nat→Option (Nat×Nat)):List (Nat×Operand)→Option (List (Nat×Nat×X))
 | []=>some []
 | (i,x) :: r=>match pl i,Vd pl r with
  | some (off,n),some q=>some ((off,n,rX x) :: q)
  | _,_=>none
def X1 (P:Program) (fa:TypeId→Option (List LK)):List Field→Nat→Option (List LK)
 | [],_=>some []
 | f :: fs,off=>match fa f.type,X1 P fa fs (off+(UG P f.type).getD 0) with
  | some k,some r=>if f.name≠"_"∧f.offset=off∧UG P f.type=some k.length then some (k++r) else none
  | _,_=>none
def Vs (P:Program):Nat→TypeId→Option (List LK)
 | 0,_=>none
 | d+1,t =>
  match P.underlying t with
  | some .bool=>some [.b]
  | some (.int _)=>some [.i]
  | some .string=>some [.s]
  | some (.array n e)=>match Vs P d e with
   | some k=>if UG P e=some k.length then some (List.replicate n k).flatten else none
   | none=>none
  | some (.struct fs)=>if P.stoodInHeld t=false then X1 P (Vs P d) fs.toList 0 else none
  | _=>none
def Zbx (P:Program) (t:TypeId):Option EqK :=
 match P.underlying t with
 | some .bool=>some .bool
 | some .string=>some .string
 | some (.interface _)=>some .iface
 | some (.pointer _)=>some .ptr
 | some (.slice _)=>some .slice
 | some (.func _ _ _)=>some .func
 | some (.struct _) | some (.array _ _)=>match Vs P 6 t with
  | some ks=>if P.eqGuardType P.depth t=false then some (.flat ks) else none
  | none=>none
 | _=>none
def Zjm (P:Program) (t:TypeId):Option TypeId:=match P.underlying t with
 | some (.map k e)=>match P.underlying k with
  | some (.int .i64)=>some e
  | _=>none
 | _=>none
def rOp (P:Program):Op→Option MOp
 | .move x | .assign x=>some (.mv (rX x))
 | .pick c a b=>some (.pick (rX c) (rX a) (rX b))
 | .alloc t=>(YJ P t).map .alloc
 | .box _ x=>some (.box (rX x))
 | .load t x=>match vd P t,UG P t with
  | some true,some n=>some (.load true n (rX x))
  | some false,some _=>some (.load false 1 (rX x))
  | _,_=>none
 | .store t x y=>match UG P t with
  | some n=>some (.store n (rX x) (rX y))
  | none=>none
 | .nilCheck x=>some (.nilck (rX x))
 | .binOp op t x y _ =>
  if op=.eql∨op=.neq then
   (match P.underlying t with
   | some (.int _)=>some (.bin op (rX x) (rX y))
   | _=>match Zbx P t with
    | some .iface=>(match y with
     | .const .nilIface=>some (.eq (op == .neq) .iface (rX x) (rX y))
     | _=>none)
    | some .slice=>(match y with
     | .const (.slice none 0 0)=>some (.eq (op == .neq) .slice (rX x) (rX y))
     | _=>none)
    | some .func=>(match y with
     | .const .nilFunc=>some (.eq (op == .neq) .func (rX x) (rX y))
     | _=>none)
    | some k=>some (.eq (op == .neq) k (rX x) (rX y))
    | none=>none)
  else some (.bin op (rX x) (rX y))
 | .unOp op _ x=>some (.un op (rX x))
 | .convert s d x=>match P.underlying s,P.underlying d with
  | some _,some (.int k)=>some (.conv k (rX x))
  | _,_=>none
 | .makeInterface t x=>match P.underlying t with
  | some (.interface _)=>none
  | some _=>some (.mkif t (rX x))
  | none=>none
 | .fieldAddr s x f=>match P.underlying s with
  | some (.struct fs)=>match fs[f]? with
   | some fd=>match UG P fd.type with
    | some n=>if 0<n then some (.faddr fd.offset (rX x)) else none
    | none=>none
   | none=>none
  | _=>none
 | .field t x f=>match P.underlying t with
  | some (.struct fs)=>match fs[f]? with
   | some fd=>match vd P fd.type,UG P fd.type with
    | some ag,some n=>some (.fld ag fd.offset n (rX x))
    | _,_=>none
   | none=>none
  | _=>none
 | .indexAddr t x i=>match P.underlying t with
  | some (.slice e)=>match UG P e with
   | some n=>some (.iaddr n (rX x) (rX i))
   | none=>none
  | some (.array len e)=>match UG P e with
   | some n=>some (.paddr len n (rX x) (rX i))
   | none=>none
  | _=>none
 | .index t x i=>match P.underlying t with
  | some (.array len e)=>match vd P e,UG P e with
   | some ag,some n=>some (.idx ag len n (rX x) (rX i))
   | _,_=>none
  | _=>none
 | .slice t x lo hi none=>match P.underlying t with
  | some (.slice e)=>match UG P e with
   | some n=>some (.slc n (rX x) (lo.map rX) (hi.map rX))
   | none=>none
  | _=>none
 | .extract x i=>some (.ext (rX x) i)
 | .panic _=>some .stop
 | .build t ps=>match P.underlying t,YJ P t with
  | some (.struct fs),some z=>match VV P fs.toList with
   | some pl=>(Vd (pl[·]?) ps.toList).map (.build z)
   | none=>none
  | some (.array _ e),some z=>match UG P e with
   | some n=>(Vd (fun i=>some (i*n,n)) ps.toList).map (.build z)
   | none=>none
  | _,_=>none
 | .buildSlice t n ps=>match P.underlying t with
  | some (.slice e)=>match UG P e,YJ P e with
   | some sz,some z=>if z.length=sz then (Vd (fun i=>some (i*sz,sz)) ps.toList).map (.bsl sz n z) else none
   | _,_=>none
  | _=>none
 | .makeSlice t l c=>match P.underlying t with
  | some (.slice e)=>match P.info? e,YJ P e with
   | some i,some z=>if z.length=i.size then some (.mks i.size i.bytes z (rX l) (rX c)) else none
   | _,_=>none
  | _=>none
 | .makeFunc (.func f) first cap=>if first.size=0 then some (.mkfn f (cap.toList.map rX)) else none
 | .typeAssert x _ t ok=>match P.underlying t,zero1 P t with
  | some (.interface _),_=>none
  | some _,some z=>some (.tas t z ok (rX x))
  | _,_=>none
 | .call c=>match c.callee with
  | .value f=>some (.call (rX f) (c.args.toList.map rX))
  | .builtin .len=>match c.args.toList,c.argTypes.toList with
   | [x],[t]=>match P.underlying t with
    | some (.slice _)=>some (.len (rX x))
    | some .string=>some (.slen (rX x))
    | some (.map _ _)=>some (.mp (.ln (rX x)))
    | _=>none
   | _,_=>none
  | .builtin .cap=>match c.args.toList,c.argTypes.toList with
   | [x],[t]=>match P.underlying t with
    | some (.slice _)=>some (.cap (rX x))
    | _=>none
   | _,_=>none
  | .builtin .clear=>match c.args.toList,c.argTypes.toList with
   | [x],[t]=>match P.underlying t with
    | some (.slice e)=>match P.info? e,YJ P e with
     | some i,some z=>if z.length=i.size then some (.clr i.size (rX x)) else none
     | _,_=>none
    | _=>none
   | _,_=>none
  | .builtin .min=>some (.mn (c.args.toList.map rX))
  | .builtin .max=>some (.mx (c.args.toList.map rX))
  | .builtin .append=>match c.args.toList,c.argTypes.toList with
   | [x,y],[t,t']=>match P.underlying t,P.underlying t' with
    | some (.slice e),some (.slice _)=>match P.info? e,YJ P e with
     | some i,some z=>if z.length=i.size∧0<i.size then some (.app i.size i.bytes (rX x) (rX y)) else none
     | _,_=>none
    | some (.slice e),some (.int _)=>match P.info? e,YJ P e with
     | some i,some z=>if z.length=i.size∧0<i.size then some (.appz i.size i.bytes (rX x) (rX y)) else none
     | _,_=>none
    | _,_=>none
   | _,_=>none
  | _=>none
 | .makeMap t none=>(Zjm P t).map fun _=>.mp .mk
 | .lookup t x k ok=>match Zjm P t with
  | some e=>(ZjS P e).map fun z=>.mp (.lk ok z (rX x) (rX k))
  | none=>none
 | .mapUpdate t x k v=>(Zjm P t).map fun _=>.mp (.up (rX x) (rX k) (rX v))
 | .mapEntry t x k=>match Zjm P t with
  | some e=>(ZjS P e).map fun z=>.mp (.en z (rX x) (rX k))
  | none=>none
 | .entryStore t x s v=>(Zjm P t).map fun _=>.mp (.st (rX x) (rX s) (rX v))
 | .range t x=>(Zjm P t).map fun _=>.mp (.rg (rX x))
 | .next x false=>some (.mp (.nx (rX x)))
 | .entry x=>some (.mp (.nt (rX x)))
 | _=>none
structure MO where
 dst:Option Nat
 op:MOp
 g:Option (Nat×Bool)
inductive MCode where
 | skip
 | reg (ops:List MO)
 | draw (ops:List MO) (pr:List (List Nat))
 | seq (a b:MCode)
 | cond (c:X) (a b:MCode)
 | block (id:Nat) (a:MCode)
 | loop (a:MCode)
 | exit (id:Nat)
 | ret
 deriving Inhabited
def rO (P:Program) (ops:Array Oper) (o:Oper):Option MO :=
 match rOp P o.op with
 | some m=>match o.guard with
  | none=>some ⟨o.dst,m,none⟩
  | some (j,want)=>match (ops[j]?).bind (·.dst) with
   | some s=>some ⟨o.dst,m,some (s,want)⟩
   | none=>none
 | none=>none
def rOs (P:Program) (ops:Array Oper):List Oper→Option (List MO)
 | []=>some []
 | o :: r=>match rO P ops o,rOs P ops r with
  | some m,some q=>some (m :: q)
  | _,_=>none
def Vo (o:Oper):List Nat:=o.after.toList.filterMap fun e=>if Region.binds .any e then some e.on else none
def rC (P:Program):Code→Option MCode
 | .skip=>some .skip
 | .region _ ops d=>match rOs P ops ops.toList with
  | some l=>if d=true then some (.draw l (ops.toList.map Vo)) else some (.reg l)
  | none=>none
 | .seq a b=>match rC P a,rC P b with
  | some x,some y=>some (.seq x y)
  | _,_=>none
 | .cond c a b=>match rC P a,rC P b with
  | some x,some y=>some (.cond (rX c) x y)
  | _,_=>none
 | .block id a=>(rC P a).map (.block id)
 | .loop a=>(rC P a).map .loop
 | .exit id=>some (.exit id)
 | .ret=>some .ret
 | _=>none
end Go.W
