/- Literals, make; every operation but a call. -/
import Derived.Test.YtidbbnkpglggdaaGreatWG
namespace Go.W
set_option linter.unusedSimpArgs false
set_option linter.unusedVariables false
section
variable {P:Program} {w0:World} {S:Sc} {Es:Env→Prop} {U:Nm→Prop} {T:Nat→AV} {H:Nm→AObj} {a:Act} {w:World}
theorem Zac (off:Nat):∀ (l:List Value) (k:Nat) (cs:Array Value) (q:Nat),off+k+l.length≤cs.size →
  ((l.zipIdx k).foldl (fun cs (p:Value×Nat)=>cs.setIfInBounds (off+p.2) p.1) cs)[q]?=if off+k≤q∧q<off+k+l.length then l[q - (off+k)]? else cs[q]?
 | [],k,cs,q,_=>by simp;omega
 | v :: r,k,cs,q,h=>by
  simp only[List.length_cons]at h;rw[List.zipIdx_cons,List.foldl_cons,Zac off r (k+1) _ q (by simp;omega)];simp only[List.length_cons,Array.getElem?_setIfInBounds];by_cases h1:off+(k+1)≤q∧q<off+(k+1)+r.length
  ·rw[if_pos h1,if_pos (by omega),show q - (off+k)=(q - (off+(k+1)))+1 by omega,List.getElem?_cons_succ]
  ·rw[if_neg h1]
   by_cases h2:q=off+k
   ·subst h2
    rw[if_pos rfl,if_pos (by omega),if_pos (by omega)];simp
   ·rw[if_neg (fun e=>h2 e.symm),if_neg (by omega)]
theorem UN (off:Nat):∀ (l:List Value) (k:Nat) (cs:Array Value),((l.zipIdx k).foldl (fun cs (p:Value×Nat)=>cs.setIfInBounds (off+p.2) p.1) cs).size=cs.size
 | [],_,_=>rfl
 | v :: r,k,cs=>by rw[List.zipIdx_cons,List.foldl_cons,UN off r (k+1)];simp
theorem xk (h:Sat w0 S Es U T H a w) {ρ:Env} (hρ:Es ρ) (pl:Nat→Option (Nat×Nat)):∀ (ps:List (Nat×Operand)) (qs:List (Nat×Nat×X)) (c c':List AV) (cs:Array Value),Vd pl ps=some qs→zP c (Vw T qs)=some c'→Z8 ρ c cs.toList →
  ∃ cs',Instr.fill pl cs (ps.map fun p=>(p.1,a.eval p.2))=some cs'∧Z8 ρ c' cs'.toList∧(c.all AV.one=true→c'.all AV.one=true)
 | [],qs,c,c',cs,hp,hf,hr=>by
  simp only[Vd,Option.some.injEq]at hp;subst hp;simp only[Vw,List.map_nil,zP,Option.some.injEq]at hf;subst hf;exact ⟨cs,rfl,hr,fun h=>h⟩
 | (i,x) :: ps,qs,c,c',cs,hp,hf,hr=>by
  simp only[Vd]at hp;cases h1:pl i with
  | none=>simp[h1]at hp
  | some on =>
   obtain ⟨off,n⟩:=on;cases h2:Vd pl ps with
   | none=>simp[h1,h2]at hp
   | some q =>
    simp only[h1,h2,Option.some.injEq]at hp;subst hp;simp only[Vw,List.map_cons,zP]at hf;split at hf
    ·rename_i hc
     obtain ⟨hc1,hc2,hc3⟩:=hc;have hv:=(h.ev hρ x).cells hc3;have hvl:=hv.length;have hcl:=hr.length;have hsz:(a.eval x).cells.size=n:=(by rw[← Array.length_toList];omega);have hcs:cs.size=c.length:=by rw[← Array.length_toList];exact hcl
     let cs1:=(a.eval x).cells.zipIdx.foldl (fun cs (p:Value×Nat)=>cs.setIfInBounds (off+p.2) p.1) cs
     have e1:cs1=((a.eval x).cells.toList.zipIdx 0).foldl (fun cs (p:Value×Nat)=>cs.setIfInBounds (off+p.2) p.1) cs:=by
      show Array.foldl _ cs (a.eval x).cells.zipIdx=_;rw[← Array.foldl_toList,Array.toList_zipIdx]
     have hle:off+0+(a.eval x).cells.toList.length≤cs.size:=(by omega);have hr1:Z8 ρ (Y4 c off ((rX x).ev T).cells) cs1.toList:=by
      have hl:off+((rX x).ev T).cells.length≤c.length:=(by omega);refine Z8.of_get _ _ ?_ fun j v hj=>?_
      ·rw[Array.length_toList,e1,UN,hcs,VR hl]
      ·rw[Array.getElem?_toList,e1,Zac off _ 0 cs j hle]
       by_cases hin:off≤j∧j<off+((rX x).ev T).cells.length
       ·rw[Uz hl hin.1 hin.2]at hj
        rw[if_pos (by omega),Nat.add_zero];exact hv.get hj
       ·rw[Vu hl (by omega)]at hj
        rw[if_neg (by omega),← Array.getElem?_toList];exact hr.get hj
     obtain ⟨cs',q1,q2,q3⟩:=xk h hρ pl ps q _ c' cs1 h2 hf hr1;refine ⟨cs',?_,q2,fun ha=>q3 ?_⟩
     ·simp only[List.map_cons,Instr.fill,h1]
      rw[if_neg (by simp[hsz];omega)];exact q1
     ·unfold Y4
      simp only[List.all_append,Bool.and_eq_true];refine ⟨⟨List.all_eq_true.2 fun v hv=>List.all_eq_true.1 ha v (List.mem_of_mem_take hv),hc3⟩,List.all_eq_true.2 fun v hv=>List.all_eq_true.1 ha v (List.mem_of_mem_drop hv)⟩
    ·cases hf
theorem VG {t:TypeId} {z:List AV} (h:YJ P t=some z):∃ zv i,P.info? t=some i∧i.zero=some zv∧(∀ w:World,(zeroValue t).run P w=.ok zv w)∧z=zv.cells.toList.map ofC∧(∀ ρ,Z8 ρ z zv.cells.toList)∧z.all AV.one=true:=by
 unfold YJ at h;split at h
 ·rename_i i hi
  split at h
  ·rename_i zv hzv
   split at h
   ·rename_i ho
    injection h with h;exact ⟨zv,i,hi,hzv,fun w=>by simp[zeroValue,typeInfo,hi,hzv],h.symm,fun ρ=>by rw[← h];exact zD ρ _,by rw[← h];exact ho⟩
   ·cases h
  ·cases h
 ·cases h
theorem yB:∀ (fs:List Field) (pl:List (Nat×Nat)),VV P fs=some pl→∀ w:World,(fs.mapM fun (f:Field)=>Prod.mk f.offset <$> sizeOf f.type:Sem (List (Nat×Nat))).run P w=.ok pl w
 | [],pl,h,w=>by simp only[VV,Option.some.injEq]at h;subst h;rfl
 | f :: fs,pl,h,w=>by
  simp only[VV]at h;cases h1:UG P f.type with
  | none=>simp[h1]at h
  | some n =>
   cases h2:VV P fs with
   | none=>simp[h1,h2]at h
   | some r =>
    simp only[h1,h2,Option.some.injEq]at h;subst h;have:=yB fs r h2 w;simp[List.mapM_cons,YT h1,this]
theorem TY (h:Sat w0 S Es U T H a w) {o:Oper} {F:Nm→Prop} (t:TypeId) (ps:Array (Nat×Operand)) (ho:o.op=.build t ps) {fs:Array Field} (ht:P.underlying t=some (.struct fs)) {z:List AV} (hz:YJ P t=some z) {pl:List (Nat×Nat)} (hpl:VV P fs.toList=some pl)
  {qs:List (Nat×Nat×X)} (hq:Vd (pl[·]?) ps.toList=some qs) {c:List AV} (hc:zP z (Vw T qs)=some c):Yu P w0 S Es H a w o ⟨.agg c,[],[]⟩ F:=by
 obtain ⟨zv,i,hi,hzv,hrun,_,hrep,_⟩:=VG hz
 refine Yu.pure h rfl fun ρ hρ=>?_
 obtain ⟨cs',q1,q2,_⟩:=xk h hρ (pl[·]?) ps.toList qs z c zv.cells hq hc (hrep ρ)
 refine ⟨.agg cs',?_,by rw[Rep];exact ⟨_,rfl,q2⟩⟩
 have hm:(fs.mapM fun (f:Field)=>Prod.mk f.offset <$> sizeOf f.type:Sem (Array (Nat×Nat))).run P w=.ok pl.toArray w:=by
  rw[Array.mapM_eq_mapM_toList,Sem.run_map,yB (P:=P) fs.toList pl hpl w]
  rfl
 simp[execOp,ho,Instr.build,hrun,run_underlying ht,hm,q1]
theorem zj (h:Sat w0 S Es U T H a w) {o:Oper} {F:Nm→Prop} (t:TypeId) (ps:Array (Nat×Operand)) (ho:o.op=.build t ps) {len e:TypeId} (ht:P.underlying t=some (.array len e)) {z:List AV} (hz:YJ P t=some z) {n:Nat} (hn:UG P e=some n)
  {qs:List (Nat×Nat×X)} (hq:Vd (fun i=>some (i*n,n)) ps.toList=some qs) {c:List AV} (hc:zP z (Vw T qs)=some c):Yu P w0 S Es H a w o ⟨.agg c,[],[]⟩ F:=by
 obtain ⟨zv,i,hi,hzv,hrun,_,hrep,_⟩:=VG hz
 refine Yu.pure h rfl fun ρ hρ=>?_
 obtain ⟨cs',q1,q2,_⟩:=xk h hρ _ ps.toList qs z c zv.cells hq hc (hrep ρ)
 refine ⟨.agg cs',?_,by rw[Rep];exact ⟨_,rfl,q2⟩⟩
 simp[execOp,ho,Instr.build,hrun,run_underlying ht,YT hn,q1]
theorem yY {α:Type} (z:List α):∀ (n k:Nat),k<n*z.length→(List.replicate n z).flatten[k]?=z[k % z.length]?
 | 0,k,h=>by simp at h
 | n+1,k,h=>by
  rw[List.replicate_succ,List.flatten_cons];rw[Nat.add_mul,Nat.one_mul]at h;by_cases hk:k<z.length
  ·rw[List.getElem?_append_left hk,Nat.mod_eq_of_lt hk]
  ·rw[List.getElem?_append_right (by omega),yY z n (k - z.length) (by omega)]
   congr 1
   exact (Nat.mod_eq_sub_mod (by omega)).symm
theorem zQ (z:Array Value) (n:Nat):(madeCells z (n*z.size)).toList=(List.replicate n z.toList).flatten:=by
 apply List.ext_getElem?;intro k;by_cases hk:k<n*z.size
 ·rw[yY _ _ _ (by simpa using hk)]
  have hz:0<z.size:=Nat.pos_of_ne_zero fun e=>by rw[e]at hk;simp at hk
  simp[madeCells,hk,Array.getElem?_eq_getElem (Nat.mod_lt k hz),getElem!_pos z (k % z.size) (Nat.mod_lt k hz)]
 ·rw[List.getElem?_eq_none (by simp[madeCells];omega),List.getElem?_eq_none (by simp;omega)]
theorem z4 {ρ:Env} {z:List AV} {cs:List Value} (h:Z8 ρ z cs):∀ n,Z8 ρ (List.replicate n z).flatten (List.replicate n cs).flatten
 | 0=>by simp[Z8]
 | n+1=>by rw[List.replicate_succ,List.flatten_cons,List.replicate_succ,List.flatten_cons];exact h.append (z4 h n)
theorem ZaN {ρ:Env} {sz n:Nat} {c:List AV} {cs:List Value} (h:Z8 ρ c cs) (h1:c.all AV.one=true) (hl:c.length=n*sz):Zbp ρ sz n (fun j=>(c.drop (j*sz)).take sz) cs:=fun j hj=>by
 have hle:(j+1)*sz≤n*sz:=Nat.mul_le_mul_right _ hj;rw[Nat.add_mul,Nat.one_mul]at hle;refine ⟨by simp;omega,fun k v hv=>?_⟩;rw[List.getElem?_take]at hv;split at hv
 ·rw[List.getElem?_drop]at hv
  obtain ⟨u,hu,hr⟩:=h.get hv;exact ⟨u,hu,hr,h.all_one h1 u (List.mem_of_getElem? hu)⟩
 ·cases hv
theorem Zgn (h:Sat w0 S Es U T H a w) {o:Oper} {F:Nm→Prop} {nb:Nm} (hF:F nb) (hU:U nb) (t:TypeId) (n:Nat) (ps:Array (Nat×Operand)) (ho:o.op=.buildSlice t n ps) {e:TypeId} (ht:P.underlying t=some (.slice e)) {z:List AV} (hz:YJ P e=some z) {sz:Nat} (hn:UG P e=some sz) (hzl:z.length=sz)
  {qs:List (Nat×Nat×X)} (hq:Vd (fun i=>some (i*sz,sz)) ps.toList=some qs) {c:List AV} (hc:zP ((List.replicate n z).flatten) (Vw T qs)=some c) (hcl:c.length=n*sz) (hsm:n*sz≤16777216) (hp:0<sz) :
  Yu P w0 S Es H a w o ⟨.sl nb 0 n,[(nb,.arr sz n (fun j=>(c.drop (j*sz)).take sz))],[]⟩ F:=by
 obtain ⟨zv,i,hi,hzv,hrun,hzz,hrep,hone⟩:=VG hz
 have hzs:zv.cells.size=sz:=by rw[← hzl,hzz];simp
 have pt:∀ ρ,Es ρ→∃ cs',Instr.fill (fun i=>some (i*sz,sz)) (madeCells zv.cells (n*sz)) (ps.toList.map fun p=>(p.1,a.eval p.2))=some cs'∧Z8 ρ c cs'.toList∧c.all AV.one=true:=fun ρ hρ=>by
  obtain ⟨cs',q1,q2,q3⟩:=xk h hρ (fun i=>some (i*sz,sz)) ps.toList qs _ c (madeCells zv.cells (n*sz)) hq hc (by rw[← hzs,zQ];exact z4 (hrep ρ) n);refine ⟨cs',q1,q2,q3 ?_⟩;refine List.all_eq_true.2 fun v hv=>?_;obtain ⟨l,hl,hv⟩:=List.mem_flatten.1 hv;rw[List.eq_of_mem_replicate hl]at hv;exact List.all_eq_true.1 hone v hv
 obtain ⟨ρ0,h0⟩:=h.ne
 obtain ⟨cs,f1,f2,f3⟩:=pt ρ0 h0
 have hrunb:(execOp a.eval o).run P w=.ok (.value (.slice (some ⟨w.heap.size,0,none⟩) n n)) (w.alloc (.cells cs e)):=by
  by_cases hnz:n*sz=0
  ·have hm:(madeCells zv.cells (n*sz))=#[]:=by rw[hnz];simp[madeCells,Array.range_zero']
   rw[hm]at f1;have hn0:n=0:=(by rcases Nat.mul_eq_zero.1 hnz with h|h<;>omega);simp[execOp,ho,Instr.buildSlice,run_underlying ht,YT hn,hn0,f1,newRow,Array.range_zero']
  ·have hm:(Array.range (n*sz)).map (zv.cells[· % zv.cells.size]!)=madeCells zv.cells (n*sz):=rfl
   have h24:¬ (16777216<n*sz):=(by omega);simp[execOp,ho,Instr.buildSlice,run_underlying ht,YT hn,hnz,h24,hrun,hm,f1,newRow]
 refine ⟨_,fun _=>⟨w.heap.size,0,sz,n,false⟩,_,hrunb,.inl ⟨_,rfl,fun ρ hρ hg=>?_⟩,fun ρ hρ hg=>?_⟩
 ·have:=hg nb hF
  rw[Rep];exact .inr ⟨by rw[this],by rw[this];simp,0,by rw[this];simp,fun _=>by rw[this];simp⟩
 ·obtain ⟨cs2,g1,g2,g3⟩:=pt ρ hρ
  rw[f1]at g1;injection g1 with g1;subst g1;have hl:=g2.length;exact Vy (h.hp ρ hρ) e (ZaN g2 g3 hcl) (by rw[← Array.length_toList];omega) (Nat.le_refl _) (h.fr nb hU) (hg nb hF)
theorem Zfd (h:Sat w0 S Es U T H a w) {o:Oper} {F:Nm→Prop} {nb:Nm} (hF:F nb) (hU:U nb) (t:TypeId) (x y:Operand) (ho:o.op=.makeSlice t x y) {e:TypeId} (ht:P.underlying t=some (.slice e)) {i:TypeInfo} (hi:P.info? e=some i) {z:List AV} (hz:YJ P e=some z) (hzl:z.length=i.size)
  {k k':IntKind} {n:Int} (hx:(rX x).ev T=.int k n) (hy:(rX y).ev T=.int k' n) (h0:0≤n) (hb:n*i.bytes≤281474976710656) (h63:n≤9223372036854775807) :
  Yu P w0 S Es H a w o ⟨.sl nb 0 n.toNat,[(nb,.arr i.size n.toNat (fun _=>z))],[]⟩ F:=by
 obtain ⟨zv,i',hi',hzv,hrun,hzz,hrep,hone⟩:=VG hz
 rw[hi]at hi'
 injection hi' with hi'
 subst hi'
 have hzs:zv.cells.size=i.size:=by rw[← hzl,hzz];simp
 obtain ⟨ρ0,hρ0⟩:=h.ne
 have e1:=h.ev hρ0 x
 have e2:=h.ev hρ0 y
 rw[hx,Rep]at e1
 rw[hy,Rep]at e2
 have hr:=run_make (P:=P) w t e i zv ht hi hzv k k' n n h0 (Int.le_refl _) (by rw[Int.mul_comm];exact hb) h63
 refine ⟨_,fun _=>⟨w.heap.size,0,i.size,n.toNat,false⟩,.value (.slice (some ⟨w.heap.size,0,none⟩) n.toNat n.toNat),by simp[execOp,ho,e1,e2,hr];rfl,.inl ⟨_,rfl,fun ρ hρ hg=>?_⟩,fun ρ hρ hg=>?_⟩
 ·have:=hg nb hF
  rw[Rep];exact .inr ⟨by rw[this],by rw[this];simp,0,by rw[this];simp,fun _=>by rw[this];simp⟩
 ·refine Vy (h.hp ρ hρ) e ?_ (by rw[size_madeCells]) (Nat.le_refl _) (h.fr nb hU) (hg nb hF)
  have hrl:=z4 (hrep ρ) n.toNat;rw[← hzs,zQ];intro j hj;refine ⟨by rw[hzl,hzs],fun q v hv=>?_⟩;have hq:q<z.length:=(List.getElem?_eq_some_iff.1 hv).1;have hlt:j*zv.cells.size+q<n.toNat*z.length:=by
   have:(j+1)*z.length≤n.toNat*z.length:=Nat.mul_le_mul_right _ hj;rw[Nat.add_mul,Nat.one_mul]at this;rw[hzs,← hzl];omega
  have hfl:(List.replicate n.toNat z).flatten[j*zv.cells.size+q]?=some v:=by
   rw[yY _ _ _ hlt,← hv]
   congr 1
   rw[hzs,← hzl,Nat.mul_comm,Nat.mul_add_mod,Nat.mod_eq_of_lt hq]
  obtain ⟨u,hu,hr⟩:=hrl.get hfl;refine ⟨u,hu,hr,?_⟩;exact Rep.one hr (List.all_eq_true.1 hone v (List.mem_of_getElem? hv))
theorem ZfN (h:Sat w0 S Es U T H a w) {o:Oper} {F:Nm→Prop} (x:Operand) (t:TypeId) (ho:o.op=.call { callee:=.builtin .clear,args:=#[x],argTypes:=#[t] }) {e:TypeId} {i:TypeInfo} (he:P.underlying t=some (.slice e)) (hi:P.info? e=some i) {z:List AV} (hz:YJ P e=some z) (hzl:z.length=i.size)
  {y:Nm} {s n m:Nat} {f:Nat→List AV} (hx:(rX x).ev T=.sl y s n) (hy:H y=.arr i.size m f) (hn:0<n) (hm:s+n=m):Yu P w0 S Es H a w o ⟨.tup [],[(y,.arr i.size s f)],[]⟩ F:=by
 obtain ⟨ρ0,h0⟩:=h.ne
 obtain ⟨zv,i',hi',hiz,hrun,hzc,_,hzone⟩:=VG hz
 rw[hi]at hi'
 obtain rfl:=Option.some.inj hi'
 have hzs:zv.cells.size=i.size:=by rw[← hzl,hzc];simp
 have hone1:∀ v∈zv.cells.toList,v.oneCell'=true:=fun v hv=>by
  have:(zv.cells.toList.map ofC).all AV.one=true:=by rw[← hzc];exact hzone
  have h2:=List.all_eq_true.1 this (ofC v) (List.mem_map_of_mem hv);exact Rep.one (xO ρ0 v) h2
 have key:∀ ρ,Es ρ→(execOp a.eval o).run P w=.ok (.value (.tuple #[])) (w.setCells (ρ y).blk ((ρ y).base+s*i.size) (Builtin.zeroCells zv.cells n).toList)∧HCore w0 S ρ (upd H y (.arr i.size s f)) (w.setCells (ρ y).blk ((ρ y).base+s*i.size) (Builtin.zeroCells zv.cells n).toList):=by
  intro ρ hρ;have hr:=h.ev hρ x;rw[hx,Rep]at hr;have hok:=(h.hp ρ hρ).obj y;rw[hy]at hok;have hnil:(ρ y).nil=false:=by
   rcases hr with ⟨_,_,rfl,_⟩ | ⟨h1,_⟩
   ·omega
   ·exact h1
  rcases hok with ⟨h1,_⟩ | ⟨hreg,hroom⟩
  ·rw[hnil]at h1;cases h1
  rcases hr with ⟨h1,_⟩ | ⟨_,hcap,off,hv,hoff⟩
  ·rw[hnil]at h1;cases h1
  have hoff:=hoff (by omega);rw[hreg.esz]at hoff;subst hoff;have hzl2:(Builtin.zeroCells zv.cells n).toList.length=n*i.size:=by
   rw[Array.length_toList,size_zeroCells,hzs]
  have hlt:s*i.size+n*i.size≤(ρ y).cap*i.size:=by
   rw[← Nat.add_mul];exact Nat.mul_le_mul_right _ hcap
  have hone:∀ v∈(Builtin.zeroCells zv.cells n).toList,v.oneCell'=true:=fun v hv=>by
   rw[Array.mem_toList_iff]at hv;simp only[Builtin.zeroCells,Array.mem_map,Array.mem_range]at hv;obtain ⟨k,hk,rfl⟩:=hv;have hlt:k % zv.cells.size<zv.cells.size:=Nat.mod_lt _ (by
    rcases Nat.eq_zero_or_pos zv.cells.size with e|e
    ·rw[e]at hk;omega
    ·exact e)
   rw[getElem!_pos zv.cells _ hlt];exact hone1 _ (Array.mem_toList_iff.2 (Array.getElem_mem hlt))
  have hst:=run_storeCells_cells (P:=P) (ρ y).blk ((ρ y).base+s*i.size) (Builtin.zeroCells zv.cells n).toList 0 w
   (fun j hj=>by have:=(hroom (s*i.size+j) (by omega)).1;rwa [Nat.add_zero,Nat.add_assoc])
   (fun j hj=>by have:=(hroom (s*i.size+j) (by omega)).2;rwa [Nat.add_zero,Nat.add_assoc]) hone
  rw[Nat.add_zero]at hst;refine ⟨?_,?_⟩
  ·obtain ⟨n',rfl⟩:∃ n',n=n'+1:=⟨n - 1,by omega⟩
   simp[execOp,ho,resolve,invoke,builtin,Builtin.clear_,hv,run_underlying he,hrun,hst]
  ·obtain ⟨e1,e2,e3⟩:=XW (ρ y).blk (Builtin.zeroCells zv.cells n).toList ((ρ y).base+s*i.size) w
   refine (h.hp ρ hρ).change (by rw[hy];exact hnil) hnil e1 e2 e3 (XV _ _ _ _) (fun b hb=>XU _ _ _ _ _ hb) (.inr ⟨⟨hnil,hreg.esz,by have:=hreg.cap;omega,fun j hj=>hreg.len j (by omega),fun j hj k v hv=>?_⟩,fun k hk=>⟨World.isSome_setCells _ _ _ _ _ (hroom k hk).1,by rw[World.frozen?_setCells];exact (hroom k hk).2⟩⟩);obtain ⟨u,hu,hru,h1⟩:=hreg.cell j (by omega) k v hv;refine ⟨u,?_,hru,h1⟩;have hk:k<i.size:=(by have:=(List.getElem?_eq_some_iff.1 hv).1;have:=hreg.len j (by omega);omega);have hjs:(j+1)*i.size≤s*i.size:=Nat.mul_le_mul_right _ (by omega);rw[Nat.add_mul]at hjs;rw[World.cell?_setCells_out _ _ _ _ _ (fun _ _=>by show (ρ y).base+(j*i.size+k)<_∨_;left;omega)];exact hu
 refine ⟨_,ρ0,_,(key ρ0 h0).1,.inl ⟨_,rfl,fun ρ hρ _=>by rw[Rep];exact ⟨#[],rfl,rfl⟩⟩,fun ρ hρ _=>?_⟩
 have h3:=(key ρ hρ).1
 rw[(key ρ0 h0).1]at h3
 injection h3 with _ h3
 have h4:=(key ρ hρ).2
 rw[← h3]at h4
 simpa [Yr] using h4
def MOp.isCall:MOp→Bool
 | .call _ _=>true
 | _=>false
theorem Zar (h:Sat w0 S Es U T H a w) {o:Oper} {F:Nm→Prop} {nb:Nm} (hF:F nb) (hU:U nb) {m:MOp} {r:FRes} (hm:rOp P o.op=some m) (hc:m.isCall=false) (hs:Zv T H nb m=some r):Yu P w0 S Es H a w o r F:=by
 cases ho:o.op with
 | move x =>
  simp only[ho,rOp,Option.some.injEq]at hm;subst hm;simp only[Zv,Option.some.injEq]at hs;subst hs;exact Zey h x (.inl ho)
 | assign x =>
  simp only[ho,rOp,Option.some.injEq]at hm;subst hm;simp only[Zv,Option.some.injEq]at hs;subst hs;exact Zey h x (.inr ho)
 | pick c x y =>
  simp only[ho,rOp,Option.some.injEq]at hm;subst hm;simp only[Zv]at hs;split at hs
  ·rename_i b hb;injection hs with hs;subst hs;exact ZdY h c x y ho hb
  ·cases hs
 | alloc t =>
  simp only[ho,rOp]at hm;cases hz:YJ P t with
  | none=>simp[hz]at hm
  | some z =>
   simp only[hz,Option.map_some,Option.some.injEq]at hm;subst hm;simp only[Zv,Option.some.injEq]at hs;subst hs;exact Zb5 h t ho hz hF hU
 | box t x =>
  simp only[ho,rOp,Option.some.injEq]at hm;subst hm;simp only[Zv]at hs;split at hs
  ·rename_i h1;injection hs with hs;subst hs;exact ZgI h t x ho h1 hF hU
  ·cases hs
 | load t x =>
  simp only[ho,rOp]at hm;split at hm
  ·rename_i n hag hn
   injection hm with hm;subst hm;simp only[Zv]at hs;split at hs
   ·rename_i y i f hx
    split at hs
    ·rename_i c he
     simp only[if_true]at hs;split at hs
     ·rename_i hle;injection hs with hs;subst hs;exact vg h t x ho hag hn hx he hle
     ·cases hs
    ·cases hs
   ·cases hs
  ·rename_i n hag hn
   injection hm with hm;subst hm;simp only[Zv]at hs;split at hs
   ·rename_i y i f hx
    split at hs
    ·rename_i c he
     simp only[Bool.false_eq_true,if_false]at hs;split at hs
     ·rename_i v hv;injection hs with hs;subst hs;exact ZaH h t x ho hag hx he hv
     ·cases hs
    ·cases hs
   ·cases hs
  ·cases hm
 | store t x y =>
  simp only[ho,rOp]at hm;split at hm
  ·rename_i n hn
   injection hm with hm;subst hm;simp only[Zv]at hs;split at hs
   ·rename_i z i f hx
    split at hs
    ·rename_i hcond
     split at hs
     ·rename_i o' hse;injection hs with hs;subst hs;exact ZbP h t x y ho hn hx hcond.1 hcond.2 hse
     ·cases hs
    ·cases hs
   ·cases hs
  ·cases hm
 | nilCheck x =>
  simp only[ho,rOp,Option.some.injEq]at hm;subst hm;simp only[Zv]at hs;split at hs
  ·rename_i hx;injection hs with hs;subst hs;exact T2 h x ho hx (.inl ⟨_,_,_,rfl⟩)
  ·rename_i hx;injection hs with hs;subst hs;exact T2 h x ho hx (.inr (.inl ⟨_,_,rfl⟩))
  ·rename_i hx;injection hs with hs;subst hs;exact T2 h x ho hx (.inr (.inr ⟨_,_,rfl⟩))
  ·cases hs
 | binOp op t x y t' =>
  have bin:m=.bin op (rX x) (rX y)→Yu P w0 S Es H a w o r F:=by
   intro hm;subst hm;simp only[Zv]at hs;split at hs
   ·rename_i k p k' q hx hy
    split at hs
    ·rename_i e
     split at hs
     ·cases hs
     ·injection hs with hs;subst hs;exact xy h op t t' x y ho hx hy (.inl ⟨e,by omega,rfl⟩)
    ·split at hs
     ·rename_i e
      split at hs
      ·cases hs
      ·injection hs with hs;subst hs;exact xy h op t t' x y ho hx hy (.inr (.inl ⟨e,by omega,rfl⟩))
     ·split at hs
      ·rename_i hk
       split at hs
       ·rename_i v hv;injection hs with hs;subst hs;exact xy h op t t' x y ho hx hy (.inr (.inr ⟨hk,hv⟩))
       ·cases hs
      ·cases hs
   ·cases hs
  simp only[ho,rOp]at hm;split at hm
  ·rename_i hop
   have eq:∀ k,Zbx P t=some k→(k=.iface→y=.const .nilIface)→(k=.slice→y=.const (.slice none 0 0))→(k=.func→y=.const .nilFunc)→m=.eq (op == .neq) k (rX x) (rX y)→Yu P w0 S Es H a w o r F:=by
    intro k hk hci hcs hcf hm;subst hm;simp only[Zv]at hs;split at hs
    ·rename_i b hb;injection hs with hs;subst hs;exact ZhJ h op hop t t' x y ho hk hci hcs hcf hb
    ·cases hs
   split at hm
   ·injection hm with hm;exact bin hm.symm
   ·split at hm
    ·rename_i hk
     split at hm
     ·injection hm with hm;exact eq .iface hk (fun _=>rfl) (fun e=>by cases e) (fun e=>by cases e) hm.symm
     ·cases hm
    ·rename_i hk
     split at hm
     ·injection hm with hm;exact eq .slice hk (fun e=>by cases e) (fun _=>rfl) (fun e=>by cases e) hm.symm
     ·cases hm
    ·rename_i hk
     split at hm
     ·injection hm with hm;exact eq .func hk (fun e=>by cases e) (fun e=>by cases e) (fun _=>rfl) hm.symm
     ·cases hm
    ·rename_i k hne hne2 hne3 hk
     injection hm with hm;exact eq k hk (fun e=>(hne e).elim) (fun e=>(hne2 e).elim) (fun e=>(hne3 e).elim) hm.symm
    ·cases hm
  ·injection hm with hm;exact bin hm.symm
 | unOp op t x =>
  simp only[ho,rOp,Option.some.injEq]at hm;subst hm;simp only[Zv]at hs;split at hs
  ·rename_i b hx;injection hs with hs;subst hs;exact Zf5 h t x ho hx
  ·rename_i k n hx;injection hs with hs;subst hs;exact ZeN h t x ho hx
  ·cases hs
 | convert s d x =>
  simp only[ho,rOp]at hm;split at hm
  ·rename_i e k he hk
   injection hm with hm;subst hm;simp only[Zv]at hs;split at hs
   ·rename_i k' n hx;injection hs with hs;subst hs;exact Zda h s d x ho he hk hx
   ·cases hs
  ·cases hm
 | makeInterface t x =>
  simp only[ho,rOp]at hm;split at hm
  ·cases hm
  ·rename_i e hne he
   injection hm with hm;subst hm;simp only[Zv,Option.some.injEq]at hs;subst hs;exact Zcw h t x ho he (fun m e' => hne m e')
  ·cases hm
 | fieldAddr s x f =>
  simp only[ho,rOp]at hm;split at hm
  ·rename_i fs hfs
   split at hm
   ·rename_i fd hfd
    split at hm
    ·rename_i n hn
     split at hm
     ·rename_i hp
      injection hm with hm;subst hm;simp only[Zv]at hs;split at hs
      ·rename_i z i g hx;injection hs with hs;subst hs;exact ZbZ h s x f ho hfs hfd hn hp hx
      ·cases hs
     ·cases hm
    ·cases hm
   ·cases hm
  ·cases hm
 | field t x f =>
  simp only[ho,rOp]at hm;split at hm
  ·rename_i fs hfs
   split at hm
   ·rename_i fd hfd
    split at hm
    ·rename_i ag n hag hn
     injection hm with hm;subst hm;simp only[Zv]at hs;split at hs
     ·rename_i c hx
      cases ag
      ·simp only[Bool.false_eq_true,if_false]at hs
       split at hs
       ·rename_i v hv;injection hs with hs;subst hs;exact Zb2 h t x f ho hfs hfd hag hx hv
       ·cases hs
      ·simp only[if_true]at hs
       split at hs
       ·injection hs with hs;subst hs;exact ZaI h t x f ho hfs hfd hag hn hx
       ·cases hs
     ·cases hs
    ·cases hm
   ·cases hm
  ·cases hm
 | indexAddr t x i =>
  simp only[ho,rOp]at hm;split at hm
  ·rename_i e he
   split at hm
   ·rename_i n hn
    injection hm with hm;subst hm;simp only[Zv]at hs;split at hs
    ·rename_i z s m k j hx hi
     split at hs
     ·rename_i hso
      split at hs
      ·rename_i hj;injection hs with hs;subst hs;exact ZbS h t x i ho he hn hx hi hj hso
      ·cases hs
     ·cases hs
    ·cases hs
   ·cases hm
  ·rename_i len e he
   split at hm
   ·rename_i n hn
    injection hm with hm;subst hm;simp only[Zv]at hs;split at hs
    ·rename_i z b f k j hx hi
     split at hs
     ·rename_i hj;injection hs with hs;subst hs;exact Zcb h t x i ho he hn hx hi hj
     ·cases hs
    ·cases hs
   ·cases hm
  ·cases hm
 | index t x i =>
  simp only[ho,rOp]at hm;split at hm
  ·rename_i len e he
   split at hm
   ·rename_i ag n hag hn
    injection hm with hm;subst hm;simp only[Zv]at hs;split at hs
    ·rename_i c k j hx hi
     split at hs
     ·rename_i hj
      cases ag
      ·simp only[Bool.false_eq_true,if_false]at hs
       split at hs
       ·rename_i v hv
        split at hs
        ·rename_i h1;injection hs with hs;subst hs;subst h1;exact ZbU h t x i ho he hag hn hx hi ⟨hj.1,hj.2.1⟩ hv
        ·cases hs
       ·cases hs
      ·simp only[if_true]at hs
       injection hs with hs;subst hs;exact Zat h t x i ho he hag hn hx hi ⟨hj.1,hj.2.1⟩
     ·cases hs
    ·cases hs
   ·cases hm
  ·cases hm
 | slice t x lo hi mx =>
  cases mx with
  | some v=>simp only[ho,rOp,reduceCtorEq]at hm
  | none =>
   simp only[ho,rOp]at hm;split at hm
   ·rename_i e he
    split at hm
    ·rename_i n hn
     injection hm with hm;subst hm;simp only[Zv]at hs;split at hs
     ·rename_i z s m hx
      split at hs
      ·rename_i kl l kh hh h1 h2
       split at hs
       ·rename_i hso
        split at hs
        ·rename_i hb;injection hs with hs;subst hs;exact ZfQ h t x lo hi ho he hn hx h1 h2 hb.1 hb.2.1 hb.2.2 hso
        ·cases hs
       ·cases hs
      ·cases hs
     ·rename_i hx
      split at hs
      ·rename_i kl l kh hh h1 h2
       split at hs
       ·rename_i hb
        injection hs with hs;subst hs;rw[hb.1]at h1;rw[hb.2]at h2;exact vB h t x lo hi ho he hn hx h1 h2
       ·cases hs
      ·cases hs
     ·cases hs
    ·cases hm
   ·cases hm
 | panic x =>
  simp only[ho,rOp,Option.some.injEq]at hm;subst hm;simp only[Zv,reduceCtorEq]at hs
 | extract x i =>
  simp only[ho,rOp,Option.some.injEq]at hm;subst hm;simp only[Zv]at hs;split at hs
  ·rename_i l hx
   split at hs
   ·rename_i v hv;injection hs with hs;subst hs;exact Zfs h x i ho hx hv
   ·cases hs
  ·cases hs
 | build t ps =>
  simp only[ho,rOp]at hm;split at hm
  ·rename_i fs z hfs hz
   split at hm
   ·rename_i pl hpl
    cases hq:Vd (fun x=>pl[x]?) ps.toList with
    | none=>simp[hq]at hm
    | some qs =>
     simp only[hq,Option.map_some,Option.some.injEq]at hm;subst hm;simp only[Zv]at hs;split at hs
     ·rename_i c hcc;injection hs with hs;subst hs;exact TY h t ps ho hfs hz hpl hq hcc
     ·cases hs
   ·cases hm
  ·rename_i len e z he hz
   split at hm
   ·rename_i n hn
    cases hq:Vd (fun i=>some (i*n,n)) ps.toList with
    | none=>simp[hq]at hm
    | some qs =>
     simp only[hq,Option.map_some,Option.some.injEq]at hm;subst hm;simp only[Zv]at hs;split at hs
     ·rename_i c hcc;injection hs with hs;subst hs;exact zj h t ps ho he hz hn hq hcc
     ·cases hs
   ·cases hm
  ·cases hm
 | buildSlice t n ps =>
  simp only[ho,rOp]at hm;split at hm
  ·rename_i e he
   split at hm
   ·rename_i sz z hsz hz
    split at hm
    ·rename_i hzl
     cases hq:Vd (fun i=>some (i*sz,sz)) ps.toList with
     | none=>simp[hq]at hm
     | some qs =>
      simp only[hq,Option.map_some,Option.some.injEq]at hm;subst hm;simp only[Zv]at hs;split at hs
      ·rename_i c hcc
       split at hs
       ·rename_i hcond;injection hs with hs;subst hs;exact Zgn h hF hU t n ps ho he hz hsz hzl hq hcc hcond.1 hcond.2.1 hcond.2.2
       ·cases hs
      ·cases hs
    ·cases hm
   ·cases hm
  ·cases hm
 | makeSlice t x y =>
  simp only[ho,rOp]at hm;split at hm
  ·rename_i e he
   split at hm
   ·rename_i i z hi hz
    split at hm
    ·rename_i hzl
     injection hm with hm;subst hm;simp only[Zv]at hs;split at hs
     ·rename_i k n k' n' hx hy
      split at hs
      ·rename_i hcond
       injection hs with hs;subst hs;obtain ⟨rfl,h1,h2,h3,_⟩:=hcond;exact Zfd h hF hU t x y ho he hi hz hzl hx hy h1 h2 h3
      ·cases hs
     ·cases hs
    ·cases hm
   ·cases hm
  ·cases hm
 | makeFunc fn first cap =>
  cases fn with
  | func f =>
   simp only[ho,rOp]at hm;split at hm
   ·rename_i h1
    injection hm with hm;subst hm;simp only[Zv,Option.some.injEq]at hs;subst hs;exact Zc4 h f first cap ho h1
   ·cases hm
  | _=>simp only[ho,rOp,reduceCtorEq]at hm
 | typeAssert x xt t ok =>
  simp only[ho,rOp]at hm;split at hm
  ·cases hm
  ·rename_i d z hne hd hz
   injection hm with hm;subst hm;have hdi:∀ m,d≠.interface m:=fun m e=>hne m e;simp only[Zv]at hs;split at hs
   ·rename_i q u hx
    split at hs
    ·rename_i e;injection hs with hs;subst hs;exact xo h x xt t ok ho hd hdi hz (.inl ⟨q,u,hx,.inl ⟨e,rfl⟩⟩)
    ·rename_i e
     split at hs
     ·rename_i hok;injection hs with hs;subst hs;exact xo h x xt t ok ho hd hdi hz (.inl ⟨q,u,hx,.inr ⟨e,hok,rfl⟩⟩)
     ·cases hs
   ·rename_i hx
    split at hs
    ·rename_i hok;injection hs with hs;subst hs;exact xo h x xt t ok ho hd hdi hz (.inr ⟨hx,hok,rfl⟩)
    ·cases hs
   ·cases hs
  ·cases hm
 | makeMap t r =>
  cases r with
  | none=>simp only[ho,rOp,Option.map_eq_some_iff]at hm;obtain ⟨_,_,rfl⟩:=hm;simp only[Zv,reduceCtorEq]at hs
  | some r=>simp only[ho,rOp,reduceCtorEq]at hm
 | lookup t x k ok =>
  simp only[ho,rOp]at hm;split at hm
  ·simp only[Option.map_eq_some_iff]at hm;obtain ⟨_,_,rfl⟩:=hm;simp only[Zv,reduceCtorEq]at hs
  ·cases hm
 | mapUpdate t x k v=>simp only[ho,rOp,Option.map_eq_some_iff]at hm;obtain ⟨_,_,rfl⟩:=hm;simp only[Zv,reduceCtorEq]at hs
 | mapEntry t x k =>
  simp only[ho,rOp]at hm;split at hm
  ·simp only[Option.map_eq_some_iff]at hm;obtain ⟨_,_,rfl⟩:=hm;simp only[Zv,reduceCtorEq]at hs
  ·cases hm
 | entryStore t x k v=>simp only[ho,rOp,Option.map_eq_some_iff]at hm;obtain ⟨_,_,rfl⟩:=hm;simp only[Zv,reduceCtorEq]at hs
 | range t x=>simp only[ho,rOp,Option.map_eq_some_iff]at hm;obtain ⟨_,_,rfl⟩:=hm;simp only[Zv,reduceCtorEq]at hs
 | next x b =>
  cases b with
  | true=>simp only[ho,rOp,reduceCtorEq]at hm
  | false=>simp only[ho,rOp,Option.some.injEq]at hm;subst hm;simp only[Zv,reduceCtorEq]at hs
 | entry x=>simp only[ho,rOp,Option.some.injEq]at hm;subst hm;simp only[Zv,reduceCtorEq]at hs
 | call c =>
  obtain ⟨callee,args,argTypes⟩:=c;cases callee with
  | value f =>
   simp only[ho,rOp,Option.some.injEq]at hm;subst hm;simp[MOp.isCall]at hc
  | invoke r m=>simp only[ho,rOp,reduceCtorEq]at hm
  | builtin b =>
   cases b<;>simp only[ho,rOp,reduceCtorEq]at hm
   case len =>
    split at hm
    ·rename_i x t hx ht
     have ho':o.op=.call { callee:=.builtin .len,args:=#[x],argTypes:=#[t] }:=(by rw[ho];congr 2<;>(apply Array.ext';simpa));split at hm
     ·rename_i e he
      injection hm with hm;subst hm;simp only[Zv]at hs;split at hs
      ·rename_i z i n hx1
       injection hs with hs;subst hs;exact xe h x t ho' (.inl ⟨z,i,n,hx1,rfl,e,he⟩)
      ·rename_i hx1
       injection hs with hs;subst hs;exact xe h x t ho' (.inr (.inl ⟨hx1,rfl,e,he⟩))
      ·cases hs
     ·rename_i he
      injection hm with hm;subst hm;simp only[Zv]at hs;split at hs
      ·rename_i s hx1
       injection hs with hs;subst hs;exact xe h x t ho' (.inr (.inr ⟨s,hx1,rfl,he⟩))
      ·cases hs
     ·injection hm with hm;subst hm;simp only[Zv,reduceCtorEq]at hs
     ·cases hm
    ·cases hm
   case clear =>
    split at hm
    ·rename_i x t hx ht
     have ho':o.op=.call { callee:=.builtin .clear,args:=#[x],argTypes:=#[t] }:=(by rw[ho];congr 2<;>(apply Array.ext';simpa));split at hm
     ·rename_i e he
      split at hm
      ·rename_i i z hi hz
       split at hm
       ·rename_i hzl
        injection hm with hm;subst hm;simp only[Zv]at hs;split at hs
        ·rename_i y s n hx1
         split at hs
         ·rename_i sz' m f hy
          split at hs
          ·rename_i hcond
           injection hs with hs;subst hs;obtain ⟨rfl,h1,h2⟩:=hcond;exact ZfN h x t ho' he hi hz hzl hx1 hy h1 h2
          ·cases hs
         ·cases hs
        ·cases hs
       ·cases hm
      ·cases hm
     ·cases hm
    ·cases hm
   case cap =>
    split at hm
    ·rename_i x t hx ht
     have ho':o.op=.call { callee:=.builtin .cap,args:=#[x],argTypes:=#[t] }:=(by rw[ho];congr 2<;>(apply Array.ext';simpa));split at hm
     ·rename_i e he
      injection hm with hm;subst hm;simp only[Zv]at hs;split at hs
      ·rename_i hx1
       injection hs with hs;subst hs;exact Zga h x t ho' he hx1
      ·cases hs
     ·cases hm
    ·cases hm
   case min =>
    injection hm with hm;subst hm;simp only[Zv]at hs;split at hs
    ·rename_i k p k' q hl
     split at hs
     ·rename_i hk
      injection hs with hs;subst hs;subst hk
      match hargs:args.toList with
      | [x,y] =>
       have ho':o.op=.call { callee:=.builtin .min,args:=#[x,y],argTypes:=argTypes }:=(by rw[ho];congr 2;apply Array.ext';simpa);simp only[hargs,List.map_cons,List.map_nil,List.cons.injEq,and_true]at hl;exact Ze6 h x y argTypes ho' hl.1 hl.2
      | []=>simp[hargs]at hl
      | [x]=>simp[hargs]at hl
      | x :: y :: z :: r=>simp[hargs]at hl
     ·cases hs
    ·cases hs
   case max =>
    injection hm with hm;subst hm;simp only[Zv]at hs;split at hs
    ·rename_i k p k' q hl
     split at hs
     ·rename_i hk
      injection hs with hs;subst hs;subst hk
      match hargs:args.toList with
      | [x,y] =>
       have ho':o.op=.call { callee:=.builtin .max,args:=#[x,y],argTypes:=argTypes }:=(by rw[ho];congr 2;apply Array.ext';simpa);simp only[hargs,List.map_cons,List.map_nil,List.cons.injEq,and_true]at hl;exact Zgg h x y argTypes ho' hl.1 hl.2
      | []=>simp[hargs]at hl
      | [x]=>simp[hargs]at hl
      | x :: y :: z :: r=>simp[hargs]at hl
     ·cases hs
    ·cases hs
   case append =>
    split at hm
    ·rename_i x y t t' hargs htys
     have ho':o.op=.call { callee:=.builtin .append,args:=#[x,y],argTypes:=#[t,t'] }:=(by rw[ho];congr 2<;>(apply Array.ext';simpa));split at hm
     rotate_left
     ·rename_i e k he he'
      split at hm
      ·rename_i i z hi hz
       split at hm
       ·rename_i hcond
        injection hm with hm;subst hm;simp only[Zv]at hs;split at hs
        ·rename_i n hx hy
         split at hs
         ·rename_i hb
          injection hs with hs;subst hs;exact ZcB h ho' he he' hi hz hcond.1 hcond.2 hF hU hx hy hb.1 hb.2.1 hb.2.2
         ·cases hs
        ·cases hs
       ·cases hm
      ·cases hm
     ·cases hm
     ·rename_i e e' he he'
      split at hm
      ·rename_i i z hi hz
       split at hm
       ·rename_i hcond
        injection hm with hm;subst hm;simp only[Zv]at hs;split at hs
        ·rename_i n' g rd sz' hy
         split at hs
         ·rename_i hsz
          split at hs
          ·rename_i hx
           split at hs
           ·rename_i hb;injection hs with hs;subst hs;exact vn h ho' he he' hi hz hcond.1 hF hU hy hsz hx hb.1 hb.2
           ·cases hs
          ·rename_i zo s n hx
           split at hs
           ·rename_i sz2 m f hzo
            split at hs
            ·rename_i hb
             injection hs with hs;subst hs;obtain ⟨rfl,h1,h2,h3⟩:=hb;exact Ze7 h ho' he he' hi hz hcond.1 hF hU hy hsz hx hzo h1 h2 h3
            ·cases hs
           ·cases hs
          ·cases hs
         ·cases hs
        ·cases hs
       ·cases hm
      ·cases hm
    ·cases hm
 | _=>simp only[ho,rOp,reduceCtorEq]at hm
end
end Go.W
