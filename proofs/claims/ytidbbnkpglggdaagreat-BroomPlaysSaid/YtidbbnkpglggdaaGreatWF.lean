/- Comparing; slices; append; literals. Equality, slices, append, make, literals. Slices, append, make, literals. -/
import Derived.Test.YtidbbnkpglggdaaGreatWC
import Derived.Laws.StructEq
import Derived.ChangeKeysEq
import Derived.Laws.Pointers
import Derived.Deep.Upon
namespace Go.W
set_option linter.unusedSimpArgs false
set_option linter.unusedVariables false
section
variable {P:Program} {w0:World} {S:Sc} {Es:Env→Prop} {U:Nm→Prop} {T:Nat→AV} {H:Nm→AObj} {a:Act} {w:World}
def XN (P:Program) (t:TypeId) (v:Value):Prop :=
 match P.underlying t with
 | some (.struct _) | some (.array _ _)=>∃ cs,v=.agg cs
 | _=>v.oneCell'=true
theorem yz {ks ls:List LK}:∀ {as bs cs ds:List AV} {b:Bool},as.length=ks.length→bs.length=ks.length→eqL (ks++ls) (as++cs) (bs++ds)=some b→∃ x y,eqL ks as bs=some x∧eqL ls cs ds=some y∧b=(x&&y):=by
 induction ks with
 | nil =>
  intro as bs cs ds b h1 h2 h;simp at h1 h2;subst h1;subst h2;exact ⟨true,b,rfl,by simpa using h,by simp⟩
 | cons k ks ih =>
  intro as bs cs ds b h1 h2 h
  match as,bs with
  | a :: as,c :: bs =>
   simp only[List.cons_append,eqL]at h;cases h3:eq1 k a c with
   | none=>simp[h3]at h
   | some x0 =>
    cases h4:eqL (ks++ls) (as++cs) (bs++ds) with
    | none=>simp[h3,h4]at h
    | some y0 =>
     simp only[h3,h4,Option.some.injEq]at h;obtain ⟨x,y,e1,e2,e3⟩:=ih (by simpa using h1) (by simpa using h2) h4;exact ⟨x0&&x,y,by simp[eqL,h3,e1],e2,by rw[← h,e3,Bool.and_assoc]⟩
  | [],_=>simp at h1
  | _ :: _,[]=>simp at h2
theorem xL {e:TypeId} {k:Nat} (hk:UG P e=some k) {d:TypeDesc} (hu:P.underlying e=some d) (hl:d.isRow=false→k=1) {xs:Array Value} {off:Nat} (hle:off+k≤xs.size) (h1:d.isRow=false→∀ v∈xs.toList,v.oneCell'=true) :
  ∃ u,(part e xs off).run P w=.ok u w∧u.cells.toList=(xs.toList.drop off).take k∧XN P e u:=by
 cases hr:d.isRow with
 | true =>
  refine ⟨.agg (xs.extract off (off+k)),?_,?_,?_⟩
  ·have:vd P e=some true:=by unfold vd;rw[hu];cases d<;>simp_all
   simp[part,Vh this,YT hk]
  ·simp[Value.cells,Array.toList_extract,List.extract]
  ·unfold XN;rw[hu];cases d<;>simp_all
 | false =>
  have hk1:=hl hr;subst hk1;have hlt:off<xs.size:=by omega
  have hv:=h1 hr xs[off] (by rw[← Array.getElem_toList (h:=by simpa using hlt)];exact List.getElem_mem _);refine ⟨xs[off],?_,?_,?_⟩
  ·have:vd P e=some false:=by unfold vd;rw[hu];cases d<;>simp_all
   simp[part,Vh this,Array.getElem?_eq_getElem hlt]
  ·have hc:(xs[off]).cells=#[xs[off]]:=by generalize xs[off]=v at hv;cases v<;>first|rfl|(simp[Value.oneCell']at hv)
   rw[hc,List.drop_eq_getElem_cons (by simpa using hlt)];simp
  ·unfold XN;rw[hu];cases d<;>simp_all
theorem zW {d:Nat} {t:TypeId} {ks:List LK} (h:Vs P d t=some ks):∃ dd,P.underlying t=some dd∧(dd.isRow=false→ks.length=1):=by
 cases d with
 | zero=>cases h
 | succ d =>
  unfold Vs at h;cases hu:P.underlying t with
  | none=>simp[hu]at h
  | some dd=>refine ⟨dd,rfl,fun hr=>?_⟩;cases dd<;>simp[hu]at h<;>first | (subst h;rfl) | (simp at hr)
def ZaY (P:Program) (t:TypeId):LK→Prop
 | .b=>P.underlying t=some .bool
 | .i=>∃ q,P.underlying t=some (.int q)
 | .s=>P.underlying t=some .string
theorem Zia {k:LK} {x y:AV} {b:Bool} {u v:Value} {ρ:Env} (h:eq1 k x y=some b) (hx:Rep ρ x u) (hy:Rep ρ y v) (D:Nat) (t:TypeId)
  (hk:ZaY P t k):(Op.equalIn (D+1) t u v).run P w=.ok b w:=by
 cases k<;>cases x<;>simp only[eq1,reduceCtorEq]at h<;>cases y<;>simp only[reduceCtorEq,Option.some.injEq]at h<;>simp only[Rep]at hx hy<;>subst hx<;>subst hy
 ·rw[run_equalIn_bool w D t _ _ hk,h]
 ·obtain ⟨q,hk⟩:=hk
  split at h
  ·rename_i hkk
   injection h with h;subst hkk;rw[run_equalIn_int w D t _ _ _ _ hk,← h]
   congr 1
  ·cases h
 ·rw[run_equalIn_string w D t _ _ hk,← h,beq_toListBytes]
theorem VN {ρ:Env} {as:List AV} {us:List Value} (h:Z8 ρ as us) (off k:Nat):Z8 ρ ((as.drop off).take k) ((us.drop off).take k):=(h.drop off).take k
theorem TS:∀ (d D:Nat) (t:TypeId) (ks:List LK),Vs P d t=some ks→∀ (ρ:Env) (as bs:List AV) (u v:Value) (b:Bool) (w:World),Z8 ρ as u.cells.toList→Z8 ρ bs v.cells.toList→as.length=ks.length→bs.length=ks.length →
  XN P t u→XN P t v→(∀ x∈u.cells.toList,x.oneCell'=true)→(∀ x∈v.cells.toList,x.oneCell'=true)→eqL ks as bs=some b→(Op.equalIn (D+d) t u v).run P w=.ok b w
 | 0,_,_,_,h=>by cases h
 | d+1,D,t,ks,h=>by
  intro ρ as bs u v b w hu hv ha hb su sv ou ov he;have leaf:∀ (k:LK),ks=[k]→ZaY P t k→(Op.equalIn (D+(d+1)) t u v).run P w=.ok b w:=by
   intro k hk ht;subst hk;have hnr:u.oneCell'=true∧v.oneCell'=true:=by
    unfold XN at su sv;cases k with
    | b=>simp only[ZaY]at ht;rw[ht]at su sv;exact ⟨su,sv⟩
    | i=>obtain ⟨q,ht⟩:=ht;rw[ht]at su sv;exact ⟨su,sv⟩
    | s=>simp only[ZaY]at ht;rw[ht]at su sv;exact ⟨su,sv⟩
   have hcu:u.cells=#[u]:=by cases u<;>first|rfl|(simp[Value.oneCell']at hnr)
   have hcv:v.cells=#[v]:=by cases v<;>first|rfl|(simp[Value.oneCell']at hnr)
   rw[hcu]at hu;rw[hcv]at hv
   match as,bs,ha,hb with
   | [x],[y],_,_ =>
    simp only[Z8,List.cons.injEq]at hu hv;obtain ⟨_,_,⟨rfl,rfl⟩,hu,_⟩:=hu;obtain ⟨_,_,⟨rfl,rfl⟩,hv,_⟩:=hv;simp only[eqL]at he;cases h3:eq1 k x y with
    | none=>simp[h3]at he
    | some x0 =>
     simp[h3]at he;subst he;exact Zia h3 hu hv (D+d) t ht
  unfold Vs at h;cases ht:P.underlying t with
  | none=>simp[ht]at h
  | some dd =>
   cases dd<;>simp only[ht,reduceCtorEq,Option.some.injEq]at h
   case bool=>exact leaf .b h.symm ht
   case int q=>exact leaf .i h.symm ⟨q,ht⟩
   case string=>exact leaf .s h.symm ht
   case struct fs =>
    split at h
    ·rename_i hsi
     have hfo:P.fieldsOf t=fs:=(by simp[Program.fieldsOf,ht]);obtain ⟨us,rfl⟩:∃ cs,u=.agg cs:=(by simpa [XN,ht] using su);obtain ⟨vs,rfl⟩:∃ cs,v=.agg cs:=(by simpa [XN,ht] using sv);show (Op.equalIn ((D+d)+1) t (.agg us) (.agg vs)).run P w=.ok b w;rw[run_equalIn_struct w (D+d) t us vs (by rw[hfo];exact ht) hsi,hfo];simp only[Value.cells]at hu hv ou ov;have main:∀ (l:List Field) (off:Nat) (kl:List LK) (b:Bool),X1 P (Vs P d) l off=some kl→off+kl.length=ks.length→eqL kl (as.drop off) (bs.drop off)=some b→(Op.eqFields (D+d) us vs l).run P w=.ok b w:=by
      intro l
      induction l with
      | nil =>
       intro off kl b hf hle heq;simp only[X1,Option.some.injEq]at hf;subst hf;have e1:as.drop off=[]:=(by simp at hle⊢;omega);have e2:bs.drop off=[]:=(by simp at hle⊢;omega);rw[e1,e2]at heq;simp[eqL]at heq;subst heq;simp[Op.eqFields]
      | cons f fs ih =>
       intro off kl b hf hle heq;simp only[X1]at hf;cases h5:Vs P d f.type with
       | none=>simp[h5]at hf
       | some k =>
        cases h6:X1 P (Vs P d) fs (off+(UG P f.type).getD 0) with
        | none=>simp[h5,h6]at hf
        | some r =>
         simp only[h5,h6]at hf;split at hf
         ·rename_i hc
          obtain ⟨hn,hoff,hsz⟩:=hc;injection hf with hf;subst hf;rw[hsz]at h6;simp only[Option.getD_some]at h6;simp only[List.length_append]at hle;obtain ⟨dd,hd1,hd2⟩:=zW h5;have hul:=hu.length;have hvl:=hv.length;obtain ⟨pu,q1,q2,q3⟩:=xL (w:=w) hsz hd1 hd2 (xs:=us) (off:=f.offset) (by rw[← Array.length_toList];omega) (fun _=>ou);obtain ⟨pv,s1,s2,s3⟩:=xL (w:=w) hsz hd1 hd2 (xs:=vs) (off:=f.offset) (by rw[← Array.length_toList];omega) (fun _=>ov);rw[← List.take_append_drop k.length (as.drop off),← List.take_append_drop k.length (bs.drop off)]at heq;obtain ⟨x,y,e1,e2,e3⟩:=yz (by simp;omega) (by simp;omega) heq;have r1:=TS d D f.type k h5 ρ _ _ pu pv x w (by rw[q2,hoff];exact VN hu off k.length) (by rw[s2,hoff];exact VN hv off k.length) (by simp;omega) (by simp;omega) q3 s3
           (by rw[q2];exact fun z hz=>ou z (List.mem_of_mem_drop (List.mem_of_mem_take hz))) (by rw[s2];exact fun z hz=>ov z (List.mem_of_mem_drop (List.mem_of_mem_take hz))) e1
          rw[List.drop_drop,List.drop_drop]at e2;have r2:=ih (off+k.length) r y h6 (by omega) e2;simp only[Op.eqFields,hn,ne_eq,not_false_eq_true,if_true,Sem.run_bind,q1,s1,r1,Result.andThen_ok];subst e3;cases x
          ·simp
          ·simpa using r2
         ·cases hf
     exact main fs.toList 0 ks b h (by simp) (by simpa using he)
    ·cases h
   case array n e =>
    cases h5:Vs P d e with
    | none=>simp[h5]at h
    | some k =>
     simp only[h5]at h;split at h
     ·rename_i hsz
      injection h with h;obtain ⟨us,rfl⟩:∃ cs,u=.agg cs:=(by simpa [XN,ht] using su);obtain ⟨vs,rfl⟩:∃ cs,v=.agg cs:=(by simpa [XN,ht] using sv);obtain ⟨i,hi,hi2⟩:∃ i,P.info? e=some i∧i.size=k.length:=by
       unfold UG at hsz;cases hq:P.info? e with
       | none=>simp[hq]at hsz
       | some i=>simp[hq]at hsz;exact ⟨i,rfl,hsz⟩
      show (Op.equalIn ((D+d)+1) t (.agg us) (.agg vs)).run P w=.ok b w;rw[run_equalIn_array w (D+d) us vs ht hi];have hco:P.cellsOf e=k.length:=(by simp[Program.cellsOf,hi,hi2]);rw[hco];simp only[Value.cells]at hu hv ou ov;obtain ⟨dd,hd1,hd2⟩:=zW h5;have hul:=hu.length;have hvl:=hv.length;have hks:ks.length=n*k.length:=(by rw[← h];simp);have main:∀ (m:Nat) (j:Nat) (b:Bool),j+m=n→eqL (List.replicate m k).flatten (as.drop (j*k.length)) (bs.drop (j*k.length))=some b→(Op.eqItems (D+d) e k.length us vs (List.range' j m)).run P w=.ok b w:=by
       intro m
       induction m with
       | zero =>
        intro j b hj heq;have hj':j=n:=(by omega);subst hj';have e1:as.drop (j*k.length)=[]:=(by simp;omega);have e2:bs.drop (j*k.length)=[]:=(by simp;omega);rw[e1,e2]at heq;simp[eqL]at heq;subst heq;simp[Op.eqItems]
       | succ m ih =>
        intro j b hj heq;have hm:(j+1)*k.length≤n*k.length:=Nat.mul_le_mul_right _ (by omega);rw[Nat.add_mul,Nat.one_mul]at hm;obtain ⟨pu,q1,q2,q3⟩:=xL (w:=w) hsz hd1 hd2 (xs:=us) (off:=j*k.length) (by rw[← Array.length_toList];omega) (fun _=>ou);obtain ⟨pv,s1,s2,s3⟩:=xL (w:=w) hsz hd1 hd2 (xs:=vs) (off:=j*k.length) (by rw[← Array.length_toList];omega) (fun _=>ov);rw[List.replicate_succ,List.flatten_cons,← List.take_append_drop k.length (as.drop (j*k.length)),← List.take_append_drop k.length (bs.drop (j*k.length))]at heq;obtain ⟨x,y,e1,e2,e3⟩:=yz (by simp;omega) (by simp;omega) heq;have r1:=TS d D e k h5 ρ _ _ pu pv x w (by rw[q2];exact VN hu _ k.length) (by rw[s2];exact VN hv _ k.length) (by simp;omega) (by simp;omega) q3 s3
         (by rw[q2];exact fun z hz=>ou z (List.mem_of_mem_drop (List.mem_of_mem_take hz))) (by rw[s2];exact fun z hz=>ov z (List.mem_of_mem_drop (List.mem_of_mem_take hz))) e1
        rw[List.drop_drop,List.drop_drop]at e2;have r2:=ih (j+1) y (by omega) (by rw[Nat.add_mul,Nat.one_mul];exact e2);rw[List.range'_succ];simp only[Op.eqItems,Sem.run_bind,q1,s1,r1,Result.andThen_ok];subst e3;cases x
        ·simp
        ·simpa using r2
      rw[List.range_eq_range'];exact main n 0 b (by omega) (by rw[h];simpa using he)
     ·cases h
end
section
variable {P:Program} {w0:World} {S:Sc} {Es:Env→Prop} {U:Nm→Prop} {T:Nat→AV} {H:Nm→AObj} {a:Act} {w:World}
theorem Zi8 (d:Nat) (t:TypeId) {ms:Array (String×TypeId)} (h:P.underlying t=some (.interface ms)):(Op.equalIn (d+1) t .nilIface .nilIface).run P w=.ok true w:=by
 simp[Op.equalIn,run_underlying h]
theorem Zii (d:Nat) (t q:TypeId) (r:Value) {ms:Array (String×TypeId)} (h:P.underlying t=some (.interface ms)):(Op.equalIn (d+1) t (.iface q r) .nilIface).run P w=.ok false w:=by
 simp[Op.equalIn,run_underlying h]
theorem Zih (d:Nat) (t:TypeId) (q:Option Addr) {e:TypeId} (h:P.underlying t=some (.pointer e)):(Op.equalIn (d+1) t (.pointer q) (.pointer none)).run P w=.ok q.isNone w:=by
 cases q<;>simp[Op.equalIn,run_underlying h]
theorem ZiJ (d:Nat) (t:TypeId) (q:Option Addr) (l c:Nat) {e:TypeId} (h:P.underlying t=some (.slice e)):(Op.equalIn (d+1) t (.slice q l c) (.slice none 0 0)).run P w=.ok q.isNone w:=by
 cases q<;>simp[Op.equalIn,run_underlying h]
theorem ZiG (d:Nat) (t:TypeId) {x y:Array TypeId} {z:Bool} (h:P.underlying t=some (.func x y z)):(Op.equalIn (d+1) t .nilFunc .nilFunc).run P w=.ok true w:=by
 simp[Op.equalIn,run_underlying h]
theorem ZiS (d:Nat) (t:TypeId) (f:Fn) (p q:Array Value) {x y:Array TypeId} {z:Bool} (h:P.underlying t=some (.func x y z)):(Op.equalIn (d+1) t (.func f p q) .nilFunc).run P w=.ok false w:=by
 simp[Op.equalIn,run_underlying h]
theorem XA {t:TypeId} {u v:Value} {b:Bool} {op:BinOp} (hop:op=.eql∨op=.neq) (he:(Op.equal t u v).run P w=.ok b w)
  (hni:∀ k n,u≠.int k n) (hnf:∀ k n,u≠.float k n) (hnc:∀ k n m,u≠.complex k n m) (hns:∀ s,u≠.string s) (hnp:∀ q,u≠.pointer q) :
  (binOp op t u v).run P w=.ok (.bool (if (op == .neq)=true then !b else b)) w:=by
 rcases hop with rfl|rfl<;>cases u<;>first|(exact absurd rfl (hni _ _))|(exact absurd rfl (hnf _ _))|(exact absurd rfl (hnc _ _ _))|(exact absurd rfl (hns _))|(exact absurd rfl (hnp _))|simp[binOp,he]
theorem ZhJ (h:Sat w0 S Es U T H a w) {o:Oper} {F:Nm→Prop} (op:BinOp) (hop:op=.eql∨op=.neq) (t t':TypeId) (x y:Operand) (ho:o.op=.binOp op t x y t') {k:EqK} (hk:Zbx P t=some k) (hc:k=.iface→y=.const .nilIface) (hcs:k=.slice→y=.const (.slice none 0 0)) (hcf:k=.func→y=.const .nilFunc)
  {b:Bool} (he:eqV k ((rX x).ev T) ((rX y).ev T)=some b):Yu P w0 S Es H a w o ⟨.bool (if (op == .neq)=true then !b else b),[],[]⟩ F:=by
 refine Yu.pure h rfl fun ρ hρ=>⟨.bool (if (op == .neq)=true then !b else b),?_,by rw[Rep]⟩
 have h1:=h.ev hρ x
 have h2:=h.ev hρ y
 have hguard:∀ u v:Value,(u=.nilIface→v=.nilIface→y=.const .nilIface)→(∀ c,u≠.agg c)→(eqGuard op t x y u v).run P w=.ok () w:=by
  intro u v huv hna;cases u<;>cases v<;>first|(exact absurd rfl (hna _))|(rcases hop with rfl|rfl<;>simp[eqGuard])
  all_goals (simp[huv rfl rfl])
 revert he
 generalize hx:(rX x).ev T=ax at h1
 generalize hy:(rX y).ev T=ay at h2
 intro he
 unfold Zbx at hk
 cases hu:P.underlying t with
 | none=>simp[hu]at hk
 | some d =>
  cases k with
  | bool =>
   cases ax<;>simp only[eqV,reduceCtorEq]at he<;>cases ay<;>simp only[reduceCtorEq,Option.some.injEq]at he;simp only[Rep]at h1 h2;have hd:d=.bool:=by cases d<;>simp[hu]at hk<;>first|rfl|(split at hk<;>first|(split at hk<;>cases hk)|cases hk)
   subst hd;simp[execOp,ho,h1,h2,hguard];rw[← he];rcases hop with rfl|rfl
   ·simp[run_eql_bool w t _ _ hu]
   ·simp[run_neq_bool w t _ _ hu]
  | string =>
   cases ax<;>simp only[eqV,reduceCtorEq]at he<;>cases ay<;>simp only[reduceCtorEq,Option.some.injEq]at he;simp only[Rep]at h1 h2;simp[execOp,ho,h1,h2,hguard];rw[← he,beq_toListBytes];rcases hop with rfl|rfl<;>simp[binOp_string_eql,binOp_string_neq]
  | iface =>
   have hyc:=hc rfl;have hd:∃ ms,d=.interface ms:=by cases d<;>simp[hu]at hk<;>first|exact ⟨_,rfl⟩ | (split at hk<;>first|(split at hk<;>cases hk)|cases hk)
   obtain ⟨ms,rfl⟩:=hd;have hay:ay=.raw .nilIface:=(by rw[← hy,hyc];rfl);subst hay;have hyv:a.eval y=.nilIface:=(by rw[Rep]at h2;exact h2);have run:∀ u:Value,(u=.nilIface∧b=true)∨(∃ q r,u=.iface q r∧b=false)→a.eval x=u→(execOp a.eval o).run P w=.ok (.value (.bool (if (op == .neq)=true then !b else b))) w:=by
    intro u hu1 hxu;have heq:(Op.equal t u .nilIface).run P w=.ok b w:=by
     rcases hu1 with ⟨rfl,rfl⟩ | ⟨q,r,rfl,rfl⟩
     ·exact Zi8 9999 t hu
     ·exact Zii 9999 t q r hu
    have hb:=XA hop heq (by rcases hu1 with ⟨rfl,_⟩ | ⟨q,r,rfl,_⟩<;>simp) (by rcases hu1 with ⟨rfl,_⟩ | ⟨q,r,rfl,_⟩<;>simp) (by rcases hu1 with ⟨rfl,_⟩ | ⟨q,r,rfl,_⟩<;>simp) (by rcases hu1 with ⟨rfl,_⟩ | ⟨q,r,rfl,_⟩<;>simp) (by rcases hu1 with ⟨rfl,_⟩ | ⟨q,r,rfl,_⟩<;>simp);have hg:=hguard u .nilIface (fun _ _=>hyc) (by rcases hu1 with ⟨rfl,_⟩ | ⟨q,r,rfl,_⟩<;>simp);simp only[execOp,ho,hxu,hyv,Sem.run_bind,hg,Result.andThen_ok,hb,Sem.run_pure]
   cases ax<;>simp only[eqV,reduceCtorEq,Option.some.injEq]at he
   case raw v =>
    cases v<;>simp only[reduceCtorEq,Option.some.injEq]at he;exact run .nilIface (.inl ⟨rfl,he.symm⟩) (by rw[Rep]at h1;exact h1)
   case iface q v =>
    rw[Rep]at h1;obtain ⟨z,hz,_⟩:=h1;exact run _ (.inr ⟨q,z,rfl,he.symm⟩) hz
  | slice =>
   have hyv:a.eval y=.slice none 0 0:=(by rw[hcs rfl];rfl);have hd:∃ e,d=.slice e:=by cases d<;>simp[hu]at hk<;>first|exact ⟨_,rfl⟩ | (split at hk<;>first|(split at hk<;>cases hk)|cases hk)
   obtain ⟨e,rfl⟩:=hd;have run:∀ (q:Option Addr) (l c:Nat),a.eval x=.slice q l c→b=q.isNone→(execOp a.eval o).run P w=.ok (.value (.bool (if (op == .neq)=true then !b else b))) w:=by
    intro q l c hxq hbq;have heq:(Op.equal t (.slice q l c) (.slice none 0 0)).run P w=.ok b w:=by
     rw[hbq];exact ZiJ 9999 t q l c hu
    have hg:=hguard (.slice q l c) (.slice none 0 0) (by simp) (by simp);have hb:=XA hop heq (by simp) (by simp) (by simp) (by simp) (by simp);simp only[execOp,ho,hxq,hyv,Sem.run_bind,hg,Result.andThen_ok,hb,Sem.run_pure]
   cases ax<;>(try simp only[eqV,reduceCtorEq]at he)
   case raw v =>
    cases v<;>(try simp only[eqV,reduceCtorEq]at he);rename_i q l c;cases q<;>simp only[eqV,Option.some.injEq]at he
    ·exact run none l c (by rw[Rep]at h1;exact h1) he.symm
    ·exact run (some _) l c (by rw[Rep]at h1;exact h1) he.symm
   case sl z i n =>
    split at he
    ·rename_i hn
     simp only[Option.some.injEq]at he;rw[Rep]at h1;rcases h1 with ⟨_,_,h0,_⟩ | ⟨_,_,off,h1,_⟩
     ·omega
     ·exact run _ _ _ h1 he.symm
    ·cases he
  | func =>
   have hyv:a.eval y=.nilFunc:=(by rw[hcf rfl];rfl);have hd:∃ p q z,d=.func p q z:=by cases d<;>simp[hu]at hk<;>first|exact ⟨_,_,_,rfl⟩ | (split at hk<;>first|(split at hk<;>cases hk)|cases hk)
   obtain ⟨p,q,z,rfl⟩:=hd;have run:∀ u:Value,(u=.nilFunc∧b=true)∨(∃ f q r,u=.func f q r∧b=false)→a.eval x=u→(execOp a.eval o).run P w=.ok (.value (.bool (if (op == .neq)=true then !b else b))) w:=by
    intro u hu1 hxu;have heq:(Op.equal t u .nilFunc).run P w=.ok b w:=by
     rcases hu1 with ⟨rfl,rfl⟩ | ⟨f,q,r,rfl,rfl⟩
     ·exact ZiG 9999 t hu
     ·exact ZiS 9999 t f q r hu
    have hb:=XA hop heq (by rcases hu1 with ⟨rfl,_⟩ | ⟨f,q,r,rfl,_⟩<;>simp) (by rcases hu1 with ⟨rfl,_⟩ | ⟨f,q,r,rfl,_⟩<;>simp) (by rcases hu1 with ⟨rfl,_⟩ | ⟨f,q,r,rfl,_⟩<;>simp) (by rcases hu1 with ⟨rfl,_⟩ | ⟨f,q,r,rfl,_⟩<;>simp) (by rcases hu1 with ⟨rfl,_⟩ | ⟨f,q,r,rfl,_⟩<;>simp);have hg:=hguard u .nilFunc (by simp) (by rcases hu1 with ⟨rfl,_⟩ | ⟨f,q,r,rfl,_⟩<;>simp);simp only[execOp,ho,hxu,hyv,Sem.run_bind,hg,Result.andThen_ok,hb,Sem.run_pure]
   cases ax<;>(try simp only[eqV,reduceCtorEq]at he)
   case raw v =>
    cases v<;>(try simp only[eqV,reduceCtorEq]at he);simp only[Option.some.injEq]at he;exact run .nilFunc (.inl ⟨rfl,he.symm⟩) (by rw[Rep]at h1;exact h1)
   case fn f cap =>
    simp only[Option.some.injEq]at he;rw[Rep]at h1;obtain ⟨cs,h1,_⟩:=h1;exact run _ (.inr ⟨_,_,_,rfl,he.symm⟩) h1
  | ptr =>
   have hd:∃ e,d=.pointer e:=by cases d<;>simp[hu]at hk<;>first|exact ⟨_,rfl⟩ | (split at hk<;>first|(split at hk<;>cases hk)|cases hk)
   obtain ⟨e,rfl⟩:=hd;have run:∀ q:Option Addr,a.eval x=.pointer q→a.eval y=.pointer none→b=q.isNone→(execOp a.eval o).run P w=.ok (.value (.bool (if (op == .neq)=true then !b else b))) w:=by
    intro q hxq hyq hbq;have heq:(Op.equal t (.pointer q) (.pointer none)).run P w=.ok b w:=by
     rw[hbq];exact Zih 9999 t q hu
    have hg:=hguard (.pointer q) (.pointer none) (by simp) (by simp);have hb:(binOp op t (.pointer q) (.pointer none)).run P w=.ok (.bool (if (op == .neq)=true then !b else b)) w:=by
     rcases hop with rfl|rfl<;>simp[binOp,heq]
    simp only[execOp,ho,hxq,hyq,Sem.run_bind,hg,Result.andThen_ok,hb,Sem.run_pure]
   cases ax<;>simp only[eqV,reduceCtorEq]at he
   case raw v =>
    cases v<;>try simp only[reduceCtorEq]at he
    rename_i q;cases q<;>try simp only[reduceCtorEq]at he
    cases ay<;>try simp only[reduceCtorEq]at he
    rename_i v;cases v<;>try simp only[reduceCtorEq]at he
    rename_i q;cases q<;>simp only[reduceCtorEq,Option.some.injEq]at he;exact run none (by rw[Rep]at h1;exact h1) (by rw[Rep]at h2;exact h2) he.symm
   case ptr o1 i1 f1 =>
    cases ay<;>try simp only[reduceCtorEq]at he
    rename_i v;cases v<;>try simp only[reduceCtorEq]at he
    rename_i q;cases q<;>simp only[reduceCtorEq,Option.some.injEq]at he;rw[Rep]at h1;exact run _ h1.2 (by rw[Rep]at h2;exact h2) he.symm
  | flat ks =>
   cases ax<;>simp only[eqV,reduceCtorEq]at he<;>cases ay<;>simp only[reduceCtorEq]at he;rename_i l l';have hfl:Vs P 6 t=some ks∧P.eqGuardType P.depth t=false∧d.isRow=true:=by
    cases d<;>simp[hu]at hk
    all_goals
     cases hq:Vs P 6 t with
     | none=>simp[hq]at hk
     | some ks' =>
      simp[hq]at hk;exact ⟨by rw[hk.2],hk.1,rfl⟩
   obtain ⟨hfl,hgt,hrow⟩:=hfl;rw[Rep]at h1 h2;obtain ⟨us,hus,h1⟩:=h1;obtain ⟨vs,hvs,h2⟩:=h2;have lens:∀ (ks:List LK) (l l':List AV) (b:Bool),eqL ks l l'=some b→l.length=ks.length∧l'.length=ks.length:=by
    intro ks
    induction ks with
    | nil=>intro l l' b h;cases l<;>cases l'<;>simp[eqL]at h⊢
    | cons k ks ih =>
     intro l l' b h;cases l<;>cases l'<;>simp only[eqL,reduceCtorEq]at h;split at h
     ·rename_i h5;have:=ih _ _ _ h5;simp;omega
     ·cases h
   have ones:∀ (ks:List LK) (l l':List AV) (b:Bool),eqL ks l l'=some b→l.all AV.one=true∧l'.all AV.one=true:=by
    intro ks
    induction ks with
    | nil=>intro l l' b h;cases l<;>cases l'<;>simp[eqL]at h⊢
    | cons k ks ih =>
     intro l l' b h;cases l with
     | nil=>cases l'<;>simp[eqL]at h
     | cons p l =>
      cases l' with
      | nil=>simp[eqL]at h
      | cons q l' =>
       simp only[eqL]at h;split at h
       ·rename_i h4 h5
        have:=ih _ _ _ h5;simp only[List.all_cons,this.1,this.2,Bool.and_true];cases k<;>cases p<;>simp only[eq1,reduceCtorEq]at h4<;>cases q<;>simp only[reduceCtorEq]at h4<;>exact ⟨rfl,rfl⟩
       ·cases h
   have heq:=TS 6 9994 t ks hfl ρ l l' (.agg us) (.agg vs) b w h1 h2 (lens _ _ _ _ he).1 (lens _ _ _ _ he).2
    (by unfold XN;rw[hu];cases d<;>simp_all) (by unfold XN;rw[hu];cases d<;>simp_all) (h1.all_one (ones _ _ _ _ he).1) (h2.all_one (ones _ _ _ _ he).2) he
   have hb:(binOp op t (.agg us) (.agg vs)).run P w=.ok (.bool (if (op == .neq)=true then !b else b)) w :=
    XA hop heq (by simp) (by simp) (by simp) (by simp) (by simp)
   have hg:(eqGuard op t x y (.agg us) (.agg vs)).run P w=.ok () w:=run_eqGuard_agg w op t x y us vs hgt;simp only[execOp,ho,hus,hvs,Sem.run_bind,hg,Result.andThen_ok,hb,Sem.run_pure]
theorem xe (h:Sat w0 S Es U T H a w) {o:Oper} {F:Nm→Prop} (x:Operand) (t:TypeId) (ho:o.op=.call { callee:=.builtin .len,args:=#[x],argTypes:=#[t] }) {n:Int}
  (hx:(∃ z i m,(rX x).ev T=.sl z i m∧n=m∧∃ e,P.underlying t=some (.slice e))∨((rX x).ev T=.nsl∧n=0∧∃ e,P.underlying t=some (.slice e))∨(∃ s,(rX x).ev T=.str s∧n=s.size∧P.underlying t=some .string)) :
  Yu P w0 S Es H a w o ⟨.int .i64 n,[],[]⟩ F:=by
 refine Yu.pure h rfl fun ρ hρ=>⟨.int .i64 n,?_,by rw[Rep]⟩
 have h1:=h.ev hρ x
 rcases hx with ⟨z,i,m,hx,rfl,e,ht⟩ | ⟨hx,rfl,e,ht⟩ | ⟨s,hx,rfl,ht⟩
 ·rw[hx,Rep]at h1
  rcases h1 with ⟨_,_,rfl,ad,h1⟩ | ⟨_,_,off,h1,_⟩<;>simp[execOp,ho,resolve,invoke,builtin,Builtin.len_,h1,run_underlying ht,goInt]
 ·rw[hx,Rep]at h1
  obtain ⟨ad,h1⟩:=h1;simp[execOp,ho,resolve,invoke,builtin,Builtin.len_,h1,run_underlying ht,goInt]
 ·rw[hx,Rep]at h1
  simp[execOp,ho,resolve,invoke,builtin,Builtin.len_,h1,run_underlying ht,goInt]
theorem Zga (h:Sat w0 S Es U T H a w) {o:Oper} {F:Nm→Prop} (x:Operand) (t:TypeId) (ho:o.op=.call { callee:=.builtin .cap,args:=#[x],argTypes:=#[t] }) {e:TypeId} (he:P.underlying t=some (.slice e)) (hx:(rX x).ev T=.nsl) :
  Yu P w0 S Es H a w o ⟨.int .i64 0,[],[]⟩ F:=by
 refine Yu.pure h rfl fun ρ hρ=>⟨.int .i64 0,?_,by rw[Rep]⟩
 have h1:=h.ev hρ x
 rw[hx,Rep]at h1
 obtain ⟨ad,h1⟩:=h1
 simp[execOp,ho,resolve,invoke,builtin,Builtin.cap_,h1,run_underlying he,goInt]
theorem Ze6 (h:Sat w0 S Es U T H a w) {o:Oper} {F:Nm→Prop} (x y:Operand) (ts:Array TypeId) (ho:o.op=.call { callee:=.builtin .min,args:=#[x,y],argTypes:=ts }) {k:IntKind} {p q:Int} (hx:(rX x).ev T=.int k p) (hy:(rX y).ev T=.int k q) :
  Yu P w0 S Es H a w o ⟨.int k (if q<p then q else p),[],[]⟩ F:=by
 refine Yu.pure h rfl fun ρ hρ=>⟨.int k (if q<p then q else p),?_,by rw[Rep]⟩
 have h1:=h.ev hρ x
 have h2:=h.ev hρ y
 rw[hx,Rep]at h1
 rw[hy,Rep]at h2
 simp[execOp,ho,resolve,invoke,builtin,Builtin.min_,h1,h2,Builtin.min2]
theorem Zgg (h:Sat w0 S Es U T H a w) {o:Oper} {F:Nm→Prop} (x y:Operand) (ts:Array TypeId) (ho:o.op=.call { callee:=.builtin .max,args:=#[x,y],argTypes:=ts }) {k:IntKind} {p q:Int} (hx:(rX x).ev T=.int k p) (hy:(rX y).ev T=.int k q) :
  Yu P w0 S Es H a w o ⟨.int k (if p<q then q else p),[],[]⟩ F:=by
 refine Yu.pure h rfl fun ρ hρ=>⟨.int k (if p<q then q else p),?_,by rw[Rep]⟩
 have h1:=h.ev hρ x
 have h2:=h.ev hρ y
 rw[hx,Rep]at h1
 rw[hy,Rep]at h2
 simp[execOp,ho,resolve,invoke,builtin,Builtin.max_,h1,h2,Builtin.max2]
theorem ZcD {t:TypeId} {z:AV} (h:zero1 P t=some z):∃ zv,(∀ w:World,(zeroValue t).run P w=.ok zv w)∧∀ ρ,Rep ρ z zv:=by
 unfold zero1 at h;split at h
 ·rename_i i hi
  split at h
  ·rename_i zv hzv
   split at h
   ·injection h with h
    exact ⟨zv,fun w=>by simp[zeroValue,typeInfo,hi,hzv],fun ρ=>by rw[← h];exact xO ρ zv⟩
   ·cases h
  ·cases h
 ·cases h
theorem xo (h:Sat w0 S Es U T H a w) {o:Oper} {F:Nm→Prop} (x:Operand) (xt t:TypeId) (ok:Bool) (ho:o.op=.typeAssert x xt t ok) {d:TypeDesc} (ht:P.underlying t=some d) (hd:∀ m,d≠.interface m) {z:AV} (hz:zero1 P t=some z) {v:AV}
  (hx:(∃ q u,(rX x).ev T=.iface q u∧((q=t∧v=if ok=true then .tup [u,.bool true] else u)∨(q≠t∧ok=true∧v=.tup [z,.bool false])))∨((rX x).ev T=.raw .nilIface∧ok=true∧v=.tup [z,.bool false])) :
  Yu P w0 S Es H a w o ⟨v,[],[]⟩ F:=by
 obtain ⟨zv,hz1,hz2⟩:=ZcD hz
 refine Yu.pure h rfl fun ρ hρ=>?_
 have h1:=h.ev hρ x
 have htup:∀ (u:AV) (uv:Value) (b:Bool),Rep ρ u uv→Rep ρ (.tup [u,.bool b]) (.tuple #[uv,.bool b]):=fun u uv b hu=>by
  rw[Rep];exact ⟨_,rfl,uv,_,rfl,hu,.bool b,[],rfl,by rw[Rep],rfl⟩
 rcases hx with ⟨q,u,hx,hq⟩ | ⟨hx,rfl,rfl⟩
 ·rw[hx,Rep]at h1
  obtain ⟨uv,h1,hu⟩:=h1;rcases hq with ⟨rfl,rfl⟩ | ⟨hne,rfl,rfl⟩
  ·cases ok
   ·exact ⟨uv,by cases d<;>first|(exact absurd rfl (hd _))|simp[execOp,ho,h1,Instr.typeAssert,run_underlying ht],hu⟩
   ·exact ⟨.tuple #[uv,.bool true],by cases d<;>first|(exact absurd rfl (hd _))|simp[execOp,ho,h1,Instr.typeAssert,run_underlying ht],htup _ _ _ hu⟩
  ·exact ⟨.tuple #[zv,.bool false],by cases d<;>first|(exact absurd rfl (hd _))|simp[execOp,ho,h1,Instr.typeAssert,run_underlying ht,hne,hz1],htup _ _ _ (hz2 ρ)⟩
 ·rw[hx,Rep]at h1
  exact ⟨.tuple #[zv,.bool false],by cases d<;>first|(exact absurd rfl (hd _))|simp[execOp,ho,h1,Instr.typeAssert,run_underlying ht,hz1],htup _ _ _ (hz2 ρ)⟩
end
section
variable {P:Program} {w0:World} {S:Sc} {Es:Env→Prop} {U:Nm→Prop} {T:Nat→AV} {H:Nm→AObj} {a:Act} {w:World}
theorem Un (t e:TypeId) (ht:P.underlying t=some (.slice e)) {n:Nat} (hn:UG P e=some n) (ad:Option Addr) (len cap:Nat) (lo hi:Option Value) (l h:Int)
  (hlo:lo.elim (l=0) (fun v=>∃ k,v=.int k l)) (hhi:hi.elim (h=len) (fun v=>∃ k,v=.int k h)) (h0:0≤l) (h1:l≤h) (h2:h≤cap) :
  (Instr.sliceAt t (.slice ad len cap) lo hi none).run P w=.ok (.slice (if cap=l.toNat then ad else ad.map (·.add (l.toNat*n))) (h.toNat - l.toNat) (cap - l.toNat)) w:=by
 have he:P.elem t=e:=by simp[Program.elem,ht]
 have ht':P.underlying t=some (.slice (P.elem t)):=by rw[he];exact ht
 have hs:(sizeOf (P.elem t)).run P w=.ok n w:=by rw[he];exact YT hn
 rw[run_sliceAt_slice w t _ _ _ _ ht']
 cases lo with
 | none =>
  simp only[Option.elim]at hlo;subst hlo;cases hi with
  | none =>
   simp only[Option.elim]at hhi;subst hhi;rw[run_slice_all w t ad len cap ht',hs]
   rfl
  | some v =>
   obtain ⟨k,rfl⟩:=hhi;rw[run_slice_h w t ad len cap ht' k h (by omega) h2,hs]
   rfl
 | some u =>
  obtain ⟨k,rfl⟩:=hlo;cases hi with
  | none =>
   simp only[Option.elim]at hhi;subst hhi;rw[run_slice_l w t ad len cap ht' k l h0 h1,hs]
   rfl
  | some v =>
   obtain ⟨k',rfl⟩:=hhi;rw[run_slice_lh w t ad len cap ht' k k' l h h0 h1 h2,hs]
   rfl
theorem ZfQ (h:Sat w0 S Es U T H a w) {o:Oper} {F:Nm→Prop} (t:TypeId) (x:Operand) (lo hi:Option Operand) (ho:o.op=.slice t x lo hi none) {e:TypeId} (ht:P.underlying t=some (.slice e)) {n:Nat} (hn:UG P e=some n)
  {z:Nm} {s m:Nat} (hx:(rX x).ev T=.sl z s m) {kl kh:IntKind} {l hh:Int} (hl:(lo.map rX).elim (AV.int .i64 0) (X.ev T)=.int kl l) (hhi:(hi.map rX).elim (AV.int .i64 m) (X.ev T)=.int kh hh) (h0:0≤l) (h1:l≤hh) (h2:hh≤m) (hso:Zag (H z)=some n) :
  Yu P w0 S Es H a w o ⟨.sl z (s+l.toNat) (hh.toNat - l.toNat),[],[z]⟩ F:=by
 refine Yu.pure h rfl fun ρ hρ=>?_
 have hv:=h.ev hρ x
 rw[hx,Rep]at hv
 have q1:(lo.map a.eval).elim (l=0) (fun v=>∃ k,v=.int k l):=by
  cases lo with
  | none=>simp at hl⊢;exact hl.2.symm
  | some y=>have:=h.ev hρ y;simp at hl⊢;rw[hl,Rep]at this;exact ⟨_,this⟩
 have q2:∀ len:Nat,m=len→(hi.map a.eval).elim (hh=len) (fun v=>∃ k,v=.int k hh):=by
  intro len e;cases hi with
  | none=>simp at hhi⊢;omega
  | some y=>have:=h.ev hρ y;simp at hhi⊢;rw[hhi,Rep]at this;exact ⟨_,this⟩
 rcases hv with ⟨hnil,rfl,rfl,ad,hv⟩ | ⟨hnil,hle,off,hv,hoff⟩
 ·have:l=0:=by omega
  have:hh=0:=by omega
  subst l hh;have hr:=Un (w:=w) t e ht hn ad 0 0 _ _ 0 0 q1 (q2 0 rfl) (by omega) (by omega) (by omega);refine ⟨.slice ad 0 0,?_,by rw[Rep];exact .inl ⟨hnil,rfl,rfl,ad,rfl⟩⟩;simp[execOp,ho,hv,hr]
 ·have hz:=ZjV ((h.hp ρ hρ).obj z) hso hnil
  have hr:=Un (w:=w) t e ht hn (some ⟨(ρ z).blk,off,none⟩) m ((ρ z).cap - s) _ _ l hh q1 (q2 m rfl) h0 h1 (by omega);refine ⟨_,by simp[execOp,ho,hv,hr];rfl,?_⟩;rw[Rep];refine .inr ⟨hnil,by omega,if (ρ z).cap - s=l.toNat then off else off+l.toNat*n,?_,fun hlt=>?_⟩
  ·by_cases hc:(ρ z).cap - s=l.toNat
   ·rw[if_pos hc,if_pos hc];congr 1;omega
   ·rw[if_neg hc,if_neg hc]
    simp only[Addr.add_mid]
    congr 1;omega
  ·rw[if_neg (by omega),hoff (by omega),hz,Nat.add_mul];omega
theorem vB (h:Sat w0 S Es U T H a w) {o:Oper} {F:Nm→Prop} (t:TypeId) (x:Operand) (lo hi:Option Operand) (ho:o.op=.slice t x lo hi none) {e:TypeId} (ht:P.underlying t=some (.slice e)) {n:Nat} (hn:UG P e=some n)
  (hx:(rX x).ev T=.nsl) {kl kh:IntKind} (hl:(lo.map rX).elim (AV.int .i64 0) (X.ev T)=.int kl 0) (hhi:(hi.map rX).elim (AV.int .i64 0) (X.ev T)=.int kh 0) :
  Yu P w0 S Es H a w o ⟨.nsl,[],[]⟩ F:=by
 refine Yu.pure h rfl fun ρ hρ=>?_
 have hv:=h.ev hρ x
 rw[hx,Rep]at hv
 obtain ⟨ad,hv⟩:=hv
 have q1:(lo.map a.eval).elim ((0:Int)=0) (fun v=>∃ k,v=.int k 0):=by
  cases lo with
  | none=>simp
  | some y=>have:=h.ev hρ y;simp at hl⊢;rw[hl,Rep]at this;exact ⟨_,this⟩
 have q2:(hi.map a.eval).elim ((0:Int)=(0:Nat)) (fun v=>∃ k,v=.int k 0):=by
  cases hi with
  | none=>simp
  | some y=>have:=h.ev hρ y;simp at hhi⊢;rw[hhi,Rep]at this;exact ⟨_,this⟩
 have hr:=Un (w:=w) t e ht hn ad 0 0 _ _ 0 0 q1 q2 (by omega) (by omega) (by omega)
 exact ⟨.slice ad 0 0,by simp[execOp,ho,hv,hr],by rw[Rep];exact ⟨ad,rfl⟩⟩
def yE (w:World) (b off k:Nat):List Value:=(List.range k).map fun j=>(w.cell? ⟨b,off+j,none⟩).getD undef
theorem VP (w:World) (b off k:Nat):(yE w b off k).length=k:=by simp[yE]
theorem Za0 {b off k j:Nat} {u:Value} (h:(yE w b off k)[j]?=some u):j<k∧u=(w.cell? ⟨b,off+j,none⟩).getD undef:=by
 have hj:j<k:=by have:=(List.getElem?_eq_some_iff.1 h).1;simpa [yE] using this
 simp[yE,hj]at h;exact ⟨hj,h.symm⟩
theorem Zbo {ρ:Env} {L:Loc} {sz n:Nat} {f:Nat→List AV} (h:Reg ρ L sz n f w) {i m:Nat} (hm:i+m≤n):(∀ j u,(yE w L.blk (L.base+i*sz) (m*sz))[j]?=some u→w.cell? ⟨L.blk,L.base+i*sz+j,none⟩=some u) ∧
  (∀ u∈yE w L.blk (L.base+i*sz) (m*sz),u.oneCell'=true)∧∀ j,j<m→∀ (k:Nat) (v:AV),(f (i+j))[k]?=some v→∃ u,(yE w L.blk (L.base+i*sz) (m*sz))[j*sz+k]?=some u∧Rep ρ v u∧u.oneCell'=true:=by
 have key:∀ j,j<m→∀ (k:Nat),k<sz→∃ u,w.cell? ⟨L.blk,L.base+i*sz+(j*sz+k),none⟩=some u∧u.oneCell'=true∧∀ v,(f (i+j))[k]?=some v→Rep ρ v u:=by
  intro j hj k hk;have hl:=h.len (i+j) (by omega);obtain ⟨u,h1,h2,h3⟩:=h.cell (i+j) (by omega) k (f (i+j))[k] (List.getElem?_eq_getElem (by omega));refine ⟨u,?_,h3,fun v hv=>?_⟩
  ·rw[← h1,Nat.add_mul];congr 2;omega
  ·rw[List.getElem?_eq_getElem (by omega)]at hv;injection hv with hv;rw[← hv];exact h2
 have key2:∀ j,j<m*sz→∃ u,w.cell? ⟨L.blk,L.base+i*sz+j,none⟩=some u∧u.oneCell'=true:=by
  intro j hj;have hs:0<sz:=Nat.pos_of_ne_zero fun e=>by subst e;simp at hj
  have h1:j / sz<m:=(Nat.div_lt_iff_lt_mul hs).2 hj;obtain ⟨u,h2,h3,_⟩:=key (j / sz) h1 (j % sz) (Nat.mod_lt _ hs);rw[Nat.div_add_mod' j sz]at h2;exact ⟨u,h2,h3⟩
 refine ⟨fun j u hu=>?_,fun u hu=>?_,fun j hj k v hv=>?_⟩
 ·obtain ⟨hj,rfl⟩:=Za0 hu
  obtain ⟨u,h1,_⟩:=key2 j hj;rw[h1];rfl
 ·obtain ⟨j,hj0⟩:=List.mem_iff_getElem?.1 hu
  obtain ⟨hj,rfl⟩:=Za0 hj0;obtain ⟨u,h1,h2⟩:=key2 j hj;rw[h1];exact h2
 ·have hl:=h.len (i+j) (by omega)
  have hk:k<sz:=by have:=(List.getElem?_eq_some_iff.1 hv).1;omega
  obtain ⟨u,h1,h2,h3⟩:=key j hj k hk;have hlt:j*sz+k<m*sz:=by
   have:(j+1)*sz≤m*sz:=Nat.mul_le_mul_right _ hj;rw[Nat.add_mul]at this;omega
  exact ⟨u,by simp[yE,hlt,h1],h3 v hv,h2⟩
theorem Zae (w:World) {sz:Nat} {tx e':TypeId} (ht:P.underlying tx=some (.slice e')) (ad:Option Addr):Src P sz tx (.slice ad 0 0) 0 [] w:=by
 cases ad with
 | none=>exact Src.ofNil w ht 0
 | some b=>exact Src.ofSlice w ht _ 0 _ [] (by simp) (by simp) (by simp)
theorem yJ {H:Nm→AObj} {v:Value} {n' sz:Nat} {g:Nat→List AV} {rd:List Nm} (h:Vj H (.raw v)=some (n',g,rd,sz)):∃ ad c,v=.slice (some ad) 0 c∧n'=0:=by
 cases v with
 | slice a l c =>
  cases a with
  | none=>simp[Vj]at h
  | some ad=>cases l with
   | zero=>simp only[Vj,Option.some.injEq,Prod.mk.injEq]at h;exact ⟨ad,c,rfl,h.1.symm⟩
   | succ l=>simp[Vj]at h
 | _=>simp[Vj]at h
theorem ZgR (h:Sat w0 S Es U T H a w) {y:Operand} {n' sz' sz:Nat} {g:Nat→List AV} {rd:List Nm} (hy:Vj H ((rX y).ev T)=some (n',g,rd,sz')) (hsz:n'=0∨sz'=sz) {tx e':TypeId} (ht:P.underlying tx=some (.slice e')) :
  ∃ news,Src P sz tx (a.eval y) n' news w∧∀ ρ,Es ρ→∀ j,j<n'→(g j).length=sz∧∀ (k:Nat) (v:AV),(g j)[k]?=some v→∃ u,news[j*sz+k]?=some u∧Rep ρ v u∧u.oneCell'=true:=by
 obtain ⟨ρ0,h0⟩:=h.ne
 have pt:∀ ρ,Es ρ→∃ news,Src P sz tx (a.eval y) n' news w∧(∀ j,j<n'→(g j).length=sz∧∀ (k:Nat) (v:AV),(g j)[k]?=some v→∃ u,news[j*sz+k]?=some u∧Rep ρ v u∧u.oneCell'=true) ∧
   ∀ b off n c,a.eval y=.slice (some ⟨b,off,none⟩) n c→news=yE w b off (n'*sz):=by
  intro ρ hρ
  have h1:=h.ev hρ y
  revert hy
  generalize (rX y).ev T=ay at h1
  intro hy
  cases ay<;>(try simp only[Vj,reduceCtorEq]at hy)
  case raw v =>
   obtain ⟨ad,c,rfl,rfl⟩:=yJ hy;rw[Rep]at h1;rw[h1];exact ⟨[],Src.ofSlice w ht _ 0 _ [] (by simp) (by simp) (by simp),fun j hj=>by omega,fun b off n c e=>by simp[yE]⟩
  case nsl =>
   simp only[Option.some.injEq,Prod.mk.injEq]at hy;obtain ⟨rfl,rfl,rfl,rfl⟩:=hy;rw[Rep]at h1;obtain ⟨ad,h1⟩:=h1;rw[h1];exact ⟨[],Zae w ht ad,fun j hj=>by omega,fun b off n c e=>by simp[yE]⟩
  case sl z i n =>
   have reg:∀ {szo m:Nat} {f:Nat→List AV},((ρ z).nil=true∧m=0∨Reg ρ (ρ z) szo m f w)→i+n≤m→n'=n→(g=fun j=>f (i+j))→sz'=szo→∃ news,Src P sz tx (a.eval y) n' news w∧(∀ j,j<n'→(g j).length=sz∧∀ (k:Nat) (v:AV),(g j)[k]?=some v→∃ u,news[j*sz+k]?=some u∧Rep ρ v u∧u.oneCell'=true) ∧
     ∀ b off n c,a.eval y=.slice (some ⟨b,off,none⟩) n c→news=yE w b off (n'*sz):=by
    intro szo m f hr hle hn hg hs
    subst hn hg hs
    rw[Rep]at h1
    rcases h1 with ⟨hnil,rfl,rfl,ad,h1⟩ | ⟨hnil,hcap,off,h1,hoff⟩
    ·rw[h1]
     exact ⟨[],Zae w ht ad,fun j hj=>by omega,fun b off n c e=>by simp[yE]⟩
    ·rw[h1]
     rcases hr with ⟨hnil',_⟩ | hr
     ·rw[hnil]at hnil';cases hnil'
     by_cases hn0:n'=0
     ·subst hn0
      refine ⟨[],Src.ofSlice w ht _ 0 _ [] (by simp) (by simp) (by simp),fun j hj=>by omega,fun b off n c e=>by simp[yE]⟩
     ·have hse:sz'=sz:=hsz.resolve_left hn0
      subst hse;have hc:=hr.cap;have ho:=hoff (by omega);rw[hr.esz]at ho;obtain ⟨r1,r2,r3⟩:=Zbo hr hle;refine ⟨yE w (ρ z).blk ((ρ z).base+i*sz') (n'*sz'),Src.ofSlice w ht _ n' _ _ (VP _ _ _ _) (fun j u hu=>?_) r2,fun j hj=>⟨hr.len _ (by omega),fun k v hv=>r3 j hj k v hv⟩,fun b off' n c e=>?_⟩
      ·rw[Addr.add_mid,ho];exact r1 j u hu
      ·simp only[Value.slice.injEq,Option.some.injEq,Addr.mk.injEq,and_true]at e
       rw[← e.1.1,← e.1.2,ho]
   have hob:=(h.hp ρ hρ).obj z;cases hz:H z<;>rw[hz]at hy hob<;>simp only[reduceCtorEq]at hy
   case arr szo m f =>
    split at hy
    ·rename_i hle
     simp only[Option.some.injEq,Prod.mk.injEq]at hy;exact reg (hob.imp id (·.1)) hle hy.1.symm hy.2.1.symm hy.2.2.2.symm
    ·cases hy
   case view szo m f =>
    split at hy
    ·rename_i hle
     simp only[Option.some.injEq,Prod.mk.injEq]at hy;exact reg hob hle hy.1.symm hy.2.1.symm hy.2.2.2.symm
    ·cases hy
 obtain ⟨news,s1,s2,s3⟩:=pt ρ0 h0
 refine ⟨news,s1,fun ρ hρ=>?_⟩
 obtain ⟨news',t1,t2,t3⟩:=pt ρ hρ
 by_cases hn0:n'=0
 ·intro j hj;omega
 ·have hsl:∃ b off n c,a.eval y=.slice (some ⟨b,off,none⟩) n c:=by
   have h1:=h.ev h0 y;cases hay:(rX y).ev T<;>rw[hay]at hy h1<;>(try simp only[Vj,reduceCtorEq]at hy)
   case raw v =>
    obtain ⟨ad,c,rfl,e0⟩:=yJ hy;exact absurd e0 hn0
   case nsl=>simp only[Option.some.injEq,Prod.mk.injEq]at hy;exact absurd hy.1.symm hn0
   case sl z i n =>
    rw[Rep]at h1;rcases h1 with ⟨_,rfl,rfl,ad,h1⟩ | ⟨_,_,off,h1,_⟩
    ·exfalso
     cases hz:H z<;>rw[hz]at hy<;>simp only[reduceCtorEq]at hy
     all_goals
      split at hy
      ·simp only[Option.some.injEq,Prod.mk.injEq]at hy;exact hn0 hy.1.symm
      ·cases hy
    ·exact ⟨_,_,_,_,h1⟩
  obtain ⟨b,off,n,c,e⟩:=hsl;rw[s3 b off n c e,← t3 b off n c e];exact t2
end
end Go.W
