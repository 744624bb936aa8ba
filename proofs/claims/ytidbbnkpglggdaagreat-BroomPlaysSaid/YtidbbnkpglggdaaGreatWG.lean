/- Append, make, literals. -/
import Derived.Test.YtidbbnkpglggdaaGreatWF
namespace Go.W
set_option linter.unusedSimpArgs false
set_option linter.unusedVariables false
section
variable {P:Program} {w0:World} {S:Sc} {Es:Env→Prop} {U:Nm→Prop} {T:Nat→AV} {H:Nm→AObj} {a:Act} {w:World}
def Zbp (ρ:Env) (sz n:Nat) (g:Nat→List AV) (cs:List Value):Prop :=
 ∀ j,j<n→(g j).length=sz∧∀ (k:Nat) (v:AV),(g j)[k]?=some v→∃ u,cs[j*sz+k]?=some u∧Rep ρ v u∧u.oneCell'=true
theorem Zbp.append {ρ:Env} {sz n n':Nat} {f g:Nat→List AV} {cs ds:List Value} (h:Zbp ρ sz n f cs) (h':Zbp ρ sz n' g ds) (hl:cs.length=n*sz):Zbp ρ sz (n+n') (Zbu n f g) (cs++ds):=fun j hj=>by
 unfold Zbu;by_cases hjn:j<n
 ·simp only[hjn,if_true]
  obtain ⟨h1,h2⟩:=h j hjn;refine ⟨h1,fun k v hv=>?_⟩;obtain ⟨u,hu,hr⟩:=h2 k v hv;exact ⟨u,by rw[List.getElem?_append_left (List.getElem?_eq_some_iff.1 hu).1];exact hu,hr⟩
 ·simp only[hjn,if_false]
  obtain ⟨h1,h2⟩:=h' (j - n) (by omega);refine ⟨h1,fun k v hv=>?_⟩;obtain ⟨u,hu,hr⟩:=h2 k v hv;have e:n*sz≤j*sz:=Nat.mul_le_mul_right _ (by omega);refine ⟨u,?_,hr⟩;rw[List.getElem?_append_right (by omega),hl,← hu]
  congr 1
  rw[Nat.sub_mul];omega
theorem Zbp.more {ρ:Env} {sz n:Nat} {f:Nat→List AV} {cs ds:List Value} (h:Zbp ρ sz n f cs):Zbp ρ sz n f (cs++ds):=fun j hj=>by
 obtain ⟨h1,h2⟩:=h j hj;refine ⟨h1,fun k v hv=>?_⟩;obtain ⟨u,hu,hr⟩:=h2 k v hv;exact ⟨u,by rw[List.getElem?_append_left (List.getElem?_eq_some_iff.1 hu).1];exact hu,hr⟩
theorem Vy {ρ:Env} (h:HCore w0 S ρ H w) {x:Nm} {sz n cap:Nat} {f:Nat→List AV} {cs:Array Value} (t:TypeId) (hl:Zbp ρ sz n f cs.toList) (hsz:cs.size=cap*sz) (hn:n≤cap) (hx:H x=.free) (hL:ρ x=⟨w.heap.size,0,sz,cap,false⟩) :
  HCore w0 S ρ (upd H x (.arr sz n f)) (w.alloc (.cells cs t)):=by
 refine h.alloc hx (by rw[hL]) (by rw[hL];rfl) (.inr ⟨⟨by rw[hL],by rw[hL],by rw[hL];exact hn,fun i hi=>(hl i hi).1,fun i hi j v hv=>?_⟩,fun k hk=>?_⟩)
 ·obtain ⟨u,hu,hr,h1⟩:=(hl i hi).2 j v hv
  refine ⟨u,?_,hr,h1⟩;rw[hL];simp only[Nat.zero_add];rw[World.cell?_alloc_new,← Array.getElem?_toList];exact hu
 ·rw[hL]at hk⊢
  replace hk:k<cap*sz:=hk;simp only[Nat.zero_add];rw[World.cell?_alloc_new,World.frozen?_alloc_new];exact ⟨by simp[Array.getElem?_eq_getElem (show k<cs.size by omega)],rfl⟩
theorem YS (need old:Nat) (e:TypeId):need≤grownCap w need old e:=by
 unfold grownCap Question.cut;exact Nat.le_add_right _ _
theorem Zi3 (x:Nm) (o o':AObj):upd (upd H x o) x o'=upd H x o':=by
 funext y
 simp only[UA];split<;>rfl
section
variable {o:Oper} {F:Nm→Prop} {nb:Nm} {x y:Operand} {t t' e e':TypeId} {i:TypeInfo} {z:List AV} {n' sz':Nat} {g:Nat→List AV} {rd:List Nm}
theorem Y1 (w:World) (size:Nat) (ad:Option Addr):(Builtin.firstCells size 0 (.slice ad 0 0)).run P w=.ok #[] w:=by
 cases ad with
 | none=>exact run_firstCells_none _ _ _ _ _
 | some b=>exact run_firstCells_some w size 0 b 0 0 [] (by simp) (by simp)
theorem xq (news olds:List Value) (base:Option Addr) (n sCap:Nat) (ho:o.op=.call { callee:=.builtin .append,args:=#[x,y],argTypes:=#[t,t'] }) (ht:P.underlying t=some (.slice e)) (hi:P.info? e=some i) (hz:YJ P e=some z)
  (hsrc:Src P i.size t' (a.eval y) n' news w) (hold:(Builtin.firstCells i.size n (.slice base n sCap)).run P w.drew=.ok olds.toArray w.drew) (hx:a.eval x=.slice base n sCap) (hg:sCap<n+n') (h63:n+n'≤9223372036854775807) (hby:(n+n')*i.bytes≤140737488355328) :
  ∃ cs:Array Value,(execOp a.eval o).run P w=.ok (.value (.slice (some ⟨w.heap.size,0,none⟩) (n+n') (grownCap w (n+n') sCap e))) (w.drew.alloc (.cells cs e))∧(∃ r,cs.toList=(olds++news)++r)∧(z.length=i.size→olds.length=n*i.size→cs.size=grownCap w (n+n') sCap e*i.size):=by
 obtain ⟨zv,hzv,hzz⟩:∃ zv,i.zero=some zv∧z.length=zv.cells.size:=by
  unfold YJ at hz;rw[hi]at hz;simp only at hz;split at hz
  ·rename_i zv hzv
   split at hz
   ·injection hz with hz
    exact ⟨zv,hzv,by rw[← hz];simp⟩
   ·cases hz
  ·cases hz
 have hr:=run_append_grow_src (P:=P) w t t' o.type e i zv ht hi hzv base n sCap olds hold (a.eval y) n' news hsrc hg (by omega) (growslice_fits hg hby)
 refine ⟨(olds++news).toArray++Builtin.zeroCells zv.cells (grownCap w (n+n') sCap e - (n+n')),?_,⟨_,by rw[Array.toList_append]⟩,fun h1 h2=>?_⟩
 ·simp[execOp,ho,resolve,invoke,builtin,hx,hr]
 ·have h3:=hsrc.newsLen
  have h4:=YS (w:=w) (n+n') sCap e;rw[Array.size_append,size_zeroCells,List.size_toArray,List.length_append,h2,h3,← hzz,h1,← Nat.add_mul,← Nat.add_mul]
  congr 1
  omega
theorem vn (h:Sat w0 S Es U T H a w) (ho:o.op=.call { callee:=.builtin .append,args:=#[x,y],argTypes:=#[t,t'] }) (ht:P.underlying t=some (.slice e)) (ht':P.underlying t'=some (.slice e')) (hi:P.info? e=some i) (hz:YJ P e=some z) (hzl:z.length=i.size)
  (hF:F nb) (hU:U nb) (hy:Vj H ((rX y).ev T)=some (n',g,rd,sz')) (hsz:n'=0∨sz'=i.size) (hx:(rX x).ev T=.nsl) (hby:n'*i.bytes≤140737488355328) (h63:n'≤9223372036854775807) :
  Yu P w0 S Es H a w o ⟨.sl nb 0 n',[(nb,.arr i.size n' g)],rd⟩ F:=by
 obtain ⟨news,hsrc,hnews⟩:=ZgR h hy hsz ht'
 obtain ⟨ρ0,h0⟩:=h.ne
 obtain ⟨ad,hxv⟩:∃ ad,a.eval x=.slice ad 0 0:=by have:=h.ev h0 x;rw[hx,Rep]at this;exact this
 by_cases hn:n'=0
 ·subst hn
  have hnw:news=[]:=by have:=hsrc.newsLen;simpa using this
  subst hnw;have hr:=run_append_nothing (P:=P) w t t' o.type e i ht hi ad 0 0 (Nat.le_refl _) (a.eval y) hsrc;refine ⟨w,fun _=>⟨0,0,i.size,0,true⟩,.value (.slice ad 0 0),by simp[execOp,ho,resolve,invoke,builtin,hxv,hr],.inl ⟨_,rfl,fun ρ hρ hg=>?_⟩,fun ρ hρ hg=>?_⟩
  ·have:=hg nb hF
   rw[Rep];exact .inl ⟨by rw[this],rfl,rfl,ad,rfl⟩
  ·have:=hg nb hF
   exact (h.hp ρ hρ).put (by rw[this];simp[ZF]) (by simp[Yl]) (.inl ⟨by rw[this],rfl⟩)
 ·obtain ⟨cs,hr,⟨r,hcs⟩,hsize⟩:=xq (w:=w) news [] ad 0 0 ho ht hi hz hsrc (Y1 _ _ _) hxv (by omega) (by omega) (by simpa using hby)
  rw[Nat.zero_add]at hr hsize;refine ⟨_,fun _=>⟨w.heap.size,0,i.size,grownCap w n' 0 e,false⟩,_,hr,.inl ⟨_,rfl,fun ρ hρ hg=>?_⟩,fun ρ hρ hg=>?_⟩
  ·have:=hg nb hF
   rw[Rep];refine .inr ⟨by rw[this],by rw[this];have:=YS (w:=w) n' 0 e;simpa using this,0,by rw[this];simp,fun _=>by rw[this];simp⟩
  ·have hL:=hg nb hF
   refine Vy (h.hp ρ hρ).drew e ?_ (hsize hzl (by simp)) (YS _ _ _) (h.fr nb hU) hL;rw[hcs,List.nil_append];exact Zbp.more (hnews ρ hρ)
theorem z7 (w:World) {t tx ty e:TypeId} {i:TypeInfo} {zv:Value} {k:IntKind} (ht:P.underlying t=some (.slice e)) (htx:P.underlying tx=some (.int k)) (hi:P.info? e=some i) (hz:i.zero=some zv) (hs:0<i.size) (ad:Option Addr) {n:Nat} (hn:0<n) (h63:n≤9223372036854775807) (hby:n*i.bytes≤140737488355328) :
  (Builtin.append_ #[t,tx] ty #[.slice ad 0 0,.int .i64 n]).run P w=.ok (.slice (some ⟨w.heap.size,0,none⟩) n (grownCap w n 0 e)) (w.drew.alloc (.cells (Builtin.zeroCells zv.cells n++Builtin.zeroCells zv.cells (grownCap w n 0 e - n)) e)):=by
 have hfit:=growslice_fits (need:=n) (old:=0) (bytes:=i.bytes) hn hby
 have hw:IntKind.wrap .i64 (n:Int)=(n:Int):=by
  have e:(n:Int) % 2 ^ 64=n:=by omega
  simp only[IntKind.wrap,IntKind.bits,IntKind.signed,e];rw[if_neg];simp;omega
 have h48:¬ (281474976710656<Builtin.nextslicecap n 0*i.bytes):=by omega
 have h1:¬ ((281474976710656:Int)<(n:Int)*(i.bytes:Int)):=by
  omega
 have h2:¬ ((n:Int)<0):=by omega
 have h3:¬ (n=0):=by omega
 have h4:¬ (i.size=0):=by omega
 have h5:¬ (9223372036854775807<(n:Int)):=by omega
 have h6:¬ (n*i.size=0):=by
  have:=Nat.mul_pos hn hs;omega
 have hold:=Y1 (P:=P) w.drew i.size ad
 simp[Builtin.append_,run_underlying ht,run_underlying htx,sizeOf,typeInfo,zeroValue,hi,hz,asInt,asIntOf,hw,h6,h1,h2,h3,h4,h5,h48,Question.forced,hold,newRow,grownCap]
theorem ZcB (h:Sat w0 S Es U T H a w) (ho:o.op=.call { callee:=.builtin .append,args:=#[x,y],argTypes:=#[t,t'] }) (ht:P.underlying t=some (.slice e)) {k:IntKind} (ht':P.underlying t'=some (.int k)) (hi:P.info? e=some i) (hz:YJ P e=some z) (hzl:z.length=i.size) (hs0:0<i.size)
  (hF:F nb) (hU:U nb) {n:Int} (hx:(rX x).ev T=.nsl) (hy:(rX y).ev T=.int .i64 n) (hn:0<n) (hby:n*i.bytes≤140737488355328) (h63:n≤9223372036854775807) :
  Yu P w0 S Es H a w o ⟨.sl nb 0 n.toNat,[(nb,.arr i.size 0 (fun _=>[]))],[]⟩ F:=by
 obtain ⟨m,rfl⟩:∃ m:Nat,n=(m:Int):=⟨n.toNat,by omega⟩
 have hby':m*i.bytes≤140737488355328:=by omega
 obtain ⟨ρ0,h0⟩:=h.ne
 obtain ⟨ad,hxv⟩:∃ ad,a.eval x=.slice ad 0 0:=by have:=h.ev h0 x;rw[hx,Rep]at this;exact this
 have hyv:a.eval y=.int .i64 m:=by have:=h.ev h0 y;rw[hy,Rep]at this;exact this
 obtain ⟨zv,hzv,hzz⟩:∃ zv,i.zero=some zv∧z.length=zv.cells.size:=by
  unfold YJ at hz;rw[hi]at hz;simp only at hz;split at hz
  ·rename_i zv hzv
   split at hz
   ·injection hz with hz
    exact ⟨zv,hzv,by rw[← hz];simp⟩
   ·cases hz
  ·cases hz
 have hr:=z7 (P:=P) w (ty:=o.type) ht ht' hi hzv hs0 ad (n:=m) (by omega) (by omega) hby'
 have hrun:(execOp a.eval o).run P w=.ok (.value (.slice (some ⟨w.heap.size,0,none⟩) m (grownCap w m 0 e))) (w.drew.alloc (.cells (Builtin.zeroCells zv.cells m++Builtin.zeroCells zv.cells (grownCap w m 0 e - m)) e)):=by
  simp[execOp,ho,resolve,invoke,builtin,hxv,hyv,hr]
 have hcap:=YS (w:=w) m 0 e
 refine ⟨_,fun _=>⟨w.heap.size,0,i.size,grownCap w m 0 e,false⟩,_,hrun,.inl ⟨_,rfl,fun ρ hρ hg=>?_⟩,fun ρ hρ hg=>?_⟩
 ·have:=hg nb hF
  rw[Rep];exact .inr ⟨by rw[this],by rw[this];simpa using hcap,0,by rw[this];simp,fun _=>by rw[this];simp⟩
 ·have hL:=hg nb hF
  refine Vy (h.hp ρ hρ).drew e (fun j hj=>by omega) ?_ (Nat.zero_le _) (h.fr nb hU) hL;rw[Array.size_append,size_zeroCells,size_zeroCells,← hzz,hzl,← Nat.add_mul]
  congr 1
  omega
theorem Ze7 (h:Sat w0 S Es U T H a w) (ho:o.op=.call { callee:=.builtin .append,args:=#[x,y],argTypes:=#[t,t'] }) (ht:P.underlying t=some (.slice e)) (ht':P.underlying t'=some (.slice e')) (hi:P.info? e=some i) (hz:YJ P e=some z) (hzl:z.length=i.size)
  (hF:F nb) (hU:U nb) (hy:Vj H ((rX y).ev T)=some (n',g,rd,sz')) (hsz:n'=0∨sz'=i.size) {zo:Nm} {s n m:Nat} {f:Nat→List AV} (hx:(rX x).ev T=.sl zo s n) (hzo:H zo=.arr i.size m f) (hsm:s+n=m)
  (hby:(n+n')*i.bytes≤140737488355328) (h63:n+n'≤9223372036854775807) :
  Yu P w0 S Es H a w o ⟨.sl nb 0 (n+n'),[(zo,.free),(nb,.arr i.size (n+n') (Zbu n (fun j=>f (s+j)) g))],rd⟩ F:=by
 obtain ⟨news,hsrc,hnews⟩:=ZgR h hy hsz ht'
 obtain ⟨ρ0,h0⟩:=h.ne
 have hne:nb≠zo:=fun e=>by have:=h.fr nb hU;rw[e,hzo]at this;cases this
 have hfr:upd H zo .free nb=.free:=by rw[Zn _ _ hne];exact h.fr nb hU
 have hx0:=h.ev h0 x
 rw[hx,Rep]at hx0
 rcases hx0 with ⟨hnil,hs0,hn0,ad,hxv⟩ | ⟨hnil,hcap,off,hxv,hoff⟩
 ·
  subst hs0 hn0
  have hnil':∀ ρ,Es ρ→(ρ zo).nil=true:=fun ρ hρ=>by
   rw[h.pin ρ ρ0 hρ h0 zo (by rw[hzo];simp)];exact hnil
  have hap:Zbu 0 (fun j=>f (0+j)) g=g:=by funext j;simp[Zbu]
  rw[hap]
  simp only[Nat.zero_add]at hby h63⊢
  by_cases hn:n'=0
  ·subst hn
   have hnw:news=[]:=(by have:=hsrc.newsLen;simpa using this);subst hnw;have hr:=run_append_nothing (P:=P) w t t' o.type e i ht hi ad 0 0 (Nat.le_refl _) (a.eval y) hsrc;refine ⟨w,fun _=>⟨0,0,i.size,0,true⟩,.value (.slice ad 0 0),by simp[execOp,ho,resolve,invoke,builtin,hxv,hr],.inl ⟨_,rfl,fun ρ hρ hg=>?_⟩,fun ρ hρ hg=>?_⟩
   ·have:=hg nb hF
    rw[Rep];exact .inl ⟨by rw[this],rfl,rfl,ad,rfl⟩
   ·have:=hg nb hF
    exact ((h.hp ρ hρ).drop zo).put (by rw[this];simp[ZF]) (by simp[Yl]) (.inl ⟨by rw[this],rfl⟩)
  ·obtain ⟨cs,hr,⟨r,hcs⟩,hsize⟩:=xq (w:=w) news [] ad 0 0 ho ht hi hz hsrc (Y1 _ _ _) hxv (by omega) (by omega) (by simpa using hby)
   rw[Nat.zero_add]at hr hsize;refine ⟨_,fun _=>⟨w.heap.size,0,i.size,grownCap w n' 0 e,false⟩,_,hr,.inl ⟨_,rfl,fun ρ hρ hg=>?_⟩,fun ρ hρ hg=>?_⟩
   ·have:=hg nb hF
    rw[Rep];refine .inr ⟨by rw[this],by rw[this];have:=YS (w:=w) n' 0 e;simpa using this,0,by rw[this];simp,fun _=>by rw[this];simp⟩
   ·have hL:=hg nb hF
    refine Vy ((h.hp ρ hρ).drop zo).drew e ?_ (hsize hzl (by simp)) (YS _ _ _) hfr hL;rw[hcs,List.nil_append];exact Zbp.more (hnews ρ hρ)
 ·
  have all:∀ ρ,Es ρ→(ρ zo).nil=false∧(ρ zo).blk=(ρ0 zo).blk∧(ρ zo).cap - s=(ρ0 zo).cap - s∧s+n≤(ρ zo).cap∧(s<(ρ zo).cap→off=(ρ zo).base+s*i.size)∧Reg ρ (ρ zo) i.size m f w∧ZeI (ρ zo) i.size w:=fun ρ hρ=>by
   have:=h.ev hρ x;rw[hx,Rep]at this;have hob:=(h.hp ρ hρ).obj zo;rw[hzo]at hob;rcases this with ⟨h1,_,_,h1'⟩ | ⟨h1,h2,off',h3,h4⟩
   ·rw[h.pin ρ ρ0 hρ h0 zo (by rw[hzo];simp),hnil]at h1;cases h1
   ·rw[hxv]at h3
    simp only[Value.slice.injEq,Option.some.injEq,Addr.mk.injEq,and_true,true_and]at h3;rcases hob with ⟨h5,_⟩ | ⟨h5,h6⟩
    ·rw[h1]at h5;cases h5
    ·exact ⟨h1,h3.1.1.symm,h3.2.symm,h2,fun hlt=>by rw[h3.1.2,h4 hlt,h5.esz],h5,h6⟩
  have olds:∀ ρ,Es ρ→Zbp ρ i.size n (fun j=>f (s+j)) (yE w (ρ0 zo).blk off (n*i.size))∧∀ j u,(yE w (ρ0 zo).blk off (n*i.size))[j]?=some u→w.cell? ⟨(ρ0 zo).blk,off+j,none⟩=some u:=fun ρ hρ=>by
   obtain ⟨a1,a2,a3,a4,a5,a6,a7⟩:=all ρ hρ;by_cases hn:n=0
   ·subst hn;exact ⟨fun j hj=>by omega,fun j u hu=>by simp[yE]at hu⟩
   ·have ho':=a5 (by omega)
    obtain ⟨r1,r2,r3⟩:=Zbo a6 (show s+n≤m by omega);rw[a2,← ho']at r1 r3;exact ⟨fun j hj=>⟨a6.len _ (by omega),r3 j hj⟩,r1⟩
  by_cases hroom:n+n'≤(ρ0 zo).cap - s
  ·
   have there:∀ ρ,Es ρ→∀ k,k<((ρ0 zo).cap - s)*i.size→(w.cell? ⟨(ρ0 zo).blk,off+k,none⟩).isSome=true∧w.frozen? ⟨(ρ0 zo).blk,off+k,none⟩=false:=fun ρ hρ k hk=>by
    obtain ⟨a1,a2,a3,a4,a5,a6,a7⟩:=all ρ hρ;have hlt:s<(ρ zo).cap:=by
     rcases Nat.lt_or_ge s (ρ zo).cap with h|h
     ·exact h
     ·have:(ρ0 zo).cap - s=0:=by omega
      rw[this]at hk;simp at hk
    rw[a5 hlt,← a2,Nat.add_assoc];refine a7 (s*i.size+k) ?_;rw[← a3]at hk;have:(ρ zo).cap*i.size=s*i.size+((ρ zo).cap - s)*i.size:=(by rw[← Nat.add_mul];congr 1;omega);omega
   have hnl:=hsrc.newsLen
   have hfit:n*i.size+news.length≤((ρ0 zo).cap - s)*i.size:=by rw[hnl,← Nat.add_mul];exact Nat.mul_le_mul_right _ hroom
   have hr:=run_append_room_src (P:=P) w t t' o.type e i ht hi (ρ0 zo).blk off n ((ρ0 zo).cap - s) (a.eval y) n' news hsrc hroom
    (fun j hj=>by have:=(there ρ0 h0 (n*i.size+j) (by omega)).1;rwa [Nat.add_assoc]) (fun j hj=>by have:=(there ρ0 h0 (n*i.size+j) (by omega)).2;rwa [Nat.add_assoc])
   refine ⟨w.setCells (ρ0 zo).blk (off+n*i.size) news,fun _=>⟨(ρ0 zo).blk,off,i.size,(ρ0 zo).cap - s,false⟩,.value (.slice (some ⟨(ρ0 zo).blk,off,none⟩) (n+n') ((ρ0 zo).cap - s)),by simp[execOp,ho,resolve,invoke,builtin,hxv,hr],.inl ⟨_,rfl,fun ρ hρ hg=>?_⟩,fun ρ hρ hg=>?_⟩
   ·have hL:=hg nb hF
    rw[Rep];exact .inr ⟨by rw[hL],by rw[hL];simpa using hroom,off,by rw[hL];simp,fun _=>by rw[hL];simp⟩
   ·have hL:=hg nb hF
    obtain ⟨a1,a2,a3,a4,a5,a6,a7⟩:=all ρ hρ;obtain ⟨e1,e2,e3⟩:=XW (ρ0 zo).blk news (off+n*i.size) w;have hown:ZF (ρ zo) (H zo):=(by rw[hzo];exact a1);have step1:=(h.hp ρ hρ).change (x:=zo) (o':=.arr i.size 0 f) hown a1 e1 e2 e3 (XV _ _ _ _) (fun b hb=>XU _ _ _ _ _ (by rw[← a2];exact hb))
     (.inr ⟨⟨a1,a6.esz,Nat.zero_le _,fun _ hi=>by omega,fun _ hi=>by omega⟩,fun k hk=>⟨World.isSome_setCells _ _ _ _ _ (a7 k hk).1,by rw[World.frozen?_setCells];exact (a7 k hk).2⟩⟩)
    have step2:=step1.move (x:=nb) (y:=zo) (o':=.arr i.size (n+n') (Zbu n (fun j=>f (s+j)) g)) hne (by rw[Zn _ _ hne];exact h.fr nb hU) (by rw[Zx];exact a1) (by rw[hL,a2]) (by rw[hL];rfl) ?_
    ·rw[Zi3]at step2;exact step2
    refine .inr ⟨⟨by rw[hL],by rw[hL],by rw[hL];exact hroom,fun j hj=>?_,fun j hj k v hv=>?_⟩,fun k hk=>?_⟩
    ·unfold Zbu
     split
     ·exact a6.len _ (by omega)
     ·exact (hnews ρ hρ (j - n) (by omega)).1
    ·rw[hL]
     simp only;unfold Zbu at hv;by_cases hjn:j<n
     ·rw[if_pos hjn]at hv
      obtain ⟨l1,l2⟩:=olds ρ hρ;obtain ⟨u,hu,hr⟩:=(l1 j hjn).2 k v hv;have hk:k<i.size:=by
       have h1:=(l1 j hjn).1;have h2:=(List.getElem?_eq_some_iff.1 hv).1;have h3:(f (s+j)).length=i.size:=h1;omega
      have hlt:j*i.size+k<n*i.size:=by
       have:(j+1)*i.size≤n*i.size:=Nat.mul_le_mul_right _ hjn;rw[Nat.add_mul]at this;omega
      refine ⟨u,?_,hr⟩;rw[World.cell?_setCells_out _ _ _ _ _ (fun _ _=>by left;show off+(j*i.size+k)<_;omega)];exact l2 _ _ hu
     ·rw[if_neg hjn]at hv
      obtain ⟨u,hu,hr⟩:=(hnews ρ hρ (j - n) (by omega)).2 k v hv;refine ⟨u,?_,hr⟩;have hjlt:=(List.getElem?_eq_some_iff.1 hu).1;have:=World.cell?_setCells_in (ρ0 zo).blk news (off+n*i.size) w (fun q hq=>by have:=(there ρ0 h0 (n*i.size+q) (by omega)).1;rwa [Nat.add_assoc]) _ hjlt;have e:n*i.size≤j*i.size:=Nat.mul_le_mul_right _ (by omega);rw[show off+(j*i.size+k)=off+n*i.size+((j - n)*i.size+k) by rw[Nat.sub_mul];omega,this];rw[List.getElem?_eq_getElem hjlt]at hu;exact hu
    ·rw[hL]at hk⊢
     exact ⟨World.isSome_setCells _ _ _ _ _ (there ρ hρ k hk).1,by rw[World.frozen?_setCells];exact (there ρ hρ k hk).2⟩
  ·
   have hold:(Builtin.firstCells i.size n (.slice (some ⟨(ρ0 zo).blk,off,none⟩) n ((ρ0 zo).cap - s))).run P w.drew=.ok (yE w (ρ0 zo).blk off (n*i.size)).toArray w.drew :=
    run_firstCells_some w.drew i.size n _ _ _ _ (VP _ _ _ _) (fun j u hu=>by rw[Addr.add_mid,World.cell?_drew];exact (olds ρ0 h0).2 j u hu)
   obtain ⟨cs,hr,⟨r,hcs⟩,hsize⟩:=xq (w:=w) news _ _ n _ ho ht hi hz hsrc hold hxv (by omega) h63 hby
   refine ⟨_,fun _=>⟨w.heap.size,0,i.size,grownCap w (n+n') ((ρ0 zo).cap - s) e,false⟩,_,hr,.inl ⟨_,rfl,fun ρ hρ hg=>?_⟩,fun ρ hρ hg=>?_⟩
   ·have:=hg nb hF
    rw[Rep];refine .inr ⟨by rw[this],by rw[this];have:=YS (w:=w) (n+n') ((ρ0 zo).cap - s) e;simpa using this,0,by rw[this];simp,fun _=>by rw[this];simp⟩
   ·have hL:=hg nb hF
    refine Vy ((h.hp ρ hρ).drop zo).drew e ?_ (hsize hzl (VP _ _ _ _)) (YS _ _ _) hfr hL;rw[hcs];exact Zbp.more (Zbp.append (olds ρ hρ).1 (hnews ρ hρ) (VP _ _ _ _))
end
end
end Go.W
