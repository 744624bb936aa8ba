/- Rows whose arguments are slices of structs of integers and truths; from a specification of a call that only reads to a statement's call. -/
import Derived.Test.YtidbbnkpglggdaaGreatWcA
import Derived.Test.YtidbbnkpglggdaaGreatWkC
import Derived.Deep.Slices
import Derived.Test.YtidbbnkpglggdaaGreatPyE
namespace Go.W
set_option linter.unusedSimpArgs false
set_option linter.unusedVariables false
open Go.ChangeShapes Go.WideShapes Go.ChangeAt Go.RowKit Go.Joins Go.Deep
def XP (k:Bool) (a:AV) (v:Value):Prop:=if k=true then ∃ b,a=.bool b∧v=.bool b else ∃ n,a=.int .i64 n∧v=.int .i64 n∧-9223372036854775808≤n∧n≤9223372036854775807
def vx (P:Program) (fl:TypeId→Option (List Bool)):List Field→Nat→Option (List Bool)
 | [],_=>some []
 | f :: r,off=>match fl f.type with
  | some ks=>if f.offset=off∧P.cellsOf f.type=ks.length then (match vx P fl r (off+ks.length) with
   | some rs=>some (ks++rs)
   | none=>none) else none
  | none=>none
def Zd5 (P:Program):Nat→TypeId→Option (List Bool)
 | 0,_=>none
 | d+1,t=>match P.underlying t with
  | some (.int .i64)=>some [false]
  | some .bool=>some [true]
  | some (.struct fs)=>match vx P (Zd5 P d) fs.toList 0 with
   | some ks=>if P.cellsOf t=ks.length then some ks else none
   | none=>none
  | _=>none
section
variable {H:Type} {enc:TypeId×Value→H} {P:Program} {w:World} {base:Nat} {spare:Nat→Bool} {held:Bool}
theorem zM {fl:TypeId→Option (List Bool)} (hfl:∀ (t:TypeId) (ks:List Bool) (fuel:Nat) (cs:List Value) (x:DataW H×List MemPlace),fl t=some ks→DataW.trod enc P w base spare held fuel t cs=some x→cs.length=ks.length∧∀ (j:Nat) (k:Bool),ks[j]?=some k→∃ a v,cs[j]?=some v∧XP k a v) {cs:List Value} :
  ∀ (l:List Field) (off:Nat) (ks:List Bool),vx P fl l off=some ks→(∀ f,f∈l→∃ fuel x,DataW.trod enc P w base spare held fuel f.type ((cs.drop f.offset).take (P.cellsOf f.type))=some x)→∀ (j:Nat) (k:Bool),ks[j]?=some k→∃ a v,cs[off+j]?=some v∧XP k a v
 | [],off,ks,h,_=>by
  simp only[vx,Option.some.injEq]at h;subst h;intro j k hk;simp at hk
 | f :: r,off,ks,h,hx=>by
  simp only[vx]at h;split at h
  ·rename_i k0 hk0
   split at h
   ·rename_i hc
    split at h
    ·rename_i rs hrs
     simp only[Option.some.injEq]at h;subst h;have h2:=zM hfl r (off+k0.length) rs hrs fun g hg=>hx g (List.mem_cons_of_mem _ hg);obtain ⟨fuel,x,h3⟩:=hx f List.mem_cons_self;rw[hc.1,hc.2]at h3;obtain ⟨h4,h5⟩:=hfl _ _ _ _ _ hk0 h3;intro j k hk;by_cases hj:j<k0.length
     ·rw[List.getElem?_append_left hj]at hk
      obtain ⟨a,v,e1,e2⟩:=h5 j k hk;rw[List.getElem?_take,if_pos hj,List.getElem?_drop]at e1;exact ⟨a,v,e1,e2⟩
     ·rw[List.getElem?_append_right (by omega)]at hk
      obtain ⟨a,v,e1,e2⟩:=h2 _ k hk;rw[show off+k0.length+(j - k0.length)=off+j from by omega]at e1;exact ⟨a,v,e1,e2⟩
    ·cases h
   ·cases h
  ·cases h
theorem yP:∀ (dp:Nat) (t:TypeId) (ks:List Bool) (fuel:Nat) (cs:List Value) (x:DataW H×List MemPlace),Zd5 P dp t=some ks→DataW.trod enc P w base spare held fuel t cs=some x→cs.length=ks.length∧∀ (j:Nat) (k:Bool),ks[j]?=some k→∃ a v,cs[j]?=some v∧XP k a v
 | 0,t,ks,fuel,cs,x,h,_=>by simp[Zd5]at h
 | d+1,t,ks,fuel,cs,x,h,hx=>by
  unfold Zd5 at h;split at h
  ·rename_i hu
   simp only[Option.some.injEq]at h;subst h;obtain ⟨n,rfl,_,hwf⟩:=DataW.trod_int hu hx;have hr:-9223372036854775808≤n∧n≤9223372036854775807:=(by simpa [Lit.wf,IntKind.min,IntKind.max,IntKind.bits,IntKind.signed] using hwf);refine ⟨rfl,fun j k hk=>?_⟩;cases j with
   | zero=>simp at hk;subst hk;exact ⟨.int .i64 n,.int .i64 n,rfl,by rw[XP,if_neg (by simp)];exact ⟨n,rfl,rfl,hr⟩⟩
   | succ j=>simp at hk
  ·rename_i hu
   simp only[Option.some.injEq]at h;subst h;obtain ⟨b,rfl,_⟩:=DataW.trod_bool hu hx;refine ⟨rfl,fun j k hk=>?_⟩;cases j with
   | zero=>simp at hk;subst hk;exact ⟨.bool b,.bool b,rfl,by rw[XP,if_pos rfl];exact ⟨b,rfl,rfl⟩⟩
   | succ j=>simp at hk
  ·rename_i fs hu
   split at h
   ·rename_i ks' hm
    split at h
    ·rename_i hc
     simp only[Option.some.injEq]at h;subst h;obtain ⟨xs,n,_,_,hl,hxl,hf⟩:=DataW.trod_struct hu hx;have:=zM (fun t k fuel cs x=>yP d t k fuel cs x) fs.toList 0 ks' hm fun f hfm=>by
      obtain ⟨i,hi⟩:=List.getElem?_of_mem hfm;have hi':fs[i]?=some f:=(by rw[← Array.getElem?_toList];exact hi);have h1:=hf i f hi';have hlt:i<xs.length:=(by rw[hxl];exact (Array.getElem?_eq_some_iff.1 hi').1);rw[List.getElem?_eq_getElem hlt]at h1;exact ⟨n,_,h1⟩
     exact ⟨by rw[hl,hc],fun j k hk=>by have:=this j k hk;rwa [Nat.zero_add]at this⟩
    ·cases h
   ·cases h
  ·cases h
end
def Ze1 (ks:List Bool) (c:List AV):Prop:=c.length=ks.length∧∀ (j:Nat) (k:Bool),ks[j]?=some k→∃ a v,c[j]?=some a∧XP k a v
theorem Th {ks:List Bool} {c:List AV} (h:Ze1 ks c):Zbs c=true:=by
 refine List.all_eq_true.2 fun a ha=>?_;obtain ⟨j,hj⟩:=List.getElem?_of_mem ha;have hlt:j<ks.length:=by rw[← h.1];exact (List.getElem?_eq_some_iff.1 hj).1
 obtain ⟨a',v,h1,h2⟩:=h.2 j _ (List.getElem?_eq_getElem hlt);rw[hj]at h1;simp only[Option.some.injEq]at h1;subst h1;unfold XP at h2;split at h2
 ·obtain ⟨b,rfl,_⟩:=h2;rfl
 ·obtain ⟨n,rfl,_⟩:=h2;rfl
theorem Zge {ρ:Env} {k:Bool} {a:AV} {v:Value} (h:XP k a v):Rep ρ a v:=by
 unfold XP at h;split at h
 ·obtain ⟨b,rfl,rfl⟩:=h;simp[Rep]
 ·obtain ⟨n,rfl,rfl,_⟩:=h;simp[Rep]
theorem yT {H:Type} {enc:TypeId×Value→H} {P:Program} {w:World} {base b0:Nat} {r:Reach} {t e:TypeId} {v:Value} {d:DataW H} {p:List MemPlace} (ht:P.underlying t=some (.slice e)) {ks:List Bool} {z:Nat} (hfl:Zd5 P 6 e=some ks) (hz:ks.length=z) (hz0:0<z) (hce:P.cellsOf e=z) (hv:Value.okWide P w r b0 t v) (h:DataW.Trod enc P w base (fun _=>true) true t v d p) :
  ∃ (els:List (List AV)) (L:Loc),(∀ c,c∈els→Ze1 ks c)∧(∀ ρ nm,Xe ρ L (flO nm (.view 0 z els)) w)∧(L.nil=false→L.blk<w.heap.size)∧(∀ (ρ:Env) nm,ρ nm=L→Rep ρ (.sl nm 0 els.length) v):=by
 obtain ⟨q,len0,cap0,rfl⟩:=okWide_slice ht hv
 obtain ⟨fuel,hf⟩:=h
 have hcs:(Value.slice q len0 cap0).cells.toList=[.slice q len0 cap0]:=rfl
 rw[hcs]at hf
 have nilcase:∀ (c:Option Addr),∃ (els:List (List AV)) (L:Loc),(∀ c,c∈els→Ze1 ks c)∧(∀ ρ nm,Xe ρ L (flO nm (.view 0 z els)) w)∧(L.nil=false→L.blk<w.heap.size)∧(∀ (ρ:Env) nm,ρ nm=L→Rep ρ (.sl nm 0 els.length) (.slice c 0 0)):=fun c =>
  ⟨[],V0,fun c hc=>by simp at hc,fun ρ nm=>.inl ⟨rfl,rfl⟩,(fun h=>by simp[V0]at h),(fun ρ nm hρ=>by
   rw[Rep];exact .inl ⟨by rw[hρ];rfl,rfl,rfl,c,rfl⟩)⟩
 rcases open_slice ht hf with ⟨h0,_⟩ | ⟨a,len,cap,m,n,D,Pl,h0,hb,hl,hm,hmm,_,hx⟩
 ·simp only[List.cons.injEq,and_true]at h0
  rw[h0];exact nilcase none
 ·simp only[List.cons.injEq,and_true]at h0
  rw[h0];simp only[if_true]at hmm;subst hmm;by_cases hc0:m=0
  ·subst hc0
   have:len=0:=(by omega);subst this;exact nilcase (some a)
  ·rw[hce]at hx
   have cell:∀ i,i<m→∃ f:Nat→AV,∀ j,j<z→∃ k v,ks[j]?=some k∧w.cell? (a.add (i*z+j))=some v∧XP k (f j) v:=fun i hi=>by
    obtain ⟨cs',g1,g2⟩:=hx i hi;obtain ⟨_,g3,g4⟩:=World.cells?_some g1;obtain ⟨_,g6⟩:=yP 6 e ks n cs' _ hfl g2;refine choose_lt (α:=AV) (n:=z) (p:=fun j a' => ∃ k v,ks[j]?=some k∧w.cell? (a.add (i*z+j))=some v∧XP k a' v) fun j hj=>?_;have hk:=List.getElem?_eq_getElem (l:=ks) (show j<ks.length by omega);obtain ⟨a',v,e1,e2⟩:=g6 j _ hk;have:=g4 j hj;rw[add_add,e1]at this;exact ⟨a',_,v,hk,this,e2⟩
   obtain ⟨F,hF⟩:=choose_lt (α:=Nat→AV) (n:=m) (p:=fun i f=>∀ j,j<z→∃ k v,ks[j]?=some k∧w.cell? (a.add (i*z+j))=some v∧XP k (f j) v) cell;obtain ⟨k00,u0,_,hu0,_⟩:=hF 0 (by omega) 0 hz0;rw[Nat.zero_mul,Nat.zero_add]at hu0;have ha0:a.add 0=a:=(by simp[Addr.add]);rw[ha0]at hu0;have hsp:a.spot=none:=by
    unfold World.cell? at hu0;split at hu0
    ·split at hu0
     ·cases hu0
     ·rename_i hs
      cases hsp:a.spot with
      | none=>rfl
      | some s=>rw[hsp]at hs;simp at hs
    ·cases hu0
   obtain ⟨blk,off,spt⟩:=a;simp only at hsp;subst hsp;have hblk:=World.block_lt_of_cell? w _ hu0;have hrow:∀ i,i<m→Ze1 ks ((List.range z).map (F i)):=fun i hi=>⟨by rw[List.length_map,List.length_range,hz],fun j k hk=>by
    have hj:j<z:=(by rw[← hz];exact (List.getElem?_eq_some_iff.1 hk).1);obtain ⟨k',v,e1,e2,e3⟩:=hF i hi j hj;rw[hk]at e1;simp only[Option.some.injEq]at e1;subst e1;exact ⟨F i j,v,by rw[List.getElem?_map,List.getElem?_range hj];rfl,e3⟩⟩
   refine ⟨(List.range len).map fun i=>(List.range z).map (F i),⟨blk,off,z,m,false⟩,fun c hc=>?_,fun ρ nm=>?_,fun _=>hblk,fun ρ nm hρ=>?_⟩
   ·obtain ⟨i,hi,rfl⟩:=List.mem_map.1 hc
    exact hrow i (by have:=List.mem_range.1 hi;omega)
   ·refine .inr ⟨rfl,rfl,by rw[List.length_map,List.length_range];exact hl,fun i hi=>?_,fun i hi j v hv=>?_⟩
    ·simp only[List.length_map,List.length_range]at hi
     rw[Vx,List.getD_eq_getElem?_getD,List.getElem?_map,List.getElem?_range hi];show ((List.range z).map (F i)).length=z;rw[List.length_map,List.length_range]
    ·simp only[List.length_map,List.length_range]at hi
     have e1:((List.range len).map fun i=>(List.range z).map (F i)).getD i []=(List.range z).map (F i):=by
      rw[List.getD_eq_getElem?_getD,List.getElem?_map,List.getElem?_range hi];rfl
     rw[e1,Y8 (Xx (Th (hrow i (by omega)))),List.getElem?_map]at hv;by_cases hj:j<z
     ·rw[List.getElem?_range hj]at hv
      simp only[Option.map_some,Option.some.injEq]at hv;subst hv;obtain ⟨k,u,_,e3,e4⟩:=hF i (by omega) j hj;refine ⟨u,?_,Zge e4,?_⟩
      ·rw[← e3]
       congr 1
       unfold Addr.add;split
       ·rename_i h0;simp[h0]
       ·rfl
      ·unfold XP at e4
       split at e4
       ·obtain ⟨b,_,hn⟩:=e4;rw[hn];rfl
       ·obtain ⟨n,_,hn,_⟩:=e4;rw[hn];rfl
     ·rw[List.getElem?_eq_none (by rw[List.length_range];omega)]at hv
      simp only[Option.map_none,reduceCtorEq]at hv
   ·rw[Rep,List.length_map,List.length_range]
    refine .inr ⟨by rw[hρ],by rw[hρ,Nat.zero_add];exact hl,off,by rw[hρ];rfl,fun _=>by rw[hρ];simp⟩
theorem ZeO {P:Program} {f:FuncId} {d:List AV→List NObj→Option AV} {ok:ROk d} (hs:Sound P f (rdS d ok)) {W:World} {hl:HL} {m:Nat} {Ls:Nat→Loc}
  (hv:∀ k,k<m→∃ sz els,hk hl k=.view 0 sz els∧(∀ c,c∈els→Zbs c=true)∧(∀ ρ,Xe ρ (Ls k) (flO (.top k) (.view 0 sz els)) W)∧((Ls k).nil=false→(Ls k).blk<W.heap.size)) (hf:∀ k,m≤k→hk hl k=.free)
  {avs:List AV} {vs:List Value} {b:Bool} {rd:List Nat} (h:rdF d avs (hk hl) m=some ⟨.bool b,[],rd,8⟩) (hrep:∀ ρ:Env,(∀ k,k<m→ρ (.top k)=Ls k)→Z8 ρ avs vs) :
  Calls P f vs.toArray W fun e W' => e=.returned (.bool b)∧Below W.heap.size W W':=by
 have hcase:∀ x:Nm,(∃ k,k<m∧x=.top k)∨Zj (hk hl) x=.free:=fun x=>by
  by_cases hr:x.root<m
  ·obtain ⟨sz,els,h1,h2,_⟩:=hv x.root hr
   by_cases hx:x=.top x.root
   ·exact .inl ⟨x.root,hr,hx⟩
   ·exact .inr (VH (n:=x.root) (fun t j f=>by
     rw[h1];exact ZaU (sz:=sz) (w:=els) (fun j c hc=>Xx (h2 c (List.mem_of_getElem? hc))) t j f) rfl hx)
  ·exact .inr (XI (n:=x.root) (hf _ (by omega)) rfl)
 have h0:∀ k,k<m→∃ sz els,hk hl k=.view 0 sz els∧HF (hk hl) (.top k)=flO (.top k) (.view 0 sz els)∧(∀ ρ,Xe ρ (Ls k) (flO (.top k) (.view 0 sz els)) W)∧((Ls k).nil=false→(Ls k).blk<W.heap.size):=fun k hk0=>by
  obtain ⟨sz,els,h1,_,h2,h3⟩:=hv k hk0;refine ⟨sz,els,h1,?_,h2,h3⟩;unfold HF;rw[Zj,h1]
 have:=hs.calls W noSc (fun ρ=>∀ k,k<m→ρ (.top k)=Ls k) (fun x=>m≤x.mx) (hk hl) W avs vs m _ ⟨fun x=>Ls x.root,fun k _=>rfl⟩ (fun ρ ρ' hρ he k hk0=>by rw[he (.top k) (by simp[Nm.mx];omega)];exact hρ k hk0) (fun x hx=>by
   rcases hcase x with ⟨k,hk0,rfl⟩ | e
   ·simp only[Nm.mx]at hx;omega
   ·exact Zt.2 e) (fun ρ ρ' h1 h2 x hx=>by
   rcases hcase x with ⟨k,hk0,rfl⟩ | e
   ·rw[h1 k hk0,h2 k hk0]
   ·exact absurd (Zt.2 e) hx)
  (fun ρ hρ=>⟨rfl,rfl,rfl,Nat.le_refl _,fun _ _ _=>rfl,fun x=>by
    rcases hcase x with ⟨k,hk0,rfl⟩ | e
    ·obtain ⟨sz,els,g1,g2,g3,g4⟩:=h0 k hk0
     rw[g2,hρ k hk0];exact g3 ρ
    ·rw[Zt.2 e];trivial,fun x hx=>by
    rcases hcase x with ⟨k,hk0,rfl⟩ | e
    ·obtain ⟨sz,els,g1,g2,g3,g4⟩:=h0 k hk0
     rw[g2]at hx;exact hx.elim
    ·rw[Zt.2 e]at hx;exact hx.elim,fun x y hx=>by
    rcases hcase x with ⟨k,hk0,rfl⟩ | e
    ·obtain ⟨sz,els,g1,g2,g3,g4⟩:=h0 k hk0
     rw[g2]at hx;exact hx.elim
    ·rw[Zt.2 e]at hx;exact hx.elim,fun x hx=>by
    rcases hcase x with ⟨k,hk0,rfl⟩ | e
    ·obtain ⟨sz,els,g1,g2,g3,g4⟩:=h0 k hk0
     rw[g2,hρ k hk0]at hx;rw[hρ k hk0];exact ⟨g4 hx,fun h=>h⟩
    ·rw[Zt.2 e]at hx;exact hx.elim,fun x hx=>absurd hx (Nat.not_lt_zero x)⟩) (fun ρ hρ=>hrep ρ hρ) h (fun x hx=>hx.1)
 refine this.1.mono fun e W' ⟨v,g,he,hv'⟩ => ?_
 obtain ⟨q1,q2⟩:=hv' (fun x=>if m≤x.mx then g x else Ls x.root) (fun k hk0=>by rw[if_neg (by simp only[Nm.mx];omega)];rfl) (fun x hx=>by simp[hx.1])
 simp only[Rep]at q1
 subst q1
 exact ⟨he,q2.below⟩
open Go.Proofs
set_option maxHeartbeats 8000000
set_option maxRecDepth 100000
attribute [local irreducible] Wm WmA
attribute [local simp] YP lkp Vq prs V9 prT ddL idL Yy Ue Ren Ve NObj.none ZT
theorem Zfw {c:List AV} (h:Ze1 [false,true,false,false,false,false,false,false,false,false] c):zh c=true:=by
 obtain ⟨hl,hc⟩:=h
 match c,hl with
 | [c0,c1,c2,c3,c4,c5,c6,c7,c8,c9],_ =>
  obtain ⟨_,_,e1,e2⟩:=hc 0 false rfl;simp only[XP,Bool.false_eq_true,if_false,List.getElem?_cons_succ,List.getElem?_cons_zero,Option.some.injEq]at e1 e2;subst e1;obtain ⟨v0,rfl,_,r0⟩:=e2;obtain ⟨_,_,e1,e2⟩:=hc 1 true rfl;simp only[XP,if_true,List.getElem?_cons_succ,List.getElem?_cons_zero,Option.some.injEq]at e1 e2;subst e1;obtain ⟨v1,rfl,_⟩:=e2;obtain ⟨_,_,e1,e2⟩:=hc 2 false rfl;simp only[XP,Bool.false_eq_true,if_false,List.getElem?_cons_succ,List.getElem?_cons_zero,Option.some.injEq]at e1 e2;subst e1;obtain ⟨v2,rfl,_,r2⟩:=e2;obtain ⟨_,_,e1,e2⟩:=hc 3 false rfl;simp only[XP,Bool.false_eq_true,if_false,List.getElem?_cons_succ,List.getElem?_cons_zero,Option.some.injEq]at e1 e2;subst e1;obtain ⟨v3,rfl,_,r3⟩:=e2;obtain ⟨_,_,e1,e2⟩:=hc 4 false rfl;simp only[XP,Bool.false_eq_true,if_false,List.getElem?_cons_succ,List.getElem?_cons_zero,Option.some.injEq]at e1 e2;subst e1;obtain ⟨v4,rfl,_,r4⟩:=e2;obtain ⟨_,_,e1,e2⟩:=hc 5 false rfl;simp only[XP,Bool.false_eq_true,if_false,List.getElem?_cons_succ,List.getElem?_cons_zero,Option.some.injEq]at e1 e2;subst e1;obtain ⟨v5,rfl,_,r5⟩:=e2;obtain ⟨_,_,e1,e2⟩:=hc 6 false rfl;simp only[XP,Bool.false_eq_true,if_false,List.getElem?_cons_succ,List.getElem?_cons_zero,Option.some.injEq]at e1 e2;subst e1;obtain ⟨v6,rfl,_,r6⟩:=e2;obtain ⟨_,_,e1,e2⟩:=hc 7 false rfl;simp only[XP,Bool.false_eq_true,if_false,List.getElem?_cons_succ,List.getElem?_cons_zero,Option.some.injEq]at e1 e2;subst e1;obtain ⟨v7,rfl,_,r7⟩:=e2;obtain ⟨_,_,e1,e2⟩:=hc 8 false rfl
  simp only[XP,Bool.false_eq_true,if_false,List.getElem?_cons_succ,List.getElem?_cons_zero,Option.some.injEq]at e1 e2;subst e1;obtain ⟨v8,rfl,_,r8⟩:=e2;obtain ⟨_,_,e1,e2⟩:=hc 9 false rfl;simp only[XP,Bool.false_eq_true,if_false,List.getElem?_cons_succ,List.getElem?_cons_zero,Option.some.injEq]at e1 e2;subst e1;obtain ⟨v9,rfl,_,r9⟩:=e2;simp only[zh];exact decide_eq_true (by omega)
theorem ZiZ {els:List (List AV)} (h:∀ c,c∈els→Ze1 [false,true,false,false,false,false,false,false,false,false] c):els.all zh=true :=
 List.all_eq_true.2 fun c hc=>Zfw (h c hc)
end Go.W
