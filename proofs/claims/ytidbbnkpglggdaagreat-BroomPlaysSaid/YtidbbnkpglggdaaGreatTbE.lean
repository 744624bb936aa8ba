/- The evaluator is sound. A function by its evaluation; one that is told nothing and answers with a truth. The example of layer 12, evaluated by the kernel over what its functions keep. -/
import Derived.Test.YtidbbnkpglggdaaGreatWeA
import Derived.Test.YtidbbnkpglggdaaGreatRaL
namespace Go.W
set_option linter.unusedSimpArgs false
set_option linter.unusedVariables false
theorem Runs.re {E:FuncId→Option Spec} {bs bs':Nat→Nat}:∀ {l:List (Nat×MO×Res)} {T T':Nat→AV} {H H':NH},Runs E bs l T H T' H'→(∀ y,y∈l→bs' y.1=bs y.1)→Runs E bs' l T H T' H'
 | [],_,_,_,_,h,_=>by cases h;exact .nil _ _
 | (i,m,r) :: l,_,_,_,_,h,hb=>by
  cases h with
  | cons h1 h2=>exact .cons (by rw[hb (i,m,r) List.mem_cons_self];exact h1) (h2.re fun y hy=>hb y (List.mem_cons_of_mem _ hy))
theorem ZhY {N:Nat} (hN:N≤bnd) {mo:MO} {mos:List MO} (h:Zcs N mos=true) (hm:mo∈mos):∀ d,mo.dst=some d→d≤bnd:=fun d hd=>by
 have:=List.all_eq_true.1 h mo hm;rw[hd]at this;have:=of_decide_eq_true this;omega
structure Goes (G:NH) (s s':ES):Prop where
 ok:s'.Ok
 nb:s.nb≤s'.nb
 rd:∀ x,x∈s.rd→x∈s'.rd
 wl:∀ x,x∈s.wl→x∈s'.wl
 nm:∀ x,x∈s'.wl→x∈s.wl∨(s.nb≤x∧x<s'.nb)∨G x≠.free
theorem Goes.refl {G:NH} {s:ES} (h:s.Ok):Goes G s s:=⟨h,Nat.le_refl _,fun _ h=>h,fun _ h=>h,fun _ h=>.inl h⟩
theorem Goes.trans {G:NH} {s s1 s2:ES} (h:Goes G s s1) (h':Goes G s1 s2):Goes G s s2 :=
 ⟨h'.ok,Nat.le_trans h.nb h'.nb,fun x hx=>h'.rd x (h.rd x hx),fun x hx=>h'.wl x (h.wl x hx),fun x hx=>by
  have a:=h.nb;have b:=h'.nb;rcases h'.nm x hx with h1|h1|h1
  ·rcases h.nm x h1 with h2|h2|h2
   ·exact .inl h2
   ·exact .inr (.inl (by omega))
   ·exact .inr (.inr h2)
  ·exact .inr (.inl (by omega))
  ·exact .inr (.inr h1)⟩
section
variable {E:FuncId→Option Spec} {G:NH} {N:Nat}
theorem Zab (hN:N≤bnd):∀ {mos:List MO} {i:Nat} {s:ES} {lg:List (Nat×List Nat×List Nat)} {x:ES×List (Nat×List Nat×List Nat)},Zcs N mos=true→s.Ok→evR E G mos i s lg=some x→Goes G s x.1 ∧
  (∃ l bs,Runs E bs l s.T (s.G G) x.1.T (x.1.G G)∧l.map (·.1)=List.range' i mos.length∧l.map (·.2.1)=mos∧x.2=lg++xH l∧l.Pairwise (fun y z=>bs y.1+y.2.2.n≤bs z.1)∧∀ y,y∈l→s.nb≤bs y.1∧bs y.1+y.2.2.n≤x.1.nb) ∧
  ∀ G':NH,(∀ y,y∈x.1.rd∨y∈x.1.wl→G y=G' y)→evR E G' mos i s lg=some x
 | [],i,s,lg,x,_,hok,h=>by
  simp only[evR,Option.some.injEq]at h;subst h;exact ⟨.refl hok,⟨[],fun _=>0,.nil _ _,rfl,rfl,by simp[xH],.nil,by simp⟩,fun _ _=>rfl⟩
 | mo :: r,i,s,lg,x,hf,hok,h=>by
  simp only[evR]at h;cases hst:XH E s.T (s.G G) s.nb mo with
  | none=>simp[hst]at h
  | some q =>
   simp only[hst]at h;split at h
   ·rename_i hb
    obtain ⟨n1,n2,n3,n4,n5,n6,n7⟩:=ZhA G s mo q hb (ZhY hN hf List.mem_cons_self) hok;have hf':Zcs N r=true:=by
     unfold Zcs at hf⊢;simp only[List.all_cons,Bool.and_eq_true]at hf;exact hf.2
    obtain ⟨g,⟨l,bs,r1,r2,r3,r4,r5,r6⟩,hloc⟩:=Zab hN hf' n1 h;have hnm:=Zfr hst;refine ⟨Goes.trans ⟨n1,by omega,n6,fun y hy=>(n5 y).2 (.inl hy),fun y hy=>?_⟩ g,⟨(i,mo,q) :: l,fun j=>if j=i then s.nb else bs j,.cons (by rw[if_pos rfl];exact hst) (Runs.re (bs:=bs) (by rw[← n2,← n3];exact r1) fun y hy=>if_neg ?_),?_,?_,?_,?_,fun y hy=>?_⟩,fun G' hG=>?_⟩
    ·rcases (n5 y).1 hy with h1|h1
     ·exact .inl h1
     ·rcases hnm y h1 with h2|h2
      ·exact .inr (.inl (by omega))
      ·unfold ES.G at h2
       cases hg:s.h.get y with
       | some o=>exact .inl (hok y (by rw[hg];simp))
       | none=>rw[hg]at h2;exact .inr (.inr h2)
    ·have h1:y.1∈List.range' (i+1) r.length:=by rw[← r2];exact List.mem_map.2 ⟨y,hy,rfl⟩
     have h2:=(List.mem_range'_1.1 h1).1;omega
    ·simp[r2,List.range'_succ]
    ·simp[r3]
    ·rw[r4];simp[xH]
    ·have hne:∀ y,y∈l→y.1≠i:=fun y hy=>by
      have h1:y.1∈List.range' (i+1) r.length:=(by rw[← r2];exact List.mem_map.2 ⟨y,hy,rfl⟩);have h2:=(List.mem_range'_1.1 h1).1;omega
     refine List.pairwise_cons.2 ⟨fun z hz=>?_,?_⟩
     ·have:=r6 z hz
      simp only[if_true];rw[if_neg (hne z hz)];omega
     ·refine r5.imp_of_mem fun {y z} hy hz hyz=>?_
      simp only;rw[if_neg (hne y hy),if_neg (hne z hz)];exact hyz
    ·have hg:=g.nb
     rcases List.mem_cons.1 hy with rfl|hy
     ·simp only[if_true];omega
     ·have h1:y.1∈List.range' (i+1) r.length:=by rw[← r2];exact List.mem_map.2 ⟨y,hy,rfl⟩
      have h2:=(List.mem_range'_1.1 h1).1;simp only;rw[if_neg (by omega)];have:=r6 y hy;omega
    ·simp only[evR]
     have hst':XH E s.T (s.G G') s.nb mo=some q:=yd (fun _ _=>rfl) hst fun y hy=>by
      unfold ES.G;cases hg:s.h.get y with
      | some o=>rfl
      | none =>
       simp only;refine hG y ?_;rcases hy with hy|hy
       ·exact .inl (g.rd y (n7 y hy hg))
       ·exact .inr (g.wl y ((n5 y).2 (.inr hy)))
     rw[hst'];simp only[hb,if_true];exact hloc G' hG
   ·cases h
theorem XC (hN:N≤bnd):∀ (n:Nat) {c:MCode} {s:ES} {e:Exit} {s':ES},s.Ok→Vm E N G n c s=some (e,s')→Goes G s s'∧∀ G':NH,(∀ y,y∈s'.rd∨y∈s'.wl→G y=G' y)→Vm E N G' n c s=some (e,s')
 | 0,c,s,e,s',_,h=>by simp[Vm]at h
 | n+1,c,s,e,s',hok,h=>by
  have two:∀ {a:MCode} {b:MCode},Zap (Vm E N G n a s) (fun s' => Vm E N G n b s')=some (e,s')→Goes G s s'∧∀ G':NH,(∀ y,y∈s'.rd∨y∈s'.wl→G y=G' y)→Zap (Vm E N G' n a s) (fun s' => Vm E N G' n b s')=some (e,s'):=fun {a b} h=>by
   rcases TX h with ⟨s1,h1,h2⟩ | ⟨h1,h2⟩
   ·obtain ⟨g1,l1⟩:=XC hN n hok h1
    obtain ⟨g2,l2⟩:=XC hN n g1.ok h2;refine ⟨g1.trans g2,fun G' hG=>?_⟩;rw[l1 G' fun y hy=>hG y (hy.imp (g2.rd y) (g2.wl y))];exact l2 G' hG
   ·obtain ⟨g1,l1⟩:=XC hN n hok h1
    refine ⟨g1,fun G' hG=>?_⟩;rw[l1 G' hG];rw[h1]at h;unfold Zap at h⊢;split at h
    ·rename_i he;injection he with he;injection he with he _;exact absurd he h2
    ·exact h
    ·exact h
    ·cases h
  cases c with
  | skip=>simp only[Vm,Option.some.injEq,Prod.mk.injEq]at h;obtain ⟨rfl,rfl⟩:=h;exact ⟨.refl hok,fun _ _=>rfl⟩
  | exit id=>simp only[Vm,Option.some.injEq,Prod.mk.injEq]at h;obtain ⟨rfl,rfl⟩:=h;exact ⟨.refl hok,fun _ _=>rfl⟩
  | ret=>simp only[Vm,Option.some.injEq,Prod.mk.injEq]at h;obtain ⟨rfl,rfl⟩:=h;exact ⟨.refl hok,fun _ _=>rfl⟩
  | reg mos =>
   simp only[Vm]at h;split at h
   ·rename_i hf
    split at h
    ·rename_i x hx
     injection h with h;injection h with h1 h2;subst h1 h2;obtain ⟨g,_,l⟩:=Zab hN hf hok hx;refine ⟨g,fun G' hG=>?_⟩;simp only[Vm,hf,if_true,l G' hG]
    ·cases h
   ·cases h
  | draw mos pr =>
   simp only[Vm]at h;split at h
   ·rename_i hd
    have hf:Zcs N mos=true:=(by simp only[T8,Bool.and_eq_true]at hd;exact hd.1.1.1.1);split at h
    ·rename_i x hx
     split at h
     ·rename_i hdy
      injection h with h;injection h with h1 h2;subst h1 h2;obtain ⟨g,_,l⟩:=Zab hN hf hok hx;refine ⟨g,fun G' hG=>?_⟩;simp only[Vm,hd,if_true,l G' hG,hdy]
     ·cases h
    ·cases h
   ·cases h
  | seq a b=>simp only[Vm]at h⊢;exact two h
  | loop a=>simp only[Vm]at h⊢;exact two h
  | cond c a b =>
   simp only[Vm]at h⊢;split at h
   ·exact XC hN n hok h
   ·exact XC hN n hok h
   ·cases h
  | block id a =>
   simp only[Vm]at h⊢;obtain ⟨e0,h1,h2⟩:=zU h;obtain ⟨g,l⟩:=XC hN n hok h1;refine ⟨g,fun G' hG=>?_⟩;rw[l G' hG,← h1];exact h
end
def Zgt (w0:World) (S:Sc) (N:Nat) (D:List Deferred) (B:Nat→Prop) (Es0:Env→Prop) (H0:NH) (lb:Nat) (T:Nat→AV) (G:NH) (nb:Nat) (a:Act) (w:World):Prop :=
 (∃ Es,Sat w0 S Es (fun x:Nm=>nb≤x.mx∧B x.mx) T (HF G) a w∧Adv Es0 H0 Es G (fun x:Nm=>lb≤x.mx∧x.mx<nb))∧lb≤nb∧a.tmps.size=N∧a.defers=D
theorem Sat.less {w0:World} {S:Sc} {Es:Env→Prop} {U U':Nm→Prop} {T:Nat→AV} {H:Nm→AObj} {a:Act} {w:World} (h:Sat w0 S Es U T H a w) (hU:∀ x,U' x→U x):Sat w0 S Es U' T H a w :=
 ⟨h.ne,fun ρ ρ' h1 h2=>h.cl ρ ρ' h1 fun x hx=>h2 x fun hu=>hx (hU x hu),fun x hx=>h.fr x (hU x hx),h.pin,h.tm,h.hp⟩
section
variable {P:Program} {E:FuncId→Option Spec} {w0:World} {S:Sc} {N:Nat} {D:List Deferred} {B:Nat→Prop} {Es0:Env→Prop} {H0:NH} {lb:Nat} {G:NH}
theorem ZdN {code:Code} {mos:List MO} (hc:rC P code=some (.reg mos)):∃ id ops,code=.region id ops false∧rOs P ops ops.toList=some mos:=by
 cases code<;>simp only[rC,reduceCtorEq,Option.some.injEq]at hc
 case region id ops d =>
  split at hc
  ·rename_i l hl
   split at hc
   ·cases hc
   ·rename_i hd
    injection hc with hc;injection hc with hc;subst hc;have hd':d=false:=(by simpa using hd);subst hd';exact ⟨id,ops,rfl,hl⟩
  ·cases hc
 all_goals ((repeat' (split at hc))<;>first|(cases hc;done)|(simp only[Option.map_eq_some_iff,reduceCtorEq,and_false,exists_false]at hc;done))
theorem ZhF {code:Code} {mos:List MO} {pr:List (List Nat)} (hc:rC P code=some (.draw mos pr)):∃ id ops,code=.region id ops true∧rOs P ops ops.toList=some mos∧pr=ops.toList.map Vo:=by
 cases code<;>simp only[rC,reduceCtorEq,Option.some.injEq]at hc
 case region id ops d =>
  split at hc
  ·rename_i l hl
   split at hc
   ·rename_i hd
    injection hc with hc;injection hc with hc hc2;subst hc hc2 hd;exact ⟨id,ops,rfl,hl,rfl⟩
   ·cases hc
  ·cases hc
 all_goals ((repeat' (split at hc))<;>first|(cases hc;done)|(simp only[Option.map_eq_some_iff,reduceCtorEq,and_false,exists_false]at hc;done))
theorem vQ {ops:Array Oper} {mos:List MO} (hl:rOs P ops ops.toList=some mos) (hf:Zcs N mos=true) {ll:List (Nat×MO×Res)} (r2:ll.map (·.1)=List.range' 0 mos.length) (r3:ll.map (·.2.1)=mos):∀ x,x∈ll→∃ o,ops[x.1]?=some o∧rO P ops o=some x.2.1∧∀ d,x.2.1.dst=some d→d<N:=fun y hy=>by
 obtain ⟨k,k1,k2⟩:=Zc5 r2 r3 hy;obtain ⟨o,o1,o2⟩:=(TJ hl).2 k _ k2;refine ⟨o,by rw[k1,Nat.zero_add,← Array.getElem?_toList];exact o1,o2,fun d hd=>?_⟩;have:=List.all_eq_true.1 hf _ (List.mem_of_getElem? k2);rw[hd]at this;simpa using this
theorem Ze0 (hE:Zd P E) (hN:N≤bnd) {mos:List MO} {s:ES} {x:ES×List (Nat×List Nat×List Nat)} (hf:Zcs N mos=true) (hx:evR E G mos 0 s []=some x) (hok:s.Ok) (hB:∀ m,m<x.1.nb→B m) {code:Code} (hc:rC P code=some (.reg mos)) {a:Act} {w:World} (hs:Zgt w0 S N D B Es0 H0 lb s.T (s.G G) s.nb a w) :
  code.wp P (fun e1 a1 w1=>e1=.normal∧Zgt w0 S N D B Es0 H0 lb x.1.T (x.1.G G) x.1.nb a1 w1) a w:=by
 obtain ⟨id,ops,rfl,hl⟩:=ZdN hc
 obtain ⟨g,⟨ll,bs,r1,r2,r3,r4,r5,r6⟩,_⟩:=Zab hN hf hok hx
 obtain ⟨⟨Es,hsat,hadv⟩,hlb,hNs,hD⟩:=hs
 have hlen:ll.length=mos.length:=by rw[← r3];simp
 have hsz:ops.size=mos.length:=by rw[← Array.length_toList,(TJ hl).1]
 refine wp_region ?_
 have:=ZgY (P:=P) (E:=E) (w0:=w0) (S:=S) (N:=N) (D:=D) (ops:=ops) (bs:=bs) (mt:=x.1.nb) (B:=B) (Es0:=Es0) (H0:=H0) (lb:=lb) (Tf:=x.1.T) (Hf:=x.1.G G) hE hB (Q:=fun e1 a1 w1=>e1=.normal∧Zgt w0 S N D B Es0 H0 lb x.1.T (x.1.G G) x.1.nb a1 w1)
  (fun Es' U a1 w1 h1 h2 h3 h4 h5=>⟨rfl,⟨Es',h1.less fun y hy=>h2 y hy.1 hy.2,h5⟩,Nat.le_trans hlb g.nb,h4,h3⟩)
  ll 0 s.nb Es _ _ _ a w r1 (by rw[hlen];exact r2) (by rw[hlen,hsz];omega) (vQ hl hf r2 r3) hsat (fun y hy hb=>⟨hy,hb⟩) hlb g.nb r5 r6 hadv hD hNs
 rw[List.range_eq_range',hsz,← hlen]
 exact this
theorem ZcW (hE:Zd P E) (Zq:P.follows .mixedOrders=true) (hN:N≤bnd) {mos:List MO} {pr cl:List (List Nat)} {s:ES} {x:ES×List (Nat×List Nat×List Nat)} (hd:T8 N mos pr cl=true) (hx:evR E G mos 0 s []=some x) (hdyn:Zhu (Zai cl) x.2=true) (hok:s.Ok) (hB:∀ m,m<x.1.nb→B m) {code:Code} (hc:rC P code=some (.draw mos pr)) {a:Act} {w:World} (hs:Zgt w0 S N D B Es0 H0 lb s.T (s.G G) s.nb a w) :
  code.wp P (fun e1 a1 w1=>e1=.normal∧Zgt w0 S N D B Es0 H0 lb x.1.T (x.1.G G) x.1.nb a1 w1) a w:=by
 obtain ⟨id,ops,rfl,hl,rfl⟩:=ZhF hc
 simp only[T8,Bool.and_eq_true]at hd
 obtain ⟨⟨⟨⟨hf,hstat⟩,hback⟩,hcll⟩,hcl⟩:=hd
 obtain ⟨g,⟨ll,bs,r1,r2,r3,r4,r5,r6⟩,_⟩:=Zab hN hf hok hx
 obtain ⟨⟨Es,hsat,hadv⟩,hlb,hNs,hD⟩:=hs
 have hlen:ll.length=mos.length:=by rw[← r3];simp
 have hsz:ops.size=mos.length:=by rw[← Array.length_toList,(TJ hl).1]
 have hpo:∀ i o,ops[i]?=some o→Zai (ops.toList.map Vo) i=Vo o:=fun i o ho=>by
  rw[← Array.getElem?_toList]at ho;simp[Zai,List.getD_eq_getElem?_getD,ho]
 have hwi:ll.map (fun x=>(x.1,x.2.1))=VD mos:=by
  unfold VD;rw[← r2]
  conv=>rhs;rw[← r3]
  clear r1 r2 r3 r4 r5 r6 hlen
  induction ll with
  | nil=>rfl
  | cons y ll ih=>simp[ih]
 have hdis:∀ y,y∈ll→∀ z,z∈ll→z.1≠y.1→bs y.1+y.2.2.n≤bs z.1∨bs z.1+z.2.2.n≤bs y.1:=by
  clear r1 r2 r3 r4 r6 hlen hwi
  induction ll with
  | nil=>simp
  | cons u l ih =>
   rw[List.pairwise_cons]at r5;intro y hy z hz hne;rcases List.mem_cons.1 hy with h1|h1
   ·rcases List.mem_cons.1 hz with h2|h2
    ·exact absurd (by rw[h1,h2]) hne
    ·rw[h1];exact .inl (r5.1 z h2)
   ·rcases List.mem_cons.1 hz with h2|h2
    ·rw[h2];exact .inr (r5.1 y h1)
    ·exact ih r5.2 y h1 z h2 hne
 have hin:∀ i o,ops[i]?=some o→∃ h:i<mos.length,(i,mos[i]'h)∈VD mos:=fun i o ho=>by
  have hi:=(Array.getElem?_eq_some_iff.1 ho).1;refine ⟨by omega,?_⟩;unfold VD;refine List.mem_iff_getElem?.2 ⟨i,?_⟩;rw[List.getElem?_zip_eq_some];exact ⟨by rw[List.getElem?_range' (by omega)];simp,List.getElem?_eq_getElem _⟩
 refine wp_region_any Zq ?_
 refine Zdp (P:=P) (E:=E) (w0:=w0) (S:=S) (N:=N) (D:=D) (ops:=ops) (pr:=Zai cl) (bs:=bs) (mt:=x.1.nb) (B:=B) (Es0:=Es0) (H0:=H0) (lb:=lb) (Tf:=x.1.T) (Hf:=x.1.G G) hE (fun i o ho j hj=>?_) (fun i o ho e he hb=>?_) hB
  (fun Es' U a1 w1 h1 h2 h3 h4 h5=>⟨rfl,⟨Es',h1.less fun y hy=>h2 y hy.1 hy.2,h5⟩,Nat.le_trans hlb g.nb,h4,h3⟩)
  ops.size ll (Array.replicate ops.size false) Es _ _ _ a { w with drawn:=w.drawn+1 } (by rw[hlen,hsz]) r1 (ZaC ll (by rw[hwi];exact hstat) (by rw[r4]at hdyn;simpa using hdyn)) (by rw[r2];exact List.nodup_range') (vQ hl hf r2 r3) (by simp) (fun i hi=>?_) (fun i o ho hni=>absurd ?_ hni)
  ⟨hsat.ne,hsat.cl,hsat.fr,hsat.pin,hsat.tm,fun ρ hρ=>(hsat.hp ρ hρ).drew⟩ (fun y hy hb=>⟨Nat.le_trans g.nb hy,hb⟩) (fun y hy=>⟨Nat.le_trans hlb (r6 y hy).1,(r6 y hy).2,fun z hz=>⟨by have:=r6 y hy;omega,hB _ (by have:=r6 y hy;omega)⟩,fun z hz hne m h1 h2 h3=>by rcases hdis y hy z hz hne with h|h<;>omega⟩) (hadv.mono fun z hz=>⟨hz.1,by have:=g.nb;omega,fun y hy h=>by have:=r6 y hy;omega⟩) hD hNs
 ·obtain ⟨hi,hm⟩:=hin i o ho
  have h1:=List.all_eq_true.1 (List.all_eq_true.1 hcl _ hm) j hj;obtain ⟨k,hk,hkj⟩:=List.any_eq_true.1 h1;rw[hpo i o ho]at hk;unfold Vo at hk;obtain ⟨e,he,hk⟩:=List.mem_filterMap.1 hk;split at hk
  ·rename_i hb
   injection hk with hk;refine ⟨e,Array.mem_toList_iff.1 he,hb,?_⟩;rw[hk];simpa using hkj
  ·cases hk
 ·obtain ⟨hi,hm⟩:=hin i o ho
  have h1:=List.all_eq_true.1 hback _ hm;simp only[hpo i o ho]at h1;have h2:=List.all_eq_true.1 h1 e.on (by unfold Vo;exact List.mem_filterMap.2 ⟨e,Array.mem_toList_iff.2 he,by simp[hb]⟩);simpa using h2
 ·rw[r2,hsz]at *
  simp[hi]
 ·rw[r2,← hsz]
  have:=(Array.getElem?_eq_some_iff.1 ho).1;simp[this]
theorem Zj7 {code:Code} {x y:MCode} (hc:rC P code=some (.seq x y)):∃ c d,code=.seq c d∧rC P c=some x∧rC P d=some y:=by
 cases code<;>simp only[rC,reduceCtorEq,Option.some.injEq]at hc
 case seq c d =>
  split at hc
  ·rename_i x' y' h1 h2
   injection hc with hc;injection hc with e1 e2;subst e1 e2;exact ⟨c,d,rfl,h1,h2⟩
  ·cases hc
 all_goals ((repeat' (split at hc))<;>first|(cases hc;done)|(simp only[Option.map_eq_some_iff,reduceCtorEq,and_false,exists_false]at hc;done))
theorem Zi1 {code:Code} {c:X} {x y:MCode} (hc:rC P code=some (.cond c x y)):∃ o a b,code=.cond o a b∧c=rX o∧rC P a=some x∧rC P b=some y:=by
 cases code<;>simp only[rC,reduceCtorEq,Option.some.injEq]at hc
 case cond o c d =>
  split at hc
  ·rename_i x' y' h1 h2
   injection hc with hc;injection hc with e0 e1 e2;subst e0 e1 e2;exact ⟨o,c,d,rfl,rfl,h1,h2⟩
  ·cases hc
 all_goals ((repeat' (split at hc))<;>first|(cases hc;done)|(simp only[Option.map_eq_some_iff,reduceCtorEq,and_false,exists_false]at hc;done))
theorem Zgk {code:Code} {id:Nat} {x:MCode} (hc:rC P code=some (.block id x)):∃ c,code=.block id c∧rC P c=some x:=by
 cases code<;>simp only[rC,reduceCtorEq,Option.some.injEq]at hc
 case block j c =>
  cases hq:rC P c with
  | none=>simp[hq]at hc
  | some x' =>
   simp only[hq,Option.map_some,Option.some.injEq,MCode.block.injEq]at hc;obtain ⟨e1,e2⟩:=hc;subst e1 e2;exact ⟨c,rfl,hq⟩
 all_goals ((repeat' (split at hc))<;>first|(cases hc;done)|(simp only[Option.map_eq_some_iff,reduceCtorEq,and_false,exists_false]at hc;done))
theorem Zhy {code:Code} {x:MCode} (hc:rC P code=some (.loop x)):∃ c,code=.loop c∧rC P c=some x:=by
 cases code<;>simp only[rC,reduceCtorEq,Option.some.injEq]at hc
 case loop c =>
  cases hq:rC P c with
  | none=>simp[hq]at hc
  | some x' =>
   simp only[hq,Option.map_some,Option.some.injEq,MCode.loop.injEq]at hc;subst hc;exact ⟨c,rfl,hq⟩
 all_goals ((repeat' (split at hc))<;>first|(cases hc;done)|(simp only[Option.map_eq_some_iff,reduceCtorEq,and_false,exists_false]at hc;done))
theorem ZjK (hE:Zd P E) (Zq:P.follows .mixedOrders=true) (hN:N≤bnd):∀ (n:Nat) {c:MCode} {s:ES} {e:Exit} {s':ES},Vm E N G n c s=some (e,s')→s.Ok→(∀ m,m<s'.nb→B m)→∀ {code:Code},rC P code=some c→∀ {a:Act} {w:World},Zgt w0 S N D B Es0 H0 lb s.T (s.G G) s.nb a w →
  code.wp P (fun e1 a1 w1=>e1=e∧Zgt w0 S N D B Es0 H0 lb s'.T (s'.G G) s'.nb a1 w1) a w:=by
 intro n
 induction n using Nat.strongRecOn with
 | _ n ih =>
  intro c s e s' h hok hB code hc a w hs;cases n with
  | zero=>simp[Vm]at h
  | succ n =>
   cases c with
   | skip =>
    simp only[Vm,Option.some.injEq,Prod.mk.injEq]at h;obtain ⟨rfl,rfl⟩:=h;cases code<;>simp only[rC,reduceCtorEq]at hc
    case skip=>exact wp_skip ⟨rfl,hs⟩
    all_goals ((repeat' (split at hc))<;>first|(cases hc;done)|(simp only[Option.map_eq_some_iff,reduceCtorEq,and_false,exists_false]at hc;done))
   | exit id =>
    simp only[Vm,Option.some.injEq,Prod.mk.injEq]at h;obtain ⟨rfl,rfl⟩:=h;cases code<;>simp only[rC,reduceCtorEq,Option.some.injEq]at hc
    case exit j=>injection hc with hc;subst hc;exact wp_exit ⟨rfl,hs⟩
    all_goals ((repeat' (split at hc))<;>first|(cases hc;done)|(simp only[Option.map_eq_some_iff,reduceCtorEq,and_false,exists_false]at hc;done))
   | ret =>
    simp only[Vm,Option.some.injEq,Prod.mk.injEq]at h;obtain ⟨rfl,rfl⟩:=h;cases code<;>simp only[rC,reduceCtorEq]at hc
    case ret=>exact wp_ret ⟨rfl,hs⟩
    all_goals ((repeat' (split at hc))<;>first|(cases hc;done)|(simp only[Option.map_eq_some_iff,reduceCtorEq,and_false,exists_false]at hc;done))
   | reg mos =>
    simp only[Vm]at h;split at h
    ·rename_i hf
     split at h
     ·rename_i x hx
      injection h with h;injection h with h1 h2;subst h1 h2;exact Ze0 hE hN hf hx hok hB hc hs
     ·cases h
    ·cases h
   | draw mos pr =>
    simp only[Vm]at h;split at h
    ·rename_i hd
     split at h
     ·rename_i x hx
      split at h
      ·rename_i hdy
       injection h with h;injection h with h1 h2;subst h1 h2;exact ZcW hE Zq hN hd hx hdy hok hB hc hs
      ·cases h
     ·cases h
    ·cases h
   | seq x y =>
    simp only[Vm]at h;obtain ⟨c,d,rfl,hc1,hc2⟩:=Zj7 hc;refine wp_seq ?_;rcases TX h with ⟨s1,h1,h2⟩ | ⟨h1,h2⟩
    ·have g1:=(XC hN n hok h1).1
     have g2:=(XC hN n g1.ok h2).1;refine wp_mono (ih n (Nat.lt_succ_self n) h1 hok (fun m hm=>hB m (by have:=g2.nb;omega)) hc1 hs) fun e1 a1 w1 ⟨he,hs1⟩ => ?_;subst he;exact ih n (Nat.lt_succ_self n) h2 g1.ok hB hc2 hs1
    ·refine wp_mono (ih n (Nat.lt_succ_self n) h1 hok hB hc1 hs) fun e1 a1 w1 ⟨he,hs1⟩ => ?_
     subst he;cases e1<;>first|exact absurd rfl h2|exact ⟨rfl,hs1⟩
   | cond c x y =>
    simp only[Vm]at h;obtain ⟨o,a1,b1,rfl,rfl,hc1,hc2⟩:=Zi1 hc;have hs0:=hs;obtain ⟨⟨Es,hsat,_⟩,_,_,_⟩:=hs0;obtain ⟨ρ,hρ⟩:=hsat.ne;have hev:=hsat.ev hρ o;split at h
    ·rename_i hb
     rw[hb,Rep]at hev;exact wp_cond_split hev (fun _=>ih n (Nat.lt_succ_self n) h hok hB hc1 hs) (fun e=>by cases e)
    ·rename_i hb
     rw[hb,Rep]at hev;exact wp_cond_split hev (fun e=>by cases e) (fun _=>ih n (Nat.lt_succ_self n) h hok hB hc2 hs)
    ·cases h
   | block id x =>
    simp only[Vm]at h;obtain ⟨c,rfl,hc1⟩:=Zgk hc;obtain ⟨e0,h1,h2⟩:=zU h;refine wp_block (wp_mono (ih n (Nat.lt_succ_self n) h1 hok hB hc1 hs) fun e1 a1 w1 ⟨he,hs1⟩ => ?_);subst he;cases e1 with
    | exit j =>
     simp only[Exit.inBlock];simp only at h2;split
     ·rename_i hj;rw[if_pos hj]at h2;exact ⟨h2.symm,hs1⟩
     ·rename_i hj;rw[if_neg hj]at h2;exact ⟨h2.symm,hs1⟩
    | _=>exact ⟨h2.symm,hs1⟩
   | loop x =>
    obtain ⟨c,rfl,hc1⟩:=Zhy hc;refine wp_loop_rounds (n+1) ?_;have key:∀ m,m≤n+1→∀ {s:ES},Vm E N G m (.loop x) s=some (e,s')→s.Ok→∀ {a:Act} {w:World},Zgt w0 S N D B Es0 H0 lb s.T (s.G G) s.nb a w→Code.rounds P c (fun e1 a1 w1=>e1=e∧Zgt w0 S N D B Es0 H0 lb s'.T (s'.G G) s'.nb a1 w1) m a w:=by
     intro m
     induction m with
     | zero=>intro _ s h;simp[Vm]at h
     | succ m ihm =>
      intro hle s h hok a w hs;simp only[Vm]at h;rw[rounds_succ];rcases TX h with ⟨s1,h1,h2⟩ | ⟨h1,h2⟩
      ·have g1:=(XC hN m hok h1).1
       have g2:=(XC hN m g1.ok h2).1;refine wp_mono (ih m (by omega) h1 hok (fun k hk=>hB k (by have:=g2.nb;omega)) hc1 hs) fun e1 a1 w1 ⟨he,hs1⟩ => ?_;subst he;exact ihm (by omega) h2 g1.ok hs1
      ·refine wp_mono (ih m (by omega) h1 hok hB hc1 hs) fun e1 a1 w1 ⟨he,hs1⟩ => ?_
       subst he;cases e1<;>first|exact absurd rfl h2|exact ⟨rfl,hs1⟩
    exact key (n+1) (Nat.le_refl _) h hok hs
end
theorem Zbm:∀ (avs:List AV) (i:Nat) (t:Tr AV),i+avs.length≤bnd+1→∀ j,(Zjq i avs t).get j=if i≤j∧j<i+avs.length then avs[j - i]? else t.get j
 | [],i,t,_,j=>by simp only[Zjq,List.length_nil];rw[if_neg (by omega)]
 | v :: r,i,t,h,j=>by
  simp only[List.length_cons]at h⊢;rw[Zjq,Zbm r (i+1) _ (by omega),Tr.get_put' (by omega)];by_cases h1:j=i
  ·subst h1
   rw[if_neg (by omega),if_pos rfl,if_pos (by omega)];simp
  ·by_cases h2:i≤j∧j<i+(r.length+1)
   ·rw[if_pos (by omega),if_pos h2,show j - i=(j - (i+1))+1 from by omega]
    simp
   ·rw[if_neg (by omega),if_neg h1,if_neg h2]
theorem Zho {f:Nat→NObj}:∀ (l:List Nat) (x:Nat),hk (l.map fun x=>(x,f x)) x=if x∈l then f x else .free
 | [],x=>by simp[hk]
 | y :: l,x=>by
  simp only[List.map_cons,hk];rw[Zho l];by_cases e:x=y
  ·subst e;rw[if_pos rfl,if_pos List.mem_cons_self]
  ·rw[if_neg e]
   by_cases h:x∈l
   ·rw[if_pos h,if_pos (List.mem_cons_of_mem _ h)]
   ·rw[if_neg h,if_neg (by simp[e,h])]
theorem ZkD (s:ES):∀ (res:List RV) (n:Nat),lk (s.st res).tl n≠.bot→lk (s.st res).tl n=s.T n
 | [],n,h=>absurd rfl h
 | r :: res,n,h=>by
  have ih:=ZkD s res n;simp only[ES.st,List.map_cons]at h ih⊢;cases r<;>simp only[lk]at h ih⊢<;>(split at h<;>rename_i e)<;>first|(rw[if_pos e,e])|(rw[if_neg e];exact ih h)
theorem st_hl (s:ES) (res:List RV) (G:NH) (x:Nat):hk (s.st res).hl x=s.G G x∨hk (s.st res).hl x=.free:=by
 simp only[ES.st];rw[Zho];split
 ·unfold ES.G
  cases s.h.get x with
  | some o=>exact .inl rfl
  | none=>exact .inr rfl
 ·exact .inr rfl
theorem Zdk {G G':NH} (h:∀ x,G' x=G x∨G' x=.free) (x:Nm):Zj G' x=Zj G x∨Zj G' x=.free:=by
 rcases h x.root with e|e
 ·exact .inl (ZU e.symm)
 ·exact .inr (XI e rfl)
theorem ZaK {G G':NH} (h:∀ x,G' x=G x∨G' x=.free) (x:Nm):HF G' x=HF G x∨HF G' x=.free:=by
 rcases Zdk h x with e|e
 ·left;unfold HF;rw[e]
 ·exact .inr (Zt.2 e)
theorem Sat.forget {w0:World} {S:Sc} {Es:Env→Prop} {U:Nm→Prop} {T T':Nat→AV} {G G':NH} {a:Act} {w:World} (h:Sat w0 S Es U T (HF G) a w) (hT:∀ t,T' t≠.bot→T' t=T t) (hG:∀ x,G' x=G x∨G' x=.free):Sat w0 S Es U T' (HF G') a w :=
 ⟨h.ne,h.cl,fun x hx=>(ZaK hG x).elim (fun e=>by rw[e];exact h.fr x hx) id,fun ρ ρ' h1 h2 x hx=>h.pin ρ ρ' h1 h2 x fun e=>hx ((ZaK hG x).elim (fun e' => by rw[e'];exact e) id),fun ρ hρ t ht=>by
  have e:=hT t ht;rw[e]at ht⊢;exact h.tm ρ hρ t ht,fun ρ hρ=>(h.hp ρ hρ).weaken (ZaK hG)⟩
abbrev es0 (avs:List AV) (nb:Nat):ES:=⟨Zjq 0 avs .nil,.nil,[],[],nb⟩
theorem ZjT (avs:List AV) (nb:Nat):(es0 avs nb).Ok:=fun x hx=>absurd rfl hx
theorem es0_G (avs:List AV) (nb:Nat) (G:NH):(es0 avs nb).G G=G:=rfl
theorem es0_T {avs:List AV} {nb:Nat} (h:avs.length≤bnd+1) (n:Nat):(es0 avs nb).T n=(avs[n]?).getD .bot:=by
 unfold ES.T;simp only[es0];rw[Zbm avs 0 .nil (by omega)];by_cases hn:n<avs.length
 ·rw[if_pos (by omega),Nat.sub_zero,List.getElem?_eq_getElem hn];rfl
 ·rw[if_neg (by omega),List.getElem?_eq_none (by omega)];rfl
theorem ZeW {E:FuncId→Option Spec} {P:Program} {f:FuncId} {args:List AV} {G:NH} {nb:Nat} {r:Res} (h:evF E P f args G nb=some r):∃ fn mc res e s v,P.funcs[f]?=some fn∧ZeJ P fn=some mc∧Zaj P fn.results.toList=some res∧args.length≤fn.ntmps∧fn.ntmps≤bnd∧Vm E fn.ntmps G 100000 mc (es0 args nb)=some (e,s)∧(e=.normal∨e=.ret)∧z8 (s.st res) res=some v ∧
  r=⟨v,s.wl.map (fun x=>(x,s.G (fun _=>.free) x)),s.rd,s.nb - nb⟩:=by
 unfold evF at h
 split at h
 ·rename_i fn hfn
  split at h
  ·rename_i mc res hmc hres
   split at h
   ·rename_i hle
    unfold evE at h;have fin:∀ {e:Exit} {s:ES},(e=.normal∨e=.ret)→Vm E fn.ntmps G 100000 mc (es0 args nb)=some (e,s)→(match z8 (s.st res) res with
     | some v=>some (⟨v,s.wl.map (fun x=>(x,s.G (fun _=>.free) x)),s.rd,s.nb - nb⟩:Res)
     | none=>none)=some r→∃ fn mc res e s v,P.funcs[f]?=some fn∧ZeJ P fn=some mc∧Zaj P fn.results.toList=some res∧args.length≤fn.ntmps∧fn.ntmps≤bnd∧Vm E fn.ntmps G 100000 mc (es0 args nb)=some (e,s)∧(e=.normal∨e=.ret)∧z8 (s.st res) res=some v ∧
      r=⟨v,s.wl.map (fun x=>(x,s.G (fun _=>.free) x)),s.rd,s.nb - nb⟩:=by
     intro e s he hev hr
     split at hr
     ·rename_i v hv
      injection hr with hr;exact ⟨fn,mc,res,e,s,v,hfn,hmc,hres,hle.1,hle.2,hev,he,hv,hr.symm⟩
     ·cases hr
    split at h
    ·rename_i s hev;exact fin (.inl rfl) hev h
    ·rename_i s hev;exact fin (.inr rfl) hev h
    ·cases h
   ·cases h
  ·cases h
 ·cases h
theorem HCore.grow {w0:World} {S:Sc} {ρ:Env} {H:Nm→AObj} {w w':World} (h:HCore w0 S ρ H w) (h1:w'.os=w.os) (h2:w'.tape=w.tape) (h3:w'.output=w.output) (hs:w.heap.size≤w'.heap.size) (hb:∀ b,b<w.heap.size→w'.heap[b]?=w.heap[b]?):HCore w0 S ρ H w' where
 an:=h.an
 os:=h1.trans h.os
 tape:=h2.trans h.tape
 output:=h3.trans h.output
 size:=Nat.le_trans h.size hs
 frame b hlt hns:=by rw[hb b (Nat.lt_of_lt_of_le hlt h.size)];exact h.frame b hlt hns
 obj x:=by
  by_cases ho:ZF (ρ x) (H x)
  ·exact (h.obj x).same (hb _ (h.own x ho).1)
  ·by_cases hv:Yl (ρ x) (H x)
   ·exact (h.obj x).same (hb _ (Nat.lt_of_lt_of_le (h.vw x hv).1 h.size))
   ·exact (h.obj x).nil_same ho hv
 own x hx:=⟨Nat.lt_of_lt_of_le (h.own x hx).1 hs,(h.own x hx).2⟩
 dist:=h.dist
 vw:=h.vw
section
variable {P:Program} {E:FuncId→Option Spec}
theorem Zhx (hE:Zd P E) (Zq:P.follows .mixedOrders=true) {f:FuncId} {fn:Func} {mc:MCode} {res:List RV} {e:Exit} {s:ES} {v:AV} {avs:List AV} {vs:List Value} {H:NH} {nb:Nat} (h1:P.funcs[f]?=some fn) (h2:ZeJ P fn=some mc) (h3:Zaj P fn.results.toList=some res) (h4:avs.length≤fn.ntmps) (h5:fn.ntmps≤bnd) (h6:Vm E fn.ntmps H 100000 mc (es0 avs nb)=some (e,s)) (h7:e=.normal∨e=.ret) (h8:z8 (s.st res) res=some v)
  {w0:World} {S:Sc} {Es:Env→Prop} {U:Nm→Prop} {w:World} (k1:∃ ρ,Es ρ) (k2:∀ ρ ρ',Es ρ→(∀ x,¬ U x→ρ' x=ρ x)→Es ρ') (k3:∀ x,U x→HF H x=.free) (k4:∀ ρ ρ',Es ρ→Es ρ'→∀ x,HF H x≠.free→ρ x=ρ' x) (k5:∀ ρ,Es ρ→HCore w0 S ρ (HF H) w) (k6:∀ ρ,Es ρ→Z8 ρ avs vs) (k8:∀ x:Nm,nb≤x.mx∧x.mx<s.nb→U x) :
  (Calls P f vs.toArray w fun e w' => ∃ (u:Value) (Es':Env→Prop),e=.returned u∧(∃ ρ,Es' ρ)∧Adv Es H Es' (s.G H) (fun x:Nm=>nb≤x.mx∧x.mx<s.nb)∧∀ ρ,Es' ρ→Rep ρ v u∧HCore w0 S ρ (HF (s.G H)) w') ∧
  ∀ x:Nm,¬ (nb≤x.mx∧x.mx<s.nb)→Zj (s.G H) x≠.free→Zj H x≠.free:=by
 obtain ⟨c,hb,hrc⟩:=Uw h2
 have hvl:∀ ρ,Es ρ→vs.length=avs.length:=fun ρ hρ=>(k6 ρ hρ).length
 obtain ⟨ρ0,h0⟩:=k1
 have hvl0:=hvl ρ0 h0
 have hwp:=ZjK (P:=P) (E:=E) (w0:=w0) (S:=S) (N:=fn.ntmps) (D:=[]) (B:=fun m=>m<s.nb) (Es0:=Es) (H0:=H) (lb:=nb) (G:=H) hE Zq h5 100000 h6 (ZjT avs nb) (fun m hm=>hm) hrc
  (a:={ tmps:=vs.toArray++Array.replicate (fn.ntmps - vs.toArray.size) undef,defers:=[] }) (w:=w)
  ⟨⟨Es,⟨⟨ρ0,h0⟩,fun ρ ρ' hρ he=>k2 ρ ρ' hρ fun x hx=>he x fun hu=>hx (k8 x hu),fun x hx=>by rw[es0_G];exact k3 x (k8 x hx),k4,fun ρ hρ t ht=>by
   rw[es0_T (by omega)]at ht⊢;cases hav:avs[t]? with
   | none=>rw[hav]at ht;exact absurd rfl ht
   | some av =>
    rw[Option.getD_some];obtain ⟨u,hu,hr⟩:=(k6 ρ hρ).get hav;refine ⟨u,?_,hr⟩;have ht:t<vs.length:=(List.getElem?_eq_some_iff.1 hu).1;rw[Array.getElem?_append_left (by simpa using ht)];simpa using hu,k5⟩,Adv.refl _ _ _⟩,Nat.le_refl _,by simp;omega,rfl⟩
 refine ⟨calls_of_wp h1 hb (wp_mono hwp fun e1 a1 w1 ⟨he,⟨Es',hsat,hadv⟩,hle,hN,hD⟩ => ?_),?_⟩
 ·have hs':=hsat.forget (T':=lk (s.st res).tl) (G':=hk (s.st res).hl) (ZkD s res) (st_hl s res H)
  obtain ⟨u,hu,hr⟩:=yU h3 hs' h8;have fin:bodyPost P fn (fun e w' => ∃ (u:Value) (Es':Env→Prop),e=.returned u∧(∃ ρ,Es' ρ)∧Adv Es H Es' (s.G H) (fun x:Nm=>nb≤x.mx∧x.mx<s.nb)∧∀ ρ,Es' ρ→Rep ρ v u∧HCore w0 S ρ (HF (s.G H)) w') .normal a1 w1 :=
   ⟨hD,u,hu,u,Es',rfl,hsat.ne,hadv,fun ρ hρ=>⟨hr ρ hρ,hsat.hp ρ hρ⟩⟩
  subst he;rcases h7 with rfl|rfl
  ·exact fin
  ·exact fin
 ·obtain ⟨e1,a1,w1,⟨_,⟨Es',_,hadv⟩,_⟩,_⟩:=hwp default [] []
  exact hadv.2
def Zkt (b:Bool):Spec where
 fn:=fun args _ _=>match args with
  | []=>some ⟨.bool b,[],[],8⟩
  | _=>none
 loc:=fun args G G' nb r h _=>h
 nm:=fun args G nb r h x hx=>by
  split at h
  ·injection h with h;subst h;simp at hx
  ·cases h
def evB (E:FuncId→Option Spec) (P:Program) (f:FuncId):Option Bool :=
 match evF E P f [] (fun _=>.free) 0 with
 | some r=>(match r.v with
  | .bool b=>some b
  | _=>none)
 | none=>none
theorem Zdm (hE:Zd P E) (Zq:P.follows .mixedOrders=true) (hn:P.funcs.all (fun fn=>!(fn.name == "runtime.NumGoroutine"))=true) {f:FuncId} {b:Bool} (h:evB E P f=some b):Sound P f (Zkt b):=by
 unfold evB at h;split at h
 ·rename_i r hr
  split at h
  ·rename_i b' hv
   injection h with h;subst h;obtain ⟨fn,mc,res,e,s,v,h1,h2,h3,h4,h5,h6,h7,h8,rfl⟩:=ZeW hr;simp only at hv;subst hv;obtain ⟨c,hb,_⟩:=Uw h2;refine ⟨⟨fn,h1,?_,by rw[hb];rfl⟩,fun w0 S Es U H w avs vs nb r k1 k2 k3 k4 k5 k6 k7 k8=>?_⟩
   ·have:=Array.all_eq_true.1 hn
    obtain ⟨hi,he⟩:=Array.getElem?_eq_some_iff.1 h1;have:=this f hi;rw[he]at this;simpa using this
   ·simp only[Zkt]at k7
    split at k7
    ·injection k7 with k7
     subst k7;obtain ⟨ρ0,h0⟩:=k1;have hvs:vs=[]:=k6 ρ0 h0;subst hvs;have hfree:∀ x:Nm,HF (fun _=>NObj.free) x=.free:=fun x=>Zt.2 (XI rfl rfl);obtain ⟨q1,q2⟩:=Zhx (w0:=w) (S:=⟨fun _=>False,0,fun _=>⟨0,0,0,0,false⟩⟩) (Es:=fun _=>True) (U:=fun _=>True) (w:=w) (vs:=[]) hE Zq h1 h2 h3 h4 h5 h6 h7 h8 ⟨ρ0,trivial⟩ (fun _ _ _ _=>trivial) (fun x _=>hfree x) (fun _ _ _ _ x hx=>absurd (hfree x) hx)
      (fun ρ _=>⟨rfl,rfl,rfl,Nat.le_refl _,fun _ _ _=>rfl,fun x=>by rw[hfree];trivial,fun x hx=>by rw[hfree]at hx;exact hx.elim,fun x y hx=>by rw[hfree]at hx;exact hx.elim,fun x hx=>by rw[hfree]at hx;exact hx.elim,fun x hx=>absurd hx (Nat.not_lt_zero x)⟩) (fun ρ _=>rfl) (fun _ _=>trivial)
     refine ⟨q1.mono fun e w' ⟨u,Es',he,⟨ρ1,hρ1⟩,_,hall⟩ => ⟨u,ρ0,he,fun ρ hρ hg=>?_⟩,fun x _ hne=>hne⟩;obtain ⟨a1,a2⟩:=hall ρ1 hρ1;simp only[Rep]at a1⊢;exact ⟨a1,(k5 ρ hρ).grow a2.os a2.tape a2.output a2.size fun b hb=>a2.frame b hb fun h=>h⟩
    ·cases k7
  ·cases h
 ·cases h
end
open Go.Proofs
set_option maxRecDepth 100000
def ELa:List (FuncId×Spec):=[(30,Zm [] d30 ok30),(5,Zm [(10,false)] d5 ok5),(18,Zm [] d18 ok18),(22,Zm [(4,true),(10,true)] d22 ok22),(20,Zm [] d20 ok20),(21,Zm [] d21 ok21),(26,Zm [(4,false)] d26 ok26),(27,Zm [(4,false)] d27 ok27)]
theorem Zjv:Zd Tryz.prog (EL ELa):=Ze (by
 simp only[ELa,List.mem_cons,List.not_mem_nil,or_false,forall_eq_or_imp,forall_eq];exact ⟨s30,s5,s18,s22,s20,s21,s26,s27⟩)
theorem evT:evB (EL ELa) Tryz.prog 16=some true:=by kernel_rfl
theorem ZjJ:Tryz.prog.funcs.all (fun fn=>!(fn.name == "runtime.NumGoroutine"))=true:=by kernel_rfl
theorem s16c:Sound Tryz.prog 16 (Zkt true):=Zdm Zjv (by kernel_rfl) ZjJ evT
@[simp] theorem con_fn (b:Bool) (G:NH) (nb:Nat):(Zkt b).fn [] G nb=some ⟨.bool b,[],[],8⟩:=rfl
end Go.W
