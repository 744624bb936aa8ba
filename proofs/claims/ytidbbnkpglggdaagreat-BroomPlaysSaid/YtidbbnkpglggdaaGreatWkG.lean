/- A long region that draws its order, in parts: behind each part only what is used later is kept. -/
import Derived.Test.YtidbbnkpglggdaaGreatWrB
namespace Go.W
set_option linter.unusedSimpArgs false
set_option linter.unusedVariables false
def Zir (m b:Nat):Prop:=∀ k,m.testBit k=true→b.testBit k=true
theorem Xn (m k:Nat):(m >>> k) % 2=1↔m.testBit k=true:=by
 rw[Nat.testBit,Nat.and_comm,Nat.and_one_is_mod];simp
theorem Zad {m k j:Nat} (h:m.testBit k=true):(m ^^^ (1 <<< k)).testBit j=(m.testBit j&&decide (j≠k)):=by
 rw[Nat.testBit_xor,Nat.one_shiftLeft,Nat.testBit_two_pow];by_cases e:k=j
 ·subst e;simp[h]
 ·have e':¬ j=k:=fun x=>e x.symm
  simp[e,e']
def Um (b:Nat) (tl tl':TL):Prop:=∀ m,Zir m b→Xi m tl=Xi m tl'
theorem Um.put {b:Nat} {tl tl':TL} (h:Um b tl tl') (d:Nat) (v:AV):Um (b ||| (1 <<< d)) ((d,v) :: tl) ((d,v) :: tl'):=fun m hm=>by
 simp only[Xi];split
 ·rename_i hd
  rw[Xn]at hd;rw[h (m ^^^ (1 <<< d)) fun k hk=>?_];rw[Zad hd]at hk;simp only[Bool.and_eq_true,decide_eq_true_eq]at hk;have:=hm k hk.1;rw[Nat.testBit_or,Nat.one_shiftLeft,Nat.testBit_two_pow]at this;simpa [show ¬ d=k from fun e=>hk.2 e.symm] using this
 ·rename_i hd
  rw[Xn]at hd;exact h m fun k hk=>by
   have:=hm k hk;rw[Nat.testBit_or,Nat.one_shiftLeft,Nat.testBit_two_pow]at this;have e:¬ d=k:=fun e=>hd (by rw[e];exact hk);simpa [e] using this
theorem Um.mono {b b':Nat} {tl tl':TL} (h:Um b tl tl') (hb:Zir b' b):Um b' tl tl':=fun m hm=>h m fun k hk=>hb k (hm k hk)
theorem Um.keep:∀ (tl:TL) (b:Nat),Um b tl (Xi b tl)
 | [],b,m,_=>rfl
 | (k,v) :: r,b,m,hm=>by
  simp only[Xi];by_cases hb:(b >>> k) % 2=1
  ·rw[if_pos hb]
   have hb':=(Xn _ _).1 hb;simp only[Xi];by_cases hk:(m >>> k) % 2=1
   ·rw[if_pos hk,if_pos hk]
    have hk':=(Xn _ _).1 hk;rw[Um.keep r (b ^^^ (1 <<< k)) (m ^^^ (1 <<< k)) fun j hj=>by
     rw[Zad hk']at hj;rw[Zad hb'];simp only[Bool.and_eq_true,decide_eq_true_eq]at hj⊢;exact ⟨hm j hj.1,hj.2⟩]
   ·rw[if_neg hk,if_neg hk]
    refine Um.keep r (b ^^^ (1 <<< k)) m fun j hj=>?_;rw[Zad hb'];simp only[Bool.and_eq_true,decide_eq_true_eq];exact ⟨hm j hj,fun e=>hk ((Xn _ _).2 (by rw[← e];exact hj))⟩
  ·rw[if_neg hb]
   have hk:¬ (m >>> k) % 2=1:=fun h=>hb ((Xn _ _).2 (hm k ((Xn _ _).1 h)));rw[if_neg hk];exact Um.keep r b m hm
theorem Tl:∀ (tl:TL) (m j:Nat),m.testBit j=true→lk (Xi m tl) j=lk tl j
 | [],_,_,_=>rfl
 | (k,v) :: r,m,j,h=>by
  simp only[Xi];split
  ·rename_i hk
   have hk':=(Xn _ _).1 hk;simp only[lk];by_cases e:j=k
   ·rw[if_pos e,if_pos e]
   ·rw[if_neg e,if_neg e]
    exact Tl r _ j (by rw[Zad hk'];simp[h,e])
  ·rename_i hk
   have e:j≠k:=fun e=>hk ((Xn _ _).2 (by rw[← e];exact h));simp only[lk];rw[if_neg e];exact Tl r m j h
theorem Um.lk {b:Nat} {tl tl':TL} (h:Um b tl tl') {k:Nat} (hk:b.testBit k=true):lk tl k=lk tl' k:=by
 have h1:=h (1 <<< k) fun j hj=>by
  rw[Nat.one_shiftLeft,Nat.testBit_two_pow]at hj;have:k=j:=by simpa using hj
  rw[← this];exact hk
 have h2:(1 <<< k).testBit k=true:=by rw[Nat.one_shiftLeft,Nat.testBit_two_pow];simp
 rw[← Tl tl _ k h2,← Tl tl' _ k h2,h1]
theorem zz:∀ (l:List Nat) (m j:Nat),(xU l m).testBit j=(m.testBit j || decide (j∈l))
 | [],m,j=>by simp[xU]
 | k :: r,m,j=>by
  rw[xU,zz r,Nat.testBit_or,Nat.one_shiftLeft,Nat.testBit_two_pow];by_cases e:k=j
  ·subst e;simp
  ·have:¬ j=k:=fun x=>e x.symm
   simp[e,this]
def addD:Option Nat→Nat→Nat
 | some d,b=>b ||| (1 <<< d)
 | none,b=>b
theorem ZfA {d:Option Nat} {m b:Nat} (h:Zir (clrD d m) b):Zir m (addD d b):=fun k hk=>by
 cases d with
 | none=>exact h k hk
 | some d =>
  simp only[addD];rw[Nat.testBit_or,Nat.one_shiftLeft,Nat.testBit_two_pow];by_cases e:d=k
  ·simp[e]
  ·have:=h k (by
    simp only[clrD];rw[Nat.testBit_xor,Nat.testBit_and,Nat.one_shiftLeft,Nat.testBit_two_pow,hk];simp[e])
   simp[this]
section
variable {E:FuncId→Option Spec} {nb:Nat}
theorem vj:∀ (A B:List MO) (i:Nat) (tl:TL) (hl:HL) (lg:LG) (P:TL×HL×LG→Prop),Vp (Yq E nb A i tl hl lg) (fun x=>Vp (Yq E nb B (i+A.length) x.1 x.2.1 x.2.2) P)→Vp (Yq E nb (A++B) i tl hl lg) P
 | [],B,i,tl,hl,lg,P,h=>by
  simp only[Yq,TO,List.length_nil,Nat.add_zero]at h;exact h
 | mo :: A,B,i,tl,hl,lg,P,h=>by
  have e:∀ (tl':TL) (hl':HL) (lg':LG),Vp (Yq E nb A (i+1) tl' hl' lg') (fun x=>Vp (Yq E nb B (i+(mo :: A).length) x.1 x.2.1 x.2.2) P)→Vp (Yq E nb (A++B) (i+1) tl' hl' lg') P:=fun tl' hl' lg' h' => vj A B (i+1) tl' hl' lg' P (by
   rw[show i+(mo :: A).length=i+1+A.length from by simp only[List.length_cons];omega]at h';exact h')
  rw[List.cons_append];simp only[Yq]at h⊢;split
  ·rename_i hg
   simp only[hg]at h;split
   ·rename_i q hq
    simp only[hq]at h;split
    ·rename_i h8
     rw[if_pos h8]at h;exact e _ _ _ h
    ·rename_i h8
     rw[if_neg h8]at h;obtain ⟨x,h1,_⟩:=h;cases h1
   ·rename_i hq
    simp only[hq]at h;obtain ⟨x,h1,_⟩:=h;cases h1
  ·rename_i s want hg
   simp only[hg]at h;split
   ·rename_i b hb
    simp only[hb]at h;split
    ·rename_i hbw
     rw[if_pos hbw]at h;split
     ·rename_i q hq
      simp only[hq]at h;split
      ·rename_i h8
       rw[if_pos h8]at h;exact e _ _ _ h
      ·rename_i h8
       rw[if_neg h8]at h;obtain ⟨x,h1,_⟩:=h;cases h1
     ·rename_i hq
      simp only[hq]at h;obtain ⟨x,h1,_⟩:=h;cases h1
    ·rename_i hbw
     rw[if_neg hbw]at h;exact e _ _ _ h
   ·rename_i v hb
    simp only[hb]at h;split
    ·rename_i hu
     rw[if_pos hu]at h;exact e _ _ _ h
    ·rename_i hu
     rw[if_neg hu]at h;obtain ⟨x,h1,_⟩:=h;cases h1
   ·rename_i hb1 hb2
    split at h
    ·rename_i b hb;exact absurd hb (hb1 b)
    ·rename_i v hb;exact absurd hb (hb2 v)
    ·obtain ⟨x,h1,_⟩:=h
     cases h1
theorem vY {T T':Nat→AV} {G:NH} {n:Nat} {m:MOp} (hT:∀ t,t∈m.looks→T t=T' t):YL E T G n m=YL E T' G n m:=by
 cases h:YL E T G n m with
 | some r=>exact (U9 hT h (fun _ _=>rfl)).symm
 | none =>
  cases h':YL E T' G n m with
  | none=>rfl
  | some r =>
   have:=U9 (fun t ht=>(hT t ht).symm) h' (fun (x:Nat) _=>(rfl:G x=G x));rw[h]at this;cases this
theorem TM {m:Nat}:∀ (mos:List MO) (i:Nat) (b:Nat) (tl tl':TL) (hl:HL) (lg:LG) (x':TL×HL×LG),Zir (UX mos m) b→Um b tl tl'→Yq E nb mos i tl' hl lg=some x'→∃ x,Yq E nb mos i tl hl lg=some x∧x.2=x'.2∧Xi m x.1=Xi m x'.1
 | [],i,b,tl,tl',hl,lg,x',hb,hs,h=>by
  simp only[Yq,Option.some.injEq]at h;subst h;exact ⟨_,rfl,rfl,hs m hb⟩
 | mo :: r,i,b,tl,tl',hl,lg,x',hb,hs,h=>by
  have hlk:∀ t,t∈mo.looks→lk tl t=lk tl' t:=fun t ht=>hs.lk (hb t (by rw[UX,zz];simp[ht]));have hrest:Zir (clrD mo.dst (UX r m)) b:=fun k hk=>hb k (by rw[UX,zz,hk];simp);have hop:∀ t,t∈mo.op.looks→lk tl t=lk tl' t:=fun t ht=>hlk t (by unfold MO.looks;exact List.mem_append_right _ ht);have go:∀ (u u':TL) (v:AV) (hl':HL) (lg':LG),Um b u u'→Yq E nb r (i+1) (UW u' mo.dst v) hl' lg'=some x'→∃ x,Yq E nb r (i+1) (UW u mo.dst v) hl' lg'=some x∧x.2=x'.2∧Xi m x.1=Xi m x'.1:=fun u u' v hl' lg' hu he=>by
   have hc:=ZfA hrest;generalize mo.dst=dd at hc he⊢;cases dd with
   | none =>
    exact TM r (i+1) b u u' hl' lg' x' hc hu he
   | some d =>
    exact TM r (i+1) (b ||| (1 <<< d)) ((d,v) :: u) ((d,v) :: u') hl' lg' x' hc (hu.put d v) he
  simp only[Yq]at h⊢;cases hg:mo.g with
  | none =>
   simp only[hg]at h⊢;rw[vY hop];split at h
   ·rename_i q hq
    split at h
    ·rename_i h8
     simp only[hq,h8,if_true];exact go _ _ _ _ _ hs h
    ·cases h
   ·cases h
  | some sw =>
   obtain ⟨s,want⟩:=sw;have hsb:b.testBit s=true:=hb s (by rw[UX,zz];simp[MO.looks,hg]);have hss:=hs.lk hsb;have putS:∀ v,Um b ((s,v) :: tl) ((s,v) :: tl'):=fun v=>(hs.put s v).mono fun k hk=>by rw[Nat.testBit_or,hk];rfl
   have lk2:∀ v t,t∈mo.op.looks→lk ((s,v) :: tl) t=lk ((s,v) :: tl') t:=fun v t ht=>by
    simp only[lk];split
    ·rfl
    ·exact hop t ht
   simp only[hg]at h⊢;rw[hss];split at h
   ·rename_i bb hbv
    split at h
    ·rename_i hbw
     subst hbw;simp only[hbv,if_true];rw[vY (lk2 (.bool bb))];split at h
     ·rename_i q hq
      split at h
      ·rename_i h8
       simp only[hq,h8,if_true];exact go _ _ _ _ _ (putS _) h
      ·cases h
     ·cases h
    ·rename_i hbw
     simp only[hbv,if_neg hbw];exact go _ _ _ _ _ (putS _) h
   ·rename_i v hbv
    split at h
    ·rename_i hu
     simp only[hbv,if_pos hu];exact go _ _ _ _ _ hs h
    ·cases h
   ·cases h
def evX (E:FuncId→Option Spec) (nb:Nat) (P:TL×HL×LG→Prop):List (List MO×Nat)→Nat→TL→HL→LG→Prop
 | [],_,tl,hl,lg=>P (tl,hl,lg)
 | (A,b) :: r,i,tl,hl,lg=>Vp (Yq E nb A i tl hl lg) fun x=>evX E nb P r (i+A.length) (Xi b x.1) x.2.1 x.2.2
theorem Zc3 (P:TL×HL×LG→Prop) (i:Nat) (tl:TL) (hl:HL) (lg:LG):evX E nb P [] i tl hl lg=P (tl,hl,lg):=by simp only[evX]
theorem ZbN (P:TL×HL×LG→Prop) (A:List MO) (b:Nat) (r:List (List MO×Nat)) (i:Nat) (tl:TL) (hl:HL) (lg:LG):evX E nb P ((A,b) :: r) i tl hl lg=Vp (Yq E nb A i tl hl lg) fun x=>evX E nb P r (i+A.length) (Xi b x.1) x.2.1 x.2.2:=by simp only[evX]
def Tw:List (List MO×Nat)→List MO
 | []=>[]
 | (A,_) :: r=>A++Tw r
def Zhw (m:Nat):List (List MO×Nat)→Bool
 | []=>true
 | (_,b) :: r=>Nat.beq (UX (Tw r) m &&& b) (UX (Tw r) m)&&Zhw m r
theorem ZjI {m b:Nat} (h:Nat.beq (m &&& b) m=true):Zir m b:=fun k hk=>by
 rw[Nat.beq_eq]at h;rw[← h,Nat.testBit_and]at hk;simp only[Bool.and_eq_true]at hk;exact hk.2
theorem Zg4 {m:Nat} {P:TL×HL×LG→Prop} (hP:∀ x x':TL×HL×LG,x.2=x'.2→Xi m x.1=Xi m x'.1→P x'→P x):∀ (segs:List (List MO×Nat)) (i:Nat) (tl:TL) (hl:HL) (lg:LG),Zhw m segs=true→evX E nb P segs i tl hl lg→Vp (Yq E nb (Tw segs) i tl hl lg) P
 | [],i,tl,hl,lg,_,h=>by
  rw[Zc3]at h;simp only[Tw,Yq,TO];exact h
 | (A,b) :: r,i,tl,hl,lg,hb,h=>by
  rw[ZbN]at h;simp only[Zhw,Bool.and_eq_true]at hb;rw[Tw];refine vj A (Tw r) i tl hl lg P ?_;obtain ⟨x,h1,h2⟩:=h;refine ⟨x,h1,?_⟩;obtain ⟨y,k1,k2⟩:=Zg4 hP r _ _ _ _ hb.2 h2;obtain ⟨z,l1,l2,l3⟩:=TM (m:=m) (Tw r) _ b x.1 (Xi b x.1) _ _ y (ZjI hb.1) (Um.keep x.1 b) k1;exact ⟨z,l1,hP z y l2 l3 k2⟩
def ZgM (c:Nat):Nat→List MO→Nat→List (List MO×Nat)
 | 0,l,m=>[(l,m)]
 | f+1,l,m=>if l.length≤c then [(l,m)] else (l.take c,UX (l.drop c) m) :: ZgM c f (l.drop c) m
theorem yi (c:Nat):∀ (f:Nat) (l:List MO) (m:Nat),Tw (ZgM c f l m)=l
 | 0,l,m=>by simp[ZgM,Tw]
 | f+1,l,m=>by
  simp only[ZgM];split
  ·simp[Tw]
  ·simp only[Tw]
   rw[yi c f,List.take_append_drop]
theorem Zel (c:Nat):∀ (f:Nat) (l:List MO) (m:Nat),Zhw m (ZgM c f l m)=true
 | 0,l,m=>by
  simp only[ZgM,Zhw,Tw,UX,Bool.and_true];rw[Nat.and_self];exact Nat.beq_refl m
 | f+1,l,m=>by
  simp only[ZgM];split
  ·simp only[Zhw,Tw,UX,Bool.and_true]
   rw[Nat.and_self];exact Nat.beq_refl m
  ·simp only[Zhw,Bool.and_eq_true]
   refine ⟨?_,Zel c f _ _⟩;rw[yi,Nat.and_self];exact Nat.beq_refl _
end
section
variable {P:Program} {E:FuncId→Option Spec} {w0:World} {S:Sc} {N:Nat} {D:List Deferred} {Q:Exit→St→Prop}
theorem kDX (hE:Zd P E) (Zq:P.follows .mixedOrders=true) {mos:List MO} {pr:List (List Nat)} {m n nb:Nat} {tl:TL} {hl:HL} {segs:List (List MO×Nat)} (hs:ZgM 12 20 mos m=segs) (h:∀ K:TL→HL→Prop,(∀ tl hl,Q .normal ⟨tl,hl,nb+8*n⟩→K tl hl)→evX E nb (fun x=>Zb pr x.2.2=true∧K (Xi m x.1) (TG [] x.2.1)) segs 0 tl hl []):WmA P w0 S N D (.draw mos pr m n) ⟨tl,hl,nb⟩ Q:=by
 refine kD hE Zq fun K hK=>?_;have h1:=Zg4 (m:=m) (P:=fun x=>Zb pr x.2.2=true∧K (Xi m x.1) (TG [] x.2.1)) (fun x x' e1 e2 hx=>by
  obtain ⟨a,b⟩:=x;obtain ⟨a',b'⟩:=x';simp only at e1 e2 hx⊢;subst e1;rw[e2];exact hx) segs 0 tl hl [] (by rw[← hs];exact Zel _ _ _ _) (h K hK)
 rw[← hs,yi]at h1;exact h1
end
end Go.W
