/- A call that only reads: what comes with it is told flat, by new names, as views; what it gives is data, slices that came, or new arrays of data. A call that only reads: what it does. -/
import Derived.Test.YtidbbnkpglggdaaGreatWcA
namespace Go.W
set_option linter.unusedSimpArgs false
set_option linter.unusedVariables false
mutual
def AV.dat:AV→Bool
 | .int _ _ | .bool _ | .str _ | .nsl | .bot=>true
 | .raw v=>v.oneCell'
 | .iface _ a=>a.dat
 | .agg l=>ZaF l
 | _=>false
def ZaF:List AV→Bool
 | []=>true
 | a :: as=>a.dat&&ZaF as
end
mutual
theorem xC {ρ ρ':Env}:∀ {v:AV} {x:Value},v.dat=true→Rep ρ v x→Rep ρ' v x:=fun {v} {x} h hr=>by
 cases v with
 | iface t a =>
  simp only[AV.dat]at h;simp only[Rep]at hr⊢;obtain ⟨y,h1,h2⟩:=hr;exact ⟨y,h1,xC h h2⟩
 | agg l =>
  simp only[AV.dat]at h;simp only[Rep]at hr⊢;obtain ⟨y,h1,h2⟩:=hr;exact ⟨y,h1,Zbg h h2⟩
 | bot=>simp[Rep]
 | _=>simp only[AV.dat,Bool.false_eq_true]at h<;>simp only[Rep]at hr⊢<;>exact hr
theorem Zbg {ρ ρ':Env}:∀ {l:List AV} {x:List Value},ZaF l=true→Z8 ρ l x→Z8 ρ' l x:=fun {l} {x} h hr=>by
 cases l with
 | nil=>exact hr
 | cons a as =>
  simp only[ZaF,Bool.and_eq_true]at h;simp only[Z8]at hr⊢;obtain ⟨v,r,h1,h2,h3⟩:=hr;exact ⟨v,r,h1,xC h.1 h2,Zbg h.2 h3⟩
end
theorem yg {v:AV} (h:v.dat=true):v.plain=true:=by
 cases v<;>simp only[AV.dat,Bool.false_eq_true]at h<;>rfl
def Zbs (c:List AV):Bool:=c.all AV.dat
def XY (els:List (List AV)):Bool:=els.all Zbs
theorem Xx {c:List AV} (h:Zbs c=true):c.all AV.plain=true :=
 List.all_eq_true.2 fun v hv=>yg (List.all_eq_true.1 h v hv)
mutual
theorem Tc {M:ML}:∀ {v:AV},v.dat=true→XT M v v:=fun {v} h=>by
 cases v with
 | iface t a=>simp only[AV.dat]at h;simp only[XT,true_and];exact Tc h
 | agg l=>simp only[AV.dat]at h;simp only[XT];exact vm h
 | _=>simp only[AV.dat,Bool.false_eq_true]at h<;>simp[XT]
theorem vm {M:ML}:∀ {l:List AV},ZaF l=true→YN M l l:=fun {l} h=>by
 cases l with
 | nil=>simp[YN]
 | cons a as =>
  simp only[ZaF,Bool.and_eq_true]at h;exact ⟨Tc h.1,vm h.2⟩
end
theorem vP {M:ML}:∀ {c:List AV},Zbs c=true→YN M c c
 | [],_=>trivial
 | v :: c,h=>by
  simp only[Zbs,List.all_cons,Bool.and_eq_true]at h;exact ⟨Tc h.1,vP h.2⟩
def Ub (f:Nat→AV→Option (AV×ML×List NObj)):Nat→List AV→Option (List AV×ML×List NObj)
 | _,[]=>some ([],[],[])
 | k,a :: as=>match f k a with
  | some (a',ml,os)=>(match Ub f (k+os.length) as with
   | some (as',ml',os')=>some (a' :: as',ml++ml',os++os')
   | none=>none)
  | none=>none
def VK (f:Nat→AV→Option (AV×ML×List NObj)) (p:Nm) (t:Nat):Nat→Nat→List (List AV)→Option (List (List AV)×ML×List NObj)
 | _,_,[]=>some ([],[],[])
 | i,k,c :: cs=>match Ub f k (flC p t i c) with
  | some (c',ml,os)=>(match VK f p t (i+1) (k+os.length) cs with
   | some (cs',ml',os')=>some (c' :: cs',ml++ml',os++os')
   | none=>none)
  | none=>none
def Zhc:NObj→Nat→Nat→Option (Nat×Nat×List (List AV))
 | .arr t sz els,i,n=>if i+n≤els.length then some (t,sz,(els.drop i).take n) else none
 | .view t sz els,i,n=>if i+n≤els.length then some (t,sz,(els.drop i).take n) else none
 | _,_,_=>none
def Zg7:NObj→Nat→Option (Nat×Nat×List AV)
 | .cells t c,i=>if i=0 then some (t,c.length,c) else none
 | .arr t sz els,i=>match els[i]? with
  | some c=>some (t,sz,c)
  | none=>none
 | .view t sz els,i=>match els[i]? with
  | some c=>some (t,sz,c)
  | none=>none
 | .free,_=>none
def lnV (G:NH):Nat→Nat→AV→Option (AV×ML×List NObj)
 | 0,_,v=>if v.dat=true then some (v,[],[]) else none
 | d+1,k,v=>match v with
  | .sl p i n=>(match Zhc (Zj G p) i n with
   | some (t,sz,w)=>if XY w=true then some (.sl (.top k) 0 n,[some (p,i)],[.view 0 sz w]) else
    (match VK (lnV G d) p t i (k+1) w with
    | some (w',ml,os)=>some (.sl (.top k) 0 n,some (p,i) :: ml,.view 0 sz w' :: os)
    | none=>none)
   | none=>none)
  | .ptr p i f=>(match Zg7 (Zj G p) i with
   | some (t,sz,c)=>(match VK (lnV G d) p t i (k+1) [c] with
    | some (w',ml,os)=>some (.ptr (.top k) 0 f,some (p,i) :: ml,.view 0 sz w' :: os)
    | none=>none)
   | none=>none)
  | .fn g cap=>(match Ub (lnV G d) k cap with
   | some (cap',ml,os)=>some (.fn g cap',ml,os)
   | none=>none)
  | .agg l=>(match Ub (lnV G d) k l with
   | some (l',ml,os)=>some (.agg l',ml,os)
   | none=>none)
  | v=>if v.dat=true then some (v,[],[]) else none
def Zhk:NObj→Option (Nat×Nat)
 | .cells _ c=>some (1,c.length)
 | .arr _ sz els=>some (els.length,sz)
 | .view _ sz els=>some (els.length,sz)
 | .free=>none
def RdOk (G:NH) (M:ML) (y:Option (Nm×Nat)) (o:NObj):Prop :=
 ∃ p i sz n w,y=some (p,i)∧o=.view 0 sz w∧Zhk (Zj G p)=some (n,sz)∧i+w.length≤n∧(∀ j c',w[j]?=some c'→c'.all AV.plain=true∧∃ c,Zl (Zj G p) (i+j)=some c∧YN M c' (flC p (Zj G p).tag (i+j) c))
def xg (G:NH) (k:Nat) (ml:ML) (os:List NObj) (say:ML→Prop):Prop :=
 ml.length=os.length∧∀ M:ML,(∀ (j:Nat) (x:Option (Nm×Nat)),ml[j]?=some x→M[k+j]?=some x)→say M∧∀ (j:Nat) (y:Option (Nm×Nat)) (o:NObj),ml[j]?=some y→os[j]?=some o→RdOk G M y o
theorem xg.app {G:NH} {k:Nat} {ml ml':ML} {os os':List NObj} {A B C:ML→Prop} (h:xg G k ml os A) (h':xg G (k+os.length) ml' os' B) (hc:∀ M,A M→B M→C M):xg G k (ml++ml') (os++os') C:=by
 refine ⟨by rw[List.length_append,List.length_append,h.1,h'.1],fun M hM=>?_⟩;obtain ⟨a1,a2⟩:=h.2 M fun j x hj=>hM j x (by rw[List.getElem?_append_left (List.getElem?_eq_some_iff.1 hj).1];exact hj);obtain ⟨b1,b2⟩:=h'.2 M fun j x hj=>by
  have:=hM (ml.length+j) x (by rw[List.getElem?_append_right (by omega)];simpa using hj);rw[h.1]at this;rw[Nat.add_assoc];exact this
 refine ⟨hc M a1 b1,fun j y o hj ho=>?_⟩;by_cases hlt:j<ml.length
 ·rw[List.getElem?_append_left hlt]at hj
  rw[List.getElem?_append_left (by rw[← h.1];exact hlt)]at ho;exact a2 j y o hj ho
 ·rw[List.getElem?_append_right (by omega)]at hj
  rw[List.getElem?_append_right (by rw[← h.1];omega),← h.1]at ho;exact b2 _ y o hj ho
theorem xg.nil (G:NH) (k:Nat) {A:ML→Prop} (h:∀ M,A M):xg G k [] [] A:=⟨rfl,fun M _=>⟨h M,fun j y o hj=>by simp at hj⟩⟩
theorem xg.imp {G:NH} {k:Nat} {ml:ML} {os:List NObj} {A B:ML→Prop} (h:xg G k ml os A) (hc:∀ M,A M→B M):xg G k ml os B :=
 ⟨h.1,fun M hM=>⟨hc M (h.2 M hM).1,(h.2 M hM).2⟩⟩
theorem xg.put {G:NH} {k:Nat} {p:Nm} {i:Nat} {o:NObj} {ml:ML} {os:List NObj} {A B:ML→Prop} (h:xg G (k+1) ml os A) (ho:∀ M,A M→RdOk G M (some (p,i)) o) (hc:∀ M,M[k]?=some (some (p,i))→A M→B M):xg G k (some (p,i) :: ml) (o :: os) B:=by
 refine ⟨by simp[h.1],fun M hM=>?_⟩;obtain ⟨a1,a2⟩:=h.2 M fun j x hj=>by
  have:=hM (j+1) x (by simpa using hj);rw[show k+1+j=k+(j+1) from by omega];exact this
 refine ⟨hc M (by simpa using hM 0 (some (p,i)) rfl) a1,fun j y o' hj ho' => ?_⟩;cases j with
 | zero=>simp at hj ho';subst hj ho';exact ho M a1
 | succ j=>exact a2 j y o' (by simpa using hj) (by simpa using ho')
def Zik (G:NH) (f:Nat→AV→Option (AV×ML×List NObj)):Prop:=∀ k v v' ml os,f k v=some (v',ml,os)→xg G k ml os fun M=>XT M v' v∧v'.plain=true
theorem Tk {G:NH} {f:Nat→AV→Option (AV×ML×List NObj)} (hf:Zik G f):∀ (as:List AV) (k:Nat) (as':List AV) (ml:ML) (os:List NObj),Ub f k as=some (as',ml,os)→xg G k ml os fun M=>YN M as' as∧as'.all AV.plain=true
 | [],k,as',ml,os,h=>by
  simp only[Ub,Option.some.injEq,Prod.mk.injEq]at h;obtain ⟨rfl,rfl,rfl⟩:=h;exact .nil G k fun M=>⟨trivial,rfl⟩
 | a :: as,k,as',ml,os,h=>by
  simp only[Ub]at h;split at h
  ·rename_i a' ml1 os1 h1
   split at h
   ·rename_i as1 ml2 os2 h2
    simp only[Option.some.injEq,Prod.mk.injEq]at h;obtain ⟨rfl,rfl,rfl⟩:=h;refine (hf _ _ _ _ _ h1).app (Tk hf as _ _ _ _ h2) fun M x y=>⟨⟨x.1,y.1⟩,?_⟩;rw[List.all_cons,x.2,y.2];rfl
   ·cases h
  ·cases h
theorem xn {G:NH} {f:Nat→AV→Option (AV×ML×List NObj)} (hf:Zik G f) {p:Nm} {t:Nat}:∀ (cs:List (List AV)) (i k:Nat) (cs':List (List AV)) (ml:ML) (os:List NObj),VK f p t i k cs=some (cs',ml,os)→xg G k ml os fun M=>cs'.length=cs.length∧∀ j c',cs'[j]?=some c'→c'.all AV.plain=true∧∃ c,cs[j]?=some c∧YN M c' (flC p t (i+j) c)
 | [],i,k,cs',ml,os,h=>by
  simp only[VK,Option.some.injEq,Prod.mk.injEq]at h;obtain ⟨rfl,rfl,rfl⟩:=h;exact .nil G k fun M=>⟨rfl,fun j c' h=>by simp at h⟩
 | c :: cs,i,k,cs',ml,os,h=>by
  simp only[VK]at h;split at h
  ·rename_i c1 ml1 os1 h1
   split at h
   ·rename_i cs1 ml2 os2 h2
    simp only[Option.some.injEq,Prod.mk.injEq]at h;obtain ⟨rfl,rfl,rfl⟩:=h;refine (Tk hf _ _ _ _ _ h1).app (xn hf cs _ _ _ _ _ h2) fun M x y=>⟨by simp[y.1],fun j c' hj=>?_⟩;cases j with
    | zero=>simp at hj;subst hj;exact ⟨x.2,c,rfl,x.1⟩
    | succ j =>
     obtain ⟨y1,c2,y2,y3⟩:=y.2 j c' (by simpa using hj);exact ⟨y1,c2,by simpa using y2,by rw[show i+(j+1)=i+1+j from by omega];exact y3⟩
   ·cases h
  ·cases h
theorem Zet {o:NObj} {i n t sz:Nat} {w:List (List AV)} (h:Zhc o i n=some (t,sz,w)):o.tag=t∧w.length=n∧(∃ m,Zhk o=some (m,sz)∧i+n≤m)∧∀ j,j<n→Zl o (i+j)=w[j]?:=by
 cases o<;>simp only[Zhc,reduceCtorEq]at h
 all_goals
  split at h
  ·rename_i hle
   simp only[Option.some.injEq,Prod.mk.injEq]at h;obtain ⟨rfl,rfl,rfl⟩:=h;refine ⟨rfl,by simp;omega,⟨_,rfl,hle⟩,fun j hj=>?_⟩;rw[List.getElem?_take,if_pos hj,List.getElem?_drop];rfl
  ·cases h
theorem ZcV {o:NObj} {i t sz:Nat} {c:List AV} (h:Zg7 o i=some (t,sz,c)):o.tag=t∧(∃ m,Zhk o=some (m,sz)∧i+1≤m)∧Zl o i=some c:=by
 cases o<;>simp only[Zg7,reduceCtorEq]at h
 ·split at h
  ·rename_i e
   simp only[Option.some.injEq,Prod.mk.injEq]at h;obtain ⟨rfl,rfl,rfl⟩:=h;exact ⟨rfl,⟨_,rfl,by omega⟩,by simp[Zl,e]⟩
  ·cases h
 all_goals
  split at h
  ·rename_i c1 hc
   simp only[Option.some.injEq,Prod.mk.injEq]at h;obtain ⟨rfl,rfl,rfl⟩:=h;exact ⟨rfl,⟨_,rfl,(List.getElem?_eq_some_iff.1 hc).1⟩,hc⟩
  ·cases h
theorem ZdP {M:ML} {k:Nat} {p:Nm} {i n:Nat} (h:M[k]?=some (some (p,i))):XT M (.sl (.top k) 0 n) (.sl p i n):=by
 simp[XT,Zdw,h]
theorem Zf1 {M:ML} {k:Nat} {p:Nm} {i f:Nat} (h:M[k]?=some (some (p,i))):XT M (.ptr (.top k) 0 f) (.ptr p i f):=by
 simp[XT,Zdw,h]
theorem Zha (G:NH):∀ (d:Nat),Zik G (lnV G d)
 | 0=>fun k v v' ml os h=>by
  simp only[lnV]at h;split at h
  ·rename_i hd
   simp only[Option.some.injEq,Prod.mk.injEq]at h;obtain ⟨rfl,rfl,rfl⟩:=h;exact .nil G k fun M=>⟨Tc hd,yg hd⟩
  ·cases h
 | d+1=>fun k v v' ml os h=>by
  have ih:=Zha G d;have dt:(if v.dat=true then some (v,([]:ML),([]:List NObj)) else none)=some (v',ml,os)→xg G k ml os fun M=>XT M v' v∧v'.plain=true:=fun h=>by
   split at h
   ·rename_i hd
    simp only[Option.some.injEq,Prod.mk.injEq]at h;obtain ⟨rfl,rfl,rfl⟩:=h;exact .nil G k fun M=>⟨Tc hd,yg hd⟩
   ·cases h
  cases v with
  | sl p i n =>
   simp only[lnV]at h;split at h
   ·rename_i t sz w hw
    obtain ⟨w1,w2,⟨m,w3,w4⟩,w5⟩:=Zet hw;split at h
    ·rename_i hd
     simp only[Option.some.injEq,Prod.mk.injEq]at h;obtain ⟨rfl,rfl,rfl⟩:=h;refine xg.put (.nil G (k+1) (A:=fun _=>True) fun _=>trivial) (fun M _=>⟨p,i,sz,m,w,rfl,rfl,w3,by omega,fun j c' hj=>?_⟩) fun M hM _=>⟨ZdP hM,rfl⟩;have hc:=List.all_eq_true.1 hd c' (List.mem_of_getElem? hj);have hjn:j<n:=(by have:=(List.getElem?_eq_some_iff.1 hj).1;omega);refine ⟨Xx hc,c',by rw[w5 j hjn];exact hj,?_⟩;rw[Y8 (Xx hc)];exact vP hc
    ·split at h
     ·rename_i w' ml1 os1 h1
      simp only[Option.some.injEq,Prod.mk.injEq]at h;obtain ⟨rfl,rfl,rfl⟩:=h;refine xg.put (xn ih _ _ _ _ _ _ h1) (fun M hM=>⟨p,i,sz,m,w',rfl,rfl,w3,by rw[hM.1];omega,fun j c' hj=>?_⟩) fun M hM _=>⟨ZdP hM,rfl⟩;obtain ⟨y1,c2,y2,y3⟩:=hM.2 j c' hj;have hjn:j<n:=(by have:=(List.getElem?_eq_some_iff.1 y2).1;omega);exact ⟨y1,c2,by rw[w5 j hjn];exact y2,by rw[w1];exact y3⟩
     ·cases h
   ·cases h
  | ptr p i f =>
   simp only[lnV]at h;split at h
   ·rename_i t sz c hw
    obtain ⟨w1,⟨m,w3,w4⟩,w5⟩:=ZcV hw;split at h
    ·rename_i w' ml1 os1 h1
     simp only[Option.some.injEq,Prod.mk.injEq]at h;obtain ⟨rfl,rfl,rfl⟩:=h;refine xg.put (xn ih _ _ _ _ _ _ h1) (fun M hM=>⟨p,i,sz,m,w',rfl,rfl,w3,by rw[hM.1];simpa using w4,fun j c' hj=>?_⟩) fun M hM _=>⟨Zf1 hM,rfl⟩;obtain ⟨y1,c2,y2,y3⟩:=hM.2 j c' hj;cases j with
     | zero=>simp at y2;subst y2;exact ⟨y1,c,w5,by rw[w1];exact y3⟩
     | succ j=>simp at y2
    ·cases h
   ·cases h
  | fn g cap =>
   simp only[lnV]at h;split at h
   ·rename_i c' ml1 os1 h1
    simp only[Option.some.injEq,Prod.mk.injEq]at h;obtain ⟨rfl,rfl,rfl⟩:=h;exact (Tk ih _ _ _ _ _ h1).imp fun M x=>⟨⟨rfl,x.1⟩,rfl⟩
   ·cases h
  | agg l =>
   simp only[lnV]at h;split at h
   ·rename_i c' ml1 os1 h1
    simp only[Option.some.injEq,Prod.mk.injEq]at h;obtain ⟨rfl,rfl,rfl⟩:=h;exact (Tk ih _ _ _ _ _ h1).imp fun M x=>⟨x.1,rfl⟩
   ·cases h
  | _=>exact dt (by simpa only[lnV] using h)
def LocF (f f':Nat→AV→Option (AV×ML×List NObj)) (G G':NH):Prop:=∀ k v r,f k v=some r→(∀ p i,some (p,i)∈r.2.1→G p.root=G' p.root)→f' k v=some r
theorem Up {f f':Nat→AV→Option (AV×ML×List NObj)} {G G':NH} (hf:LocF f f' G G'):∀ (as:List AV) (k:Nat) (r:List AV×ML×List NObj),Ub f k as=some r→(∀ p i,some (p,i)∈r.2.1→G p.root=G' p.root)→Ub f' k as=some r
 | [],k,r,h,_=>h
 | a :: as,k,r,h,hG=>by
  simp only[Ub]at h;split at h
  ·rename_i a' ml1 os1 h1
   split at h
   ·rename_i as1 ml2 os2 h2
    simp only[Option.some.injEq]at h;subst h;simp only[Ub];rw[hf _ _ _ h1 fun p i hp=>hG p i (List.mem_append_left _ hp)];simp only;rw[Up hf as _ _ h2 fun p i hp=>hG p i (List.mem_append_right _ hp)]
   ·cases h
  ·cases h
theorem zO {f f':Nat→AV→Option (AV×ML×List NObj)} {G G':NH} (hf:LocF f f' G G') {p:Nm} {t:Nat}:∀ (cs:List (List AV)) (i k:Nat) (r:List (List AV)×ML×List NObj),VK f p t i k cs=some r→(∀ p i,some (p,i)∈r.2.1→G p.root=G' p.root)→VK f' p t i k cs=some r
 | [],i,k,r,h,_=>h
 | c :: cs,i,k,r,h,hG=>by
  simp only[VK]at h;split at h
  ·rename_i a' ml1 os1 h1
   split at h
   ·rename_i as1 ml2 os2 h2
    simp only[Option.some.injEq]at h;subst h;simp only[VK];rw[Up hf _ _ _ h1 fun p i hp=>hG p i (List.mem_append_left _ hp)];simp only;rw[zO hf cs _ _ _ h2 fun p i hp=>hG p i (List.mem_append_right _ hp)]
   ·cases h
  ·cases h
theorem ZdC {G G':NH}:∀ (d:Nat),LocF (lnV G d) (lnV G' d) G G'
 | 0=>fun k v r h _=>h
 | d+1=>fun k v r h hG=>by
  have ih:=ZdC (G:=G) (G':=G') d;cases v with
  | sl p i n =>
   simp only[lnV]at h⊢;split at h
   ·rename_i t sz w hw
    have hp:Zj G' p=Zj G p:=by
     refine (ZU ?_);split at h
     ·simp only[Option.some.injEq]at h
      subst h;exact hG p i (by simp)
     ·split at h
      ·simp only[Option.some.injEq]at h
       subst h;exact hG p i (by simp)
      ·cases h
    rw[hp,hw];simp only;split at h
    ·rename_i hd
     rw[if_pos hd];exact h
    ·rename_i hd
     rw[if_neg hd];split at h
     ·rename_i w' ml1 os1 h1
      simp only[Option.some.injEq]at h;subst h;rw[zO ih _ _ _ _ h1 fun p i hp=>hG p i (List.mem_cons_of_mem _ hp)]
     ·cases h
   ·cases h
  | ptr p i f =>
   simp only[lnV]at h⊢;split at h
   ·rename_i t sz w hw
    split at h
    ·rename_i w' ml1 os1 h1
     simp only[Option.some.injEq]at h;subst h;have hp:Zj G' p=Zj G p:=ZU (hG p i (by simp));rw[hp,hw];simp only;rw[zO ih _ _ _ _ h1 fun p i hp=>hG p i (List.mem_cons_of_mem _ hp)]
    ·cases h
   ·cases h
  | fn g cap =>
   simp only[lnV]at h⊢;split at h
   ·rename_i c' ml1 os1 h1
    simp only[Option.some.injEq]at h;subst h;rw[Up ih _ _ _ h1 hG]
   ·cases h
  | agg l =>
   simp only[lnV]at h⊢;split at h
   ·rename_i c' ml1 os1 h1
    simp only[Option.some.injEq]at h;subst h;rw[Up ih _ _ _ h1 hG]
   ·cases h
  | _=>simpa only[lnV] using h
def bk1 (nb m:Nat) (ml:ML) (v:AV):AV:=match v with
 | .sl (.top x) i n=>if m≤x then .sl (.top (nb+(x - m))) i n else (match ml[x]? with
  | some (some (p,i0))=>.sl p (i+i0) n
  | _=>.bot)
 | v=>v
def bkR (nb m:Nat) (ml:ML) (v:AV):AV:=match v with
 | .tup l=>.tup (l.map (bk1 nb m ml))
 | v=>bk1 nb m ml v
def rs1 (m:Nat) (v:AV):Bool:=v.dat || (match v with
 | .sl (.top x) _ _=>decide (x<m)
 | _=>false)
def rsOk (m:Nat) (v:AV):Bool:=match v with
 | .tup l=>l.all (rs1 m)
 | v=>rs1 m v
def Zed:NObj→Bool
 | .arr _ _ els=>XY els
 | _=>false
def rOk (m:Nat) (res:AV):Bool:=(yt m res).2.all Zed&&decide ((yt m res).2.length≤8)&&rsOk (m+(yt m res).2.length) (yt m res).1
def ROk (d:List AV→List NObj→Option AV):Prop:=∀ xs os res,d xs os=some res→rOk os.length res=true
def rdF (d:List AV→List NObj→Option AV) (args:List AV) (G:NH) (nb:Nat):Option Res :=
 match Ub (lnV G 6) 0 args with
 | some (xs,ml,os)=>(match d xs os with
  | some res=>some ⟨bkR nb os.length ml (yt os.length res).1,ZS nb (yt os.length res).2,Va ml,8⟩
  | none=>none)
 | none=>none
theorem zC {d:List AV→List NObj→Option AV} {args:List AV} {G:NH} {nb:Nat} {r:Res} (h:rdF d args G nb=some r):∃ xs ml os res,Ub (lnV G 6) 0 args=some (xs,ml,os)∧d xs os=some res∧r=⟨bkR nb os.length ml (yt os.length res).1,ZS nb (yt os.length res).2,Va ml,8⟩:=by
 unfold rdF at h;split at h
 ·rename_i xs ml os h1
  split at h
  ·rename_i res h2
   injection h with h;exact ⟨xs,ml,os,res,h1,h2,h.symm⟩
  ·cases h
 ·cases h
theorem Us:∀ (l:List NObj) (G:NH) (nb x:Nat),Yr G (ZS nb l) x=if nb≤x then (l[x - nb]?).getD (G x) else G x
 | [],G,nb,x=>by simp[ZS,Yr]
 | o :: r,G,nb,x=>by
  simp only[ZS,Yr];rw[Us r];by_cases h1:x=nb
  ·subst h1
   rw[if_neg (by omega),if_pos (by omega),Zx];simp
  ·by_cases h2:nb≤x
   ·rw[if_pos (by omega),if_pos h2,Zn _ _ h1,show x - nb=(x - (nb+1))+1 from by omega];simp
   ·rw[if_neg (by omega),if_neg h2,Zn _ _ h1]
theorem ZbC {o:NObj} (h:Zed o=true) (t j f:Nat):kid o t j f=.free:=by
 cases o<;>simp only[Zed,Bool.false_eq_true]at h;refine XZ (fun i c hc=>?_) t j f;exact Xx (List.all_eq_true.1 h c (List.mem_of_getElem? hc))
theorem ZaU {sz:Nat} {w:List (List AV)} (h:∀ (j:Nat) (c:List AV),w[j]?=some c→c.all AV.plain=true) (t j f:Nat):kid (.view 0 sz w) t j f=.free :=
 XZ (o:=.view 0 sz w) (fun i c hc=>h i c hc) t j f
theorem VH {G:NH} {n:Nat} (h:∀ t j f,kid (G n) t j f=.free):∀ {x:Nm},x.root=n→x≠.top n→Zj G x=.free
 | .top k,hr,hx=>by simp only[Nm.root]at hr;subst hr;exact absurd rfl hx
 | .sub y t j f,hr,hx=>by
  simp only[Nm.root]at hr;by_cases hy:y=.top n
  ·subst hy;rw[Zj];exact h t j f
  ·rw[Zj,VH h hr hy];simp[kid,Zl]
def rdS (d:List AV→List NObj→Option AV) (hok:ROk d):Spec where
 fn:=rdF d
 loc:=fun args G G' nb r h hG=>by
  obtain ⟨xs,ml,os,res,h1,h2,rfl⟩:=zC h;unfold rdF;rw[Up (ZdC (G:=G) (G':=G') 6) args 0 _ h1 fun p i hp=>hG _ (.inl (VM hp))];simp only[h2]
 nm:=fun args G nb r h x hx=>by
  obtain ⟨xs,ml,os,res,h1,h2,rfl⟩:=zC h;have:=yk _ _ _ hx;have hk:=hok _ _ _ h2;simp only[rOk,Bool.and_eq_true,decide_eq_true_eq]at hk;exact .inl (by simp only;omega)
theorem Zky {d:List AV→List NObj→Option AV} (hok:ROk d) (args:List AV) (G:NH) (nb:Nat) (r:Res) (h:rdF d args G nb=some r) (x:Nm) (hx:¬ (nb≤x.mx∧x.mx<nb+r.n)) (hg:Zj (Yr G r.hs) x≠.free):Zj G x≠.free:=by
  obtain ⟨xs,ml,os,res,h1,h2,rfl⟩:=zC h;have hk:=hok _ _ _ h2;simp only[rOk,Bool.and_eq_true,decide_eq_true_eq]at hk;simp only at hg;revert hg;generalize hn:(yt os.length res).2=news at hk;intro hg;by_cases hr:nb≤x.root∧x.root<nb+news.length
  ·obtain ⟨o,ho⟩:∃ o,news[x.root - nb]?=some o:=⟨_,List.getElem?_eq_getElem (by omega)⟩
   have hd:=List.all_eq_true.1 hk.1.1 o (List.mem_of_getElem? ho);have hG:Yr G (ZS nb news) x.root=o:=(by rw[Us,if_pos hr.1,ho];rfl);by_cases hx2:x=.top x.root
   ·exfalso
    have hmx:x.mx=x.root:=(by rw[hx2];rfl);exact hx (by simp only;omega)
   ·exact absurd (VH (by rw[hG];exact ZbC hd) rfl hx2) hg
  ·have:Yr G (ZS nb news) x.root=G x.root:=by
    rw[Us];split
    ·rw[List.getElem?_eq_none (by omega)];rfl
    ·rfl
   rwa [ZU this.symm]at hg
theorem Zhg {ρ:Env} {L:Loc} {p:Nm} {o:NObj} {n sz:Nat} {w:World} (h:Xe ρ L (flO p o) w) (hs:Zhk o=some (n,sz)):(L.nil=true∧n=0)∨∃ f,Reg ρ L sz n f w∧∀ i c,i<n→Zl o i=some c→f i=flC p o.tag i c:=by
 cases o with
 | free=>cases hs
 | cells t c =>
  simp only[Zhk,Option.some.injEq,Prod.mk.injEq]at hs;obtain ⟨rfl,rfl⟩:=hs;have:=h.1;rw[Vx]at this;refine .inr ⟨_,this,fun i d hi hd=>?_⟩;have:i=0:=by omega
  subst this;simp only[Zl,if_true,Option.some.injEq]at hd;subst hd;rfl
 | arr t z els =>
  simp only[Zhk,Option.some.injEq,Prod.mk.injEq]at hs;obtain ⟨rfl,rfl⟩:=hs;rcases h with h|h
  ·exact .inl h
  ·refine .inr ⟨_,h.1,fun i d hi hd=>?_⟩
   simp only[Zl]at hd;simp only[NObj.tag,List.getD_eq_getElem?_getD,hd,Option.getD_some]
 | view t z els =>
  simp only[Zhk,Option.some.injEq,Prod.mk.injEq]at hs;obtain ⟨rfl,rfl⟩:=hs;rcases h with h|h
  ·exact .inl h
  ·refine .inr ⟨_,h,fun i d hi hd=>?_⟩
   simp only[Zl]at hd;simp only[NObj.tag,List.getD_eq_getElem?_getD,hd,Option.getD_some]
theorem ZjN {L:Loc} {p:Nm} {o:NObj} {n sz:Nat} (hs:Zhk o=some (n,sz)) (hn:L.nil=false):ZF L (flO p o)∨Yl L (flO p o):=by
 cases o with
 | free=>cases hs
 | cells t c=>exact .inl trivial
 | arr t z els=>exact .inl hn
 | view t z els=>exact .inr hn
theorem Zjr {ρ ρ':Env} {L:Loc} {a b:Nm} {o:NObj} {w:World} (hd:Zed o=true) (h:Xe ρ L (flO a o) w):Xe ρ' L (flO b o) w:=by
 cases o<;>simp only[Zed,Bool.false_eq_true]at hd;rename_i t sz els;have e:∀ (q:Nm) (j:Nat),flC q t j (els.getD j [])=els.getD j []:=fun q j=>by
  refine Y8 ?_;rw[List.getD_eq_getElem?_getD];cases hj:els[j]? with
  | none=>rfl
  | some c=>exact Xx (List.all_eq_true.1 hd c (List.mem_of_getElem? hj))
 simp only[flO,e]at h⊢;rcases h with h|⟨h,hr⟩
 ·exact .inl h
 ·refine .inr ⟨⟨h.nn,h.esz,h.cap,h.len,fun i hi j v hv=>?_⟩,hr⟩
  obtain ⟨x,h1,h2,h3⟩:=h.cell i hi j v hv;refine ⟨x,h1,xC ?_ h2,h3⟩;rw[List.getD_eq_getElem?_getD,List.getElem?_eq_getElem hi,Option.getD_some]at hv;exact List.all_eq_true.1 (List.all_eq_true.1 hd _ (List.getElem_mem hi)) v (List.mem_of_getElem? hv)
section
variable {P:Program}
set_option maxHeartbeats 2000000 in
theorem ZfW {f:FuncId} {fn:Func} {mc:MCode} {res:List RV} (hf:P.funcs[f]?=some fn) (hn:(fn.name == "runtime.NumGoroutine")=false) (hrc:ZeJ P fn=some mc) (hres:Zaj P fn.results.toList=some res) {d:List AV→List NObj→Option AV} (hok:ROk d)
  (hw:∀ xs os r,d xs os=some r→∀ (vs:List Value) (ρ0:Env),Z8 ρ0 xs vs→∃ ys:List AV,ys.length≤fn.ntmps∧(∀ ρ,Z8 ρ xs vs→Z8 ρ ys vs)∧∀ (w0:World) (S:Sc),S.m=os.length→Wm P w0 S fn.ntmps [] mc ⟨Zcp 0 ys,ZS 0 os,os.length⟩
   (Zgy res fun v s=>Imp os.length ⟨[(0,v)],s.hl,s.nb⟩ ⟨[(0,(yt os.length r).1)],ZS os.length (yt os.length r).2,os.length+(yt os.length r).2.length⟩)):Sound P f (rdS d hok):=by
 obtain ⟨c,hb,hrc⟩:=Uw hrc
 refine ⟨⟨fn,hf,hn,by rw[hb];rfl⟩,fun w0 S Es U G w avs vs nb r h1 h2 h3 h4 h5 h6 h7 h8=>⟨?_,fun x hx hg=>Zky hok avs G nb r h7 x hx hg⟩⟩
 obtain ⟨xs,ml,os,res',g1,g2,rfl⟩:=zC h7
 obtain ⟨hlen,hall⟩:=Tk (Zha G 6) avs 0 xs ml os g1
 obtain ⟨⟨hargs,hpl⟩,hobj⟩:=hall ml (fun j x hj=>by simpa using hj)
 have hrok:=hok _ _ _ g2
 simp only[rOk,Bool.and_eq_true,decide_eq_true_eq]at hrok
 have hw':=hw xs os res' g2
 simp only
 revert hw' hrok
 generalize hnews:(yt os.length res').2=news
 generalize hlres:(yt os.length res').1=lres
 intro hrok hw'
 obtain ⟨⟨hnd,hn8⟩,hrs⟩:=hrok
 obtain ⟨ρ0,h0⟩:=h1
 have hvs:Z8 (fun x=>match x with|.top k=>xK ρ0 ml k|x=>ρ0 x) xs vs:=hargs.rep (fun k hk=>rfl) (h6 ρ0 h0)
 obtain ⟨ys,y1,y2,y3⟩:=hw' vs _ hvs
 let Sl:Sc:=⟨fun _=>False,os.length,xK ρ0 ml⟩
 let El:Env→Prop:=fun ρ=>∀ k,k<os.length→ρ (.top k)=xK ρ0 ml k
 have hElin:∀ ρ,El ρ→inML ml ρ0 ρ:=fun ρ h k hk=>h k (by omega)
 have cv:∀ k o,os[k]?=some o→RdOk G ml (ml[k]?.getD none) o∧ml[k]?=some (ml[k]?.getD none):=fun k o ho=>by
  have hk:k<ml.length:=by rw[hlen];exact (List.getElem?_eq_some_iff.1 ho).1
  have e:ml[k]?=some (ml[k]?.getD none):=by rw[List.getElem?_eq_getElem hk];rfl
  exact ⟨hobj k _ o e ho,e⟩
 have hcase:∀ x:Nm,(∃ k o,x=.top k∧os[k]?=some o∧Zj (hk (ZS 0 os)) x=o)∨Zj (hk (ZS 0 os)) x=.free:=fun x=>by
  by_cases hx:x=.top x.root
  ·cases ho:os[x.root]? with
   | some o=>exact .inl ⟨x.root,o,hx,ho,by rw[hx,Zj,TV,ho];rfl⟩
   | none=>right;rw[hx,Zj,TV,ho];rfl
  ·right
   refine VH (fun t j f=>?_) rfl hx;rw[TV];cases ho:os[x.root]? with
   | none=>simp[kid,Zl]
   | some o =>
    obtain ⟨⟨p,i,sz,n,wd,e1,rfl,e3,e4,e5⟩,_⟩:=cv _ _ ho;exact ZaU (fun j c hc=>(e5 j c hc).1) t j f
 have hcl:∀ ρ,El ρ→HCore w Sl ρ (HF (hk (ZS 0 os))) w:=fun ρ hρ=>by
  have c0:=h5 ρ0 h0;refine ⟨rfl,rfl,rfl,Nat.le_refl _,fun _ _ _=>rfl,fun x=>?_,fun x hx=>?_,fun x y hx=>?_,fun x hx=>?_,fun x hx=>hρ x hx⟩
  ·rcases hcase x with ⟨k,o,rfl,ho,he⟩ | he
   ·obtain ⟨⟨p,i,sz,n,wd,e1,rfl,e3,e4,e5⟩,e6⟩:=cv _ _ ho
    have hloc:ρ (.top k)=Y6 (ρ0 p) i:=by
     rw[hρ k (List.getElem?_eq_some_iff.1 ho).1,xK,e6,e1]
    show Xe ρ _ (flO (.top k) (Zj (hk (ZS 0 os)) (.top k))) w;rw[he,hloc];have hreg:=Zhg (p:=p) (c0.obj p) e3;rcases hreg with ⟨n1,n2⟩ | ⟨fr,hr,hfr⟩
    ·exact .inl ⟨n1,by omega⟩
    ·refine .inr ?_
     have hcap:=hr.cap;have hesz:=hr.esz;have row:∀ j,j<wd.length→∃ c',wd[j]?=some c'∧flC (.top k) 0 j (wd.getD j [])=c'∧∃ c1,Zl (Zj G p) (i+j)=some c1∧YN ml c' (flC p (Zj G p).tag (i+j) c1):=fun j hj=>by
      obtain ⟨a1,c1,a2,a3⟩:=e5 j _ (List.getElem?_eq_getElem hj);refine ⟨wd[j],List.getElem?_eq_getElem hj,?_,c1,a2,a3⟩;rw[List.getD_eq_getElem?_getD,List.getElem?_eq_getElem hj,Option.getD_some];exact Y8 a1
     refine ⟨hr.nn,hesz,by show wd.length≤(ρ0 p).cap - i;omega,fun j hj=>?_,fun j hj q v hv=>?_⟩
     ·obtain ⟨c',a1,a2,c1,a3,a4⟩:=row j hj
      try simp only
      rw[a2,a4.get.1,← hfr (i+j) c1 (by omega) a3];exact hr.len _ (by omega)
     ·obtain ⟨c',a1,a2,c1,a3,a4⟩:=row j hj
      try simp only at hv
      rw[a2]at hv;obtain ⟨b,b1,b2⟩:=a4.get.2 q v hv;rw[← hfr (i+j) c1 (by omega) a3]at b1;obtain ⟨u,u1,u2,u3⟩:=hr.cell (i+j) (by omega) q b b1;refine ⟨u,?_,b2.rep (hElin ρ hρ) u2,u3⟩;rw[← u1];simp only[Y6]
      congr 2
      rw[hesz,Nat.add_mul];omega
   ·show Xe ρ _ (flO x (Zj (hk (ZS 0 os)) x)) w
    rw[he];trivial
  ·exfalso
   have hx':ZF (ρ x) (flO x (Zj (hk (ZS 0 os)) x)):=hx;rcases hcase x with ⟨k,o,rfl,ho,he⟩ | he
   ·obtain ⟨⟨p,i,sz,n,wd,e1,rfl,e3,e4,e5⟩,e6⟩:=cv _ _ ho
    rw[he]at hx';exact hx'
   ·rw[he]at hx';exact hx'
  ·exfalso
   have hx':ZF (ρ x) (flO x (Zj (hk (ZS 0 os)) x)):=hx;rcases hcase x with ⟨k,o,rfl,ho,he⟩ | he
   ·obtain ⟨⟨p,i,sz,n,wd,e1,rfl,e3,e4,e5⟩,e6⟩:=cv _ _ ho
    rw[he]at hx';exact hx'
   ·rw[he]at hx';exact hx'
  ·have hx':Yl (ρ x) (flO x (Zj (hk (ZS 0 os)) x)):=hx
   rcases hcase x with ⟨k,o,rfl,ho,he⟩ | he
   ·obtain ⟨⟨p,i,sz,n,wd,e1,rfl,e3,e4,e5⟩,e6⟩:=cv _ _ ho
    have hloc:ρ (.top k)=Y6 (ρ0 p) i:=by
     rw[hρ k (List.getElem?_eq_some_iff.1 ho).1,xK,e6,e1]
    rw[he,hloc]at hx';rw[hloc];refine ⟨?_,fun h=>h⟩;show (ρ0 p).blk<w.heap.size;rcases ZjN (p:=p) (L:=ρ0 p) e3 hx' with ho|ho
    ·exact (c0.own p ho).1
    ·have:=(c0.vw p ho).1;have:=c0.size;omega
   ·rw[he]at hx';exact hx'.elim
 have hroot:∀ x:Nm,os.length≤x.mx→HF (hk (ZS 0 os)) x=.free:=fun x hx=>by
  rcases hcase x with ⟨k,o,rfl,ho,he⟩ | he
  ·have:=(List.getElem?_eq_some_iff.1 ho).1
   simp only[Nm.mx]at hx;omega
  ·exact Zt.2 he
 have hcalls:=yr (P:=P) (w0:=w) (S:=Sl) (avs:=ys) (vs:=vs) (hl:=ZS 0 os) (nb:=os.length) (Es:=El) (w:=w) hf hb hrc hres ⟨fun x=>match x with|.top k=>xK ρ0 ml k|x=>ρ0 x,fun _ _=>rfl⟩ (fun ρ ρ' hρ he k hk=>by
   rw[he (.top k) (by simp only[Nm.mx];omega)];exact hρ k hk) hroot (fun ρ ρ' h1 h2 x hx=>by
   rcases hcase x with ⟨k,o,rfl,ho,he⟩ | he
   ·have hk:=(List.getElem?_eq_some_iff.1 ho).1
    rw[h1 k hk,h2 k hk]
   ·exact absurd (Zt.2 he) hx) hcl (fun ρ hρ=>y2 ρ (hargs.rep (hElin ρ hρ) (h6 ρ0 h0))) y1 (y3 w Sl rfl)
 refine hcalls.mono fun e w' ⟨v,av,s',he,hK,a',ha',hsat⟩ => ?_
 have hfin:=hK _ _ _ _ _ _ rfl hsat
 obtain ⟨Ef,hs⟩:=hfin.sat
 obtain ⟨ρf,hρf⟩:=hs.ne
 have hcf:=hs.hp ρf hρf
 have hvrep:Rep ρf lres v:=by
  by_cases hbt:lres=.bot
  ·rw[hbt];simp[Rep]
  ·obtain ⟨u,u1,u2⟩:=hs.tm ρf hρf 0 (by simpa [lk] using hbt)
   rw[ha']at u1;simp at u1;subst u1;simpa [lk] using u2
 refine ⟨v,fun x=>match x with|.top k=>ρf (.top (os.length+(k - nb)))|x=>ρf x,he,fun ρ hρ hg=>?_⟩
 have cρ:=h5 ρ hρ
 have hnew:∀ j,j<news.length→ρ (.top (nb+j))=ρf (.top (os.length+j)):=fun j hj=>by
  rw[hg (.top (nb+j)) ⟨by simp[Nm.mx],by simp only[Nm.mx];omega⟩];simp only;rw[show nb+j - nb=j from by omega]
 have hold:∀ k,k<os.length→∃ p i,ml[k]?=some (some (p,i))∧ρf (.top k)=Y6 (ρ p) i∧((ρ p).nil=true→i=0)∧((ρ p).nil=false→i≤(ρ p).cap):=fun k hk=>by
  obtain ⟨⟨p,i,sz,n,wd,e1,_,e3,e4,e5⟩,e6⟩:=cv k _ (List.getElem?_eq_getElem hk);have hne:HF G p≠.free:=fun e=>by
   rw[Zt]at e;rw[e]at e3;cases e3
  have hp:ρ p=ρ0 p:=h4 ρ ρ0 hρ h0 p hne;refine ⟨p,i,by rw[e6,e1],?_,?_⟩
  ·rw[hcf.an k hk,hp]
   show xK ρ0 ml k=_;rw[xK,e6,e1]
  ·rcases Zhg (p:=p) (cρ.obj p) e3 with ⟨n1,n2⟩ | ⟨fr,hr,_⟩
   ·exact ⟨fun _=>by omega,fun h=>by rw[n1]at h;cases h⟩
   ·exact ⟨fun h=>absurd (hr.nn.symm.trans h) (by simp),fun _=>by have:=hr.cap;omega⟩
 have rep1:∀ (a:AV) (u:Value),rs1 (os.length+news.length) a=true→Rep ρf a u→Rep ρ (bk1 nb os.length ml a) u:=fun a u ha hu=>by
  by_cases hd:a.dat=true
  ·have e:bk1 nb os.length ml a=a:=by cases a<;>first|rfl|(simp only[AV.dat,Bool.false_eq_true]at hd)
   rw[e];exact xC hd hu
  ·simp only[rs1,Bool.or_eq_true,hd,Bool.false_eq_true,false_or]at ha
   cases a with
   | sl x i n =>
    cases x with
    | sub y t j f=>cases ha
    | top x =>
     simp only[decide_eq_true_eq]at ha;simp only[bk1];by_cases hm:os.length≤x
     ·rw[if_pos hm]
      simp only[Rep]at hu⊢;rw[hnew (x - os.length) (by omega),show os.length+(x - os.length)=x from by omega];exact hu
     ·rw[if_neg hm]
      obtain ⟨p,i0,m1,m2,m3,m4⟩:=hold x (by omega);rw[m1];simp only[Rep]at hu⊢;rw[m2]at hu;rcases hu with ⟨a1,rfl,rfl,a4⟩ | ⟨a1,a2,off,a3,a4⟩
      ·exact .inl ⟨a1,by rw[m3 a1],rfl,a4⟩
      ·have:=m4 a1
       simp only[Y6]at a2 a3 a4;refine .inr ⟨a1,by omega,off,?_,fun hlt=>?_⟩
       ·rw[a3,show (ρ p).cap - (i+i0)=(ρ p).cap - i0 - i from by omega]
       ·rw[a4 (by omega),Nat.add_mul];omega
   | _=>cases ha
 refine ⟨?_,?_⟩
 ·by_cases ht:∃ l,lres=.tup l
  ·obtain ⟨l,rfl⟩:=ht
   simp only[rsOk]at hrs;simp only[bkR,Rep]at hvrep⊢;obtain ⟨cs,rfl,hcs⟩:=hvrep;refine ⟨cs,rfl,Z8.of_get _ _ (by rw[hcs.length];simp) fun j b hb=>?_⟩;rw[List.getElem?_map]at hb;cases hl:l[j]? with
   | none=>simp[hl]at hb
   | some q =>
    simp only[hl,Option.map_some,Option.some.injEq]at hb;subst hb;obtain ⟨u,u1,u2⟩:=hcs.get hl;exact ⟨u,u1,rep1 q u (List.all_eq_true.1 hrs q (List.mem_of_getElem? hl)) u2⟩
  ·have e1:rsOk (os.length+news.length) lres=rs1 (os.length+news.length) lres:=by
    cases lres<;>first|rfl|exact absurd ⟨_,rfl⟩ ht
   have e2:bkR nb os.length ml lres=bk1 nb os.length ml lres:=by
    cases lres<;>first|rfl|exact absurd ⟨_,rfl⟩ ht
   rw[e2];rw[e1]at hrs;exact rep1 _ _ hrs hvrep
 ·have hH:∀ x:Nm,(∃ j o,x=.top (nb+j)∧j<news.length∧Zed o=true∧HF (Yr G (ZS nb news)) x=flO x o∧HF (hk (ZS os.length news)) (.top (os.length+j))=flO (.top (os.length+j)) o)∨HF (Yr G (ZS nb news)) x=.free∨(HF (Yr G (ZS nb news)) x=HF G x):=fun x=>by
   by_cases hr:nb≤x.root∧x.root<nb+news.length
   ·obtain ⟨o,ho⟩:∃ o,news[x.root - nb]?=some o:=⟨_,List.getElem?_eq_getElem (by omega)⟩
    have hd:=List.all_eq_true.1 hnd o (List.mem_of_getElem? ho);have hG:Yr G (ZS nb news) x.root=o:=(by rw[Us,if_pos hr.1,ho];rfl);by_cases hx2:x=.top x.root
    ·left
     refine ⟨x.root - nb,o,by rw[show nb+(x.root - nb)=x.root from by omega];exact hx2,by omega,hd,?_,?_⟩
     ·unfold HF
      congr 1
      rw[hx2,Zj];exact hG
     ·unfold HF
      congr 1
      rw[Zj,ZaG,if_pos (by omega),show os.length+(x.root - nb) - os.length=x.root - nb from by omega,ho];rfl
    ·right;left
     exact Zt.2 (VH (by rw[hG];exact ZbC hd) rfl hx2)
   ·right;right
    have:Yr G (ZS nb news) x.root=G x.root:=by
     rw[Us];split
     ·rw[List.getElem?_eq_none (by omega)];rfl
     ·rfl
    unfold HF;rw[ZU this.symm]
  have lt_old:∀ x,ZF (ρ x) (HF G x)∨Yl (ρ x) (HF G x)→(ρ x).blk<w.heap.size:=fun x hx=>by
   rcases hx with hx|hx
   ·exact (cρ.own x hx).1
   ·have:=(cρ.vw x hx).1;have:=cρ.size;omega
  have own_new:∀ j,j<news.length→∀ o,Zed o=true→HF (hk (ZS os.length news)) (.top (os.length+j))=flO (.top (os.length+j)) o→ZF (ρ (.top (nb+j))) (flO (.top (nb+j)) o)→ZF (ρf (.top (os.length+j))) (HF (hk (ZS os.length news)) (.top (os.length+j))):=fun j hj o hd e ho=>by
   rw[e];cases o<;>simp only[Zed,Bool.false_eq_true]at hd;rw[hnew j hj]at ho;exact ho
  have ge_new:∀ j,j<news.length→∀ o,Zed o=true→HF (hk (ZS os.length news)) (.top (os.length+j))=flO (.top (os.length+j)) o→ZF (ρ (.top (nb+j))) (flO (.top (nb+j)) o)→(ρ (.top (nb+j))).blk<w'.heap.size∧w.heap.size≤(ρ (.top (nb+j))).blk:=fun j hj o hd e ho=>by
   have:=hcf.own _ (own_new j hj o hd e ho);rw[hnew j hj];exact ⟨this.1,this.2.resolve_right fun h=>h⟩
  refine ⟨hcf.os.trans cρ.os,hcf.tape.trans cρ.tape,hcf.output.trans cρ.output,Nat.le_trans cρ.size hcf.size,fun b hb hn=>?_,fun x=>?_,fun x hx=>?_,fun x y hx hy hxy=>?_,fun x hx=>?_,cρ.an⟩
  ·rw[hcf.frame b (by have:=cρ.size;omega) (fun h=>h)]
   exact cρ.frame b hb hn
  ·rcases hH x with ⟨j,o,rfl,hj,hd,e1,e2⟩ | e|e
   ·rw[e1,hnew j hj]
    refine Zjr (a:=.top (os.length+j)) (ρ:=ρf) hd ?_;rw[← e2];exact hcf.obj _
   ·rw[e];trivial
   ·rw[e]
    by_cases ho:ZF (ρ x) (HF G x)∨Yl (ρ x) (HF G x)
    ·exact (cρ.obj x).same (hcf.frame _ (lt_old x ho) (fun h=>h))
    ·exact (cρ.obj x).nil_same (fun h=>ho (.inl h)) (fun h=>ho (.inr h))
  ·rcases hH x with ⟨j,o,rfl,hj,hd,e1,e2⟩ | e|e
   ·rw[e1]at hx
    obtain ⟨q1,q2⟩:=ge_new j hj o hd e2 hx;exact ⟨q1,.inl (Nat.le_trans cρ.size q2)⟩
   ·rw[e]at hx;exact hx.elim
   ·rw[e]at hx
    have:=cρ.own x hx;exact ⟨Nat.lt_of_lt_of_le this.1 hcf.size,this.2⟩
  ·rcases hH x with ⟨j,o,rfl,hj,hd,e1,e2⟩ | e|e
   ·rw[e1]at hx
    rcases hH y with ⟨j',o',rfl,hj',hd',e1',e2'⟩ | e' | e'
    ·rw[e1']at hy
     have:=hcf.dist _ _ (own_new j hj o hd e2 hx) (own_new j' hj' o' hd' e2' hy) (by rw[← hnew j hj,← hnew j' hj'];exact hxy);simp only[Nm.top.injEq]at this;rw[show j=j' from by omega]
    ·rw[e']at hy;exact hy.elim
    ·rw[e']at hy
     have a1:=(ge_new j hj o hd e2 hx).2;have a2:=lt_old y (.inl hy);omega
   ·rw[e]at hx;exact hx.elim
   ·rw[e]at hx
    rcases hH y with ⟨j',o',rfl,hj',hd',e1',e2'⟩ | e' | e'
    ·rw[e1']at hy
     have a1:=(ge_new j' hj' o' hd' e2' hy).2;have a2:=lt_old x (.inl hx);omega
    ·rw[e']at hy;exact hy.elim
    ·rw[e']at hy
     exact cρ.dist x y hx hy hxy
  ·rcases hH x with ⟨j,o,rfl,hj,hd,e1,e2⟩ | e|e
   ·rw[e1]at hx
    exfalso;cases o<;>simp only[Zed,Bool.false_eq_true]at hd;exact hx
   ·rw[e]at hx;exact hx.elim
   ·rw[e]at hx
    exact cρ.vw x hx
end
end Go.W
