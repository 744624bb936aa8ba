/- Specifications: from values that own what they name, to values that own what they name. A function's specification as a function of trees. From a specification of trees to a statement's call. -/
import Derived.Test.YtidbbnkpglggdaaGreatWX
import Derived.ProofKit
import Derived.OpenShut
import Derived.Lib.SmallJoins
namespace Go.W
set_option linter.unusedSimpArgs false
set_option linter.unusedVariables false
abbrev YM:=List (Nat×Bool)
mutual
def clo (G:NH):AV→YM→Option (AV×ML×YM)
 | .ptr p i f,ms=>match ms with
  | (_,own) :: q=>if i=0∧f=0 then (match Zj G p with
   | .cells _ c=>if clL (t0L c)=true then some (.op 0 (t0L c),[some (p,0)],q) else none
   | .view _ _ [c]=>if clL (t0L c)=true∧own=false then some (.op 0 (t0L c),[some (p,0)],q) else none
   | _=>none) else none
  | []=>none
 | .sl p i n,ms=>match ms with
  | (sz,own) :: q=>(match Zj G p with
   | .arr _ sz' els=>if sz'=sz∧i+n≤els.length∧Xr (Yo ((els.drop i).take n))=true∧(own=true→i=0∧n=els.length) then some (.os 0 sz (Yo ((els.drop i).take n)),[some (p,i)],q) else none
   | .view _ sz' els=>if sz'=sz∧i+n≤els.length∧Xr (Yo ((els.drop i).take n))=true∧own=false then some (.os 0 sz (Yo ((els.drop i).take n)),[some (p,i)],q) else none
   | _=>none)
  | []=>none
 | .nsl,ms=>match ms with
  | (sz,_) :: q=>some (.os 0 sz [],[none],q)
  | []=>none
 | .fn f c,ms=>match Zav G c ms with
  | some (c',ml,q)=>some (.fn f c',ml,q)
  | none=>none
 | .iface t a,ms=>match clo G a ms with
  | some (a',ml,q)=>some (.iface t a',ml,q)
  | none=>none
 | .agg l,ms=>match Zav G l ms with
  | some (l',ml,q)=>some (.agg l',ml,q)
  | none=>none
 | .tup l,ms=>match Zav G l ms with
  | some (l',ml,q)=>some (.tup l',ml,q)
  | none=>none
 | .int k n,ms=>some (.int k n,[],ms)
 | .bool b,ms=>some (.bool b,[],ms)
 | .str s,ms=>some (.str s,[],ms)
 | .raw v,ms=>some (.raw v,[],ms)
 | .bot,ms=>some (.bot,[],ms)
 | .os _ _ _,_=>none
 | .op _ _,_=>none
def Zav (G:NH):List AV→YM→Option (List AV×ML×YM)
 | [],ms=>some ([],[],ms)
 | a :: as,ms=>match clo G a ms with
  | some (a',ml,q)=>(match Zav G as q with
   | some (as',ml',q')=>some (a' :: as',ml++ml',q')
   | none=>none)
  | none=>none
end
def Zjn (own:Bool) (c:List AV):NObj:=if own=true then .cells 0 c else .view 0 c.length [c]
def Zkj (own:Bool) (sz:Nat) (els:List (List AV)):NObj:=if own=true then .arr 0 sz els else .view 0 sz els
mutual
def lo (k:Nat):AV→YM→AV×List NObj×YM
 | .op _ c,ms=>match ms with
  | (_,own) :: q=>(.ptr (.top k) 0 0,[Zjn own c],q)
  | []=>(.bot,[],[])
 | .os _ _ els,ms=>match ms with
  | (sz,own) :: q=>(.sl (.top k) 0 els.length,[Zkj own sz els],q)
  | []=>(.bot,[],[])
 | .fn f c,ms=>match loL k c ms with
  | (c',os,q)=>(.fn f c',os,q)
 | .iface t a,ms=>match lo k a ms with
  | (a',os,q)=>(.iface t a',os,q)
 | .agg l,ms=>match loL k l ms with
  | (l',os,q)=>(.agg l',os,q)
 | .tup l,ms=>match loL k l ms with
  | (l',os,q)=>(.tup l',os,q)
 | v,ms=>(v,[],ms)
def loL (k:Nat):List AV→YM→List AV×List NObj×YM
 | [],ms=>([],[],ms)
 | a :: as,ms=>match lo k a ms with
  | (a',os,q)=>(match loL (k+os.length) as q with
   | (as',os',q')=>(a' :: as',os++os',q'))
end
def ZjO (G:NH) (x:Option (Nm×Nat)) (o:NObj):Prop:=match x with
 | some (p,i)=>Seen i (Zj G p) o
 | none=>(∃ sz,o=.view 0 sz []∨o=.arr 0 sz [])
def Vb (G:NH) (ml:ML) (os:List NObj):Prop:=ml.length=os.length∧∀ (j:Nat) (x:Option (Nm×Nat)) (o:NObj),ml[j]?=some x→os[j]?=some o→ZjO G x o
theorem Vb.append {G:NH} {ml ml':ML} {os os':List NObj} (h:Vb G ml os) (h':Vb G ml' os'):Vb G (ml++ml') (os++os'):=by
 refine ⟨by simp[h.1,h'.1],fun j x o h1 h2=>?_⟩;rcases Nat.lt_or_ge j ml.length with hj|hj
 ·rw[List.getElem?_append_left hj]at h1
  rw[List.getElem?_append_left (by rw[← h.1];exact hj)]at h2;exact h.2 j x o h1 h2
 ·rw[List.getElem?_append_right hj]at h1
  rw[List.getElem?_append_right (by rw[← h.1];exact hj)]at h2;exact h'.2 _ x o h1 (by rw[h.1];exact h2)
theorem Vb.one {G:NH} {x:Option (Nm×Nat)} {o:NObj} (h:ZjO G x o):Vb G [x] [o]:=by
 refine ⟨rfl,fun j y o' h1 h2=>?_⟩;cases j with
 | zero=>simp at h1 h2;subst h1 h2;exact h
 | succ j=>simp at h1
theorem Vb.nil {G:NH}:Vb G [] []:=⟨rfl,fun j x o h _=>by simp at h⟩
theorem Zgq {G:NH} {ml:ML} {os:List NObj} (h:Vb G ml os):yv G ml os:=⟨h.1,fun k x o h1 h2=>by
 have:=h.2 k x o h1 h2;cases x with
 | none=>exact this
 | some q=>exact this⟩
mutual
theorem Zhj {G:NH}:∀ (v:AV) (ms:YM) {c:AV} {ml:ML} {q:YM},clo G v ms=some (c,ml,q)→∀ (mlA:ML) (k:Nat),(∀ (j:Nat) (x:Option (Nm×Nat)),ml[j]?=some x→mlA[k+j]?=some x)→(lo k c ms).2.2=q∧Vb G ml (lo k c ms).2.1∧XT mlA (lo k c ms).1 v:=fun v ms {c ml q} h mlA k hk=>by
 cases v with
 | ptr p i f =>
  simp only[clo]at h;cases ms with
  | nil=>cases h
  | cons m q' =>
   obtain ⟨sz,own⟩:=m;simp only at h;split at h
   ·rename_i hif
    obtain ⟨rfl,rfl⟩:=hif;have hm:∀ {x:Option (Nm×Nat)},ml=[x]→mlA[k]?=some x:=fun e=>by have:=hk 0 _ (by rw[e];rfl);simpa using this
    split at h
    ·rename_i t c0 ho
     split at h
     ·rename_i hcl
      simp only[Option.some.injEq,Prod.mk.injEq]at h;obtain ⟨rfl,rfl,rfl⟩:=h;refine ⟨rfl,Vb.one ?_,?_⟩
      ·show Seen 0 (Zj G p) (Zjn own (t0L c0))
       rw[ho];cases own with
       | true=>exact Seen.own (og:=.cells t c0) rfl hcl
       | false=>have:=Seen.one (t:=t) (z:=0) (c:=c0) (og:=.cells t c0) (.inl rfl) hcl;simpa [Zjn,Xf] using this
      ·simp[lo,XT,Zdw,hm rfl]
     ·cases h
    ·rename_i t z c0 ho
     split at h
     ·rename_i hcl
      simp only[Option.some.injEq,Prod.mk.injEq]at h;obtain ⟨rfl,rfl,rfl⟩:=h;refine ⟨rfl,Vb.one ?_,?_⟩
      ·show Seen 0 (Zj G p) (Zjn own (t0L c0))
       rw[ho,hcl.2];have:=Seen.one (t:=t) (z:=z) (c:=c0) (og:=.view t z [c0]) (.inr rfl) hcl.1;simpa [Zjn,Xf] using this
      ·simp[lo,XT,Zdw,hm rfl]
     ·cases h
    ·cases h
   ·cases h
 | sl p i n =>
  simp only[clo]at h;cases ms with
  | nil=>cases h
  | cons m q' =>
   obtain ⟨sz,own⟩:=m;simp only at h;have hm:∀ {x:Option (Nm×Nat)},ml=[x]→mlA[k]?=some x:=fun e=>by have:=hk 0 _ (by rw[e];rfl);simpa using this
   split at h
   ·rename_i t sz' els ho
    split at h
    ·rename_i hcl
     obtain ⟨rfl,hle,hcl,hown⟩:=hcl;simp only[Option.some.injEq,Prod.mk.injEq]at h;obtain ⟨rfl,rfl,rfl⟩:=h;have hlen:(Yo ((els.drop i).take n)).length=n:=(by rw[YD,List.length_take,List.length_drop];omega);refine ⟨rfl,Vb.one ?_,?_⟩
     ·show Seen i (Zj G p) (Zkj own sz' (Yo ((els.drop i).take n)))
      rw[ho];cases own with
      | true =>
       obtain ⟨rfl,rfl⟩:=hown rfl;simp only[List.drop_zero,List.take_length]at hcl⊢;exact Seen.own (og:=.arr t sz' els) rfl hcl
      | false=>exact Seen.row (t:=t) (.inl rfl) hle hcl
     ·simp[lo,XT,Zdw,hm rfl,hlen]
    ·cases h
   ·rename_i t sz' els ho
    split at h
    ·rename_i hcl
     obtain ⟨rfl,hle,hcl,rfl⟩:=hcl;simp only[Option.some.injEq,Prod.mk.injEq]at h;obtain ⟨rfl,rfl,rfl⟩:=h;have hlen:(Yo ((els.drop i).take n)).length=n:=(by rw[YD,List.length_take,List.length_drop];omega);refine ⟨rfl,Vb.one ?_,?_⟩
     ·show Seen i (Zj G p) (Zkj false sz' (Yo ((els.drop i).take n)))
      rw[ho];exact Seen.row (t:=t) (.inr rfl) hle hcl
     ·simp[lo,XT,Zdw,hm rfl,hlen]
    ·cases h
   ·cases h
 | nsl =>
  simp only[clo]at h;cases ms with
  | nil=>cases h
  | cons m q' =>
   obtain ⟨sz,own⟩:=m;simp only[Option.some.injEq,Prod.mk.injEq]at h;obtain ⟨rfl,rfl,rfl⟩:=h;have hm:mlA[k]?=some none:=(by have:=hk 0 none rfl;simpa using this);refine ⟨rfl,Vb.one ?_,by simp[lo,XT,Zdw,hm]⟩;show ∃ sz',Zkj own sz []=_∨_;cases own
   ·exact ⟨sz,.inl rfl⟩
   ·exact ⟨sz,.inr rfl⟩
 | fn f l =>
  simp only[clo]at h;split at h
  ·rename_i c' ml' q' hh
   simp only[Option.some.injEq,Prod.mk.injEq]at h;obtain ⟨rfl,rfl,rfl⟩:=h;obtain ⟨h1,h2,h3⟩:=zZ l ms hh mlA k hk;simp only[lo];exact ⟨h1,h2,by simp[XT,h3]⟩
  ·cases h
 | iface t a =>
  simp only[clo]at h;split at h
  ·rename_i c' ml' q' hh
   simp only[Option.some.injEq,Prod.mk.injEq]at h;obtain ⟨rfl,rfl,rfl⟩:=h;obtain ⟨h1,h2,h3⟩:=Zhj a ms hh mlA k hk;simp only[lo];exact ⟨h1,h2,by simp[XT,h3]⟩
  ·cases h
 | agg l =>
  simp only[clo]at h;split at h
  ·rename_i c' ml' q' hh
   simp only[Option.some.injEq,Prod.mk.injEq]at h;obtain ⟨rfl,rfl,rfl⟩:=h;obtain ⟨h1,h2,h3⟩:=zZ l ms hh mlA k hk;simp only[lo];exact ⟨h1,h2,by simp[XT,h3]⟩
  ·cases h
 | tup l =>
  simp only[clo]at h;split at h
  ·rename_i c' ml' q' hh
   simp only[Option.some.injEq,Prod.mk.injEq]at h;obtain ⟨rfl,rfl,rfl⟩:=h;obtain ⟨h1,h2,h3⟩:=zZ l ms hh mlA k hk;simp only[lo];exact ⟨h1,h2,by simp[XT,h3]⟩
  ·cases h
 | int kk n=>simp only[clo,Option.some.injEq,Prod.mk.injEq]at h;obtain ⟨rfl,rfl,rfl⟩:=h;exact ⟨rfl,Vb.nil,by simp[lo,XT]⟩
 | bool b=>simp only[clo,Option.some.injEq,Prod.mk.injEq]at h;obtain ⟨rfl,rfl,rfl⟩:=h;exact ⟨rfl,Vb.nil,by simp[lo,XT]⟩
 | str b=>simp only[clo,Option.some.injEq,Prod.mk.injEq]at h;obtain ⟨rfl,rfl,rfl⟩:=h;exact ⟨rfl,Vb.nil,by simp[lo,XT]⟩
 | raw b=>simp only[clo,Option.some.injEq,Prod.mk.injEq]at h;obtain ⟨rfl,rfl,rfl⟩:=h;exact ⟨rfl,Vb.nil,by simp[lo,XT]⟩
 | bot=>simp only[clo,Option.some.injEq,Prod.mk.injEq]at h;obtain ⟨rfl,rfl,rfl⟩:=h;exact ⟨rfl,Vb.nil,by simp[lo,XT]⟩
 | os t sz els=>simp only[clo]at h;cases h
 | op t c=>simp only[clo]at h;cases h
theorem zZ {G:NH}:∀ (l:List AV) (ms:YM) {c:List AV} {ml:ML} {q:YM},Zav G l ms=some (c,ml,q)→∀ (mlA:ML) (k:Nat),(∀ (j:Nat) (x:Option (Nm×Nat)),ml[j]?=some x→mlA[k+j]?=some x)→(loL k c ms).2.2=q∧Vb G ml (loL k c ms).2.1∧YN mlA (loL k c ms).1 l:=fun l ms {c ml q} h mlA k hk=>by
 cases l with
 | nil=>simp only[Zav,Option.some.injEq,Prod.mk.injEq]at h;obtain ⟨rfl,rfl,rfl⟩:=h;exact ⟨rfl,Vb.nil,by simp[loL,YN]⟩
 | cons a as =>
  simp only[Zav]at h;split at h
  ·rename_i a' ml1 q1 h1
   split at h
   ·rename_i as' ml2 q2 h2
    simp only[Option.some.injEq,Prod.mk.injEq]at h;obtain ⟨rfl,rfl,rfl⟩:=h;obtain ⟨e1,e2,e3⟩:=Zhj a ms h1 mlA k (fun j x hx=>hk j x (by
     rw[List.getElem?_append_left (List.getElem?_eq_some_iff.1 hx).1];exact hx))
    have hlen:=e2.1;obtain ⟨f1,f2,f3⟩:=zZ as q1 h2 mlA (k+(lo k a' ms).2.1.length) (fun j x hx=>by
     rw[← hlen,Nat.add_assoc];refine hk (ml1.length+j) x ?_;rw[List.getElem?_append_right (by omega),Nat.add_sub_cancel_left];exact hx)
    simp only[loL];rw[e1];exact ⟨f1,e2.append f2,by simp only[YN];exact ⟨e3,f3⟩⟩
   ·cases h
  ·cases h
end
mutual
theorem ZdS {G G':NH}:∀ (v:AV) (ms:YM) {r:AV×ML×YM},clo G v ms=some r→(∀ p i,some (p,i)∈r.2.1→G p.root=G' p.root)→clo G' v ms=some r:=fun v ms {r} h hg=>by
 cases v with
 | ptr p i f =>
  simp only[clo]at h⊢;cases ms with
  | nil=>cases h
  | cons m q' =>
   simp only at h⊢;split at h
   ·rename_i hif
    rw[if_pos hif];have key:some (p,0)∈r.2.1:=by
     split at h
     ·split at h
      ·injection h with h;rw[← h];simp
      ·cases h
     ·split at h
      ·injection h with h;rw[← h];simp
      ·cases h
     ·cases h
    rw[ZU (hg p 0 key)];exact h
   ·cases h
 | sl p i n =>
  simp only[clo]at h⊢;cases ms with
  | nil=>cases h
  | cons m q' =>
   simp only at h⊢;have key:some (p,i)∈r.2.1:=by
    split at h
    ·split at h
     ·injection h with h;rw[← h];simp
     ·cases h
    ·split at h
     ·injection h with h;rw[← h];simp
     ·cases h
    ·cases h
   rw[ZU (hg p i key)];exact h
 | nsl=>simp only[clo]at h⊢;exact h
 | fn f l =>
  simp only[clo]at h⊢;split at h
  ·rename_i c' ml' q' hh
   injection h with h;rw[Ti l ms hh (by rw[← h]at hg;exact hg)];simp[h]
  ·cases h
 | iface t a =>
  simp only[clo]at h⊢;split at h
  ·rename_i c' ml' q' hh
   injection h with h;rw[ZdS a ms hh (by rw[← h]at hg;exact hg)];simp[h]
  ·cases h
 | agg l =>
  simp only[clo]at h⊢;split at h
  ·rename_i c' ml' q' hh
   injection h with h;rw[Ti l ms hh (by rw[← h]at hg;exact hg)];simp[h]
  ·cases h
 | tup l =>
  simp only[clo]at h⊢;split at h
  ·rename_i c' ml' q' hh
   injection h with h;rw[Ti l ms hh (by rw[← h]at hg;exact hg)];simp[h]
  ·cases h
 | _=>simp only[clo]at h⊢<;>exact h
theorem Ti {G G':NH}:∀ (l:List AV) (ms:YM) {r:List AV×ML×YM},Zav G l ms=some r→(∀ p i,some (p,i)∈r.2.1→G p.root=G' p.root)→Zav G' l ms=some r:=fun l ms {r} h hg=>by
 cases l with
 | nil=>simp only[Zav]at h⊢;exact h
 | cons a as =>
  simp only[Zav]at h⊢;split at h
  ·rename_i a' ml1 q1 h1
   split at h
   ·rename_i as' ml2 q2 h2
    injection h with h;rw[← h]at hg;rw[ZdS a ms h1 (fun p i hp=>hg p i (by simp at hp⊢;exact .inl hp))];simp only;rw[Ti as q1 h2 (fun p i hp=>hg p i (by simp at hp⊢;exact .inr hp))];simp[h]
   ·cases h
  ·cases h
end
structure Ans where
 res:AV
 outs:List NObj
def fixO:List NObj→List NObj→List NObj
 | [],_=>[]
 | o :: os,[]=>(if o.own=true then o else .free) :: fixO os []
 | o :: os,o' :: r=>(if o.own=true then o' else .free) :: fixO os r
mutual
def yt (k:Nat):AV→AV×List NObj
 | .op _ c=>(.ptr (.top k) 0 0,[.cells 0 c])
 | .os _ sz els=>(.sl (.top k) 0 els.length,[.arr 0 sz els])
 | .tup l=>match layL k l with
  | (l',os)=>(.tup l',os)
 | .iface t a=>match yt k a with
  | (a',os)=>(.iface t a',os)
 | .agg l=>match layL k l with
  | (l',os)=>(.agg l',os)
 | v=>(v,[])
def layL (k:Nat):List AV→List AV×List NObj
 | []=>([],[])
 | a :: as=>match yt k a with
  | (a',os)=>(match layL (k+os.length) as with
   | (as',os')=>(a' :: as',os++os'))
end
def Zil (p:Nm):Nm→Bool
 | .top n=>decide (p=.top n)
 | .sub y t j f=>decide (p=.sub y t j f) || Zil p y
theorem Zbi {p:Nm}:∀ {x:Nm},Zil p x=true↔pre p x
 | .top n=>by simp[Zil,pre]
 | .sub y t j f=>by simp[Zil,pre,Zbi (x:=y)]
def apart1 (x:Option (Nm×Nat)) (o:NObj):ML→List NObj→Bool
 | y :: r,o' :: os=>(match x,y with
  | some (p,_),some (p',_)=>if o.own=true∨o'.own=true then !Zil p p'&&!Zil p' p else true
  | _,_=>true)&&apart1 x o r os
 | _,_=>true
def yQ:ML→List NObj→Bool
 | x :: r,o :: os=>apart1 x o r os&&yQ r os
 | _,_=>true
theorem TR {p:Nm} {i:Nat} {o:NObj}:∀ {ml:ML} {os:List NObj},apart1 (some (p,i)) o ml os=true→∀ {k:Nat} {p':Nm} {i':Nat} {o':NObj},ml[k]?=some (some (p',i'))→os[k]?=some o'→(o.own=true∨o'.own=true)→¬ pre p p'∧¬ pre p' p
 | [],_,_,k,_,_,_,h,_,_=>by simp at h
 | y :: r,[],_,k,_,_,_,_,h,_=>by simp at h
 | y :: r,o1 :: os,h,k,p',i',o',h1,h2,h3=>by
  simp only[apart1,Bool.and_eq_true]at h;cases k with
  | zero =>
   simp at h1 h2;subst h1 h2;have:=h.1;simp only[h3,if_true,Bool.and_eq_true,Bool.not_eq_true',← Bool.not_eq_true,Zbi]at this;exact this
  | succ k=>exact TR h.2 (by simpa using h1) (by simpa using h2) h3
theorem zX:∀ {ml:ML} {os:List NObj},yQ ml os=true→ml.length=os.length→xT ml os
 | [],_,_,_=>fun k k' p p' i i' o _ h1=>by simp at h1
 | x :: r,[],_,h=>by simp at h
 | x :: r,o1 :: os,h,hl=>by
  simp only[yQ,Bool.and_eq_true]at h;have ih:=zX h.2 (by simpa using hl);intro k k' p p' i i' o hne h1 h2 h3 h4;cases k with
  | zero =>
   cases k' with
   | zero=>exact absurd rfl hne
   | succ k' =>
    simp at h1 h3;subst h1 h3;have hk':k'<os.length:=by
     have:=(List.getElem?_eq_some_iff.1 h2).1;simp at this hl;omega
    exact TR h.1 (k:=k') (by simpa using h2) (List.getElem?_eq_getElem hk') (.inl h4)
  | succ k =>
   cases k' with
   | zero =>
    simp at h2;subst h2;have:=TR h.1 (k:=k) (by simpa using h1) (by simpa using h3) (.inr h4);exact ⟨this.2,this.1⟩
   | succ k' => exact ih k k' p p' i i' o (by omega) (by simpa using h1) (by simpa using h2) (by simpa using h3) h4
def za (nb:Nat):ML→Bool
 | []=>true
 | some (p,_) :: r=>decide (p.mx<nb)&&za nb r
 | none :: r=>za nb r
theorem Tv {nb:Nat}:∀ {ml:ML},za nb ml=true→ZdW ml nb
 | [],_=>fun k p i h=>by simp at h
 | some (q,_) :: r,h=>fun k p i h1=>by
  simp only[za,Bool.and_eq_true]at h;cases k with
  | zero=>simp at h1;rw[← h1.1];exact of_decide_eq_true h.1
  | succ k=>exact Tv h.2 k p i (by simpa using h1)
 | none :: r,h=>fun k p i h1=>by
  simp only[za]at h;cases k with
  | zero=>simp at h1
  | succ k=>exact Tv h k p i (by simpa using h1)
def Va:ML→List Nat
 | []=>[]
 | some (p,_) :: r=>p.root :: Va r
 | none :: r=>Va r
theorem VM:∀ {ml:ML} {p:Nm} {i:Nat},some (p,i)∈ml→p.root∈Va ml
 | some (q,_) :: r,p,i,h=>by
  simp only[Va];rcases List.mem_cons.1 h with h|h
  ·simp at h;rw[h.1];exact List.mem_cons_self
  ·exact List.mem_cons_of_mem _ (VM h)
 | none :: r,p,i,h=>by
  simp only[Va];rcases List.mem_cons.1 h with h|h
  ·cases h
  ·exact VM h
 | [],_,_,h=>by simp at h
abbrev aA (ms:YM) (xs:List AV):List AV:=(loL 0 xs ms).1
abbrev oA (ms:YM) (xs:List AV):List NObj:=(loL 0 xs ms).2.1
abbrev lR (ms:YM) (xs:List AV) (a:Ans):AV:=(yt (oA ms xs).length a.res).1
abbrev nR (ms:YM) (xs:List AV) (a:Ans):List NObj:=(yt (oA ms xs).length a.res).2
abbrev uR (ms:YM) (xs:List AV) (a:Ans):List NObj:=fixO (oA ms xs) a.outs
def NOk (ms:YM) (d:List AV→Option Ans):Prop:=∀ xs a,d xs=some a→Ends (oA ms xs) (uR ms xs a) (nR ms xs a)∧X9 (Zjk (oA ms xs) (nR ms xs a).length) (lR ms xs a)=true
theorem Za2:∀ (ws:List (Nm×NObj)) (G:NH) (x:Nat),x∈(wrs G ws).map (·.1)→∃ q∈ws,q.1.root=x
 | [],G,x,h=>by simp[wrs]at h
 | (p,o) :: r,G,x,h=>by
  simp only[wrs,List.map_cons,List.mem_cons,UT]at h;rcases h with h|h
  ·exact ⟨_,List.mem_cons_self,h.symm⟩
  ·obtain ⟨q,h1,h2⟩:=Za2 r _ x h
   exact ⟨q,List.mem_cons_of_mem _ h1,h2⟩
theorem Zbd:∀ (ws:List (Nm×NObj)) {G G':NH},(∀ q∈ws,G q.1.root=G' q.1.root)→wrs G' ws=wrs G ws
 | [],_,_,_=>rfl
 | (p,o) :: r,G,G',h=>by
  have h0:=h _ List.mem_cons_self;simp only at h0;rw[wrs,wrs,ya h0]
  congr 1
  refine Zbd r fun q hq=>?_;by_cases e:q.1.root=(wr G p o).1
  ·rw[e,Zx,Zx]
  ·rw[Zn _ _ e,Zn _ _ e];exact h q (List.mem_cons_of_mem _ hq)
theorem yk:∀ (l:List NObj) (i x:Nat),x∈(ZS i l).map (·.1)→i≤x∧x<i+l.length
 | [],i,x,h=>by simp[ZS]at h
 | o :: r,i,x,h=>by
  simp only[ZS,List.map_cons,List.mem_cons]at h;rcases h with h|h
  ·subst h;simp
  ·have:=yk r (i+1) x h
   simp;omega
theorem Zip {i:Nat} {og o:NObj} (h:Seen i og o):og≠.free:=by
 intro e;rw[e]at h;cases h with
 | own h _=>cases h
 | row h _ _=>rcases h with h | h<;>cases h
 | one h _=>rcases h with h | h<;>cases h
def yw (ms:YM) (d:List AV→Option Ans) (args:List AV) (G:NH) (nb:Nat):Option Res :=
 match Zav G args ms with
 | some (xs,ml,[])=>if za nb ml=true∧yQ ml (oA ms xs)=true then (match d xs with
  | some a=>some ⟨Tt (bkN nb (oA ms xs).length ml) (lR ms xs a),Vf G nb ml (oA ms xs) (uR ms xs a) (nR ms xs a),Va ml,8⟩
  | none=>none) else none
 | _=>none
theorem UB {ms:YM} {d:List AV→Option Ans} {args:List AV} {G:NH} {nb:Nat} {r:Res} (h:yw ms d args G nb=some r):∃ xs ml a,Zav G args ms=some (xs,ml,[])∧za nb ml=true∧yQ ml (oA ms xs)=true∧d xs=some a∧r=⟨Tt (bkN nb (oA ms xs).length ml) (lR ms xs a),Vf G nb ml (oA ms xs) (uR ms xs a) (nR ms xs a),Va ml,8⟩:=by
 unfold yw at h;split at h
 ·rename_i xs ml hcl
  split at h
  ·rename_i hh
   split at h
   ·rename_i a ha
    injection h with h;exact ⟨xs,ml,a,hcl,hh.1,hh.2,ha,h.symm⟩
   ·cases h
  ·cases h
 ·cases h
theorem ym {G:NH} {args xs:List AV} {ml:ML} {ms q:YM} (h:Zav G args ms=some (xs,ml,q)):yv G ml (oA ms xs)∧YN ml (aA ms xs) args:=by
 obtain ⟨_,h2,h3⟩:=zZ args ms h ml 0 (fun j x hx=>by rwa [Nat.zero_add]);exact ⟨Zgq h2,h3⟩
def Zm (ms:YM) (d:List AV→Option Ans) (hok:NOk ms d):Spec where
 fn:=yw ms d
 loc:=fun args G G' nb r h hG=>by
  obtain ⟨xs,ml,a,h1,h2,h3,h4,rfl⟩:=UB h;have hroot:∀ p i,some (p,i)∈ml→G p.root=G' p.root:=fun p i hp=>hG _ (.inl (VM hp));unfold yw;rw[Ti args ms h1 hroot];simp only[h2,h3,h4,and_self,if_true];have:Vf G' nb ml (oA ms xs) (uR ms xs a) (nR ms xs a)=Vf G nb ml (oA ms xs) (uR ms xs a) (nR ms xs a):=by
   unfold Vf
   congr 1
   refine Zbd _ fun q hq=>?_;obtain ⟨k,i,o,o',g1,_⟩:=TB hq;exact hroot q.1 i (List.mem_of_getElem? g1)
  rw[this]
 nm:=fun args G nb r h x hx=>by
  obtain ⟨xs,ml,a,h1,h2,h3,h4,rfl⟩:=UB h;obtain ⟨hc,_⟩:=ym h1;simp only[Vf,List.map_append,List.mem_append]at hx;rcases hx with hx|hx
  ·obtain ⟨q,g1,g2⟩:=Za2 _ _ _ hx
   obtain ⟨k,i,o,o',e1,e2,_⟩:=TB g1;right;rw[← g2];have:=hc.2 k _ o e1 e2;exact Ui (Zip this)
  ·have:=yk _ _ _ hx
   have:=(hok xs a h4).1.few;exact .inl (by simp only;omega)
def ZeJ (P:Program) (fn:Func):Option MCode :=
 match fn.body with
 | some c=>rC P c
 | none=>none
theorem Uw {P:Program} {fn:Func} {mc:MCode} (h:ZeJ P fn=some mc):∃ c,fn.body=some c∧rC P c=some mc:=by
 unfold ZeJ at h;split at h
 ·rename_i c hc;exact ⟨c,hc,h⟩
 ·cases h
theorem yC {P:Program} {f:FuncId} {fn:Func} {mc:MCode} {res:List RV} (hf:P.funcs[f]?=some fn) (hn:(fn.name == "runtime.NumGoroutine")=false) (hrc:ZeJ P fn=some mc) (hres:Zaj P fn.results.toList=some res) {ms:YM} {d:List AV→Option Ans} (hok:NOk ms d)
  (hlen:∀ xs a,d xs=some a→(aA ms xs).length≤fn.ntmps)
  (hw:∀ xs a,d xs=some a→∀ (w0:World) (S:Sc),S.m=(oA ms xs).length→Wm P w0 S fn.ntmps [] mc ⟨Zcp 0 (aA ms xs),ZS 0 (oA ms xs),(oA ms xs).length⟩
   (Zgy res fun v s=>Imp (oA ms xs).length ⟨[(0,v)],s.hl,s.nb⟩ ⟨[(0,lR ms xs a)],ZS 0 (uR ms xs a++nR ms xs a),(oA ms xs).length+(nR ms xs a).length⟩)):Sound P f (Zm ms d hok):=by
 obtain ⟨c,hb,hrc⟩:=Uw hrc
 refine ⟨⟨fn,hf,hn,by rw[hb];rfl⟩,fun w0 S Es U G w avs vs nb r h1 h2 h3 h4 h5 h6 h7 h8=>?_⟩
 obtain ⟨xs,ml,a,g1,g2,g3,g4,rfl⟩:=UB h7
 obtain ⟨hc,hargs⟩:=ym g1
 obtain ⟨e1,e2⟩:=hok xs a g4
 exact (yS hf hb hrc hres (hlen xs a g4) e1 e2 (hw xs a g4) h1 h3 h4 h5 h6 h8 hargs hc (zX g3 hc.1) (Tv g2))
open Go.ChangeShapes Go.WideShapes Go.ChangeAt Go.RowKit Go.Joins Go.Deep
def noSc:Sc:=⟨fun _=>False,0,fun _=>V0⟩
theorem HCore.below {w0:World} {ρ:Env} {H:Nm→AObj} {w:World} (h:HCore w0 noSc ρ H w):Below w0.heap.size w0 w :=
  ⟨h.os,h.tape,h.output,h.size,fun k hk=>h.frame k hk fun hf=>hf⟩
theorem ZeY {H:Type} {enc:TypeId×Value→H} {P:Program} {w:World} {base:Nat} {spare:Nat→Bool} {held:Bool} {r:Reach} {b0:Nat} {t:TypeId} {fs:Array Field} {v:Value} {d:DataW H} {p:List MemPlace} (hs:P.underlying t=some (.struct fs)) (hone:oneCellFields P fs=true) (hC:P.cellsOf t=fs.size)
    {m:Nat} (hint:fs.toList.map (fun f=>P.underlying f.type)=List.replicate m (some (.int .i64))) (hv:Value.okWide P w r b0 t v) (h:DataW.Trod enc P w base spare held t v d p) :
    ∃ ns:List Int,v=.agg (ns.map (Value.int .i64)).toArray∧ns.length=fs.size∧∀ n∈ns,(Lit.int .i64 n).wf=true:=by
  obtain ⟨cs,rfl,hsz⟩:=okWide_struct hs hv
  obtain ⟨fuel,hf⟩:=h
  obtain ⟨xs,mm,_,hx,_,hlen,hg⟩:=DataW.trod_struct hs hf
  have each:∀ j (hj:j<cs.toList.length),∃ n:Int,cs.toList[j]=.int .i64 n∧(Lit.int .i64 n).wf=true:=fun j hj=>by
    have hjf:j<fs.size:=(by rw[← hC,← hsz];simpa using hj);have hfj:fs[j]?=some fs[j]:=Array.getElem?_eq_getElem hjf;obtain ⟨o0,k0⟩:=hone_of hone j fs[j] hfj;have h1:=hg j fs[j] hfj;rw[o0,k0]at h1;have hc:((Value.agg cs).cells.toList.drop j).take 1=[cs.toList[j]]:=by
      show (cs.toList.drop j).take 1=_;rw[List.drop_eq_getElem_cons hj];rfl
    rw[hc]at h1;have hxs:j<xs.length:=(by rw[hlen];exact hjf);rw[List.getElem?_eq_getElem hxs]at h1;have hu:P.underlying fs[j].type=some (.int .i64):=by
      have h2:(fs.toList.map (fun f=>P.underlying f.type))[j]?=some (P.underlying fs[j].type):=(by simp[hjf]);rw[hint,List.getElem?_replicate]at h2;split at h2
      · simpa using h2.symm
      · cases h2
    obtain ⟨n,e0,_,wx⟩:=DataW.trod_int hu h1;simp at e0;exact ⟨n,e0,wx⟩
  have hall:∀ (l:List Value),(∀ j (hj:j<l.length),∃ n:Int,l[j]=.int .i64 n∧(Lit.int .i64 n).wf=true)→∃ ns:List Int,l=ns.map (Value.int .i64)∧∀ n∈ns,(Lit.int .i64 n).wf=true:=by
    intro l
    induction l with
    | nil=>intro _;exact ⟨[],rfl,by simp⟩
    | cons a l ih =>
      intro h;obtain ⟨n,h1,h2⟩:=h 0 (by simp);obtain ⟨ns,h3,h4⟩:=ih fun j hj=>by have:=h (j+1) (by simpa using hj);simpa only[List.getElem_cons_succ] using this
      refine ⟨n :: ns,?_,?_⟩
      · simp at h1;simp[h1,h3]
      · intro x hx;rcases List.mem_cons.1 hx with rfl|hx
        · exact h2
        · exact h4 x hx
  obtain ⟨ns,h1,h2⟩:=hall cs.toList each
  refine ⟨ns,by rw[← h1],?_,h2⟩
  have:=congrArg List.length h1
  simp at this
  rw[← this,hsz,hC]
end Go.W
