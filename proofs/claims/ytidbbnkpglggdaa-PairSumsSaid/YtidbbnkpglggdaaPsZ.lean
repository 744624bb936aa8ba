/- Rows whose arguments are slices of structs of integers and truths; from a specification of a call that only reads to a statement's call. A slice's length; rows of aims and of acts. -/
import Derived.Test.YtidbbnkpglggdaaPyO
import Derived.Test.YtidbbnkpglggdaaWcA
import Derived.Test.YtidbbnkpglggdaaWkC
import Derived.Deep.Slices
import Derived.Test.YtidbbnkpglggdaaPyL
import Derived.Test.YtidbbnkpglggdaaPsV0
namespace Go.W
open Go.Proofs
set_option linter.unusedSimpArgs false
set_option linter.unusedVariables false
set_option maxHeartbeats 8000000
attribute [local irreducible] Wm
attribute [local simp] nmap lkp mkPl prs prsL prT ddL idL CRenL CRen Ren RenL NObj.none CRenLL
def d6:List AV→List NObj→Option AV
 | [.agg [.int .i64 a,.int .i64 b,.int .i64 c,.int .i64 d,.int .i64 e,.int .i64 f,.int .i64 g],.sl (.top 0) 0 n,.sl (.top 1) 0 n1,.sl (.top 2) 0 n2],[.view 0 10 els,.view 0 5 am,.view 0 2 ac]=>if n=els.length∧els.all ordB=true∧n1=am.length∧am.all aimB=true∧n2=ac.length∧ac.all actB=true∧ac.length≤9223372036854775807∧am.length≤9223372036854775807 then some (.bool true) else none
 | _,_=>none
theorem ok6:ROk d6:=by
 intro xs os r h
 unfold d6 at h
 (repeat' (split at h))<;>first|(cases h;done)|(injection h with h;subst h;simp)
theorem s6:Sound Try.prog 6 (rdS d6 ok6):=by
 refine rd_sound Try.func6 nm6 rc6 rv6 ok6 fun xs os r h vs ρ0 hvs=>⟨xs,?_,fun _ h=>h,fun w0 S hS=>?_⟩
 ·unfold d6 at h
  (repeat' (split at h))<;>first|(cases h;done)|exact Nat.le_of_ble_eq_true rfl
 unfold d6 at h
 split at h
 ·split at h
  ·rename_i a b c d e f g nn n1 n2 els am ac hcond
   injection h with h
   subst h
   obtain ⟨rfl,hob,rfl,ham,rfl,hac,hna,hnm⟩:=hcond
   have hE:=ELf_ok
   have hTe:=ord_t0 hob
   have hCe:=ord_cl hob
   have h9:∀ u,d9 [.agg [.int .i64 a,.int .i64 b,.int .i64 c,.int .i64 d,.int .i64 e,.int .i64 f,.int .i64 g],.os u 10 els]=some ⟨if cfgB a b c d e f g=true then bothA a b c d e f g els else .tup [.raw (.pointer none),.raw (.pointer none),.bool false],[.free]⟩:=fun u=>by
    simp only[d9];rw[if_pos hob]
   obtain ⟨ba0,hba⟩:∃ z,(if cfgB a b c d e f g=true then bothA a b c d e f g els else .tup [.raw (.pointer none),.raw (.pointer none),.bool false])=z:=⟨_,rfl⟩
   rw[hba]at h9
   by_cases hok:cfgB a b c d e f g=true∧bothZ a b c d e f g els els.length≠none
   case neg =>
    have hnil:ba0=.tup [.raw (.pointer none),.raw (.pointer none),.bool false]:=by
     rw[← hba]
     by_cases hcf:cfgB a b c d e f g=true
     ·rw[if_pos hcf]
      have:bothZ a b c d e f g els els.length=none:=by
       cases hz:bothZ a b c d e f g els els.length with
       | none=>rfl
       | some p=>exact absurd ⟨hcf,by rw[hz];simp⟩ hok
      simp only[bothA,this]
     ·rw[if_neg hcf]
    rw[hnil]at h9
    unfold m6
    repeat' with_reducible (first
     | refine ZR.h ?_ | refine zI (by decide) ?_
     | ((first | refine zK hE ?_ | refine zL hE mixT ?_);intro K hK;simp[KR.ks,KD.ks,KD.cl,ELf,q6_0,q6_1,q6_2,q6_3,q6_4,q6_5,q6_6,q6_7,q6_8,q6_9,q6_10,q6_11,q6_12,q6_13,q6_14,q6_15,q6_16,q6_17,q6_18,q6_19,q6_20,q6_21,q6_22,q6_23,q6_24,q6_25,q6_26,q6_27,q6_28,q6_29,q6_30,q6_31,q6_32,q6_33,q6_34,q6_35,q6_36,q6_37,q6_38,q6_39,q6_40,q6_41,q6_42,q6_43,q6_44,q6_45,hTe,hCe,h9,d10];(repeat' (first | refine hK _ _ ?_ | refine And.intro ?_ ?_ | (intro hc;try subst hc)))<;>(try clear hK K))
     | (refine zJ (b:=_) (by with_unfolding_all rfl) (fun hc=>?_) (fun hc=>?_)<;>simp at hc<;>(try subst hc)))
    all_goals first|(simp;done)|(simp at *;omega)|((try simp);refine Imp.auto (by kernel_rfl) ?_ ?_<;>simp[NLe,mkPlX])
   obtain ⟨hcfg,hnn⟩:=hok
   obtain ⟨ws,SS,TT,hz⟩:∃ ws S T,bothZ a b c d e f g els els.length=some (ws,S,T):=by
    cases hz:bothZ a b c d e f g els els.length with
    | none=>exact absurd hz hnn
    | some p=>exact ⟨_,_,_,rfl⟩
   obtain ⟨hW0,hWs,hel⟩:=both_W hcfg hob hz
   obtain ⟨_,_,_,⟨hSlen,hTS,hCS,_⟩,⟨hTlen,hTT,hCT,_⟩⟩:=both_inv hcfg hob _ _ _ _ (Nat.le_refl _) hz
   have hcell:=both_cell hcfg hob _ _ _ _ (Nat.le_refl _) hz
   have hcell3:=both_cell3 hcfg hob _ _ _ _ (Nat.le_refl _) hz
   have hbe:ba0=.tup [.op 0 (wzC (bW a b c d e f g els ws)),.op 0 (qC a b c d e f g SS TT),.bool true]:=by
    rw[← hba,if_pos hcfg];simp only[bothA,hz];rfl
   rw[hbe]at h9
   have hall:=cfg_all hcfg
   have hSl:(SS.length:Int)=a*b:=by rw[hSlen];omega
   obtain ⟨B,hB⟩:∃ z,bW a b c d e f g els ws=z:=⟨_,rfl⟩
   have hBp:B.a=a∧B.b=b∧B.f=f∧B.ws=ws∧B.lg=[]:=by rw[← hB];exact ⟨rfl,rfl,rfl,rfl,rfl⟩
   obtain ⟨qa,qb,qf,qw,ql⟩:=hBp
   rw[hB]at h9 hW0 hWs
   have hz0:=wz_t0' (hW0)
   have hz1:=wz_cl' (hW0)
   have hzr:=wz_ren (hW0)
   by_cases h6:(6:Int)<am.length
   ·simp only[qC]at h9
    unfold m6
    repeat' with_reducible (first
     | refine ZR.h ?_ | refine zI (by decide) ?_
     | ((first | refine zK hE ?_ | refine zL hE mixT ?_);intro K hK;simp[KR.ks,KD.ks,KD.cl,ELf,q6_0,q6_1,q6_2,q6_3,q6_4,q6_5,q6_6,q6_7,q6_8,q6_9,q6_10,q6_11,q6_12,q6_13,q6_14,q6_15,q6_16,q6_17,q6_18,q6_19,q6_20,q6_21,q6_22,q6_23,q6_24,q6_25,q6_26,q6_27,q6_28,q6_29,q6_30,q6_31,q6_32,q6_33,q6_34,q6_35,q6_36,q6_37,q6_38,q6_39,q6_40,q6_41,q6_42,q6_43,q6_44,q6_45,h9,hTe,hCe,hz0,hz1,hzr,hTS,hCS,hTT,hCT,h6,d10];(repeat' (first | refine hK _ _ ?_ | refine And.intro ?_ ?_ | (intro hc;try subst hc)))<;>(try clear hK K))
     | (refine zJ (b:=_) (by with_unfolding_all rfl) (fun hc=>?_) (fun hc=>?_)<;>simp at hc<;>(try subst hc)))
    all_goals first|(simp;done)|(simp at *;omega)|((try simp);refine Imp.auto (by kernel_rfl) ?_ ?_<;>simp[NLe,mkPlX])
   have eX:∀ i:Nat,stW B (i:Int)=stateZ (wAt ws (2*i)):=fun i=>by
    unfold stW sAt;rw[qw,show (2*(i:Int)).toNat=2*i by omega]
   have hfin:=fun (Q:Exit→St→Prop) (hQ:∀ hl nb,Q .ret ⟨[(8,.bool true)],hl,nb⟩)=>w6A (w0:=w0) (am:=am) (ac:=ac) (TT:=TT) (a:=a) (b:=b) (c:=c) (d:=d) (e:=e) (f:=f) (g:=g) hS hQ hW0 (by omega) ql (fun i i0 i1=>by
    obtain ⟨X,rfl⟩:=Int.eq_ofNat_of_zero_le i0
    rw[eX,qf];exact hcell3 X (by rw[← qa,← qb];exact i1)) (by rw[qa,qb];exact hSl) (fun j hj=>by rw[eX];exact (hcell j (by omega)).1) hTS hCS hTT hCT ham (by omega) hac hna
   clear hba hbe hnn hcell hcell3 hz
   simp only[qC]at h9
   unfold m6
   repeat' with_reducible (first
    | refine ZR.h ?_ | refine zI (by decide) ?_
    | ((first | refine zK hE ?_ | refine zL hE mixT ?_);intro K hK;simp[KR.ks,KD.ks,KD.cl,ELf,q6_0,q6_1,q6_2,q6_3,q6_4,q6_5,q6_6,q6_7,q6_8,q6_9,q6_10,q6_11,q6_12,q6_13,q6_14,q6_15,q6_16,q6_17,q6_18,q6_19,q6_20,q6_21,q6_22,q6_23,q6_24,q6_25,q6_26,q6_27,q6_28,q6_29,q6_30,q6_31,q6_32,q6_33,q6_34,q6_35,q6_36,q6_37,q6_38,q6_39,q6_40,q6_41,q6_42,q6_43,q6_44,q6_45,h9,hTe,hCe,hz0,hz1,hzr,hTS,hCS,hTT,hCT,h6,d10];(repeat' (first | refine hK _ _ ?_ | refine And.intro ?_ ?_ | (intro hc;try subst hc)))<;>(try clear hK K))
    | (refine zJ (b:=_) (by with_unfolding_all rfl) (fun hc=>?_) (fun hc=>?_)<;>simp at hc<;>(try subst hc)))
   all_goals refine Wm_imp ?_ (hfin _ ?_)
   ·rw[hS]
    simp only[KA,tAm,List.take_zero,List.map_nil,qC]
    refine Imp.auto (by kernel_rfl) ?_ ?_<;>simp[NLe,mkPlX,trs,aim_t0 ham,aim_cl ham,act_t0 hac,act_cl hac,hz0,hz1,hzr,hTS,hCS,hTT,hCT]
   ·intro hl nb
    simp
    refine Imp.auto (by kernel_rfl) ?_ ?_<;>simp[NLe,mkPlX]
  ·cases h
 ·cases h
end Go.W

set_option linter.unusedSimpArgs false
set_option linter.unusedVariables false
namespace Go.W
open Go.ChangeShapes Go.WideShapes Go.ChangeAt Go.RowKit Go.Joins Go.Deep
def leafV (k:Bool) (a:AV) (v:Value):Prop:=if k=true then ∃ b,a=.bool b∧v=.bool b else ∃ n,a=.int .i64 n∧v=.int .i64 n∧-9223372036854775808≤n∧n≤9223372036854775807
def flatBs (P:Program) (fl:TypeId→Option (List Bool)):List Field→Nat→Option (List Bool)
 | [],_=>some []
 | f :: r,off=>match fl f.type with
  | some ks=>if f.offset=off∧P.cellsOf f.type=ks.length then (match flatBs P fl r (off+ks.length) with
   | some rs=>some (ks++rs)
   | none=>none) else none
  | none=>none
def flatB (P:Program):Nat→TypeId→Option (List Bool)
 | 0,_=>none
 | d+1,t=>match P.underlying t with
  | some (.int .i64)=>some [false]
  | some .bool=>some [true]
  | some (.struct fs)=>match flatBs P (flatB P d) fs.toList 0 with
   | some ks=>if P.cellsOf t=ks.length then some ks else none
   | none=>none
  | _=>none
section
variable {H:Type} {enc:TypeId×Value→H} {P:Program} {w:World} {base:Nat} {spare:Nat→Bool} {held:Bool}
theorem flatBs_leaf {fl:TypeId→Option (List Bool)} (hfl:∀ (t:TypeId) (ks:List Bool) (fuel:Nat) (cs:List Value) (x:DataW H×List MemPlace),fl t=some ks→DataW.trod enc P w base spare held fuel t cs=some x→cs.length=ks.length∧∀ (j:Nat) (k:Bool),ks[j]?=some k→∃ a v,cs[j]?=some v∧leafV k a v) {cs:List Value} :
  ∀ (l:List Field) (off:Nat) (ks:List Bool),flatBs P fl l off=some ks→(∀ f,f∈l→∃ fuel x,DataW.trod enc P w base spare held fuel f.type ((cs.drop f.offset).take (P.cellsOf f.type))=some x)→∀ (j:Nat) (k:Bool),ks[j]?=some k→∃ a v,cs[off+j]?=some v∧leafV k a v
 | [],off,ks,h,_=>by
  simp only[flatBs,Option.some.injEq]at h
  subst h
  intro j k hk
  simp at hk
 | f :: r,off,ks,h,hx=>by
  simp only[flatBs]at h
  split at h
  ·rename_i k0 hk0
   split at h
   ·rename_i hc
    split at h
    ·rename_i rs hrs
     simp only[Option.some.injEq]at h
     subst h
     have h2:=flatBs_leaf hfl r (off+k0.length) rs hrs fun g hg=>hx g (List.mem_cons_of_mem _ hg)
     obtain ⟨fuel,x,h3⟩:=hx f List.mem_cons_self
     rw[hc.1,hc.2]at h3
     obtain ⟨h4,h5⟩:=hfl _ _ _ _ _ hk0 h3
     intro j k hk
     by_cases hj:j<k0.length
     ·rw[List.getElem?_append_left hj]at hk
      obtain ⟨a,v,e1,e2⟩:=h5 j k hk
      rw[List.getElem?_take,if_pos hj,List.getElem?_drop]at e1
      exact ⟨a,v,e1,e2⟩
     ·rw[List.getElem?_append_right (by omega)]at hk
      obtain ⟨a,v,e1,e2⟩:=h2 _ k hk
      rw[show off+k0.length+(j - k0.length)=off+j from by omega]at e1
      exact ⟨a,v,e1,e2⟩
    ·cases h
   ·cases h
  ·cases h
theorem flatB_leaf:∀ (dp:Nat) (t:TypeId) (ks:List Bool) (fuel:Nat) (cs:List Value) (x:DataW H×List MemPlace),flatB P dp t=some ks→DataW.trod enc P w base spare held fuel t cs=some x→cs.length=ks.length∧∀ (j:Nat) (k:Bool),ks[j]?=some k→∃ a v,cs[j]?=some v∧leafV k a v
 | 0,t,ks,fuel,cs,x,h,_=>by simp[flatB]at h
 | d+1,t,ks,fuel,cs,x,h,hx=>by
  unfold flatB at h
  split at h
  ·rename_i hu
   simp only[Option.some.injEq]at h
   subst h
   obtain ⟨n,rfl,_,hwf⟩:=DataW.trod_int hu hx
   have hr:-9223372036854775808≤n∧n≤9223372036854775807:=by simpa [Lit.wf,IntKind.min,IntKind.max,IntKind.bits,IntKind.signed] using hwf
   refine ⟨rfl,fun j k hk=>?_⟩
   cases j with
   | zero=>simp at hk;subst hk;exact ⟨.int .i64 n,.int .i64 n,rfl,by rw[leafV,if_neg (by simp)];exact ⟨n,rfl,rfl,hr⟩⟩
   | succ j=>simp at hk
  ·rename_i hu
   simp only[Option.some.injEq]at h
   subst h
   obtain ⟨b,rfl,_⟩:=DataW.trod_bool hu hx
   refine ⟨rfl,fun j k hk=>?_⟩
   cases j with
   | zero=>simp at hk;subst hk;exact ⟨.bool b,.bool b,rfl,by rw[leafV,if_pos rfl];exact ⟨b,rfl,rfl⟩⟩
   | succ j=>simp at hk
  ·rename_i fs hu
   split at h
   ·rename_i ks' hm
    split at h
    ·rename_i hc
     simp only[Option.some.injEq]at h
     subst h
     obtain ⟨xs,n,_,_,hl,hxl,hf⟩:=DataW.trod_struct hu hx
     have:=flatBs_leaf (fun t k fuel cs x=>flatB_leaf d t k fuel cs x) fs.toList 0 ks' hm fun f hfm=>by
      obtain ⟨i,hi⟩:=List.getElem?_of_mem hfm
      have hi':fs[i]?=some f:=by rw[← Array.getElem?_toList];exact hi
      have h1:=hf i f hi'
      have hlt:i<xs.length:=by rw[hxl];exact (Array.getElem?_eq_some_iff.1 hi').1
      rw[List.getElem?_eq_getElem hlt]at h1
      exact ⟨n,_,h1⟩
     exact ⟨by rw[hl,hc],fun j k hk=>by have:=this j k hk;rwa [Nat.zero_add]at this⟩
    ·cases h
   ·cases h
  ·cases h
end
def rowK (ks:List Bool) (c:List AV):Prop:=c.length=ks.length∧∀ (j:Nat) (k:Bool),ks[j]?=some k→∃ a v,c[j]?=some a∧leafV k a v
theorem rowK_dat {ks:List Bool} {c:List AV} (h:rowK ks c):datL c=true:=by
 refine List.all_eq_true.2 fun a ha=>?_
 obtain ⟨j,hj⟩:=List.getElem?_of_mem ha
 have hlt:j<ks.length:=by rw[← h.1];exact (List.getElem?_eq_some_iff.1 hj).1
 obtain ⟨a',v,h1,h2⟩:=h.2 j _ (List.getElem?_eq_getElem hlt)
 rw[hj]at h1
 simp only[Option.some.injEq]at h1
 subst h1
 unfold leafV at h2
 split at h2
 ·obtain ⟨b,rfl,_⟩:=h2;rfl
 ·obtain ⟨n,rfl,_⟩:=h2;rfl
theorem leaf_rep {ρ:Env} {k:Bool} {a:AV} {v:Value} (h:leafV k a v):Rep ρ a v:=by
 unfold leafV at h
 split at h
 ·obtain ⟨b,rfl,rfl⟩:=h;simp[Rep]
 ·obtain ⟨n,rfl,rfl,_⟩:=h;simp[Rep]
theorem open_kinds {H:Type} {enc:TypeId×Value→H} {P:Program} {w:World} {base b0:Nat} {r:Reach} {t e:TypeId} {v:Value} {d:DataW H} {p:List MemPlace} (ht:P.underlying t=some (.slice e)) {ks:List Bool} {z:Nat} (hfl:flatB P 6 e=some ks) (hz:ks.length=z) (hz0:0<z) (hce:P.cellsOf e=z) (hv:Value.okWide P w r b0 t v) (h:DataW.Trod enc P w base (fun _=>true) true t v d p) :
  ∃ (els:List (List AV)) (L:Loc),(∀ c,c∈els→rowK ks c)∧(∀ ρ nm,ObjOk ρ L (flO nm (.view 0 z els)) w)∧(L.nil=false→L.blk<w.heap.size)∧(∀ (ρ:Env) nm,ρ nm=L→Rep ρ (.sl nm 0 els.length) v):=by
 obtain ⟨q,len0,cap0,rfl⟩:=okWide_slice ht hv
 obtain ⟨fuel,hf⟩:=h
 have hcs:(Value.slice q len0 cap0).cells.toList=[.slice q len0 cap0]:=rfl
 rw[hcs]at hf
 have nilcase:∀ (c:Option Addr),∃ (els:List (List AV)) (L:Loc),(∀ c,c∈els→rowK ks c)∧(∀ ρ nm,ObjOk ρ L (flO nm (.view 0 z els)) w)∧(L.nil=false→L.blk<w.heap.size)∧(∀ (ρ:Env) nm,ρ nm=L→Rep ρ (.sl nm 0 els.length) (.slice c 0 0)):=fun c =>
  ⟨[],nilLoc,fun c hc=>by simp at hc,fun ρ nm=>.inl ⟨rfl,rfl⟩,(fun h=>by simp[nilLoc]at h),(fun ρ nm hρ=>by
   rw[Rep]
   exact .inl ⟨by rw[hρ];rfl,rfl,rfl,c,rfl⟩)⟩
 rcases open_slice ht hf with ⟨h0,_⟩ | ⟨a,len,cap,m,n,D,Pl,h0,hb,hl,hm,hmm,_,hx⟩
 ·simp only[List.cons.injEq,and_true]at h0
  rw[h0]
  exact nilcase none
 ·simp only[List.cons.injEq,and_true]at h0
  rw[h0]
  simp only[if_true]at hmm
  subst hmm
  by_cases hc0:m=0
  ·subst hc0
   have:len=0:=by omega
   subst this
   exact nilcase (some a)
  ·rw[hce]at hx
   have cell:∀ i,i<m→∃ f:Nat→AV,∀ j,j<z→∃ k v,ks[j]?=some k∧w.cell? (a.add (i*z+j))=some v∧leafV k (f j) v:=fun i hi=>by
    obtain ⟨cs',g1,g2⟩:=hx i hi
    obtain ⟨_,g3,g4⟩:=World.cells?_some g1
    obtain ⟨_,g6⟩:=flatB_leaf 6 e ks n cs' _ hfl g2
    refine choose_lt (α:=AV) (n:=z) (p:=fun j a' => ∃ k v,ks[j]?=some k∧w.cell? (a.add (i*z+j))=some v∧leafV k a' v) fun j hj=>?_
    have hk:=List.getElem?_eq_getElem (l:=ks) (show j<ks.length by omega)
    obtain ⟨a',v,e1,e2⟩:=g6 j _ hk
    have:=g4 j hj
    rw[add_add,e1]at this
    exact ⟨a',_,v,hk,this,e2⟩
   obtain ⟨F,hF⟩:=choose_lt (α:=Nat→AV) (n:=m) (p:=fun i f=>∀ j,j<z→∃ k v,ks[j]?=some k∧w.cell? (a.add (i*z+j))=some v∧leafV k (f j) v) cell
   obtain ⟨k00,u0,_,hu0,_⟩:=hF 0 (by omega) 0 hz0
   rw[Nat.zero_mul,Nat.zero_add]at hu0
   have ha0:a.add 0=a:=by simp[Addr.add]
   rw[ha0]at hu0
   have hsp:a.spot=none:=by
    unfold World.cell? at hu0
    split at hu0
    ·split at hu0
     ·cases hu0
     ·rename_i hs
      cases hsp:a.spot with
      | none=>rfl
      | some s=>rw[hsp]at hs;simp at hs
    ·cases hu0
   obtain ⟨blk,off,spt⟩:=a
   simp only at hsp
   subst hsp
   have hblk:=World.block_lt_of_cell? w _ hu0
   have hrow:∀ i,i<m→rowK ks ((List.range z).map (F i)):=fun i hi=>⟨by rw[List.length_map,List.length_range,hz],fun j k hk=>by
    have hj:j<z:=by rw[← hz];exact (List.getElem?_eq_some_iff.1 hk).1
    obtain ⟨k',v,e1,e2,e3⟩:=hF i hi j hj
    rw[hk]at e1
    simp only[Option.some.injEq]at e1
    subst e1
    exact ⟨F i j,v,by rw[List.getElem?_map,List.getElem?_range hj];rfl,e3⟩⟩
   refine ⟨(List.range len).map fun i=>(List.range z).map (F i),⟨blk,off,z,m,false⟩,fun c hc=>?_,fun ρ nm=>?_,fun _=>hblk,fun ρ nm hρ=>?_⟩
   ·obtain ⟨i,hi,rfl⟩:=List.mem_map.1 hc
    exact hrow i (by have:=List.mem_range.1 hi;omega)
   ·refine .inr ⟨rfl,rfl,by rw[List.length_map,List.length_range];exact hl,fun i hi=>?_,fun i hi j v hv=>?_⟩
    ·simp only[List.length_map,List.length_range]at hi
     rw[flC_length,List.getD_eq_getElem?_getD,List.getElem?_map,List.getElem?_range hi]
     show ((List.range z).map (F i)).length=z
     rw[List.length_map,List.length_range]
    ·simp only[List.length_map,List.length_range]at hi
     have e1:((List.range len).map fun i=>(List.range z).map (F i)).getD i []=(List.range z).map (F i):=by
      rw[List.getD_eq_getElem?_getD,List.getElem?_map,List.getElem?_range hi];rfl
     rw[e1,flC_plain (datL_plain (rowK_dat (hrow i (by omega)))),List.getElem?_map]at hv
     by_cases hj:j<z
     ·rw[List.getElem?_range hj]at hv
      simp only[Option.map_some,Option.some.injEq]at hv
      subst hv
      obtain ⟨k,u,_,e3,e4⟩:=hF i (by omega) j hj
      refine ⟨u,?_,leaf_rep e4,?_⟩
      ·rw[← e3]
       congr 1
       unfold Addr.add
       split
       ·rename_i h0;simp[h0]
       ·rfl
      ·unfold leafV at e4
       split at e4
       ·obtain ⟨b,_,hn⟩:=e4;rw[hn];rfl
       ·obtain ⟨n,_,hn,_⟩:=e4;rw[hn];rfl
     ·rw[List.getElem?_eq_none (by rw[List.length_range];omega)]at hv
      simp only[Option.map_none,reduceCtorEq]at hv
   ·rw[Rep,List.length_map,List.length_range]
    refine .inr ⟨by rw[hρ],by rw[hρ,Nat.zero_add];exact hl,off,by rw[hρ];rfl,fun _=>by rw[hρ];simp⟩
theorem rd_boolK {P:Program} {f:FuncId} {d:List AV→List NObj→Option AV} {ok:ROk d} (hs:Sound P f (rdS d ok)) {W:World} {hl:HL} {m:Nat} {Ls:Nat→Loc}
  (hv:∀ k,k<m→∃ sz els,hk hl k=.view 0 sz els∧(∀ c,c∈els→datL c=true)∧(∀ ρ,ObjOk ρ (Ls k) (flO (.top k) (.view 0 sz els)) W)∧((Ls k).nil=false→(Ls k).blk<W.heap.size)) (hf:∀ k,m≤k→hk hl k=.free)
  {avs:List AV} {vs:List Value} {b:Bool} {rd:List Nat} (h:rdF d avs (hk hl) m=some ⟨.bool b,[],rd⟩) (hrep:∀ ρ:Env,(∀ k,k<m→ρ (.top k)=Ls k)→RepL ρ avs vs) :
  Calls P f vs.toArray W fun e W' => e=.returned (.bool b)∧Below W.heap.size W W':=by
 have hcase:∀ x:Nm,(∃ k,k<m∧x=.top k)∨getP (hk hl) x=.free:=fun x=>by
  by_cases hr:x.root<m
  ·obtain ⟨sz,els,h1,h2,_⟩:=hv x.root hr
   by_cases hx:x=.top x.root
   ·exact .inl ⟨x.root,hr,hx⟩
   ·exact .inr (below_none (n:=x.root) (fun t j f=>by
     rw[h1]
     exact view_kid (sz:=sz) (w:=els) (fun j c hc=>datL_plain (h2 c (List.mem_of_getElem? hc))) t j f) rfl hx)
  ·exact .inr (getP_free (n:=x.root) (hf _ (by omega)) rfl)
 have h0:∀ k,k<m→∃ sz els,hk hl k=.view 0 sz els∧HF (hk hl) (.top k)=flO (.top k) (.view 0 sz els)∧(∀ ρ,ObjOk ρ (Ls k) (flO (.top k) (.view 0 sz els)) W)∧((Ls k).nil=false→(Ls k).blk<W.heap.size):=fun k hk0=>by
  obtain ⟨sz,els,h1,_,h2,h3⟩:=hv k hk0
  refine ⟨sz,els,h1,?_,h2,h3⟩
  unfold HF
  rw[getP,h1]
 have:=hs.calls W noSc (fun ρ=>∀ k,k<m→ρ (.top k)=Ls k) (fun x=>m≤x.mx) (hk hl) W avs vs m _ ⟨fun x=>Ls x.root,fun k _=>rfl⟩ (fun ρ ρ' hρ he k hk0=>by rw[he (.top k) (by simp[Nm.mx];omega)];exact hρ k hk0) (fun x hx=>by
   rcases hcase x with ⟨k,hk0,rfl⟩ | e
   ·simp only[Nm.mx]at hx;omega
   ·exact HF_free.2 e) (fun ρ ρ' h1 h2 x hx=>by
   rcases hcase x with ⟨k,hk0,rfl⟩ | e
   ·rw[h1 k hk0,h2 k hk0]
   ·exact absurd (HF_free.2 e) hx)
  (fun ρ hρ=>⟨rfl,rfl,rfl,Nat.le_refl _,fun _ _ _=>rfl,fun x=>by
    rcases hcase x with ⟨k,hk0,rfl⟩ | e
    ·obtain ⟨sz,els,g1,g2,g3,g4⟩:=h0 k hk0
     rw[g2,hρ k hk0];exact g3 ρ
    ·rw[HF_free.2 e];trivial,fun x hx=>by
    rcases hcase x with ⟨k,hk0,rfl⟩ | e
    ·obtain ⟨sz,els,g1,g2,g3,g4⟩:=h0 k hk0
     rw[g2]at hx;exact hx.elim
    ·rw[HF_free.2 e]at hx;exact hx.elim,fun x y hx=>by
    rcases hcase x with ⟨k,hk0,rfl⟩ | e
    ·obtain ⟨sz,els,g1,g2,g3,g4⟩:=h0 k hk0
     rw[g2]at hx;exact hx.elim
    ·rw[HF_free.2 e]at hx;exact hx.elim,fun x hx=>by
    rcases hcase x with ⟨k,hk0,rfl⟩ | e
    ·obtain ⟨sz,els,g1,g2,g3,g4⟩:=h0 k hk0
     rw[g2,hρ k hk0]at hx
     rw[hρ k hk0]
     exact ⟨g4 hx,fun h=>h⟩
    ·rw[HF_free.2 e]at hx;exact hx.elim,fun x hx=>absurd hx (Nat.not_lt_zero x)⟩) (fun ρ hρ=>hrep ρ hρ) h (fun x hx=>hx.1)
 refine this.mono fun e W' ⟨v,g,he,hv'⟩ => ?_
 obtain ⟨q1,q2⟩:=hv' (fun x=>if m≤x.mx then g x else Ls x.root) (fun k hk0=>by rw[if_neg (by simp only[Nm.mx];omega)];rfl) (fun x hx=>by simp[hx.1])
 simp only[Rep]at q1
 subst q1
 exact ⟨he,q2.below⟩
end Go.W

namespace Go.W
open Go.ChangeShapes Go.WideShapes Go.ChangeAt Go.RowKit Go.Joins Go.Deep
set_option linter.unusedSimpArgs false
set_option linter.unusedVariables false
theorem rep_len {P:Program} {w:World} {base:Nat} {r:Reach} {t e:TypeId} {v:Value} (ht:P.underlying t=some (.slice e)) (hv:Value.okWide P w r base t v) {ρ:Env} {nm:Nm} {n:Nat} (h:Rep ρ (.sl nm 0 n) v):n≤9223372036854775807:=by
 rw[Rep]at h
 rcases h with ⟨_,_,h,_⟩ | ⟨_,_,off,h,_⟩
 ·omega
 ·subst h
  simp only[Value.okWide,ht,Cell.okWide,Cell.ok]at hv
  have h2:IntKind.i64.max=9223372036854775807:=rfl
  obtain ⟨a,b,_⟩:=hv
  rw[h2]at b
  omega
theorem rowK_ints:∀ (n:Nat) (c:List AV),rowK (List.replicate n false) c→∃ ns:List Int,ns.length=n∧c=ns.map (AV.int .i64)
 | 0,c,h=>⟨[],rfl,List.length_eq_zero_iff.1 h.1⟩
 | n+1,c,h=>by
  obtain ⟨hl,hc⟩:=h
  match c,hl with
  | a :: c,hl =>
   obtain ⟨_,_,e1,e2⟩:=hc 0 false rfl
   simp only[leafV,Bool.false_eq_true,if_false,List.getElem?_cons_zero,Option.some.injEq]at e1 e2
   subst e1
   obtain ⟨v,rfl,_⟩:=e2
   obtain ⟨ns,h1,h2⟩:=rowK_ints n c ⟨by simpa using hl,fun j k hk=>by
    have:=hc (j+1) k (by simpa [List.replicate_succ] using hk)
    simpa using this⟩
   exact ⟨v :: ns,by simp[h1],by rw[h2];rfl⟩
theorem aim_all {els:List (List AV)} (h:∀ c,c∈els→rowK [false,false,false,false,false] c):els.all aimB=true :=
 List.all_eq_true.2 fun c hc=>by
  obtain ⟨ns,h1,rfl⟩:=rowK_ints 5 c (h c hc)
  match ns,h1 with
  | [a,b,c,d,e],_=>rfl
theorem act_all {els:List (List AV)} (h:∀ c,c∈els→rowK [false,false] c):els.all actB=true :=
 List.all_eq_true.2 fun c hc=>by
  obtain ⟨ns,h1,rfl⟩:=rowK_ints 2 c (h c hc)
  match ns,h1 with
  | [a,b],_=>rfl
end Go.W

namespace Go.W
open Go.Proofs
set_option linter.unusedSimpArgs false
set_option linter.unusedVariables false
set_option maxHeartbeats 8000000
attribute [local irreducible] Wm
attribute [local simp] nmap lkp mkPl prs prsL prT ddL idL CRenL CRen Ren RenL NObj.none CRenLL
theorem rowK_ord {c:List AV} (h:rowK [false,true,false,false,false,false,false,false,false,false] c):ordB c=true:=by
 obtain ⟨hl,hc⟩:=h
 match c,hl with
 | [c0,c1,c2,c3,c4,c5,c6,c7,c8,c9],_ =>
  obtain ⟨_,_,e1,e2⟩:=hc 0 false rfl
  simp only[leafV,Bool.false_eq_true,if_false,List.getElem?_cons_succ,List.getElem?_cons_zero,Option.some.injEq]at e1 e2
  subst e1
  obtain ⟨v0,rfl,_,r0⟩:=e2
  obtain ⟨_,_,e1,e2⟩:=hc 1 true rfl
  simp only[leafV,if_true,List.getElem?_cons_succ,List.getElem?_cons_zero,Option.some.injEq]at e1 e2
  subst e1
  obtain ⟨v1,rfl,_⟩:=e2
  obtain ⟨_,_,e1,e2⟩:=hc 2 false rfl
  simp only[leafV,Bool.false_eq_true,if_false,List.getElem?_cons_succ,List.getElem?_cons_zero,Option.some.injEq]at e1 e2
  subst e1
  obtain ⟨v2,rfl,_,r2⟩:=e2
  obtain ⟨_,_,e1,e2⟩:=hc 3 false rfl
  simp only[leafV,Bool.false_eq_true,if_false,List.getElem?_cons_succ,List.getElem?_cons_zero,Option.some.injEq]at e1 e2
  subst e1
  obtain ⟨v3,rfl,_,r3⟩:=e2
  obtain ⟨_,_,e1,e2⟩:=hc 4 false rfl
  simp only[leafV,Bool.false_eq_true,if_false,List.getElem?_cons_succ,List.getElem?_cons_zero,Option.some.injEq]at e1 e2
  subst e1
  obtain ⟨v4,rfl,_,r4⟩:=e2
  obtain ⟨_,_,e1,e2⟩:=hc 5 false rfl
  simp only[leafV,Bool.false_eq_true,if_false,List.getElem?_cons_succ,List.getElem?_cons_zero,Option.some.injEq]at e1 e2
  subst e1
  obtain ⟨v5,rfl,_,r5⟩:=e2
  obtain ⟨_,_,e1,e2⟩:=hc 6 false rfl
  simp only[leafV,Bool.false_eq_true,if_false,List.getElem?_cons_succ,List.getElem?_cons_zero,Option.some.injEq]at e1 e2
  subst e1
  obtain ⟨v6,rfl,_,r6⟩:=e2
  obtain ⟨_,_,e1,e2⟩:=hc 7 false rfl
  simp only[leafV,Bool.false_eq_true,if_false,List.getElem?_cons_succ,List.getElem?_cons_zero,Option.some.injEq]at e1 e2
  subst e1
  obtain ⟨v7,rfl,_,r7⟩:=e2
  obtain ⟨_,_,e1,e2⟩:=hc 8 false rfl
  simp only[leafV,Bool.false_eq_true,if_false,List.getElem?_cons_succ,List.getElem?_cons_zero,Option.some.injEq]at e1 e2
  subst e1
  obtain ⟨v8,rfl,_,r8⟩:=e2
  obtain ⟨_,_,e1,e2⟩:=hc 9 false rfl
  simp only[leafV,Bool.false_eq_true,if_false,List.getElem?_cons_succ,List.getElem?_cons_zero,Option.some.injEq]at e1 e2
  subst e1
  obtain ⟨v9,rfl,_,r9⟩:=e2
  simp only[ordB]
  exact decide_eq_true (by omega)
theorem ord_all {els:List (List AV)} (h:∀ c,c∈els→rowK [false,true,false,false,false,false,false,false,false,false] c):els.all ordB=true :=
 List.all_eq_true.2 fun c hc=>rowK_ord (h c hc)
end Go.W

