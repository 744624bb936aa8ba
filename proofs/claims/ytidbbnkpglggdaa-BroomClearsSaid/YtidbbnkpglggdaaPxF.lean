/- A part of the proofs about the pair's laws (PxF). -/
import Derived.Test.YtidbbnkpglggdaaPqC
import Derived.Test.YtidbbnkpglggdaaPuA
import Derived.Test.YtidbbnkpglggdaaPwA
namespace Go.W
open Go.Proofs
set_option linter.unusedSimpArgs false
set_option linter.unusedVariables false
set_option maxHeartbeats 8000000
attribute [local irreducible] Wm
attribute [local simp] nmap lkp mkPl prs prsL prT ddL idL CRenL CRen Ren RenL NObj.none CRenLL
def ELd:List (FuncId×Spec):=[(9,nestS [(10,false)] d9 ok9),(14,nestS [(10,true)] d14 ok14),(16,rdS d16 ok16),(18,rdS d18 ok18),(28,nestS [] d28 ok28),(29,nestS [(4,true),(10,true)] d29 ok29),(30,nestS [(16,true),(10,true)] d30 ok30),(31,nestS [] d31 ok31),(32,nestS [] d32 ok32),(37,nestS [(1,true),(1,false)] d37 ok37),(38,rdS d38 ok38),(39,nestS [] d39 ok39),(40,nestS [] d40 ok40),(41,rdS d41 ok41)]
theorem ELd_ok:SoundAll Try.prog (EL ELd):=EL_sound (by
 simp only[ELd,List.mem_cons,List.not_mem_nil,or_false,forall_eq_or_imp,forall_eq]
 exact ⟨s9,s14,s16,s18,s28,s29,s30,s31,s32,s37,s38,s39,s40,s41⟩)
def d8:List AV→List NObj→Option AV
 | [.agg [.int .i64 a,.int .i64 b,.int .i64 c,.int .i64 d,.int .i64 e,.int .i64 f,.int .i64 g],.sl (.top 0) 0 n,.int .u16 now],[.view 0 10 els]=>if n=els.length∧els.all ordB=true∧0≤now∧now<65536 then some (.bool true) else none
 | _,_=>none
def JA (els:List (List AV)) (a b c d e f g tick:Int) (SS TT:List (List AV)) (S:Int) (W:WZ) (i:Nat):St:=⟨[(3,.ptr (.top 1) 0 0),(7,.ptr (.top 2) 0 0),(8,.ptr (.top 3) 0 0),(10,.int .i64 tick),(55,.int .i64 S),(56,.int .i64 i)],[(0,.view 0 10 els),(1,.cells 0 [.int .i64 a,.int .i64 b,.int .i64 c,.int .i64 d,.int .i64 e,.int .i64 f,.int .i64 g]),(2,.cells 0 (wzC W)),(3,.cells 0 (qC a b c d e f g SS TT))],4⟩
def JB (els:List (List AV)) (a b c d e f g tick:Int) (SS TT:List (List AV)) (S m:Int) (W:WZ) (R:RpZ) (i k:Nat):St:=⟨[(3,.ptr (.top 1) 0 0),(7,.ptr (.top 2) 0 0),(8,.ptr (.top 3) 0 0),(10,.int .i64 tick),(12,.ptr (.top 4) 0 0),(55,.int .i64 S),(56,.int .i64 i),(65,.int .i64 m),(66,.int .i64 k)],[(0,.view 0 10 els),(1,.cells 0 [.int .i64 a,.int .i64 b,.int .i64 c,.int .i64 d,.int .i64 e,.int .i64 f,.int .i64 g]),(2,.cells 0 (wzC W)),(3,.cells 0 (qC a b c d e f g SS TT)),(4,.cells 0 (rpC R))],5⟩
def JC (els:List (List AV)) (a b c d e f g tick:Int) (SS TT:List (List AV)) (S:Int) (W:WZ) (i:Nat):St:=⟨[(3,.ptr (.top 1) 0 0),(7,.ptr (.top 2) 0 0),(8,.ptr (.top 3) 0 0),(10,.int .i64 tick),(77,.int .i64 S),(78,.int .i64 i)],[(0,.view 0 10 els),(1,.cells 0 [.int .i64 a,.int .i64 b,.int .i64 c,.int .i64 d,.int .i64 e,.int .i64 f,.int .i64 g]),(2,.cells 0 (wzC W)),(3,.cells 0 (qC a b c d e f g SS TT))],4⟩
def JD (els:List (List AV)) (a b c d e f g tick:Int) (SS TT:List (List AV)) (S m:Int) (W:WZ) (s:SwZ) (i k:Nat):St:=⟨[(3,.ptr (.top 1) 0 0),(7,.ptr (.top 2) 0 0),(8,.ptr (.top 3) 0 0),(10,.int .i64 tick),(14,.ptr (.top 4) 0 0),(77,.int .i64 S),(78,.int .i64 i),(87,.int .i64 m),(88,.int .i64 k)],[(0,.view 0 10 els),(1,.cells 0 [.int .i64 a,.int .i64 b,.int .i64 c,.int .i64 d,.int .i64 e,.int .i64 f,.int .i64 g]),(2,.cells 0 (wzC W)),(3,.cells 0 (qC a b c d e f g SS TT)),(4,.cells 0 (swL s 0))],5⟩
def accZ (W:WZ) (i:Nat):List (List AV):=(List.range i).map fun j:Nat=>stL (stW W (j:Int))
theorem acc_len (W:WZ) (i:Nat):(accZ W i).length=i:=by unfold accZ;rw[List.length_map,List.length_range]
theorem acc_succ (W:WZ) (i:Nat):accZ W (i+1)=accZ W i++[stL (stW W i)]:=by unfold accZ;rw[List.range_succ,List.map_append];rfl
theorem acc_get {W:WZ} {i j:Nat} (h:j<i):(accZ W i)[j]?=some (stL (stW W j)):=by unfold accZ;rw[List.getElem?_map,List.getElem?_range h];rfl
theorem acc_t0 (W:WZ):∀ i,t0LL (accZ W i)=accZ W i
 | 0=>rfl
 | i+1=>by
  rw[acc_succ]
  have:=acc_t0 W i
  generalize accZ W i=L at this
  induction L with
  | nil=>simp[t0LL,t0L,stL,AV.t0]
  | cons c r ih =>
   simp only[t0LL,List.cons.injEq]at this
   simp only[List.cons_append,t0LL,this.1,ih this.2]
theorem acc_cl (W:WZ):∀ i,clLL (accZ W i)=true
 | 0=>rfl
 | i+1=>by
  rw[acc_succ]
  have:=acc_cl W i
  generalize accZ W i=L at this
  induction L with
  | nil=>simp[clLL,clL,stL,AV.cl]
  | cons c r ih =>
   simp only[clLL,Bool.and_eq_true]at this
   simp only[List.cons_append,clLL,this.1,ih this.2,Bool.and_self]
theorem acc_tl (W:WZ) (n:Nat):∀ i,tlLL n (accZ W i)=true
 | 0=>rfl
 | i+1=>by
  rw[acc_succ]
  have:=acc_tl W n i
  generalize accZ W i=L at this
  induction L with
  | nil=>simp[tlLL,tlL,stL,AV.tl]
  | cons c r ih =>
   simp only[tlLL,Bool.and_eq_true]at this
   simp only[List.cons_append,tlLL,this.1,ih this.2,Bool.and_self]
def tkW (W:WZ):Nat→WZ
 | 0=>W
 | i+1=>tickW (tkW W i)
theorem tk_st (W:WZ) (x:Int):∀ i,stW (tkW W i) x=stW W x
 | 0=>rfl
 | i+1=>tk_st W x i
theorem tk_ok {W:WZ} (h:okW W=true):∀ i,okW (tkW W i)=true
 | 0=>h
 | i+1=>tick_ok (tk_ok h i)
theorem tk_s (W:WZ):∀ i,(tkW W i).s=W.s+i∧(tkW W i).lg=W.lg∧(tkW W i).a=W.a∧(tkW W i).b=W.b
 | 0=>by simp[tkW]
 | i+1=>by
  have:=tk_s W i
  refine ⟨?_,this.2⟩
  show (tkW W i).s+1=_
  omega
def JE (els:List (List AV)) (a b c d e f g tick:Int) (SS TT:List (List AV)) (m:Int) (V W:WZ):Nat→St
 | 0=>⟨[(3,.ptr (.top 1) 0 0),(7,.ptr (.top 2) 0 0),(8,.ptr (.top 3) 0 0),(10,.int .i64 tick),(15,.nsl),(99,.int .i64 m),(100,.int .i64 0)],[(0,.view 0 10 els),(1,.cells 0 [.int .i64 a,.int .i64 b,.int .i64 c,.int .i64 d,.int .i64 e,.int .i64 f,.int .i64 g]),(2,.cells 0 (wzC W)),(3,.cells 0 (qC a b c d e f g SS TT))],4⟩
 | i+1=>⟨[(3,.ptr (.top 1) 0 0),(7,.ptr (.top 2) 0 0),(8,.ptr (.top 3) 0 0),(10,.int .i64 tick),(15,.sl (.top 4) 0 (i+1)),(99,.int .i64 m),(100,.int .i64 ((i:Int)+1))],[(0,.view 0 10 els),(1,.cells 0 [.int .i64 a,.int .i64 b,.int .i64 c,.int .i64 d,.int .i64 e,.int .i64 f,.int .i64 g]),(2,.cells 0 (wzC W)),(3,.cells 0 (qC a b c d e f g SS TT)),(4,.arr 0 5 (accZ V (i+1)))],5⟩
theorem idl_ofx {a b x y:Int} (hx0:0≤x) (hx:x<a*b) (hy0:0≤y) (hy:y<a*b) (hb:1≤b) (h:¬ x / b=y / b):idl a b x y=false:=by
 have h1:=Int.ediv_nonneg hx0 (show 0≤b by omega)
 have h2:=Int.ediv_nonneg hy0 (show 0≤b by omega)
 refine decide_eq_false ?_
 unfold ownZ
 rw[if_neg (by omega),if_pos hx,if_neg (by omega),if_pos hy]
 omega
def JF (els:List (List AV)) (a b c d e f g tick:Int) (SS TT:List (List AV)) (V:WZ) (m i:Nat):St:=⟨[(3,.ptr (.top 1) 0 0),(8,.ptr (.top 2) 0 0),(15,.sl (.top 3) 0 m),(132,.sl (.top 3) 0 m),(133,.int .i64 m),(134,.int .i64 i)],[(0,.view 0 10 els),(1,.cells 0 [.int .i64 a,.int .i64 b,.int .i64 c,.int .i64 d,.int .i64 e,.int .i64 f,.int .i64 g]),(2,.cells 0 (qC a b c d e f g SS TT)),(3,.arr 0 5 (accZ V m))],4⟩
def JG (els:List (List AV)) (a b c d e f g tick:Int) (SS TT:List (List AV)) (V:WZ) (m i k:Nat):St:=⟨[(3,.ptr (.top 1) 0 0),(8,.ptr (.top 2) 0 0),(15,.sl (.top 3) 0 m),(19,.int .i64 i),(20,.ptr (.top 4) 0 0),(132,.sl (.top 3) 0 m),(133,.int .i64 m),(134,.int .i64 i),(139,.sl (.top 3) 0 m),(140,.int .i64 m),(141,.int .i64 k)],[(0,.view 0 10 els),(1,.cells 0 [.int .i64 a,.int .i64 b,.int .i64 c,.int .i64 d,.int .i64 e,.int .i64 f,.int .i64 g]),(2,.cells 0 (qC a b c d e f g SS TT)),(3,.arr 0 5 (accZ V m)),(4,.cells 0 (stL (stW V i)))],5⟩
theorem ok8:ROk d8:=by
 intro xs os r h
 unfold d8 at h
 (repeat' (split at h))<;>first|(cases h;done)|(injection h with h;subst h;simp)
set_option maxRecDepth 20000 in
theorem s8:Sound Try.prog 8 (rdS d8 ok8):=by
 refine rd_sound Try.func8 nm8 rc8 rv8 ok8 fun xs os r h vs ρ0 hvs=>⟨xs,?_,fun _ h=>h,fun w0 S hS=>?_⟩
 ·unfold d8 at h
  (repeat' (split at h))<;>first|(cases h;done)|exact Nat.le_of_ble_eq_true rfl
 unfold d8 at h
 split at h
 ·split at h
  ·rename_i a b c d e f g nn now els hcond
   injection h with h
   subst h
   obtain ⟨rfl,hob,hnw0,hnw1⟩:=hcond
   have hE:=ELd_ok
   have hTe:=ord_t0 hob
   have hCe:=ord_cl hob
   have h9:∀ u,d9 [.agg [.int .i64 a,.int .i64 b,.int .i64 c,.int .i64 d,.int .i64 e,.int .i64 f,.int .i64 g],.os u 10 els]=some ⟨if cfgB a b c d e f g=true then bothA a b c d e f g els else .tup [.raw (.pointer none),.raw (.pointer none),.bool false],[.free]⟩:=fun u=>by
    simp only[d9];rw[if_pos hob]
   obtain ⟨ba0,hba⟩:∃ z,(if cfgB a b c d e f g=true then bothA a b c d e f g els else .tup [.raw (.pointer none),.raw (.pointer none),.bool false])=z:=⟨_,rfl⟩
   rw[hba]at h9
   by_cases hok:cfgB a b c d e f g=true∧bothZ a b c d e f g els els.length≠none
   case neg =>
    have hnil:ba0=.tup [.raw (.pointer none),.raw (.pointer none),.bool false]:=by
     rw[← hba]
     by_cases hcf:cfgB a b c d e f g=true
     ·rw[if_pos hcf]
      have:bothZ a b c d e f g els els.length=none:=by
       cases hz:bothZ a b c d e f g els els.length with
       | none=>rfl
       | some p=>exact absurd ⟨hcf,by rw[hz];simp⟩ hok
      simp only[bothA,this]
     ·rw[if_neg hcf]
    rw[hnil]at h9
    unfold m8
    repeat' with_reducible (first
     | refine ZR.h ?_ | refine zI (by decide) ?_
     | ((first | refine zK hE ?_ | refine zL hE mixT ?_);intro K hK;simp[KR.ks,KD.ks,KD.cl,ELd,q8_0,q8_1,q8_2,q8_3,q8_4,q8_5,q8_6,q8_7,q8_8,q8_9,q8_10,q8_11,q8_12,q8_13,q8_14,q8_15,q8_16,q8_17,q8_18,q8_19,q8_20,q8_21,q8_22,q8_23,q8_24,q8_25,q8_26,q8_27,q8_28,q8_29,q8_30,q8_31,q8_32,q8_33,q8_34,q8_35,q8_36,q8_37,q8_38,q8_39,q8_40,q8_41,q8_42,q8_43,q8_44,hTe,hCe,h9,d28];(repeat' (first | refine hK _ _ ?_ | refine And.intro ?_ ?_ | (intro hc;try subst hc)))<;>(try clear hK K))
     | (refine zJ (b:=_) (by with_unfolding_all rfl) (fun hc=>?_) (fun hc=>?_)<;>simp at hc<;>(try subst hc)))
    all_goals first|(simp;done)|(simp at *;omega)|((try simp);refine Imp.auto (by kernel_rfl) ?_ ?_<;>simp[NLe,mkPlX])
   obtain ⟨hcfg,hnn⟩:=hok
   obtain ⟨ws,SS,TT,hz⟩:∃ ws S T,bothZ a b c d e f g els els.length=some (ws,S,T):=by
    cases hz:bothZ a b c d e f g els els.length with
    | none=>exact absurd hz hnn
    | some p=>exact ⟨_,_,_,rfl⟩
   obtain ⟨hW0,hWs,hel⟩:=both_W hcfg hob hz
   obtain ⟨_,_,_,⟨hSlen,hTS,hCS,_⟩,⟨hTlen,hTT,hCT,_⟩⟩:=both_inv hcfg hob _ _ _ _ (Nat.le_refl _) hz
   have hcell:=both_cell hcfg hob _ _ _ _ (Nat.le_refl _) hz
   have hcell2:=both_cell2 hcfg hob _ _ _ _ (Nat.le_refl _) hz
   have hbe:ba0=.tup [.op 0 (wzC (bW a b c d e f g els ws)),.op 0 (qC a b c d e f g SS TT),.bool true]:=by
    rw[← hba,if_pos hcfg];simp only[bothA,hz];rfl
   rw[hbe]at h9
   have hall:=cfg_all hcfg
   have hcx:=cfg_ex hcfg
   have hSl:(SS.length:Int)=a*b:=by rw[hSlen];omega
   obtain ⟨A0,hA0⟩:∃ z,bW a b c d e f g els ws=z:=⟨_,rfl⟩
   have hAp:A0.a=a∧A0.b=b∧A0.c=c∧A0.d=d∧A0.e=e∧A0.f=f∧A0.g=g∧A0.t=0∧A0.ws=ws∧A0.lg=[]:=by rw[← hA0];exact ⟨rfl,rfl,rfl,rfl,rfl,rfl,rfl,rfl,rfl,rfl⟩
   obtain ⟨qa,qb,qc,qd,qe,qf,qg,qt,qw,ql⟩:=hAp
   rw[hA0]at h9 hW0 hWs
   obtain ⟨hcfA,hwA,hwlA,hs0A,ht0A,ht1A,hlgA⟩:=okW_ex (hW0)
   have hTA:=w_t0 hwA
   have hCA:=w_cl hwA
   have hTlA:=l_t0 hlgA
   have hClA:=l_cl hlgA
   simp only[wzC,qC]at h9
   by_cases h10:9<a*b
   ·unfold m8
    repeat' with_reducible (first
     | refine ZR.h ?_ | refine zI (by decide) ?_
     | ((first | refine zK hE ?_ | refine zL hE mixT ?_);intro K hK;simp[KR.ks,KD.ks,KD.cl,ELd,q8_0,q8_1,q8_2,q8_3,q8_4,q8_5,q8_6,q8_7,q8_8,q8_9,q8_10,q8_11,q8_12,q8_13,q8_14,q8_15,q8_16,q8_17,q8_18,q8_19,q8_20,q8_21,q8_22,q8_23,q8_24,q8_25,q8_26,q8_27,q8_28,q8_29,q8_30,q8_31,q8_32,q8_33,q8_34,q8_35,q8_36,q8_37,q8_38,q8_39,q8_40,q8_41,q8_42,q8_43,q8_44,h9,hTe,hCe,hTA,hCA,hTlA,hClA,hTS,hCS,hTT,hCT,hSl,h10,d28];(repeat' (first | refine hK _ _ ?_ | refine And.intro ?_ ?_ | (intro hc;try subst hc)))<;>(try clear hK K))
     | (refine zJ (b:=_) (by with_unfolding_all rfl) (fun hc=>?_) (fun hc=>?_)<;>simp at hc<;>(try subst hc)))
    all_goals first|(simp;done)|(simp at *;omega)|((try simp);refine Imp.auto (by kernel_rfl) ?_ ?_<;>simp[NLe,mkPlX])
   have wnow:IntKind.wrap .i64 now=now:=wrap_in (by omega) (by omega)
   obtain ⟨tick,htk⟩:∃ z,goZ 0 now=z:=⟨_,rfl⟩
   have htr:=goZ_in (t:=0) (n:=now) (by omega) (by omega) (by omega)
   rw[htk]at htr
   have h37:∀ u u',d37 [.op u [.int .u64 A0.t],.os u' 1 [[.int .i64 now]]]=some ⟨.int .i64 tick,[.cells 0 [.int .u64 tick],.free]⟩:=fun u u' => by
    rw[qt];simp only[d37];rw[if_pos ⟨by omega,by omega,by omega⟩,htk]
   have h38:d38 [.agg [.int .i64 A0.a,.int .i64 A0.b,.int .i64 A0.c,.int .i64 A0.d,.int .i64 A0.e,.int .i64 A0.f,.int .i64 A0.g]] []=some (.int .i64 (c*d)):=by simp only[d38];rw[if_pos hcfA,qc,qd]
   obtain ⟨B,hB⟩:∃ B,({ A0 with t:=tick }:WZ)=B:=⟨_,rfl⟩
   have hBp:B.a=a∧B.b=b∧B.c=c∧B.d=d∧B.e=e∧B.f=f∧B.g=g∧B.t=tick∧B.ws=ws∧B.lg=[]∧B.s=A0.s:=by rw[← hB];exact ⟨qa,qb,qc,qd,qe,qf,qg,rfl,qw,ql,rfl⟩
   obtain ⟨ba,bb,bc,bd,be,bf,bg,bt,bw,bl,bs⟩:=hBp
   have okB:okW B=true:=by rw[← hB];exact decide_eq_true ⟨hcfA,hwA,hwlA,hs0A,htr.1,htr.2,hlgA⟩
   have eX:∀ i:Nat,sAt B (i:Int)=wAt ws (2*i)∧tAt B (i:Int)=wAt ws (2*i+1):=fun i=>by
    unfold sAt tAt;rw[bw,show (2*(i:Int)).toNat=2*i by omega,show (2*(i:Int)+1).toNat=2*i+1 by omega]
    exact ⟨rfl,rfl⟩
   have hI:Inv B B:=⟨okB,rfl,fun i i0 i1=>by
    obtain ⟨X,rfl⟩:=Int.eq_ofNat_of_zero_le i0
    rw[ba,bb]at i1
    refine ⟨rfl,?_,?_⟩
    ·unfold stW;rw[(eX X).1];exact (hcell2 X i1).1
    ·unfold stW;rw[(eX X).1,bf,bg];exact (hcell X i1).2.2⟩
   obtain ⟨n,hn'⟩:∃ n:Nat,(n:Int)=a*b:=⟨(a*b).toNat,by omega⟩
   have hcd:=mul_in (show 0≤c by omega) (show c≤3 by omega) (show 0≤d by omega) (show d≤4 by omega)
   obtain ⟨S,hS'⟩:∃ S:Nat,(S:Int)=c*d:=⟨(c*d).toNat,by omega⟩
   have hn:(n:Int)=B.a*B.b:=by rw[ba,bb];exact hn'
   have hlw:∀ i:Int,0≤i→i<n→looseZ (stW B i).k=true→0≤(tmW B i).nm∧(tmW B i).nm<B.c∧1≤(tmW B i).pr∧(tmW B i).pr≤9999:=fun i i0 i1=>by
    obtain ⟨X,rfl⟩:=Int.eq_ofNat_of_zero_le i0
    unfold stW tmW
    rw[(eX X).1,(eX X).2,bc]
    exact (hcell2 X (by omega)).2
   have hlaw:=clear_law hI hn (S:=S) (by rw[bc,bd];exact hS') (by rw[bd];omega) hlw
   obtain ⟨M4,hM4⟩:∃ z,4*(a*b)=z:=⟨_,rfl⟩
   obtain ⟨M14,hM14⟩:∃ z,14*(a*b)*(a*b)=z:=⟨_,rfl⟩
   have hM14n:M14=((14*(n*n):Nat):Int):=by rw[← hM14,← hn'];simp[Int.mul_assoc]
   have hTA2:t0LL B.ws=B.ws:=w_t0 (okW_ex okB).2.1
   have hBe:wzC B=[.int .i64 A0.a,.int .i64 A0.b,.int .i64 A0.c,.int .i64 A0.d,.int .i64 A0.e,.int .i64 A0.f,.int .i64 A0.g,.op 0 [.os 0 1 A0.ws,.int .i64 A0.s,.bot,.bot,.bot,.bot,.bot],.op 0 [.int .u64 tick],.os 0 14 A0.lg]:=by rw[← hB];rfl
   have bl0:B.lg.length=0:=by rw[bl];rfl
   have hn9:n≤9:=by omega
   have hnn81:n*n≤81:=Nat.mul_le_mul hn9 hn9
   have hn1:1≤n:=by omega
   have hS12:S≤12:=by omega
   clear hba hbe hnn hcfA hwA hwlA hs0A ht0A ht1A hlgA hA0
   unfold m8
   repeat' with_reducible (first
    | refine ZR.h ?_ | refine zI (by decide) ?_
    | ((first | refine zK hE ?_ | refine zL hE mixT ?_);intro K hK;simp[KR.ks,KD.ks,KD.cl,ELd,q8_0,q8_1,q8_2,q8_3,q8_4,q8_5,q8_6,q8_7,q8_8,q8_9,q8_10,q8_11,q8_12,q8_13,q8_14,q8_15,q8_16,q8_17,q8_18,q8_19,q8_20,q8_21,q8_22,q8_23,q8_24,q8_25,q8_26,q8_27,q8_28,q8_29,q8_30,q8_31,q8_32,q8_33,q8_34,q8_35,q8_36,q8_37,q8_38,q8_39,q8_40,q8_41,q8_42,q8_43,q8_44,h9,hTe,hCe,hTA,hCA,hTlA,hClA,hTS,hCS,hTT,hCT,hSl,h10,wnow,h37,h38];(repeat' (first | refine hK _ _ ?_ | refine And.intro ?_ ?_ | (intro hc;try subst hc)))<;>(try clear hK K))
    | (refine zJ (b:=_) (by with_unfolding_all rfl) (fun hc=>?_) (fun hc=>?_)<;>simp at hc<;>(try subst hc)))
   all_goals (refine Wm_loop (fun i=>JA els a b c d e f g tick SS TT (c*d) (reapW n B i) i) (fun i=>i≤S) (fun i=>S - i) 0 (Nat.zero_le _) ?_ ?_)
   ·simp only[JA,reapW,hBe,qC]
    rw[hS]
    refine Imp.auto (by kernel_rfl) ?_ ?_<;>simp[NLe,mkPlX,hTe,hCe,hTA,hCA,hTlA,hClA,hTS,hCS,hTT,hCT]
   ·intro i hi
    replace hi:i≤S:=hi
    obtain ⟨iI,_,_⟩:=reap_law hI hn i
    have hb:=reap_bound hI hn i
    have hin:4*n*i≤432:=by
     have:=Nat.mul_le_mul (show 4*n≤36 by omega) (show i≤12 by omega)
     omega
    have hin2:(4*(n:Int)*i)=((4*n*i:Nat):Int):=by simp
    rw[hin2]at hb
    obtain ⟨V,hV⟩:∃ V,reapW n B i=V:=⟨_,rfl⟩
    have hnext:reapW n B (i+1)=(rpRun (rp0 (i:Int)) V (4*n)).2:=by rw[← hV];rfl
    simp only[hV]at iI hb⊢
    obtain ⟨va,vb,vc,vd,vf,vg,vt⟩:=parX_ab iI.2.1
    obtain ⟨hcf,hw,hwl,hs0,ht0,ht1,hlg⟩:=okW_ex (iI.1)
    have hT:=w_t0 hw
    have hC:=w_cl hw
    have hTl:=l_t0 hlg
    have hCl:=l_cl hlg
    by_cases hiS:i<S
    ·have hiI:(i:Int)<c*d:=by omega
     have h39:d39 [.agg [.int .i64 V.a,.int .i64 V.b,.int .i64 V.c,.int .i64 V.d,.int .i64 V.e,.int .i64 V.f,.int .i64 V.g]]=some ⟨.int .i64 M4,[]⟩:=by simp only[d39];rw[if_pos hcf,va,vb,ba,bb,hM4]
     simp only[JA,wzC,qC]
     repeat' with_reducible (first
      | refine ZR.h ?_ | refine zI (by decide) ?_
      | ((first | refine zK hE ?_ | refine zL hE mixT ?_);intro K hK;simp[KR.ks,KD.ks,KD.cl,ELd,q8_0,q8_1,q8_2,q8_3,q8_4,q8_5,q8_6,q8_7,q8_8,q8_9,q8_10,q8_11,q8_12,q8_13,q8_14,q8_15,q8_16,q8_17,q8_18,q8_19,q8_20,q8_21,q8_22,q8_23,q8_24,q8_25,q8_26,q8_27,q8_28,q8_29,q8_30,q8_31,q8_32,q8_33,q8_34,q8_35,q8_36,q8_37,q8_38,q8_39,q8_40,q8_41,q8_42,q8_43,q8_44,hTe,hCe,hT,hC,hTl,hCl,hTS,hCS,hTT,hCT,hiI,h39,d32];(repeat' (first | refine hK _ _ ?_ | refine And.intro ?_ ?_ | (intro hc;try subst hc)))<;>(try clear hK K))
      | (refine zJ (b:=_) (by with_unfolding_all rfl) (fun hc=>?_) (fun hc=>?_)<;>simp at hc<;>(try subst hc)))
     all_goals (refine Wm_loop (fun k=>JB els a b c d e f g tick SS TT (c*d) M4 (rpRun (rp0 (i:Int)) V k).2 (rpRun (rp0 (i:Int)) V k).1 i k) (fun k=>k≤4*n) (fun k=>4*n - k) 0 (Nat.zero_le _) ?_ ?_)
     ·simp only[JB,rpRun,rp0,rpC,zeroS,wzC,qC]
      rw[hS]
      refine Imp.auto (by kernel_rfl) ?_ ?_<;>simp[NLe,mkPlX,hTe,hCe,hT,hC,hTl,hCl,hTS,hCS,hTT,hCT]
     ·clear h39 hT hC hTl hCl
      intro k hk
      replace hk:k≤4*n:=hk
      have inv:=rp_inv (sh:=(i:Int)) iI.1 k
      have inv2:=rp_inv (sh:=(i:Int)) iI.1 (k+1)
      have hR:=RpInv_ok inv (by omega) (by rw[va,vb,← hn];omega)
      obtain ⟨j1,j2,j3,j4,_,_,_,_,_,j10,j11,_⟩:=inv
      have hsucc:=rpRun_succ k (rp0 (i:Int)) V
      have hsm:smW (rpRun (rp0 (i:Int)) V k).2=true:=decide_eq_true (by omega)
      have hp2:=parX_ab j2
      have hst:=e30 hR j1 hsm (by rw[hp2.1,hp2.2.1];exact j4)
      have okV2:=inv2.1
      by_cases hkn:k<4*n
      ·have hkI:(k:Int)<M4:=by omega
       have ww:IntKind.wrap .i64 ((k:Int)+1)=(k:Int)+1:=wrap_in (by omega) (by omega)
       rw[← hsucc]at hst
       obtain ⟨r,hr⟩:∃ r,rpRun (rp0 (i:Int)) V k=r:=⟨_,rfl⟩
       obtain ⟨r2,hr2⟩:∃ r,rpRun (rp0 (i:Int)) V (k+1)=r:=⟨_,rfl⟩
       rw[hr]at hst j1
       rw[hr2]at hst okV2
       rw[hr]
       obtain ⟨hcf,hw,hwl,hs0,ht0,ht1,hlg⟩:=okW_ex (j1)
       have hT:=w_t0 hw
       have hC:=w_cl hw
       have hTl:=l_t0 hlg
       have hCl:=l_cl hlg
       obtain ⟨hcf2,hw2,hwl2,hs02,ht02,ht12,hlg2⟩:=okW_ex (okV2)
       have hT2:=w_t0 hw2
       have hC2:=w_cl hw2
       have hTl2:=l_t0 hlg2
       have hCl2:=l_cl hlg2
       simp only[JB,rpC,wzC,wzL,qC]at hst⊢
       repeat' with_reducible (first
        | refine ZR.h ?_ | refine zI (by decide) ?_
        | ((first | refine zK hE ?_ | refine zL hE mixT ?_);intro K hK;simp[KR.ks,KD.ks,KD.cl,ELd,q8_0,q8_1,q8_2,q8_3,q8_4,q8_5,q8_6,q8_7,q8_8,q8_9,q8_10,q8_11,q8_12,q8_13,q8_14,q8_15,q8_16,q8_17,q8_18,q8_19,q8_20,q8_21,q8_22,q8_23,q8_24,q8_25,q8_26,q8_27,q8_28,q8_29,q8_30,q8_31,q8_32,q8_33,q8_34,q8_35,q8_36,q8_37,q8_38,q8_39,q8_40,q8_41,q8_42,q8_43,q8_44,hTe,hCe,hT,hC,hTl,hCl,hT2,hC2,hTl2,hCl2,hTS,hCS,hTT,hCT,hkI,hst,ww];(repeat' (first | refine hK _ _ ?_ | refine And.intro ?_ ?_ | (intro hc;try subst hc)))<;>(try clear hK K))
        | (refine zJ (b:=_) (by with_unfolding_all rfl) (fun hc=>?_) (fun hc=>?_)<;>simp at hc<;>(try subst hc)))
       all_goals refine ⟨k+1,hkn,Nat.sub_lt_sub_left hkn (Nat.lt_succ_self k),?_⟩
       all_goals simp only[hr2]
       all_goals (try simp only[JB,wzC,qC,rpC,swL,pC])
       all_goals rw[hS]
       all_goals (refine Imp.auto (by kernel_rfl) ?_ ?_<;>simp[NLe,mkPlX,hTe,hCe,hT,hC,hTl,hCl,hT2,hC2,hTl2,hCl2,hTS,hCS,hTT,hCT])
      ·have hke:k=4*n:=by omega
       subst hke
       have hkI:¬ (4*(n:Int)<M4):=by omega
       have ww:IntKind.wrap .i64 ((i:Int)+1)=(i:Int)+1:=wrap_in (by omega) (by omega)
       rw[← hnext]at j1
       obtain ⟨r,hr⟩:∃ r,rpRun (rp0 (i:Int)) V (4*n)=r:=⟨_,rfl⟩
       rw[hr]at hnext⊢
       rw[hnext]at j1
       obtain ⟨hcf,hw,hwl,hs0,ht0,ht1,hlg⟩:=okW_ex (j1)
       have hT:=w_t0 hw
       have hC:=w_cl hw
       have hTl:=l_t0 hlg
       have hCl:=l_cl hlg
       simp only[JB,rpC,wzC,wzL,qC]
       repeat' with_reducible (first
        | refine ZR.h ?_ | refine zI (by decide) ?_
        | ((first | refine zK hE ?_ | refine zL hE mixT ?_);intro K hK;simp[KR.ks,KD.ks,KD.cl,ELd,q8_0,q8_1,q8_2,q8_3,q8_4,q8_5,q8_6,q8_7,q8_8,q8_9,q8_10,q8_11,q8_12,q8_13,q8_14,q8_15,q8_16,q8_17,q8_18,q8_19,q8_20,q8_21,q8_22,q8_23,q8_24,q8_25,q8_26,q8_27,q8_28,q8_29,q8_30,q8_31,q8_32,q8_33,q8_34,q8_35,q8_36,q8_37,q8_38,q8_39,q8_40,q8_41,q8_42,q8_43,q8_44,hTe,hCe,hT,hC,hTl,hCl,hTS,hCS,hTT,hCT,hkI,ww];(repeat' (first | refine hK _ _ ?_ | refine And.intro ?_ ?_ | (intro hc;try subst hc)))<;>(try clear hK K))
        | (refine zJ (b:=_) (by with_unfolding_all rfl) (fun hc=>?_) (fun hc=>?_)<;>simp at hc<;>(try subst hc)))
       all_goals refine ⟨i+1,hiS,Nat.sub_lt_sub_left hiS (Nat.lt_succ_self i),?_⟩
       all_goals simp only[hnext]
       all_goals (try simp only[JA,wzC,qC,rpC,swL,pC])
       all_goals rw[hS]
       all_goals (refine Imp.auto (by kernel_rfl) ?_ ?_<;>simp[NLe,mkPlX,hTe,hCe,hT,hC,hTl,hCl,hTS,hCS,hTT,hCT])
    ·have hie:i=S:=by omega
     subst hie
     have hiI:¬ ((i:Int)<c*d):=by omega
     have h38:d38 [.agg [.int .i64 V.a,.int .i64 V.b,.int .i64 V.c,.int .i64 V.d,.int .i64 V.e,.int .i64 V.f,.int .i64 V.g]] []=some (.int .i64 (c*d)):=by simp only[d38];rw[if_pos hcf,vc,vd,bc,bd]
     simp only[JA,wzC,qC]
     repeat' with_reducible (first
      | refine ZR.h ?_ | refine zI (by decide) ?_
      | ((first | refine zK hE ?_ | refine zL hE mixT ?_);intro K hK;simp[KR.ks,KD.ks,KD.cl,ELd,q8_0,q8_1,q8_2,q8_3,q8_4,q8_5,q8_6,q8_7,q8_8,q8_9,q8_10,q8_11,q8_12,q8_13,q8_14,q8_15,q8_16,q8_17,q8_18,q8_19,q8_20,q8_21,q8_22,q8_23,q8_24,q8_25,q8_26,q8_27,q8_28,q8_29,q8_30,q8_31,q8_32,q8_33,q8_34,q8_35,q8_36,q8_37,q8_38,q8_39,q8_40,q8_41,q8_42,q8_43,q8_44,hTe,hCe,hT,hC,hTl,hCl,hTS,hCS,hTT,hCT,hiI,h38];(repeat' (first | refine hK _ _ ?_ | refine And.intro ?_ ?_ | (intro hc;try subst hc)))<;>(try clear hK K))
      | (refine zJ (b:=_) (by with_unfolding_all rfl) (fun hc=>?_) (fun hc=>?_)<;>simp at hc<;>(try subst hc)))
     all_goals (refine Wm_loop (fun j=>JC els a b c d e f g tick SS TT (c*d) (sweepW n V j) j) (fun j=>j≤i) (fun j=>i - j) 0 (Nat.zero_le _) ?_ ?_)
     ·simp only[JC,sweepW,wzC,qC]
      rw[hS]
      refine Imp.auto (by kernel_rfl) ?_ ?_<;>simp[NLe,mkPlX,hTe,hCe,hT,hC,hTl,hCl,hTS,hCS,hTT,hCT]
     ·clear hT hC hTl hCl h38
      intro j hj
      replace hj:j≤i:=hj
      obtain ⟨sI,_,_⟩:=sweep_law (n:Int) iI hn j
      have hsb:=sweep_bound iI hn j
      have hsin:14*(n*n)*j≤13608:=by
       have h1:=Nat.mul_le_mul (show n≤9 by omega) (show n≤9 by omega)
       have:=Nat.mul_le_mul (show 14*(n*n)≤1134 by omega) (show j≤12 by omega)
       omega
      have hsin2:(14*((n:Int)*n)*j)=((14*(n*n)*j:Nat):Int):=by simp
      rw[hsin2]at hsb
      have hstep:=sweep_step iI hn j
      obtain ⟨X,hX⟩:∃ X,sweepW n V j=X:=⟨_,rfl⟩
      simp only[hX]at sI hsb hstep⊢
      obtain ⟨xa,xb,xc,xd,xf,xg,xt⟩:=parX_ab sI.2.1
      obtain ⟨hcf,hw,hwl,hs0,ht0,ht1,hlg⟩:=okW_ex (sI.1)
      have hT:=w_t0 hw
      have hC:=w_cl hw
      have hTl:=l_t0 hlg
      have hCl:=l_cl hlg
      by_cases hjS:j<i
      ·have hjI:(j:Int)<c*d:=by omega
       have h40:d40 [.agg [.int .i64 X.a,.int .i64 X.b,.int .i64 X.c,.int .i64 X.d,.int .i64 X.e,.int .i64 X.f,.int .i64 X.g]]=some ⟨.int .i64 M14,[]⟩:=by simp only[d40];rw[if_pos hcf,xa,xb,ba,bb,hM14]
       simp only[JC,wzC,qC]
       repeat' with_reducible (first
        | refine ZR.h ?_ | refine zI (by decide) ?_
        | ((first | refine zK hE ?_ | refine zL hE mixT ?_);intro K hK;simp[KR.ks,KD.ks,KD.cl,ELd,q8_0,q8_1,q8_2,q8_3,q8_4,q8_5,q8_6,q8_7,q8_8,q8_9,q8_10,q8_11,q8_12,q8_13,q8_14,q8_15,q8_16,q8_17,q8_18,q8_19,q8_20,q8_21,q8_22,q8_23,q8_24,q8_25,q8_26,q8_27,q8_28,q8_29,q8_30,q8_31,q8_32,q8_33,q8_34,q8_35,q8_36,q8_37,q8_38,q8_39,q8_40,q8_41,q8_42,q8_43,q8_44,hTe,hCe,hT,hC,hTl,hCl,hTS,hCS,hTT,hCT,hjI,h40,d31];(repeat' (first | refine hK _ _ ?_ | refine And.intro ?_ ?_ | (intro hc;try subst hc)))<;>(try clear hK K))
        | (refine zJ (b:=_) (by with_unfolding_all rfl) (fun hc=>?_) (fun hc=>?_)<;>simp at hc<;>(try subst hc)))
       all_goals (refine Wm_loop (fun k=>JD els a b c d e f g tick SS TT (c*d) M14 (swRun ⟨(j:Int),0,0,none⟩ X k).2 (swRun ⟨(j:Int),0,0,none⟩ X k).1 j k) (fun k=>k≤14*(n*n)) (fun k=>14*(n*n) - k) 0 (Nat.zero_le _) ?_ ?_)
       ·simp only[JD,swRun,swL,pC,wzC,qC]
        rw[hS]
        refine Imp.auto (by kernel_rfl) ?_ ?_<;>simp[NLe,mkPlX,hTe,hCe,hT,hC,hTl,hCl,hTS,hCS,hTT,hCT]
       ·clear h40 hT hC hTl hCl
        intro k hk
        replace hk:k≤14*(n*n):=hk
        have inv:=sw_inv (sh:=(j:Int)) sI.1 k
        have inv2:=sw_inv (sh:=(j:Int)) sI.1 (k+1)
        have hsk:=SwInv_ok inv (by omega) (by rw[xa,xb,← hn];omega) (by rw[xa,xb,← hn];omega)
        obtain ⟨j1,j2,j3,j4,_,_,_,j10,j11⟩:=inv
        have hsucc:=swRun_succ k ⟨(j:Int),0,0,none⟩ X
        have hsm:smW (swRun ⟨(j:Int),0,0,none⟩ X k).2=true:=decide_eq_true (by omega)
        by_cases hkn:k<14*(n*n)
        ·have hkI:(k:Int)<M14:=by omega
         have ww:IntKind.wrap .i64 ((k:Int)+1)=(k:Int)+1:=wrap_in (by omega) (by omega)
         have okV2:=inv2.1
         obtain ⟨⟨s,W⟩,hr⟩:∃ r,swRun ⟨(j:Int),0,0,none⟩ X k=r:=⟨_,rfl⟩
         rw[hr]at hsk j1 hsm hsucc
         rw[hr]
         obtain ⟨sh,ix,ps,p⟩:=s
         simp only at hsk j1 hsm hsucc⊢
         obtain ⟨i2,q2,hsw⟩:=sw_p W ⟨sh,ix,ps,p⟩
         obtain ⟨r2,hr2⟩:∃ r,StepT W (swT W ⟨sh,ix,ps,p⟩)=r:=⟨_,rfl⟩
         rw[hsw,hr2]at hsucc
         rw[hsucc]at okV2
         simp only at okV2
         obtain ⟨hcf,hw,hwl,hs0,ht0,ht1,hlg⟩:=okW_ex (j1)
         have hT:=w_t0 hw
         have hC:=w_cl hw
         have hTl:=l_t0 hlg
         have hCl:=l_cl hlg
         obtain ⟨hcf2,hw2,hwl2,hs02,ht02,ht12,hlg2⟩:=okW_ex (okV2)
         have hT2:=w_t0 hw2
         have hC2:=w_cl hw2
         have hTl2:=l_t0 hlg2
         have hCl2:=l_cl hlg2
         cases p with
         | none =>
          have hst:=fun u v u1 u2 u3 u4=>e29 hsk j1 hsm u 0 v u1 u2 u3 u4
          rw[hsw,hr2]at hst
          simp only[JD,swL,pC,tzC,wzC,wzL,qC]at hst⊢
          repeat' with_reducible (first
           | refine ZR.h ?_ | refine zI (by decide) ?_
           | ((first | refine zK hE ?_ | refine zL hE mixT ?_);intro K hK;simp[KR.ks,KD.ks,KD.cl,ELd,q8_0,q8_1,q8_2,q8_3,q8_4,q8_5,q8_6,q8_7,q8_8,q8_9,q8_10,q8_11,q8_12,q8_13,q8_14,q8_15,q8_16,q8_17,q8_18,q8_19,q8_20,q8_21,q8_22,q8_23,q8_24,q8_25,q8_26,q8_27,q8_28,q8_29,q8_30,q8_31,q8_32,q8_33,q8_34,q8_35,q8_36,q8_37,q8_38,q8_39,q8_40,q8_41,q8_42,q8_43,q8_44,hTe,hCe,hT,hC,hTl,hCl,hT2,hC2,hTl2,hCl2,hTS,hCS,hTT,hCT,hkI,hst,ww];(repeat' (first | refine hK _ _ ?_ | refine And.intro ?_ ?_ | (intro hc;try subst hc)))<;>(try clear hK K))
           | (refine zJ (b:=_) (by with_unfolding_all rfl) (fun hc=>?_) (fun hc=>?_)<;>simp at hc<;>(try subst hc)))
          all_goals refine ⟨k+1,hkn,Nat.sub_lt_sub_left hkn (Nat.lt_succ_self k),?_⟩
          all_goals simp only[hsucc]
          all_goals (try simp only[JD,swL,pC,tzC,wzC,qC])
          all_goals rw[hS]
          all_goals (refine Imp.auto (by kernel_rfl) ?_ ?_<;>simp[NLe,mkPlX,hTe,hCe,hT,hC,hTl,hCl,hT2,hC2,hTl2,hCl2,hTS,hCS,hTT,hCT])
         | some T =>
          have hst:=e29 hsk j1 hsm
          rw[hsw,hr2]at hst
          simp only[JD,swL,pC,tzC,wzC,wzL,qC]at hst⊢
          repeat' with_reducible (first
           | refine ZR.h ?_ | refine zI (by decide) ?_
           | ((first | refine zK hE ?_ | refine zL hE mixT ?_);intro K hK;simp[KR.ks,KD.ks,KD.cl,ELd,q8_0,q8_1,q8_2,q8_3,q8_4,q8_5,q8_6,q8_7,q8_8,q8_9,q8_10,q8_11,q8_12,q8_13,q8_14,q8_15,q8_16,q8_17,q8_18,q8_19,q8_20,q8_21,q8_22,q8_23,q8_24,q8_25,q8_26,q8_27,q8_28,q8_29,q8_30,q8_31,q8_32,q8_33,q8_34,q8_35,q8_36,q8_37,q8_38,q8_39,q8_40,q8_41,q8_42,q8_43,q8_44,hTe,hCe,hT,hC,hTl,hCl,hT2,hC2,hTl2,hCl2,hTS,hCS,hTT,hCT,hkI,hst,ww];(repeat' (first | refine hK _ _ ?_ | refine And.intro ?_ ?_ | (intro hc;try subst hc)))<;>(try clear hK K))
           | (refine zJ (b:=_) (by with_unfolding_all rfl) (fun hc=>?_) (fun hc=>?_)<;>simp at hc<;>(try subst hc)))
          all_goals refine ⟨k+1,hkn,Nat.sub_lt_sub_left hkn (Nat.lt_succ_self k),?_⟩
          all_goals simp only[hsucc]
          all_goals (try simp only[JD,swL,pC,tzC,wzC,qC])
          all_goals rw[hS]
          all_goals (refine Imp.auto (by kernel_rfl) ?_ ?_<;>simp[NLe,mkPlX,hTe,hCe,hT,hC,hTl,hCl,hT2,hC2,hTl2,hCl2,hTS,hCS,hTT,hCT])
        ·have hke:k=14*(n*n):=by omega
         subst hke
         have hkI:¬ (14*((n:Int)*(n:Int))<M14):=by rw[hM14n];simp
         have ww:IntKind.wrap .i64 ((j:Int)+1)=(j:Int)+1:=wrap_in (by omega) (by omega)
         obtain ⟨⟨s,W⟩,hr⟩:∃ r,swRun ⟨(j:Int),0,0,none⟩ X (14*(n*n))=r:=⟨_,rfl⟩
         rw[hr]at hstep j1
         rw[hr]
         simp only at hstep j1⊢
         obtain ⟨sh,ix,ps,p⟩:=s
         obtain ⟨hcf,hw,hwl,hs0,ht0,ht1,hlg⟩:=okW_ex (j1)
         have hT:=w_t0 hw
         have hC:=w_cl hw
         have hTl:=l_t0 hlg
         have hCl:=l_cl hlg
         cases p with
         | none =>
          simp only[JD,swL,pC,wzC,qC]
          repeat' with_reducible (first
           | refine ZR.h ?_ | refine zI (by decide) ?_
           | ((first | refine zK hE ?_ | refine zL hE mixT ?_);intro K hK;simp[KR.ks,KD.ks,KD.cl,ELd,q8_0,q8_1,q8_2,q8_3,q8_4,q8_5,q8_6,q8_7,q8_8,q8_9,q8_10,q8_11,q8_12,q8_13,q8_14,q8_15,q8_16,q8_17,q8_18,q8_19,q8_20,q8_21,q8_22,q8_23,q8_24,q8_25,q8_26,q8_27,q8_28,q8_29,q8_30,q8_31,q8_32,q8_33,q8_34,q8_35,q8_36,q8_37,q8_38,q8_39,q8_40,q8_41,q8_42,q8_43,q8_44,hTe,hCe,hT,hC,hTl,hCl,hTS,hCS,hTT,hCT,hkI,ww];(repeat' (first | refine hK _ _ ?_ | refine And.intro ?_ ?_ | (intro hc;try subst hc)))<;>(try clear hK K))
           | (refine zJ (b:=_) (by with_unfolding_all rfl) (fun hc=>?_) (fun hc=>?_)<;>simp at hc<;>(try subst hc)))
          all_goals refine ⟨j+1,hjS,Nat.sub_lt_sub_left hjS (Nat.lt_succ_self j),?_⟩
          all_goals simp only[← hstep]
          all_goals (try simp only[JC,wzC,qC,rpC,swL,pC])
          all_goals rw[hS]
          all_goals (refine Imp.auto (by kernel_rfl) ?_ ?_<;>simp[NLe,mkPlX,hTe,hCe,hT,hC,hTl,hCl,hTS,hCS,hTT,hCT])
         | some T =>
          simp only[JD,swL,pC,tzC,wzC,qC]
          repeat' with_reducible (first
           | refine ZR.h ?_ | refine zI (by decide) ?_
           | ((first | refine zK hE ?_ | refine zL hE mixT ?_);intro K hK;simp[KR.ks,KD.ks,KD.cl,ELd,q8_0,q8_1,q8_2,q8_3,q8_4,q8_5,q8_6,q8_7,q8_8,q8_9,q8_10,q8_11,q8_12,q8_13,q8_14,q8_15,q8_16,q8_17,q8_18,q8_19,q8_20,q8_21,q8_22,q8_23,q8_24,q8_25,q8_26,q8_27,q8_28,q8_29,q8_30,q8_31,q8_32,q8_33,q8_34,q8_35,q8_36,q8_37,q8_38,q8_39,q8_40,q8_41,q8_42,q8_43,q8_44,hTe,hCe,hT,hC,hTl,hCl,hTS,hCS,hTT,hCT,hkI,ww];(repeat' (first | refine hK _ _ ?_ | refine And.intro ?_ ?_ | (intro hc;try subst hc)))<;>(try clear hK K))
           | (refine zJ (b:=_) (by with_unfolding_all rfl) (fun hc=>?_) (fun hc=>?_)<;>simp at hc<;>(try subst hc)))
          all_goals refine ⟨j+1,hjS,Nat.sub_lt_sub_left hjS (Nat.lt_succ_self j),?_⟩
          all_goals simp only[← hstep]
          all_goals (try simp only[JC,wzC,qC,rpC,swL,pC])
          all_goals rw[hS]
          all_goals (refine Imp.auto (by kernel_rfl) ?_ ?_<;>simp[NLe,mkPlX,hTe,hCe,hT,hC,hTl,hCl,hTS,hCS,hTT,hCT])
      ·have hje:j=i:=by omega
       subst hje
       have hjI:¬ ((j:Int)<c*d):=by omega
       simp only[JC,wzC,qC]
       repeat' with_reducible (first
        | refine ZR.h ?_ | refine zI (by decide) ?_
        | ((first | refine zK hE ?_ | refine zL hE mixT ?_);intro K hK;simp[KR.ks,KD.ks,KD.cl,ELd,q8_0,q8_1,q8_2,q8_3,q8_4,q8_5,q8_6,q8_7,q8_8,q8_9,q8_10,q8_11,q8_12,q8_13,q8_14,q8_15,q8_16,q8_17,q8_18,q8_19,q8_20,q8_21,q8_22,q8_23,q8_24,q8_25,q8_26,q8_27,q8_28,q8_29,q8_30,q8_31,q8_32,q8_33,q8_34,q8_35,q8_36,q8_37,q8_38,q8_39,q8_40,q8_41,q8_42,q8_43,q8_44,hTe,hCe,hT,hC,hTl,hCl,hTS,hCS,hTT,hCT,hjI,hSl];(repeat' (first | refine hK _ _ ?_ | refine And.intro ?_ ?_ | (intro hc;try subst hc)))<;>(try clear hK K))
        | (refine zJ (b:=_) (by with_unfolding_all rfl) (fun hc=>?_) (fun hc=>?_)<;>simp at hc<;>(try subst hc)))
       rw[hV,hX]at hlaw
       obtain ⟨_,L1,L2⟩:=hlaw
       rw[bt]at L1
       have gt:∀ {L:List (List AV)} {i:Nat} {r:List AV},L[i]?=some r→∀ h:i<L.length,L[i]=r:=fun hg h=>by
        rw[List.getElem?_eq_getElem h]at hg;exact Option.some.inj hg
       have hqb:X.s≤500000∧X.lg.length≤20000:=by omega
       have hXp:X.a*X.b=a*b:=by rw[xa,xb,ba,bb]
       all_goals (refine Wm_loop (fun q=>JE els a b c d e f g tick SS TT (a*b) X (tkW X q) q) (fun q=>q≤n) (fun q=>n - q) 0 (Nat.zero_le _) ?_ ?_)
       ·simp only[JE,tkW,wzC,qC]
        rw[hS]
        refine Imp.auto (by kernel_rfl) ?_ ?_<;>simp[NLe,mkPlX,hTe,hCe,hT,hC,hTl,hCl,hTS,hCS,hTT,hCT]
       ·clear hT hC hTl hCl
        intro q hq
        replace hq:q≤n:=hq
        have okq:=tk_ok sI.1 q
        have okq2:=tk_ok sI.1 (q+1)
        obtain ⟨ts,tl,ta,tb⟩:=tk_s X q
        have hlo:loW (tkW X q)=true:=decide_eq_true (by rw[ts,tl];omega)
        obtain ⟨hcf,hw,hwl,hs0,ht0,ht1,hlg⟩:=okW_ex (okq)
        have hT:=w_t0 hw
        have hC:=w_cl hw
        have hTl:=l_t0 hlg
        have hCl:=l_cl hlg
        obtain ⟨hcf2,hw2,hwl2,hs02,ht02,ht12,hlg2⟩:=okW_ex (okq2)
        have hT2:=w_t0 hw2
        have hC2:=w_cl hw2
        have hTl2:=l_t0 hlg2
        have hCl2:=l_cl hlg2
        by_cases hqn:q<n
        ·have hqI:(q:Int)<a*b:=by omega
         have ww:IntKind.wrap .i64 ((q:Int)+1)=(q:Int)+1:=wrap_in (by omega) (by omega)
         have h14:=e14 okq hlo (x:=(q:Int)) (by omega) (by rw[ta,tb,hXp];omega)
         rw[show stateZ (sAt (tkW X q) (q:Int))=stW X (q:Int) from tk_st X (q:Int) q]at h14
         have hL:=L1 (q:Int) (by omega) (by omega)
         have hacc:=acc_succ X q
         have hTq0:=(hcell q (by omega)).2.1
         rw[← (eX q).2]at hTq0
         have hTq:TT[q]?=some (tmC (tmW B (q:Int))):=hTq0
         obtain ⟨⟨k1,f1,g1,l1,n1⟩,hst1⟩:∃ s,stW X (q:Int)=s:=⟨_,rfl⟩
         obtain ⟨⟨m1,d1,r1,e1,u1⟩,htm1⟩:∃ t,tmW B (q:Int)=t:=⟨_,rfl⟩
         rw[hst1]at h14 hL hacc
         rw[htm1]at hTq hL
         simp only[tmC]at hTq
         simp only[stL]at hacc
         obtain ⟨hh1,hL2⟩:=hL
         simp only at hh1 hL2
         have hTql:q<TT.length:=by rw[hTlen];omega
         have hTqe:=gt hTq
         have hnx:tickW (tkW X q)=tkW X (q+1):=rfl
         rw[hnx]at h14
         obtain ⟨Y,hY⟩:∃ Y,tkW X q=Y:=⟨_,rfl⟩
         obtain ⟨Y2,hY2⟩:∃ Y,tkW X (q+1)=Y:=⟨_,rfl⟩
         rw[hY]at h14 hT hC hTl hCl
         rw[hY2]at h14 hT2 hC2 hTl2 hCl2
         simp only[wzC,wzL,stA]at h14
         replace hnx:tkW X (q+1)=Y2:=hY2
         simp only[hY]
         cases q with
         | zero =>
          simp only[JE,wzC,qC]
          simp only[Int.natCast_zero,Int.zero_add]at h14 ww hqI
          rw[show accZ X 0=[] from rfl,List.nil_append]at hacc
          by_cases hlo1:looseZ k1=true
          ·have hun:¬ u1≤tick:=hL2 hlo1
           repeat' with_reducible (first
            | refine ZR.h ?_ | refine zI (by decide) ?_
            | ((first | refine zK hE ?_ | refine zL hE mixT ?_);intro K hK;simp[KR.ks,KD.ks,KD.cl,ELd,q8_0,q8_1,q8_2,q8_3,q8_4,q8_5,q8_6,q8_7,q8_8,q8_9,q8_10,q8_11,q8_12,q8_13,q8_14,q8_15,q8_16,q8_17,q8_18,q8_19,q8_20,q8_21,q8_22,q8_23,q8_24,q8_25,q8_26,q8_27,q8_28,q8_29,q8_30,q8_31,q8_32,q8_33,q8_34,q8_35,q8_36,q8_37,q8_38,q8_39,q8_40,q8_41,q8_42,q8_43,q8_44,hTe,hCe,hT,hC,hTl,hCl,hTS,hCS,hTT,hCT,hqI,h14,hh1,hlo1,hun,hTq,hTqe,hTql,ww,d16,d41];(repeat' (first | refine hK _ _ ?_ | refine And.intro ?_ ?_ | (intro hc;try subst hc)))<;>(try clear hK K))
            | (refine zJ (b:=_) (by with_unfolding_all rfl) (fun hc=>?_) (fun hc=>?_)<;>simp at hc<;>(try subst hc)))
           all_goals refine ⟨1,hqn,by show n - (1)<n - (0);omega,?_⟩
           all_goals simp only[JE]
           all_goals (try simp only[hnx,hacc,wzC,qC])
           all_goals rw[hS]
           all_goals (refine Imp.auto (by kernel_rfl) ?_ ?_<;>simp[NLe,mkPlX,hTe,hCe,hT,hC,hTl,hCl,hT2,hC2,hTl2,hCl2,hTS,hCS,hTT,hCT,ww])
          ·have hlo2:looseZ k1=false:=by simpa using hlo1
           repeat' with_reducible (first
            | refine ZR.h ?_ | refine zI (by decide) ?_
            | ((first | refine zK hE ?_ | refine zL hE mixT ?_);intro K hK;simp[KR.ks,KD.ks,KD.cl,ELd,q8_0,q8_1,q8_2,q8_3,q8_4,q8_5,q8_6,q8_7,q8_8,q8_9,q8_10,q8_11,q8_12,q8_13,q8_14,q8_15,q8_16,q8_17,q8_18,q8_19,q8_20,q8_21,q8_22,q8_23,q8_24,q8_25,q8_26,q8_27,q8_28,q8_29,q8_30,q8_31,q8_32,q8_33,q8_34,q8_35,q8_36,q8_37,q8_38,q8_39,q8_40,q8_41,q8_42,q8_43,q8_44,hTe,hCe,hT,hC,hTl,hCl,hTS,hCS,hTT,hCT,hqI,h14,hh1,hlo2,ww,d16,d41];(repeat' (first | refine hK _ _ ?_ | refine And.intro ?_ ?_ | (intro hc;try subst hc)))<;>(try clear hK K))
            | (refine zJ (b:=_) (by with_unfolding_all rfl) (fun hc=>?_) (fun hc=>?_)<;>simp at hc<;>(try subst hc)))
           all_goals refine ⟨1,hqn,by show n - (1)<n - (0);omega,?_⟩
           all_goals simp only[JE]
           all_goals (try simp only[hnx,hacc,wzC,qC])
           all_goals rw[hS]
           all_goals (refine Imp.auto (by kernel_rfl) ?_ ?_<;>simp[NLe,mkPlX,hTe,hCe,hT,hC,hTl,hCl,hT2,hC2,hTl2,hCl2,hTS,hCS,hTT,hCT,ww])
         | succ q =>
          have hAL:=acc_len X (q+1)
          have hAT:=acc_t0 X (q+1)
          have hAC:=acc_cl X (q+1)
          have hq1:q≤9223372036854775805:=by omega
          have hq2:q+1≤9223372036854775806:=by omega
          have hq4:0≤(q:Int)+1:=by omega
          have hq5:(q:Int)+1<TT.length:=by omega
          have hAtl:=fun n=>acc_tl X n (q+1)
          have hq3:(q+1+1)*40≤140737488355328:=by omega
          have hAT2:=acc_t0 X (q+1+1)
          have hAC2:=acc_cl X (q+1+1)
          rw[hacc]at hAT2 hAC2
          have hAk:(accZ X (q+1)).take (q+1)=accZ X (q+1):=by rw[List.take_of_length_le (by omega)]
          simp only[JE,wzC,qC]
          simp only[Int.natCast_add,Int.natCast_one]at h14 ww hqI⊢
          by_cases hlo1:looseZ k1=true
          ·have hun:¬ u1≤tick:=hL2 hlo1
           repeat' with_reducible (first
            | refine ZR.h ?_ | refine zI (by decide) ?_
            | ((first | refine zK hE ?_ | refine zL hE mixT ?_);intro K hK;simp[KR.ks,KD.ks,KD.cl,ELd,q8_0,q8_1,q8_2,q8_3,q8_4,q8_5,q8_6,q8_7,q8_8,q8_9,q8_10,q8_11,q8_12,q8_13,q8_14,q8_15,q8_16,q8_17,q8_18,q8_19,q8_20,q8_21,q8_22,q8_23,q8_24,q8_25,q8_26,q8_27,q8_28,q8_29,q8_30,q8_31,q8_32,q8_33,q8_34,q8_35,q8_36,q8_37,q8_38,q8_39,q8_40,q8_41,q8_42,q8_43,q8_44,hTe,hCe,hT,hC,hTl,hCl,hTS,hCS,hTT,hCT,hqI,h14,hh1,hlo1,hun,hTq,hTqe,hTql,ww,d16,d41,hAL,hAT,hAC,hAk,hq1,hq2,hq3,hq4,hq5,hAtl,hAT2,hAC2];(repeat' (first | refine hK _ _ ?_ | refine And.intro ?_ ?_ | (intro hc;try subst hc)))<;>(try clear hK K))
            | (refine zJ (b:=_) (by with_unfolding_all rfl) (fun hc=>?_) (fun hc=>?_)<;>simp at hc<;>(try subst hc)))
           all_goals refine ⟨q+1+1,hqn,by show n - (q+1+1)<n - (q+1);omega,?_⟩
           all_goals simp only[JE]
           all_goals (try simp only[hnx,hacc,wzC,qC])
           all_goals rw[hS]
           all_goals (refine Imp.auto (by kernel_rfl) ?_ ?_<;>simp[NLe,mkPlX,hTe,hCe,hT,hC,hTl,hCl,hT2,hC2,hTl2,hCl2,hTS,hCS,hTT,hCT,ww,hAL,hAT,hAC,hAk,hq1,hq2,hq3,hq4,hq5,hAtl,hAT2,hAC2])
          ·have hlo2:looseZ k1=false:=by simpa using hlo1
           repeat' with_reducible (first
            | refine ZR.h ?_ | refine zI (by decide) ?_
            | ((first | refine zK hE ?_ | refine zL hE mixT ?_);intro K hK;simp[KR.ks,KD.ks,KD.cl,ELd,q8_0,q8_1,q8_2,q8_3,q8_4,q8_5,q8_6,q8_7,q8_8,q8_9,q8_10,q8_11,q8_12,q8_13,q8_14,q8_15,q8_16,q8_17,q8_18,q8_19,q8_20,q8_21,q8_22,q8_23,q8_24,q8_25,q8_26,q8_27,q8_28,q8_29,q8_30,q8_31,q8_32,q8_33,q8_34,q8_35,q8_36,q8_37,q8_38,q8_39,q8_40,q8_41,q8_42,q8_43,q8_44,hTe,hCe,hT,hC,hTl,hCl,hTS,hCS,hTT,hCT,hqI,h14,hh1,hlo2,ww,d16,d41,hAL,hAT,hAC,hAk,hq1,hq2,hq3,hq4,hq5,hAtl,hAT2,hAC2];(repeat' (first | refine hK _ _ ?_ | refine And.intro ?_ ?_ | (intro hc;try subst hc)))<;>(try clear hK K))
            | (refine zJ (b:=_) (by with_unfolding_all rfl) (fun hc=>?_) (fun hc=>?_)<;>simp at hc<;>(try subst hc)))
           all_goals refine ⟨q+1+1,hqn,by show n - (q+1+1)<n - (q+1);omega,?_⟩
           all_goals simp only[JE]
           all_goals (try simp only[hnx,hacc,wzC,qC])
           all_goals rw[hS]
           all_goals (refine Imp.auto (by kernel_rfl) ?_ ?_<;>simp[NLe,mkPlX,hTe,hCe,hT,hC,hTl,hCl,hT2,hC2,hTl2,hCl2,hTS,hCS,hTT,hCT,ww,hAL,hAT,hAC,hAk,hq1,hq2,hq3,hq4,hq5,hAtl,hAT2,hAC2])
        ·have hqe:q=n:=by omega
         subst hqe
         obtain ⟨m,rfl⟩:∃ m,q=m+1:=⟨q - 1,by omega⟩
         have hqI:¬ ((m:Int)+1<a*b):=by omega
         have hqm:a*b=(m:Int)+1:=by omega
         obtain ⟨Y,hY⟩:∃ Y,tkW X (m+1)=Y:=⟨_,rfl⟩
         rw[hY]at hT hC hTl hCl⊢
         simp only[JE,wzC,qC]
         repeat' with_reducible (first
          | refine ZR.h ?_ | refine zI (by decide) ?_
          | ((first | refine zK hE ?_ | refine zL hE mixT ?_);intro K hK;simp[KR.ks,KD.ks,KD.cl,ELd,q8_0,q8_1,q8_2,q8_3,q8_4,q8_5,q8_6,q8_7,q8_8,q8_9,q8_10,q8_11,q8_12,q8_13,q8_14,q8_15,q8_16,q8_17,q8_18,q8_19,q8_20,q8_21,q8_22,q8_23,q8_24,q8_25,q8_26,q8_27,q8_28,q8_29,q8_30,q8_31,q8_32,q8_33,q8_34,q8_35,q8_36,q8_37,q8_38,q8_39,q8_40,q8_41,q8_42,q8_43,q8_44,hTe,hCe,hT,hC,hTl,hCl,hTS,hCS,hTT,hCT,hqI];(repeat' (first | refine hK _ _ ?_ | refine And.intro ?_ ?_ | (intro hc;try subst hc)))<;>(try clear hK K))
          | (refine zJ (b:=_) (by with_unfolding_all rfl) (fun hc=>?_) (fun hc=>?_)<;>simp at hc<;>(try subst hc)))
         have hAL:=acc_len X (m+1)
         have hAT:=acc_t0 X (m+1)
         have hAC:=acc_cl X (m+1)
         all_goals (refine Wm_loop (fun i=>JF els a b c d e f g tick SS TT X (m+1) i) (fun i=>i≤m+1) (fun i=>m+1 - i) 0 (Nat.zero_le _) ?_ ?_)
         ·simp only[JF,qC]
          rw[hS]
          refine Imp.auto (by kernel_rfl) ?_ ?_<;>simp[NLe,mkPlX,hTe,hCe,hT,hC,hTl,hCl,hTS,hCS,hTT,hCT,hAL,hAT,hAC]
         ·intro i hi
          replace hi:i≤m+1:=hi
          have wi:IntKind.wrap .i64 ((i:Int)+1)=(i:Int)+1:=wrap_in (by omega) (by omega)
          by_cases hin3:i<m+1
          ·have hiI:(i:Int)<(m:Int)+1:=by omega
           have hgi:=acc_get (W:=X) hin3
           obtain ⟨⟨k1,f1,g1,l1,n1⟩,hst1⟩:∃ s,stW X (i:Int)=s:=⟨_,rfl⟩
           obtain ⟨⟨m1,d1,r1,e1,u1⟩,htm1⟩:∃ t,tmW B (i:Int)=t:=⟨_,rfl⟩
           have hTi:=(hcell i (by omega)).2.1
           rw[← (eX i).2]at hTi
           have hTi':TT[i]?=some (tmC (tmW B (i:Int))):=hTi
           rw[htm1]at hTi'
           simp only[tmC]at hTi'
           have hTil:i<TT.length:=by rw[hTlen];omega
           have hTie:=gt hTi'
           rw[hst1]at hgi
           simp only[stL]at hgi
           have hgie:=gt hgi
           simp only[JF,qC]
           repeat' with_reducible (first
            | refine ZR.h ?_ | refine zI (by decide) ?_
            | ((first | refine zK hE ?_ | refine zL hE mixT ?_);intro K hK;simp[KR.ks,KD.ks,KD.cl,ELd,q8_0,q8_1,q8_2,q8_3,q8_4,q8_5,q8_6,q8_7,q8_8,q8_9,q8_10,q8_11,q8_12,q8_13,q8_14,q8_15,q8_16,q8_17,q8_18,q8_19,q8_20,q8_21,q8_22,q8_23,q8_24,q8_25,q8_26,q8_27,q8_28,q8_29,q8_30,q8_31,q8_32,q8_33,q8_34,q8_35,q8_36,q8_37,q8_38,q8_39,q8_40,q8_41,q8_42,q8_43,q8_44,hTe,hCe,hTS,hCS,hTT,hCT,hAL,hAT,hAC,hiI,hgi,hgie];(repeat' (first | refine hK _ _ ?_ | refine And.intro ?_ ?_ | (intro hc;try subst hc)))<;>(try clear hK K))
            | (refine zJ (b:=_) (by with_unfolding_all rfl) (fun hc=>?_) (fun hc=>?_)<;>simp at hc<;>(try subst hc)))
           all_goals (refine Wm_loop (fun k=>JG els a b c d e f g tick SS TT X (m+1) i k) (fun k=>k≤m+1) (fun k=>m+1 - k) 0 (Nat.zero_le _) ?_ ?_)
           ·simp only[JG,hst1,stL,qC]
            rw[hS]
            refine Imp.auto (by kernel_rfl) ?_ ?_<;>simp[NLe,mkPlX,hTe,hCe,hTS,hCS,hTT,hCT,hAL,hAT,hAC]
           ·intro k hk
            replace hk:k≤m+1:=hk
            have ww:IntKind.wrap .i64 ((k:Int)+1)=(k:Int)+1:=wrap_in (by omega) (by omega)
            by_cases hkn:k<m+1
            ·have hkI:(k:Int)<(m:Int)+1:=by omega
             have hgk:=acc_get (W:=X) hkn
             obtain ⟨⟨k2,f2,g2,l2,n2⟩,hst2⟩:∃ s,stW X (k:Int)=s:=⟨_,rfl⟩
             obtain ⟨⟨m2,d2,r2,e2,u2⟩,htm2⟩:∃ t,tmW B (k:Int)=t:=⟨_,rfl⟩
             have hTk:=(hcell k (by omega)).2.1
             rw[← (eX k).2]at hTk
             have hTk':TT[k]?=some (tmC (tmW B (k:Int))):=hTk
             rw[htm2]at hTk'
             simp only[tmC]at hTk'
             have hTkl:k<TT.length:=by rw[hTlen];omega
             rw[hst2]at hgk
             simp only[stL]at hgk
             have hgke:=gt hgk
             have hTke:=gt hTk'
             have tq1:IntKind.wrap .i64 ((i:Int).tdiv b)=i / b:=tdiv_in (by omega) (by omega) (by omega)
             have tq2:IntKind.wrap .i64 ((k:Int).tdiv b)=k / b:=tdiv_in (by omega) (by omega) (by omega)
             have hb0:¬ b=0:=by omega
             have hM:=L2 (i:Int) (k:Int) (by omega) (by omega) (by omega) (by omega)
             rw[hst1,hst2,htm1,htm2]at hM
             simp only at hM
             have t1:=getT_pr (tAt B (i:Int))
             have t2:=getT_pr (tAt B (k:Int))
             rw[show termsZ (tAt B (i:Int))=_ from htm1]at t1
             rw[show termsZ (tAt B (k:Int))=_ from htm2]at t2
             simp only at t1 t2
             have h18:d18 [.agg [.int .i64 m1,.int .i64 d1,.int .i64 r1,.int .i64 e1,.int .i64 u1],.agg [.int .i64 m2,.int .i64 d2,.int .i64 r2,.int .i64 e2,.int .i64 u2],.int .i64 l1,.int .i64 l2] []=some (.tup [.int .i64 (matchZ ⟨m1,d1,r1,e1,u1⟩ ⟨m2,d2,r2,e2,u2⟩ l1 l2).1,.int .i64 (matchZ ⟨m1,d1,r1,e1,u1⟩ ⟨m2,d2,r2,e2,u2⟩ l1 l2).2]):=by simp only[d18];rw[if_pos ⟨t1.1,by omega,t2.1,by omega⟩]
             simp only[JG,hst1,stL,qC]
             by_cases b1:k1=2
             case neg =>
              repeat' with_reducible (first
               | refine ZR.h ?_ | refine zI (by decide) ?_
               | ((first | refine zK hE ?_ | refine zL hE mixT ?_);intro K hK;simp[KR.ks,KD.ks,KD.cl,ELd,q8_0,q8_1,q8_2,q8_3,q8_4,q8_5,q8_6,q8_7,q8_8,q8_9,q8_10,q8_11,q8_12,q8_13,q8_14,q8_15,q8_16,q8_17,q8_18,q8_19,q8_20,q8_21,q8_22,q8_23,q8_24,q8_25,q8_26,q8_27,q8_28,q8_29,q8_30,q8_31,q8_32,q8_33,q8_34,q8_35,q8_36,q8_37,q8_38,q8_39,q8_40,q8_41,q8_42,q8_43,q8_44,hTe,hCe,hTS,hCS,hTT,hCT,hAL,hAT,hAC,hkI,hgk,hgke,b1,ww];(repeat' (first | refine hK _ _ ?_ | refine And.intro ?_ ?_ | (intro hc;try subst hc)))<;>(try clear hK K))
               | (refine zJ (b:=_) (by with_unfolding_all rfl) (fun hc=>?_) (fun hc=>?_)<;>simp at hc<;>(try subst hc)))
              all_goals refine ⟨k+1,hkn,Nat.sub_lt_sub_left hkn (Nat.lt_succ_self k),?_⟩
              all_goals simp only[JG,hst1,stL,qC]
              all_goals rw[hS]
              all_goals (refine Imp.auto (by kernel_rfl) ?_ ?_<;>simp[NLe,mkPlX,hTe,hCe,hTS,hCS,hTT,hCT,hAL,hAT,hAC])
             by_cases b2:k2=2
             case neg =>
              repeat' with_reducible (first
               | refine ZR.h ?_ | refine zI (by decide) ?_
               | ((first | refine zK hE ?_ | refine zL hE mixT ?_);intro K hK;simp[KR.ks,KD.ks,KD.cl,ELd,q8_0,q8_1,q8_2,q8_3,q8_4,q8_5,q8_6,q8_7,q8_8,q8_9,q8_10,q8_11,q8_12,q8_13,q8_14,q8_15,q8_16,q8_17,q8_18,q8_19,q8_20,q8_21,q8_22,q8_23,q8_24,q8_25,q8_26,q8_27,q8_28,q8_29,q8_30,q8_31,q8_32,q8_33,q8_34,q8_35,q8_36,q8_37,q8_38,q8_39,q8_40,q8_41,q8_42,q8_43,q8_44,hTe,hCe,hTS,hCS,hTT,hCT,hAL,hAT,hAC,hkI,hgk,hgke,b1,b2,ww];(repeat' (first | refine hK _ _ ?_ | refine And.intro ?_ ?_ | (intro hc;try subst hc)))<;>(try clear hK K))
               | (refine zJ (b:=_) (by with_unfolding_all rfl) (fun hc=>?_) (fun hc=>?_)<;>simp at hc<;>(try subst hc)))
              all_goals refine ⟨k+1,hkn,Nat.sub_lt_sub_left hkn (Nat.lt_succ_self k),?_⟩
              all_goals simp only[JG,hst1,stL,qC]
              all_goals rw[hS]
              all_goals (refine Imp.auto (by kernel_rfl) ?_ ?_<;>simp[NLe,mkPlX,hTe,hCe,hTS,hCS,hTT,hCT,hAL,hAT,hAC,b1])
             by_cases b3:(i:Int) / b=k / b
             ·repeat' with_reducible (first
               | refine ZR.h ?_ | refine zI (by decide) ?_
               | ((first | refine zK hE ?_ | refine zL hE mixT ?_);intro K hK;simp[KR.ks,KD.ks,KD.cl,ELd,q8_0,q8_1,q8_2,q8_3,q8_4,q8_5,q8_6,q8_7,q8_8,q8_9,q8_10,q8_11,q8_12,q8_13,q8_14,q8_15,q8_16,q8_17,q8_18,q8_19,q8_20,q8_21,q8_22,q8_23,q8_24,q8_25,q8_26,q8_27,q8_28,q8_29,q8_30,q8_31,q8_32,q8_33,q8_34,q8_35,q8_36,q8_37,q8_38,q8_39,q8_40,q8_41,q8_42,q8_43,q8_44,hTe,hCe,hTS,hCS,hTT,hCT,hAL,hAT,hAC,hkI,hgk,hgke,b1,b2,tq1,tq2,hb0,b3,ww];(repeat' (first | refine hK _ _ ?_ | refine And.intro ?_ ?_ | (intro hc;try subst hc)))<;>(try clear hK K))
               | (refine zJ (b:=_) (by with_unfolding_all rfl) (fun hc=>?_) (fun hc=>?_)<;>simp at hc<;>(try subst hc)))
              all_goals refine ⟨k+1,hkn,Nat.sub_lt_sub_left hkn (Nat.lt_succ_self k),?_⟩
              all_goals simp only[JG,hst1,stL,qC]
              all_goals rw[hS]
              all_goals (refine Imp.auto (by kernel_rfl) ?_ ?_<;>simp[NLe,mkPlX,hTe,hCe,hTS,hCS,hTT,hCT,hAL,hAT,hAC,b1])
             ·have hq0:=hM (by rw[ba,bb];exact idl_ofx (by omega) (by omega) (by omega) (by omega) (by omega) b3) b1 b2
              rw[hq0]at h18
              repeat' with_reducible (first
               | refine ZR.h ?_ | refine zI (by decide) ?_
               | ((first | refine zK hE ?_ | refine zL hE mixT ?_);intro K hK;simp[KR.ks,KD.ks,KD.cl,ELd,q8_0,q8_1,q8_2,q8_3,q8_4,q8_5,q8_6,q8_7,q8_8,q8_9,q8_10,q8_11,q8_12,q8_13,q8_14,q8_15,q8_16,q8_17,q8_18,q8_19,q8_20,q8_21,q8_22,q8_23,q8_24,q8_25,q8_26,q8_27,q8_28,q8_29,q8_30,q8_31,q8_32,q8_33,q8_34,q8_35,q8_36,q8_37,q8_38,q8_39,q8_40,q8_41,q8_42,q8_43,q8_44,hTe,hCe,hTS,hCS,hTT,hCT,hAL,hAT,hAC,hkI,hgk,hgke,b1,b2,tq1,tq2,hb0,b3,h18,hTi',hTie,hTil,hTk',hTke,hTkl,ww];(repeat' (first | refine hK _ _ ?_ | refine And.intro ?_ ?_ | (intro hc;try subst hc)))<;>(try clear hK K))
               | (refine zJ (b:=_) (by with_unfolding_all rfl) (fun hc=>?_) (fun hc=>?_)<;>simp at hc<;>(try subst hc)))
              all_goals refine ⟨k+1,hkn,Nat.sub_lt_sub_left hkn (Nat.lt_succ_self k),?_⟩
              all_goals simp only[JG,hst1,stL,qC]
              all_goals rw[hS]
              all_goals (refine Imp.auto (by kernel_rfl) ?_ ?_<;>simp[NLe,mkPlX,hTe,hCe,hTS,hCS,hTT,hCT,hAL,hAT,hAC,b1])
            ·have hke:k=m+1:=by omega
             subst hke
             have hkI:¬ ((m:Int)+1<(m:Int)+1):=by omega
             simp only[JG,hst1,stL,qC]
             repeat' with_reducible (first
              | refine ZR.h ?_ | refine zI (by decide) ?_
              | ((first | refine zK hE ?_ | refine zL hE mixT ?_);intro K hK;simp[KR.ks,KD.ks,KD.cl,ELd,q8_0,q8_1,q8_2,q8_3,q8_4,q8_5,q8_6,q8_7,q8_8,q8_9,q8_10,q8_11,q8_12,q8_13,q8_14,q8_15,q8_16,q8_17,q8_18,q8_19,q8_20,q8_21,q8_22,q8_23,q8_24,q8_25,q8_26,q8_27,q8_28,q8_29,q8_30,q8_31,q8_32,q8_33,q8_34,q8_35,q8_36,q8_37,q8_38,q8_39,q8_40,q8_41,q8_42,q8_43,q8_44,hTe,hCe,hTS,hCS,hTT,hCT,hAL,hAT,hAC,hkI,wi];(repeat' (first | refine hK _ _ ?_ | refine And.intro ?_ ?_ | (intro hc;try subst hc)))<;>(try clear hK K))
              | (refine zJ (b:=_) (by with_unfolding_all rfl) (fun hc=>?_) (fun hc=>?_)<;>simp at hc<;>(try subst hc)))
             all_goals refine ⟨i+1,hin3,Nat.sub_lt_sub_left hin3 (Nat.lt_succ_self i),?_⟩
             all_goals simp only[JF,qC]
             all_goals rw[hS]
             all_goals (refine Imp.auto (by kernel_rfl) ?_ ?_<;>simp[NLe,mkPlX,hTe,hCe,hTS,hCS,hTT,hCT,hAL,hAT,hAC])
          ·have hie:i=m+1:=by omega
           subst hie
           have hiI:¬ ((m:Int)+1<(m:Int)+1):=by omega
           simp only[JF,qC]
           repeat' with_reducible (first
            | refine ZR.h ?_ | refine zI (by decide) ?_
            | ((first | refine zK hE ?_ | refine zL hE mixT ?_);intro K hK;simp[KR.ks,KD.ks,KD.cl,ELd,q8_0,q8_1,q8_2,q8_3,q8_4,q8_5,q8_6,q8_7,q8_8,q8_9,q8_10,q8_11,q8_12,q8_13,q8_14,q8_15,q8_16,q8_17,q8_18,q8_19,q8_20,q8_21,q8_22,q8_23,q8_24,q8_25,q8_26,q8_27,q8_28,q8_29,q8_30,q8_31,q8_32,q8_33,q8_34,q8_35,q8_36,q8_37,q8_38,q8_39,q8_40,q8_41,q8_42,q8_43,q8_44,hTe,hCe,hTS,hCS,hTT,hCT,hAL,hAT,hAC,hiI,d28];(repeat' (first | refine hK _ _ ?_ | refine And.intro ?_ ?_ | (intro hc;try subst hc)))<;>(try clear hK K))
            | (refine zJ (b:=_) (by with_unfolding_all rfl) (fun hc=>?_) (fun hc=>?_)<;>simp at hc<;>(try subst hc)))
           all_goals first|(simp;done)|(simp at *;omega)|((try simp);refine Imp.auto (by kernel_rfl) ?_ ?_<;>simp[NLe,mkPlX])
  ·cases h
 ·cases h
end Go.W

