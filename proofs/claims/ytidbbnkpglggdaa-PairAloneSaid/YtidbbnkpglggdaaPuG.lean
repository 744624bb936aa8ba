/- A part of the proofs about the pair's laws (PuG). -/
import Derived.Test.YtidbbnkpglggdaaPuF
import Derived.Test.YtidbbnkpglggdaaPuA
import Derived.Test.YtidbbnkpglggdaaPqE
namespace Go.W
open Go.Proofs
set_option linter.unusedSimpArgs false
set_option linter.unusedVariables false
set_option maxHeartbeats 8000000
attribute [local irreducible] Wm
attribute [local simp] nmap lkp mkPl prs prsL prT ddL idL CRenL CRen Ren RenL NObj.none CRenLL
def parW (W : WZ) : Int × Int × Int × Int × Int × Int × Int × Int:=(W.a,W.b,W.c,W.d,W.e,W.f,W.g,W.t)
theorem turn_par (W : WZ) (x old : Int) (s : StZ) : parW (turnW W x old s).2 = parW W:=by
 unfold turnW
 split
 ·rfl
 ·split<;>rfl
theorem note_par (W : WZ) (x g n : Int) (r : RcZ) : parW (noteW W x g n r) = parW W:=by
 unfold noteW
 split
 ·rfl
 ·split
  ·rfl
  ·split<;>rfl
theorem tell_par (W : WZ) (k c g o w q p e : Int) : parW (tellW W k c g o w q p e) = parW W:=rfl
theorem hold_par (W : WZ) (T : TZ) : parW (holdT W T).2 = parW W:=by
 unfold holdT
 split
 ·exact turn_par _ _ _ _
 ·rfl
theorem look_par (W : WZ) (T : TZ) : parW (lookT W T).2 = parW W:=by
 unfold lookT
 split<;>rfl
theorem take_par (W : WZ) (T : TZ) : parW (takeT W T).2 = parW W:=by
 unfold takeT
 repeat' split
 ·exact turn_par _ _ _ _
 ·exact turn_par _ _ _ _
 ·rfl
 ·rfl
theorem let_par (W : WZ) (T : TZ) : parW (letT W T).2 = parW W:=by
 unfold letT
 split
 ·split
  ·split
   ·simp only
    split
    ·exact turn_par _ _ _ _
    ·exact turn_par _ _ _ _
   ·exact turn_par _ _ _ _
  ·rfl
 ·rfl
theorem noteT_par (W : WZ) (T : TZ) : parW (noteT W T) = parW W:=by
 unfold noteT
 repeat' split
 all_goals first|exact note_par _ _ _ _ _|rfl
theorem step_par (W : WZ) (T : TZ) : parW (stepT W T).2 = parW W:=by
 unfold stepT
 repeat' split
 all_goals first|exact hold_par W T|exact take_par W T|exact look_par W T|exact let_par W T|exact noteT_par W T|rfl
theorem Step_par (W : WZ) (T : TZ) : parW (StepT W T).2 = parW W:=by
 unfold StepT
 split
 ·rfl
 ·split
  ·rfl
  ·exact step_par W T
theorem run_par (W : WZ) (T : TZ) : ∀ k,parW (runT W T k).2 = parW W
 | 0=>rfl
 | k + 1=>(Step_par _ _).trans (run_par W T k)
theorem idl_of {a b x y : Int} (hx0 : 0≤x) (hx : x < a * b) (hy0 : 0≤y) (hy : y < a * b) (hb : 1≤b) (h : ¬ x / b = y / b) : idl a b x y = false:=by
 have h1:=Int.ediv_nonneg hx0 (show 0≤b by omega)
 have h2:=Int.ediv_nonneg hy0 (show 0≤b by omega)
 refine decide_eq_false ?_
 unfold ownZ
 rw[if_neg (by omega),if_pos hx,if_neg (by omega),if_pos hy]
 omega
section
variable (E : FuncId→Option Spec) (nb : Nat) (r : List MO) (i : Nat) (tl : TL) (hl : HL) (lg : LG) (dst : Option Nat)
theorem skS (v : AV) (hs : List (Nat × NObj)) (rd : List Nat) : stepK E nb r i tl hl lg dst (some ⟨v,hs,rd⟩) = evOps E nb r (i + 1) (putL tl dst v) (updH hl hs) (lg ++ [(i,hs.map (·.1),rd)]):=by simp only[stepK]
theorem skT (op : MOp) (s : Nat) : gdK E nb r i tl hl lg dst op s true (.bool true) = stepK E nb r i ((s,.bool true) :: tl) hl lg dst (stepN E (lk ((s,.bool true) :: tl)) (hk hl) (nb + 8 * i) op):=by simp[gdK]
theorem skF (op : MOp) (s : Nat) : gdK E nb r i tl hl lg dst op s false (.bool false) = stepK E nb r i ((s,.bool false) :: tl) hl lg dst (stepN E (lk ((s,.bool false) :: tl)) (hk hl) (nb + 8 * i) op):=by simp[gdK]
theorem skU (op : MOp) (s : Nat) : gdK E nb r i tl hl lg dst op s true (.bool false) = evOps E nb r (i + 1) (putL ((s,.bool false) :: tl) dst (.raw undef)) hl (lg ++ [(i,[],[])]):=by simp[gdK]
theorem skV (op : MOp) (s : Nat) : gdK E nb r i tl hl lg dst op s false (.bool true) = evOps E nb r (i + 1) (putL ((s,.bool true) :: tl) dst (.raw undef)) hl (lg ++ [(i,[],[])]):=by simp[gdK]
end
attribute [local simp high] skS skT skF skU skV
def ELa : List (FuncId × Spec):=[(9,nestS [(10,false)] d9 ok9),(10,nestS [] d10 ok10),(11,nestS [] d11 ok11),(12,nestS [(35,true),(10,true)] d12 ok12),(14,nestS [(10,true)] d14 ok14),(15,nestS [(35,false)] d15 ok15),(16,rdS d16 ok16),(17,rdS d17 ok17),(18,rdS d18 ok18),(19,nestS [(7,true)] d19 ok19),(20,rdS d20 ok20),(21,rdS d21 ok21)]
theorem ELa_ok : SoundAll Try.prog (EL ELa):=EL_sound (by
 simp only[ELa,List.mem_cons,List.not_mem_nil,or_false,forall_eq_or_imp,forall_eq]
 exact ⟨s9,s10,s11,s12,s14,s15,s16,s17,s18,s19,s20,s21⟩)
def d4 : List AV→List NObj→Option AV
 | [.agg [.int .i64 a,.int .i64 b,.int .i64 c,.int .i64 d,.int .i64 e,.int .i64 f,.int .i64 g],.sl (.top 0) 0 n,.int .i64 x,.int .i64 y,.int .i64 sh],[.view 0 10 els]=>if n = els.length∧els.all ordB = true then some (.bool true) else none
 | _,_=>none
def I4 (els : List (List AV)) (a b c d e f g x y sh : Int) (SS TT : List (List AV)) (T : TZ) (W : WZ) (k : Nat) : St:=⟨[(2,.int .i64 x),(3,.int .i64 y),(4,.int .i64 sh),(5,.ptr (.top 1) 0 0),(11,.ptr (.top 2) 0 0),(12,.ptr (.top 3) 0 0),(14,.ptr (.top 4) 0 0),(82,.int .i64 k)],[(0,.view 0 10 els),(1,.cells 0 [.int .i64 a,.int .i64 b,.int .i64 c,.int .i64 d,.int .i64 e,.int .i64 f,.int .i64 g]),(2,.cells 0 (wzC W)),(3,.cells 0 (qC a b c d e f g SS TT)),(4,.cells 0 (tzC T))],5⟩
theorem ok4 : ROk d4:=by
 intro xs os r h
 unfold d4 at h
 (repeat' (split at h))<;>first|(cases h;done)|(injection h with h;subst h;simp)
set_option maxRecDepth 20000 in
theorem s4 : Sound Try.prog 4 (rdS d4 ok4):=by
 refine rd_sound Try.func4 nm4 rc4 rv4 ok4 fun xs os r h vs ρ0 hvs=>⟨xs,?_,fun _ h=>h,fun w0 S hS=>?_⟩
 ·unfold d4 at h
  (repeat' (split at h))<;>first|(cases h;done)|exact Nat.le_of_ble_eq_true rfl
 unfold d4 at h
 split at h
 ·split at h
  ·rename_i a b c d e f g nn x y sh els hcond
   injection h with h
   subst h
   obtain ⟨rfl,hob⟩:=hcond
   have hE:=ELa_ok
   have hTe:=ord_t0 hob
   have hCe:=ord_cl hob
   have h9 : ∀ u,d9 [.agg [.int .i64 a,.int .i64 b,.int .i64 c,.int .i64 d,.int .i64 e,.int .i64 f,.int .i64 g],.os u 10 els] = some ⟨if cfgB a b c d e f g = true then bothA a b c d e f g els else .tup [.raw (.pointer none),.raw (.pointer none),.bool false],[.free]⟩:=fun u=>by
    simp only[d9];rw[if_pos hob]
   obtain ⟨ba,hba⟩ : ∃ z,(if cfgB a b c d e f g = true then bothA a b c d e f g els else .tup [.raw (.pointer none),.raw (.pointer none),.bool false]) = z:=⟨_,rfl⟩
   rw[hba]at h9
   by_cases hok : cfgB a b c d e f g = true∧bothZ a b c d e f g els els.length ≠ none
   case neg =>
    have hnil : ba = .tup [.raw (.pointer none),.raw (.pointer none),.bool false]:=by
     rw[← hba]
     by_cases hcf : cfgB a b c d e f g = true
     ·rw[if_pos hcf]
      have : bothZ a b c d e f g els els.length = none:=by
       cases hz : bothZ a b c d e f g els els.length with
       | none=>rfl
       | some p=>exact absurd ⟨hcf,by rw[hz];simp⟩ hok
      simp only[bothA,this]
     ·rw[if_neg hcf]
    rw[hnil]at h9
    unfold m4
    repeat' with_reducible (first
     | refine ZR.h ?_ | refine zI (by decide) ?_
     | ((first | refine zK hE ?_ | refine zL hE mixT ?_);intro K hK;simp[KR.ks,KD.ks,KD.cl,ELa,q4_0,q4_1,q4_2,q4_3,q4_4,q4_5,q4_6,q4_7,q4_8,q4_9,q4_10,q4_11,q4_12,q4_13,q4_14,q4_15,q4_16,q4_17,q4_18,q4_19,q4_20,q4_21,q4_22,q4_23,q4_24,hTe,hCe,h9,d10];(repeat' (first | refine hK _ _ ?_ | refine And.intro ?_ ?_ | (intro hc;try subst hc)))<;>(try clear hK K))
     | (refine zJ (b:=_) (by with_unfolding_all rfl) (fun hc=>?_) (fun hc=>?_)<;>simp at hc<;>(try subst hc)))
    all_goals first|(simp;done)|(simp at *;omega)|((try simp);refine Imp.auto (by kernel_rfl) ?_ ?_<;>simp[NLe,mkPlX])
   obtain ⟨hcf,hnn⟩:=hok
   obtain ⟨ws,SS,TT,hz⟩ : ∃ ws S T,bothZ a b c d e f g els els.length = some (ws,S,T):=by
    cases hz : bothZ a b c d e f g els els.length with
    | none=>exact absurd hz hnn
    | some p=>exact ⟨_,_,_,rfl⟩
   obtain ⟨hW0,hWs,hel⟩:=both_W hcf hob hz
   obtain ⟨_,_,_,⟨hSlen,hTS,hCS,_⟩,⟨hTlen,hTT,hCT,_⟩⟩:=both_inv hcf hob _ _ _ _ (Nat.le_refl _) hz
   have hcell:=both_cell hcf hob _ _ _ _ (Nat.le_refl _) hz
   have hbe : ba = .tup [.op 0 (wzC (bW a b c d e f g els ws)),.op 0 (qC a b c d e f g SS TT),.bool true]:=by
    rw[← hba,if_pos hcf];simp only[bothA,hz];rfl
   rw[hbe]at h9
   have hcfg:=hcf
   have hall:=cfg_all hcf
   have hcx:=cfg_ex hcf
   have hSl : (SS.length : Int) = a * b:=by rw[hSlen];omega
   obtain ⟨A0,hA0⟩ : ∃ z,bW a b c d e f g els ws = z:=⟨_,rfl⟩
   have hAp : A0.a = a∧A0.b = b∧A0.c = c∧A0.d = d∧A0.e = e∧A0.f = f∧A0.g = g∧A0.t = 0∧A0.ws = ws∧A0.lg = []:=by rw[← hA0];exact ⟨rfl,rfl,rfl,rfl,rfl,rfl,rfl,rfl,rfl,rfl⟩
   obtain ⟨qa,qb,qc,qd,qe,qf,qg,qt,qw,ql⟩:=hAp
   rw[hA0]at h9 hW0 hWs
   obtain ⟨hcfA,hwA,hwlA,hs0A,ht0A,ht1A,hlgA⟩:=okW_ex (hW0)
   have hTA:=w_t0 hwA
   have hCA:=w_cl hwA
   have hTlA:=l_t0 hlgA
   have hClA:=l_cl hlgA
   clear hba hbe hnn hcfA hwA hwlA hs0A ht0A ht1A hlgA hA0
   simp only[wzC,qC]at h9
   by_cases c1 : x < 0
   ·unfold m4
    repeat' with_reducible (first
     | refine ZR.h ?_ | refine zI (by decide) ?_
     | ((first | refine zK hE ?_ | refine zL hE mixT ?_);intro K hK;simp[KR.ks,KD.ks,KD.cl,ELa,q4_0,q4_1,q4_2,q4_3,q4_4,q4_5,q4_6,q4_7,q4_8,q4_9,q4_10,q4_11,q4_12,q4_13,q4_14,q4_15,q4_16,q4_17,q4_18,q4_19,q4_20,q4_21,q4_22,q4_23,q4_24,h9,hTe,hCe,hTA,hCA,hTlA,hClA,hTS,hCS,hTT,hCT,hSl,c1,d10];(repeat' (first | refine hK _ _ ?_ | refine And.intro ?_ ?_ | (intro hc;try subst hc)))<;>(try clear hK K))
     | (refine zJ (b:=_) (by with_unfolding_all rfl) (fun hc=>?_) (fun hc=>?_)<;>simp at hc<;>(try subst hc)))
    all_goals first|(simp;done)|(simp at *;omega)|((try simp);refine Imp.auto (by kernel_rfl) ?_ ?_<;>simp[NLe,mkPlX])
   by_cases c2 : y < 0
   ·unfold m4
    repeat' with_reducible (first
     | refine ZR.h ?_ | refine zI (by decide) ?_
     | ((first | refine zK hE ?_ | refine zL hE mixT ?_);intro K hK;simp[KR.ks,KD.ks,KD.cl,ELa,q4_0,q4_1,q4_2,q4_3,q4_4,q4_5,q4_6,q4_7,q4_8,q4_9,q4_10,q4_11,q4_12,q4_13,q4_14,q4_15,q4_16,q4_17,q4_18,q4_19,q4_20,q4_21,q4_22,q4_23,q4_24,h9,hTe,hCe,hTA,hCA,hTlA,hClA,hTS,hCS,hTT,hCT,hSl,c1,c2,d10];(repeat' (first | refine hK _ _ ?_ | refine And.intro ?_ ?_ | (intro hc;try subst hc)))<;>(try clear hK K))
     | (refine zJ (b:=_) (by with_unfolding_all rfl) (fun hc=>?_) (fun hc=>?_)<;>simp at hc<;>(try subst hc)))
    all_goals first|(simp;done)|(simp at *;omega)|((try simp);refine Imp.auto (by kernel_rfl) ?_ ?_<;>simp[NLe,mkPlX])
   by_cases c3 : a * b≤x
   ·unfold m4
    repeat' with_reducible (first
     | refine ZR.h ?_ | refine zI (by decide) ?_
     | ((first | refine zK hE ?_ | refine zL hE mixT ?_);intro K hK;simp[KR.ks,KD.ks,KD.cl,ELa,q4_0,q4_1,q4_2,q4_3,q4_4,q4_5,q4_6,q4_7,q4_8,q4_9,q4_10,q4_11,q4_12,q4_13,q4_14,q4_15,q4_16,q4_17,q4_18,q4_19,q4_20,q4_21,q4_22,q4_23,q4_24,h9,hTe,hCe,hTA,hCA,hTlA,hClA,hTS,hCS,hTT,hCT,hSl,c1,c2,c3,d10];(repeat' (first | refine hK _ _ ?_ | refine And.intro ?_ ?_ | (intro hc;try subst hc)))<;>(try clear hK K))
     | (refine zJ (b:=_) (by with_unfolding_all rfl) (fun hc=>?_) (fun hc=>?_)<;>simp at hc<;>(try subst hc)))
    all_goals first|(simp;done)|(simp at *;omega)|((try simp);refine Imp.auto (by kernel_rfl) ?_ ?_<;>simp[NLe,mkPlX])
   by_cases c4 : a * b≤y
   ·unfold m4
    repeat' with_reducible (first
     | refine ZR.h ?_ | refine zI (by decide) ?_
     | ((first | refine zK hE ?_ | refine zL hE mixT ?_);intro K hK;simp[KR.ks,KD.ks,KD.cl,ELa,q4_0,q4_1,q4_2,q4_3,q4_4,q4_5,q4_6,q4_7,q4_8,q4_9,q4_10,q4_11,q4_12,q4_13,q4_14,q4_15,q4_16,q4_17,q4_18,q4_19,q4_20,q4_21,q4_22,q4_23,q4_24,h9,hTe,hCe,hTA,hCA,hTlA,hClA,hTS,hCS,hTT,hCT,hSl,c1,c2,c3,c4,d10];(repeat' (first | refine hK _ _ ?_ | refine And.intro ?_ ?_ | (intro hc;try subst hc)))<;>(try clear hK K))
     | (refine zJ (b:=_) (by with_unfolding_all rfl) (fun hc=>?_) (fun hc=>?_)<;>simp at hc<;>(try subst hc)))
    all_goals first|(simp;done)|(simp at *;omega)|((try simp);refine Imp.auto (by kernel_rfl) ?_ ?_<;>simp[NLe,mkPlX])
   have tq1 : IntKind.wrap .i64 (x.tdiv b) = x / b:=tdiv_in (by omega) (by omega) (by omega)
   have tq2 : IntKind.wrap .i64 (y.tdiv b) = y / b:=tdiv_in (by omega) (by omega) (by omega)
   have hb0 : ¬ b = 0:=by omega
   by_cases c5 : x / b = y / b
   ·unfold m4
    repeat' with_reducible (first
     | refine ZR.h ?_ | refine zI (by decide) ?_
     | ((first | refine zK hE ?_ | refine zL hE mixT ?_);intro K hK;simp[KR.ks,KD.ks,KD.cl,ELa,q4_0,q4_1,q4_2,q4_3,q4_4,q4_5,q4_6,q4_7,q4_8,q4_9,q4_10,q4_11,q4_12,q4_13,q4_14,q4_15,q4_16,q4_17,q4_18,q4_19,q4_20,q4_21,q4_22,q4_23,q4_24,h9,hTe,hCe,hTA,hCA,hTlA,hClA,hTS,hCS,hTT,hCT,hSl,c1,c2,c3,c4,hb0,tq1,tq2,c5,d10];(repeat' (first | refine hK _ _ ?_ | refine And.intro ?_ ?_ | (intro hc;try subst hc)))<;>(try clear hK K))
     | (refine zJ (b:=_) (by with_unfolding_all rfl) (fun hc=>?_) (fun hc=>?_)<;>simp at hc<;>(try subst hc)))
    all_goals first|(simp;done)|(simp at *;omega)|((try simp);refine Imp.auto (by kernel_rfl) ?_ ?_<;>simp[NLe,mkPlX])
   have hi:=idl_of (show 0≤x by omega) (show x < a * b by omega) (show 0≤y by omega) (show y < a * b by omega) (show 1≤b by omega) c5
   obtain ⟨T0,hT0⟩ : ∃ z,tz0 3 x 0 y sh = z:=⟨_,rfl⟩
   have h11 : d11 [.agg [.int .i64 3,.int .i64 x,.int .i64 0,.int .i64 y,.int .i64 sh]] = some ⟨.op 0 (tzC T0),[]⟩:=by rw[← hT0];rfl
   have hT0k : okT T0 = true:=by rw[← hT0];exact tz0_ok _ _ _ _ _
   have hrun:=run_ok hT0k hW0
   have hlg0A : A0.lg.length = 0:=by rw[ql];rfl
   simp only[tzC]at h11
   unfold m4
   repeat' with_reducible (first
    | refine ZR.h ?_ | refine zI (by decide) ?_
    | ((first | refine zK hE ?_ | refine zL hE mixT ?_);intro K hK;simp[KR.ks,KD.ks,KD.cl,ELa,q4_0,q4_1,q4_2,q4_3,q4_4,q4_5,q4_6,q4_7,q4_8,q4_9,q4_10,q4_11,q4_12,q4_13,q4_14,q4_15,q4_16,q4_17,q4_18,q4_19,q4_20,q4_21,q4_22,q4_23,q4_24,h9,h11,hTe,hCe,hTA,hCA,hTlA,hClA,hTS,hCS,hTT,hCT,hSl,c1,c2,c3,c4,hb0,tq1,tq2,c5];(repeat' (first | refine hK _ _ ?_ | refine And.intro ?_ ?_ | (intro hc;try subst hc)))<;>(try clear hK K))
    | (refine zJ (b:=_) (by with_unfolding_all rfl) (fun hc=>?_) (fun hc=>?_)<;>simp at hc<;>(try subst hc)))
   all_goals (refine Wm_loop (fun k=>I4 els a b c d e f g x y sh SS TT (runT A0 T0 k).1 (runT A0 T0 k).2 k) (fun k=>k≤14) (fun k=>14 - k) 0 (Nat.zero_le _) ?_ ?_)
   ·simp only[I4,runT,wzC,tzC,qC]
    rw[hS]
    refine Imp.auto (by kernel_rfl) ?_ ?_<;>simp[NLe,mkPlX,hTe,hCe,hTA,hCA,hTlA,hClA,hTS,hCS,hTT,hCT]
   ·clear h9 h11
    intro k hk
    replace hk : k≤14:=hk
    obtain ⟨kT,kW,ks,kl⟩:=hrun k
    have hsm : smW (runT A0 T0 k).2 = true:=decide_eq_true (by omega)
    by_cases hk14 : k < 14
    ·have hst:=e12 kT kW hsm
     have kW2:=(hrun (k + 1)).2.1
     rw[← runT_add]at hst
     obtain ⟨r,hr⟩ : ∃ r,runT A0 T0 k = r:=⟨_,rfl⟩
     obtain ⟨r2,hr2⟩ : ∃ r,runT A0 T0 (k + 1) = r:=⟨_,rfl⟩
     rw[hr]at kT kW hst
     rw[hr2]at hst kW2
     rw[hr]
     obtain ⟨hcf,hw,hwl,hs0,ht0,ht1,hlg⟩:=okW_ex (kW)
     have hT:=w_t0 hw
     have hC:=w_cl hw
     have hTl:=l_t0 hlg
     have hCl:=l_cl hlg
     obtain ⟨hcf2,hw2,hwl2,hs02,ht02,ht12,hlg2⟩:=okW_ex (kW2)
     have hT2:=w_t0 hw2
     have hC2:=w_cl hw2
     have hTl2:=l_t0 hlg2
     have hCl2:=l_cl hlg2
     have hkI : (k : Int) < 14:=by omega
     have ww : IntKind.wrap .i64 ((k : Int) + 1) = (k : Int) + 1:=wrap_in (by omega) (by omega)
     simp only[I4,tzC,wzC,wzL,qC]at hst ⊢
     repeat' with_reducible (first
      | refine ZR.h ?_ | refine zI (by decide) ?_
      | ((first | refine zK hE ?_ | refine zL hE mixT ?_);intro K hK;simp[KR.ks,KD.ks,KD.cl,ELa,q4_0,q4_1,q4_2,q4_3,q4_4,q4_5,q4_6,q4_7,q4_8,q4_9,q4_10,q4_11,q4_12,q4_13,q4_14,q4_15,q4_16,q4_17,q4_18,q4_19,q4_20,q4_21,q4_22,q4_23,q4_24,hTe,hCe,hT,hC,hTl,hCl,hT2,hC2,hTl2,hCl2,hTS,hCS,hTT,hCT,hkI,hst,ww];(repeat' (first | refine hK _ _ ?_ | refine And.intro ?_ ?_ | (intro hc;try subst hc)))<;>(try clear hK K))
      | (refine zJ (b:=_) (by with_unfolding_all rfl) (fun hc=>?_) (fun hc=>?_)<;>simp at hc<;>(try subst hc)))
     all_goals refine ⟨k + 1,hk14,Nat.sub_lt_sub_left hk14 (Nat.lt_succ_self k),?_⟩
     all_goals simp only[hr2]
     all_goals (try simp only[I4,tzC,wzC,qC])
     all_goals rw[hS]
     all_goals (refine Imp.auto (by kernel_rfl) ?_ ?_<;>simp[NLe,mkPlX,hTe,hCe,hT,hC,hTl,hCl,hT2,hC2,hTl2,hCl2,hTS,hCS,hTT,hCT])
    ·have hke : k = 14:=by omega
     subst hke
     have hkI : ¬ (((14 : Nat) : Int) < 14):=by omega
     obtain ⟨X,rfl⟩:=Int.eq_ofNat_of_zero_le (show 0≤x by omega)
     obtain ⟨Y,rfl⟩:=Int.eq_ofNat_of_zero_le (show 0≤y by omega)
     obtain ⟨p1,p2,p3⟩:=hcell X (by omega)
     obtain ⟨p4,p5,p6⟩:=hcell Y (by omega)
     have hX2 : sAt A0 (X : Int) = wAt ws (2 * X):=by unfold sAt;rw[qw,show (2 * (X : Int)).toNat = 2 * X by omega]
     have hY2 : sAt A0 (Y : Int) = wAt ws (2 * Y):=by unfold sAt;rw[qw,show (2 * (Y : Int)).toNat = 2 * Y by omega]
     have hX3 : tAt A0 (X : Int) = wAt ws (2 * X + 1):=by unfold tAt;rw[qw,show (2 * (X : Int) + 1).toNat = 2 * X + 1 by omega]
     have hY3 : tAt A0 (Y : Int) = wAt ws (2 * Y + 1):=by unfold tAt;rw[qw,show (2 * (Y : Int) + 1).toNat = 2 * Y + 1 by omega]
     rw[← hX2]at p1 p3
     rw[← hY2]at p4 p6
     rw[← hX3]at p2
     rw[← hY3]at p5
     have hiA : idl A0.a A0.b (X : Int) (Y : Int) = false:=by rw[qa,qb];exact hi
     have hNN:=fun hm=>alone_n (sh:=sh) hW0 hiA (by omega) (by rw[qa,qb];omega) (by omega) (by rw[qa,qb];omega) (by rw[qf,qg];exact p3) hm
     have hMM:=fun q p hm hq=>alone_m (sh:=sh) (q:=q) (p:=p) hW0 hiA (by omega) (by rw[qa,qb];omega) (by omega) (by rw[qa,qb];omega) (by rw[qf,qg];exact p3) (by rw[qf,qg];exact p6) hm hq
     have tpx:=getT_pr (tAt A0 (X : Int))
     have tpy:=getT_pr (tAt A0 (Y : Int))
     have hsr:=stR (sAt A0 (X : Int))
     have hsr2:=stR (sAt A0 (Y : Int))
     rw[hT0,qc,qd]at hNN hMM
     rw[qa,qb,qf,qg,qt]at hMM
     rw[ql]at hNN hMM
     have hpar:=run_par A0 T0 14
     have hlo:=smW_lo hsm
     have hsq:=smW_ex hsm
     obtain ⟨⟨T,W⟩,hr⟩ : ∃ r,runT A0 T0 14 = r:=⟨_,rfl⟩
     rw[hr]at kT kW hpar hNN hMM hlo hsm hsq ks kl
     rw[hr]
     simp only[parW,Prod.mk.injEq,qa,qb,qc,qd,qe,qf,qg,qt]at hpar kW hlo hsm hsq ks kl kT
     obtain ⟨wa,wb,wc,wd,we,wf,wg,wt⟩:=hpar
     have h14a:=e14 kW hlo (x:=(X : Int)) (by omega) (by rw[wa,wb];omega)
     have kW1:=tick_ok kW
     have hlo1 : loW (tickW W) = true:=decide_eq_true (by simp only[tickW];omega)
     have h14b:=e14 kW1 hlo1 (x:=(Y : Int)) (by omega) (by simp only[tickW];rw[wa,wb];omega)
     rw[sAt_tick]at h14b
     have h15 : ∀ u,d15 [.op u (tzC T)] = some ⟨.bool T.made,[.free]⟩:=fun u=>by simp only[d15,tzOf_C]
     have hXl : X < SS.length:=by omega
     have hYl : Y < SS.length:=by omega
     have hXt : X < TT.length:=by rw[hTlen];omega
     have hYt : Y < TT.length:=by rw[hTlen];omega
     obtain ⟨hcf,hw,hwl,hs0,ht0,ht1,hlg⟩:=okW_ex (kW)
     have hT:=w_t0 hw
     have hC:=w_cl hw
     have hTl:=l_t0 hlg
     have hCl:=l_cl hlg
     obtain ⟨⟨k1,f1,g1,l1,n1⟩,hsx⟩ : ∃ s,stateZ (sAt A0 (X : Int)) = s:=⟨_,rfl⟩
     obtain ⟨⟨k2,f2,g2,l2,n2⟩,hsy⟩ : ∃ s,stateZ (sAt A0 (Y : Int)) = s:=⟨_,rfl⟩
     obtain ⟨⟨m1,d1,r1,e1,u1⟩,htx⟩ : ∃ t,termsZ (tAt A0 (X : Int)) = t:=⟨_,rfl⟩
     obtain ⟨⟨m2,d2,r2,e2,u2⟩,hty⟩ : ∃ t,termsZ (tAt A0 (Y : Int)) = t:=⟨_,rfl⟩
     rw[hsx]at p1 p3 hNN hMM hsr
     rw[hsy]at p4 p6 hNN hMM hsr2
     rw[htx]at p2 hNN hMM tpx
     rw[hty]at p5 hNN hMM tpy
     simp only[stL,tmC]at p1 p2 p4 p5 tpx tpy hsr hsr2 hMM
     have hSX:=p1;have hSY:=p4;have hTX:=p2;have hTY:=p5
     have gt : ∀ {L : List (List AV)} {i : Nat} {r : List AV},L[i]? = some r→∀ h : i < L.length,L[i] = r:=fun hg h=>by
      rw[List.getElem?_eq_getElem h]at hg;exact Option.some.inj hg
     have hSXe:=gt p1;have hSYe:=gt p4;have hTXe:=gt p2;have hTYe:=gt p5
     have h17 : d17 [.agg [.int .i64 a,.int .i64 b,.int .i64 c,.int .i64 d,.int .i64 e,.int .i64 f,.int .i64 g],.agg [.int .i64 m1,.int .i64 d1,.int .i64 r1,.int .i64 e1,.int .i64 u1]] [] = some (.int .i64 (shardZ c d m1 (bandZ d r1))):=by simp only[d17];rw[if_pos hcfg]
     have h18 : d18 [.agg [.int .i64 m1,.int .i64 d1,.int .i64 r1,.int .i64 e1,.int .i64 u1],.agg [.int .i64 m2,.int .i64 d2,.int .i64 r2,.int .i64 e2,.int .i64 u2],.int .i64 l1,.int .i64 l2] [] = some (.tup [.int .i64 (matchZ ⟨m1,d1,r1,e1,u1⟩ ⟨m2,d2,r2,e2,u2⟩ l1 l2).1,.int .i64 (matchZ ⟨m1,d1,r1,e1,u1⟩ ⟨m2,d2,r2,e2,u2⟩ l1 l2).2]):=by simp only[d18];rw[if_pos ⟨tpx.1,by omega,tpy.1,by omega⟩]
     obtain ⟨S1,hS1⟩ : ∃ z,shardZ c d m1 (bandZ d r1) = z:=⟨_,rfl⟩
     obtain ⟨⟨q,p⟩,hqp⟩ : ∃ z,matchZ ⟨m1,d1,r1,e1,u1⟩ ⟨m2,d2,r2,e2,u2⟩ l1 l2 = z:=⟨_,rfl⟩
     have hcome : comeZ c d sh ⟨k1,f1,g1,l1,n1⟩ ⟨k2,f2,g2,l2,n2⟩ ⟨m1,d1,r1,e1,u1⟩ ⟨m2,d2,r2,e2,u2⟩ = if (k1 = 2∧d1 = 0∧S1 = sh)∧k2 = 2 then (q,p) else (0,0):=by
      simp only[comeZ,wantZ,hS1,hqp,decide_eq_true_eq]
     rw[hcome]at hNN hMM
     rw[hS1]at h17
     rw[hqp]at h18
     clear hcell hcome hS1 hqp hrun hT0k hW0 p1 p2 p4 p5 hTA hCA hTlA hClA hX2 hY2 hX3 hY3
     by_cases hN : (if (k1 = 2∧d1 = 0∧S1 = sh)∧k2 = 2 then (q,p) else (0,0)).1 = 0
     ·obtain ⟨T',W',z1,z2,z3,z4,z5⟩:=hNN hN
      simp only[Prod.mk.injEq]at z1
      obtain ⟨rfl,rfl⟩:=z1
      rw[z3]at h14a
      rw[z4]at h14b
      rw[z2]at h15
      clear hNN hMM
      have hLn0 : W.lg.length = 0:=by rw[z5];rfl
      clear z5
      simp only[I4,tzC,wzC,wzL,qC,tickW,stA]at h14a h14b h15 ⊢
      by_cases b1 : k1 = 2
      case neg =>
       repeat' with_reducible (first
        | refine ZR.h ?_ | refine zI (by decide) ?_
        | ((first | refine zK hE ?_ | refine zL hE mixT ?_);intro K hK;simp[KR.ks,KD.ks,KD.cl,ELa,q4_0,q4_1,q4_2,q4_3,q4_4,q4_5,q4_6,q4_7,q4_8,q4_9,q4_10,q4_11,q4_12,q4_13,q4_14,q4_15,q4_16,q4_17,q4_18,q4_19,q4_20,q4_21,q4_22,q4_23,q4_24,hTe,hCe,hT,hC,hTl,hCl,hTS,hCS,hTT,hCT,hkI,hXl,hYl,hSX,hSY,hTX,hTY,hSXe,hSYe,hTXe,hTYe,h14a,h14b,h15,h17,hLn0,d10,b1];(repeat' (first | refine hK _ _ ?_ | refine And.intro ?_ ?_ | (intro hc;try subst hc)))<;>(try clear hK K))
        | (refine zJ (b:=_) (by with_unfolding_all rfl) (fun hc=>?_) (fun hc=>?_)<;>simp at hc<;>(try subst hc)))
       all_goals first|(simp;done)|(simp at *;omega)|((try simp);refine Imp.auto (by kernel_rfl) ?_ ?_<;>simp[NLe,mkPlX])
      by_cases b2 : k2 = 2
      case neg =>
       repeat' with_reducible (first
        | refine ZR.h ?_ | refine zI (by decide) ?_
        | ((first | refine zK hE ?_ | refine zL hE mixT ?_);intro K hK;simp[KR.ks,KD.ks,KD.cl,ELa,q4_0,q4_1,q4_2,q4_3,q4_4,q4_5,q4_6,q4_7,q4_8,q4_9,q4_10,q4_11,q4_12,q4_13,q4_14,q4_15,q4_16,q4_17,q4_18,q4_19,q4_20,q4_21,q4_22,q4_23,q4_24,hTe,hCe,hT,hC,hTl,hCl,hTS,hCS,hTT,hCT,hkI,hXl,hYl,hSX,hSY,hTX,hTY,hSXe,hSYe,hTXe,hTYe,h14a,h14b,h15,h17,hLn0,d10,b1,b2];(repeat' (first | refine hK _ _ ?_ | refine And.intro ?_ ?_ | (intro hc;try subst hc)))<;>(try clear hK K))
        | (refine zJ (b:=_) (by with_unfolding_all rfl) (fun hc=>?_) (fun hc=>?_)<;>simp at hc<;>(try subst hc)))
       all_goals first|(simp;done)|(simp at *;omega)|((try simp);refine Imp.auto (by kernel_rfl) ?_ ?_<;>simp[NLe,mkPlX])
      subst b1;subst b2
      by_cases b3 : d1 = 0
      case neg =>
       repeat' with_reducible (first
        | refine ZR.h ?_ | refine zI (by decide) ?_
        | ((first | refine zK hE ?_ | refine zL hE mixT ?_);intro K hK;simp[KR.ks,KD.ks,KD.cl,ELa,q4_0,q4_1,q4_2,q4_3,q4_4,q4_5,q4_6,q4_7,q4_8,q4_9,q4_10,q4_11,q4_12,q4_13,q4_14,q4_15,q4_16,q4_17,q4_18,q4_19,q4_20,q4_21,q4_22,q4_23,q4_24,hTe,hCe,hT,hC,hTl,hCl,hTS,hCS,hTT,hCT,hkI,hXl,hYl,hSX,hSY,hTX,hTY,hSXe,hSYe,hTXe,hTYe,h14a,h14b,h15,h17,hLn0,d10,b3,hXt];(repeat' (first | refine hK _ _ ?_ | refine And.intro ?_ ?_ | (intro hc;try subst hc)))<;>(try clear hK K))
        | (refine zJ (b:=_) (by with_unfolding_all rfl) (fun hc=>?_) (fun hc=>?_)<;>simp at hc<;>(try subst hc)))
       all_goals first|(simp;done)|(simp at *;omega)|((try simp);refine Imp.auto (by kernel_rfl) ?_ ?_<;>simp[NLe,mkPlX])
      subst b3
      by_cases b4 : S1 = sh
      case neg =>
       repeat' with_reducible (first
        | refine ZR.h ?_ | refine zI (by decide) ?_
        | ((first | refine zK hE ?_ | refine zL hE mixT ?_);intro K hK;simp[KR.ks,KD.ks,KD.cl,ELa,q4_0,q4_1,q4_2,q4_3,q4_4,q4_5,q4_6,q4_7,q4_8,q4_9,q4_10,q4_11,q4_12,q4_13,q4_14,q4_15,q4_16,q4_17,q4_18,q4_19,q4_20,q4_21,q4_22,q4_23,q4_24,hTe,hCe,hT,hC,hTl,hCl,hTS,hCS,hTT,hCT,hkI,hXl,hYl,hSX,hSY,hTX,hTY,hSXe,hSYe,hTXe,hTYe,h14a,h14b,h15,h17,hLn0,d10,b4,hXt];(repeat' (first | refine hK _ _ ?_ | refine And.intro ?_ ?_ | (intro hc;try subst hc)))<;>(try clear hK K))
        | (refine zJ (b:=_) (by with_unfolding_all rfl) (fun hc=>?_) (fun hc=>?_)<;>simp at hc<;>(try subst hc)))
       all_goals first|(simp;done)|(simp at *;omega)|((try simp);refine Imp.auto (by kernel_rfl) ?_ ?_<;>simp[NLe,mkPlX])
      have hq0 : q = 0:=by
       rw[if_pos ⟨⟨rfl,rfl,b4⟩,rfl⟩]at hN
       exact hN
      rw[hq0]at h18
      subst b4
      repeat' with_reducible (first
       | refine ZR.h ?_ | refine zI (by decide) ?_
       | ((first | refine zK hE ?_ | refine zL hE mixT ?_);intro K hK;simp[KR.ks,KD.ks,KD.cl,ELa,q4_0,q4_1,q4_2,q4_3,q4_4,q4_5,q4_6,q4_7,q4_8,q4_9,q4_10,q4_11,q4_12,q4_13,q4_14,q4_15,q4_16,q4_17,q4_18,q4_19,q4_20,q4_21,q4_22,q4_23,q4_24,hTe,hCe,hT,hC,hTl,hCl,hTS,hCS,hTT,hCT,hkI,hXl,hYl,hSX,hSY,hTX,hTY,hSXe,hSYe,hTXe,hTYe,h14a,h14b,h15,h17,hLn0,d10,hXt,hYt,h18];(repeat' (first | refine hK _ _ ?_ | refine And.intro ?_ ?_ | (intro hc;try subst hc)))<;>(try clear hK K))
       | (refine zJ (b:=_) (by with_unfolding_all rfl) (fun hc=>?_) (fun hc=>?_)<;>simp at hc<;>(try subst hc)))
      all_goals first|(simp;done)|(simp at *;omega)|((try simp);refine Imp.auto (by kernel_rfl) ?_ ?_<;>simp[NLe,mkPlX])
     ·have hc4 : (k1 = 2∧d1 = 0∧S1 = sh)∧k2 = 2:=by
       by_cases h : (k1 = 2∧d1 = 0∧S1 = sh)∧k2 = 2
       ·exact h
       ·rw[if_neg h]at hN;exact absurd rfl hN
      rw[if_pos hc4]at hN hMM
      obtain ⟨T',W',z1,z2,z3,z4,z5,z6,⟨eg,ew,et,ee,er,z7⟩,z8,z9⟩:=hMM q p rfl hN
      simp only[Prod.mk.injEq]at z1
      obtain ⟨rfl,rfl⟩:=z1
      obtain ⟨⟨b1,b3,b4⟩,b2⟩:=hc4
      obtain ⟨_,_,gx1,gx2,gx3,gx4,gx5,gx6⟩:=p3 b1
      obtain ⟨_,_,gy1,gy2,gy3,gy4,gy5,gy6⟩:=p6 b2
      simp only at gx1 gx2 gx3 gx4 gx5 gx6 gy1 gy2 gy3 gy4 gy5 gy6
      rw[z2]at h15
      have rx:=stR (sAt W (X : Int))
      have ry:=stR (sAt W (Y : Int))
      have sl1:=slot_hi (f:=f) (show 0≤(X : Int) by omega) (show (X : Int) < a * b by omega) gx1 gx2 gx5 (by omega)
      have sl2:=slot_hi (f:=f) (show 0≤(Y : Int) by omega) (show (Y : Int) < a * b by omega) gy1 gy2 gy5 (by omega)
      obtain ⟨j1,hj1⟩ : ∃ z,slotZ a b f g (X : Int) g1 n1 = z:=⟨_,rfl⟩
      obtain ⟨j2,hj2⟩ : ∃ z,slotZ a b f g (Y : Int) g2 n2 = z:=⟨_,rfl⟩
      rw[hj1]at sl1 z8
      rw[hj2]at sl2 z9
      rw[wa,wb,wf,wg]at hwl
      have hwd:=words_in (f:=f) (g:=g) (show 0≤a * b by omega) hall.2 (by omega) (by omega)
      have v1r:=(w_at hw (show j1.toNat < W.ws.length by omega)).2
      have v2r:=(w_at hw (show j2.toNat < W.ws.length by omega)).2
      have h20x : d20 [.agg [.int .i64 W.a,.int .i64 W.b,.int .i64 W.c,.int .i64 W.d,.int .i64 W.e,.int .i64 W.f,.int .i64 W.g],.int .i64 (X : Int),.int .i64 g1,.int .i64 n1] [] = some (.int .i64 j1):=by rw[wa,wb,wc,wd,we,wf,wg];simp only[d20];rw[if_pos hcfg,hj1]
      have h20y : d20 [.agg [.int .i64 W.a,.int .i64 W.b,.int .i64 W.c,.int .i64 W.d,.int .i64 W.e,.int .i64 W.f,.int .i64 W.g],.int .i64 (Y : Int),.int .i64 g2,.int .i64 n2] [] = some (.int .i64 j2):=by rw[wa,wb,wc,wd,we,wf,wg];simp only[d20];rw[if_pos hcfg,hj2]
      have h19x : ∀ u u2,d19 [.op u [.os u2 1 W.ws,.int .i64 (W.s + 1 + 1),.bot,.bot,.bot,.bot,.bot],.int .i64 j1] = some ⟨.tup [.int .u64 (wAt W.ws j1.toNat),.raw .nilIface],[.cells 0 [.os 0 1 W.ws,.int .i64 (W.s + 1 + 1 + 1),.bot,.bot,.bot,.bot,.bot]]⟩:=fun u u2=>by simp only[d19];rw[if_pos ⟨hw,by omega,by omega,by omega,by omega⟩]
      have h19y : ∀ u u2,d19 [.op u [.os u2 1 W.ws,.int .i64 (W.s + 1 + 1 + 1),.bot,.bot,.bot,.bot,.bot],.int .i64 j2] = some ⟨.tup [.int .u64 (wAt W.ws j2.toNat),.raw .nilIface],[.cells 0 [.os 0 1 W.ws,.int .i64 (W.s + 1 + 1 + 1 + 1),.bot,.bot,.bot,.bot,.bot]]⟩:=fun u u2=>by simp only[d19];rw[if_pos ⟨hw,by omega,by omega,by omega,by omega⟩]
      obtain ⟨v1,hv1⟩ : ∃ z,wAt W.ws j1.toNat = z:=⟨_,rfl⟩
      obtain ⟨v2,hv2⟩ : ∃ z,wAt W.ws j2.toNat = z:=⟨_,rfl⟩
      rw[hv1]at h19x v1r z8
      rw[hv2]at h19y v2r z9
      have h21x : d21 [.int .u64 v1] [] = some (rcA ⟨1,q,p,0,(Y : Int),g2⟩):=by simp only[d21];rw[if_pos v1r,z8]
      have h21y : d21 [.int .u64 v2] [] = some (rcA ⟨1,q,p,0,(X : Int),g1⟩):=by simp only[d21];rw[if_pos v2r,z9]
      simp only[rcA]at h21x h21y
      obtain ⟨⟨xk,xf,xg,xl,xn⟩,hxs⟩ : ∃ s,stateZ (sAt W (X : Int)) = s:=⟨_,rfl⟩
      obtain ⟨⟨yk,yf,yg,yl,yn⟩,hys⟩ : ∃ s,stateZ (sAt W (Y : Int)) = s:=⟨_,rfl⟩
      rw[hxs]at h14a z3 z5 rx
      rw[hys]at h14b z4 z6 ry
      simp only at z3 z4 z5 z6 rx ry
      have wq1 : IntKind.wrap .i64 (l1 - q) = l1 - q:=wrap_in (by omega) (by omega)
      have wq2 : IntKind.wrap .i64 (l2 - q) = l2 - q:=wrap_in (by omega) (by omega)
      have hLn : W.lg.length = er.length + 1:=by rw[z7];simp
      have hLg : W.lg[0]? = some (evC 2 (X : Int) eg (Y : Int) ew q p et ee):=by rw[z7];rfl
      have hLe:=gt hLg
      have hLp : 0 < W.lg.length:=by omega
      have hLt : ¬ ((er.length : Int) + 1 < 1):=by omega
      have hqn : ¬ q = 0:=hN
      subst b1;subst b2;subst b3;subst b4
      simp only[evC]at hLg hLe
      clear hNN hMM z7 z8 z9 hN p3 p6 hwl
      simp only[I4,tzC,wzC,wzL,qC,tickW,stA,z3,z4]at h14a h14b h15 ⊢
      repeat' with_reducible (first
       | refine ZR.h ?_ | refine zI (by decide) ?_
       | ((first | refine zK hE ?_ | refine zL hE mixT ?_);intro K hK;simp[KR.ks,KD.ks,KD.cl,ELa,q4_0,q4_1,q4_2,q4_3,q4_4,q4_5,q4_6,q4_7,q4_8,q4_9,q4_10,q4_11,q4_12,q4_13,q4_14,q4_15,q4_16,q4_17,q4_18,q4_19,q4_20,q4_21,q4_22,q4_23,q4_24,hTe,hCe,hT,hC,hTl,hCl,hTS,hCS,hTT,hCT,hkI,hXl,hYl,hXt,hYt,hSX,hSY,hTX,hTY,hSXe,hSYe,hTXe,hTYe,h14a,h14b,h15,h17,h18,h20x,h20y,h19x,h19y,h21x,h21y,wq1,wq2,hLn,hLg,hLe,hLp,hLt,hqn,z5,z6,d10,d16];(repeat' (first | refine hK _ _ ?_ | refine And.intro ?_ ?_ | (intro hc;try subst hc)))<;>(try clear hK K))
       | (refine zJ (b:=_) (by with_unfolding_all rfl) (fun hc=>?_) (fun hc=>?_)<;>simp at hc<;>(try subst hc)))
      all_goals skip
      refine zL hE mixT ?_
      intro K hK
      simp (maxSteps:=10000000) [KD.ks,KD.cl,ELa,q4_24,hTe,hCe,hT,hC,hTl,hCl,hTS,hCS,hTT,hCT,h21x,h21y,hLn,hLg,hLe,hLp,d10]
      refine hK _ _ ?_
      clear hK K
      repeat' with_reducible (first
       | refine ZR.h ?_ | refine zI (by decide) ?_
       | ((first | refine zK hE ?_ | refine zL hE mixT ?_);intro K hK;simp[KR.ks,KD.ks,KD.cl,ELa,q4_0,q4_1,q4_2,q4_3,q4_4,q4_5,q4_6,q4_7,q4_8,q4_9,q4_10,q4_11,q4_12,q4_13,q4_14,q4_15,q4_16,q4_17,q4_18,q4_19,q4_20,q4_21,q4_22,q4_23,q4_24];(repeat' (first | refine hK _ _ ?_ | refine And.intro ?_ ?_ | (intro hc;try subst hc)))<;>(try clear hK K))
       | (refine zJ (b:=_) (by with_unfolding_all rfl) (fun hc=>?_) (fun hc=>?_)<;>simp at hc<;>(try subst hc)))
      all_goals first|(simp;done)|(simp at *;omega)|((try simp);refine Imp.auto (by kernel_rfl) ?_ ?_<;>simp[NLe,mkPlX])
  ·cases h
 ·cases h
end Go.W
