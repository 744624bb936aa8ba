/- A part of the proofs about the pair's laws (PsQ, PsV0). -/
import Derived.Test.YtidbbnkpglggdaaPsU
import Derived.Test.YtidbbnkpglggdaaPqB
import Derived.Test.YtidbbnkpglggdaaWkC
namespace Go.W
open Go.Proofs
set_option linter.unusedSimpArgs false
set_option linter.unusedVariables false
set_option maxHeartbeats 8000000
attribute [local irreducible] Wm
attribute [local simp] nmap lkp mkPl prs prsL prT ddL idL CRenL CRen Ren RenL NObj.none CRenLL
theorem hold_fr (W:WZ) (T:TZ):((holdT W T).2.s=W.s∨(holdT W T).2.s=W.s+1)∧(holdT W T).2.lg=W.lg∧(holdT W T).2.t=W.t:=by
 unfold holdT
 split
 ·have:=turn_fr W T.x T.wx (holdS (stateZ T.wx));exact ⟨this.1,this.2.1,this.2.2.1⟩
 ·simp
theorem take_fr (W:WZ) (T:TZ):((takeT W T).2.s=W.s∨(takeT W T).2.s=W.s+1)∧(takeT W T).2.lg.length≤W.lg.length+1∧(takeT W T).2.t=W.t:=by
 unfold takeT
 have hf:=turn_fr W T.y T.wy (takeS (stateZ T.wy) (matchZ T.tx T.ty (stateZ T.wx).l (stateZ T.wy).l).1 W.f).1
 repeat' split
 ·refine ⟨hf.1,?_,hf.2.2.1⟩
  simp only[tellW,hf.2.1,List.length_append,List.length_singleton];omega
 ·exact ⟨hf.1,by rw[hf.2.1];omega,hf.2.2.1⟩
 ·simp
 ·simp
theorem let_fr (W:WZ) (T:TZ):((letT W T).2.s=W.s∨(letT W T).2.s=W.s+1)∧(letT W T).2.lg.length≤W.lg.length+1∧(letT W T).2.t=W.t:=by
 unfold letT
 have hf:=turn_fr W T.x T.wx (releaseS (stateZ T.wx) (qtyT T) W.f).1
 repeat' split
 ·refine ⟨hf.1,?_,hf.2.2.1⟩
  simp only[tellW,hf.2.1,List.length_append,List.length_singleton];omega
 ·exact ⟨hf.1,by rw[hf.2.1];omega,hf.2.2.1⟩
 ·exact ⟨hf.1,by rw[hf.2.1];omega,hf.2.2.1⟩
 ·simp
 ·simp
theorem noteT_fr (W:WZ) (T:TZ):((noteT W T).s=W.s∨(noteT W T).s=W.s+1)∧(noteT W T).lg=W.lg∧(noteT W T).t=W.t:=by
 unfold noteT
 repeat' split
 all_goals first|exact note_fr _ _ _ _ _|simp
theorem look_fr (W:WZ) (T:TZ):((lookT W T).2.s=W.s∨(lookT W T).2.s=W.s+1)∧(lookT W T).2.lg=W.lg∧(lookT W T).2.t=W.t:=by
 unfold lookT
 split<;>simp[tickW]
theorem stepT_fr (W:WZ) (T:TZ):((stepT W T).2.s=W.s∨(stepT W T).2.s=W.s+1)∧(stepT W T).2.lg.length≤W.lg.length+1∧(stepT W T).2.t=W.t:=by
 have h1:=hold_fr W T
 have h2:=take_fr W T
 have h3:=let_fr W T
 have h4:=noteT_fr W T
 have h5:=look_fr W T
 unfold stepT
 repeat' split
 all_goals first|exact h2|exact h3|exact ⟨h1.1,by rw[h1.2.1];omega,h1.2.2⟩ | exact ⟨h4.1,by simp only;rw[h4.2.1];omega,h4.2.2⟩ | exact ⟨h5.1,by rw[h5.2.1];omega,h5.2.2⟩ | (simp[tickW])
theorem StepT_fr (W:WZ) (T:TZ):((StepT W T).2.s=W.s∨(StepT W T).2.s=W.s+1)∧(StepT W T).2.lg.length≤W.lg.length+1∧(StepT W T).2.t=W.t:=by
 have h:=stepT_fr W T
 unfold StepT
 repeat' split
 all_goals first|exact h|simp
theorem okT_put {T:TZ} (h:okT T=true) {T':TZ} (h1:0≤T'.pc∧T'.pc≤1000000) (h2:0≤T'.wx∧T'.wx<18446744073709551616) (h3:0≤T'.wy∧T'.wy<18446744073709551616) (h4:0≤T'.tx.pr∧T'.tx.pr≤1000000) (h5:0≤T'.ty.pr∧T'.ty.pr≤1000000) (h6:0≤T'.q∧T'.q≤1000000) (h7:0≤T'.p∧T'.p≤1000000) (h8:0≤T'.ta∧T'.ta≤1000000) (h9:0≤T'.en∧T'.en≤1000000) (h10:okS T'.nx=true) (h11:okS T'.ny=true):okT T'=true :=
 decide_eq_true ⟨h1.1,h1.2,h2.1,h2.2,h3.1,h3.2,h4.1,h4.2,h5.1,h5.2,h6.1,h6.2,h7.1,h7.2,h8.1,h8.2,h9.1,h9.2,h10,h11⟩
theorem hold_T {W:WZ} {T:TZ} (hT:okT T=true) (hW:okW W=true) (hi:idleT W T=false):okT (holdT W T).1=true:=by
 obtain ⟨hpc0,hpc1,hx0,hx1,hy0,hy1,htx0,htx1,hty0,hty1,hq0,hq1,hp0,hp1,hta0,hta1,hen0,hen1,hnx,hny⟩:=okT_ex hT
 obtain ⟨hX0,hX1,hY0,hY1,hAB⟩:=idle_in hW hi
 obtain ⟨hcf,hw,hwl,hs0,ht0,ht1,hlg⟩:=okW_ex hW
 unfold holdT
 split
 ·refine okT_put hT ?_ ?_ ?_ ?_ ?_ ?_ ?_ ?_ ?_ ?_ ?_<;>first|assumption|exact ⟨by assumption,by assumption⟩
 ·exact hT
theorem look_T {W:WZ} {T:TZ} (hT:okT T=true) (hW:okW W=true) (hi:idleT W T=false):okT (lookT W T).1=true:=by
 obtain ⟨hpc0,hpc1,hx0,hx1,hy0,hy1,htx0,htx1,hty0,hty1,hq0,hq1,hp0,hp1,hta0,hta1,hen0,hen1,hnx,hny⟩:=okT_ex hT
 obtain ⟨hX0,hX1,hY0,hY1,hAB⟩:=idle_in hW hi
 obtain ⟨hcf,hw,hwl,hs0,ht0,ht1,hlg⟩:=okW_ex hW
 have sx:=sAt_in hW hX0 hX1
 unfold lookT
 split
 ·refine okT_put hT ?_ ?_ ?_ ?_ ?_ ?_ ?_ ?_ ?_ ?_ ?_<;>first|assumption|exact ⟨by assumption,by assumption⟩ | exact sx
 ·exact hT
theorem take_T {W:WZ} {T:TZ} (hT:okT T=true) (hW:okW W=true) (hi:idleT W T=false):okT (takeT W T).1=true:=by
 obtain ⟨hpc0,hpc1,hx0,hx1,hy0,hy1,htx0,htx1,hty0,hty1,hq0,hq1,hp0,hp1,hta0,hta1,hen0,hen1,hnx,hny⟩:=okT_ex hT
 obtain ⟨hX0,hX1,hY0,hY1,hAB⟩:=idle_in hW hi
 obtain ⟨hcf,hw,hwl,hs0,ht0,ht1,hlg⟩:=okW_ex hW
 have rx:=stR T.wx
 have ry:=stR T.wy
 have hm:=match_in htx0 htx1 hty0 hty1 (show (stateZ T.wx).l≤1000000 by omega) (show (stateZ T.wy).l≤1000000 by omega)
 have tk:=take_okS T.wy (matchZ T.tx T.ty (stateZ T.wx).l (stateZ T.wy).l).1 W.f
 unfold takeT
 repeat' split
 ·refine okT_put hT ?_ ?_ ?_ ?_ ?_ ?_ ?_ ?_ ?_ ?_ ?_<;>first|assumption|exact ⟨by assumption,by assumption⟩ | exact ⟨hm.1,hm.2.1⟩ | exact ⟨hm.2.2.1,hm.2.2.2⟩ | exact tk
 ·refine okT_put hT ?_ ?_ ?_ ?_ ?_ ?_ ?_ ?_ ?_ ?_ ?_<;>first|assumption|exact ⟨by assumption,by assumption⟩ | exact ⟨hm.1,hm.2.1⟩ | exact ⟨hm.2.2.1,hm.2.2.2⟩ | exact tk
 ·refine okT_put hT ?_ ?_ ?_ ?_ ?_ ?_ ?_ ?_ ?_ ?_ ?_<;>first|assumption|exact ⟨by assumption,by assumption⟩ | exact ⟨hm.1,hm.2.1⟩ | exact ⟨hm.2.2.1,hm.2.2.2⟩ | exact tk
 ·exact hT
theorem let_T {W:WZ} {T:TZ} (hT:okT T=true) (hW:okW W=true) (hi:idleT W T=false):okT (letT W T).1=true:=by
 obtain ⟨hpc0,hpc1,hx0,hx1,hy0,hy1,htx0,htx1,hty0,hty1,hq0,hq1,hp0,hp1,hta0,hta1,hen0,hen1,hnx,hny⟩:=okT_ex hT
 obtain ⟨hX0,hX1,hY0,hY1,hAB⟩:=idle_in hW hi
 obtain ⟨hcf,hw,hwl,hs0,ht0,ht1,hlg⟩:=okW_ex hW
 have rl:=rel_okS T.wx (qtyT T) W.f
 unfold letT
 split
 ·split
  ·split
   ·refine okT_put hT ?_ ?_ ?_ ?_ ?_ ?_ ?_ ?_ ?_ ?_ ?_<;>first|assumption|exact ⟨by assumption,by assumption⟩ | exact rl
   ·exact hT
  ·exact hT
 ·exact hT
theorem step_T {W:WZ} {T:TZ} (hT:okT T=true) (hW:okW W=true) (hi:idleT W T=false):okT (stepT W T).1=true:=by
 obtain ⟨hpc0,hpc1,hx0,hx1,hy0,hy1,htx0,htx1,hty0,hty1,hq0,hq1,hp0,hp1,hta0,hta1,hen0,hen1,hnx,hny⟩:=okT_ex hT
 obtain ⟨hX0,hX1,hY0,hY1,hAB⟩:=idle_in hW hi
 obtain ⟨hcf,hw,hwl,hs0,ht0,ht1,hlg⟩:=okW_ex hW
 have sx:=sAt_in hW hX0 hX1
 have sy:=sAt_in hW hY0 hY1
 have tx:=termsZ_pr (tAt W T.x)
 have ty:=termsZ_pr (tAt W T.y)
 unfold stepT
 repeat' split
 ·refine okT_put hT ?_ ?_ ?_ ?_ ?_ ?_ ?_ ?_ ?_ ?_ ?_<;>first|assumption|exact ⟨by assumption,by assumption⟩ | exact sx
 ·refine okT_put hT ?_ ?_ ?_ ?_ ?_ ?_ ?_ ?_ ?_ ?_ ?_<;>first|assumption|exact ⟨by assumption,by assumption⟩ | exact tx
 ·exact hold_T hT hW hi
 ·refine okT_put hT ?_ ?_ ?_ ?_ ?_ ?_ ?_ ?_ ?_ ?_ ?_<;>first|assumption|exact ⟨by assumption,by assumption⟩ | exact sy
 ·refine okT_put hT ?_ ?_ ?_ ?_ ?_ ?_ ?_ ?_ ?_ ?_ ?_<;>first|assumption|exact ⟨by assumption,by assumption⟩ | exact ty
 ·exact take_T hT hW hi
 ·exact look_T hT hW hi
 ·exact let_T hT hW hi
 ·exact hT
theorem StepT_T {W:WZ} {T:TZ} (hT:okT T=true) (hW:okW W=true):okT (StepT W T).1=true:=by
 obtain ⟨hpc0,hpc1,hx0,hx1,hy0,hy1,htx0,htx1,hty0,hty1,hq0,hq1,hp0,hp1,hta0,hta1,hen0,hen1,hnx,hny⟩:=okT_ex hT
 unfold StepT
 split
 ·exact hT
 ·have hp:(0:Int)≤T.pc+1∧T.pc+1≤1000000:=by omega
  split
  ·exact okT_put hT hp ⟨hx0,hx1⟩ ⟨hy0,hy1⟩ ⟨htx0,htx1⟩ ⟨hty0,hty1⟩ ⟨hq0,hq1⟩ ⟨hp0,hp1⟩ ⟨hta0,hta1⟩ ⟨hen0,hen1⟩ hnx hny
  ·have h:=step_T hT hW (by simpa using ‹¬idleT W T=true›)
   obtain ⟨hpc0,hpc1,hx0,hx1,hy0,hy1,htx0,htx1,hty0,hty1,hq0,hq1,hp0,hp1,hta0,hta1,hen0,hen1,hnx,hny⟩:=okT_ex h
   exact okT_put hT hp ⟨hx0,hx1⟩ ⟨hy0,hy1⟩ ⟨htx0,htx1⟩ ⟨hty0,hty1⟩ ⟨hq0,hq1⟩ ⟨hp0,hp1⟩ ⟨hta0,hta1⟩ ⟨hen0,hen1⟩ hnx hny
theorem StepT_pc (W:WZ) (T:TZ):(StepT W T).1.pc=if 14≤T.pc then T.pc else T.pc+1:=by
 unfold StepT
 split
 ·rfl
 ·split<;>rfl
end Go.W

namespace Go.W
open Go.Proofs
set_option linter.unusedSimpArgs false
set_option linter.unusedVariables false
set_option maxHeartbeats 8000000
attribute [local irreducible] Wm
attribute [local simp] nmap lkp mkPl prs prsL prT ddL idL CRenL CRen Ren RenL NObj.none CRenLL
def ordB:List AV→Bool
 | [.int .i64 kd,.bool fl,.int .i64 sg,.int .i64 sl,.int .i64 sf,.int .i64 nm,.int .i64 sd,.int .i64 pr,.int .i64 le,.int .i64 un]=>decide (-9223372036854775808≤kd∧kd≤9223372036854775807∧-9223372036854775808≤sg∧sg≤9223372036854775807∧-9223372036854775808≤sl∧sl≤9223372036854775807∧-9223372036854775808≤sf∧sf≤9223372036854775807∧-9223372036854775808≤nm∧nm≤9223372036854775807∧-9223372036854775808≤sd∧sd≤9223372036854775807∧-9223372036854775808≤pr∧pr≤9223372036854775807∧-9223372036854775808≤le∧le≤9223372036854775807∧-9223372036854775808≤un∧un≤9223372036854775807)
 | _=>false
theorem ordB_ex {c:List AV} (h:ordB c=true):∃ (kd:Int) (fl:Bool) (sg sl sf nm sd pr le un:Int),c=[.int .i64 kd,.bool fl,.int .i64 sg,.int .i64 sl,.int .i64 sf,.int .i64 nm,.int .i64 sd,.int .i64 pr,.int .i64 le,.int .i64 un]∧-9223372036854775808≤kd∧kd≤9223372036854775807∧-9223372036854775808≤sg∧sg≤9223372036854775807∧-9223372036854775808≤sl∧sl≤9223372036854775807∧-9223372036854775808≤sf∧sf≤9223372036854775807∧-9223372036854775808≤nm∧nm≤9223372036854775807∧-9223372036854775808≤sd∧sd≤9223372036854775807∧-9223372036854775808≤pr∧pr≤9223372036854775807∧-9223372036854775808≤le∧le≤9223372036854775807∧-9223372036854775808≤un∧un≤9223372036854775807:=by
 unfold ordB at h
 split at h
 ·exact ⟨_,_,_,_,_,_,_,_,_,_,rfl,of_decide_eq_true h⟩
 ·cases h
theorem ord_t0:∀ {els:List (List AV)},els.all ordB=true→t0LL els=els
 | [],_=>rfl
 | c :: r,h=>by
  simp only[List.all_cons,Bool.and_eq_true]at h
  obtain ⟨kd,fl,sg,sl,sf,nm,sd,pr,le,un,rfl,_⟩:=ordB_ex h.1
  simp[t0LL,t0L,AV.t0,ord_t0 h.2]
theorem ord_cl:∀ {els:List (List AV)},els.all ordB=true→clLL els=true
 | [],_=>rfl
 | c :: r,h=>by
  simp only[List.all_cons,Bool.and_eq_true]at h
  obtain ⟨kd,fl,sg,sl,sf,nm,sd,pr,le,un,rfl,_⟩:=ordB_ex h.1
  simp[clLL,clL,AV.cl,ord_cl h.2]
def okO (a b c f g:Int) (k:Nat):List AV→Option (Int×Int)
 | [.int .i64 kd,.bool fl,.int .i64 sg,.int .i64 sl,.int .i64 sf,.int .i64 nm,.int .i64 sd,.int .i64 pr,.int .i64 le,.int .i64 un]=>(match wordS ⟨kd,fl,sg,sl,sf⟩,wordT ⟨nm,sd,pr,le,un⟩ with
  | some v,some u=>if (k:Int)<a*b∧1≤sg∧sg≤g∧1≤sl∧sf<f∧(looseZ kd=true∨5≤kd)∧fl=false∧chkT c ⟨nm,sd,pr,le,un⟩ (if sl<le then le else sl) 0=0 then some (v,u) else none
  | _,_=>none)
 | _=>none
def ordS (o:List AV):List AV:=o.take 5
def ordT (o:List AV):List AV:=o.drop 5
def bothZ (a b c d e f g:Int) (els:List (List AV)):Nat→Option (List (List AV)×List (List AV)×List (List AV))
 | 0=>some ((W0 a b c d e f g).ws,zS (a*b).toNat,zT (a*b).toNat)
 | k+1=>match bothZ a b c d e f g els k with
  | none=>none
  | some (ws,S,T)=>match okO a b c f g k (els.getD k []) with
   | none=>none
   | some (v,u)=>some ((ws.set (2*k) [.int .u64 v]).set (2*k+1) [.int .u64 u],S.set k (ordS (els.getD k [])),T.set k (ordT (els.getD k [])))
theorem both_none {a b c d e f g:Int} {els:List (List AV)} {k:Nat} (h:bothZ a b c d e f g els k=none):∀ j,bothZ a b c d e f g els (k+j)=none
 | 0=>h
 | j+1=>by
  show bothZ a b c d e f g els ((k+j)+1)=none
  simp only[bothZ,both_none h j]
theorem set_t0 {c:List AV} (hc:t0L c=c):∀ {L:List (List AV)} (k:Nat),t0LL L=L→t0LL (L.set k c)=L.set k c
 | [],_,_=>rfl
 | x :: r,0,h=>by
  simp only[t0LL,List.cons.injEq]at h
  simp only[List.set_cons_zero,t0LL,hc,h.2]
 | x :: r,k+1,h=>by
  simp only[t0LL,List.cons.injEq]at h
  simp only[List.set_cons_succ,t0LL,h.1,set_t0 hc k h.2]
theorem set_cl {c:List AV} (hc:clL c=true):∀ {L:List (List AV)} (k:Nat),clLL L=true→clLL (L.set k c)=true
 | [],_,_=>rfl
 | x :: r,0,h=>by
  simp only[clLL,Bool.and_eq_true]at h
  simp only[List.set_cons_zero,clLL,hc,h.2,Bool.and_self]
 | x :: r,k+1,h=>by
  simp only[clLL,Bool.and_eq_true]at h
  simp only[List.set_cons_succ,clLL,h.1,set_cl hc k h.2,Bool.and_self]
def okL (n:Nat) (L:List (List AV)):Prop:=L.length=n∧t0LL L=L∧clLL L=true∧∀ c,c∈L→c.length=5
theorem five_set {L:List (List AV)} (h:∀ c,c∈L→c.length=5) {x:List AV} (hx:x.length=5) (k:Nat):∀ c,c∈L.set k x→c.length=5:=fun c hc=>by
 rcases List.mem_or_eq_of_mem_set hc with h3|h3
 ·exact h c h3
 ·rw[h3];exact hx
theorem five_rep {x:List AV} (hx:x.length=5) (n:Nat):∀ c,c∈List.replicate n x→c.length=5:=fun c hc=>by rw[List.eq_of_mem_replicate hc];exact hx
theorem okO_ex {a b c f g:Int} {k:Nat} {o:List AV} {v u:Int} (ho:ordB o=true) (h:okO a b c f g k o=some (v,u)):(k:Int)<a*b∧(0≤v∧v<18446744073709551616)∧(0≤u∧u<18446744073709551616):=by
 obtain ⟨kd,fl,sg,sl,sf,nm,sd,pr,le,un,rfl,_⟩:=ordB_ex ho
 simp only[okO]at h
 split at h
 ·rename_i v' u' h1 h2
  by_cases hc:(k:Int)<a*b∧1≤sg∧sg≤g∧1≤sl∧sf<f∧(looseZ kd=true∨5≤kd)∧fl=false∧chkT c ⟨nm,sd,pr,le,un⟩ (if sl<le then le else sl) 0=0
  ·rw[if_pos hc]at h
   simp only[Option.some.injEq,Prod.mk.injEq]at h
   obtain ⟨rfl,rfl⟩:=h
   exact ⟨hc.1,wordS_in h1,wordT_in h2⟩
  ·rw[if_neg hc]at h;cases h
 ·cases h
theorem both_inv {a b c d e f g:Int} {els:List (List AV)} (hcf:cfgB a b c d e f g=true) (he:els.all ordB=true):∀ (k:Nat) (ws S T:List (List AV)),k≤els.length→bothZ a b c d e f g els k=some (ws,S,T)→(k:Int)≤a*b∧ws.all isW=true∧ws.length=(a*b*2+a*b*g*(f+1)).toNat∧okL (a*b).toNat S∧okL (a*b).toNat T
 | 0,ws,S,T,_,h=>by
  simp only[bothZ,Option.some.injEq,Prod.mk.injEq]at h
  obtain ⟨rfl,rfl,rfl⟩:=h
  have hall:=cfg_all hcf
  exact ⟨by simp only[Int.natCast_zero];omega,rep_w _,List.length_replicate ..,⟨List.length_replicate ..,rep_t0 rfl _,rep_cl rfl _,five_rep rfl _⟩,⟨List.length_replicate ..,rep_t0 rfl _,rep_cl rfl _,five_rep rfl _⟩⟩
 | k+1,ws,S,T,hk,h=>by
  simp only[bothZ]at h
  split at h
  ·cases h
  ·rename_i ws0 S0 T0 h0
   split at h
   ·cases h
   ·rename_i v u hO
    simp only[Option.some.injEq,Prod.mk.injEq]at h
    obtain ⟨rfl,rfl,rfl⟩:=h
    have hkl:k<els.length:=by omega
    have hrow:ordB (els.getD k [])=true:=by
     rw[List.getD_eq_getElem?_getD,List.getElem?_eq_getElem hkl]
     exact List.all_eq_true.1 he _ (List.getElem_mem hkl)
    obtain ⟨hkn,hv,hu⟩:=okO_ex hrow hO
    obtain ⟨i1,i2,i3,i4,i5⟩:=both_inv hcf he k ws0 S0 T0 (by omega) h0
    obtain ⟨kd,fl,sg,sl,sf,nm,sd,pr,le,un,hoe,_⟩:=ordB_ex hrow
    rw[hoe]
    exact ⟨by omega,w_set (w_set i2 hv.1 hv.2 _) hu.1 hu.2 _,by simp only[List.length_set];exact i3,
     ⟨by simp only[List.length_set];exact i4.1,set_t0 rfl k i4.2.1,set_cl rfl k i4.2.2.1,five_set i4.2.2.2 rfl k⟩,⟨by simp only[List.length_set];exact i5.1,set_t0 rfl k i5.2.1,set_cl rfl k i5.2.2.1,five_set i5.2.2.2 rfl k⟩⟩
def bothA (a b c d e f g:Int) (els:List (List AV)):AV:=match bothZ a b c d e f g els els.length with
 | some (ws,S,T)=>.tup [.op 0 (wzC ⟨a,b,c,d,e,f,g,ws,2*els.length,0,[]⟩),.op 0 (qC a b c d e f g S T),.bool true]
 | none=>.tup [.raw (.pointer none),.raw (.pointer none),.bool false]
def d9:List AV→Option Ans
 | [.agg [.int .i64 a,.int .i64 b,.int .i64 c,.int .i64 d,.int .i64 e,.int .i64 f,.int .i64 g],.os _ 10 els]=>if els.all ordB=true then some ⟨if cfgB a b c d e f g=true then bothA a b c d e f g els else .tup [.raw (.pointer none),.raw (.pointer none),.bool false],[.free]⟩ else none
 | _=>none
theorem ok9:NOk [(10,false)] d9:=by
 intro xs aa h
 unfold d9 at h
 split at h
 ·split at h
  ·rename_i a b c d e f g u els hc
   have t1:=ord_t0 hc
   have t2:=ord_cl hc
   injection h with h;subst h
   split
   ·rename_i hcf
    unfold bothA
    split
    ·rename_i ws S T hb
     obtain ⟨i1,i2,i3,⟨i4,i5,i6,_⟩,⟨i7,i8,i9,_⟩⟩:=both_inv hcf hc _ _ _ _ (Nat.le_refl _) hb
     have hT:=w_t0 i2
     have hC:=w_cl i2
     refine ⟨Ends_of ?_,?_⟩<;>simp[wzC,qC,hT,hC,i5,i6,i8,i9,t1,t2]
    ·refine ⟨Ends_of ?_,?_⟩<;>simp[t1,t2]
   ·refine ⟨Ends_of ?_,?_⟩<;>simp[t1,t2]
  ·cases h
 ·cases h
def I9 (a b c d e f g:Int) (els:List (List AV)) (k:Nat) (ws S T:List (List AV)):St:=⟨[(2,.ptr (.top 1) 0 0),(7,.ptr (.top 2) 0 0),(9,.ptr (.top 3) 0 0),(11,.ptr (.top 4) 0 0),(43,.sl (.top 0) 0 els.length),(44,.int .i64 els.length),(45,.int .i64 k)],[(0,.view 0 10 els),(1,.cells 0 [.int .i64 a,.int .i64 b,.int .i64 c,.int .i64 d,.int .i64 e,.int .i64 f,.int .i64 g]),(2,.cells 0 [.int .i64 a,.int .i64 b,.int .i64 c,.int .i64 d,.int .i64 e,.int .i64 f,.int .i64 g]),(3,.cells 0 [.int .i64 a,.int .i64 b,.int .i64 c,.int .i64 d,.int .i64 e,.int .i64 f,.int .i64 g,.op 0 [.os 0 1 ws,.int .i64 (2*k),.bot,.bot,.bot,.bot,.bot],.op 0 [.int .u64 0],.os 0 14 []]),(4,.cells 0 [.int .i64 a,.int .i64 b,.int .i64 c,.int .i64 d,.int .i64 e,.int .i64 f,.int .i64 g,.os 0 5 S,.os 0 5 T,.bot,.bot,.bot,.bot])],5⟩
def B9:MCode:=(.seq (.reg q9_9) (.seq (.cond (.t 46) .skip (.exit 0)) (.seq (.block 1 (.seq (.reg q9_10) (.seq (.reg q9_11) (.seq (.reg q9_12) (.seq (.seq (.reg q9_13) (.cond (.t 136) (.seq (.reg q9_14) .ret) .skip)) (.seq (.draw q9_15 p9_15) (.seq (.draw q9_16 p9_16) (.draw q9_17 p9_17)))))))) (.reg q9_18))))
def P9 (xs:List AV) (a:Ans):Exit→St→Prop:=retK [.t 4,.t 5,.t 6] fun v s=>Imp (oA [(10,false)] xs).length ⟨[(0,v)],s.hl,s.nb⟩ ⟨[(0,lR [(10,false)] xs a)],idxO 0 (uR [(10,false)] xs a++nR [(10,false)] xs a),(oA [(10,false)] xs).length+(nR [(10,false)] xs a).length⟩
def L9 (w0:World) (S:Sc) (a b c d e f g:Int) (t:Nat) (els:List (List AV)) (k:Nat) (ws SS T:List (List AV)):Prop :=
 Wm Try.prog w0 S Try.f9.ntmps [] B9 (I9 a b c d e f g els k ws SS T) (loopK S.m (fun (y:Nat×List (List AV)×List (List AV)×List (List AV))=>I9 a b c d e f g els y.1 y.2.1 y.2.2.1 y.2.2.2) (fun y=>y.1≤els.length∧bothZ a b c d e f g els y.1=some (y.2.1,y.2.2.1,y.2.2.2)) (fun y=>els.length - y.1) (k,ws,SS,T) (blockK 0 (thenK Try.prog w0 S Try.f9.ntmps [] (.seq (.reg q9_19) .ret) (P9 [.agg [.int .i64 a,.int .i64 b,.int .i64 c,.int .i64 d,.int .i64 e,.int .i64 f,.int .i64 g],.os t 10 els] ⟨bothA a b c d e f g els,[.free]⟩))))
def q9_13s0:List MO:=[Ma 62 (.mv (.t 12)),Ma 63 (.mv (.t 11)),Ma 64 (.nilck (.t 63)),Ma 65 (.faddr 7 (.t 64)),Ma 66 (.load false 1 (.t 65)),Ma 67 (.len (.t 66)),Ma 68 (.bin .geq (.t 62) (.t 67)),Ma 69 (.mv (.t 68)),Mg 70 (.mv (.t 15)) 69 false,Mg 71 (.bin .neq (.t 70) (.c (.int .i64 0))) 69 false,Ma 72 (.pick (.t 69) (.c (.bool true)) (.t 71)),Ma 73 (.mv (.t 72)),Mg 74 (.mv (.t 17)) 73 false]
@[simp] theorem l9_13s0:q9_13s0.length=13:=rfl
def q9_13s1:List MO:=[Mg 75 (.bin .neq (.t 74) (.c (.int .i64 0))) 73 false,Ma 76 (.pick (.t 73) (.c (.bool true)) (.t 75)),Ma 77 (.mv (.t 76)),Mg 78 (.faddr 0 (.t 13)) 77 false,Mg 79 (.faddr 2 (.t 78)) 77 false,Mg 80 (.load false 1 (.t 79)) 77 false,Mg 81 (.bin .lss (.t 80) (.c (.int .i64 1))) 77 false,Ma 82 (.pick (.t 77) (.c (.bool true)) (.t 81)),Ma 83 (.mv (.t 82)),Mg 84 (.faddr 0 (.t 13)) 83 false,Mg 85 (.faddr 2 (.t 84)) 83 false,Mg 86 (.load false 1 (.t 85)) 83 false,Mg 87 (.faddr 6 (.t 2)) 83 false]
@[simp] theorem l9_13s1:q9_13s1.length=13:=rfl
def q9_13s2:List MO:=[Mg 88 (.load false 1 (.t 87)) 83 false,Mg 89 (.bin .gtr (.t 86) (.t 88)) 83 false,Ma 90 (.pick (.t 83) (.c (.bool true)) (.t 89)),Ma 91 (.mv (.t 90)),Mg 92 (.faddr 0 (.t 13)) 91 false,Mg 93 (.faddr 3 (.t 92)) 91 false,Mg 94 (.load false 1 (.t 93)) 91 false,Mg 95 (.bin .lss (.t 94) (.c (.int .i64 1))) 91 false,Ma 96 (.pick (.t 91) (.c (.bool true)) (.t 95)),Ma 97 (.mv (.t 96)),Mg 98 (.faddr 0 (.t 13)) 97 false,Mg 99 (.faddr 4 (.t 98)) 97 false,Mg 100 (.load false 1 (.t 99)) 97 false]
@[simp] theorem l9_13s2:q9_13s2.length=13:=rfl
def q9_13s3:List MO:=[Mg 101 (.faddr 5 (.t 2)) 97 false,Mg 102 (.load false 1 (.t 101)) 97 false,Mg 103 (.bin .geq (.t 100) (.t 102)) 97 false,Ma 104 (.pick (.t 97) (.c (.bool true)) (.t 103)),Ma 105 (.mv (.t 104)),Mg 106 (.faddr 0 (.t 13)) 105 false,Mg 107 (.faddr 0 (.t 106)) 105 false,Mg 108 (.load false 1 (.t 107)) 105 false,Mg 109 (.call (.c (.fn 47 [])) [(.t 108)]) 105 false,Mg 110 (.un .not (.t 109)) 105 false,Mg 111 (.mv (.t 110)) 105 false,Mg 112 (.faddr 0 (.t 13)) 111 true,Mg 113 (.faddr 0 (.t 112)) 111 true]
@[simp] theorem l9_13s3:q9_13s3.length=13:=rfl
def q9_13s4:List MO:=[Mg 114 (.load false 1 (.t 113)) 111 true,Mg 115 (.bin .lss (.t 114) (.c (.int .i64 5))) 111 true,Mg 116 (.pick (.t 111) (.t 115) (.c (.bool false))) 105 false,Ma 117 (.pick (.t 105) (.c (.bool true)) (.t 116)),Ma 118 (.mv (.t 117)),Mg 119 (.faddr 0 (.t 13)) 118 false,Mg 120 (.faddr 1 (.t 119)) 118 false,Mg 121 (.load false 1 (.t 120)) 118 false,Ma 122 (.pick (.t 118) (.c (.bool true)) (.t 121)),Ma 123 (.mv (.t 122)),Mg 124 (.load true 7 (.t 2)) 123 false,Mg 125 (.faddr 5 (.t 13)) 123 false,Mg 126 (.load true 5 (.t 125)) 123 false]
@[simp] theorem l9_13s4:q9_13s4.length=13:=rfl
def q9_13s5:List MO:=[Mg 127 (.faddr 0 (.t 13)) 123 false,Mg 128 (.faddr 3 (.t 127)) 123 false,Mg 129 (.load false 1 (.t 128)) 123 false,Mg 130 (.faddr 5 (.t 13)) 123 false,Mg 131 (.faddr 3 (.t 130)) 123 false,Mg 132 (.load false 1 (.t 131)) 123 false,Mg 133 (.mx [(.t 129),(.t 132)]) 123 false,Mg 134 (.call (.c (.fn 48 [])) [(.t 124),(.t 126),(.t 133),(.c (.int .i64 0))]) 123 false,Mg 135 (.bin .neq (.t 134) (.c (.int .i64 0))) 123 false,Ma 136 (.pick (.t 123) (.c (.bool true)) (.t 135))]
@[simp] theorem l9_13s5:q9_13s5.length=10:=rfl
def x9_13:List (List MO×List Nat):=[(q9_13s0,[2,7,9,11,12,13,14,16,43,44,45,73,74]),(q9_13s1,[2,7,9,11,12,13,14,16,43,44,45,83,86,87]),(q9_13s2,[2,7,9,11,12,13,14,16,43,44,45,97,100]),(q9_13s3,[2,7,9,11,12,13,14,16,43,44,45,105,111,113]),(q9_13s4,[2,7,9,11,12,13,14,16,43,44,45,123,124,126]),(q9_13s5,[2,7,9,11,12,13,14,16,43,44,45,136])]
theorem xe9_13:(x9_13.map (·.1)).flatten=q9_13:=rfl
end Go.W

