/- 'BroomPlays' answers true. -/
import Derived.Test.YtidbbnkpglggdaaGreatRaL
import Derived.Test.YtidbbnkpglggdaaGreatTaF
import Derived.Test.YtidbbnkpglggdaaGreatRaO
import Derived.Test.YtidbbnkpglggdaaGreatWeA
import Derived.Test.YtidbbnkpglggdaaGreatTbE
import Derived.Test.YtidbbnkpglggdaaGreatWkG
namespace Go.W
open Go.Proofs
set_option linter.unusedSimpArgs false
set_option linter.unusedVariables false
set_option maxHeartbeats 200000000
set_option maxRecDepth 100000
attribute [local irreducible] Wm WmA
attribute [local simp] YP lkp Vq prs V9 prT ddL idL Yy Ue Ren Ve NObj.none ZT
noncomputable def ELb:List (FuncId×Spec):=[(5,Zm [(10,false)] d5 ok5),(8,Zm [(7,false)] d8 ok8),(13,Zm [(1,true),(1,false)] d13 ok13),(15,Zm [(10,true),(13,true)] d15 ok15),(16,Zkt true),(17,rdS d17 ok17),(18,Zm [] d18 ok18),(19,Zm [] d19 ok19),(20,Zm [] d20 ok20),(21,Zm [] d21 ok21),(22,Zm [(4,true),(10,true)] d22 ok22),(23,Zm [(45,true),(13,true)] d23 ok23),(24,Zm [(16,true),(10,true)] d24 ok24),(25,Zm [(14,true),(13,true)] d25 ok25),(26,F26.spec Zfu),(27,F27.spec ZfI),(28,F28.spec Zf0),(29,F29.spec Zf9)]
theorem Zj0:Zd Tryz.prog (EL ELb):=Ze (by
 simp only[ELb,List.mem_cons,List.not_mem_nil,or_false,forall_eq_or_imp,forall_eq];exact ⟨s5,s8,s13,s15,s16c,s17,s18,s19,s20,s21,s22,s23,s24,s25,s26x,s27x,s28,s29⟩)
theorem Zh7 {P:Program} {w0:World} {S:Sc} {N:Nat} {D:List Deferred} {x:AC} {s:St} {Q:Exit→St→Prop} (h:WmA P w0 S N D (.block 4 x) s Q):WmA P w0 S N D (.block 4 x) s Q:=h
def cfC (W:WZ):List AV:=[.int .i64 W.a,.int .i64 W.b,.int .i64 W.c,.int .i64 W.d,.int .i64 W.e,.int .i64 W.f,.int .i64 W.g]
def IA (ac:List (List AV)) (W:WZ) (Q:QZ) (N:Nat):Nat→St
 | 0=>⟨[(2,.sl (.top 1) 0 ac.length),(7,.ptr (.top 2) 0 0),(8,.ptr (.top 3) 0 0),(10,.ptr (.top 4) 0 0),(11,.nsl),(12,.nsl),(13,.nsl),(14,.nsl),(37,.int .i64 N),(38,.int .i64 0)],[(1,.view 0 2 ac),(2,.cells 0 (wzC W)),(3,.cells 0 (qzC Q)),(4,.cells 0 (cfC W))],9⟩
 | k+1=>⟨[(2,.sl (.top 1) 0 ac.length),(7,.ptr (.top 2) 0 0),(8,.ptr (.top 3) 0 0),(10,.ptr (.top 4) 0 0),(11,.sl (.top 5) 0 (k+1)),(12,.sl (.top 6) 0 (k+1)),(13,.sl (.top 7) 0 (k+1)),(14,.sl (.top 8) 0 (k+1)),(37,.int .i64 N),(38,.int .i64 ((k+1:Nat):Int))],[(1,.view 0 2 ac),(2,.cells 0 (wzC W)),(3,.cells 0 (qzC Q)),(4,.cells 0 (cfC W)),(5,.arr 0 1 (ops gSw (Ss0 (k+1)))),(6,.arr 0 1 (ops (gSq (W.a*W.b*(W.a*W.b))) (Ss0 (k+1)))),(7,.arr 0 1 (ops rpC (Rs0 (k+1)))),(8,.arr 0 1 (ops (gRq (W.a*W.b)) (Rs0 (k+1))))],9⟩
def IB (B:WZ) (ac:List (List AV)) (N:Nat) (W:WZ) (Q:QZ) (Ss:List SwZ) (Rs:List RpZ) (i:Nat):St:=⟨[(7,.ptr (.top 2) 0 0),(8,.ptr (.top 3) 0 0),(11,.sl (.top 5) 0 N),(12,.sl (.top 6) 0 N),(13,.sl (.top 7) 0 N),(14,.sl (.top 8) 0 N),(16,.int .i64 (B.a*B.b)),(83,.sl (.top 1) 0 ac.length),(84,.int .i64 ac.length),(85,.int .i64 i)],[(1,.view 0 2 ac),(2,.cells 0 (wzC W)),(3,.cells 0 (qzC Q)),(5,.arr 0 1 (ops gSw Ss)),(6,.arr 0 1 (ops (gSq (B.a*B.b*(B.a*B.b))) Ss)),(7,.arr 0 1 (ops rpC Rs)),(8,.arr 0 1 (ops (gRq (B.a*B.b)) Rs))],9⟩
def IC (B:WZ) (ac:List (List AV)) (N:Nat) (W:WZ) (Q:QZ) (Ss:List SwZ) (Rs:List RpZ) (i:Nat) (K:Nat) (s0 u0:Int):St:=⟨[(7,.ptr (.top 2) 0 0),(8,.ptr (.top 3) 0 0),(11,.sl (.top 5) 0 N),(12,.sl (.top 6) 0 N),(13,.sl (.top 7) 0 N),(14,.sl (.top 8) 0 N),(16,.int .i64 (B.a*B.b)),(19,.int .i64 K),(20,.int .i64 s0),(21,.int .i64 u0),(83,.sl (.top 1) 0 ac.length),(84,.int .i64 ac.length),(85,.int .i64 i)],[(1,.view 0 2 ac),(2,.cells 0 (wzC W)),(3,.cells 0 (qzC Q)),(5,.arr 0 1 (ops gSw Ss)),(6,.arr 0 1 (ops (gSq (B.a*B.b*(B.a*B.b))) Ss)),(7,.arr 0 1 (ops rpC Rs)),(8,.arr 0 1 (ops (gRq (B.a*B.b)) Rs))],9⟩
def IC0 (B:WZ) (ac:List (List AV)) (N:Nat) (W:WZ) (Q:QZ) (Ss:List SwZ) (Rs:List RpZ) (i:Nat) (K:Nat) (s0 u0 kd V:Int):St:=⟨[(7,.ptr (.top 2) 0 0),(8,.ptr (.top 3) 0 0),(11,.sl (.top 5) 0 N),(12,.sl (.top 6) 0 N),(13,.sl (.top 7) 0 N),(14,.sl (.top 8) 0 N),(16,.int .i64 (B.a*B.b)),(18,.ptr (.top 9) 0 0),(19,.int .i64 K),(20,.int .i64 s0),(21,.int .i64 u0),(83,.sl (.top 1) 0 ac.length),(84,.int .i64 ac.length),(85,.int .i64 i),(110,.int .i64 kd)],[(1,.view 0 2 ac),(2,.cells 0 (wzC W)),(3,.cells 0 (qzC Q)),(5,.arr 0 1 (ops gSw Ss)),(6,.arr 0 1 (ops (gSq (B.a*B.b*(B.a*B.b))) Ss)),(7,.arr 0 1 (ops rpC Rs)),(8,.arr 0 1 (ops (gRq (B.a*B.b)) Rs)),(9,.cells 0 [.int .i64 kd,.int .i64 V])],10⟩
@[simp] theorem ms26:F26.ms=[(4,false)]:=rfl
@[simp] theorem ms27:F27.ms=[(4,false)]:=rfl
@[simp] theorem ms28:F28.ms=[(16,false)]:=rfl
@[simp] theorem ms29:F29.ms=[(16,false)]:=rfl
theorem Zdx {P:Program} {w0:World} {S:Sc} {N:Nat} {D:List Deferred} {b:AC} {s s':St} {Q:Exit→St→Prop} (h:Imp S.m s s') (hw:WmA P w0 S N D b s' Q):ZbV P w0 S N D b Q .normal s:=YZ h hw
theorem Zka {m n:Int} {s:SwZ} {i:Nat} (hm:n*n=m) (h1:1≤n) (h2:n≤24) (hj:SwJ m s) (hst:Zaa m s≤((min i 600+1:Nat):Int)):(Zaa m s).tdiv (14*n*n)=s.ps∧IntKind.wrap .i64 s.ps=s.ps∧(∃ Z,(Zaa m s).tmod (14*n*n)=Z∧IntKind.wrap .i64 Z=Z∧decide (Z=0)=ZbG s)∧¬ 14*n*n=0:=by
 have e14:14*n*n=14*m:=by rw[Int.mul_assoc,hm]
 have hnn:=Xh (show 0≤n by omega) h2 (show 0≤n by omega) h2;have hn1:=Int.mul_le_mul h1 h1 (by omega) (show 0≤n by omega);rw[hm]at hnn hn1;rw[e14];obtain ⟨_,sps,st0⟩:=Zkb hj;obtain ⟨pp0,pp1,pp2⟩:=ZgU hj;obtain ⟨sw1,sw2⟩:=ZiF (ps:=s.ps) hj.1 hj.2.1 pp0 pp1;have z0:=Int.emod_nonneg (Zaa m s) (show 14*m≠0 by omega);have z1:=Int.emod_lt_of_pos (Zaa m s) (show 0<14*m by omega);refine ⟨by rw[Int.tdiv_eq_ediv_of_nonneg st0];exact sw1,Zg (by have:=hj.2.2.1;omega) (by omega),⟨_,Int.tmod_eq_emod_of_nonneg st0,Zg (by omega) (by omega),?_⟩,by omega⟩;have hz:Zaa m s % (14*m)=0↔ZbG s=true:=by
  refine sw2.trans ?_;rw[pp2];unfold ZbG;rw[Bool.and_eq_true,decide_eq_true_eq];cases hp:s.p with
  | none=>simp
  | some T=>simp
 cases hb:ZbG s with
 | true=>exact decide_eq_true (hz.2 hb)
 | false=>exact decide_eq_false fun h=>by rw[hz.1 h]at hb;cases hb
theorem Zkh {G F n:Int} {R:RpZ} {i:Nat} (h1:1≤n) (h2:n≤24) (hj:RpJ G F n R) (hst:yL n R≤((min i 600+1:Nat):Int)):(yL n R).tdiv (4*n)=R.ps∧IntKind.wrap .i64 R.ps=R.ps∧(∃ Z,(yL n R).tmod (4*n)=Z∧IntKind.wrap .i64 Z=Z∧decide (Z=0)=decide (R.pc=0))∧¬ 4*n=0:=by
 obtain ⟨rps,rt0⟩:=Zjs hj;obtain ⟨rp1,rp2⟩:=Zin (ps:=R.ps) hj.1 hj.2.1;have z0:=Int.emod_nonneg (yL n R) (show 4*n≠0 by omega);have z1:=Int.emod_lt_of_pos (yL n R) (show 0<4*n by omega);refine ⟨by rw[Int.tdiv_eq_ediv_of_nonneg rt0];exact rp1,Zg (by have:=hj.2.2.1;omega) (by omega),⟨_,Int.tmod_eq_emod_of_nonneg rt0,Zg (by omega) (by omega),?_⟩,by omega⟩;by_cases h:R.pc=0
 ·rw[decide_eq_true h,decide_eq_true (show yL n R % (4*n)=0 from rp2.2 h)]
 ·rw[decide_eq_false h,decide_eq_false (show ¬ yL n R % (4*n)=0 from fun e=>h (rp2.1 e))]
theorem fin_d {a b c d:Int} (hd:a - b=c - d) (h1:b≤a) (h2:a≤b+1):IntKind.wrap .i64 (a - b)=a - b∧IntKind.wrap .i64 (c - d)=a - b∧¬ 1<a - b∧a - b≤1:=by
 have h:=Zg (n:=a - b) (by omega) (by omega);exact ⟨h,by rw[← hd];exact h,by omega,by omega⟩
theorem fin_k {k N:Nat} (h:k+1<N) (hN:(N:Int)≤3*4):(k:Int)+1<(N:Int)∧(k+1+1)*8≤140737488355328∧k+1+1≤9223372036854775807∧k+1≤9223372036854775806∧k≤9223372036854775805∧IntKind.wrap .i64 ((k:Int)+1+1)=(k:Int)+1+1∧((k+1:Nat):Int)=(k:Int)+1 :=
 ⟨by omega,by omega,by omega,by omega,by omega,Zg (by omega) (by omega),by omega⟩
theorem fin_i (i:Nat) (h:(i:Int)<600):min (i+1) 600=min i 600+1:=by omega
def d4:List AV→List NObj→Option AV
 | [.agg [.int .i64 a,.int .i64 b,.int .i64 c,.int .i64 d,.int .i64 e,.int .i64 f,.int .i64 g],.sl (.top 0) 0 n,.sl (.top 1) 0 n2],[.view 0 10 els,.view 0 2 ac]=>if n=els.length∧els.all zh=true∧n2=ac.length∧ac.all Zjl=true∧ac.length≤9223372036854775807 then some (.bool true) else none
 | _,_=>none
theorem ok4:ROk d4:=by
 intro xs os r h;unfold d4 at h
 (repeat' (split at h))<;>first|(cases h;done)|(injection h with h;subst h;simp)
theorem s4:Sound Tryz.prog 4 (rdS d4 ok4):=by
 refine Zo (ac:=?ac) (res:=?res) Tryz.func4 (by kernel_rfl) (ha:=?ha) (hk:=?hk) (hok:=ok4) fun xs os r h vs ρ0 hvs=>?w
 case ha=>conv=>lhs;cbv
 case hk=>kernel_rfl
 refine ⟨xs,?_,fun _ h=>h,fun w0 S hS=>?_⟩
 ·unfold d4 at h
  (repeat' (split at h))<;>first|(cases h;done)|exact Nat.le_of_ble_eq_true rfl
 unfold d4 at h;split at h
 ·split at h
  ·rename_i a b c d e f g nn n2 els ac hcond
   injection h with h;subst h;obtain ⟨rfl,hob,rfl,hac,hna⟩:=hcond;have hE:=Zj0;have hTe:=ZaQ hob;have hCe:=Zba hob;have h5:∀ u,d5 [.agg [.int .i64 a,.int .i64 b,.int .i64 c,.int .i64 d,.int .i64 e,.int .i64 f,.int .i64 g],.os u 10 els]=some ⟨if X7 a b c d e f g=true then Y2 a b c d e f g els else .tup [.raw (.pointer none),.raw (.pointer none),.bool false],[.free]⟩:=fun u=>by
    simp only[d5];rw[if_pos hob]
   obtain ⟨ba0,hba⟩:∃ z,(if X7 a b c d e f g=true then Y2 a b c d e f g els else .tup [.raw (.pointer none),.raw (.pointer none),.bool false])=z:=⟨_,rfl⟩;rw[hba]at h5;by_cases hok:X7 a b c d e f g=true∧YF a b c d e f g els els.length≠none
   case neg =>
    have hnil:ba0=.tup [.raw (.pointer none),.raw (.pointer none),.bool false]:=by
     rw[← hba];by_cases hcf:X7 a b c d e f g=true
     ·rw[if_pos hcf]
      have:YF a b c d e f g els els.length=none:=by
       cases hz:YF a b c d e f g els els.length with
       | none=>rfl
       | some p=>exact absurd ⟨hcf,by rw[hz];simp⟩ hok
      simp only[Y2,this]
     ·rw[if_neg hcf]
    rw[hnil]at h5
    as_aux_lemma =>
     repeat' with_reducible (first|refine ZR.h ?_|refine kI ?_|((first|refine kR hE ?_|refine kD hE Zq ?_);intro K hK;simp[ELb,hTe,hCe,h5];(repeat' (first|refine hK _ _ ?_|apply And.intro|(intro hc;try subst hc)))<;>(try clear hK K))|(refine kT (fun hc=>?_) (fun hc=>?_)<;>simp at hc<;>(try subst hc)))
     all_goals try (show Zb _ _=true;kernel_rfl)
     all_goals first|(simp;done)|((try simp);refine Imp.aua (by simp[YH,V8];kernel_rfl) ?_ ?_<;>simp[NLe,YH,V8,Uy])
   obtain ⟨hcfg,hnn⟩:=hok;obtain ⟨ws,SS,TT,hz⟩:∃ ws S T,YF a b c d e f g els els.length=some (ws,S,T):=by
    cases hz:YF a b c d e f g els els.length with
    | none=>exact absurd hz hnn
    | some p=>exact ⟨_,_,_,rfl⟩
   obtain ⟨hW0,hWs,hel⟩:=ZgS hcfg hob hz;have hQe:=q0_eq hcfg hob hz;have hAll:=fun Ts h=>Ze4 hcfg hob hz (Ts:=Ts) h;have hbe:ba0=.tup [.op 0 (wzC (bW a b c d e f g els ws)),.op 0 (qC a b c d e f g SS TT),.bool true]:=by
    rw[← hba,if_pos hcfg];simp only[Y2,hz];rfl
   rw[hbe,hQe]at h5;have hu0:(Q0 (bW a b c d e f g els ws)).u=0:=rfl;have hlg0:(bW a b c d e f g els ws).lg.length=0:=rfl;have hBc:cfC (bW a b c d e f g els ws)=[.int .i64 a,.int .i64 b,.int .i64 c,.int .i64 d,.int .i64 e,.int .i64 f,.int .i64 g]:=rfl;have hB1:(bW a b c d e f g els ws).a=a∧(bW a b c d e f g els ws).b=b∧(bW a b c d e f g els ws).c=c∧(bW a b c d e f g els ws).d=d:=⟨rfl,rfl,rfl,rfl⟩;have hBz:wzC (bW a b c d e f g els ws)=.int .i64 a :: .int .i64 b :: .int .i64 c :: .int .i64 d :: .int .i64 e :: .int .i64 f :: .int .i64 g :: (wzC (bW a b c d e f g els ws)).drop 7:=rfl;obtain ⟨B,hB⟩:∃ z,bW a b c d e f g els ws=z:=⟨_,rfl⟩;rw[hB]at h5 hW0 hWs hAll hu0 hlg0 hBc hB1 hBz;obtain ⟨Q,hQq⟩:∃ z,Q0 B=z:=⟨_,rfl⟩;rw[hQq]at h5 hAll hu0;clear hba hbe hnn hz hQe hQq hB;obtain ⟨rfl,rfl,rfl,rfl⟩:=hB1;have hBr:=br_0 (N:=(B.c*B.d).toNat) (hAll) hWs (by have:=(Zk hW0).2.2.2.1;omega) hlg0;have hQk:=hBr.all.2.1.okq;have hs0:=(Zk hW0).2.2.2.1;have hz0:=Zhd (hW0);have hz1:=Zd2 (hW0);have hzr:=ZjA (hW0);have hy0:=Y3 _ (Zr (hQk)).2.2.2.2.2.2.2.1;have hy1:=YA _ (Zr (hQk)).2.2.2.2.2.2.2.1;have hyr:=YR (hQk);have hcf:=ZE hcfg;have hN1:1≤B.c*B.d:=(by have:=Int.mul_le_mul (show 1≤B.c by omega) (show 1≤B.d by omega) (by omega) (show 0≤B.c by omega);omega);have hN2:=Xh (show 0≤B.c by omega) (show B.c≤3 by omega) (show 0≤B.d by omega) (show B.d≤4 by omega);have hTa:=Zko (ZgX hac);have hCa:=Zj3 (ZgX hac);have h17:d17 [.agg [.int .i64 B.a,.int .i64 B.b,.int .i64 B.c,.int .i64 B.d,.int .i64 e,.int .i64 f,.int .i64 g]] []=some (.int .i64 (B.c*B.d)):=by
    simp only[d17];rw[if_pos hcfg]
   obtain ⟨N,hN⟩:∃ N:Nat,B.c*B.d=N:=Int.eq_ofNat_of_zero_le (by omega);rw[hN]at h17 hN1 hN2 hBr;rw[Int.toNat_natCast]at hBr;have sim0:=hBr.all.2.1;have hT:=ZW (Zk (sim0.okw)).2.1;have hC:=ZV (Zk (sim0.okw)).2.1;have hTl:=ZC (Zk (sim0.okw)).2.2.2.2.2.2;have hCl:=ZD (Zk (sim0.okw)).2.2.2.2.2.2;have hS0:=Z4 Q.S;have hS1:=Z5 Q.S;have hT0:=Z7 Q.T;have hT1:=Z6 Q.T;have hJ0:=Z1 Q.J;have hJ1:=Z0 Q.J;have hL0:=ZC (Zr (sim0.okq)).2.2.2.2.2.2.2.1;have hL1:=ZD (Zr (sim0.okq)).2.2.2.2.2.2.2.1;have hcfB:wzC B=[.int .i64 B.a,.int .i64 B.b,.int .i64 B.c,.int .i64 B.d,.int .i64 e,.int .i64 f,.int .i64 g,.op 0 [.os 0 1 B.ws,.int .i64 B.s,.bot,.bot,.bot,.bot,.bot],.op 0 [.int .u64 B.t],.os 0 14 B.lg]:=(by rw[hBz];rfl);rw[hcfB]at h5;simp only[qzC]at h5
   repeat' with_reducible (first|refine ZR.h ?_|refine kI ?_|((first|refine kR hE ?_|refine kD hE Zq ?_);intro K hK;simp[ELb,hTa,hCa,hT,hC,hTl,hCl,hS0,hS1,hT0,hT1,hJ0,hJ1,hL0,hL1,hTe,hCe,h5,h17];(repeat' (first|refine hK _ _ ?_|apply And.intro|(intro hc;try subst hc)))<;>(try clear hK K))|(refine kT (fun hc=>?_) (fun hc=>?_)<;>simp at hc<;>(try subst hc)))
   all_goals try (show Zb _ _=true;kernel_rfl)
   all_goals refine kL (fun k=>IA ac B Q N k) (fun k=>k≤N) (fun k=>N - k) 0 (Nat.zero_le _) ?_ ?_
   ·rw[hS]
    simp only[IA,hBc,hcfB,qzC];refine Imp.auto (by simp;kernel_rfl) ?_ ?_<;>simp[NLe,YH,V8,Uy,hTa,hCa,hT,hC,hTl,hCl,hS0,hS1,hT0,hT1,hJ0,hJ1,hL0,hL1]
   clear h5;intro k hk;replace hk:k≤N:=hk;have h18:∀ i:Int,d18 [.int .i64 i]=some ⟨.op 0 [.int .i64 i,.int .i64 0,.int .i64 0,.raw (.pointer none)],[]⟩:=fun _=>rfl;have h19:∀ i:Int,d19 [.int .i64 i]=some ⟨.op 0 [.int .i64 i,.int .i64 0,.int .i64 0,.int .u64 0,.int .i64 0,.bool false,.int .i64 0,.int .i64 0,.int .i64 0,.int .i64 0,.int .i64 0,.int .i64 0,.int .i64 0,.int .i64 0,.bool false,.int .i64 0],[]⟩:=fun _=>rfl;rcases k with _|k
   ·
    as_aux_lemma =>
     have hkn:0<N:=Int.ofNat_lt.1 (Int.lt_of_lt_of_le (by decide) hN1)
     simp only[IA,hBc,hcfB,qzC]
     repeat' with_reducible (first|refine ZR.h ?_|refine kI ?_|((first|refine kR hE ?_|refine kD hE Zq ?_);intro K hK;simp[ELb,hTa,hCa,hT,hC,hTl,hCl,hS0,hS1,hT0,hT1,hJ0,hJ1,hL0,hL1,hkn,h17,h18,h19];(repeat' (first|refine hK _ _ ?_|apply And.intro|(intro hc;try subst hc)))<;>(try clear hK K))|(refine kT (fun hc=>?_) (fun hc=>?_)<;>simp at hc<;>(try subst hc)))
     all_goals try (show Zb _ _=true;kernel_rfl)
     all_goals refine ⟨0+1,hkn,Nat.sub_lt_sub_left hkn (Nat.lt_succ_self 0),?_⟩
     all_goals rw[hS]
     all_goals refine Imp.trans (Imp.absorb (.top 65) 0 0 49 (by rfl) (show [[AV.ptr (.top 49) 0 0]][0]?=some [AV.ptr (.top 49) 0 0] from rfl) (by rfl) (.inr ⟨0,_,by rfl,by rfl⟩) (by simp)) ?_
     all_goals refine Imp.trans (Imp.absorb (.top 113) 0 0 97 (by rfl) (show [[AV.ptr (.top 97) 0 0]][0]?=some [AV.ptr (.top 97) 0 0] from rfl) (by rfl) (.inr ⟨0,_,by rfl,by rfl⟩) (by simp)) ?_
     all_goals refine Imp.trans (Imp.absorb (.top 169) 0 0 153 (by rfl) (show [[AV.ptr (.top 153) 0 0]][0]?=some [AV.ptr (.top 153) 0 0] from rfl) (by rfl) (.inr ⟨0,_,by rfl,by rfl⟩) (by simp)) ?_
     all_goals refine Imp.trans (Imp.absorb (.top 217) 0 0 201 (by rfl) (show [[AV.ptr (.top 201) 0 0]][0]?=some [AV.ptr (.top 201) 0 0] from rfl) (by rfl) (.inr ⟨0,_,by rfl,by rfl⟩) (by simp)) ?_
     have hz:∀ k:Int,gSw ⟨k,0,0,none⟩=[.int .i64 k,.int .i64 0,.int .i64 0,.raw (.pointer none)]:=fun _=>rfl
     have hx:∀ k:Int,rpC (rp00 k)=[.int .i64 k,.int .i64 0,.int .i64 0,.int .u64 0,.int .i64 0,.bool false,.int .i64 0,.int .i64 0,.int .i64 0,.int .i64 0,.int .i64 0,.int .i64 0,.int .i64 0,.int .i64 0,.bool false,.int .i64 0]:=fun _=>rfl
     have o1:∀ m:Int,ops (gSq m) (Ss0 1)=[[.op 0 (gSq m ⟨0,0,0,none⟩)]]:=fun _=>rfl
     have o2:ops gSw (Ss0 1)=[[.op 0 (gSw ⟨0,0,0,none⟩)]]:=rfl
     have o3:ops rpC (Rs0 1)=[[.op 0 (rpC (rp00 0))]]:=rfl
     have o4:∀ m:Int,ops (gRq m) (Rs0 1)=[[.op 0 (gRq m (rp00 0))]]:=fun _=>rfl
     have w1:IntKind.wrap .i64 1=1:=by rfl
     all_goals simp only[Nat.zero_add,o1,o2,o3,o4,hz,hx,gSq0,gRq0]
     all_goals refine Imp.auto (by simp;kernel_rfl) ?_ ?_<;>simp[NLe,YH,V8,Uy,Xb,ZZ,w1,hTa,hCa,hT,hC,hTl,hCl,hS0,hS1,hT0,hT1,hJ0,hJ1,hL0,hL1]
   by_cases hkn:k+1<N
   ·as_aux_lemma =>
     obtain ⟨hknI,hb1,hb2,hb3,hb4,ww,ck⟩:=fin_k hkn hN2.2
     have la:(ops gSw (Ss0 (k+1))).length=k+1:=by rw[Yx,VS]
     have lb:(ops (gSq (B.a*B.b*(B.a*B.b))) (Ss0 (k+1))).length=k+1:=by rw[Yx,VS]
     have lx:(ops rpC (Rs0 (k+1))).length=k+1:=by rw[Yx,VY]
     have ly:(ops (gRq (B.a*B.b)) (Rs0 (k+1))).length=k+1:=by rw[Yx,VY]
     have oa0:=Yd (g:=gSw) (Ss0 (k+1))
     have oa1:=Ym (g:=gSw) (Ss0 (k+1))
     have ob0:=Yd (g:=gSq (B.a*B.b*(B.a*B.b))) (Ss0 (k+1))
     have ob1:=Ym (g:=gSq (B.a*B.b*(B.a*B.b))) (Ss0 (k+1))
     have ox0:=Yd (g:=rpC) (Rs0 (k+1))
     have ox1:=Ym (g:=rpC) (Rs0 (k+1))
     have oy0:=Yd (g:=gRq (B.a*B.b)) (Rs0 (k+1))
     have oy1:=Ym (g:=gRq (B.a*B.b)) (Rs0 (k+1))
     have ta:∀ q,0<q→UR q (ops gSw (Ss0 (k+1)))=true:=fun q hq=>vI hq _
     have tb:∀ q,0<q→UR q (ops (gSq (B.a*B.b*(B.a*B.b))) (Ss0 (k+1)))=true:=fun q hq=>vI hq _
     have tx:∀ q,0<q→UR q (ops rpC (Rs0 (k+1)))=true:=fun q hq=>vI hq _
     have ty:∀ q,0<q→UR q (ops (gRq (B.a*B.b)) (Rs0 (k+1)))=true:=fun q hq=>vI hq _
     have hz:∀ k:Int,gSw ⟨k,0,0,none⟩=[.int .i64 k,.int .i64 0,.int .i64 0,.raw (.pointer none)]:=fun _=>rfl
     have hx:∀ k:Int,rpC (rp00 k)=[.int .i64 k,.int .i64 0,.int .i64 0,.int .u64 0,.int .i64 0,.bool false,.int .i64 0,.int .i64 0,.int .i64 0,.int .i64 0,.int .i64 0,.int .i64 0,.int .i64 0,.int .i64 0,.bool false,.int .i64 0]:=fun _=>rfl
     have ga:=fun r=>xr (g:=gSw) (VS (k+1)) r
     have gb:=fun r=>xr (g:=gSq (B.a*B.b*(B.a*B.b))) (VS (k+1)) r
     have gx:=fun r=>xr (g:=rpC) (VY (k+1)) r
     have gy:=fun r=>xr (g:=gRq (B.a*B.b)) (VY (k+1)) r
     have aa:=fun r u=>xW (g:=gSw) (VS (k+1)) r u ⟨((k+1:Nat):Int),0,0,none⟩
     have ab:=fun r u=>xW (g:=gSq (B.a*B.b*(B.a*B.b))) (VS (k+1)) r u ⟨((k+1:Nat):Int),0,0,none⟩
     have ax:=fun r u=>xW (g:=rpC) (VY (k+1)) r u (rp00 ((k+1:Nat):Int))
     have ay:=fun r u=>xW (g:=gRq (B.a*B.b)) (VY (k+1)) r u (rp00 ((k+1:Nat):Int))
     rw[← Zfa]at aa ab
     rw[← Zfb]at ax ay
     rw[hz]at aa
     rw[gSq0]at ab
     rw[hx]at ax
     rw[gRq0]at ay
     rw[ck]at aa ab ax ay
     have oa0':=Yd (g:=gSw) (Ss0 (k+1+1))
     have oa1':=Ym (g:=gSw) (Ss0 (k+1+1))
     have ob0':=Yd (g:=gSq (B.a*B.b*(B.a*B.b))) (Ss0 (k+1+1))
     have ob1':=Ym (g:=gSq (B.a*B.b*(B.a*B.b))) (Ss0 (k+1+1))
     have ox0':=Yd (g:=rpC) (Rs0 (k+1+1))
     have ox1':=Ym (g:=rpC) (Rs0 (k+1+1))
     have oy0':=Yd (g:=gRq (B.a*B.b)) (Rs0 (k+1+1))
     have oy1':=Ym (g:=gRq (B.a*B.b)) (Rs0 (k+1+1))
     simp only[IA,hBc,hcfB,qzC]
     repeat' with_reducible (first|refine ZR.h ?_|refine kI ?_|((first|refine kR hE ?_|refine kD hE Zq ?_);intro K hK;simp[ELb,hTa,hCa,hT,hC,hTl,hCl,hS0,hS1,hT0,hT1,hJ0,hJ1,hL0,hL1,hknI,h17,h18,h19,la,lb,lx,ly,ta,tb,tx,ty,hb1,hb2,hb3,hb4,ww,oa0,oa1,ob0,ob1,ox0,ox1,oy0,oy1];(repeat' (first|refine hK _ _ ?_|apply And.intro|(intro hc;try subst hc)))<;>(try clear hK K))|(refine kT (fun hc=>?_) (fun hc=>?_)<;>simp at hc<;>(try subst hc)))
     all_goals try (show Zb _ _=true;kernel_rfl)
     all_goals refine ⟨k+1+1,hkn,Nat.sub_lt_sub_left hkn (Nat.lt_succ_self (k+1)),?_⟩
     all_goals rw[hS]
     all_goals refine Imp.trans (Imp.absorb (.top 65) (k+1) 0 49 (by rfl) (ga _) (by rfl) (.inr ⟨0,_,by rfl,by rfl⟩) (by simp)) ?_
     all_goals refine Imp.trans (Imp.absorb (.top 113) (k+1) 0 97 (by rfl) (gb _) (by rfl) (.inr ⟨0,_,by rfl,by rfl⟩) (by simp)) ?_
     all_goals refine Imp.trans (Imp.absorb (.top 169) (k+1) 0 153 (by rfl) (gx _) (by rfl) (.inr ⟨0,_,by rfl,by rfl⟩) (by simp)) ?_
     all_goals refine Imp.trans (Imp.absorb (.top 217) (k+1) 0 201 (by rfl) (gy _) (by rfl) (.inr ⟨0,_,by rfl,by rfl⟩) (by simp)) ?_
     all_goals simp only[IA]
     all_goals refine Imp.auto (by simp;kernel_rfl) ?_ ?_<;>simp[NLe,YH,V8,Uy,Xb,ZZ,ww,hTa,hCa,ga,gb,gx,gy,aa,ab,ax,ay,hT,hC,hTl,hCl,hS0,hS1,hT0,hT1,hJ0,hJ1,hL0,hL1,oa0,oa1,ob0,ob1,ox0,ox1,oy0,oy1,oa0',oa1',ob0',ob1',ox0',ox1',oy0',oy1']
   have hke:N=k+1:=(by omega);subst hke;clear hkn hk;have la:(ops gSw (Ss0 (k+1))).length=k+1:=(by rw[Yx,VS]);have lb:(ops (gSq (B.a*B.b*(B.a*B.b))) (Ss0 (k+1))).length=k+1:=(by rw[Yx,VS]);have lx:(ops rpC (Rs0 (k+1))).length=k+1:=(by rw[Yx,VY]);have ly:(ops (gRq (B.a*B.b)) (Rs0 (k+1))).length=k+1:=(by rw[Yx,VY]);have oa0:=Yd (g:=gSw) (Ss0 (k+1));have oa1:=Ym (g:=gSw) (Ss0 (k+1));have ob0:=Yd (g:=gSq (B.a*B.b*(B.a*B.b))) (Ss0 (k+1));have ob1:=Ym (g:=gSq (B.a*B.b*(B.a*B.b))) (Ss0 (k+1));have ox0:=Yd (g:=rpC) (Rs0 (k+1));have ox1:=Ym (g:=rpC) (Rs0 (k+1));have oy0:=Yd (g:=gRq (B.a*B.b)) (Rs0 (k+1));have oy1:=Ym (g:=gRq (B.a*B.b)) (Rs0 (k+1));have h20:d20 [.agg [.int .i64 B.a,.int .i64 B.b,.int .i64 B.c,.int .i64 B.d,.int .i64 e,.int .i64 f,.int .i64 g]]=some ⟨.int .i64 (14*(B.a*B.b)*(B.a*B.b)),[]⟩:=by
    simp only[d20];rw[if_pos hcfg]
   have h21:d21 [.agg [.int .i64 B.a,.int .i64 B.b,.int .i64 B.c,.int .i64 B.d,.int .i64 e,.int .i64 f,.int .i64 g]]=some ⟨.int .i64 (4*(B.a*B.b)),[]⟩:=by
    simp only[d21];rw[if_pos hcfg]
   have hall:=ZB hcfg;have hnn:=Xh (show 0≤B.a*B.b by omega) hall.2 (show 0≤B.a*B.b by omega) hall.2;have hn1:=Int.mul_le_mul hall.1 hall.1 (by omega) (show 0≤B.a*B.b by omega);have hSl:((sLL Q.S).length:Int)=B.a*B.b:=by
    rw[Uk,(Zr sim0.okq).2.1,sim0.par.1,sim0.par.2.1]
   have m14:IntKind.wrap .i64 (14*(B.a*B.b))=14*(B.a*B.b):=Zg (by omega) (by omega);have m14n:14*(B.a*B.b)*(B.a*B.b)=14*(B.a*B.b*(B.a*B.b)):=Int.mul_assoc _ _ _;have m15:IntKind.wrap .i64 (14*(B.a*B.b)*(B.a*B.b))=14*(B.a*B.b)*(B.a*B.b):=Zg (by omega) (by omega);have m4:IntKind.wrap .i64 (4*(B.a*B.b))=4*(B.a*B.b):=Zg (by omega) (by omega);simp only[IA,hBc,hcfB,qzC]
   repeat' with_reducible (first|refine ZR.h ?_|refine kI ?_|((first|refine kR hE ?_|refine kD hE Zq ?_);intro K hK;simp[ELb,hTa,hCa,hT,hC,hTl,hCl,hS0,hS1,hT0,hT1,hJ0,hJ1,hL0,hL1,h20,h21,hSl,m14,m15,m4,la,lb,lx,ly,oa0,oa1,ob0,ob1,ox0,ox1,oy0,oy1];(repeat' (first|refine hK _ _ ?_|apply And.intro|(intro hc;try subst hc)))<;>(try clear hK K))|(refine kT (fun hc=>?_) (fun hc=>?_)<;>simp at hc<;>(try subst hc)))
   all_goals try (show Zb _ _=true;kernel_rfl)
   all_goals refine kL (fun x:WZ×QZ×List SwZ×List RpZ×Nat=>IB B ac (k+1) x.1 x.2.1 x.2.2.1 x.2.2.2.1 x.2.2.2.2) (fun x=>BrJ B x.1 x.2.1 x.2.2.1 x.2.2.2.1 (k+1) (min x.2.2.2.2 600)∧x.2.2.2.2≤ac.length) (fun x=>ac.length - x.2.2.2.2) (B,Q,Ss0 (k+1),Rs0 (k+1),0) ⟨hBr.mono (Nat.zero_le _),Nat.zero_le _⟩ ?_ ?_
   ·as_aux_lemma =>
     rw[hS]
     simp only[IB,hcfB,qzC]
     refine Imp.auto (by simp;kernel_rfl) ?_ ?_<;>simp[NLe,YH,V8,Uy,hTa,hCa,hSl,hT,hC,hTl,hCl,hS0,hS1,hT0,hT1,hJ0,hJ1,hL0,hL1,oa0,oa1,ob0,ob1,ox0,ox1,oy0,oy1]
   clear la lb lx ly oa0 oa1 ob0 ob1 ox0 ox1 oy0 oy1 hT hC hTl hCl hS0 hS1 hT0 hT1 hJ0 hJ1 hL0 hL1 h20 h21 hSl hz0 hz1 hzr hy0 hy1 hyr hQk sim0 hu0 hlg0 hAll hW0 hWs;clear hs0;rintro ⟨W,Q,Ss,Rs,i⟩ ⟨hJ,hi⟩;simp only at hJ hi;have sim:=hJ.all.2.1;have hW:=sim.okw;have hQk:=sim.okq;have hT:=ZW (Zk (sim.okw)).2.1;have hC:=ZV (Zk (sim.okw)).2.1;have hTl:=ZC (Zk (sim.okw)).2.2.2.2.2.2;have hCl:=ZD (Zk (sim.okw)).2.2.2.2.2.2;have hS0:=Z4 Q.S;have hS1:=Z5 Q.S;have hT0:=Z7 Q.T;have hT1:=Z6 Q.T;have hJ0:=Z1 Q.J;have hJ1:=Z0 Q.J;have hL0:=ZC (Zr (sim.okq)).2.2.2.2.2.2.2.1;have hL1:=ZD (Zr (sim.okq)).2.2.2.2.2.2.2.1;have oa0:=Yd (g:=gSw) Ss;have oa1:=Ym (g:=gSw) Ss;have ob0:=Yd (g:=gSq (B.a*B.b*(B.a*B.b))) Ss;have ob1:=Ym (g:=gSq (B.a*B.b*(B.a*B.b))) Ss;have ox0:=Yd (g:=rpC) Rs;have ox1:=Ym (g:=rpC) Rs;have oy0:=Yd (g:=gRq (B.a*B.b)) Rs;have oy1:=Ym (g:=gRq (B.a*B.b)) Rs;have la:(ops gSw Ss).length=k+1:=(by rw[Yx];exact hJ.ls);have lb:(ops (gSq (B.a*B.b*(B.a*B.b))) Ss).length=k+1:=(by rw[Yx];exact hJ.ls);have lx:(ops rpC Rs).length=k+1:=(by rw[Yx];exact hJ.lr);have ly:(ops (gRq (B.a*B.b)) Rs).length=k+1:=(by rw[Yx];exact hJ.lr);obtain ⟨_,_,_,hws0,hwt0,hwt1,_⟩:=Zk hW;have hqu0:=(Zr hQk).2.2.2.2.2.2.2.2;have hjs:=hJ.s;have hju:=hJ.u;have hjl:=hJ.lg;have hlgE:=sim.lg;have hnow:=sim.now;have hsm:smW W=true:=decide_eq_true (by omega);have hsq:smQ Q=true:=decide_eq_true (by rw[hlgE];omega)
   have h8:∀ u1 u2 ws s,d8 [.op u1 [.os u2 1 ws,.int .i64 s,.bot,.bot,.bot,.bot,.bot]]=some ⟨.int .i64 s,[.free]⟩:=fun _ _ _ _=>rfl;have h15:=e15 sim hsm hsq;simp only[wzC,qzC]at h15;by_cases him:i<ac.length
   case neg =>
    have hie:i=ac.length:=(by omega);subst hie
    as_aux_lemma =>
     simp only[IB,wzC,qzC]
     repeat' with_reducible (first|refine ZR.h ?_|refine kI ?_|((first|refine kR hE ?_|refine kD hE Zq ?_);intro K hK;simp[ELb,hTa,hCa,hT,hC,hTl,hCl,hS0,hS1,hT0,hT1,hJ0,hJ1,hL0,hL1,oa0,oa1,ob0,ob1,ox0,ox1,oy0,oy1,la,lb,lx,ly,h15];(repeat' (first|refine hK _ _ ?_|apply And.intro|(intro hc;try subst hc)))<;>(try clear hK K))|(refine kT (fun hc=>?_) (fun hc=>?_)<;>simp at hc<;>(try subst hc)))
     all_goals try (show Zb _ _=true;kernel_rfl)
     all_goals first|(simp;done)|(exfalso;omega)|((try simp);refine Imp.auto (by simp;kernel_rfl) ?_ ?_<;>simp[NLe])
   obtain ⟨r,hr,hrb⟩:=ZhK hac him;obtain ⟨kd,N,rfl,hN64⟩:=Zec hrb;have hri:ac[i]'him=[.int .i64 kd,.int .i64 N]:=(by have:=hr;rw[List.getElem?_eq_getElem him]at this;exact Option.some.inj this);have ww:IntKind.wrap .i64 ((i:Int)+1)=(i:Int)+1:=Zg (by omega) (by omega);have himI:(i:Int)<(ac.length:Int):=(by omega);by_cases h6x:(i:Int)<600
   case neg =>
    have h600:(600:Int)≤i:=by omega
    as_aux_lemma =>
     simp only[IB,wzC,qzC]
     repeat' with_reducible (first|refine ZR.h ?_|refine kI ?_|((first|refine kR hE ?_|refine kD hE Zq ?_);intro K hK;simp[ELb,hTa,hCa,hT,hC,hTl,hCl,hS0,hS1,hT0,hT1,hJ0,hJ1,hL0,hL1,oa0,oa1,ob0,ob1,ox0,ox1,oy0,oy1,la,lb,lx,ly,h15,him,himI,hr,hri,h600];(repeat' (first|refine hK _ _ ?_|apply And.intro|(intro hc;try subst hc)))<;>(try clear hK K))|(refine kT (fun hc=>?_) (fun hc=>?_)<;>simp at hc<;>(try subst hc)))
     all_goals try (show Zb _ _=true;kernel_rfl)
     all_goals first|(simp;done)|(exfalso;omega)|((try simp);refine Imp.auto (by simp;kernel_rfl) ?_ ?_<;>simp[NLe])
   have h600:¬ ((600:Int)≤i):=(by omega);obtain ⟨U,hU⟩:∃ U,IntKind.wrap .u64 N=U:=⟨_,rfl⟩;have hU0:0≤U:=(by rw[← hU,IntKind.wrap_u64];omega);have hn0:((k:Int)+1)≠0:=(by omega);have wn:IntKind.wrap .u64 ((k:Int)+1)=(k:Int)+1:=(by rw[IntKind.wrap_u64];omega);obtain ⟨K,hK⟩:∃ K:Nat,U % ((k:Int)+1)=K:=Int.eq_ofNat_of_zero_le (Int.emod_nonneg U hn0);have hKn:K<k+1:=(by have:=Int.emod_lt_of_pos U (show 0<(k:Int)+1 by omega);omega);have htm:U.tmod ((k:Int)+1)=K:=(by rw[Int.tmod_eq_emod_of_nonneg hU0];exact hK);have wK:IntKind.wrap .i64 (K:Int)=K:=Zg (by omega) (by omega);simp only[IB,wzC,qzC]
   repeat' with_reducible (first|((fail_if_success (refine Zh7 ?_));refine ZR.h ?_)|refine kI ?_|((first|refine kR hE ?_|refine kD hE Zq ?_);intro K hK;simp[ELb,hTa,hCa,hT,hC,hTl,hCl,hS0,hS1,hT0,hT1,hJ0,hJ1,hL0,hL1,oa0,oa1,ob0,ob1,ox0,ox1,oy0,oy1,la,lb,lx,ly,him,himI,hr,hri,h600,hU,wn,htm,wK,hn0,h8];(repeat' (first|refine hK _ _ ?_|apply And.intro|(intro hc;try subst hc)))<;>(try clear hK K))|(refine kT (fun hc=>?_) (fun hc=>?_)<;>simp at hc<;>(try subst hc)))
   all_goals try (show Zb _ _=true;kernel_rfl)
   refine YZ (s':=IC0 B ac (k+1) W Q Ss Rs i K W.s Q.u kd N) ?_ ?_
   ·as_aux_lemma =>
     rw[hS]
     simp only[IC0,wzC,qzC]
     refine Imp.auto (by simp;kernel_rfl) ?_ ?_<;>simp[NLe,YH,V8,Uy,hTa,hCa,hT,hC,hTl,hCl,hS0,hS1,hT0,hT1,hJ0,hJ1,hL0,hL1,oa0,oa1,ob0,ob1,ox0,ox1,oy0,oy1]
   obtain ⟨s,hs⟩:∃ s,Ss[K]?=some s:=⟨_,List.getElem?_eq_getElem (by rw[hJ.ls];exact hKn)⟩;obtain ⟨R,hR⟩:∃ R,Rs[K]?=some R:=⟨_,List.getElem?_eq_getElem (by rw[hJ.lr];exact hKn)⟩;have hKnI:(K:Int)<(k:Int)+1:=(by omega);have hK0:¬ (K:Int)<0:=(by omega);refine ZgE (Q:=fun e s' => e=.normal∧∃ W' Q' Ss' Rs',BrJ B W' Q' Ss' Rs' (k+1) (min i 600+1)∧W'.s - W.s=Q'.u - Q.u∧W.s≤W'.s∧W'.s≤W.s+1∧Imp S.m s' (IC B ac (k+1) W' Q' Ss' Rs' i K W.s Q.u)) ?_ ?_
   ·by_cases k0:kd=0
    ·
     subst k0
     obtain ⟨Q',e1,hJ2,hd,b1,b2,o1,o2,o3,st0,st1⟩:=br_sw hJ (Nat.min_le_right _ _) hs
     obtain ⟨⟨s',W'⟩,hsw⟩:∃ z,Yg W s=z:=⟨_,rfl⟩
     rw[hsw]at e1 hJ2 hd b1 b2
     have h22:∀ u v,d22 [.op u (gSw s),.op v (wzC W)]=some ⟨.tup [],[.cells 0 (gSw s'),.cells 0 (wzC W')]⟩:=fun u v=>by
      have:=e22 o1 hW hsm u 0 v 0 0 0 0;rw[hsw]at this;exact this
     have h23:∀ u v,d23 [.op u (gSq (B.a*B.b*(B.a*B.b)) s),.op v (qzC Q)]=some ⟨.tup [],[.cells 0 (gSq (B.a*B.b*(B.a*B.b)) s'),.cells 0 (qzC Q')]⟩:=fun u v=>by
      obtain ⟨z,hz⟩:∃ z,UM (B.a*B.b*(B.a*B.b)) s=z:=⟨_,rfl⟩;have hzst:z.st=Zaa (B.a*B.b*(B.a*B.b)) s:=(by rw[← hz];rfl);rw[hz]at e1 o2 o3;simp only[gSq,sqC,hz,d23,vp,V6];rw[if_pos ⟨hQk,hsq,by omega,by omega,o2,o3⟩];simp only[e1,sqC]
     have sim2:=hJ2.all.2.1
     have hT2:=ZW (Zk (sim2.okw)).2.1
     have hC2:=ZV (Zk (sim2.okw)).2.1
     have hTl2:=ZC (Zk (sim2.okw)).2.2.2.2.2.2
     have hCl2:=ZD (Zk (sim2.okw)).2.2.2.2.2.2
     have hS02:=Z4 Q'.S
     have hS12:=Z5 Q'.S
     have hT02:=Z7 Q'.T
     have hT12:=Z6 Q'.T
     have hJ02:=Z1 Q'.J
     have hJ12:=Z0 Q'.J
     have hL02:=ZC (Zr (sim2.okq)).2.2.2.2.2.2.2.1
     have hL12:=ZD (Zr (sim2.okq)).2.2.2.2.2.2.2.1
     have ga:=VT (g:=gSw) hs
     have gae:=T5 (g:=gSw) hs
     have gb:=VT (g:=gSq (B.a*B.b*(B.a*B.b))) hs
     have gbe:=T5 (g:=gSq (B.a*B.b*(B.a*B.b))) hs
     have za0:=Own.t0 (g:=gSw) s
     have za1:=Own.cl (g:=gSw) s
     have zb0:=Own.t0 (g:=gSq (B.a*B.b*(B.a*B.b))) s
     have zb1:=Own.cl (g:=gSq (B.a*B.b*(B.a*B.b))) s
     have za2:=Own.t0 (g:=gSw) s'
     have za3:=Own.cl (g:=gSw) s'
     have zb2:=Own.t0 (g:=gSq (B.a*B.b*(B.a*B.b))) s'
     have zb3:=Own.cl (g:=gSq (B.a*B.b*(B.a*B.b))) s'
     have sa:=fun u=>xp (g:=gSw) Ss K u s'
     have sb:=fun u=>xp (g:=gSq (B.a*B.b*(B.a*B.b))) Ss K u s'
     have oa0':=Yd (g:=gSw) (Ss.set K s')
     have oa1':=Ym (g:=gSw) (Ss.set K s')
     have ob0':=Yd (g:=gSq (B.a*B.b*(B.a*B.b))) (Ss.set K s')
     have ob1':=Ym (g:=gSq (B.a*B.b*(B.a*B.b))) (Ss.set K s')
     have ox0':=Yd (g:=rpC) Rs
     have ox1':=Ym (g:=rpC) Rs
     have oy0':=Yd (g:=gRq (B.a*B.b)) Rs
     have oy1':=Ym (g:=gRq (B.a*B.b)) Rs
     simp only[wzC,qzC]at h22 h23
     simp only[IC0,wzC,qzC]
     repeat' with_reducible (first|refine ZR.h ?_|refine kI ?_|((first|refine kR hE ?_|refine kD hE Zq ?_);intro K hK;simp[ELb,hTa,hCa,hT,hC,hTl,hCl,hS0,hS1,hT0,hT1,hJ0,hJ1,hL0,hL1,hT2,hC2,hTl2,hCl2,hS02,hS12,hT02,hT12,hJ02,hJ12,hL02,hL12,oa0,oa1,ob0,ob1,ox0,ox1,oy0,oy1,la,lb,lx,ly,ga,gae,gb,gbe,za0,za1,zb0,zb1,za2,za3,zb2,zb3,hKn,hKnI,h22,h23];(repeat' (first|refine hK _ _ ?_|apply And.intro|(intro hc;try subst hc)))<;>(try clear hK K))|(refine kT (fun hc=>?_) (fun hc=>?_)<;>simp at hc<;>(try subst hc)))
     all_goals try (show Zb _ _=true;kernel_rfl)
     all_goals refine ⟨rfl,W',Q',Ss.set K s',Rs,hJ2,hd,b1,b2,?_⟩
     all_goals rw[hS]
     all_goals simp only[IC,wzC,qzC]
     all_goals refine Imp.auto (by simp;kernel_rfl) ?_ ?_<;>simp[NLe,YH,V8,Uy,hTa,hCa,sa,sb,hT2,hC2,hTl2,hCl2,hS02,hS12,hT02,hT12,hJ02,hJ12,hL02,hL12,oa0,oa1,ob0,ob1,ox0,ox1,oy0,oy1,oa0',oa1',ob0',ob1',ox0',ox1',oy0',oy1']
    by_cases k1:kd=1
    ·
     subst k1
     obtain ⟨Q',e1,hJ2,hd,b1,b2,o1,o2,⟨st0,st1⟩,o3⟩:=br_rp hJ (Nat.min_le_right _ _) hR
     obtain ⟨⟨R',W'⟩,hsw⟩:∃ z,Yf W R=z:=⟨_,rfl⟩
     rw[hsw]at e1 hJ2 hd b1 b2
     have h24:∀ u v,d24 [.op u (rpC R),.op v (wzC W)]=some ⟨.tup [],[.cells 0 (rpC R'),.cells 0 (wzC W')]⟩:=fun u v=>by
      have:=e24 o1 hW hsm o2 u v 0 0 0 0;rw[hsw]at this;exact this
     have h25:∀ u v,d25 [.op u (gRq (B.a*B.b) R),.op v (qzC Q)]=some ⟨.tup [],[.cells 0 (gRq (B.a*B.b) R'),.cells 0 (qzC Q')]⟩:=fun u v=>by
      obtain ⟨z,hz⟩:∃ z,Zal (B.a*B.b) R=z:=⟨_,rfl⟩;have hzst:z.st=yL (B.a*B.b) R:=(by rw[← hz];rfl);have hzs:z.s=R.st:=(by rw[← hz];rfl);have hzd:z.dn=R.dn:=(by rw[← hz];rfl);rw[hz]at e1;simp only[gRq,hz,d25,ZiX,V6];rw[if_pos ⟨hQk,hsq,by omega,by omega,by rw[hzst,hzs,hzd];exact o3⟩];simp only[e1]
     have sim2:=hJ2.all.2.1
     have hT2:=ZW (Zk (sim2.okw)).2.1
     have hC2:=ZV (Zk (sim2.okw)).2.1
     have hTl2:=ZC (Zk (sim2.okw)).2.2.2.2.2.2
     have hCl2:=ZD (Zk (sim2.okw)).2.2.2.2.2.2
     have hS02:=Z4 Q'.S
     have hS12:=Z5 Q'.S
     have hT02:=Z7 Q'.T
     have hT12:=Z6 Q'.T
     have hJ02:=Z1 Q'.J
     have hJ12:=Z0 Q'.J
     have hL02:=ZC (Zr (sim2.okq)).2.2.2.2.2.2.2.1
     have hL12:=ZD (Zr (sim2.okq)).2.2.2.2.2.2.2.1
     have ga:=VT (g:=rpC) hR
     have gae:=T5 (g:=rpC) hR
     have gb:=VT (g:=gRq (B.a*B.b)) hR
     have gbe:=T5 (g:=gRq (B.a*B.b)) hR
     have za0:=Own.t0 (g:=rpC) R
     have za1:=Own.cl (g:=rpC) R
     have zb0:=Own.t0 (g:=gRq (B.a*B.b)) R
     have zb1:=Own.cl (g:=gRq (B.a*B.b)) R
     have za2:=Own.t0 (g:=rpC) R'
     have za3:=Own.cl (g:=rpC) R'
     have zb2:=Own.t0 (g:=gRq (B.a*B.b)) R'
     have zb3:=Own.cl (g:=gRq (B.a*B.b)) R'
     have sa:=fun u=>xp (g:=rpC) Rs K u R'
     have sb:=fun u=>xp (g:=gRq (B.a*B.b)) Rs K u R'
     have oa0':=Yd (g:=gSw) Ss
     have oa1':=Ym (g:=gSw) Ss
     have ob0':=Yd (g:=gSq (B.a*B.b*(B.a*B.b))) Ss
     have ob1':=Ym (g:=gSq (B.a*B.b*(B.a*B.b))) Ss
     have ox0':=Yd (g:=rpC) (Rs.set K R')
     have ox1':=Ym (g:=rpC) (Rs.set K R')
     have oy0':=Yd (g:=gRq (B.a*B.b)) (Rs.set K R')
     have oy1':=Ym (g:=gRq (B.a*B.b)) (Rs.set K R')
     simp only[wzC,qzC]at h24 h25
     simp only[IC0,wzC,qzC]
     repeat' with_reducible (first|refine ZR.h ?_|refine kI ?_|((first|refine kR hE ?_|refine kD hE Zq ?_);intro K hK;simp[ELb,hTa,hCa,hT,hC,hTl,hCl,hS0,hS1,hT0,hT1,hJ0,hJ1,hL0,hL1,hT2,hC2,hTl2,hCl2,hS02,hS12,hT02,hT12,hJ02,hJ12,hL02,hL12,oa0,oa1,ob0,ob1,ox0,ox1,oy0,oy1,la,lb,lx,ly,ga,gae,gb,gbe,za0,za1,zb0,zb1,za2,za3,zb2,zb3,hKn,hKnI,h24,h25];(repeat' (first|refine hK _ _ ?_|apply And.intro|(intro hc;try subst hc)))<;>(try clear hK K))|(refine kT (fun hc=>?_) (fun hc=>?_)<;>simp at hc<;>(try subst hc)))
     all_goals try (show Zb _ _=true;kernel_rfl)
     all_goals refine ⟨rfl,W',Q',Ss,Rs.set K R',hJ2,hd,b1,b2,?_⟩
     all_goals rw[hS]
     all_goals simp only[IC,wzC,qzC]
     all_goals refine Imp.auto (by simp;kernel_rfl) ?_ ?_<;>simp[NLe,YH,V8,Uy,hTa,hCa,sa,sb,hT2,hC2,hTl2,hCl2,hS02,hS12,hT02,hT12,hJ02,hJ12,hL02,hL12,oa0,oa1,ob0,ob1,ox0,ox1,oy0,oy1,oa0',oa1',ob0',ob1',ox0',ox1',oy0',oy1']
    by_cases k2:kd=2
    ·
     subst k2
     have hJ2:=(br_go hJ hN64).mono (Nat.le_succ _)
     have h13:∀ u v,d13 [.op u [.int .u64 W.t],.os v 1 [[.int .i64 N]]]=some ⟨.int .i64 (goZ W.t N),[.cells 0 [.int .u64 (goZ W.t N)],.free]⟩:=fun u v=>by
      simp only[d13];rw[if_pos ⟨hwt0,hwt1,hN64⟩]
     have hqe:goZ W.t N=goZ Q.now N:=by rw[hnow]
     obtain ⟨t2,ht2⟩:∃ t,goZ W.t N=t:=⟨_,rfl⟩
     rw[ht2]at h13
     have eW:goW W N={ W with t:=t2 }:=by unfold goW;rw[ht2]
     have eQ:goQ Q N={ Q with now:=t2 }:=by unfold goQ;rw[← hqe,ht2]
     rw[eW,eQ]at hJ2
     simp only[IC0,wzC,qzC]
     repeat' with_reducible (first|refine ZR.h ?_|refine kI ?_|((first|refine kR hE ?_|refine kD hE Zq ?_);intro K hK;simp[ELb,hTa,hCa,hT,hC,hTl,hCl,hS0,hS1,hT0,hT1,hJ0,hJ1,hL0,hL1,oa0,oa1,ob0,ob1,ox0,ox1,oy0,oy1,la,lb,lx,ly,h13];(repeat' (first|refine hK _ _ ?_|apply And.intro|(intro hc;try subst hc)))<;>(try clear hK K))|(refine kT (fun hc=>?_) (fun hc=>?_)<;>simp at hc<;>(try subst hc)))
     all_goals try (show Zb _ _=true;kernel_rfl)
     all_goals refine ⟨rfl,{ W with t:=t2 },{ Q with now:=t2 },Ss,Rs,hJ2,by simp,Int.le_refl _,by show W.s≤W.s+1;omega,?_⟩
     all_goals rw[hS]
     all_goals simp only[IC,wzC,qzC]
     all_goals refine Imp.auto (by simp;kernel_rfl) ?_ ?_<;>simp[NLe,YH,V8,Uy,hTa,hCa,hT,hC,hTl,hCl,hS0,hS1,hT0,hT1,hJ0,hJ1,hL0,hL1,oa0,oa1,ob0,ob1,ox0,ox1,oy0,oy1]
    simp only[IC0,wzC,qzC]
    repeat' with_reducible (first|refine ZR.h ?_|refine kI ?_|((first|refine kR hE ?_|refine kD hE Zq ?_);intro K hK;simp[ELb,hTa,hCa,hT,hC,hTl,hCl,hS0,hS1,hT0,hT1,hJ0,hJ1,hL0,hL1,oa0,oa1,ob0,ob1,ox0,ox1,oy0,oy1,la,lb,lx,ly,k0,k1,k2];(repeat' (first|refine hK _ _ ?_|apply And.intro|(intro hc;try subst hc)))<;>(try clear hK K))|(refine kT (fun hc=>?_) (fun hc=>?_)<;>simp at hc<;>(try subst hc)))
    all_goals try (show Zb _ _=true;kernel_rfl)
    all_goals refine ⟨rfl,W,Q,Ss,Rs,hJ.mono (Nat.le_succ _),by omega,Int.le_refl _,by omega,?_⟩
    all_goals rw[hS]
    all_goals simp only[IC,wzC,qzC]
    all_goals refine Imp.auto (by simp;kernel_rfl) ?_ ?_<;>simp[NLe,YH,V8,Uy,hTa,hCa,hT,hC,hTl,hCl,hS0,hS1,hT0,hT1,hJ0,hJ1,hL0,hL1,oa0,oa1,ob0,ob1,ox0,ox1,oy0,oy1]
   rintro ex s' ⟨rfl,W',Q',Ss',Rs',hJ2,hd,b1,b2,himp⟩;refine Zdx himp ?_;clear hs hR himp;have sim2:=hJ2.all.2.1;have hT2:=ZW (Zk (sim2.okw)).2.1;have hC2:=ZV (Zk (sim2.okw)).2.1;have hTl2:=ZC (Zk (sim2.okw)).2.2.2.2.2.2;have hCl2:=ZD (Zk (sim2.okw)).2.2.2.2.2.2;have hS02:=Z4 Q'.S;have hS12:=Z5 Q'.S;have hT02:=Z7 Q'.T;have hT12:=Z6 Q'.T;have hJ02:=Z1 Q'.J;have hJ12:=Z0 Q'.J;have hL02:=ZC (Zr (sim2.okq)).2.2.2.2.2.2.2.1;have hL12:=ZD (Zr (sim2.okq)).2.2.2.2.2.2.2.1;have oa0':=Yd (g:=gSw) Ss';have oa1':=Ym (g:=gSw) Ss';have ob0':=Yd (g:=gSq (B.a*B.b*(B.a*B.b))) Ss';have ob1':=Ym (g:=gSq (B.a*B.b*(B.a*B.b))) Ss';have ox0':=Yd (g:=rpC) Rs';have ox1':=Ym (g:=rpC) Rs';have oy0':=Yd (g:=gRq (B.a*B.b)) Rs';have oy1':=Ym (g:=gRq (B.a*B.b)) Rs';have la':(ops gSw Ss').length=k+1:=(by rw[Yx];exact hJ2.ls);have lb':(ops (gSq (B.a*B.b*(B.a*B.b))) Ss').length=k+1:=(by rw[Yx];exact hJ2.ls);have lx':(ops rpC Rs').length=k+1:=(by rw[Yx];exact hJ2.lr);have ly':(ops (gRq (B.a*B.b)) Rs').length=k+1:=(by rw[Yx];exact hJ2.lr);obtain ⟨s,hs⟩:∃ s,Ss'[K]?=some s:=⟨_,List.getElem?_eq_getElem (by rw[hJ2.ls];exact hKn)⟩;obtain ⟨R,hR⟩:∃ R,Rs'[K]?=some R:=⟨_,List.getElem?_eq_getElem (by rw[hJ2.lr];exact hKn)⟩;have ga:=VT (g:=gSw) hs;have gae:=T5 (g:=gSw) hs;have gb:=VT (g:=gSq (B.a*B.b*(B.a*B.b))) hs;have gbe:=T5 (g:=gSq (B.a*B.b*(B.a*B.b))) hs;have gx:=VT (g:=rpC) hR;have gxe:=T5 (g:=rpC) hR
   have gy:=VT (g:=gRq (B.a*B.b)) hR;have gye:=T5 (g:=gRq (B.a*B.b)) hR;have za0:=Own.t0 (g:=gSw) s;have za1:=Own.cl (g:=gSw) s;have zx0:=Own.t0 (g:=rpC) R;have zx1:=Own.cl (g:=rpC) R;have h26:F26.d [.op 0 (gSw s)]=some ⟨.int .i64 s.ps,[.free]⟩:=Zfu.eq' s trivial;have h27:F27.d [.op 0 (gSw s)]=some ⟨.bool (ZbG s),[.free]⟩:=ZfI.eq' s trivial;have h28:F28.d [.op 0 (rpC R)]=some ⟨.int .i64 R.ps,[.free]⟩:=Zf0.eq' R trivial;have h29:F29.d [.op 0 (rpC R)]=some ⟨.bool (decide (R.pc=0)),[.free]⟩:=Zf9.eq' R trivial;obtain ⟨hsj,hst⟩:=hJ2.sw s (List.mem_of_getElem? hs);obtain ⟨hrj,hrt⟩:=hJ2.rp R (List.mem_of_getElem? hR);have gq1:(gSq (B.a*B.b*(B.a*B.b)) s)[1]?=some (.int .i64 (Zaa (B.a*B.b*(B.a*B.b)) s)):=rfl;have gr1:(gRq (B.a*B.b) R)[1]?=some (.int .i64 (yL (B.a*B.b) R)):=rfl;obtain ⟨d1,d2,d3,d4⟩:=fin_d hd b1 b2;obtain ⟨v26,w26,⟨Z,v27,wZ,hz27'⟩,n1⟩:=Zka rfl hall.1 hall.2 hsj hst;obtain ⟨v28,w28,⟨Y,v29,wY,hz29'⟩,n2⟩:=Zkh hall.1 hall.2 hrj hrt;have e6:=fin_i i h6x;simp only[IC,wzC,qzC]
   repeat (with_reducible refine ZR.h ?_)
   refine kDX hE Zq (segs:=?sg) (hs:=?hs) ?_
   case hs=>conv=>lhs;cbv
   intro K_ hK_
   iterate 9 (rw[ZbN];simp (maxSteps:=10000000) [ELb,hTa,hCa,hT2,hC2,hTl2,hCl2,hS02,hS12,hT02,hT12,hJ02,hJ12,hL02,hL12,oa0',oa1',ob0',ob1',ox0',ox1',oy0',oy1',la',lb',lx',ly',ga,gae,gb,gbe,gx,gxe,gy,gye,za0,za1,zx0,zx1,h8,h26,h27,h28,h29,gq1,gr1,d1,d2,d3,d4,n1,n2,v26,v28,w26,w28,v27,v29,wZ,wY,hz27',hz29',m14,m15,m4,hKn,hKnI,hK0])
   rw[Zc3];refine ⟨by kernel_rfl,?_⟩;simp only[Xi,TG];refine hK_ _ _ ?_;clear hK_ K_
   repeat' with_reducible (first|refine ZR.h ?_|refine kI ?_|((first|refine kR hE ?_|refine kD hE Zq ?_);intro K hK;simp[ELb,hTa,hCa,hT2,hC2,hTl2,hCl2,hS02,hS12,hT02,hT12,hJ02,hJ12,hL02,hL12,oa0',oa1',ob0',ob1',ox0',ox1',oy0',oy1',ww];(repeat' (first|refine hK _ _ ?_|apply And.intro|(intro hc;try subst hc)))<;>(try clear hK K))|(refine kT (fun hc=>?_) (fun hc=>?_)<;>simp at hc<;>(try subst hc)))
   all_goals try (show Zb _ _=true;kernel_rfl)
   all_goals refine ⟨(W',Q',Ss',Rs',i+1),⟨by rw[e6];exact hJ2,him⟩,Nat.sub_lt_sub_left him (Nat.lt_succ_self i),?_⟩
   all_goals rw[hS]
   all_goals simp only[IB,wzC,qzC]
   all_goals refine Imp.auto (by simp;kernel_rfl) ?_ ?_<;>simp[NLe,YH,V8,Uy,hTa,hCa,ww,hT2,hC2,hTl2,hCl2,hS02,hS12,hT02,hT12,hJ02,hJ12,hL02,hL12,oa0',oa1',ob0',ob1',ox0',ox1',oy0',oy1']
  ·cases h
 ·cases h
end Go.W
