/- A reaper's pass ends what is due. What stands in the words of a world with orders in its cells. Behind a pass of all reapers, and one of all sweepers. The resolved code of the functions, by a program. -/
import Derived.Test.YtidbbnkpglggdaaPxB
import Derived.Test.YtidbbnkpglggdaaPwC
import Derived.Test.YtidbbnkpglggdaaPsV0
import Derived.Test.YtidbbnkpglggdaaPuE
import Derived.Test.YtidbbnkpglggdaaPxC
import Derived.Test.YtidbbnkpglggdaaPqA
namespace Go.W
open Go.Proofs
set_option linter.unusedSimpArgs false
set_option linter.unusedVariables false
set_option maxHeartbeats 8000000
def rpRun:RpZ→WZ→Nat→RpZ×WZ
 | R,W,0=>(R,W)
 | R,W,k+1=>rpRun (rpStep W R).1 (rpStep W R).2 k
theorem rpRun_succ:∀ (k:Nat) (R:RpZ) (W:WZ),rpRun R W (k+1)=rpStep (rpRun R W k).2 (rpRun R W k).1
 | 0,_,_=>rfl
 | k+1,R,W=>rpRun_succ k (rpStep W R).1 (rpStep W R).2
theorem rpRun_add:∀ (a b:Nat) (R:RpZ) (W:WZ),rpRun R W (a+b)=rpRun (rpRun R W a).1 (rpRun R W a).2 b
 | 0,b,R,W=>by rw[Nat.zero_add];rfl
 | a+1,b,R,W=>by
  rw[show a+1+b=(a+b)+1 by omega]
  exact rpRun_add a b (rpStep W R).1 (rpStep W R).2
theorem end_parx (W:WZ) (R:RpZ) (c:Int):parX (endR W R c).2=parX W:=by
 unfold endR
 repeat' split
 ·rfl
 ·rfl
 ·exact turn_parx _ _ _ _
 ·exact turn_parx _ _ _ _
 ·rfl
theorem core_parx (W:WZ) (R:RpZ):parX (coreR W R).2=parX W:=by
 unfold coreR
 repeat' split
 ·rfl
 ·rfl
 ·exact end_parx _ _ _
 ·exact note_parx _ _ _ _ _
 ·rfl
theorem end_fr2 (W:WZ) (R:RpZ) (c:Int):(endR W R c).1.pc=R.pc∧(endR W R c).1.ps=R.ps∧(endR W R c).1.sh=R.sh∧((endR W R c).2.s≤W.s+1)∧(endR W R c).2.lg.length≤W.lg.length+1:=by
 have hf:=turn_fr W c R.wd { R.st with k:=7 }
 have hs:(turnW W c R.wd { R.st with k:=7 }).2.s≤W.s+1:=by omega
 unfold endR
 split
 ·exact ⟨rfl,rfl,rfl,by simp only;omega,by simp⟩
 ·split
  ·exact ⟨rfl,rfl,rfl,by simp only;omega,by simp⟩
  ·split
   ·split
    ·refine ⟨rfl,rfl,rfl,hs,?_⟩
     ·simp only[tellW,hf.2.1,List.length_append,List.length_singleton];omega
    ·exact ⟨rfl,rfl,rfl,hs,by simp only[hf.2.1];omega⟩
   ·exact ⟨rfl,rfl,rfl,by simp only;omega,by simp⟩
theorem core_fr (W:WZ) (R:RpZ):(coreR W R).1.pc=R.pc∧(coreR W R).1.ps=R.ps∧(coreR W R).1.sh=R.sh∧((coreR W R).2.s≤W.s+1)∧(coreR W R).2.lg.length≤W.lg.length+1:=by
 have hn:=note_fr W (R.pc / 4) R.st.g W.f (endS R.st R.ta).1
 unfold coreR
 split
 ·exact ⟨rfl,rfl,rfl,by simp[tickW],by simp[tickW]⟩
 ·split
  ·exact ⟨rfl,rfl,rfl,by simp[tickW],by simp[tickW]⟩
  ·split
   ·exact end_fr2 W R _
   ·split
    ·exact ⟨rfl,rfl,rfl,by simp only;omega,by simp only[hn.2.1];omega⟩
    ·exact ⟨rfl,rfl,rfl,by simp only;omega,by simp⟩
theorem next_pc {m:Int} (R:RpZ):(nextR m R).sh=R.sh∧(nextR m R).wd=R.wd∧(nextR m R).st=R.st∧(nextR m R).tm=R.tm∧(nextR m R).dn=R.dn∧(nextR m R).ta=R.ta∧(nextR m R).pc=(if R.pc+1=m then 0 else R.pc+1)∧(nextR m R).ps≤R.ps+1∧R.ps≤(nextR m R).ps:=by
 unfold nextR
 split
 ·exact ⟨rfl,rfl,rfl,rfl,rfl,rfl,rfl,Int.le_refl _,by simp only;omega⟩
 ·exact ⟨rfl,rfl,rfl,rfl,rfl,rfl,rfl,by simp only;omega,Int.le_refl _⟩
def RpInv (W0:WZ) (sh:Int) (k:Nat) (r:RpZ×WZ):Prop:=okW r.2=true∧parX r.2=parX W0∧0≤r.1.pc∧r.1.pc<4*(W0.a*W0.b)∧0≤r.1.ps∧r.1.ps≤k∧(0≤r.1.wd∧r.1.wd<18446744073709551616)∧okS r.1.st=true∧(0≤r.1.ta∧r.1.ta≤1000000)∧r.2.s≤W0.s+k∧r.2.lg.length≤W0.lg.length+k∧r.1.sh=sh
def rp0 (sh:Int):RpZ:=⟨sh,0,0,0,zeroS,⟨0,0,0,0,0⟩,false,0⟩
theorem rp_inv {W:WZ} {sh:Int} (hW:okW W=true):∀ k:Nat,RpInv W sh k (rpRun (rp0 sh) W k)
 | 0=>by
  have hall:=cfg_all (okW_ex hW).1
  exact ⟨hW,rfl,Int.le_refl _,by show 0<4*(W.a*W.b);omega,Int.le_refl _,Int.le_refl _,⟨by simp[rpRun,rp0],by simp[rpRun,rp0]⟩,rfl,⟨by simp[rpRun,rp0],by simp[rpRun,rp0]⟩,by simp[rpRun],by simp[rpRun],rfl⟩
 | k+1=>by
  obtain ⟨i1,i2,i3,i4,i5,i6,i7,i8,i9,i10,i11,i12⟩:=rp_inv (sh:=sh) hW k
  rw[rpRun_succ]
  obtain ⟨⟨R,V⟩,hr⟩:∃ r,rpRun (rp0 sh) W k=r:=⟨_,rfl⟩
  rw[hr]at i1 i2 i3 i4 i5 i6 i7 i8 i9 i10 i11 i12⊢
  simp only at i1 i2 i3 i4 i5 i6 i7 i8 i9 i10 i11 i12⊢
  have hp:=parX_ab i2
  have hall:=cfg_all (okW_ex hW).1
  have hc1:=coreR_ok i1 R
  have hc2:=(core_parx V R).trans i2
  obtain ⟨c1,c2,c3,c4,c5⟩:=core_fr V R
  obtain ⟨n1,n2,n3,n4,n5,n6,n7,n8,n9⟩:=next_pc (m:=4*(V.a*V.b)) (coreR V R).1
  have ht:=okW_ex i1
  have key:(0≤(coreR V R).1.wd∧(coreR V R).1.wd<18446744073709551616)∧okS (coreR V R).1.st=true∧(0≤(coreR V R).1.ta∧(coreR V R).1.ta≤1000000):=by
   unfold coreR
   split
   ·exact ⟨sAt_in i1 (by omega) (by rw[hp.1,hp.2.1];omega),stateZ_ok _,i9⟩
   ·split
    ·exact ⟨i7,i8,i9⟩
    ·split
     ·unfold endR
      repeat' split
      ·exact ⟨i7,i8,i9⟩
      ·exact ⟨i7,i8,i9⟩
      ·exact ⟨i7,okS_7 i8,⟨ht.2.2.2.2.1,ht.2.2.2.2.2.1⟩⟩
      ·exact ⟨i7,i8,i9⟩
      ·exact ⟨i7,i8,i9⟩
     ·split
      ·exact ⟨i7,i8,i9⟩
      ·exact ⟨i7,i8,i9⟩
  have hpc:0≤(rpStep V R).1.pc∧(rpStep V R).1.pc<4*(W.a*W.b):=by
   show 0≤(nextR (4*(V.a*V.b)) (coreR V R).1).pc∧(nextR (4*(V.a*V.b)) (coreR V R).1).pc<_
   rw[n7,c1,hp.1,hp.2.1]
   split<;>omega
  refine ⟨hc1,hc2,hpc.1,hpc.2,?_,?_,?_,?_,?_,?_,?_,?_⟩
  ·show 0≤(nextR (4*(V.a*V.b)) (coreR V R).1).ps
   omega
  ·show (nextR (4*(V.a*V.b)) (coreR V R).1).ps≤_
   omega
  ·show 0≤(nextR (4*(V.a*V.b)) (coreR V R).1).wd∧(nextR (4*(V.a*V.b)) (coreR V R).1).wd<_
   rw[n2];exact key.1
  ·show okS (nextR (4*(V.a*V.b)) (coreR V R).1).st=true
   rw[n3];exact key.2.1
  ·show 0≤(nextR (4*(V.a*V.b)) (coreR V R).1).ta∧(nextR (4*(V.a*V.b)) (coreR V R).1).ta≤_
   rw[n6];exact key.2.2
  ·show (coreR V R).2.s≤_
   omega
  ·show (coreR V R).2.lg.length≤_
   omega
  ·show (nextR (4*(V.a*V.b)) (coreR V R).1).sh=sh
   rw[n1,c3];exact i12
theorem RpInv_ok {W0:WZ} {sh:Int} {k:Nat} {r:RpZ×WZ} (h:RpInv W0 sh k r) (hk:k≤100000) (hab:W0.a*W0.b≤24):okR r.1=true:=by
 obtain ⟨i1,i2,i3,i4,i5,i6,i7,i8,i9,_⟩:=h
 exact decide_eq_true ⟨i3,by omega,i5,by omega,i7.1,i7.2,i8,i9.1,i9.2⟩
def ND (B W:WZ) (sh c:Int):Prop:=looseZ (stW W c).k=true→shardZ B.c B.d (tmW B c).nm (bandZ B.d (tmW B c).pr)=sh→¬ (tmW B c).un≤B.t
theorem loose_iff (k:Int):looseZ k=true↔k=1∨k=2:=by simp[looseZ]
theorem ND_rel {B W V:WZ} {sh c:Int} (h0:0≤c) (h1:c<B.a*B.b) (h:ND B W sh c) (r:Rel B W V):ND B V sh c:=fun hl=>by
 have rc:=r c h0 h1
 refine h ((loose_iff _).2 ?_)
 rcases (loose_iff _).1 hl with e|e
 ·exact .inl (rc.2 e)
 ·exact .inr (rc.1 e).1
theorem Sh_7 (s:StZ):Sh s { s with k:=7 }:=⟨fun h=>absurd h (by simp),fun h=>absurd h (by simp)⟩
theorem reap_cell {B W:WZ} {R:RpZ} (h:Inv B W) {c:Int} (hc0:0≤c) (hc1:c<B.a*B.b) (hpc:R.pc=4*c):Inv B (rpRun R W 4).2∧Rel B W (rpRun R W 4).2∧ND B (rpRun R W 4).2 R.sh c∧(rpRun R W 4).1.pc=(if 4*c+4=4*(B.a*B.b) then 0 else 4*c+4)∧(rpRun R W 4).1.sh=R.sh:=by
 obtain ⟨hW,hp,hc⟩:=h
 obtain ⟨pa,pb,pc,pd,pf,pg,pt⟩:=parX_ab hp
 have hcx:=hc c hc0 hc1
 have hall:=cfg_all (okW_ex hW).1
 have hwl:=(okW_ex hW).2.2.1
 have hcf:=cfg_ex (okW_ex hW).1
 have hwd:=words_in (f:=W.f) (g:=W.g) (show 0≤W.a*W.b by omega) hall.2 (by omega) (by omega)
 have hn:∀ Q:RpZ,Q.pc<4*c+3→nextR (4*(W.a*W.b)) Q={ Q with pc:=Q.pc+1 }:=fun Q hQ=>by
  unfold nextR;rw[if_neg (by rw[pa,pb];omega)]
 obtain ⟨R1,hR1⟩:∃ Q,({ R with dn:=false,wd:=sAt W c,st:=stW W c,pc:=4*c+1 }:RpZ)=Q:=⟨_,rfl⟩
 have s1:rpStep W R=(R1,tickW W):=by
  have e:coreR W R=({ R with dn:=false,wd:=sAt W c,st:=stW W c },tickW W):=by
   unfold coreR;rw[if_pos (by omega),show R.pc / 4=c by omega];rfl
  unfold rpStep;rw[e,hn _ (by simp only;omega),← hR1,hpc]
 obtain ⟨R2,hR2⟩:∃ Q,({ R1 with tm:=tmW W c,pc:=4*c+2 }:RpZ)=Q:=⟨_,rfl⟩
 have p1:R1.pc=4*c+1:=by rw[← hR1]
 have s2:rpStep (tickW W) R1=(R2,tickW (tickW W)):=by
  have e:coreR (tickW W) R1=({ R1 with tm:=tmW W c },tickW (tickW W)):=by
   unfold coreR;rw[if_neg (by omega),if_pos (by omega),show R1.pc / 4=c by omega,tAt_tick];rfl
  unfold rpStep;rw[e]
  show (nextR (4*(W.a*W.b)) _,_)=_
  rw[hn _ (by simp only;omega),← hR2,p1,show (4*c+1+1:Int)=4*c+2 by omega]
 have p2:R2.pc=4*c+2:=by rw[← hR2]
 have f2:R2.sh=R.sh∧R2.wd=sAt W c∧R2.st=stW W c∧R2.tm=tmW W c:=by rw[← hR2,← hR1];exact ⟨rfl,rfl,rfl,rfl⟩
 obtain ⟨V,hV⟩:∃ V,tickW (tickW W)=V:=⟨_,rfl⟩
 have vok:okW V=true:=by rw[← hV];exact tick_ok (tick_ok hW)
 have vp:parX V=parX B:=by rw[← hV];exact hp
 have vs:∀ i,stW V i=stW W i∧tmW V i=tmW W i∧sAt V i=sAt W i:=fun i=>by rw[← hV];exact ⟨rfl,rfl,rfl⟩
 have vws:V.ws=W.ws:=by rw[← hV];rfl
 rw[hV]at s2
 have e3:coreR V R2=endR V R2 c:=by unfold coreR;rw[if_neg (by omega),if_neg (by omega),if_pos (by omega),show R2.pc / 4=c by omega]
 have s3:rpStep V R2=({ (endR V R2 c).1 with pc:=4*c+3 },(endR V R2 c).2):=by
  have v1:=parX_ab vp
  have w1:=parX_ab hp
  unfold rpStep
  rw[e3,v1.1,v1.2.1,← pa,← pb,hn _ (by rw[(end_fr2 V R2 c).1];omega),(end_fr2 V R2 c).1,p2,show (4*c+2+1:Int)=4*c+3 by omega]
 obtain ⟨R3,hR3⟩:∃ Q,({ (endR V R2 c).1 with pc:=4*c+3 }:RpZ)=Q:=⟨_,rfl⟩
 rw[hR3]at s3
 have p3:R3.pc=4*c+3:=by rw[← hR3]
 have sh3:R3.sh=R.sh:=by rw[← hR3];show (endR V R2 c).1.sh=_;rw[(end_fr2 V R2 c).2.2.1,f2.1]
 obtain ⟨X,hX⟩:∃ X,(endR V R2 c).2=X:=⟨_,rfl⟩
 rw[hX]at s3
 have xok:okW X=true:=by rw[← hX];exact endR_ok vok R2 c
 have xp:parX X=parX B:=by rw[← hX];exact (end_parx V R2 c).trans vp
 obtain ⟨xa,xb,xc,xd,xf,xg,xt⟩:=parX_ab xp
 have xw:(∀ j:Nat,j≠(2*c).toNat→wAt X.ws j=wAt W.ws j)∧(stW X c=stW W c∨stW X c={ stW W c with k:=7 })∧ND B X R.sh c:=by
  have v1:=parX_ab vp
  rw[← hX]
  unfold endR
  rw[f2.1,f2.2.1,f2.2.2.1,f2.2.2.2]
  split
  ·rename_i hl
   refine ⟨fun j _=>by rw[vws],.inl (vs c).1,fun h2=>?_⟩
   rw[(vs c).1,hl]at h2;cases h2
  ·split
   ·rename_i hl hs
    refine ⟨fun j _=>by rw[vws],.inl (vs c).1,fun _ h2=>?_⟩
    rw[v1.2.2.1,v1.2.2.2.1,hcx.1]at hs
    exact absurd h2 hs
   ·split
    ·rename_i hl hs hd
     obtain ⟨v,hv⟩:=wordS_mk (s:={ stW W c with k:=7 }) (by simp) (by simp) (by have:=stR (sAt W c);show 0≤(stateZ (sAt W c)).g;omega) (by have:=stR (sAt W c);show (stateZ (sAt W c)).g≤255;omega) (by have:=stR (sAt W c);show 0≤(stateZ (sAt W c)).l;omega) (by have:=stR (sAt W c);show (stateZ (sAt W c)).l≤65535;omega) (by have:=stR (sAt W c);show 0≤(stateZ (sAt W c)).f;omega) (by have:=stR (sAt W c);show (stateZ (sAt W c)).f≤255;omega)
     have ht:turnW V c (sAt W c) { stW W c with k:=7 }=(true,putW V (2*c).toNat v):=by
      unfold turnW;rw[hv];simp only;rw[if_pos (vs c).2.2]
     rw[ht]
     simp only[if_true]
     have e7:stW (tellW (putW V (2*c).toNat v) 5 c (stW W c).g 0 0 0 0 0) c={ stW W c with k:=7 }:=by
      unfold stW
      rw[sAt_tell,sAt_put (by rw[vws];rw[← pa,← pb]at hc1;omega)]
      exact (wordS_rt hv).1
     refine ⟨fun j hj=>?_,.inr e7,fun h2=>?_⟩
     ·show wAt ((V.ws.set (2*c).toNat [.int .u64 v])) j=_
      rw[wAt_ne (fun e=>hj e.symm),vws]
     ·rw[e7]at h2;cases h2
    ·rename_i hl hs hd
     refine ⟨fun j _=>by rw[vws],.inl (vs c).1,fun _ _ h2=>?_⟩
     rw[v1.2.2.2.2.2.2,hcx.1]at hd
     exact absurd h2 hd
 obtain ⟨Y,hY⟩:∃ Y,(coreR X R3).2=Y:=⟨_,rfl⟩
 have s4:rpStep X R3=(nextR (4*(X.a*X.b)) (coreR X R3).1,Y):=by unfold rpStep;rw[hY]
 have yok:okW Y=true:=by rw[← hY];exact coreR_ok xok R3
 have yp:parX Y=parX B:=by rw[← hY];exact (core_parx X R3).trans xp
 have yw:∀ j:Nat,(j:Int)<B.a*B.b*2→wAt Y.ws j=wAt X.ws j:=fun j hj=>by
  rw[← hY]
  unfold coreR
  rw[if_neg (by omega),if_neg (by omega),if_neg (by omega)]
  split
  ·exact note_frame xok (by rw[xa,xb];exact hj)
  ·rfl
 have all4:rpRun R W 4=(nextR (4*(X.a*X.b)) (coreR X R3).1,Y):=by
  show rpRun (rpStep W R).1 (rpStep W R).2 3=_
  rw[s1]
  show rpRun (rpStep (tickW W) R1).1 (rpStep (tickW W) R1).2 2=_
  rw[s2]
  show rpRun (rpStep V R2).1 (rpStep V R2).2 1=_
  rw[s3]
  show rpRun (rpStep X R3).1 (rpStep X R3).2 0=_
  rw[s4];rfl
 rw[all4]
 have stY:∀ i:Int,0≤i→i<B.a*B.b→stW Y i=stW X i∧tmW Y i=tmW X i:=fun i i0 i1=>by
  constructor
  ·unfold stW sAt;rw[yw _ (by omega)]
  ·unfold tmW tAt;rw[yw _ (by omega)]
 have stX:∀ i:Int,0≤i→i<B.a*B.b→tmW X i=tmW W i∧(i≠c→stW X i=stW W i):=fun i i0 i1=>by
  constructor
  ·unfold tmW tAt;rw[xw.1 _ (by omega)]
  ·intro hne;unfold stW sAt;rw[xw.1 _ (by omega)]
 have cell:∀ i:Int,0≤i→i<B.a*B.b→stW Y i=stW W i∨stW Y i={ stW W i with k:=7 }:=fun i i0 i1=>by
  rw[(stY i i0 i1).1]
  by_cases hi:i=c
  ·subst hi;exact xw.2.1
  ·exact .inl ((stX i i0 i1).2 hi)
 refine ⟨⟨yok,yp,fun i i0 i1=>?_⟩,fun i i0 i1=>?_,?_,?_,?_⟩
 ·have hci:=hc i i0 i1
  rw[(stY i i0 i1).2,(stX i i0 i1).1]
  refine ⟨hci.1,?_⟩
  rcases cell i i0 i1 with e|e
  ·rw[e];exact hci.2
  ·rw[e];exact ⟨rfl,fun h=>absurd h (by simp)⟩
 ·rcases cell i i0 i1 with e|e
  ·rw[e];exact Sh_refl _
  ·rw[e];exact Sh_7 _
 ·intro hl
  rw[(stY c hc0 hc1).1]at hl
  exact xw.2.2 hl
 ·show (nextR (4*(X.a*X.b)) (coreR X R3).1).pc=_
  rw[(next_pc (coreR X R3).1).2.2.2.2.2.2.1,(core_fr X R3).1,p3,xa,xb]
  split<;>split<;>omega
 ·show (nextR (4*(X.a*X.b)) (coreR X R3).1).sh=_
  rw[(next_pc (coreR X R3).1).1,(core_fr X R3).2.2.1,sh3]
theorem reap_pass {B W:WZ} (h:Inv B W) (sh:Int):∀ m:Nat,(m:Int)≤B.a*B.b→Inv B (rpRun (rp0 sh) W (4*m)).2∧Rel B W (rpRun (rp0 sh) W (4*m)).2∧(∀ c:Nat,c<m→ND B (rpRun (rp0 sh) W (4*m)).2 sh (c:Int))∧((m:Int)<B.a*B.b→(rpRun (rp0 sh) W (4*m)).1.pc=4*m)∧(rpRun (rp0 sh) W (4*m)).1.sh=sh
 | 0,_=>⟨h,Rel_refl _ _,fun c hc=>absurd hc (Nat.not_lt_zero c),fun _=>rfl,rfl⟩
 | m+1,hm=>by
  obtain ⟨i1,i2,i3,i4,i5⟩:=reap_pass h sh m (by omega)
  rw[show 4*(m+1)=4*m+4 by omega,rpRun_add]
  obtain ⟨t1,t2,t3,t4,t5⟩:=reap_cell (R:=(rpRun (rp0 sh) W (4*m)).1) i1 (c:=(m:Int)) (by omega) (by omega) (i4 (by omega))
  refine ⟨t1,Rel_trans i2 t2,fun c hc=>?_,fun hl=>?_,t5.trans i5⟩
  ·by_cases hcm:c=m
   ·subst hcm;rw[i5]at t3;exact t3
   ·exact ND_rel (by omega) (by omega) (i3 c (by omega)) t2
  ·rw[t4,if_neg (by omega)];omega
def reapW (n:Nat) (W:WZ):Nat→WZ
 | 0=>W
 | i+1=>(rpRun (rp0 (i:Int)) (reapW n W i) (4*n)).2
theorem reap_law {B W:WZ} {n:Nat} (h:Inv B W) (hn:(n:Int)=B.a*B.b):∀ i:Nat,Inv B (reapW n W i)∧Rel B W (reapW n W i)∧∀ s:Nat,s<i→∀ c:Int,0≤c→c<n→ND B (reapW n W i) (s:Int) c
 | 0=>⟨h,Rel_refl _ _,fun s hs=>absurd hs (Nat.not_lt_zero s)⟩
 | i+1=>by
  obtain ⟨i1,i2,i3⟩:=reap_law h hn i
  obtain ⟨p1,p2,p3,_⟩:=reap_pass i1 (i:Int) n (by omega)
  refine ⟨p1,Rel_trans i2 p2,fun s hs c c0 c1=>?_⟩
  by_cases hsi:s=i
  ·subst hsi
   have:=p3 c.toNat (by omega)
   rw[show (c.toNat:Int)=c by omega]at this
   exact this
  ·exact ND_rel c0 (by omega) (i3 s (by omega) c c0 c1) p2
end Go.W

namespace Go.W
open Go.Proofs
set_option linter.unusedSimpArgs false
set_option linter.unusedVariables false
set_option maxHeartbeats 8000000
attribute [local irreducible] Wm
attribute [local simp] nmap lkp mkPl prs prsL prT ddL idL CRenL CRen Ren RenL NObj.none CRenLL
def bW (a b c d e f g:Int) (els ws:List (List AV)):WZ:=⟨a,b,c,d,e,f,g,ws,2*els.length,0,[]⟩
theorem both_W {a b c d e f g:Int} {els ws S T:List (List AV)} (hcf:cfgB a b c d e f g=true) (he:els.all ordB=true) (h:bothZ a b c d e f g els els.length=some (ws,S,T)):okW (bW a b c d e f g els ws)=true∧(bW a b c d e f g els ws).s≤48∧els.length≤24:=by
 obtain ⟨h1,h2,h3,_⟩:=both_inv hcf he _ _ _ _ (Nat.le_refl _) h
 have hall:=cfg_all hcf
 exact ⟨decide_eq_true ⟨hcf,h2,h3,by simp only[bW];omega,Int.le_refl _,by simp[bW],rfl⟩,by simp only[bW];omega,by omega⟩
end Go.W

namespace Go.W
open Go.Proofs
set_option linter.unusedSimpArgs false
set_option linter.unusedVariables false
set_option maxHeartbeats 8000000
def stL (s:StZ):List AV:=[.int .i64 s.k,.bool s.fl,.int .i64 s.g,.int .i64 s.l,.int .i64 s.f]
def cellZ (f g:Int) (ws S T:List (List AV)) (i:Nat):Prop:=S[i]?=some (stL (stateZ (wAt ws (2*i))))∧T[i]?=some (tmC (termsZ (wAt ws (2*i+1))))∧((stateZ (wAt ws (2*i))).k=2→goodZ f g (stateZ (wAt ws (2*i))))
theorem wAt_rep (n i:Nat):wAt (List.replicate n [.int .u64 0]) i=0:=by
 unfold wAt
 rw[List.getElem?_replicate]
 split<;>simp_all
theorem okO_ex2 {a b c f g:Int} {k:Nat} {kd sg sl sf nm sd pr le un:Int} {fl:Bool} {v u:Int} (h:okO a b c f g k [.int .i64 kd,.bool fl,.int .i64 sg,.int .i64 sl,.int .i64 sf,.int .i64 nm,.int .i64 sd,.int .i64 pr,.int .i64 le,.int .i64 un]=some (v,u)):wordS ⟨kd,fl,sg,sl,sf⟩=some v∧wordT ⟨nm,sd,pr,le,un⟩=some u∧1≤sg∧sg≤g∧1≤sl∧sf<f∧fl=false:=by
 simp only[okO]at h
 split at h
 ·rename_i v' u' h1 h2
  by_cases hc:(k:Int)<a*b∧1≤sg∧sg≤g∧1≤sl∧sf<f∧(looseZ kd=true∨5≤kd)∧fl=false∧chkT c ⟨nm,sd,pr,le,un⟩ (if sl<le then le else sl) 0=0
  ·rw[if_pos hc]at h
   simp only[Option.some.injEq,Prod.mk.injEq]at h
   obtain ⟨rfl,rfl⟩:=h
   exact ⟨h1,h2,hc.2.1,hc.2.2.1,hc.2.2.2.1,hc.2.2.2.2.1,hc.2.2.2.2.2.2.1⟩
  ·rw[if_neg hc]at h;cases h
 ·cases h
theorem both_cell {a b c d e f g:Int} {els:List (List AV)} (hcf:cfgB a b c d e f g=true) (he:els.all ordB=true):∀ (k:Nat) (ws S T:List (List AV)),k≤els.length→bothZ a b c d e f g els k=some (ws,S,T)→∀ i:Nat,(i:Int)<a*b→cellZ f g ws S T i
 | 0,ws,S,T,_,h,i,hi=>by
  simp only[bothZ,Option.some.injEq,Prod.mk.injEq]at h
  obtain ⟨rfl,rfl,rfl⟩:=h
  have e0:wAt (W0 a b c d e f g).ws (2*i)=0:=wAt_rep _ _
  have e1:wAt (W0 a b c d e f g).ws (2*i+1)=0:=wAt_rep _ _
  unfold cellZ
  rw[e0,e1]
  refine ⟨?_,?_,fun h=>?_⟩
  ·unfold zS;rw[List.getElem?_replicate,if_pos (by omega)];rfl
  ·unfold zT;rw[List.getElem?_replicate,if_pos (by omega)];rfl
  ·have:(stateZ 0).k=0:=by rfl
   omega
 | k+1,ws,S,T,hk,h,i,hi=>by
  simp only[bothZ]at h
  split at h
  ·cases h
  ·rename_i ws0 S0 T0 h0
   split at h
   ·cases h
   ·rename_i v u hO
    simp only[Option.some.injEq,Prod.mk.injEq]at h
    obtain ⟨rfl,rfl,rfl⟩:=h
    have hkl:k<els.length:=by omega
    have hrow:ordB (els.getD k [])=true:=by
     rw[List.getD_eq_getElem?_getD,List.getElem?_eq_getElem hkl]
     exact List.all_eq_true.1 he _ (List.getElem_mem hkl)
    have hkn:=(okO_ex hrow hO).1
    obtain ⟨i1,i2,i3,i4,i5⟩:=both_inv hcf he k ws0 S0 T0 (by omega) h0
    have ih:=both_cell hcf he k ws0 S0 T0 (by omega) h0 i hi
    obtain ⟨kd,fl,sg,sl,sf,nm,sd,pr,le,un,hoe,_⟩:=ordB_ex hrow
    rw[hoe]at hO⊢
    obtain ⟨hv,hu,g1,g2,g3,g4,g5⟩:=okO_ex2 hO
    obtain ⟨r1,r2,r3,r4,r5,r6,r7,r8,r9⟩:=wordS_rt hv
    have rt:=wordT_rt hu
    have hc:=cfg_ex hcf
    have hall:=cfg_all hcf
    have hwd:=words_in (f:=f) (g:=g) (show 0≤a*b by omega) hall.2 (by omega) (by omega)
    by_cases hik:i=k
    ·subst hik
     have e0:wAt ((ws0.set (2*i) [.int .u64 v]).set (2*i+1) [.int .u64 u]) (2*i)=v:=by
      rw[wAt_ne (by omega),wAt_eq (by omega)]
     have e1:wAt ((ws0.set (2*i) [.int .u64 v]).set (2*i+1) [.int .u64 u]) (2*i+1)=u:=wAt_eq (by rw[List.length_set];omega)
     unfold cellZ
     rw[e0,e1,r1,rt]
     refine ⟨?_,?_,fun h2=>?_⟩
     ·rw[List.getElem?_set_self (by rw[i4.1];omega)];rfl
     ·rw[List.getElem?_set_self (by rw[i5.1];omega)];rfl
     ·exact ⟨h2,g5,g1,g2,g3,r7,r8,g4⟩
    ·have e0:wAt ((ws0.set (2*k) [.int .u64 v]).set (2*k+1) [.int .u64 u]) (2*i)=wAt ws0 (2*i):=by
      rw[wAt_ne (by omega),wAt_ne (by omega)]
     have e1:wAt ((ws0.set (2*k) [.int .u64 v]).set (2*k+1) [.int .u64 u]) (2*i+1)=wAt ws0 (2*i+1):=by
      rw[wAt_ne (by omega),wAt_ne (by omega)]
     unfold cellZ
     rw[e0,e1,List.getElem?_set_ne (by omega),List.getElem?_set_ne (by omega)]
     exact ih
end Go.W

namespace Go.W
open Go.Proofs
set_option linter.unusedSimpArgs false
set_option linter.unusedVariables false
set_option maxHeartbeats 8000000
def cellY (c:Int) (ws:List (List AV)) (i:Nat):Prop:=heldZ (stateZ (wAt ws (2*i))).k=false∧(looseZ (stateZ (wAt ws (2*i))).k=true→0≤(termsZ (wAt ws (2*i+1))).nm∧(termsZ (wAt ws (2*i+1))).nm<c∧1≤(termsZ (wAt ws (2*i+1))).pr∧(termsZ (wAt ws (2*i+1))).pr≤9999)
theorem chk_ex {c:Int} {t:TmZ} {q n:Int} (h:chkT c t q n=0):0≤t.nm∧t.nm<c∧1≤t.pr∧t.pr≤9999:=by
 unfold chkT at h
 repeat' split at h
 all_goals first|(exact absurd h (by omega))|skip
 omega
theorem okO_ex3 {a b c f g:Int} {k:Nat} {kd sg sl sf nm sd pr le un:Int} {fl:Bool} {v u:Int} (h:okO a b c f g k [.int .i64 kd,.bool fl,.int .i64 sg,.int .i64 sl,.int .i64 sf,.int .i64 nm,.int .i64 sd,.int .i64 pr,.int .i64 le,.int .i64 un]=some (v,u)):(looseZ kd=true∨5≤kd)∧0≤nm∧nm<c∧1≤pr∧pr≤9999:=by
 simp only[okO]at h
 split at h
 ·by_cases hc:(k:Int)<a*b∧1≤sg∧sg≤g∧1≤sl∧sf<f∧(looseZ kd=true∨5≤kd)∧fl=false∧chkT c ⟨nm,sd,pr,le,un⟩ (if sl<le then le else sl) 0=0
  ·exact ⟨hc.2.2.2.2.2.1,chk_ex hc.2.2.2.2.2.2.2⟩
  ·rw[if_neg hc]at h;cases h
 ·cases h
theorem both_cell2 {a b c d e f g:Int} {els:List (List AV)} (hcf:cfgB a b c d e f g=true) (he:els.all ordB=true):∀ (k:Nat) (ws S T:List (List AV)),k≤els.length→bothZ a b c d e f g els k=some (ws,S,T)→∀ i:Nat,(i:Int)<a*b→cellY c ws i
 | 0,ws,S,T,_,h,i,hi=>by
  simp only[bothZ,Option.some.injEq,Prod.mk.injEq]at h
  obtain ⟨rfl,rfl,rfl⟩:=h
  have e0:wAt (W0 a b c d e f g).ws (2*i)=0:=wAt_rep _ _
  unfold cellY
  rw[e0]
  exact ⟨rfl,fun h=>by cases h⟩
 | k+1,ws,S,T,hk,h,i,hi=>by
  simp only[bothZ]at h
  split at h
  ·cases h
  ·rename_i ws0 S0 T0 h0
   split at h
   ·cases h
   ·rename_i v u hO
    simp only[Option.some.injEq,Prod.mk.injEq]at h
    obtain ⟨rfl,rfl,rfl⟩:=h
    have hkl:k<els.length:=by omega
    have hrow:ordB (els.getD k [])=true:=by
     rw[List.getD_eq_getElem?_getD,List.getElem?_eq_getElem hkl]
     exact List.all_eq_true.1 he _ (List.getElem_mem hkl)
    obtain ⟨i1,i2,i3,i4,i5⟩:=both_inv hcf he k ws0 S0 T0 (by omega) h0
    have ih:=both_cell2 hcf he k ws0 S0 T0 (by omega) h0 i hi
    obtain ⟨kd,fl,sg,sl,sf,nm,sd,pr,le,un,hoe,_⟩:=ordB_ex hrow
    rw[hoe]at hO
    obtain ⟨hv,hu,_⟩:=okO_ex2 hO
    obtain ⟨o1,o2⟩:=okO_ex3 hO
    have r1:=(wordS_rt hv).1
    have rt:=wordT_rt hu
    have hc:=cfg_ex hcf
    have hall:=cfg_all hcf
    have hwd:=words_in (f:=f) (g:=g) (show 0≤a*b by omega) hall.2 (by omega) (by omega)
    by_cases hik:i=k
    ·subst hik
     have e0:wAt ((ws0.set (2*i) [.int .u64 v]).set (2*i+1) [.int .u64 u]) (2*i)=v:=by
      rw[wAt_ne (by omega),wAt_eq (by omega)]
     have e1:wAt ((ws0.set (2*i) [.int .u64 v]).set (2*i+1) [.int .u64 u]) (2*i+1)=u:=wAt_eq (by rw[List.length_set];omega)
     unfold cellY
     rw[e0,e1,r1,rt]
     refine ⟨?_,fun _=>o2⟩
     rcases o1 with o1|o1
     ·rcases (loose_iff kd).1 o1 with e|e
      ·simp only[e];rfl
      ·simp only[e];rfl
     ·simp only[heldZ,Bool.or_eq_false_iff,decide_eq_false_iff_not]
      omega
    ·have e0:wAt ((ws0.set (2*k) [.int .u64 v]).set (2*k+1) [.int .u64 u]) (2*i)=wAt ws0 (2*i):=by
      rw[wAt_ne (by omega),wAt_ne (by omega)]
     have e1:wAt ((ws0.set (2*k) [.int .u64 v]).set (2*k+1) [.int .u64 u]) (2*i+1)=wAt ws0 (2*i+1):=by
      rw[wAt_ne (by omega),wAt_ne (by omega)]
     unfold cellY
     rw[e0,e1]
     exact ih
theorem shard_in {c d:Int} {t:TmZ} (hd:1≤d) (hd4:d≤4) (h:0≤t.nm∧t.nm<c∧1≤t.pr∧t.pr≤9999):0≤shardZ c d t.nm (bandZ d t.pr)∧shardZ c d t.nm (bandZ d t.pr)<c*d:=by
 have h0:0≤bandZ d t.pr:=by
  unfold bandZ
  rw[if_neg (by omega)]
  have:=Int.mul_nonneg (show 0≤t.pr - 1 by omega) (show 0≤d by omega)
  omega
 have h1:bandZ d t.pr<d:=by
  unfold bandZ
  rw[if_neg (by omega)]
  rcases (show d=1∨d=2∨d=3∨d=4 by omega) with rfl|rfl|rfl|rfl<;>omega
 unfold shardZ
 rw[if_neg (by omega)]
 have k1:=Int.mul_nonneg h.1 (show 0≤d by omega)
 have k2:=Int.mul_le_mul_of_nonneg_right (show t.nm+1≤c by omega) (show 0≤d by omega)
 rw[Int.add_mul,Int.one_mul]at k2
 omega
theorem clear_law {B:WZ} {n S:Nat} (hI:Inv B B) (hn:(n:Int)=B.a*B.b) (hS:(S:Int)=B.c*B.d) (hd:1≤B.d∧B.d≤4)
  (hl:∀ i:Int,0≤i→i<n→looseZ (stW B i).k=true→0≤(tmW B i).nm∧(tmW B i).nm<B.c∧1≤(tmW B i).pr∧(tmW B i).pr≤9999) :
  Inv B (sweepW n (reapW n B S) S)∧(∀ i:Int,0≤i→i<n→heldZ (stW (sweepW n (reapW n B S) S) i).k=false∧(looseZ (stW (sweepW n (reapW n B S) S) i).k=true→¬ (tmW B i).un≤B.t))
   ∧ ∀ i k:Int,0≤i→i<n→0≤k→k<n→idl B.a B.b i k=false→(stW (sweepW n (reapW n B S) S) i).k=2→(stW (sweepW n (reapW n B S) S) k).k=2→(matchZ (tmW B i) (tmW B k) (stW (sweepW n (reapW n B S) S) i).l (stW (sweepW n (reapW n B S) S) k).l).1=0:=by
 obtain ⟨r1,r2,r3⟩:=reap_law hI hn S
 obtain ⟨s1,s2,s3⟩:=sweep_law (n:Int) r1 hn S
 have rel:=Rel_trans r2 s2
 have lo:∀ i:Int,0≤i→i<n→looseZ (stW (sweepW n (reapW n B S) S) i).k=true→looseZ (stW B i).k=true:=fun i i0 i1 h=>by
  have rc:=rel i i0 (by rw[← hn];exact i1)
  refine (loose_iff _).2 ?_
  rcases (loose_iff _).1 h with e|e
  ·exact .inl (rc.2 e)
  ·exact .inr (rc.1 e).1
 have two:∀ {k:Int},k=2→looseZ k=true:=fun h=>(loose_iff _).2 (.inr h)
 have buy:∀ x y:Int,0≤x→x<n→0≤y→y<n→idl B.a B.b x y=false→(stW (sweepW n (reapW n B S) S) x).k=2→(stW (sweepW n (reapW n B S) S) y).k=2→(tmW B x).sd=0→(matchZ (tmW B x) (tmW B y) (stW (sweepW n (reapW n B S) S) x).l (stW (sweepW n (reapW n B S) S) y).l).1=0:=fun x y x0 x1 y0 y1 hi k1 k2 hsd=>by
  have ht:=hl x x0 x1 (lo x x0 x1 (two k1))
  have hs:=shard_in hd.1 hd.2 ht
  have:=s3 (shardZ B.c B.d (tmW B x).nm (bandZ B.d (tmW B x).pr)).toNat (by omega) x y x0 x1 y0 y1 hi
  rw[show ((shardZ B.c B.d (tmW B x).nm (bandZ B.d (tmW B x).pr)).toNat:Int)=shardZ B.c B.d (tmW B x).nm (bandZ B.d (tmW B x).pr) by omega]at this
  exact this (decide_eq_true ⟨k1,hsd,rfl⟩) k2
 refine ⟨s1,fun i i0 i1=>⟨(s1.2.2 i i0 (by rw[← hn];exact i1)).2.1,fun h hu=>?_⟩,fun i k i0 i1 k0 k1 hi h1 h2=>?_⟩
 ·have ht:=hl i i0 i1 (lo i i0 i1 h)
  have hs:=shard_in hd.1 hd.2 ht
  have nd:=r3 (shardZ B.c B.d (tmW B i).nm (bandZ B.d (tmW B i).pr)).toNat (by omega) i i0 i1
  rw[show ((shardZ B.c B.d (tmW B i).nm (bandZ B.d (tmW B i).pr)).toNat:Int)=shardZ B.c B.d (tmW B i).nm (bandZ B.d (tmW B i).pr) by omega]at nd
  exact ND_rel i0 (by rw[← hn];exact i1) nd s2 h rfl hu
 ·by_cases e:(matchZ (tmW B i) (tmW B k) (stW (sweepW n (reapW n B S) S) i).l (stW (sweepW n (reapW n B S) S) k).l).1=0
  ·exact e
  ·rcases match_sides e with ⟨a1,a2⟩ | ⟨a1,a2⟩
   ·exact buy i k i0 i1 k0 k1 hi h1 h2 a1
   ·have hi':idl B.a B.b k i=false:=by
     have:=of_decide_eq_false hi
     refine decide_eq_false ?_
     omega
    exact absurd (buy k i k0 k1 i0 i1 hi' h2 h1 a2) (match_sym a1 a2 e)
theorem reap_bound {B:WZ} {n:Nat} (hI:Inv B B) (hn:(n:Int)=B.a*B.b):∀ i:Nat,(reapW n B i).s≤B.s+4*n*i∧(reapW n B i).lg.length≤B.lg.length+4*n*i
 | 0=>by simp[reapW]
 | i+1=>by
  obtain ⟨h1,h2⟩:=reap_bound hI hn i
  obtain ⟨_,_,_,_,_,_,_,_,_,b1,b2,_⟩:=rp_inv (sh:=(i:Int)) (reap_law hI hn i).1.1 (4*n)
  have e:4*n*(i+1)=4*n*i+4*n:=by rw[Nat.mul_add,Nat.mul_one]
  constructor
  ·show (rpRun (rp0 (i:Int)) (reapW n B i) (4*n)).2.s≤_
   have e2:(4*(n:Int)*((i+1:Nat):Int))=4*n*i+4*n:=by rw[Int.natCast_add,Int.mul_add];simp
   rw[e2];omega
  ·show (rpRun (rp0 (i:Int)) (reapW n B i) (4*n)).2.lg.length≤_
   rw[e];omega
theorem sweep_step {B W:WZ} {n:Nat} (h:Inv B W) (hn:(n:Int)=B.a*B.b) (i:Nat):(swRun ⟨(i:Int),0,0,none⟩ (sweepW n W i) (14*(n*n))).2=sweepW n W (i+1):=by
 have hI:=(sweep_law (n:Int) h hn i).1
 have hp:=parX_ab hI.2.1
 have hall:=cfg_all (okW_ex hI.1).1
 obtain ⟨j,q,p,e,_⟩:=sw_pass (W:=sweepW n W i) (n:=(n:Int)) (sh:=(i:Int)) (by rw[hp.1,hp.2.1];exact hn.symm) (by rw[hn,← hp.1,← hp.2.1];exact hall.1) (n*n) (by simp)
 rw[e]
 show passW (i:Int) n (sweepW n W i) (n*n)=passW (i:Int) n (sweepW n W i) ((n:Int)*n).toNat
 rw[show ((n:Int)*n).toNat=n*n by rw[← Int.natCast_mul];rfl]
theorem sweep_bound {B W:WZ} {n:Nat} (h:Inv B W) (hn:(n:Int)=B.a*B.b):∀ i:Nat,(sweepW n W i).s≤W.s+14*(n*n)*i∧(sweepW n W i).lg.length≤W.lg.length+14*(n*n)*i
 | 0=>by simp[sweepW]
 | i+1=>by
  obtain ⟨h1,h2⟩:=sweep_bound h hn i
  rw[← sweep_step h hn i]
  obtain ⟨_,_,_,_,_,_,_,b1,b2⟩:=sw_inv (sh:=(i:Int)) (sweep_law (n:Int) h hn i).1.1 (14*(n*n))
  have e:14*(n*n)*(i+1)=14*(n*n)*i+14*(n*n):=by rw[Nat.mul_add,Nat.mul_one]
  constructor
  ·have e2:(14*((n:Int)*n)*((i+1:Nat):Int))=14*(n*n)*i+14*(n*n):=by rw[Int.natCast_add,Int.mul_add];simp
   rw[e2]
   have e3:((14*(n*n):Nat):Int)=14*((n:Int)*n):=by simp
   omega
  ·rw[e];omega
end Go.W

namespace Go.W
open Go.Proofs
set_option maxRecDepth 100000
def q18_0:List MO:=[Ma 4 (.box (.t 0)),Ma 5 (.box (.t 1)),Ma 8 (.mv (.c (.int .i64 0))),Ma 9 (.mv (.c (.int .i64 0)))]
@[simp] theorem l18_0:q18_0.length=4:=rfl
instance:KR Try.f18.ntmps q18_0:=⟨[2,3,4,5],by kernel_rfl⟩
def q18_1:List MO:=[Ma 11 (.faddr 1 (.t 4)),Ma 12 (.load false 1 (.t 11)),Ma 13 (.bin .eql (.t 12) (.c (.int .i64 1)))]
@[simp] theorem l18_1:q18_1.length=3:=rfl
instance:KR Try.f18.ntmps q18_1:=⟨[2,3,4,5,13],by kernel_rfl⟩
def q18_2:List MO:=[Ma 14 (.load true 5 (.t 5)),Ma 15 (.load true 5 (.t 4)),Mb (.store 5 (.t 4) (.t 14)),Mb (.store 5 (.t 5) (.t 15))]
@[simp] theorem l18_2:q18_2.length=4:=rfl
instance:KR Try.f18.ntmps q18_2:=⟨[2,3,4,5],by kernel_rfl⟩
def q18_3:List MO:=[Ma 16 (.mv (.t 3)),Ma 17 (.mv (.t 2)),Ma 2 (.mv (.t 16)),Ma 3 (.mv (.t 17))]
@[simp] theorem l18_3:q18_3.length=4:=rfl
instance:KR Try.f18.ntmps q18_3:=⟨[2,3,4,5],by kernel_rfl⟩
def q18_4:List MO:=[Ma 18 (.faddr 1 (.t 4)),Ma 19 (.load false 1 (.t 18)),Ma 20 (.bin .neq (.t 19) (.c (.int .i64 0))),Ma 21 (.mv (.t 20)),Mg 22 (.faddr 1 (.t 5)) 21 false,Mg 23 (.load false 1 (.t 22)) 21 false,Mg 24 (.bin .neq (.t 23) (.c (.int .i64 1))) 21 false,Ma 25 (.pick (.t 21) (.c (.bool true)) (.t 24)),Ma 26 (.mv (.t 25)),Mg 27 (.faddr 0 (.t 4)) 26 false,Mg 28 (.load false 1 (.t 27)) 26 false,Mg 29 (.faddr 0 (.t 5)) 26 false,Mg 30 (.load false 1 (.t 29)) 26 false,Mg 31 (.bin .neq (.t 28) (.t 30)) 26 false,Ma 32 (.pick (.t 26) (.c (.bool true)) (.t 31)),Ma 33 (.mv (.t 32)),Mg 34 (.faddr 2 (.t 4)) 33 false,Mg 35 (.load false 1 (.t 34)) 33 false,Mg 36 (.faddr 2 (.t 5)) 33 false,Mg 37 (.load false 1 (.t 36)) 33 false,Mg 38 (.bin .lss (.t 35) (.t 37)) 33 false,Ma 39 (.pick (.t 33) (.c (.bool true)) (.t 38))]
@[simp] theorem l18_4:q18_4.length=22:=rfl
instance:KR Try.f18.ntmps q18_4:=⟨[2,3,4,5,39],by kernel_rfl⟩
def q18_5:List MO:=[Ma 8 (.mv (.c (.int .i64 0))),Ma 9 (.mv (.c (.int .i64 0)))]
@[simp] theorem l18_5:q18_5.length=2:=rfl
instance:KR Try.f18.ntmps q18_5:=⟨[8,9],by kernel_rfl⟩
def q18_6:List MO:=[Ma 40 (.mv (.t 2)),Ma 10 (.mv (.t 40))]
@[simp] theorem l18_6:q18_6.length=2:=rfl
instance:KR Try.f18.ntmps q18_6:=⟨[3,4,5,10],by kernel_rfl⟩
def q18_7:List MO:=[Ma 41 (.mv (.t 3)),Ma 42 (.mv (.t 10)),Ma 43 (.bin .lss (.t 41) (.t 42))]
@[simp] theorem l18_7:q18_7.length=3:=rfl
instance:KR Try.f18.ntmps q18_7:=⟨[3,4,5,10,43],by kernel_rfl⟩
def q18_8:List MO:=[Ma 44 (.mv (.t 3)),Ma 10 (.mv (.t 44))]
@[simp] theorem l18_8:q18_8.length=2:=rfl
instance:KR Try.f18.ntmps q18_8:=⟨[4,5,10],by kernel_rfl⟩
def q18_9:List MO:=[Ma 45 (.mv (.t 10)),Ma 46 (.bin .lss (.t 45) (.c (.int .i64 1))),Ma 47 (.mv (.t 46)),Mg 48 (.mv (.t 10)) 47 false,Mg 49 (.faddr 3 (.t 4)) 47 false,Mg 50 (.load false 1 (.t 49)) 47 false,Mg 51 (.bin .lss (.t 48) (.t 50)) 47 false,Ma 52 (.pick (.t 47) (.c (.bool true)) (.t 51)),Ma 53 (.mv (.t 52)),Mg 54 (.mv (.t 10)) 53 false,Mg 55 (.faddr 3 (.t 5)) 53 false,Mg 56 (.load false 1 (.t 55)) 53 false,Mg 57 (.bin .lss (.t 54) (.t 56)) 53 false,Ma 58 (.pick (.t 53) (.c (.bool true)) (.t 57))]
@[simp] theorem l18_9:q18_9.length=14:=rfl
instance:KR Try.f18.ntmps q18_9:=⟨[4,5,10,58],by kernel_rfl⟩
def q18_10:List MO:=[Ma 8 (.mv (.c (.int .i64 0))),Ma 9 (.mv (.c (.int .i64 0)))]
@[simp] theorem l18_10:q18_10.length=2:=rfl
instance:KR Try.f18.ntmps q18_10:=⟨[8,9],by kernel_rfl⟩
def q18_11:List MO:=[Ma 59 (.mv (.t 10)),Ma 60 (.faddr 2 (.t 4)),Ma 61 (.load false 1 (.t 60)),Ma 62 (.faddr 2 (.t 5)),Ma 63 (.load false 1 (.t 62)),Ma 64 (.bin .add (.t 61) (.t 63)),Ma 65 (.bin .quo (.t 64) (.c (.int .i64 2))),Ma 8 (.mv (.t 59)),Ma 9 (.mv (.t 65))]
@[simp] theorem l18_11:q18_11.length=9:=rfl
def p18_11:List (List Nat):=[[],[],[1],[],[3],[2,4],[5],[0,0],[6,7,0,1,2,3,4,5,6,7]]
instance:KD Try.f18.ntmps q18_11 p18_11:=⟨[[],[],[1],[],[3],[1,2,3,4],[1,2,3,4,5],[0],[0,1,2,3,4,5,6,7]],[8,9],by kernel_rfl⟩
def m18:MCode:=.seq (.reg q18_0) (.seq (.seq (.reg q18_1) (.cond (.t 13) (.seq (.reg q18_2) (.reg q18_3)) .skip)) (.seq (.seq (.reg q18_4) (.cond (.t 39) (.seq (.reg q18_5) .ret) .skip)) (.seq (.reg q18_6) (.seq (.seq (.reg q18_7) (.cond (.t 43) (.reg q18_8) .skip)) (.seq (.seq (.reg q18_9) (.cond (.t 58) (.seq (.reg q18_10) .ret) .skip)) (.seq (.draw q18_11 p18_11) .ret))))))
theorem rc18:rcOf Try.prog Try.f18=some m18:=by kernel_rfl
theorem rv18:rRVs Try.prog Try.f18.results.toList=some [(.t 8),(.t 9)]:=by kernel_rfl
theorem nm18:(Try.f18.name == "runtime.NumGoroutine")=false:=by kernel_rfl
def q17_0:List MO:=[Ma 2 (.box (.t 0)),Ma 3 (.box (.t 1)),Ma 4 (.mv (.c (.int .i64 0)))]
@[simp] theorem l17_0:q17_0.length=3:=rfl
instance:KR Try.f17.ntmps q17_0:=⟨[2,3],by kernel_rfl⟩
def q17_1:List MO:=[Ma 6 (.load true 7 (.t 2)),Ma 7 (.faddr 2 (.t 3)),Ma 8 (.load false 1 (.t 7)),Ma 9 (.call (.c (.fn 56 [])) [(.t 6),(.t 8)]),Ma 5 (.mv (.t 9))]
@[simp] theorem l17_1:q17_1.length=5:=rfl
instance:KR Try.f17.ntmps q17_1:=⟨[2,3,5],by kernel_rfl⟩
def q17_2:List MO:=[Ma 10 (.faddr 0 (.t 3)),Ma 11 (.load false 1 (.t 10)),Ma 12 (.bin .lss (.t 11) (.c (.int .i64 0))),Ma 13 (.mv (.t 12)),Mg 14 (.faddr 0 (.t 3)) 13 false,Mg 15 (.load false 1 (.t 14)) 13 false,Mg 16 (.faddr 2 (.t 2)) 13 false,Mg 17 (.load false 1 (.t 16)) 13 false,Mg 18 (.bin .geq (.t 15) (.t 17)) 13 false,Ma 19 (.pick (.t 13) (.c (.bool true)) (.t 18)),Ma 20 (.mv (.t 19)),Mg 21 (.mv (.t 5)) 20 false,Mg 22 (.bin .lss (.t 21) (.c (.int .i64 0))) 20 false,Ma 23 (.pick (.t 20) (.c (.bool true)) (.t 22))]
@[simp] theorem l17_2:q17_2.length=14:=rfl
instance:KR Try.f17.ntmps q17_2:=⟨[2,3,5,23],by kernel_rfl⟩
def q17_3:List MO:=[Ma 4 (.mv (.c (.int .i64 (-1))))]
@[simp] theorem l17_3:q17_3.length=1:=rfl
instance:KR Try.f17.ntmps q17_3:=⟨[4],by kernel_rfl⟩
def q17_4:List MO:=[Ma 24 (.faddr 0 (.t 3)),Ma 25 (.load false 1 (.t 24)),Ma 26 (.faddr 3 (.t 2)),Ma 27 (.load false 1 (.t 26)),Ma 28 (.bin .mul (.t 25) (.t 27)),Ma 29 (.mv (.t 5)),Ma 30 (.bin .add (.t 28) (.t 29)),Ma 4 (.mv (.t 30))]
@[simp] theorem l17_4:q17_4.length=8:=rfl
instance:KR Try.f17.ntmps q17_4:=⟨[4],by kernel_rfl⟩
def q56_0:List MO:=[Ma 2 (.box (.t 0)),Ma 4 (.mv (.c (.int .i64 0)))]
@[simp] theorem l56_0:q56_0.length=2:=rfl
instance:KR Try.f56.ntmps q56_0:=⟨[1,2],by kernel_rfl⟩
def q56_1:List MO:=[Ma 6 (.mv (.t 1)),Ma 7 (.bin .lss (.t 6) (.c (.int .i64 1))),Ma 8 (.mv (.t 7)),Mg 9 (.mv (.t 1)) 8 false,Mg 10 (.bin .gtr (.t 9) (.c (.int .i64 9999))) 8 false,Ma 11 (.pick (.t 8) (.c (.bool true)) (.t 10))]
@[simp] theorem l56_1:q56_1.length=6:=rfl
instance:KR Try.f56.ntmps q56_1:=⟨[1,2,11],by kernel_rfl⟩
def q56_2:List MO:=[Ma 4 (.mv (.c (.int .i64 (-1))))]
@[simp] theorem l56_2:q56_2.length=1:=rfl
instance:KR Try.f56.ntmps q56_2:=⟨[4],by kernel_rfl⟩
def q56_3:List MO:=[Ma 5 (.mv (.c (.int .i64 0)))]
@[simp] theorem l56_3:q56_3.length=1:=rfl
instance:KR Try.f56.ntmps q56_3:=⟨[1,2,5],by kernel_rfl⟩
def q56_4:List MO:=[Ma 12 (.mv (.t 5)),Ma 13 (.bin .add (.t 12) (.c (.int .i64 1))),Ma 14 (.bin .mul (.t 13) (.c (.int .i64 9999))),Ma 15 (.mv (.t 1)),Ma 16 (.bin .sub (.t 15) (.c (.int .i64 1))),Ma 17 (.faddr 3 (.t 2)),Ma 18 (.load false 1 (.t 17)),Ma 19 (.bin .mul (.t 16) (.t 18)),Ma 20 (.bin .leq (.t 14) (.t 19))]
@[simp] theorem l56_4:q56_4.length=9:=rfl
instance:KR Try.f56.ntmps q56_4:=⟨[1,2,5,20],by kernel_rfl⟩
def q56_5:List MO:=[Ma 21 (.mv (.t 5)),Ma 22 (.bin .add (.t 21) (.c (.int .i64 1))),Ma 5 (.mv (.t 22))]
@[simp] theorem l56_5:q56_5.length=3:=rfl
instance:KR Try.f56.ntmps q56_5:=⟨[1,2,5],by kernel_rfl⟩
def q56_6:List MO:=[Ma 23 (.mv (.t 5)),Ma 4 (.mv (.t 23))]
@[simp] theorem l56_6:q56_6.length=2:=rfl
instance:KR Try.f56.ntmps q56_6:=⟨[4],by kernel_rfl⟩
end Go.W

