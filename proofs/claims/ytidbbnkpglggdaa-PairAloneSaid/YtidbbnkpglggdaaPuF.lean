/- A try that is alone: what it comes to, in one law. What stands in the words of a world with orders in its cells. -/
import Derived.Test.YtidbbnkpglggdaaPuD
import Derived.Test.YtidbbnkpglggdaaPqB
import Derived.Test.YtidbbnkpglggdaaWkC
namespace Go.W
open Go.Proofs
set_option linter.unusedSimpArgs false
set_option linter.unusedVariables false
set_option maxHeartbeats 8000000
theorem match_facts {a b : TmZ} {l o q p : Int} (h : matchZ a b l o = (q,p)) (hq : q ≠ 0) (h1 : 0≤a.pr) (h2 : a.pr≤65535) (h3 : 0≤b.pr) (h4 : b.pr≤65535) : 1≤q∧q≤l∧q≤o∧0≤p∧p≤65535:=by
 unfold matchZ at h
 obtain ⟨hi,e1⟩ : ∃ x,(if a.sd = 1 then b.pr else a.pr) = x:=⟨_,rfl⟩
 obtain ⟨lo,e2⟩ : ∃ x,(if a.sd = 1 then a.pr else b.pr) = x:=⟨_,rfl⟩
 obtain ⟨m,e3⟩ : ∃ x,(if o < l then o else l) = x:=⟨_,rfl⟩
 have b1 : 0≤hi∧hi≤65535:=by rw[← e1];split<;>omega
 have b2 : 0≤lo∧lo≤65535:=by rw[← e2];split<;>omega
 have b3 : m≤l∧m≤o:=by rw[← e3];split<;>omega
 rw[e1,e2,e3]at h
 clear e1 e2 e3
 repeat' split at h
 all_goals (simp only[Prod.mk.injEq]at h;obtain ⟨rfl,rfl⟩:=h)
 all_goals first|exact absurd rfl hq|omega
theorem getT_pr (x : Int) : 0≤(termsZ x).pr∧(termsZ x).pr≤65535:=by
 have h3:=getZ_in x 5 16
 simp only[termsZ]
 omega
def comeZ (c d sh : Int) (sx sy : StZ) (tx ty : TmZ) : Int × Int:=if wantZ c d sh sx tx = true∧sy.k = 2 then matchZ tx ty sx.l sy.l else (0,0)
section
variable {W : WZ} {x y sh : Int}
theorem alone_n (hW : okW W = true) (hi : idl W.a W.b x y = false) (hx0 : 0≤x) (hx : x < W.a * W.b) (hy0 : 0≤y) (hy : y < W.a * W.b)
  (gx : (stateZ (sAt W x)).k = 2→goodZ W.f W.g (stateZ (sAt W x))) (hm : (comeZ W.c W.d sh (stateZ (sAt W x)) (stateZ (sAt W y)) (termsZ (tAt W x)) (termsZ (tAt W y))).1 = 0) :
  ∃ T' W',runT W (tz0 3 x 0 y sh) 14 = (T',W')∧T'.made = false∧stateZ (sAt W' x) = stateZ (sAt W x)∧stateZ (sAt W' y) = stateZ (sAt W y)∧W'.lg = W.lg:=by
 have hne:=idl_ne hx0 hx hi
 obtain ⟨hcf,hw,hwl,hs0,ht0,ht1,hlg⟩:=okW_ex hW
 have hc:=cfg_ex hcf
 have hall:=cfg_all hcf
 have hwd:=words_in (f:=W.f) (g:=W.g) (show 0≤W.a * W.b by omega) hall.2 (by omega) (by omega)
 have hlen : W.a * W.b * 2≤W.ws.length:=by omega
 by_cases hwant : wantZ W.c W.d sh (stateZ (sAt W x)) (termsZ (tAt W x)) = true
 case neg =>
  have r0 : runT W (tz0 3 x 0 y sh) 0 = (⟨3,x,0,y,sh,0,0,0,⟨0,0,0,0,0⟩,⟨0,0,0,0,0⟩,false,false,false,0,0,0,0,zeroS,zeroS⟩,W):=rfl
  have r1:=run_next r0 (q0 hi)
  have r2:=run_next r1 (q1 hi)
  have r3:=run_next r2 (q2n hi (by rw[tAt_tick];exact Bool.eq_false_iff.2 hwant))
  obtain ⟨T3,hT3⟩ : ∃ T,(⟨3,x,0,y,sh,3,sAt W x,0,termsZ (tAt (tickW W) x),⟨0,0,0,0,0⟩,false,false,false,0,0,0,0,zeroS,zeroS⟩ : TZ) = T:=⟨_,rfl⟩
  have hq:=quiet_run (W:=tickW (tickW W)) (T:=T3) (by rw[← hT3]) (by rw[← hT3]) (by rw[← hT3];exact Int.le_refl 3) 11
  have e:=run_split W (tz0 3 x 0 y sh) 3 11
  rw[show runT W (tz0 3 x 0 y sh) 3 = (T3,tickW (tickW W)) from by rw[← hT3];exact r3]at e
  replace e : runT W (tz0 3 x 0 y sh) (3 + 11) = runT (tickW (tickW W)) T3 11:=e
  obtain ⟨⟨T',W'⟩,hR⟩ : ∃ R,runT (tickW (tickW W)) T3 11 = R:=⟨_,rfl⟩
  rw[hR]at hq e
  refine ⟨T',W',e,hq.2.1,?_,?_,hq.2.2.2.2⟩
  ·have h4 : W'.ws = W.ws:=hq.2.2.2.1
   unfold sAt;rw[h4]
  ·have h4 : W'.ws = W.ws:=hq.2.2.2.1
   unfold sAt;rw[h4]
 have hk : (stateZ (sAt W x)).k = 2:=by
  have:=of_decide_eq_true hwant
  exact this.1
 have gg:=gx hk
 obtain ⟨k1,k2,k3,k4,k5,k6,k7,k8⟩:=gg
 obtain ⟨v,hv⟩:=wordS_mk (s:=holdS (stateZ (sAt W x))) (by unfold holdS;rw[hk];simp) (by unfold holdS;rw[hk];simp) (by unfold holdS;rw[hk];simp;omega) (by unfold holdS;rw[hk];simp;omega) (by unfold holdS;rw[hk];simp;omega) (by unfold holdS;rw[hk];simp;omega) (by unfold holdS;rw[hk];simp;omega) (by unfold holdS;rw[hk];simp;omega)
 obtain ⟨v1,hv1⟩:=wordS_mk (s:=stateZ (sAt W x)) (by omega) (by omega) (by omega) (by omega) (by omega) (by omega) (by omega) (by omega)
 have hh:=alone_hold (sh:=sh) (v:=v) hi hx0 (by omega) hne hy0 hwant hv
 obtain ⟨V,hV⟩ : ∃ V,tickW (tickW (putW (tickW (tickW W)) (2 * x).toNat v)) = V:=⟨_,rfl⟩
 have vx : sAt V x = v:=by rw[← hV,sAt_tick,sAt_tick];exact sAt_put (by show (2 * x).toNat < W.ws.length;omega)
 have vw : V.ws = W.ws.set (2 * x).toNat [.int .u64 v]:=by rw[← hV];rfl
 have vy : sAt V y = sAt W y:=by rw[← hV,sAt_tick,sAt_tick,sAt_putn (by omega)];rfl
 have vl : V.lg = W.lg:=by rw[← hV];rfl
 have vp : V.a = W.a∧V.b = W.b∧V.f = W.f∧V.g = W.g:=by rw[← hV];exact ⟨rfl,rfl,rfl,rfl⟩
 rw[hV]at hh
 have hi' : idl V.a V.b x y = false:=by rw[vp.1,vp.2.1];exact hi
 have h6 : ∃ q' p',runT W (tz0 3 x 0 y sh) 6 = (⟨3,x,0,y,sh,6,sAt W x,sAt W y,termsZ (tAt W x),termsZ (tAt W y),true,false,false,q',p',0,0,zeroS,zeroS⟩,V):=by
  by_cases hk2 : (stateZ (sAt W y)).k = 2
  ·have hq : (matchZ (termsZ (tAt W x)) (termsZ (tAt W y)) (stateZ (sAt W x)).l (stateZ (sAt W y)).l).1 = 0:=by
    unfold comeZ at hm
    rw[if_pos ⟨hwant,hk2⟩]at hm
    exact hm
   obtain ⟨p',e⟩:=q5z (W:=V) (sh:=sh) (wx:=sAt W x) (wy:=sAt W y) (q:=0) (p:=0) (ta:=0) (en:=0) (made:=false) (free:=false) (nx:=zeroS) (ny:=zeroS) hi' hk2 hq
   exact ⟨0,p',run_next hh e⟩
  ·exact ⟨0,0,run_next hh (q5n hi' hk2)⟩
 obtain ⟨q',p',h6⟩:=h6
 have hst : stateZ v = holdS (stateZ (sAt W x)):=(wordS_rt hv).1
 obtain ⟨T',W',e1,e2,e3,e4⟩:=alone_tailN (W:=V) (x:=x) (y:=y) (sh:=sh) (v:=v) (v1:=v1) (wx:=sAt W x) (wy:=sAt W y) (q:=q') (p:=p') (ta:=0) (en:=0) (tx:=termsZ (tAt W x)) (ty:=termsZ (tAt W y)) (nx:=zeroS) (ny:=zeroS) (s:=stateZ (sAt W x)) hi' vx hst (by rw[vp.2.2.1,vp.2.2.2];exact gx hk) hv1
 have e:=run_split W (tz0 3 x 0 y sh) 6 8
 rw[h6,e1]at e
 refine ⟨T',W',e,e2,?_,?_,e4.trans vl⟩
 ·have : sAt W' x = v1:=by unfold sAt;rw[e3];exact wAt_eq (by rw[vw,List.length_set];omega)
  rw[this];exact (wordS_rt hv1).1
 ·have : sAt W' y = sAt W y:=by
   rw[← vy];unfold sAt;rw[e3];exact wAt_ne (by omega)
  rw[this]
theorem alone_m (hW : okW W = true) (hi : idl W.a W.b x y = false) (hx0 : 0≤x) (hx : x < W.a * W.b) (hy0 : 0≤y) (hy : y < W.a * W.b)
  (gx : (stateZ (sAt W x)).k = 2→goodZ W.f W.g (stateZ (sAt W x))) (gy : (stateZ (sAt W y)).k = 2→goodZ W.f W.g (stateZ (sAt W y))) {q p : Int} (hm : comeZ W.c W.d sh (stateZ (sAt W x)) (stateZ (sAt W y)) (termsZ (tAt W x)) (termsZ (tAt W y)) = (q,p)) (hq : q ≠ 0) :
  ∃ T' W',runT W (tz0 3 x 0 y sh) 14 = (T',W')∧T'.made = true∧(stateZ (sAt W' x)).l = (stateZ (sAt W x)).l - q∧(stateZ (sAt W' y)).l = (stateZ (sAt W y)).l - q∧heldZ (stateZ (sAt W' x)).k = false∧heldZ (stateZ (sAt W' y)).k = false
   ∧ (∃ g w t e r,W'.lg = W.lg ++ evC 2 x g y w q p t e :: r)∧recordZ (wAt W'.ws (slotZ W.a W.b W.f W.g x (stateZ (sAt W x)).g (stateZ (sAt W x)).f).toNat) = ⟨1,q,p,W.t,y,(stateZ (sAt W y)).g⟩
   ∧ recordZ (wAt W'.ws (slotZ W.a W.b W.f W.g y (stateZ (sAt W y)).g (stateZ (sAt W y)).f).toNat) = ⟨1,q,p,W.t,x,(stateZ (sAt W x)).g⟩:=by
 have hne:=idl_ne hx0 hx hi
 obtain ⟨hcf,hw,hwl,hs0,ht0,ht1,hlg⟩:=okW_ex hW
 have hc:=cfg_ex hcf
 have hall:=cfg_all hcf
 have hwd:=words_in (f:=W.f) (g:=W.g) (show 0≤W.a * W.b by omega) hall.2 (by omega) (by omega)
 have hlen : W.a * W.b * 2≤W.ws.length:=by omega
 have hcase : wantZ W.c W.d sh (stateZ (sAt W x)) (termsZ (tAt W x)) = true∧(stateZ (sAt W y)).k = 2:=by
  unfold comeZ at hm
  split at hm
  ·assumption
  ·simp only[Prod.mk.injEq]at hm
   exact absurd hm.1.symm hq
 unfold comeZ at hm
 rw[if_pos hcase]at hm
 obtain ⟨hwant,hk2⟩:=hcase
 have hk : (stateZ (sAt W x)).k = 2:=by
  have:=of_decide_eq_true hwant
  exact this.1
 have gX:=gx hk
 have gY:=gy hk2
 have tpx:=getT_pr (tAt W x)
 have tpy:=getT_pr (tAt W y)
 obtain ⟨m1,m2,m3,m4,m5⟩:=match_facts hm hq tpx.1 tpx.2 tpy.1 tpy.2
 obtain ⟨k1,k2,k3,k4,k5,k6,k7,k8⟩:=gx hk
 obtain ⟨y1,y2,y3,y4,y5,y6,y7,y8⟩:=gy hk2
 obtain ⟨v,hv⟩:=wordS_mk (s:=holdS (stateZ (sAt W x))) (by unfold holdS;rw[hk];simp) (by unfold holdS;rw[hk];simp) (by unfold holdS;rw[hk];simp;omega) (by unfold holdS;rw[hk];simp;omega) (by unfold holdS;rw[hk];simp;omega) (by unfold holdS;rw[hk];simp;omega) (by unfold holdS;rw[hk];simp;omega) (by unfold holdS;rw[hk];simp;omega)
 have hh:=alone_hold (sh:=sh) (v:=v) hi hx0 (by omega) hne hy0 hwant hv
 have hst : stateZ v = holdS (stateZ (sAt W x)):=(wordS_rt hv).1
 obtain ⟨sx,hsx⟩ : ∃ s,stateZ (sAt W x) = s:=⟨_,rfl⟩
 obtain ⟨sy,hsy⟩ : ∃ s,stateZ (sAt W y) = s:=⟨_,rfl⟩
 rw[hsx]at hm hk gX m2 k1 k2 k3 k4 k5 k6 k7 k8 hv hst ⊢
 rw[hsy]at hm hk2 gY m3 y1 y2 y3 y4 y5 y6 y7 y8 ⊢
 obtain ⟨n2,hn2⟩ : ∃ n,endedS { sx with l:=sx.l - q,f:=sx.f + 1 } W.f = n:=⟨_,rfl⟩
 obtain ⟨ny,hny⟩ : ∃ n,endedS { sy with l:=sy.l - q,f:=sy.f + 1 } W.f = n:=⟨_,rfl⟩
 have ex:=end_g { sx with l:=sx.l - q,f:=sx.f + 1 } W.f
 have ey:=end_g { sy with l:=sy.l - q,f:=sy.f + 1 } W.f
 have exk:=ended_in (s:={ sx with l:=sx.l - q,f:=sx.f + 1 }) (F:=W.f) (by show 0≤sx.k;omega) (by show sx.k≤8;omega)
 have eyk:=ended_in (s:={ sy with l:=sy.l - q,f:=sy.f + 1 }) (F:=W.f) (by show 0≤sy.k;omega) (by show sy.k≤8;omega)
 rw[hn2]at ex exk
 rw[hny]at ey eyk
 simp only at ex ey
 obtain ⟨ex1,ex2,ex3,ex4⟩:=ex
 obtain ⟨ey1,ey2,ey3,ey4⟩:=ey
 have hx4 : heldZ n2.k = false:=by rw[ex4,hk];(repeat' split)<;>rfl
 have hy4 : heldZ ny.k = false:=by rw[ey4,hk2];(repeat' split)<;>rfl
 obtain ⟨v2,hv2⟩:=wordS_mk (s:=n2) exk.1 exk.2 (by omega) (by omega) (by omega) (by omega) (by omega) (by omega)
 obtain ⟨vt,hvt⟩:=wordS_mk (s:=ny) eyk.1 eyk.2 (by omega) (by omega) (by omega) (by omega) (by omega) (by omega)
 obtain ⟨V,hV⟩ : ∃ V,tickW (tickW (putW (tickW (tickW W)) (2 * x).toNat v)) = V:=⟨_,rfl⟩
 have vx : sAt V x = v:=by rw[← hV,sAt_tick,sAt_tick];exact sAt_put (by show (2 * x).toNat < W.ws.length;omega)
 have vw : V.ws = W.ws.set (2 * x).toNat [.int .u64 v]:=by rw[← hV];rfl
 have vy : sAt V y = sAt W y:=by rw[← hV,sAt_tick,sAt_tick,sAt_putn (by omega)];rfl
 have vl : V.lg = W.lg:=by rw[← hV];rfl
 have vp : V.a = W.a∧V.b = W.b∧V.f = W.f∧V.g = W.g∧V.t = W.t:=by rw[← hV];exact ⟨rfl,rfl,rfl,rfl,rfl⟩
 obtain ⟨va,vb,vf,vg,vt'⟩:=vp
 rw[hV]at hh
 have hi' : idl V.a V.b x y = false:=by rw[va,vb];exact hi
 have h6:=run_next hh (q5y (v:=vt) (n2:=ny) (q':=q) (p':=p) hi' (by rw[hsy];exact hk2) (by rw[hsx,hsy];exact hm) (by rw[hsy,vf,good_take gY m1 m3,hny]) hvt vy)
 obtain ⟨X,hX⟩ : ∃ X,tellW (putW V (2 * y).toNat vt) 2 x (stateZ (sAt W x)).g y (stateZ (sAt W y)).g q p 0 = X:=⟨_,rfl⟩
 rw[hX]at h6
 have xp : X.a = W.a∧X.b = W.b∧X.f = W.f∧X.g = W.g∧X.lg = W.lg ++ [evC 2 x (stateZ (sAt W x)).g y (stateZ (sAt W y)).g q p V.t 0]∧X.ws = V.ws.set (2 * y).toNat [.int .u64 vt]:=by
  rw[← hX];exact ⟨va,vb,vf,vg,by rw[← vl];rfl,rfl⟩
 obtain ⟨xa,xb,xf,xg,xl,xw⟩:=xp
 have xlen : X.ws.length = W.ws.length:=by rw[xw,vw,List.length_set,List.length_set]
 have xx : sAt X x = v:=by rw[← vx];unfold sAt;rw[xw];exact wAt_ne (by omega)
 have xy : sAt X y = vt:=by unfold sAt;rw[xw];exact wAt_eq (by rw[vw,List.length_set];omega)
 have hr : releaseS (stateZ v) q X.f = (n2,0):=by rw[hst,xf,good_rely gX m1 m2,hn2]
 rw[vt']at h6
 obtain ⟨T',W',e1,e2,e3,e4,⟨r,e5⟩,e6,e7⟩:=alone_tailM (W:=X) (x:=x) (y:=y) (sh:=sh) (v:=v) (v2:=v2) (wx:=sAt W x) (wy:=sAt W y) (q:=q) (p:=p) (ta:=W.t) (en:=0) (tx:=termsZ (tAt W x)) (ty:=termsZ (tAt W y)) (nx:=zeroS) (ny:=ny) (n2:=n2) (by rw[xa,xb];exact hi) xx hr hv2
  (by rw[xa,xb];exact hall.2) (by rw[xf];omega) (by rw[xg];omega) (by rw[xlen,xa,xb,xf,xg];exact hwl) hx0 (by rw[xa,xb];exact hx) hy0 (by rw[xa,xb];exact hy) hne (by omega) (by rw[xg];omega) (by omega) (by rw[xf];omega) (by omega) (by rw[xg];omega) (by omega) (by rw[xf];omega)
  (by omega) (by omega) m4 m5 ht0 ht1
 have e:=run_split W (tz0 3 x 0 y sh) 6 8
 rw[show runT W (tz0 3 x 0 y sh) 6 = _ from h6,e1]at e
 have t1 : stateZ (sAt W' x) = n2:=by rw[e3];exact (wordS_rt hv2).1
 have t2 : stateZ (sAt W' y) = ny:=by rw[e4,xy];exact (wordS_rt hvt).1
 rw[xa,xb,xf,xg,ex1,ex3,ey1,show sx.f + 1 - 1 = sx.f by omega]at e6
 rw[xa,xb,xf,xg,ey1,ey3,ex1,show sy.f + 1 - 1 = sy.f by omega]at e7
 refine ⟨T',W',e,e2,by rw[t1];exact ex2,by rw[t2];exact ey2,by rw[t1];exact hx4,by rw[t2];exact hy4,?_,e6,e7⟩
 exact ⟨_,_,_,_,r,by rw[e5,xl,List.append_assoc];rfl⟩
end
end Go.W
namespace Go.W
open Go.Proofs
set_option linter.unusedSimpArgs false
set_option linter.unusedVariables false
set_option maxHeartbeats 8000000
attribute [local irreducible] Wm
attribute [local simp] nmap lkp mkPl prs prsL prT ddL idL CRenL CRen Ren RenL NObj.none CRenLL
theorem runT_add (W : WZ) (T : TZ) (k : Nat) : runT W T (k + 1) = StepT (runT W T k).2 (runT W T k).1:=rfl
theorem run_pc {W : WZ} {T : TZ} (h : T.pc = 0) : ∀ k : Nat,k≤14→(runT W T k).1.pc = k
 | 0,_=>by simp[runT,h]
 | k + 1,hk=>by
  rw[runT_add,StepT_pc,run_pc h k (by omega),if_neg (by omega)]
  omega
theorem step_done {W : WZ} {T : TZ} (h : 14≤T.pc) : StepT W T = (T,W):=by
 unfold StepT;rw[if_pos h]
def bW (a b c d e f g : Int) (els ws : List (List AV)) : WZ:=⟨a,b,c,d,e,f,g,ws,2 * els.length,0,[]⟩
theorem tz0_ok (w x g y s : Int) : okT (tz0 w x g y s) = true:=by
 unfold okT tz0 zeroS okS
 simp
theorem both_W {a b c d e f g : Int} {els ws S T : List (List AV)} (hcf : cfgB a b c d e f g = true) (he : els.all ordB = true) (h : bothZ a b c d e f g els els.length = some (ws,S,T)) : okW (bW a b c d e f g els ws) = true∧(bW a b c d e f g els ws).s≤48∧els.length≤24:=by
 obtain ⟨h1,h2,h3,_⟩:=both_inv hcf he _ _ _ _ (Nat.le_refl _) h
 have hall:=cfg_all hcf
 exact ⟨decide_eq_true ⟨hcf,h2,h3,by simp only[bW];omega,Int.le_refl _,by simp[bW],rfl⟩,by simp only[bW];omega,by omega⟩
def ELy : List (FuncId × Spec):=[(9,nestS [(10,false)] d9 ok9),(10,nestS [] d10 ok10),(11,nestS [] d11 ok11),(22,nestS [(7,false)] d22 ok22),(23,nestS [(10,true)] d23 ok23),(24,nestS [(1,false)] d24 ok24),(12,stepS),(13,doneS),(15,madeS)]
theorem ELy_ok : SoundAll Try.prog (EL ELy):=EL_sound (by
 simp only[ELy,List.mem_cons,List.not_mem_nil,or_false,forall_eq_or_imp,forall_eq]
 exact ⟨s9,s10,s11,s22,s23,s24,stepS_ok,doneS_ok,madeS_ok⟩)
def d5 : List AV→List NObj→Option AV
 | [.agg [.int .i64 a,.int .i64 b,.int .i64 c,.int .i64 d,.int .i64 e,.int .i64 f,.int .i64 g],.sl (.top 0) 0 n,.agg [.int .i64 aw,.int .i64 ax,.int .i64 ag,.int .i64 ay,.int .i64 ah],.int .u8 more],[.view 0 10 els]=>if n = els.length∧els.all ordB = true∧0≤more∧more < 256 then some (.bool true) else none
 | _,_=>none
def I5 (els : List (List AV)) (more aw ax ag ay ah : Int) (T : TZ) (W : WZ) (k : Nat) : St:=⟨[(3,.int .u8 more),(6,.ptr (.top 1) 0 0),(9,.ptr (.top 2) 0 0),(12,.ptr (.top 3) 0 0),(31,.int .i64 k)],[(0,.view 0 10 els),(1,.cells 0 [.int .i64 aw,.int .i64 ax,.int .i64 ag,.int .i64 ay,.int .i64 ah]),(2,.cells 0 (wzC W)),(3,.cells 0 (tzC T))],4⟩
def J5 (els : List (List AV)) (was m5 aw ax ag ay ah : Int) (T : TZ) (W : WZ) (k : Nat) : St:=⟨[(6,.ptr (.top 1) 0 0),(9,.ptr (.top 2) 0 0),(12,.ptr (.top 3) 0 0),(17,.int .i64 was),(104,.int .i64 m5),(105,.int .i64 k)],[(0,.view 0 10 els),(1,.cells 0 [.int .i64 aw,.int .i64 ax,.int .i64 ag,.int .i64 ay,.int .i64 ah]),(2,.cells 0 (wzC W)),(3,.cells 0 (tzC T))],4⟩
theorem ok5 : ROk d5:=by
 intro xs os r h
 unfold d5 at h
 (repeat' (split at h))<;>first|(cases h;done)|(injection h with h;subst h;simp)
theorem s5 : Sound Try.prog 5 (rdS d5 ok5):=by
 refine rd_sound Try.func5 nm5 rc5 rv5 ok5 fun xs os r h vs ρ0 hvs=>⟨xs,?_,fun _ h=>h,fun w0 S hS=>?_⟩
 ·unfold d5 at h
  (repeat' (split at h))<;>first|(cases h;done)|exact Nat.le_of_ble_eq_true rfl
 unfold d5 at h
 split at h
 ·split at h
  ·rename_i a b c d e f g n aw ax ag ay ah more els hcond
   injection h with h
   subst h
   obtain ⟨rfl,hob,hm0,hm1⟩:=hcond
   have hE:=ELy_ok
   have hTe:=ord_t0 hob
   have hCe:=ord_cl hob
   have h9 : ∀ u,d9 [.agg [.int .i64 a,.int .i64 b,.int .i64 c,.int .i64 d,.int .i64 e,.int .i64 f,.int .i64 g],.os u 10 els] = some ⟨if cfgB a b c d e f g = true then bothA a b c d e f g els else .tup [.raw (.pointer none),.raw (.pointer none),.bool false],[.free]⟩:=fun u=>by
    simp only[d9];rw[if_pos hob]
   obtain ⟨ba,hba⟩ : ∃ z,(if cfgB a b c d e f g = true then bothA a b c d e f g els else .tup [.raw (.pointer none),.raw (.pointer none),.bool false]) = z:=⟨_,rfl⟩
   rw[hba]at h9
   by_cases hok : cfgB a b c d e f g = true∧bothZ a b c d e f g els els.length ≠ none
   case neg =>
    have hnil : ba = .tup [.raw (.pointer none),.raw (.pointer none),.bool false]:=by
     rw[← hba]
     by_cases hcf : cfgB a b c d e f g = true
     ·rw[if_pos hcf]
      have : bothZ a b c d e f g els els.length = none:=by
       cases hz : bothZ a b c d e f g els els.length with
       | none=>rfl
       | some p=>exact absurd ⟨hcf,by rw[hz];simp⟩ hok
      simp only[bothA,this]
     ·rw[if_neg hcf]
    rw[hnil]at h9
    unfold m5
    repeat' with_reducible (first
     | refine ZR.h ?_ | refine zI (by decide) ?_
     | ((first | refine zK hE ?_ | refine zL hE mixT ?_);intro K hK;simp[KR.ks,KD.ks,KD.cl,q5_0,q5_1,q5_2,q5_3,q5_4,q5_5,q5_6,q5_7,q5_8,q5_9,q5_10,q5_11,q5_12,q5_13,q5_14,q5_15,q5_16,q5_17,q5_18,q5_19,q5_20,q5_21,q5_22,q5_23,q5_24,q5_25,q5_26,q5_27,q5_28,ELy,stepS,doneS,madeS,ifS_fn,nil1,nil2,hTe,hCe,h9,d10];(repeat' (first | refine hK _ _ ?_ | refine And.intro ?_ ?_ | (intro hc;try subst hc)))<;>(try clear hK K))
     | (refine zJ (b:=_) (by with_unfolding_all rfl) (fun hc=>?_) (fun hc=>?_)<;>simp at hc<;>(try subst hc)))
    all_goals first|(simp;done)|(simp at *;omega)|((try simp);refine Imp.auto (by kernel_rfl) ?_ ?_<;>simp[NLe,mkPlX])
   obtain ⟨hcf,hnn⟩:=hok
   obtain ⟨ws,SS,TT,hz⟩ : ∃ ws S T,bothZ a b c d e f g els els.length = some (ws,S,T):=by
    cases hz : bothZ a b c d e f g els els.length with
    | none=>exact absurd hz hnn
    | some p=>exact ⟨_,_,_,rfl⟩
   obtain ⟨hW0,hWs,hel⟩:=both_W hcf hob hz
   obtain ⟨_,_,_,⟨_,hTS,hCS,_⟩,⟨_,hTT,hCT,_⟩⟩:=both_inv hcf hob _ _ _ _ (Nat.le_refl _) hz
   have hbe : ba = .tup [.op 0 (wzC (bW a b c d e f g els ws)),.op 0 (qC a b c d e f g SS TT),.bool true]:=by
    rw[← hba,if_pos hcf];simp only[bothA,hz];rfl
   rw[hbe]at h9
   obtain ⟨A0,hA0⟩ : ∃ z,bW a b c d e f g els ws = z:=⟨_,rfl⟩
   obtain ⟨T0,hT0⟩ : ∃ z,tz0 aw ax ag ay ah = z:=⟨_,rfl⟩
   have h11 : d11 [.agg [.int .i64 aw,.int .i64 ax,.int .i64 ag,.int .i64 ay,.int .i64 ah]] = some ⟨.op 0 (tzC T0),[]⟩:=by rw[← hT0];rfl
   have hT0k : okT T0 = true:=by rw[← hT0];exact tz0_ok _ _ _ _ _
   have hT0p : T0.pc = 0:=by rw[← hT0];rfl
   have hlg0 : A0.lg.length = 0:=by rw[← hA0];rfl
   rw[hA0]at h9 hW0 hWs
   obtain ⟨hcfA,hwA,hwlA,hsA,htA,ht1A,hlgA⟩:=okW_ex hW0
   have hTA:=w_t0 hwA
   have hCA:=w_cl hwA
   have hTlA:=l_t0 hlgA
   have hClA:=l_cl hlgA
   have hrun:=run_ok hT0k hW0
   have hpc:=fun k h=>run_pc (W:=A0) (T:=T0) hT0p k h
   clear hba hbe hnn hcfA hwA hwlA hsA htA ht1A hlgA hA0 hT0
   simp only[wzC,qC,tzC]at h9 h11
   unfold m5
   repeat' with_reducible (first
    | refine ZR.h ?_ | refine zI (by decide) ?_
    | ((first | refine zK hE ?_ | refine zL hE mixT ?_);intro K hK;simp[KR.ks,KD.ks,KD.cl,q5_0,q5_1,q5_2,q5_3,q5_4,q5_5,q5_6,q5_7,q5_8,q5_9,q5_10,q5_11,q5_12,q5_13,q5_14,q5_15,q5_16,q5_17,q5_18,q5_19,q5_20,q5_21,q5_22,q5_23,q5_24,q5_25,q5_26,q5_27,q5_28,ELy,stepS,doneS,madeS,ifS_fn,nil1,nil2,hTe,hCe,h9,h11,hTA,hCA,hTlA,hClA,hTS,hCS,hTT,hCT];(repeat' (first | refine hK _ _ ?_ | refine And.intro ?_ ?_ | (intro hc;try subst hc)))<;>(try clear hK K))
    | (refine zJ (b:=_) (by with_unfolding_all rfl) (fun hc=>?_) (fun hc=>?_)<;>simp at hc<;>(try subst hc)))
   all_goals (refine Wm_loop (fun k=>I5 els more aw ax ag ay ah (runT A0 T0 k).1 (runT A0 T0 k).2 k) (fun k=>k≤14) (fun k=>14 - k) 0 (Nat.zero_le _) ?_ ?_)
   ·simp only[I5,runT,wzC,tzC]
    rw[hS]
    refine Imp.auto (by kernel_rfl) ?_ ?_<;>simp[NLe,mkPlX,hTe,hCe,hTA,hCA,hTlA,hClA,hTS,hCS,hTT,hCT]
   ·clear h9
    intro k hk
    replace hk : k≤14:=hk
    obtain ⟨kT,kW,ks,kl⟩:=hrun k
    have kpc:=hpc k hk
    have hsm : smW (runT A0 T0 k).2 = true:=decide_eq_true (by omega)
    have h13:=e13 (runT A0 T0 k).1
    rw[kpc]at h13
    by_cases hk14 : k < 14
    ·have hst:=e12 kT kW hsm
     have hfr:=StepT_fr (runT A0 T0 k).2 (runT A0 T0 k).1
     have h13b:=e13 (runT A0 T0 (k + 1)).1
     rw[hpc (k + 1) (by omega)]at h13b
     have kW2:=(hrun (k + 1)).2.1
     rw[← runT_add]at hst hfr
     rw[decide_eq_false (by omega)]at h13
     obtain ⟨r,hr⟩ : ∃ r,runT A0 T0 k = r:=⟨_,rfl⟩
     obtain ⟨r2,hr2⟩ : ∃ r,runT A0 T0 (k + 1) = r:=⟨_,rfl⟩
     rw[hr]at kT kW ks kl hst hfr h13
     rw[hr2]at hst hfr kW2 h13b
     rw[hr]
     obtain ⟨hcf,hw,hwl,hs0,ht0,ht1,hlg⟩:=okW_ex kW
     have hT:=w_t0 hw
     have hC:=w_cl hw
     have hTl:=l_t0 hlg
     have hCl:=l_cl hlg
     obtain ⟨hcf2,hw2,hwl2,hs02,ht02,ht12,hlg2⟩:=okW_ex kW2
     have hT2:=w_t0 hw2
     have hC2:=w_cl hw2
     have hTl2:=l_t0 hlg2
     have hCl2:=l_cl hlg2
     have hkI : (k : Int) < 14:=by omega
     have ww : IntKind.wrap .i64 ((k : Int) + 1) = (k : Int) + 1:=wrap_in (by omega) (by omega)
     have wd : IntKind.wrap .i64 (r2.2.s - r.2.s) = r2.2.s - r.2.s:=wrap_in (by omega) (by omega)
     have wd1 : ¬ (r2.2.s - r.2.s < 0):=by omega
     have wd2 : ¬ (1 < r2.2.s - r.2.s):=by omega
     have hcase : (k = 13∧decide ((14 : Int)≤((k + 1 : Nat) : Int)) = true)∨(¬ (k : Int) = 13∧decide ((14 : Int)≤((k + 1 : Nat) : Int)) = false):=by
      by_cases h : k = 13
      ·exact .inl ⟨h,decide_eq_true (by omega)⟩
      ·exact .inr ⟨by omega,decide_eq_false (by omega)⟩
     simp only[I5,tzC,wzC,wzL]at hst h13 h13b ⊢
     have w14 : IntKind.wrap .i64 14 = 14:=by rfl
     rcases hcase with ⟨rfl,hd⟩ | ⟨hk13,hd⟩
     ·rw[hd]at h13b
      repeat' with_reducible (first
       | refine ZR.h ?_ | refine zI (by decide) ?_
       | ((first | refine zK hE ?_ | refine zL hE mixT ?_);intro K hK;simp[KR.ks,KD.ks,KD.cl,q5_0,q5_1,q5_2,q5_3,q5_4,q5_5,q5_6,q5_7,q5_8,q5_9,q5_10,q5_11,q5_12,q5_13,q5_14,q5_15,q5_16,q5_17,q5_18,q5_19,q5_20,q5_21,q5_22,q5_23,q5_24,q5_25,q5_26,q5_27,q5_28,ELy,stepS,doneS,madeS,ifS_fn,nil1,nil2,hTe,hCe,hT,hC,hTl,hCl,hT2,hC2,hTl2,hCl2,d22,hkI,hst,ww,h13,h13b,wd,wd1,wd2,w14];(repeat' (first | refine hK _ _ ?_ | refine And.intro ?_ ?_ | (intro hc;try subst hc)))<;>(try clear hK K))
       | (refine zJ (b:=_) (by with_unfolding_all rfl) (fun hc=>?_) (fun hc=>?_)<;>simp at hc<;>(try subst hc)))
      all_goals refine ⟨14,Nat.le_refl _,by simp,?_⟩
      all_goals simp only[hr2]
      all_goals rw[hS]
      all_goals (refine Imp.auto (by kernel_rfl) ?_ ?_<;>simp[NLe,mkPlX,hTe,hCe,hT,hC,hTl,hCl,hT2,hC2,hTl2,hCl2,w14])
     ·rw[hd]at h13b
      repeat' with_reducible (first
       | refine ZR.h ?_ | refine zI (by decide) ?_
       | ((first | refine zK hE ?_ | refine zL hE mixT ?_);intro K hK;simp[KR.ks,KD.ks,KD.cl,q5_0,q5_1,q5_2,q5_3,q5_4,q5_5,q5_6,q5_7,q5_8,q5_9,q5_10,q5_11,q5_12,q5_13,q5_14,q5_15,q5_16,q5_17,q5_18,q5_19,q5_20,q5_21,q5_22,q5_23,q5_24,q5_25,q5_26,q5_27,q5_28,ELy,stepS,doneS,madeS,ifS_fn,nil1,nil2,hTe,hCe,hT,hC,hTl,hCl,hT2,hC2,hTl2,hCl2,d22,hkI,hst,ww,h13,h13b,wd,wd1,wd2,hk13];(repeat' (first | refine hK _ _ ?_ | refine And.intro ?_ ?_ | (intro hc;try subst hc)))<;>(try clear hK K))
       | (refine zJ (b:=_) (by with_unfolding_all rfl) (fun hc=>?_) (fun hc=>?_)<;>simp at hc<;>(try subst hc)))
      all_goals refine ⟨k + 1,hk14,Nat.sub_lt_sub_left hk14 (Nat.lt_succ_self k),?_⟩
      all_goals simp only[hr2]
      all_goals rw[hS]
      all_goals (refine Imp.auto (by kernel_rfl) ?_ ?_<;>simp[NLe,mkPlX,hTe,hCe,hT,hC,hTl,hCl,hT2,hC2,hTl2,hCl2])
    ·have hke : k = 14:=by omega
     subst hke
     clear h13
     have hlo:=smW_lo hsm
     have hdone : ∀ W,StepT W (runT A0 T0 14).1 = ((runT A0 T0 14).1,W):=fun W=>step_done (by omega)
     have h23:=e23 kW hlo 4 7 0 0 0 0 0 99 0
     have kW2:=tell_ok kW 4 7 0 0 0 0 0 0
     obtain ⟨r,hr⟩ : ∃ r,runT A0 T0 14 = r:=⟨_,rfl⟩
     rw[hr]at kT kW ks kl h23 hsm hlo kW2 hdone kpc
     rw[hr]
     obtain ⟨A2,hA2⟩ : ∃ z,tellW r.2 4 7 0 0 0 0 0 0 = z:=⟨_,rfl⟩
     have hA2s : A2.s = r.2.s:=by rw[← hA2];rfl
     have hA2t : A2.t = r.2.t:=by rw[← hA2];rfl
     have hA2l : A2.lg = r.2.lg ++ [evC 4 7 0 0 0 0 0 r.2.t 0]:=by rw[← hA2];rfl
     have hA2n : A2.lg.length = r.2.lg.length + 1:=by rw[hA2l];simp
     have hA2g : A2.lg[r.2.lg.length]? = some (evC 4 7 0 0 0 0 0 r.2.t 0):=by rw[hA2l];simp
     rw[hA2]at h23 kW2
     have hsm2 : smW A2 = true:=decide_eq_true (by omega)
     have hst:=e12 kT kW2 hsm2
     rw[hdone]at hst
     have hstn : ∀ u u1 u2 u3 u4,d12n [.raw (.pointer none),.op u (wzL A2 u1 u2 u3 u4)] = some ⟨.tup [],[.free]⟩:=fun u u1 u2 u3 u4=>by
      simp only[d12n,wzOf_C];rw[if_pos kW2]
     have hstw : ∀ u,d12w [.op u (tzC T0),.raw (.pointer none)] = some ⟨.tup [],[.free]⟩:=fun u=>by
      simp only[d12w,tzOf_C]
     obtain ⟨hcf,hw,hwl,hs0,ht0,ht1,hlg⟩:=okW_ex kW
     have hT:=w_t0 hw
     have hC:=w_cl hw
     have hTl:=l_t0 hlg
     have hCl:=l_cl hlg
     obtain ⟨hcf2,hw2,hwl2,hs02,ht02,ht12,hlg2⟩:=okW_ex kW2
     have hT2:=w_t0 hw2
     have hC2:=w_cl hw2
     have hTl2:=l_t0 hlg2
     have hCl2:=l_cl hlg2
     have h24 : ∀ u,d24 [.op u [.int .u64 A2.t]] = some ⟨.int .i64 r.2.t,[.free]⟩:=fun u=>by simp only[d24,hA2t];rw[if_pos ⟨ht0,ht1⟩]
     obtain ⟨L,hL⟩ : ∃ z,r.2.lg.length = z:=⟨_,rfl⟩
     rw[hL]at hA2n hA2g kl
     have hA2e : ∀ h : L < A2.lg.length,A2.lg[L] = evC 4 7 0 0 0 0 0 r.2.t 0:=fun h=>by
      have:=hA2g
      rw[List.getElem?_eq_getElem h]at this
      simpa using this
     have w14 : IntKind.wrap .i64 14 = 14:=by rfl
     have hLL : (L : Int) < (L : Int) + 1:=by omega
     have wl : IntKind.wrap .i64 ((L : Int) + 1) = (L : Int) + 1:=wrap_in (by omega) (by omega)
     obtain ⟨m5,hm5⟩ : ∃ z,more.tmod 5 = z:=⟨_,rfl⟩
     have hm5r : 0≤m5∧m5 < 256:=by rw[← hm5,Int.tmod_eq_emod_of_nonneg hm0];omega
     have wm : IntKind.wrap .i64 m5 = m5:=wrap_in (by omega) (by omega)
     simp only[I5,tzC,wzC,wzL,evC]at hst hstn hstw h23 h24 h11 hA2g hA2e ⊢
     repeat' with_reducible (first
      | refine ZR.h ?_ | refine zI (by decide) ?_
      | ((first | refine zK hE ?_ | refine zL hE mixT ?_);intro K hK;simp[KR.ks,KD.ks,KD.cl,q5_0,q5_1,q5_2,q5_3,q5_4,q5_5,q5_6,q5_7,q5_8,q5_9,q5_10,q5_11,q5_12,q5_13,q5_14,q5_15,q5_16,q5_17,q5_18,q5_19,q5_20,q5_21,q5_22,q5_23,q5_24,q5_25,q5_26,q5_27,q5_28,ELy,stepS,doneS,madeS,ifS_fn,nil1,nil2,hTe,hCe,hT,hC,hTl,hCl,hT2,hC2,hTl2,hCl2,d22,h23,h24,hL,hA2n,hA2g,hA2e,hLL,wl,hm5,wm];(repeat' (first | refine hK _ _ ?_ | refine And.intro ?_ ?_ | (intro hc;try subst hc)))<;>(try clear hK K))
      | (refine zJ (b:=_) (by with_unfolding_all rfl) (fun hc=>?_) (fun hc=>?_)<;>simp at hc<;>(try subst hc)))
     all_goals (refine Wm_loop (fun k=>J5 els A2.s m5 aw ax ag ay ah r.1 A2 k) (fun k=>(k : Int)≤m5) (fun k=>m5.toNat - k) 0 hm5r.1 ?_ ?_)
     ·simp only[J5,wzC,tzC]
      rw[hS]
      refine Imp.auto (by kernel_rfl) ?_ ?_<;>simp[NLe,mkPlX,hTe,hCe,hT,hC,hTl,hCl,hT2,hC2,hTl2,hCl2,hm5,wm]
     ·intro k hk
      replace hk : (k : Int)≤m5:=hk
      simp only[J5,wzC,tzC]
      by_cases hkm : (k : Int) < m5
      ·have ww : IntKind.wrap .i64 ((k : Int) + 1) = (k : Int) + 1:=wrap_in (by omega) (by omega)
       repeat' with_reducible (first
        | refine ZR.h ?_ | refine zI (by decide) ?_
        | ((first | refine zK hE ?_ | refine zL hE mixT ?_);intro K hK;simp[KR.ks,KD.ks,KD.cl,q5_0,q5_1,q5_2,q5_3,q5_4,q5_5,q5_6,q5_7,q5_8,q5_9,q5_10,q5_11,q5_12,q5_13,q5_14,q5_15,q5_16,q5_17,q5_18,q5_19,q5_20,q5_21,q5_22,q5_23,q5_24,q5_25,q5_26,q5_27,q5_28,ELy,stepS,doneS,madeS,ifS_fn,nil1,nil2,hTe,hCe,hT2,hC2,hTl2,hCl2,hkm,hst,ww];(repeat' (first | refine hK _ _ ?_ | refine And.intro ?_ ?_ | (intro hc;try subst hc)))<;>(try clear hK K))
        | (refine zJ (b:=_) (by with_unfolding_all rfl) (fun hc=>?_) (fun hc=>?_)<;>simp at hc<;>(try subst hc)))
       all_goals refine ⟨k + 1,by show ((k + 1 : Nat) : Int)≤m5;omega,by show m5.toNat - (k + 1) < m5.toNat - k;omega,?_⟩
       all_goals rw[hS]
       all_goals (refine Imp.auto (by kernel_rfl) ?_ ?_<;>simp[NLe,mkPlX,hTe,hCe,hT2,hC2,hTl2,hCl2])
      ·repeat' with_reducible (first
        | refine ZR.h ?_ | refine zI (by decide) ?_
        | ((first | refine zK hE ?_ | refine zL hE mixT ?_);intro K hK;simp[KR.ks,KD.ks,KD.cl,q5_0,q5_1,q5_2,q5_3,q5_4,q5_5,q5_6,q5_7,q5_8,q5_9,q5_10,q5_11,q5_12,q5_13,q5_14,q5_15,q5_16,q5_17,q5_18,q5_19,q5_20,q5_21,q5_22,q5_23,q5_24,q5_25,q5_26,q5_27,q5_28,ELy,stepS,doneS,madeS,ifS_fn,nil1,nil2,hTe,hCe,hT2,hC2,hTl2,hCl2,hkm,hstn,hstw,h11,d22,d10,d13n,d15n];(repeat' (first | refine hK _ _ ?_ | refine And.intro ?_ ?_ | (intro hc;try subst hc)))<;>(try clear hK K))
        | (refine zJ (b:=_) (by with_unfolding_all rfl) (fun hc=>?_) (fun hc=>?_)<;>simp at hc<;>(try subst hc)))
       all_goals first|(simp;done)|(simp at *;omega)|((try simp);refine Imp.auto (by kernel_rfl) ?_ ?_<;>simp[NLe,mkPlX])
  ·cases h
 ·cases h
end Go.W
namespace Go.W
open Go.Proofs
set_option linter.unusedSimpArgs false
set_option linter.unusedVariables false
set_option maxHeartbeats 8000000
def stL (s : StZ) : List AV:=[.int .i64 s.k,.bool s.fl,.int .i64 s.g,.int .i64 s.l,.int .i64 s.f]
def cellZ (f g : Int) (ws S T : List (List AV)) (i : Nat) : Prop:=S[i]? = some (stL (stateZ (wAt ws (2 * i))))∧T[i]? = some (tmC (termsZ (wAt ws (2 * i + 1))))∧((stateZ (wAt ws (2 * i))).k = 2→goodZ f g (stateZ (wAt ws (2 * i))))
theorem wAt_rep (n i : Nat) : wAt (List.replicate n [.int .u64 0]) i = 0:=by
 unfold wAt
 rw[List.getElem?_replicate]
 split<;>simp_all
theorem okO_ex2 {a b c f g : Int} {k : Nat} {kd sg sl sf nm sd pr le un : Int} {fl : Bool} {v u : Int} (h : okO a b c f g k [.int .i64 kd,.bool fl,.int .i64 sg,.int .i64 sl,.int .i64 sf,.int .i64 nm,.int .i64 sd,.int .i64 pr,.int .i64 le,.int .i64 un] = some (v,u)) : wordS ⟨kd,fl,sg,sl,sf⟩ = some v∧wordT ⟨nm,sd,pr,le,un⟩ = some u∧1≤sg∧sg≤g∧1≤sl∧sf < f∧fl = false:=by
 simp only[okO]at h
 split at h
 ·rename_i v' u' h1 h2
  by_cases hc : (k : Int) < a * b∧1≤sg∧sg≤g∧1≤sl∧sf < f∧(looseZ kd = true∨5≤kd)∧fl = false∧chkT c ⟨nm,sd,pr,le,un⟩ (if sl < le then le else sl) 0 = 0
  ·rw[if_pos hc]at h
   simp only[Option.some.injEq,Prod.mk.injEq]at h
   obtain ⟨rfl,rfl⟩:=h
   exact ⟨h1,h2,hc.2.1,hc.2.2.1,hc.2.2.2.1,hc.2.2.2.2.1,hc.2.2.2.2.2.2.1⟩
  ·rw[if_neg hc]at h;cases h
 ·cases h
theorem both_cell {a b c d e f g : Int} {els : List (List AV)} (hcf : cfgB a b c d e f g = true) (he : els.all ordB = true) : ∀ (k : Nat) (ws S T : List (List AV)),k≤els.length→bothZ a b c d e f g els k = some (ws,S,T)→∀ i : Nat,(i : Int) < a * b→cellZ f g ws S T i
 | 0,ws,S,T,_,h,i,hi=>by
  simp only[bothZ,Option.some.injEq,Prod.mk.injEq]at h
  obtain ⟨rfl,rfl,rfl⟩:=h
  have e0 : wAt (W0 a b c d e f g).ws (2 * i) = 0:=wAt_rep _ _
  have e1 : wAt (W0 a b c d e f g).ws (2 * i + 1) = 0:=wAt_rep _ _
  unfold cellZ
  rw[e0,e1]
  refine ⟨?_,?_,fun h=>?_⟩
  ·unfold zS;rw[List.getElem?_replicate,if_pos (by omega)];rfl
  ·unfold zT;rw[List.getElem?_replicate,if_pos (by omega)];rfl
  ·have : (stateZ 0).k = 0:=by rfl
   omega
 | k + 1,ws,S,T,hk,h,i,hi=>by
  simp only[bothZ]at h
  split at h
  ·cases h
  ·rename_i ws0 S0 T0 h0
   split at h
   ·cases h
   ·rename_i v u hO
    simp only[Option.some.injEq,Prod.mk.injEq]at h
    obtain ⟨rfl,rfl,rfl⟩:=h
    have hkl : k < els.length:=by omega
    have hrow : ordB (els.getD k []) = true:=by
     rw[List.getD_eq_getElem?_getD,List.getElem?_eq_getElem hkl]
     exact List.all_eq_true.1 he _ (List.getElem_mem hkl)
    have hkn:=(okO_ex hrow hO).1
    obtain ⟨i1,i2,i3,i4,i5⟩:=both_inv hcf he k ws0 S0 T0 (by omega) h0
    have ih:=both_cell hcf he k ws0 S0 T0 (by omega) h0 i hi
    obtain ⟨kd,fl,sg,sl,sf,nm,sd,pr,le,un,hoe,_⟩:=ordB_ex hrow
    rw[hoe]at hO ⊢
    obtain ⟨hv,hu,g1,g2,g3,g4,g5⟩:=okO_ex2 hO
    obtain ⟨r1,r2,r3,r4,r5,r6,r7,r8,r9⟩:=wordS_rt hv
    have rt:=wordT_rt hu
    have hc:=cfg_ex hcf
    have hall:=cfg_all hcf
    have hwd:=words_in (f:=f) (g:=g) (show 0≤a * b by omega) hall.2 (by omega) (by omega)
    by_cases hik : i = k
    ·subst hik
     have e0 : wAt ((ws0.set (2 * i) [.int .u64 v]).set (2 * i + 1) [.int .u64 u]) (2 * i) = v:=by
      rw[wAt_ne (by omega),wAt_eq (by omega)]
     have e1 : wAt ((ws0.set (2 * i) [.int .u64 v]).set (2 * i + 1) [.int .u64 u]) (2 * i + 1) = u:=wAt_eq (by rw[List.length_set];omega)
     unfold cellZ
     rw[e0,e1,r1,rt]
     refine ⟨?_,?_,fun h2=>?_⟩
     ·rw[List.getElem?_set_self (by rw[i4.1];omega)];rfl
     ·rw[List.getElem?_set_self (by rw[i5.1];omega)];rfl
     ·exact ⟨h2,g5,g1,g2,g3,r7,r8,g4⟩
    ·have e0 : wAt ((ws0.set (2 * k) [.int .u64 v]).set (2 * k + 1) [.int .u64 u]) (2 * i) = wAt ws0 (2 * i):=by
      rw[wAt_ne (by omega),wAt_ne (by omega)]
     have e1 : wAt ((ws0.set (2 * k) [.int .u64 v]).set (2 * k + 1) [.int .u64 u]) (2 * i + 1) = wAt ws0 (2 * i + 1):=by
      rw[wAt_ne (by omega),wAt_ne (by omega)]
     unfold cellZ
     rw[e0,e1,List.getElem?_set_ne (by omega),List.getElem?_set_ne (by omega)]
     exact ih
end Go.W
