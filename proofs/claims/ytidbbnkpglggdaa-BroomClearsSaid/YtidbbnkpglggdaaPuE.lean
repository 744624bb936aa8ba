/- A try that is alone: its steps, one by one. A try that is alone: what it comes to. A try that is alone: what it comes to, in one law. -/
import Derived.Test.YtidbbnkpglggdaaPuB
namespace Go.W
open Go.Proofs
set_option linter.unusedSimpArgs false
set_option linter.unusedVariables false
set_option maxHeartbeats 8000000
theorem wAt_eq {ws:List (List AV)} {i:Nat} {v:Int} (h:i<ws.length):wAt (ws.set i [.int .u64 v]) i=v:=by
 unfold wAt;rw[List.getElem?_set_self h]
theorem wAt_ne {ws:List (List AV)} {i j:Nat} {c:List AV} (h:i≠j):wAt (ws.set i c) j=wAt ws j:=by
 unfold wAt;rw[List.getElem?_set_ne h]
def idl (a b x y:Int):Bool:=decide (ownZ a b x<0∨ownZ a b y<0∨ownZ a b x=ownZ a b y)
theorem idle_eq (W:WZ) (T:TZ):idleT W T=idl W.a W.b T.x T.y:=rfl
theorem sAt_tick (W:WZ) (x:Int):sAt (tickW W) x=sAt W x:=rfl
theorem tAt_tick (W:WZ) (x:Int):tAt (tickW W) x=tAt W x:=rfl
theorem sAt_tell (W:WZ) (k c g o w q p e x:Int):sAt (tellW W k c g o w q p e) x=sAt W x:=rfl
theorem sAt_put {W:WZ} {x:Int} {v:Int} (h:(2*x).toNat<W.ws.length):sAt (putW W (2*x).toNat v) x=v:=wAt_eq h
theorem sAt_putn {W:WZ} {x y:Int} {v:Int} (h:(2*y).toNat≠(2*x).toNat):sAt (putW W (2*y).toNat v) x=sAt W x:=wAt_ne h
theorem tAt_puts {W:WZ} {x y:Int} {v:Int} (h:(2*y).toNat≠(2*x+1).toNat):tAt (putW W (2*y).toNat v) x=tAt W x:=wAt_ne h
theorem end_g (s:StZ) (F:Int):(endedS s F).g=s.g∧(endedS s F).l=s.l∧(endedS s F).f=s.f∧heldZ (endedS s F).k=(if s.l=0 then false else if F≤s.f then false else heldZ s.k):=by
 unfold endedS
 repeat' split
 all_goals simp[heldZ]
section
variable {W:WZ} {x y sh wx wy q p ta en:Int} {tx ty:TmZ} {held made free:Bool} {nx ny:StZ}
theorem q0 (hi:idl W.a W.b x y=false):StepT W ⟨3,x,0,y,sh,0,wx,wy,tx,ty,held,made,free,q,p,ta,en,nx,ny⟩=(⟨3,x,0,y,sh,1,sAt W x,wy,tx,ty,held,made,free,q,p,ta,en,nx,ny⟩,tickW W):=by
 simp[StepT,stepT,idle_eq,hi]
theorem q1 (hi:idl W.a W.b x y=false):StepT W ⟨3,x,0,y,sh,1,wx,wy,tx,ty,held,made,free,q,p,ta,en,nx,ny⟩=(⟨3,x,0,y,sh,2,wx,wy,termsZ (tAt W x),ty,held,made,free,q,p,ta,en,nx,ny⟩,tickW W):=by
 simp[StepT,stepT,idle_eq,hi]
def wantZ (c d sh:Int) (s:StZ) (t:TmZ):Bool:=decide (s.k=2∧t.sd=0∧shardZ c d t.nm (bandZ d t.pr)=sh)
theorem q2n (hi:idl W.a W.b x y=false) (hw:wantZ W.c W.d sh (stateZ wx) tx=false):StepT W ⟨3,x,0,y,sh,2,wx,wy,tx,ty,held,made,free,q,p,ta,en,nx,ny⟩=(⟨3,x,0,y,sh,3,wx,wy,tx,ty,held,made,free,q,p,ta,en,nx,ny⟩,W):=by
 have h:wantsT W ⟨3,x,0,y,sh,2,wx,wy,tx,ty,held,made,free,q,p,ta,en,nx,ny⟩ (stateZ wx)=false:=by
  rw[← hw];simp[wantsT,wantZ]
 simp[StepT,stepT,idle_eq,hi,holdT,h]
theorem q2y {v:Int} (hi:idl W.a W.b x y=false) (hw:wantZ W.c W.d sh (stateZ wx) tx=true) (hv:wordS (holdS (stateZ wx))=some v) (hs:sAt W x=wx):StepT W ⟨3,x,0,y,sh,2,wx,wy,tx,ty,held,made,free,q,p,ta,en,nx,ny⟩=(⟨3,x,0,y,sh,3,wx,wy,tx,ty,true,made,free,q,p,ta,en,nx,ny⟩,putW W (2*x).toNat v):=by
 have h:wantsT W ⟨3,x,0,y,sh,2,wx,wy,tx,ty,held,made,free,q,p,ta,en,nx,ny⟩ (stateZ wx)=true:=by
  rw[← hw];simp[wantsT,wantZ]
 simp[StepT,stepT,idle_eq,hi,holdT,h,turnW,hv,hs]
theorem q3 (hi:idl W.a W.b x y=false):StepT W ⟨3,x,0,y,sh,3,wx,wy,tx,ty,held,made,free,q,p,ta,en,nx,ny⟩=(⟨3,x,0,y,sh,4,wx,sAt W y,tx,ty,held,made,free,q,p,ta,en,nx,ny⟩,tickW W):=by
 simp[StepT,stepT,idle_eq,hi]
theorem q4 (hi:idl W.a W.b x y=false):StepT W ⟨3,x,0,y,sh,4,wx,wy,tx,ty,held,made,free,q,p,ta,en,nx,ny⟩=(⟨3,x,0,y,sh,5,wx,wy,tx,termsZ (tAt W y),held,made,free,q,p,ta,en,nx,ny⟩,tickW W):=by
 simp[StepT,stepT,idle_eq,hi]
theorem q5n (hi:idl W.a W.b x y=false) (hk:¬ (stateZ wy).k=2):StepT W ⟨3,x,0,y,sh,5,wx,wy,tx,ty,held,made,free,q,p,ta,en,nx,ny⟩=(⟨3,x,0,y,sh,6,wx,wy,tx,ty,held,made,free,q,p,ta,en,nx,ny⟩,W):=by
 simp[StepT,stepT,idle_eq,hi,takeT,findsT,hk]
theorem q5z (hi:idl W.a W.b x y=false) (hk:(stateZ wy).k=2) (hq:(matchZ tx ty (stateZ wx).l (stateZ wy).l).1=0):∃ p',StepT W ⟨3,x,0,y,sh,5,wx,wy,tx,ty,true,made,free,q,p,ta,en,nx,ny⟩=(⟨3,x,0,y,sh,6,wx,wy,tx,ty,true,made,free,0,p',ta,en,nx,ny⟩,W):=by
 refine ⟨(matchZ tx ty (stateZ wx).l (stateZ wy).l).2,?_⟩
 have ht:(takeS (stateZ wy) 0 W.f).2=23:=by simp[takeS,looseZ,hk]
 simp[StepT,stepT,idle_eq,hi,takeT,findsT,hk,hq,ht]
theorem q5y {v:Int} {n2:StZ} {q' p':Int} (hi:idl W.a W.b x y=false) (hk:(stateZ wy).k=2) (hq:matchZ tx ty (stateZ wx).l (stateZ wy).l=(q',p')) (ht:takeS (stateZ wy) q' W.f=(n2,0)) (hv:wordS n2=some v) (hs:sAt W y=wy):StepT W ⟨3,x,0,y,sh,5,wx,wy,tx,ty,true,made,free,q,p,ta,en,nx,ny⟩=(⟨3,x,0,y,sh,6,wx,wy,tx,ty,true,true,free,q',p',W.t,en,nx,n2⟩,tellW (putW W (2*y).toNat v) 2 x (stateZ wx).g y (stateZ wy).g q' p' 0):=by
 simp[StepT,stepT,idle_eq,hi,takeT,findsT,hk,hq,ht,turnW,hv,hs]
theorem q6 (hi:idl W.a W.b x y=false):StepT W ⟨3,x,0,y,sh,6,wx,wy,tx,ty,true,made,false,q,p,ta,en,nx,ny⟩=(⟨3,x,0,y,sh,7,sAt W x,wy,tx,ty,true,made,false,q,p,ta,en,nx,ny⟩,tickW W):=by
 simp[StepT,stepT,idle_eq,hi,lookT]
theorem q7 {v:Int} {n2:StZ} (hi:idl W.a W.b x y=false) (hr:releaseS (stateZ wx) (if made=true then q else 0) W.f=(n2,0)) (hv:wordS n2=some v) (hs:sAt W x=wx):StepT W ⟨3,x,0,y,sh,7,wx,wy,tx,ty,true,made,false,q,p,ta,en,nx,ny⟩=(⟨3,x,0,y,sh,8,wx,wy,tx,ty,true,made,true,q,p,ta,W.t,n2,ny⟩,if overZ n2.k=true then tellW (putW W (2*x).toNat v) 7 x n2.g 0 0 0 0 n2.k else putW W (2*x).toNat v):=by
 simp[StepT,stepT,idle_eq,hi,letT,qtyT,hr,turnW,hv,hs]
theorem q8 (hi:idl W.a W.b x y=false):StepT W ⟨3,x,0,y,sh,8,wx,wy,tx,ty,held,made,true,q,p,ta,en,nx,ny⟩=(⟨3,x,0,y,sh,9,wx,wy,tx,ty,held,made,true,q,p,ta,en,nx,ny⟩,W):=by
 simp[StepT,stepT,idle_eq,hi,lookT]
theorem q9 (hi:idl W.a W.b x y=false):StepT W ⟨3,x,0,y,sh,9,wx,wy,tx,ty,held,made,true,q,p,ta,en,nx,ny⟩=(⟨3,x,0,y,sh,10,wx,wy,tx,ty,held,made,true,q,p,ta,en,nx,ny⟩,W):=by
 simp[StepT,stepT,idle_eq,hi,letT]
theorem q10 (hi:idl W.a W.b x y=false):StepT W ⟨3,x,0,y,sh,10,wx,wy,tx,ty,held,true,free,q,p,ta,en,nx,ny⟩=(⟨3,x,0,y,sh,11,wx,wy,tx,ty,held,true,free,q,p,ta,en,nx,ny⟩,noteW W x nx.g (nx.f - 1) ⟨1,q,p,ta,y,ny.g⟩):=by
 simp[StepT,stepT,idle_eq,hi,noteT,fillR]
theorem q11 (hi:idl W.a W.b x y=false):StepT W ⟨3,x,0,y,sh,11,wx,wy,tx,ty,held,true,free,q,p,ta,en,nx,ny⟩=(⟨3,x,0,y,sh,12,wx,wy,tx,ty,held,true,free,q,p,ta,en,nx,ny⟩,noteW W y ny.g (ny.f - 1) ⟨1,q,p,ta,x,nx.g⟩):=by
 simp[StepT,stepT,idle_eq,hi,noteT,fillR]
theorem q12 (hi:idl W.a W.b x y=false):StepT W ⟨3,x,0,y,sh,12,wx,wy,tx,ty,held,true,free,q,p,ta,en,nx,ny⟩=(⟨3,x,0,y,sh,13,wx,wy,tx,ty,held,true,free,q,p,ta,en,nx,ny⟩,if (endS ny ta).2=true then noteW W y ny.g W.f (endS ny ta).1 else W):=by
 simp[StepT,stepT,idle_eq,hi,noteT]
theorem q13 (hi:idl W.a W.b x y=false):StepT W ⟨3,x,0,y,sh,13,wx,wy,tx,ty,true,made,free,q,p,ta,en,nx,ny⟩=(⟨3,x,0,y,sh,14,wx,wy,tx,ty,true,made,free,q,p,ta,en,nx,ny⟩,if (endS nx en).2=true then noteW W x nx.g W.f (endS nx en).1 else W):=by
 simp[StepT,stepT,idle_eq,hi,noteT]
theorem qn {pc:Int} (h3:10≤pc) (h14:pc<13) (hi:idl W.a W.b x y=false):StepT W ⟨3,x,0,y,sh,pc,wx,wy,tx,ty,held,false,free,q,p,ta,en,nx,ny⟩=(⟨3,x,0,y,sh,pc+1,wx,wy,tx,ty,held,false,free,q,p,ta,en,nx,ny⟩,W):=by
 have e:¬ 14≤pc:=by omega
 have e0:¬ pc=0:=by omega
 have e1:¬ pc=1:=by omega
 have e2:¬ pc=2:=by omega
 have e3:¬ pc=3:=by omega
 have e4:¬ pc=4:=by omega
 have e5:¬ pc=5:=by omega
 have e6:¬ pc=6:=by omega
 have e7:¬ pc=7:=by omega
 have e8:¬ pc=8:=by omega
 have e9:¬ pc=9:=by omega
 have e13:¬ pc=13:=by omega
 simp[StepT,stepT,idle_eq,hi,noteT,e,e0,e1,e2,e3,e4,e5,e6,e7,e8,e9,e13]
end
theorem quiet {W:WZ} {T:TZ} (hh:T.held=false) (hm:T.made=false) (hp:3≤T.pc):(StepT W T).1.held=false∧(StepT W T).1.made=false∧3≤(StepT W T).1.pc∧(StepT W T).2.ws=W.ws∧(StepT W T).2.lg=W.lg:=by
 have e0:¬ T.pc=0:=by omega
 have e1:¬ T.pc=1:=by omega
 have e2:¬ T.pc=2:=by omega
 unfold StepT
 split
 ·exact ⟨hh,hm,hp,rfl,rfl⟩
 ·split
  ·exact ⟨hh,hm,by show 3≤T.pc+1;omega,rfl,rfl⟩
  ·refine ⟨?_,?_,by show 3≤T.pc+1;omega,?_,?_⟩<;>simp only[stepT,if_neg e0,if_neg e1,if_neg e2,takeT,lookT,letT,noteT,hh,hm]<;>simp_all [tickW]<;>(repeat' split)<;>first|rfl|assumption|simp_all
theorem quiet_run {W:WZ} {T:TZ} (hh:T.held=false) (hm:T.made=false) (hp:3≤T.pc):∀ j,(runT W T j).1.held=false∧(runT W T j).1.made=false∧3≤(runT W T j).1.pc∧(runT W T j).2.ws=W.ws∧(runT W T j).2.lg=W.lg
 | 0=>⟨hh,hm,hp,rfl,rfl⟩
 | j+1=>by
  obtain ⟨h1,h2,h3,h4,h5⟩:=quiet_run hh hm hp j
  obtain ⟨k1,k2,k3,k4,k5⟩:=quiet (W:=(runT W T j).2) h1 h2 h3
  exact ⟨k1,k2,k3,k4.trans h4,k5.trans h5⟩
theorem run_split (W:WZ) (T:TZ) (k:Nat):∀ j,runT W T (k+j)=runT (runT W T k).2 (runT W T k).1 j
 | 0=>rfl
 | j+1=>by
  show StepT (runT W T (k+j)).2 (runT W T (k+j)).1=_
  rw[run_split W T k j];rfl
theorem run_next {W W':WZ} {T T':TZ} {k:Nat} {r:TZ×WZ} (h:runT W T k=(T',W')) (hs:StepT W' T'=r):runT W T (k+1)=r:=by
 show StepT (runT W T k).2 (runT W T k).1=r
 rw[h];exact hs
end Go.W

namespace Go.W
open Go.Proofs
set_option linter.unusedSimpArgs false
set_option linter.unusedVariables false
set_option maxHeartbeats 8000000
theorem muls {u v m r s:Int} (h:u*m+r=v*m+s) (h0:0≤r) (h1:r<m) (h2:0≤s) (h3:s<m):u=v∧r=s:=by
 have hm:0≤m:=by omega
 by_cases a1:u<v
 ·have:=Int.mul_le_mul_of_nonneg_right (show u+1≤v by omega) hm
  rw[Int.add_mul,Int.one_mul]at this
  omega
 ·by_cases a2:v<u
  ·have:=Int.mul_le_mul_of_nonneg_right (show v+1≤u by omega) hm
   rw[Int.add_mul,Int.one_mul]at this
   omega
  ·have e:u=v:=by omega
   subst e
   exact ⟨rfl,by omega⟩
section
variable {a b f g x gen n:Int}
theorem slot_val (h0:0≤x) (h1:x<a*b) (h2:1≤gen) (h3:gen≤g) (h4:0≤n) (h5:n≤f):slotZ a b f g x gen n=a*b*2+(x*g+gen - 1)*(f+1)+n:=by
 unfold slotZ
 rw[if_neg (by omega),if_neg (by omega),if_neg (by omega),if_neg (by omega),if_neg (by omega),if_neg (by omega)]
theorem slot_lo (hg:0≤g) (hf:0≤f):slotZ a b f g x gen n<0∨a*b*2≤slotZ a b f g x gen n:=by
 unfold slotZ
 repeat' split
 all_goals first|(left;omega)|skip
 right
 have h1:=Int.mul_nonneg (show 0≤x by omega) hg
 have h2:=Int.mul_nonneg (show 0≤x*g+gen - 1 by omega) (show 0≤f+1 by omega)
 omega
theorem slot_hi (h0:0≤x) (h1:x<a*b) (h2:1≤gen) (h3:gen≤g) (h4:0≤n) (h5:n≤f):a*b*2≤slotZ a b f g x gen n∧slotZ a b f g x gen n<a*b*2+a*b*g*(f+1):=by
 rw[slot_val h0 h1 h2 h3 h4 h5]
 have k1:=Int.mul_nonneg h0 (show 0≤g by omega)
 have k2:=Int.mul_nonneg (show 0≤x*g+gen - 1 by omega) (show 0≤f+1 by omega)
 have k3:=Int.mul_le_mul_of_nonneg_right (show x+1≤a*b by omega) (show 0≤g by omega)
 rw[Int.add_mul,Int.one_mul]at k3
 have k4:=Int.mul_le_mul_of_nonneg_right (show x*g+gen - 1+1≤a*b*g by omega) (show 0≤f+1 by omega)
 rw[Int.add_mul,Int.one_mul]at k4
 omega
theorem slot_inj {x' gen' n':Int} (h0:0≤x) (h1:x<a*b) (h2:1≤gen) (h3:gen≤g) (h4:0≤n) (h5:n≤f) (k0:0≤x') (k1:x'<a*b) (k2:1≤gen') (k3:gen'≤g) (k4:0≤n') (k5:n'≤f) (h:slotZ a b f g x gen n=slotZ a b f g x' gen' n'):x=x'∧gen=gen'∧n=n':=by
 rw[slot_val h0 h1 h2 h3 h4 h5,slot_val k0 k1 k2 k3 k4 k5]at h
 obtain ⟨e1,e2⟩:=muls (m:=f+1) (u:=x*g+gen - 1) (v:=x'*g+gen' - 1) (r:=n) (s:=n') (by omega) h4 (by omega) k4 (by omega)
 obtain ⟨e3,e4⟩:=muls (m:=g) (u:=x) (v:=x') (r:=gen - 1) (s:=gen' - 1) (by omega) (by omega) (by omega) (by omega) (by omega)
 exact ⟨e3,by omega,e2⟩
end
theorem note_fr2 (W:WZ) (x g n:Int) (r:RcZ):(noteW W x g n r).a=W.a∧(noteW W x g n r).b=W.b∧(noteW W x g n r).f=W.f∧(noteW W x g n r).g=W.g∧(noteW W x g n r).lg=W.lg∧(noteW W x g n r).ws.length=W.ws.length∧∀ i:Nat,(slotZ W.a W.b W.f W.g x g n<0∨slotZ W.a W.b W.f W.g x g n≠i)→wAt (noteW W x g n r).ws i=wAt W.ws i:=by
 unfold noteW
 split
 ·exact ⟨rfl,rfl,rfl,rfl,rfl,rfl,fun _ _=>rfl⟩
 ·split
  ·exact ⟨rfl,rfl,rfl,rfl,rfl,rfl,fun _ _=>rfl⟩
  ·split
   ·exact ⟨rfl,rfl,rfl,rfl,rfl,rfl,fun _ _=>rfl⟩
   ·exact ⟨rfl,rfl,rfl,rfl,rfl,List.length_set ..,fun i hi=>wAt_ne (by omega)⟩
theorem note_rd {W:WZ} {x g n:Int} {r:RcZ} {v:Int} (hv:recW r=some v) (h0:0≤slotZ W.a W.b W.f W.g x g n) (h1:slotZ W.a W.b W.f W.g x g n<W.ws.length):wAt (noteW W x g n r).ws (slotZ W.a W.b W.f W.g x g n).toNat=v:=by
 unfold noteW
 rw[hv]
 simp only
 rw[if_neg (by omega),if_neg (by omega)]
 exact wAt_eq (by omega)
def goodZ (F G:Int) (s:StZ):Prop:=s.k=2∧s.fl=false∧1≤s.g∧s.g≤G∧1≤s.l∧s.l≤65535∧0≤s.f∧s.f<F
theorem good_rel {F G:Int} {s:StZ} (h:goodZ F G s):releaseS (holdS s) 0 F=(s,0):=by
 obtain ⟨k,fl,g,l,f⟩:=s
 obtain ⟨h1,h2,h3,h4,h5,h6,h7,h8⟩:=h
 simp only at h1 h2 h3 h4 h5 h6 h7 h8
 subst h1;subst h2
 have e1:¬ l<0:=by omega
 have e2:¬ l=0:=by omega
 have e3:¬ F≤f:=by omega
 simp[releaseS,holdS,heldZ,relS1,loosenS,endedS,e1,e2,e3]
theorem end_fl {s:StZ} {F:Int} (h:s.fl=false):(endedS s F).fl=false:=by
 unfold endedS
 repeat' split
 all_goals first|rfl|exact h
theorem good_rely {F G:Int} {s:StZ} (h:goodZ F G s) {q:Int} (h0:1≤q) (h1:q≤s.l):releaseS (holdS s) q F=(endedS { s with l:=s.l - q,f:=s.f+1 } F,0):=by
 obtain ⟨k,fl,g,l,f⟩:=s
 obtain ⟨k1,k2,h3,h4,h5,h6,h7,h8⟩:=h
 simp only at k1 k2 h3 h4 h5 h6 h7 h8 h1
 subst k1;subst k2
 have e0:¬ q<0:=by omega
 have e1:¬ l<q:=by omega
 have e2:0<q:=by omega
 have e3:¬ F≤f:=by omega
 have e4:(endedS ⟨2,false,g,l - q,f+1⟩ F).fl=false:=end_fl rfl
 simp[releaseS,holdS,heldZ,relS1,loosenS,e0,e1,e2,e3,e4]
theorem good_take {F G:Int} {s:StZ} (h:goodZ F G s) {q:Int} (h0:1≤q) (h1:q≤s.l):takeS s q F=(endedS { s with l:=s.l - q,f:=s.f+1 } F,0):=by
 obtain ⟨k,fl,g,l,f⟩:=s
 obtain ⟨k1,k2,h3,h4,h5,h6,h7,h8⟩:=h
 simp only at k1 k2 h3 h4 h5 h6 h7 h8 h1
 subst k1;subst k2
 have e0:¬ q<1:=by omega
 have e1:¬ l<q:=by omega
 have e3:¬ F≤f:=by omega
 simp[takeS,looseZ,e0,e1,e3]
theorem ended_in {s:StZ} {F:Int} (h0:0≤s.k) (h1:s.k≤8):0≤(endedS s F).k∧(endedS s F).k≤8:=by
 unfold endedS
 repeat' split
 all_goals first|(simp;done)|exact ⟨h0,h1⟩
theorem idl_ne {a b x y:Int} (hx0:0≤x) (hx:x<a*b) (hi:idl a b x y=false):x≠y:=by
 intro e
 subst e
 unfold idl at hi
 simp at hi
section
variable {W:WZ} {x y sh:Int}
theorem alone_hold {v:Int} (hi:idl W.a W.b x y=false) (hx0:0≤x) (hxl:2*x+1<W.ws.length) (hne:x≠y) (hy0:0≤y) (hw:wantZ W.c W.d sh (stateZ (sAt W x)) (termsZ (tAt W x))=true) (hv:wordS (holdS (stateZ (sAt W x)))=some v) :
  runT W (tz0 3 x 0 y sh) 5=(⟨3,x,0,y,sh,5,sAt W x,sAt W y,termsZ (tAt W x),termsZ (tAt W y),true,false,false,0,0,0,0,zeroS,zeroS⟩,tickW (tickW (putW (tickW (tickW W)) (2*x).toNat v))):=by
 have r0:runT W (tz0 3 x 0 y sh) 0=(⟨3,x,0,y,sh,0,0,0,⟨0,0,0,0,0⟩,⟨0,0,0,0,0⟩,false,false,false,0,0,0,0,zeroS,zeroS⟩,W):=rfl
 have r1:=run_next r0 (q0 hi)
 have r2:=run_next r1 (q1 hi)
 have r3:=run_next r2 (q2y (v:=v) hi hw hv rfl)
 have r4:=run_next r3 (q3 hi)
 have r5:=run_next r4 (q4 hi)
 simp only[tAt_tick,sAt_tick]at r5
 rw[tAt_puts (by omega),sAt_putn (by omega)]at r5
 exact r5
theorem alone_tailN {v v1 wx wy q p ta en:Int} {tx ty:TmZ} {nx ny s:StZ} (hi:idl W.a W.b x y=false) (hs:sAt W x=v) (hst:stateZ v=holdS s) (hg:goodZ W.f W.g s) (hv:wordS s=some v1) :
  ∃ T' W',runT W ⟨3,x,0,y,sh,6,wx,wy,tx,ty,true,false,false,q,p,ta,en,nx,ny⟩ 8=(T',W')∧T'.made=false∧W'.ws=W.ws.set (2*x).toNat [.int .u64 v1]∧W'.lg=W.lg:=by
 have r0:runT W ⟨3,x,0,y,sh,6,wx,wy,tx,ty,true,false,false,q,p,ta,en,nx,ny⟩ 0=_:=rfl
 have r1:=run_next r0 (q6 hi)
 have r2:=run_next r1 (q7 (v:=v1) (n2:=s) hi (by rw[hs,hst];exact good_rel hg) hv rfl)
 have ho:overZ s.k=false:=by rw[hg.1];rfl
 rw[ho]at r2
 have r3:=run_next r2 (q8 hi)
 have r4:=run_next r3 (q9 hi)
 have r5:=run_next r4 (qn (by omega) (by omega) hi)
 have r6:=run_next r5 (qn (by omega) (by omega) hi)
 have r7:=run_next r6 (qn (by omega) (by omega) hi)
 have r8:=run_next r7 (q13 hi)
 have he:(endS s (tickW W).t).2=false:=by unfold endS;rw[hg.1];rfl
 rw[he]at r8
 exact ⟨_,_,r8,rfl,rfl,rfl⟩
theorem alone_tailM {v v2 wx wy q p ta en:Int} {tx ty:TmZ} {nx ny n2:StZ} (hi:idl W.a W.b x y=false) (hs:sAt W x=v) (hr:releaseS (stateZ v) q W.f=(n2,0)) (hv:wordS n2=some v2)
  (hA:W.a*W.b≤24) (hF:1≤W.f) (hG:W.g≤15) (hl:W.ws.length=(W.a*W.b*2+W.a*W.b*W.g*(W.f+1)).toNat) (hx0:0≤x) (hx:x<W.a*W.b) (hy0:0≤y) (hy:y<W.a*W.b) (hne:x≠y) (g1:1≤n2.g) (g2:n2.g≤W.g) (f1:1≤n2.f) (f2:n2.f≤W.f) (k1:1≤ny.g) (k2:ny.g≤W.g) (l1:1≤ny.f) (l2:ny.f≤W.f)
  (q0:0≤q) (q1:q≤65535) (p0:0≤p) (p1:p≤65535) (t0:0≤ta) (t1:ta≤1000000) :
  ∃ T' W',runT W ⟨3,x,0,y,sh,6,wx,wy,tx,ty,true,true,false,q,p,ta,en,nx,ny⟩ 8=(T',W')∧T'.made=true∧sAt W' x=v2∧sAt W' y=sAt W y∧(∃ r,W'.lg=W.lg++r)
   ∧ recordZ (wAt W'.ws (slotZ W.a W.b W.f W.g x n2.g (n2.f - 1)).toNat)=⟨1,q,p,ta,y,ny.g⟩∧recordZ (wAt W'.ws (slotZ W.a W.b W.f W.g y ny.g (ny.f - 1)).toNat)=⟨1,q,p,ta,x,n2.g⟩:=by
 have r0:runT W ⟨3,x,0,y,sh,6,wx,wy,tx,ty,true,true,false,q,p,ta,en,nx,ny⟩ 0=_:=rfl
 have r1:=run_next r0 (q6 hi)
 have r2:=run_next r1 (q7 (v:=v2) (n2:=n2) hi (by rw[hs];exact hr) hv rfl)
 have hsl:=slot_hi (f:=W.f) hx0 hx g1 g2 (show 0≤n2.f - 1 by omega) (by omega)
 have hsl2:=slot_hi (f:=W.f) hy0 hy k1 k2 (show 0≤ny.f - 1 by omega) (by omega)
 have hpos:0≤W.a*W.b*2+W.a*W.b*W.g*(W.f+1):=by omega
 obtain ⟨V,hV⟩:∃ V,(if overZ n2.k=true then tellW (putW (tickW W) (2*x).toNat v2) 7 x n2.g 0 0 0 0 n2.k else putW (tickW W) (2*x).toNat v2)=V:=⟨_,rfl⟩
 rw[hV]at r2
 have vf:V.a=W.a∧V.b=W.b∧V.f=W.f∧V.g=W.g∧V.ws=W.ws.set (2*x).toNat [.int .u64 v2]∧∃ r,V.lg=W.lg++r:=by
  rw[← hV]
  split
  ·exact ⟨rfl,rfl,rfl,rfl,rfl,_,rfl⟩
  ·exact ⟨rfl,rfl,rfl,rfl,rfl,[],(List.append_nil _).symm⟩
 obtain ⟨va,vb,vf,vg,vw,vr,vl⟩:=vf
 have vlen:V.ws.length=W.ws.length:=by rw[vw,List.length_set]
 have hi':idl V.a V.b x y=false:=by rw[va,vb];exact hi
 have r3:=run_next r2 (q8 hi')
 have r4:=run_next r3 (q9 hi')
 have r5:=run_next r4 (q10 hi')
 obtain ⟨A,hA'⟩:∃ A,noteW V x n2.g (n2.f - 1) ⟨1,q,p,ta,y,ny.g⟩=A:=⟨_,rfl⟩
 rw[hA']at r5
 obtain ⟨aa,ab,af,ag,al,an,aw⟩:=note_fr2 V x n2.g (n2.f - 1) ⟨1,q,p,ta,y,ny.g⟩
 rw[hA']at aa ab af ag al an aw
 rw[va,vb,vf,vg]at aw
 have r6:=run_next r5 (q11 (by rw[aa,ab];exact hi'))
 obtain ⟨B,hB⟩:∃ B,noteW A y ny.g (ny.f - 1) ⟨1,q,p,ta,x,n2.g⟩=B:=⟨_,rfl⟩
 rw[hB]at r6
 obtain ⟨ba,bb,bf,bg,bl,bn,bw⟩:=note_fr2 A y ny.g (ny.f - 1) ⟨1,q,p,ta,x,n2.g⟩
 rw[hB]at ba bb bf bg bl bn bw
 rw[aa,ab,af,ag,va,vb,vf,vg]at bw
 have r7:=run_next r6 (q12 (by rw[ba,bb,aa,ab];exact hi'))
 obtain ⟨C,hC⟩:∃ C,(if (endS ny ta).2=true then noteW B y ny.g B.f (endS ny ta).1 else B)=C:=⟨_,rfl⟩
 rw[hC]at r7
 have cf:C.a=W.a∧C.b=W.b∧C.f=W.f∧C.g=W.g∧C.lg=B.lg∧∀ i:Nat,(slotZ W.a W.b W.f W.g y ny.g W.f<0∨slotZ W.a W.b W.f W.g y ny.g W.f≠i)→wAt C.ws i=wAt B.ws i:=by
  rw[← hC]
  split
  ·obtain ⟨c1,c2,c3,c4,c5,c6,c7⟩:=note_fr2 B y ny.g B.f (endS ny ta).1
   rw[ba,bb,bf,bg,aa,ab,af,ag,va,vb,vf,vg]at c7
   rw[bf,af,vf]at c1 c2 c3 c4 c5⊢
   exact ⟨by rw[c1,ba,aa,va],by rw[c2,bb,ab,vb],c3,by rw[c4,bg,ag,vg],c5,c7⟩
  ·exact ⟨by rw[ba,aa,va],by rw[bb,ab,vb],by rw[bf,af,vf],by rw[bg,ag,vg],rfl,fun _ _=>rfl⟩
 obtain ⟨ca,cb,cf,cg,cl,cw⟩:=cf
 have r8:=run_next r7 (q13 (by rw[ca,cb];exact hi))
 obtain ⟨D,hD⟩:∃ D,(if (endS n2 (tickW W).t).2=true then noteW C x n2.g C.f (endS n2 (tickW W).t).1 else C)=D:=⟨_,rfl⟩
 rw[hD]at r8
 have df:D.lg=C.lg∧∀ i:Nat,(slotZ W.a W.b W.f W.g x n2.g W.f<0∨slotZ W.a W.b W.f W.g x n2.g W.f≠i)→wAt D.ws i=wAt C.ws i:=by
  rw[← hD]
  split
  ·obtain ⟨c1,c2,c3,c4,c5,c6,c7⟩:=note_fr2 C x n2.g C.f (endS n2 (tickW W).t).1
   rw[ca,cb,cf,cg]at c7
   rw[cf]at c5⊢
   exact ⟨c5,c7⟩
  ·exact ⟨rfl,fun _ _=>rfl⟩
 obtain ⟨dl,dw⟩:=df
 have s1:=slot_lo (a:=W.a) (b:=W.b) (f:=W.f) (g:=W.g) (x:=x) (gen:=n2.g) (n:=W.f) (by omega) (by omega)
 have s2:=slot_lo (a:=W.a) (b:=W.b) (f:=W.f) (g:=W.g) (x:=y) (gen:=ny.g) (n:=W.f) (by omega) (by omega)
 have low:∀ i:Nat,(i:Int)<W.a*W.b*2→wAt D.ws i=wAt V.ws i:=fun i hi=>by
  rw[dw i (by omega),cw i (by omega),bw i (by omega),aw i (by omega)]
 have nx1:slotZ W.a W.b W.f W.g x n2.g W.f≠slotZ W.a W.b W.f W.g x n2.g (n2.f - 1):=fun h=>by
  have:=slot_inj hx0 hx g1 g2 (by omega) (by omega) hx0 hx g1 g2 (by omega) (by omega) h
  omega
 have nx2:slotZ W.a W.b W.f W.g y ny.g W.f≠slotZ W.a W.b W.f W.g x n2.g (n2.f - 1):=fun h=>by
  have:=slot_inj hy0 hy k1 k2 (by omega) (by omega) hx0 hx g1 g2 (by omega) (by omega) h
  omega
 have nx3:slotZ W.a W.b W.f W.g y ny.g (ny.f - 1)≠slotZ W.a W.b W.f W.g x n2.g (n2.f - 1):=fun h=>by
  have:=slot_inj hy0 hy k1 k2 (by omega) (by omega) hx0 hx g1 g2 (by omega) (by omega) h
  omega
 have ny1:slotZ W.a W.b W.f W.g x n2.g W.f≠slotZ W.a W.b W.f W.g y ny.g (ny.f - 1):=fun h=>by
  have:=slot_inj hx0 hx g1 g2 (by omega) (by omega) hy0 hy k1 k2 (by omega) (by omega) h
  omega
 have ny2:slotZ W.a W.b W.f W.g y ny.g W.f≠slotZ W.a W.b W.f W.g y ny.g (ny.f - 1):=fun h=>by
  have:=slot_inj hy0 hy k1 k2 (by omega) (by omega) hy0 hy k1 k2 (by omega) (by omega) h
  omega
 obtain ⟨vx,hvx⟩:=recW_mk (r:=⟨1,q,p,ta,y,ny.g⟩) (by simp) (by simp) q0 q1 p0 p1 t0 t1 hy0 (by simp only;omega) (by simp only;omega) (by simp only;omega)
 obtain ⟨vy,hvy⟩:=recW_mk (r:=⟨1,q,p,ta,x,n2.g⟩) (by simp) (by simp) q0 q1 p0 p1 t0 t1 hx0 (by simp only;omega) (by simp only;omega) (by simp only;omega)
 have wx1:=note_rd (W:=V) (x:=x) (g:=n2.g) (n:=n2.f - 1) hvx (by rw[va,vb,vf,vg];omega) (by rw[va,vb,vf,vg,vlen,hl];omega)
 rw[hA',va,vb,vf,vg]at wx1
 have wy1:=note_rd (W:=A) (x:=y) (g:=ny.g) (n:=ny.f - 1) hvy (by rw[aa,ab,af,ag,va,vb,vf,vg];omega) (by rw[aa,ab,af,ag,va,vb,vf,vg,an,vlen,hl];omega)
 rw[hB,aa,ab,af,ag,va,vb,vf,vg]at wy1
 refine ⟨_,_,r8,rfl,?_,?_,?_,?_,?_⟩
 ·show wAt D.ws (2*x).toNat=v2
  rw[low _ (by omega),vw]
  exact wAt_eq (by omega)
 ·show wAt D.ws (2*y).toNat=wAt W.ws (2*y).toNat
  rw[low _ (by omega),vw]
  exact wAt_ne (by omega)
 ·exact ⟨vr,by rw[dl,cl,bl,al,vl]⟩
 ·rw[dw _ (by omega),cw _ (by omega),bw _ (by omega),wx1]
  exact recW_rt hvx
 ·rw[dw _ (by omega),cw _ (by omega),wy1]
  exact recW_rt hvy
end
end Go.W

namespace Go.W
open Go.Proofs
set_option linter.unusedSimpArgs false
set_option linter.unusedVariables false
set_option maxHeartbeats 8000000
theorem match_facts {a b:TmZ} {l o q p:Int} (h:matchZ a b l o=(q,p)) (hq:q≠0) (h1:0≤a.pr) (h2:a.pr≤65535) (h3:0≤b.pr) (h4:b.pr≤65535):1≤q∧q≤l∧q≤o∧0≤p∧p≤65535:=by
 unfold matchZ at h
 obtain ⟨hi,e1⟩:∃ x,(if a.sd=1 then b.pr else a.pr)=x:=⟨_,rfl⟩
 obtain ⟨lo,e2⟩:∃ x,(if a.sd=1 then a.pr else b.pr)=x:=⟨_,rfl⟩
 obtain ⟨m,e3⟩:∃ x,(if o<l then o else l)=x:=⟨_,rfl⟩
 have b1:0≤hi∧hi≤65535:=by rw[← e1];split<;>omega
 have b2:0≤lo∧lo≤65535:=by rw[← e2];split<;>omega
 have b3:m≤l∧m≤o:=by rw[← e3];split<;>omega
 rw[e1,e2,e3]at h
 clear e1 e2 e3
 repeat' split at h
 all_goals (simp only[Prod.mk.injEq]at h;obtain ⟨rfl,rfl⟩:=h)
 all_goals first|exact absurd rfl hq|omega
theorem getT_pr (x:Int):0≤(termsZ x).pr∧(termsZ x).pr≤65535:=by
 have h3:=getZ_in x 5 16
 simp only[termsZ]
 omega
def comeZ (c d sh:Int) (sx sy:StZ) (tx ty:TmZ):Int×Int:=if wantZ c d sh sx tx=true∧sy.k=2 then matchZ tx ty sx.l sy.l else (0,0)
section
variable {W:WZ} {x y sh:Int}
theorem alone_n (hW:okW W=true) (hi:idl W.a W.b x y=false) (hx0:0≤x) (hx:x<W.a*W.b) (hy0:0≤y) (hy:y<W.a*W.b)
  (gx:(stateZ (sAt W x)).k=2→goodZ W.f W.g (stateZ (sAt W x))) (hm:(comeZ W.c W.d sh (stateZ (sAt W x)) (stateZ (sAt W y)) (termsZ (tAt W x)) (termsZ (tAt W y))).1=0) :
  ∃ T' W',runT W (tz0 3 x 0 y sh) 14=(T',W')∧T'.made=false∧stateZ (sAt W' x)=stateZ (sAt W x)∧stateZ (sAt W' y)=stateZ (sAt W y)∧W'.lg=W.lg:=by
 have hne:=idl_ne hx0 hx hi
 obtain ⟨hcf,hw,hwl,hs0,ht0,ht1,hlg⟩:=okW_ex hW
 have hc:=cfg_ex hcf
 have hall:=cfg_all hcf
 have hwd:=words_in (f:=W.f) (g:=W.g) (show 0≤W.a*W.b by omega) hall.2 (by omega) (by omega)
 have hlen:W.a*W.b*2≤W.ws.length:=by omega
 by_cases hwant:wantZ W.c W.d sh (stateZ (sAt W x)) (termsZ (tAt W x))=true
 case neg =>
  have r0:runT W (tz0 3 x 0 y sh) 0=(⟨3,x,0,y,sh,0,0,0,⟨0,0,0,0,0⟩,⟨0,0,0,0,0⟩,false,false,false,0,0,0,0,zeroS,zeroS⟩,W):=rfl
  have r1:=run_next r0 (q0 hi)
  have r2:=run_next r1 (q1 hi)
  have r3:=run_next r2 (q2n hi (by rw[tAt_tick];exact Bool.eq_false_iff.2 hwant))
  obtain ⟨T3,hT3⟩:∃ T,(⟨3,x,0,y,sh,3,sAt W x,0,termsZ (tAt (tickW W) x),⟨0,0,0,0,0⟩,false,false,false,0,0,0,0,zeroS,zeroS⟩:TZ)=T:=⟨_,rfl⟩
  have hq:=quiet_run (W:=tickW (tickW W)) (T:=T3) (by rw[← hT3]) (by rw[← hT3]) (by rw[← hT3];exact Int.le_refl 3) 11
  have e:=run_split W (tz0 3 x 0 y sh) 3 11
  rw[show runT W (tz0 3 x 0 y sh) 3=(T3,tickW (tickW W)) from by rw[← hT3];exact r3]at e
  replace e:runT W (tz0 3 x 0 y sh) (3+11)=runT (tickW (tickW W)) T3 11:=e
  obtain ⟨⟨T',W'⟩,hR⟩:∃ R,runT (tickW (tickW W)) T3 11=R:=⟨_,rfl⟩
  rw[hR]at hq e
  refine ⟨T',W',e,hq.2.1,?_,?_,hq.2.2.2.2⟩
  ·have h4:W'.ws=W.ws:=hq.2.2.2.1
   unfold sAt;rw[h4]
  ·have h4:W'.ws=W.ws:=hq.2.2.2.1
   unfold sAt;rw[h4]
 have hk:(stateZ (sAt W x)).k=2:=by
  have:=of_decide_eq_true hwant
  exact this.1
 have gg:=gx hk
 obtain ⟨k1,k2,k3,k4,k5,k6,k7,k8⟩:=gg
 obtain ⟨v,hv⟩:=wordS_mk (s:=holdS (stateZ (sAt W x))) (by unfold holdS;rw[hk];simp) (by unfold holdS;rw[hk];simp) (by unfold holdS;rw[hk];simp;omega) (by unfold holdS;rw[hk];simp;omega) (by unfold holdS;rw[hk];simp;omega) (by unfold holdS;rw[hk];simp;omega) (by unfold holdS;rw[hk];simp;omega) (by unfold holdS;rw[hk];simp;omega)
 obtain ⟨v1,hv1⟩:=wordS_mk (s:=stateZ (sAt W x)) (by omega) (by omega) (by omega) (by omega) (by omega) (by omega) (by omega) (by omega)
 have hh:=alone_hold (sh:=sh) (v:=v) hi hx0 (by omega) hne hy0 hwant hv
 obtain ⟨V,hV⟩:∃ V,tickW (tickW (putW (tickW (tickW W)) (2*x).toNat v))=V:=⟨_,rfl⟩
 have vx:sAt V x=v:=by rw[← hV,sAt_tick,sAt_tick];exact sAt_put (by show (2*x).toNat<W.ws.length;omega)
 have vw:V.ws=W.ws.set (2*x).toNat [.int .u64 v]:=by rw[← hV];rfl
 have vy:sAt V y=sAt W y:=by rw[← hV,sAt_tick,sAt_tick,sAt_putn (by omega)];rfl
 have vl:V.lg=W.lg:=by rw[← hV];rfl
 have vp:V.a=W.a∧V.b=W.b∧V.f=W.f∧V.g=W.g:=by rw[← hV];exact ⟨rfl,rfl,rfl,rfl⟩
 rw[hV]at hh
 have hi':idl V.a V.b x y=false:=by rw[vp.1,vp.2.1];exact hi
 have h6:∃ q' p',runT W (tz0 3 x 0 y sh) 6=(⟨3,x,0,y,sh,6,sAt W x,sAt W y,termsZ (tAt W x),termsZ (tAt W y),true,false,false,q',p',0,0,zeroS,zeroS⟩,V):=by
  by_cases hk2:(stateZ (sAt W y)).k=2
  ·have hq:(matchZ (termsZ (tAt W x)) (termsZ (tAt W y)) (stateZ (sAt W x)).l (stateZ (sAt W y)).l).1=0:=by
    unfold comeZ at hm
    rw[if_pos ⟨hwant,hk2⟩]at hm
    exact hm
   obtain ⟨p',e⟩:=q5z (W:=V) (sh:=sh) (wx:=sAt W x) (wy:=sAt W y) (q:=0) (p:=0) (ta:=0) (en:=0) (made:=false) (free:=false) (nx:=zeroS) (ny:=zeroS) hi' hk2 hq
   exact ⟨0,p',run_next hh e⟩
  ·exact ⟨0,0,run_next hh (q5n hi' hk2)⟩
 obtain ⟨q',p',h6⟩:=h6
 have hst:stateZ v=holdS (stateZ (sAt W x)):=(wordS_rt hv).1
 obtain ⟨T',W',e1,e2,e3,e4⟩:=alone_tailN (W:=V) (x:=x) (y:=y) (sh:=sh) (v:=v) (v1:=v1) (wx:=sAt W x) (wy:=sAt W y) (q:=q') (p:=p') (ta:=0) (en:=0) (tx:=termsZ (tAt W x)) (ty:=termsZ (tAt W y)) (nx:=zeroS) (ny:=zeroS) (s:=stateZ (sAt W x)) hi' vx hst (by rw[vp.2.2.1,vp.2.2.2];exact gx hk) hv1
 have e:=run_split W (tz0 3 x 0 y sh) 6 8
 rw[h6,e1]at e
 refine ⟨T',W',e,e2,?_,?_,e4.trans vl⟩
 ·have:sAt W' x=v1:=by unfold sAt;rw[e3];exact wAt_eq (by rw[vw,List.length_set];omega)
  rw[this];exact (wordS_rt hv1).1
 ·have:sAt W' y=sAt W y:=by
   rw[← vy];unfold sAt;rw[e3];exact wAt_ne (by omega)
  rw[this]
theorem alone_e (hW:okW W=true) (hi:idl W.a W.b x y=false) (hx0:0≤x) (hx:x<W.a*W.b) (hy0:0≤y) (hy:y<W.a*W.b)
  (gx:(stateZ (sAt W x)).k=2→goodZ W.f W.g (stateZ (sAt W x))) (gy:(stateZ (sAt W y)).k=2→goodZ W.f W.g (stateZ (sAt W y))) {q p:Int} (hm:comeZ W.c W.d sh (stateZ (sAt W x)) (stateZ (sAt W y)) (termsZ (tAt W x)) (termsZ (tAt W y))=(q,p)) (hq:q≠0) :
  ∃ T' W',runT W (tz0 3 x 0 y sh) 14=(T',W')∧T'.made=true∧stateZ (sAt W' x)=endedS { stateZ (sAt W x) with l:=(stateZ (sAt W x)).l - q,f:=(stateZ (sAt W x)).f+1 } W.f∧stateZ (sAt W' y)=endedS { stateZ (sAt W y) with l:=(stateZ (sAt W y)).l - q,f:=(stateZ (sAt W y)).f+1 } W.f∧heldZ (stateZ (sAt W' x)).k=false∧heldZ (stateZ (sAt W' y)).k=false
   ∧ (∃ g w t e r,W'.lg=W.lg++evC 2 x g y w q p t e :: r)∧recordZ (wAt W'.ws (slotZ W.a W.b W.f W.g x (stateZ (sAt W x)).g (stateZ (sAt W x)).f).toNat)=⟨1,q,p,W.t,y,(stateZ (sAt W y)).g⟩
   ∧ recordZ (wAt W'.ws (slotZ W.a W.b W.f W.g y (stateZ (sAt W y)).g (stateZ (sAt W y)).f).toNat)=⟨1,q,p,W.t,x,(stateZ (sAt W x)).g⟩:=by
 have hne:=idl_ne hx0 hx hi
 obtain ⟨hcf,hw,hwl,hs0,ht0,ht1,hlg⟩:=okW_ex hW
 have hc:=cfg_ex hcf
 have hall:=cfg_all hcf
 have hwd:=words_in (f:=W.f) (g:=W.g) (show 0≤W.a*W.b by omega) hall.2 (by omega) (by omega)
 have hlen:W.a*W.b*2≤W.ws.length:=by omega
 have hcase:wantZ W.c W.d sh (stateZ (sAt W x)) (termsZ (tAt W x))=true∧(stateZ (sAt W y)).k=2:=by
  unfold comeZ at hm
  split at hm
  ·assumption
  ·simp only[Prod.mk.injEq]at hm
   exact absurd hm.1.symm hq
 unfold comeZ at hm
 rw[if_pos hcase]at hm
 obtain ⟨hwant,hk2⟩:=hcase
 have hk:(stateZ (sAt W x)).k=2:=by
  have:=of_decide_eq_true hwant
  exact this.1
 have gX:=gx hk
 have gY:=gy hk2
 have tpx:=getT_pr (tAt W x)
 have tpy:=getT_pr (tAt W y)
 obtain ⟨m1,m2,m3,m4,m5⟩:=match_facts hm hq tpx.1 tpx.2 tpy.1 tpy.2
 obtain ⟨k1,k2,k3,k4,k5,k6,k7,k8⟩:=gx hk
 obtain ⟨y1,y2,y3,y4,y5,y6,y7,y8⟩:=gy hk2
 obtain ⟨v,hv⟩:=wordS_mk (s:=holdS (stateZ (sAt W x))) (by unfold holdS;rw[hk];simp) (by unfold holdS;rw[hk];simp) (by unfold holdS;rw[hk];simp;omega) (by unfold holdS;rw[hk];simp;omega) (by unfold holdS;rw[hk];simp;omega) (by unfold holdS;rw[hk];simp;omega) (by unfold holdS;rw[hk];simp;omega) (by unfold holdS;rw[hk];simp;omega)
 have hh:=alone_hold (sh:=sh) (v:=v) hi hx0 (by omega) hne hy0 hwant hv
 have hst:stateZ v=holdS (stateZ (sAt W x)):=(wordS_rt hv).1
 obtain ⟨sx,hsx⟩:∃ s,stateZ (sAt W x)=s:=⟨_,rfl⟩
 obtain ⟨sy,hsy⟩:∃ s,stateZ (sAt W y)=s:=⟨_,rfl⟩
 rw[hsx]at hm hk gX m2 k1 k2 k3 k4 k5 k6 k7 k8 hv hst⊢
 rw[hsy]at hm hk2 gY m3 y1 y2 y3 y4 y5 y6 y7 y8⊢
 obtain ⟨n2,hn2⟩:∃ n,endedS { sx with l:=sx.l - q,f:=sx.f+1 } W.f=n:=⟨_,rfl⟩
 obtain ⟨ny,hny⟩:∃ n,endedS { sy with l:=sy.l - q,f:=sy.f+1 } W.f=n:=⟨_,rfl⟩
 have ex:=end_g { sx with l:=sx.l - q,f:=sx.f+1 } W.f
 have ey:=end_g { sy with l:=sy.l - q,f:=sy.f+1 } W.f
 have exk:=ended_in (s:={ sx with l:=sx.l - q,f:=sx.f+1 }) (F:=W.f) (by show 0≤sx.k;omega) (by show sx.k≤8;omega)
 have eyk:=ended_in (s:={ sy with l:=sy.l - q,f:=sy.f+1 }) (F:=W.f) (by show 0≤sy.k;omega) (by show sy.k≤8;omega)
 rw[hn2]at ex exk
 rw[hny]at ey eyk
 simp only at ex ey
 obtain ⟨ex1,ex2,ex3,ex4⟩:=ex
 obtain ⟨ey1,ey2,ey3,ey4⟩:=ey
 have hx4:heldZ n2.k=false:=by rw[ex4,hk];(repeat' split)<;>rfl
 have hy4:heldZ ny.k=false:=by rw[ey4,hk2];(repeat' split)<;>rfl
 obtain ⟨v2,hv2⟩:=wordS_mk (s:=n2) exk.1 exk.2 (by omega) (by omega) (by omega) (by omega) (by omega) (by omega)
 obtain ⟨vt,hvt⟩:=wordS_mk (s:=ny) eyk.1 eyk.2 (by omega) (by omega) (by omega) (by omega) (by omega) (by omega)
 obtain ⟨V,hV⟩:∃ V,tickW (tickW (putW (tickW (tickW W)) (2*x).toNat v))=V:=⟨_,rfl⟩
 have vx:sAt V x=v:=by rw[← hV,sAt_tick,sAt_tick];exact sAt_put (by show (2*x).toNat<W.ws.length;omega)
 have vw:V.ws=W.ws.set (2*x).toNat [.int .u64 v]:=by rw[← hV];rfl
 have vy:sAt V y=sAt W y:=by rw[← hV,sAt_tick,sAt_tick,sAt_putn (by omega)];rfl
 have vl:V.lg=W.lg:=by rw[← hV];rfl
 have vp:V.a=W.a∧V.b=W.b∧V.f=W.f∧V.g=W.g∧V.t=W.t:=by rw[← hV];exact ⟨rfl,rfl,rfl,rfl,rfl⟩
 obtain ⟨va,vb,vf,vg,vt'⟩:=vp
 rw[hV]at hh
 have hi':idl V.a V.b x y=false:=by rw[va,vb];exact hi
 have h6:=run_next hh (q5y (v:=vt) (n2:=ny) (q':=q) (p':=p) hi' (by rw[hsy];exact hk2) (by rw[hsx,hsy];exact hm) (by rw[hsy,vf,good_take gY m1 m3,hny]) hvt vy)
 obtain ⟨X,hX⟩:∃ X,tellW (putW V (2*y).toNat vt) 2 x (stateZ (sAt W x)).g y (stateZ (sAt W y)).g q p 0=X:=⟨_,rfl⟩
 rw[hX]at h6
 have xp:X.a=W.a∧X.b=W.b∧X.f=W.f∧X.g=W.g∧X.lg=W.lg++[evC 2 x (stateZ (sAt W x)).g y (stateZ (sAt W y)).g q p V.t 0]∧X.ws=V.ws.set (2*y).toNat [.int .u64 vt]:=by
  rw[← hX];exact ⟨va,vb,vf,vg,by rw[← vl];rfl,rfl⟩
 obtain ⟨xa,xb,xf,xg,xl,xw⟩:=xp
 have xlen:X.ws.length=W.ws.length:=by rw[xw,vw,List.length_set,List.length_set]
 have xx:sAt X x=v:=by rw[← vx];unfold sAt;rw[xw];exact wAt_ne (by omega)
 have xy:sAt X y=vt:=by unfold sAt;rw[xw];exact wAt_eq (by rw[vw,List.length_set];omega)
 have hr:releaseS (stateZ v) q X.f=(n2,0):=by rw[hst,xf,good_rely gX m1 m2,hn2]
 rw[vt']at h6
 obtain ⟨T',W',e1,e2,e3,e4,⟨r,e5⟩,e6,e7⟩:=alone_tailM (W:=X) (x:=x) (y:=y) (sh:=sh) (v:=v) (v2:=v2) (wx:=sAt W x) (wy:=sAt W y) (q:=q) (p:=p) (ta:=W.t) (en:=0) (tx:=termsZ (tAt W x)) (ty:=termsZ (tAt W y)) (nx:=zeroS) (ny:=ny) (n2:=n2) (by rw[xa,xb];exact hi) xx hr hv2
  (by rw[xa,xb];exact hall.2) (by rw[xf];omega) (by rw[xg];omega) (by rw[xlen,xa,xb,xf,xg];exact hwl) hx0 (by rw[xa,xb];exact hx) hy0 (by rw[xa,xb];exact hy) hne (by omega) (by rw[xg];omega) (by omega) (by rw[xf];omega) (by omega) (by rw[xg];omega) (by omega) (by rw[xf];omega)
  (by omega) (by omega) m4 m5 ht0 ht1
 have e:=run_split W (tz0 3 x 0 y sh) 6 8
 rw[show runT W (tz0 3 x 0 y sh) 6=_ from h6,e1]at e
 have t1:stateZ (sAt W' x)=n2:=by rw[e3];exact (wordS_rt hv2).1
 have t2:stateZ (sAt W' y)=ny:=by rw[e4,xy];exact (wordS_rt hvt).1
 rw[xa,xb,xf,xg,ex1,ex3,ey1,show sx.f+1 - 1=sx.f by omega]at e6
 rw[xa,xb,xf,xg,ey1,ey3,ex1,show sy.f+1 - 1=sy.f by omega]at e7
 refine ⟨T',W',e,e2,by rw[t1];exact hn2.symm,by rw[t2];exact hny.symm,by rw[t1];exact hx4,by rw[t2];exact hy4,?_,e6,e7⟩
 exact ⟨_,_,_,_,r,by rw[e5,xl,List.append_assoc];rfl⟩
end
end Go.W

