/- What a lone try does to all cells, and what it leaves as it was. The resolved code of the functions, by a program. -/
import Derived.Test.YtidbbnkpglggdaaPuE
import Derived.Test.YtidbbnkpglggdaaPqA
namespace Go.W
open Go.Proofs
set_option linter.unusedSimpArgs false
set_option linter.unusedVariables false
set_option maxHeartbeats 8000000
def parX (W:WZ):Int×Int×Int×Int×Int×Int×Int×Int:=(W.a,W.b,W.c,W.d,W.e,W.f,W.g,W.t)
theorem turn_parx (W:WZ) (x old:Int) (s:StZ):parX (turnW W x old s).2=parX W:=by
 unfold turnW
 split
 ·rfl
 ·split<;>rfl
theorem note_parx (W:WZ) (x g n:Int) (r:RcZ):parX (noteW W x g n r)=parX W:=by
 unfold noteW
 split
 ·rfl
 ·split
  ·rfl
  ·split<;>rfl
theorem hold_parx (W:WZ) (T:TZ):parX (holdT W T).2=parX W:=by
 unfold holdT
 split
 ·exact turn_parx _ _ _ _
 ·rfl
theorem look_parx (W:WZ) (T:TZ):parX (lookT W T).2=parX W:=by
 unfold lookT
 split<;>rfl
theorem take_parx (W:WZ) (T:TZ):parX (takeT W T).2=parX W:=by
 unfold takeT
 repeat' split
 ·exact turn_parx _ _ _ _
 ·exact turn_parx _ _ _ _
 ·rfl
 ·rfl
theorem let_parx (W:WZ) (T:TZ):parX (letT W T).2=parX W:=by
 unfold letT
 split
 ·split
  ·split
   ·simp only
    split
    ·exact turn_parx _ _ _ _
    ·exact turn_parx _ _ _ _
   ·exact turn_parx _ _ _ _
  ·rfl
 ·rfl
theorem noteT_parx (W:WZ) (T:TZ):parX (noteT W T)=parX W:=by
 unfold noteT
 repeat' split
 all_goals first|exact note_parx _ _ _ _ _|rfl
theorem step_parx (W:WZ) (T:TZ):parX (stepT W T).2=parX W:=by
 unfold stepT
 repeat' split
 all_goals first|exact hold_parx W T|exact take_parx W T|exact look_parx W T|exact let_parx W T|exact noteT_parx W T|rfl
theorem Step_parx (W:WZ) (T:TZ):parX (StepT W T).2=parX W:=by
 unfold StepT
 split
 ·rfl
 ·split
  ·rfl
  ·exact step_parx W T
theorem run_parx (W:WZ) (T:TZ):∀ k,parX (runT W T k).2=parX W
 | 0=>rfl
 | k+1=>(Step_parx _ _).trans (run_parx W T k)
theorem match_mono {a b:TmZ} {l o l' o':Int} (hl:l'≤l) (ho:o'≤o) (h:(matchZ a b l' o').1≠0):(matchZ a b l o).1≠0:=by
 unfold matchZ at h⊢
 obtain ⟨s1,e1⟩:∃ x,(if a.sd=1 then b.sd else a.sd)=x:=⟨_,rfl⟩
 obtain ⟨s2,e2⟩:∃ x,(if a.sd=1 then a.sd else b.sd)=x:=⟨_,rfl⟩
 obtain ⟨hi,e3⟩:∃ x,(if a.sd=1 then b.pr else a.pr)=x:=⟨_,rfl⟩
 obtain ⟨lo,e4⟩:∃ x,(if a.sd=1 then a.pr else b.pr)=x:=⟨_,rfl⟩
 obtain ⟨mx,e5⟩:∃ x,(if a.le<b.le then b.le else a.le)=x:=⟨_,rfl⟩
 obtain ⟨m,e6⟩:∃ x,(if o<l then o else l)=x:=⟨_,rfl⟩
 obtain ⟨m',e7⟩:∃ x,(if o'<l' then o' else l')=x:=⟨_,rfl⟩
 have hm:m'≤m:=by rw[← e6,← e7];(repeat' split)<;>omega
 rw[e1,e2,e3,e4,e5,e7]at h
 rw[e1,e2,e3,e4,e5,e6]
 clear e1 e2 e3 e4 e5 e6 e7
 by_cases c1:s1≠0
 ·rw[if_pos c1]at h;exact absurd rfl h
 rw[if_neg c1]at h⊢
 by_cases c2:s2≠1
 ·rw[if_pos c2]at h;exact absurd rfl h
 rw[if_neg c2]at h⊢
 by_cases c3:a.nm≠b.nm
 ·rw[if_pos c3]at h;exact absurd rfl h
 rw[if_neg c3]at h⊢
 by_cases c4:hi<lo
 ·rw[if_pos c4]at h;exact absurd rfl h
 rw[if_neg c4]at h⊢
 by_cases c5:m'<1
 ·rw[if_pos c5]at h;exact absurd rfl h
 rw[if_neg c5]at h
 by_cases c6:m'<mx
 ·rw[if_pos c6]at h;exact absurd rfl h
 rw[if_neg (by omega),if_neg (by omega)]
 show m≠0
 omega
theorem match_sides {a b:TmZ} {l o:Int} (h:(matchZ a b l o).1≠0):(a.sd=0∧b.sd=1)∨(a.sd=1∧b.sd=0):=by
 unfold matchZ at h
 by_cases c:a.sd=1
 ·simp only[if_pos c]at h
  by_cases c1:b.sd≠0
  ·rw[if_pos c1]at h;exact absurd rfl h
  ·exact .inr ⟨c,by omega⟩
 ·simp only[if_neg c]at h
  by_cases c1:a.sd≠0
  ·rw[if_pos c1]at h;exact absurd rfl h
  rw[if_neg c1]at h
  by_cases c2:b.sd≠1
  ·rw[if_pos c2]at h;exact absurd rfl h
  ·exact .inl ⟨by omega,by omega⟩
theorem match_sym {a b:TmZ} {l o:Int} (h1:a.sd=1) (h2:b.sd=0):(matchZ a b l o).1≠0→(matchZ b a o l).1≠0:=by
 unfold matchZ
 have n1:¬ b.sd=1:=by omega
 simp only[if_pos h1,if_neg n1]
 obtain ⟨mx,e5⟩:∃ x,(if a.le<b.le then b.le else a.le)=x:=⟨_,rfl⟩
 obtain ⟨mx',e5'⟩:∃ x,(if b.le<a.le then a.le else b.le)=x:=⟨_,rfl⟩
 obtain ⟨m,e6⟩:∃ x,(if o<l then o else l)=x:=⟨_,rfl⟩
 obtain ⟨m',e7⟩:∃ x,(if l<o then l else o)=x:=⟨_,rfl⟩
 have hm:m'=m:=by rw[← e6,← e7];(repeat' split)<;>omega
 have hx:mx'=mx:=by rw[← e5,← e5'];(repeat' split)<;>omega
 rw[e5,e6,e5',e7,hm,hx]
 clear e5 e6 e7 e5' hm hx
 intro h
 by_cases c3:a.nm≠b.nm
 ·repeat' (split at h)
  all_goals first|exact absurd rfl h|exact absurd c3 (by assumption)|simp_all
 by_cases c1:b.sd≠0
 ·rw[if_pos c1]at h;exact absurd rfl h
 have c2:¬ a.sd≠1:=by omega
 have c3':¬ b.nm≠a.nm:=by omega
 rw[if_neg c1,if_neg c2,if_neg c3]at h
 rw[if_neg c1,if_neg c2,if_neg c3']
 by_cases c4:b.pr<a.pr
 ·rw[if_pos c4]at h;exact absurd rfl h
 rw[if_neg c4]at h⊢
 by_cases c5:m<1
 ·rw[if_pos c5]at h;exact absurd rfl h
 rw[if_neg c5]at h⊢
 by_cases c6:m<mx
 ·rw[if_pos c6]at h;exact absurd rfl h
 rw[if_neg c6]at h⊢
 exact h
theorem match_least {a b:TmZ} {l o:Int} (h:(matchZ a b l o).1≠0):(matchZ a b l o).1=l∨(matchZ a b l o).1=o:=by
 have key:(matchZ a b l o).1=0∨(matchZ a b l o).1=(if o<l then o else l):=by
  unfold matchZ
  obtain ⟨m,e⟩:∃ x,(if o<l then o else l)=x:=⟨_,rfl⟩
  rw[e]
  repeat' split
  all_goals first|exact .inl rfl|exact .inr rfl
 rcases key with k|k
 ·exact absurd k h
 ·rw[k];split
  ·exact .inr rfl
  ·exact .inl rfl
theorem turn_frame {W:WZ} {x old:Int} {s:StZ} {j:Nat} (h:j≠(2*x).toNat):wAt (turnW W x old s).2.ws j=wAt W.ws j:=by
 unfold turnW
 split
 ·rfl
 ·split
  ·exact wAt_ne (fun e=>h e.symm)
  ·rfl
theorem note_frame {W:WZ} (hW:okW W=true) {x g n:Int} {r:RcZ} {j:Nat} (hj:(j:Int)<W.a*W.b*2):wAt (noteW W x g n r).ws j=wAt W.ws j:=by
 have hc:=cfg_ex (okW_ex hW).1
 have hs:=slot_lo (a:=W.a) (b:=W.b) (f:=W.f) (g:=W.g) (x:=x) (gen:=g) (n:=n) (by omega) (by omega)
 exact (note_fr2 W x g n r).2.2.2.2.2.2 j (by omega)
section
variable {W:WZ} {T:TZ} {j:Nat}
theorem hold_frame (h1:j≠(2*T.x).toNat):wAt (holdT W T).2.ws j=wAt W.ws j:=by
 unfold holdT
 split
 ·exact turn_frame h1
 ·rfl
theorem look_frame:wAt (lookT W T).2.ws j=wAt W.ws j:=by
 unfold lookT
 split<;>rfl
theorem take_frame (h2:j≠(2*T.y).toNat):wAt (takeT W T).2.ws j=wAt W.ws j:=by
 unfold takeT
 repeat' split
 ·exact turn_frame h2
 ·exact turn_frame h2
 ·rfl
 ·rfl
theorem let_frame (h1:j≠(2*T.x).toNat):wAt (letT W T).2.ws j=wAt W.ws j:=by
 unfold letT
 split
 ·split
  ·split
   ·simp only
    split
    ·exact turn_frame h1
    ·exact turn_frame h1
   ·exact turn_frame h1
  ·rfl
 ·rfl
theorem noteT_frame (hW:okW W=true) (hj:(j:Int)<W.a*W.b*2):wAt (noteT W T).ws j=wAt W.ws j:=by
 unfold noteT
 repeat' split
 all_goals first|exact note_frame hW hj|rfl
theorem step_frame (hW:okW W=true) (hj:(j:Int)<W.a*W.b*2) (h1:j≠(2*T.x).toNat) (h2:j≠(2*T.y).toNat):wAt (stepT W T).2.ws j=wAt W.ws j:=by
 unfold stepT
 repeat' split
 all_goals first|exact hold_frame h1|exact take_frame h2|exact look_frame|exact let_frame h1|exact noteT_frame hW hj|rfl
theorem Step_frame (hW:okW W=true) (hj:(j:Int)<W.a*W.b*2) (h1:j≠(2*T.x).toNat) (h2:j≠(2*T.y).toNat):wAt (StepT W T).2.ws j=wAt W.ws j:=by
 unfold StepT
 split
 ·rfl
 ·split
  ·rfl
  ·exact step_frame hW hj h1 h2
end
theorem hold_xy (W:WZ) (T:TZ):(holdT W T).1.x=T.x∧(holdT W T).1.y=T.y:=by unfold holdT;split<;>exact ⟨rfl,rfl⟩
theorem look_xy (W:WZ) (T:TZ):(lookT W T).1.x=T.x∧(lookT W T).1.y=T.y:=by unfold lookT;split<;>exact ⟨rfl,rfl⟩
theorem take_xy (W:WZ) (T:TZ):(takeT W T).1.x=T.x∧(takeT W T).1.y=T.y:=by unfold takeT;(repeat' split)<;>exact ⟨rfl,rfl⟩
theorem let_xy (W:WZ) (T:TZ):(letT W T).1.x=T.x∧(letT W T).1.y=T.y:=by
 unfold letT
 split
 ·split
  ·split<;>exact ⟨rfl,rfl⟩
  ·exact ⟨rfl,rfl⟩
 ·exact ⟨rfl,rfl⟩
theorem step_xy (W:WZ) (T:TZ):(stepT W T).1.x=T.x∧(stepT W T).1.y=T.y:=by
 unfold stepT
 repeat' split
 all_goals first|exact hold_xy W T|exact look_xy W T|exact take_xy W T|exact let_xy W T|exact ⟨rfl,rfl⟩
theorem Step_xy (W:WZ) (T:TZ):(StepT W T).1.x=T.x∧(StepT W T).1.y=T.y:=by
 unfold StepT
 split
 ·exact ⟨rfl,rfl⟩
 ·split
  ·exact ⟨rfl,rfl⟩
  ·exact step_xy W T
theorem run_xy (W:WZ) (T:TZ):∀ k,(runT W T k).1.x=T.x∧(runT W T k).1.y=T.y
 | 0=>⟨rfl,rfl⟩
 | k+1=>by
  have h:=Step_xy (runT W T k).2 (runT W T k).1
  have h2:=run_xy W T k
  exact ⟨h.1.trans h2.1,h.2.trans h2.2⟩
theorem run_okW {W:WZ} (hW:okW W=true) (T:TZ):∀ k,okW (runT W T k).2=true
 | 0=>hW
 | k+1=>StepT_ok (run_okW hW T k) _
theorem parX_ab {W V:WZ} (h:parX W=parX V):W.a=V.a∧W.b=V.b∧W.c=V.c∧W.d=V.d∧W.f=V.f∧W.g=V.g∧W.t=V.t:=by
 simp only[parX,Prod.mk.injEq]at h
 exact ⟨h.1,h.2.1,h.2.2.1,h.2.2.2.1,h.2.2.2.2.2.1,h.2.2.2.2.2.2.1,h.2.2.2.2.2.2.2⟩
theorem run_frame {W:WZ} {T:TZ} (hW:okW W=true) {j:Nat} (hj:(j:Int)<W.a*W.b*2) (h1:j≠(2*T.x).toNat) (h2:j≠(2*T.y).toNat):∀ k,wAt (runT W T k).2.ws j=wAt W.ws j
 | 0=>rfl
 | k+1=>by
  have hp:=parX_ab (run_parx W T k)
  have hxy:=run_xy W T k
  have:=Step_frame (W:=(runT W T k).2) (T:=(runT W T k).1) (j:=j) (run_okW hW T k) (by rw[hp.1,hp.2.1];exact hj) (by rw[hxy.1];exact h1) (by rw[hxy.2];exact h2)
  exact this.trans (run_frame hW hj h1 h2 k)
theorem idle_run {W:WZ} {T:TZ} (h:idl W.a W.b T.x T.y=true):∀ k,(runT W T k).2=W
 | 0=>rfl
 | k+1=>by
  have ih:=idle_run h k
  have hxy:=run_xy W T k
  show (StepT (runT W T k).2 (runT W T k).1).2=W
  unfold StepT
  split
  ·exact ih
  ·rw[if_pos (by rw[idle_eq,ih,hxy.1,hxy.2];exact h)]
   exact ih
end Go.W

namespace Go.W
open Go.Proofs
set_option maxRecDepth 100000
def q7_0:List MO:=[Ma 1 (.box (.t 0)),Ma 2 (.mv (.c (.bool false)))]
@[simp] theorem l7_0:q7_0.length=2:=rfl
instance:KR Try.f7.ntmps q7_0:=⟨[1],by kernel_rfl⟩
def q7_1:List MO:=[Ma 5 (.load true 7 (.t 1)),Ma 6 (.call (.c (.fn 27 [])) [(.t 5)]),Ma 7 (.un .not (.t 6))]
@[simp] theorem l7_1:q7_1.length=3:=rfl
instance:KR Try.f7.ntmps q7_1:=⟨[7],by kernel_rfl⟩
def q7_2:List MO:=[Ma 8 (.call (.c (.fn 28 [])) []),Ma 2 (.mv (.t 8))]
@[simp] theorem l7_2:q7_2.length=2:=rfl
instance:KR Try.f7.ntmps q7_2:=⟨[2],by kernel_rfl⟩
def q7_3:List MO:=[Ma 3 (.mv (.c (.raw (.pointer none))))]
@[simp] theorem l7_3:q7_3.length=1:=rfl
instance:KR Try.f7.ntmps q7_3:=⟨[3],by kernel_rfl⟩
def q7_4:List MO:=[Ma 4 (.mv (.c (.raw (.pointer none))))]
@[simp] theorem l7_4:q7_4.length=1:=rfl
instance:KR Try.f7.ntmps q7_4:=⟨[3,4],by kernel_rfl⟩
def q7_5:List MO:=[Ma 9 (.mv (.t 3)),Ma 10 (.call (.c (.fn 29 [])) [(.t 9),(.c (.raw (.pointer none)))])]
@[simp] theorem l7_5:q7_5.length=2:=rfl
instance:KR Try.f7.ntmps q7_5:=⟨[3,4],by kernel_rfl⟩
def q7_6:List MO:=[Ma 11 (.mv (.t 4)),Ma 12 (.call (.c (.fn 30 [])) [(.t 11),(.c (.raw (.pointer none)))])]
@[simp] theorem l7_6:q7_6.length=2:=rfl
instance:KR Try.f7.ntmps q7_6:=⟨[3,4],by kernel_rfl⟩
def q7_7:List MO:=[Ma 13 (.call (.c (.fn 31 [])) [(.c (.int .i64 0))]),Ma 14 (.call (.c (.fn 29 [])) [(.t 13),(.c (.raw (.pointer none)))])]
@[simp] theorem l7_7:q7_7.length=2:=rfl
instance:KR Try.f7.ntmps q7_7:=⟨[3,4],by kernel_rfl⟩
def q7_8:List MO:=[Ma 15 (.call (.c (.fn 32 [])) [(.c (.int .i64 0))]),Ma 16 (.call (.c (.fn 30 [])) [(.t 15),(.c (.raw (.pointer none)))])]
@[simp] theorem l7_8:q7_8.length=2:=rfl
instance:KR Try.f7.ntmps q7_8:=⟨[3,4],by kernel_rfl⟩
def q7_9:List MO:=[Ma 17 (.call (.c (.fn 28 [])) []),Ma 18 (.mv (.t 17)),Mg 19 (.mv (.t 3)) 18 true,Mg 20 (.call (.c (.fn 33 [])) [(.t 19)]) 18 true,Ma 21 (.pick (.t 18) (.t 20) (.c (.bool false))),Ma 22 (.mv (.t 21)),Mg 23 (.mv (.t 4)) 22 true,Mg 24 (.call (.c (.fn 34 [])) [(.t 23)]) 22 true,Ma 25 (.pick (.t 22) (.t 24) (.c (.bool false))),Ma 26 (.mv (.t 25)),Mg 27 (.mv (.t 3)) 26 true,Mg 28 (.call (.c (.fn 35 [])) [(.t 27)]) 26 true,Mg 29 (.bin .eql (.t 28) (.c (.int .i64 0))) 26 true,Ma 30 (.pick (.t 26) (.t 29) (.c (.bool false))),Ma 31 (.mv (.t 30)),Mg 32 (.mv (.t 4)) 31 true,Mg 33 (.call (.c (.fn 36 [])) [(.t 32)]) 31 true,Mg 34 (.bin .eql (.t 33) (.c (.int .i64 0))) 31 true,Ma 35 (.pick (.t 31) (.t 34) (.c (.bool false))),Ma 2 (.mv (.t 35))]
@[simp] theorem l7_9:q7_9.length=20:=rfl
instance:KR Try.f7.ntmps q7_9:=⟨[2],by kernel_rfl⟩
def q28_0:List MO:=[Ma 0 (.mv (.c (.bool false)))]
@[simp] theorem l28_0:q28_0.length=1:=rfl
instance:KR Try.f28.ntmps q28_0:=⟨[],by kernel_rfl⟩
def q28_1:List MO:=[Ma 10 (.build [(.int .i64 0),(.int .i64 0),(.int .i64 0),(.int .i64 0),(.int .i64 0),(.int .i64 0),(.int .i64 0)] [(0,(1,(.c (.int .i64 2)))),(1,(1,(.c (.int .i64 1)))),(2,(1,(.c (.int .i64 1)))),(3,(1,(.c (.int .i64 1)))),(5,(1,(.c (.int .i64 2)))),(6,(1,(.c (.int .i64 1))))]),Ma 1 (.alloc [(.int .i64 0),(.int .i64 0),(.int .i64 0),(.int .i64 0),(.int .i64 0),(.int .i64 0),(.int .i64 0)]),Mb (.store 7 (.t 1) (.t 10))]
@[simp] theorem l28_1:q28_1.length=3:=rfl
instance:KR Try.f28.ntmps q28_1:=⟨[1],by kernel_rfl⟩
def q28_2:List MO:=[Ma 12 (.load true 7 (.t 1)),Ma 13 (.call (.c (.fn 42 [])) [(.t 12)]),Ma 11 (.mv (.t 13)),Ma 14 (.ext (.t 11) 0),Ma 15 (.ext (.t 11) 1),Ma 2 (.alloc [(.int .i64 0),(.int .i64 0),(.int .i64 0),(.int .i64 0),(.int .i64 0),(.int .i64 0),(.int .i64 0)]),Mb (.store 7 (.t 2) (.t 14)),Ma 3 (.mv (.t 15))]
@[simp] theorem l28_2:q28_2.length=8:=rfl
instance:KR Try.f28.ntmps q28_2:=⟨[1,2,3],by kernel_rfl⟩
def q28_3:List MO:=[Ma 16 (.build [(.int .i64 0),(.int .i64 0),(.int .i64 0),(.int .i64 0),(.int .i64 0)] [(1,(1,(.c (.int .i64 0)))),(2,(1,(.c (.int .i64 10)))),(3,(1,(.c (.int .i64 1)))),(4,(1,(.c (.int .i64 9))))]),Ma 4 (.alloc [(.int .i64 0),(.int .i64 0),(.int .i64 0),(.int .i64 0),(.int .i64 0)]),Mb (.store 5 (.t 4) (.t 16))]
@[simp] theorem l28_3:q28_3.length=3:=rfl
instance:KR Try.f28.ntmps q28_3:=⟨[1,2,3,4],by kernel_rfl⟩
def q28_4:List MO:=[Ma 17 (.build [(.int .i64 0),(.int .i64 0),(.int .i64 0),(.int .i64 0),(.int .i64 0)] [(1,(1,(.c (.int .i64 1)))),(2,(1,(.c (.int .i64 8)))),(3,(1,(.c (.int .i64 1)))),(4,(1,(.c (.int .i64 9))))]),Ma 5 (.alloc [(.int .i64 0),(.int .i64 0),(.int .i64 0),(.int .i64 0),(.int .i64 0)]),Mb (.store 5 (.t 5) (.t 17))]
@[simp] theorem l28_4:q28_4.length=3:=rfl
instance:KR Try.f28.ntmps q28_4:=⟨[1,2,3,4,5],by kernel_rfl⟩
def q28_5:List MO:=[Ma 19 (.load true 7 (.t 1)),Ma 20 (.build [(.int .i64 0),(.bool false),(.int .i64 0),(.int .i64 0),(.int .i64 0)] [(0,(1,(.c (.int .i64 2)))),(2,(1,(.c (.int .i64 1)))),(3,(1,(.c (.int .i64 5))))]),Ma 21 (.load true 5 (.t 4)),Ma 22 (.build [(.int .i64 0),(.bool false),(.int .i64 0),(.int .i64 0),(.int .i64 0),(.int .i64 0),(.int .i64 0),(.int .i64 0),(.int .i64 0),(.int .i64 0)] [(0,(5,(.t 20))),(5,(5,(.t 21)))]),Ma 23 (.build [(.int .i64 0),(.bool false),(.int .i64 0),(.int .i64 0),(.int .i64 0)] [(0,(1,(.c (.int .i64 2)))),(2,(1,(.c (.int .i64 1)))),(3,(1,(.c (.int .i64 3))))]),Ma 24 (.load true 5 (.t 5)),Ma 25 (.build [(.int .i64 0),(.bool false),(.int .i64 0),(.int .i64 0),(.int .i64 0),(.int .i64 0),(.int .i64 0),(.int .i64 0),(.int .i64 0),(.int .i64 0)] [(0,(5,(.t 23))),(5,(5,(.t 24)))]),Ma 26 (.bsl 10 2 [(.int .i64 0),(.bool false),(.int .i64 0),(.int .i64 0),(.int .i64 0),(.int .i64 0),(.int .i64 0),(.int .i64 0),(.int .i64 0),(.int .i64 0)] [(0,(10,(.t 22))),(10,(10,(.t 25)))]),Ma 27 (.call (.c (.fn 9 [])) [(.t 19),(.t 26)]),Ma 18 (.mv (.t 27)),Ma 28 (.ext (.t 18) 0),Ma 29 (.ext (.t 18) 1),Ma 30 (.ext (.t 18) 2),Ma 6 (.mv (.t 28)),Ma 7 (.mv (.t 29)),Ma 8 (.mv (.t 30))]
@[simp] theorem l28_5:q28_5.length=16:=rfl
instance:KR Try.f28.ntmps q28_5:=⟨[2,3,6,8],by kernel_rfl⟩
def q28_6:List MO:=[Ma 31 (.mv (.t 8)),Ma 32 (.un .not (.t 31)),Ma 33 (.mv (.t 32)),Mg 34 (.mv (.t 3)) 33 false,Mg 35 (.eq true .iface (.t 34) (.c (.raw .nilIface))) 33 false,Ma 36 (.pick (.t 33) (.c (.bool true)) (.t 35))]
@[simp] theorem l28_6:q28_6.length=6:=rfl
instance:KR Try.f28.ntmps q28_6:=⟨[2,6,36],by kernel_rfl⟩
def q28_7:List MO:=[Ma 0 (.mv (.c (.bool false)))]
@[simp] theorem l28_7:q28_7.length=1:=rfl
instance:KR Try.f28.ntmps q28_7:=⟨[0],by kernel_rfl⟩
def q28_8:List MO:=[Ma 37 (.call (.c (.fn 31 [])) [(.c (.int .i64 0))]),Ma 9 (.mv (.t 37))]
@[simp] theorem l28_8:q28_8.length=2:=rfl
instance:KR Try.f28.ntmps q28_8:=⟨[2,6,9],by kernel_rfl⟩
def q28_9:List MO:=[Ma 38 (.mv (.c (.int .i64 0)))]
@[simp] theorem l28_9:q28_9.length=1:=rfl
instance:KR Try.f28.ntmps q28_9:=⟨[2,6,9,38],by kernel_rfl⟩
def q28_10:List MO:=[Ma 39 (.bin .lss (.t 38) (.c (.int .i64 56)))]
@[simp] theorem l28_10:q28_10.length=1:=rfl
instance:KR Try.f28.ntmps q28_10:=⟨[2,6,9,38,39],by kernel_rfl⟩
def q28_11:List MO:=[Ma 40 (.mv (.t 9)),Ma 41 (.mv (.t 6)),Ma 42 (.call (.c (.fn 29 [])) [(.t 40),(.t 41)])]
@[simp] theorem l28_11:q28_11.length=3:=rfl
instance:KR Try.f28.ntmps q28_11:=⟨[2,6,9,38],by kernel_rfl⟩
def q28_12:List MO:=[Ma 43 (.bin .add (.t 38) (.c (.int .i64 1))),Ma 38 (.mv (.t 43))]
@[simp] theorem l28_12:q28_12.length=2:=rfl
instance:KR Try.f28.ntmps q28_12:=⟨[2,6,9,38],by kernel_rfl⟩
def q28_13:List MO:=[Ma 44 (.load true 7 (.t 2)),Ma 45 (.call (.c (.fn 40 [])) [(.t 44)]),Ma 46 (.bin .eql (.t 45) (.c (.int .i64 56))),Ma 47 (.mv (.t 46)),Mg 48 (.load true 7 (.t 2)) 47 true,Mg 49 (.call (.c (.fn 39 [])) [(.t 48)]) 47 true,Mg 50 (.bin .eql (.t 49) (.c (.int .i64 8))) 47 true,Ma 51 (.pick (.t 47) (.t 50) (.c (.bool false))),Ma 52 (.mv (.t 51)),Mg 53 (.mv (.t 9)) 52 true,Mg 54 (.call (.c (.fn 35 [])) [(.t 53)]) 52 true,Mg 55 (.bin .eql (.t 54) (.c (.int .i64 1))) 52 true,Ma 56 (.pick (.t 52) (.t 55) (.c (.bool false))),Ma 57 (.mv (.t 56)),Mg 58 (.mv (.t 9)) 57 true,Mg 59 (.call (.c (.fn 33 [])) [(.t 58)]) 57 true,Ma 60 (.pick (.t 57) (.t 59) (.c (.bool false))),Ma 61 (.mv (.t 60)),Mg 62 (.mv (.t 6)) 61 true,Mg 63 (.nilck (.t 62)) 61 true,Mg 64 (.faddr 9 (.t 63)) 61 true,Mg 65 (.load false 1 (.t 64)) 61 true,Mg 66 (.len (.t 65)) 61 true,Mg 67 (.bin .eql (.t 66) (.c (.int .i64 1))) 61 true,Ma 68 (.pick (.t 61) (.t 67) (.c (.bool false))),Ma 0 (.mv (.t 68))]
@[simp] theorem l28_13:q28_13.length=26:=rfl
instance:KR Try.f28.ntmps q28_13:=⟨[0],by kernel_rfl⟩
def m28:MCode:=.seq (.reg q28_0) (.seq (.reg q28_1) (.seq (.reg q28_2) (.seq (.reg q28_3) (.seq (.reg q28_4) (.seq (.reg q28_5) (.seq (.seq (.reg q28_6) (.cond (.t 36) (.seq (.reg q28_7) .ret) .skip)) (.seq (.reg q28_8) (.seq (.seq (.reg q28_9) (.block 0 (.loop (.seq (.reg q28_10) (.seq (.cond (.t 39) .skip (.exit 0)) (.seq (.block 1 (.reg q28_11)) (.reg q28_12))))))) (.seq (.reg q28_13) .ret)))))))))
theorem rc28:rcOf Try.prog Try.f28=some m28:=by kernel_rfl
theorem rv28:rRVs Try.prog Try.f28.results.toList=some [(.t 0)]:=by kernel_rfl
theorem nm28:(Try.f28.name == "runtime.NumGoroutine")=false:=by kernel_rfl
def q29_0:List MO:=[Ma 5 (.mv (.t 0)),Ma 6 (.eq false .ptr (.t 5) (.c (.raw (.pointer none)))),Ma 7 (.mv (.t 6)),Mg 8 (.mv (.t 1)) 7 false,Mg 9 (.eq false .ptr (.t 8) (.c (.raw (.pointer none)))) 7 false,Ma 10 (.pick (.t 7) (.c (.bool true)) (.t 9))]
@[simp] theorem l29_0:q29_0.length=6:=rfl
instance:KR Try.f29.ntmps q29_0:=⟨[0,1,10],by kernel_rfl⟩
def q29_1:List MO:=[Ma 11 (.mv (.t 1)),Ma 12 (.nilck (.t 11)),Ma 13 (.faddr 0 (.t 12)),Ma 14 (.load true 7 (.t 13)),Ma 15 (.call (.c (.fn 59 [])) [(.t 14)]),Ma 4 (.mv (.t 15))]
@[simp] theorem l29_1:q29_1.length=6:=rfl
instance:KR Try.f29.ntmps q29_1:=⟨[0,1,4],by kernel_rfl⟩
def q29_2:List MO:=[Ma 16 (.mv (.t 0)),Ma 17 (.nilck (.t 16)),Ma 18 (.faddr 3 (.t 17)),Ma 19 (.load false 1 (.t 18)),Ma 20 (.call (.c (.fn 13 [])) [(.t 19)])]
@[simp] theorem l29_2:q29_2.length=5:=rfl
instance:KR Try.f29.ntmps q29_2:=⟨[0,1,4,20],by kernel_rfl⟩
def q29_3:List MO:=[Ma 21 (.mv (.t 0)),Ma 22 (.mv (.t 0)),Ma 23 (.nilck (.t 22)),Ma 24 (.faddr 1 (.t 23)),Ma 25 (.load false 1 (.t 24)),Ma 26 (.mv (.t 4)),Ma 27 (.bin .quo (.t 25) (.t 26)),Ma 28 (.mv (.t 0)),Ma 29 (.nilck (.t 28)),Ma 30 (.faddr 1 (.t 29)),Ma 31 (.load false 1 (.t 30)),Ma 32 (.mv (.t 4)),Ma 33 (.bin .rem (.t 31) (.t 32)),Ma 34 (.mv (.t 0)),Ma 35 (.nilck (.t 34)),Ma 36 (.faddr 0 (.t 35)),Ma 37 (.load false 1 (.t 36)),Ma 38 (.build [(.int .i64 0),(.int .i64 0),(.int .i64 0),(.int .i64 0),(.int .i64 0)] [(0,(1,(.c (.int .i64 3)))),(1,(1,(.t 27))),(3,(1,(.t 33))),(4,(1,(.t 37)))]),Ma 39 (.call (.c (.fn 11 [])) [(.t 38)]),Ma 40 (.nilck (.t 21)),Ma 41 (.faddr 3 (.t 40)),Mb (.store 1 (.t 41) (.t 39))]
@[simp] theorem l29_3:q29_3.length=22:=rfl
def p29_3:List (List Nat):=[[],[],[1],[2],[3],[],[4,5],[],[7],[8],[9],[],[10,11],[],[13],[14],[15],[6,12,16],[17],[0,0,1,2,3,4,5,6,7,8,9,10,11,12,13,14,15,16,17,18],[19,0,1,2,3,4,5,6,7,8,9,10,11,12,13,14,15,16,17,18],[20,18,18,0,1,2,3,4,5,6,7,8,9,10,11,12,13,14,15,16,17,18]]
instance:KD Try.f29.ntmps q29_3 p29_3:=⟨[[],[],[1],[1,2],[1,2,3],[],[1,2,3,4,5],[],[7],[7,8],[7,8,9],[],[7,8,9,10,11],[],[13],[13,14],[13,14,15],[1,2,3,4,5,6,7,8,9,10,11,12,13,14,15,16],[1,2,3,4,5,6,7,8,9,10,11,12,13,14,15,16,17],[0,1,2,3,4,5,6,7,8,9,10,11,12,13,14,15,16,17,18],[0,1,2,3,4,5,6,7,8,9,10,11,12,13,14,15,16,17,18,19],[0,1,2,3,4,5,6,7,8,9,10,11,12,13,14,15,16,17,18,19,20]],[0,1,4],by kernel_rfl⟩
def q29_4:List MO:=[Ma 42 (.mv (.t 0)),Ma 43 (.nilck (.t 42)),Ma 44 (.faddr 3 (.t 43)),Ma 45 (.load false 1 (.t 44)),Ma 46 (.mv (.t 1)),Ma 47 (.call (.c (.fn 12 [])) [(.t 45),(.t 46)])]
@[simp] theorem l29_4:q29_4.length=6:=rfl
instance:KR Try.f29.ntmps q29_4:=⟨[0,4],by kernel_rfl⟩
def q29_5:List MO:=[Ma 48 (.mv (.t 0)),Ma 49 (.nilck (.t 48)),Ma 50 (.faddr 3 (.t 49)),Ma 51 (.load false 1 (.t 50)),Ma 52 (.call (.c (.fn 13 [])) [(.t 51)]),Ma 53 (.un .not (.t 52))]
@[simp] theorem l29_5:q29_5.length=6:=rfl
instance:KR Try.f29.ntmps q29_5:=⟨[0,4,53],by kernel_rfl⟩
def q29_6:List MO:=[Ma 54 (.mv (.t 0)),Ma 55 (.nilck (.t 54)),Ma 56 (.faddr 1 (.t 55)),Ma 57 (.load false 1 (.t 56)),Ma 58 (.bin .add (.t 57) (.c (.int .i64 1))),Ma 59 (.nilck (.t 54)),Ma 60 (.faddr 1 (.t 59)),Mb (.store 1 (.t 60) (.t 58))]
@[simp] theorem l29_6:q29_6.length=8:=rfl
instance:KR Try.f29.ntmps q29_6:=⟨[0,4],by kernel_rfl⟩
def q29_7:List MO:=[Ma 61 (.mv (.t 0)),Ma 62 (.nilck (.t 61)),Ma 63 (.faddr 1 (.t 62)),Ma 64 (.load false 1 (.t 63)),Ma 65 (.mv (.t 4)),Ma 66 (.mv (.t 4)),Ma 67 (.bin .mul (.t 65) (.t 66)),Ma 68 (.bin .eql (.t 64) (.t 67))]
@[simp] theorem l29_7:q29_7.length=8:=rfl
instance:KR Try.f29.ntmps q29_7:=⟨[0,68],by kernel_rfl⟩
def q29_8:List MO:=[Ma 69 (.mv (.t 0)),Ma 70 (.nilck (.t 69)),Ma 71 (.faddr 1 (.t 70)),Mb (.store 1 (.t 71) (.c (.int .i64 0)))]
@[simp] theorem l29_8:q29_8.length=4:=rfl
instance:KR Try.f29.ntmps q29_8:=⟨[0],by kernel_rfl⟩
def q29_9:List MO:=[Ma 72 (.mv (.t 0)),Ma 73 (.nilck (.t 72)),Ma 74 (.faddr 2 (.t 73)),Ma 75 (.load false 1 (.t 74)),Ma 76 (.bin .add (.t 75) (.c (.int .i64 1))),Ma 77 (.nilck (.t 72)),Ma 78 (.faddr 2 (.t 77)),Mb (.store 1 (.t 78) (.t 76))]
@[simp] theorem l29_9:q29_9.length=8:=rfl
instance:KR Try.f29.ntmps q29_9:=⟨[],by kernel_rfl⟩
def m29:MCode:=.seq (.seq (.reg q29_0) (.cond (.t 10) .ret .skip)) (.seq (.reg q29_1) (.seq (.seq (.reg q29_2) (.cond (.t 20) (.draw q29_3 p29_3) .skip)) (.seq (.seq (.reg q29_4) (.seq (.reg q29_5) (.cond (.t 53) .ret .skip))) (.seq (.reg q29_6) (.seq (.reg q29_7) (.cond (.t 68) (.seq (.reg q29_8) (.reg q29_9)) .skip))))))
theorem rc29:rcOf Try.prog Try.f29=some m29:=by kernel_rfl
theorem rv29:rRVs Try.prog Try.f29.results.toList=some []:=by kernel_rfl
theorem nm29:(Try.f29.name == "runtime.NumGoroutine")=false:=by kernel_rfl
def q30_0:List MO:=[Ma 7 (.mv (.t 0)),Ma 8 (.eq false .ptr (.t 7) (.c (.raw (.pointer none)))),Ma 9 (.mv (.t 8)),Mg 10 (.mv (.t 1)) 9 false,Mg 11 (.eq false .ptr (.t 10) (.c (.raw (.pointer none)))) 9 false,Ma 12 (.pick (.t 9) (.c (.bool true)) (.t 11))]
@[simp] theorem l30_0:q30_0.length=6:=rfl
instance:KR Try.f30.ntmps q30_0:=⟨[0,1,12],by kernel_rfl⟩
def q30_1:List MO:=[Ma 13 (.mv (.t 0)),Ma 14 (.nilck (.t 13)),Ma 15 (.faddr 1 (.t 14)),Ma 16 (.load false 1 (.t 15)),Ma 17 (.bin .quo (.t 16) (.c (.int .i64 4))),Ma 4 (.mv (.t 17))]
@[simp] theorem l30_1:q30_1.length=6:=rfl
instance:KR Try.f30.ntmps q30_1:=⟨[0,1,4],by kernel_rfl⟩
def q30_2:List MO:=[Ma 18 (.mv (.t 0)),Ma 19 (.nilck (.t 18)),Ma 20 (.faddr 1 (.t 19)),Ma 21 (.load false 1 (.t 20)),Ma 22 (.bin .rem (.t 21) (.c (.int .i64 4)))]
@[simp] theorem l30_2:q30_2.length=5:=rfl
instance:KR Try.f30.ntmps q30_2:=⟨[0,1,4,22],by kernel_rfl⟩
def q30_3:List MO:=[Ma 58 (.bin .eql (.t 22) (.c (.int .i64 0))),Ma 57 (.mv (.t 58))]
@[simp] theorem l30_3:q30_3.length=2:=rfl
instance:KR Try.f30.ntmps q30_3:=⟨[0,1,4,22,57],by kernel_rfl⟩
def q30_4:List MO:=[Ma 59 (.mv (.t 0)),Ma 60 (.nilck (.t 59)),Ma 61 (.faddr 14 (.t 60)),Mb (.store 1 (.t 61) (.c (.bool false)))]
@[simp] theorem l30_4:q30_4.length=4:=rfl
instance:KR Try.f30.ntmps q30_4:=⟨[0,1,4],by kernel_rfl⟩
def q30_5:List MO:=[Ma 63 (.mv (.t 0)),Ma 64 (.mv (.t 0)),Ma 65 (.mv (.t 1)),Ma 66 (.mv (.t 4)),Ma 67 (.call (.c (.fn 14 [])) [(.t 65),(.t 66)]),Ma 62 (.mv (.t 67)),Ma 68 (.ext (.t 62) 0),Ma 69 (.ext (.t 62) 1),Ma 70 (.nilck (.t 63)),Ma 71 (.faddr 3 (.t 70)),Mb (.store 1 (.t 71) (.t 68)),Ma 72 (.nilck (.t 64)),Ma 73 (.faddr 4 (.t 72)),Mb (.store 5 (.t 73) (.t 69))]
@[simp] theorem l30_5:q30_5.length=14:=rfl
instance:KR Try.f30.ntmps q30_5:=⟨[0,1],by kernel_rfl⟩
def q30_6:List MO:=[Ma 75 (.bin .eql (.t 22) (.c (.int .i64 1))),Ma 74 (.mv (.t 75))]
@[simp] theorem l30_6:q30_6.length=2:=rfl
instance:KR Try.f30.ntmps q30_6:=⟨[0,1,4,22,74],by kernel_rfl⟩
def q30_7:List MO:=[Ma 76 (.mv (.t 0)),Ma 77 (.mv (.t 1)),Ma 78 (.mv (.t 4)),Ma 79 (.call (.c (.fn 65 [])) [(.t 77),(.t 78)]),Ma 80 (.nilck (.t 76)),Ma 81 (.faddr 9 (.t 80)),Mb (.store 5 (.t 81) (.t 79))]
@[simp] theorem l30_7:q30_7.length=7:=rfl
instance:KR Try.f30.ntmps q30_7:=⟨[0,1],by kernel_rfl⟩
def q30_8:List MO:=[Ma 83 (.bin .eql (.t 22) (.c (.int .i64 2))),Ma 82 (.mv (.t 83))]
@[simp] theorem l30_8:q30_8.length=2:=rfl
instance:KR Try.f30.ntmps q30_8:=⟨[0,1,4,82],by kernel_rfl⟩
def q30_9:List MO:=[Ma 84 (.mv (.t 0)),Ma 85 (.mv (.t 1)),Ma 86 (.mv (.t 4)),Ma 87 (.call (.c (.fn 66 [])) [(.t 84),(.t 85),(.t 86)])]
@[simp] theorem l30_9:q30_9.length=4:=rfl
instance:KR Try.f30.ntmps q30_9:=⟨[0,1],by kernel_rfl⟩
def q30_10:List MO:=[Ma 24 (.mv (.t 0)),Ma 25 (.nilck (.t 24)),Ma 26 (.faddr 4 (.t 25)),Ma 27 (.load true 5 (.t 26)),Ma 28 (.mv (.t 0)),Ma 29 (.nilck (.t 28)),Ma 30 (.faddr 15 (.t 29)),Ma 31 (.load false 1 (.t 30)),Ma 32 (.call (.c (.fn 67 [])) [(.t 27),(.t 31)]),Ma 23 (.mv (.t 32)),Ma 33 (.ext (.t 23) 0),Ma 34 (.ext (.t 23) 1),Ma 5 (.alloc [(.int .i64 0),(.int .i64 0),(.int .i64 0),(.int .i64 0),(.int .i64 0),(.int .i64 0)]),Mb (.store 6 (.t 5) (.t 33)),Ma 6 (.mv (.t 34))]
@[simp] theorem l30_10:q30_10.length=15:=rfl
def p30_10:List (List Nat):=[[],[0],[1],[2],[],[4],[5],[6],[3,7],[8],[9],[9],[],[12,10,8,0,1,2,3,4,5,6,7,8,9,10,12],[11,13,0,1,2,3,4,5,6,7,8,9,10,11,12,13]]
instance:KD Try.f30.ntmps q30_10 p30_10:=⟨[[],[0],[0,1],[0,1,2],[],[4],[4,5],[4,5,6],[0,1,2,3,4,5,6,7],[0,1,2,3,4,5,6,7,8],[0,1,2,3,4,5,6,7,8,9],[0,1,2,3,4,5,6,7,8,9],[],[0,1,2,3,4,5,6,7,8,9,10,12],[0,1,2,3,4,5,6,7,8,9,10,11,12,13]],[0,1,4,5,6],by kernel_rfl⟩
def q30_11:List MO:=[Ma 35 (.mv (.t 6)),Ma 36 (.mv (.t 35)),Mg 37 (.mv (.t 0)) 36 true,Mg 38 (.nilck (.t 37)) 36 true,Mg 39 (.faddr 14 (.t 38)) 36 true,Mg 40 (.load false 1 (.t 39)) 36 true,Ma 41 (.pick (.t 36) (.t 40) (.c (.bool false)))]
@[simp] theorem l30_11:q30_11.length=7:=rfl
instance:KR Try.f30.ntmps q30_11:=⟨[0,1,4,5,41],by kernel_rfl⟩
def q30_12:List MO:=[Ma 42 (.mv (.t 1)),Ma 43 (.mv (.t 4)),Ma 44 (.mv (.t 0)),Ma 45 (.nilck (.t 44)),Ma 46 (.faddr 4 (.t 45)),Ma 47 (.faddr 2 (.t 46)),Ma 48 (.load false 1 (.t 47)),Ma 49 (.mv (.t 1)),Ma 50 (.nilck (.t 49)),Ma 51 (.faddr 0 (.t 50)),Ma 52 (.faddr 0 (.t 51)),Ma 53 (.faddr 5 (.t 52)),Ma 54 (.load false 1 (.t 53)),Ma 55 (.load true 6 (.t 5)),Ma 56 (.call (.c (.fn 68 [])) [(.t 42),(.t 43),(.t 48),(.t 54),(.t 55)])]
@[simp] theorem l30_12:q30_12.length=15:=rfl
def p30_12:List (List Nat):=[[],[],[],[2],[3],[4],[5],[],[7],[8],[9],[10],[11],[],[0,1,6,12,13]]
instance:KD Try.f30.ntmps q30_12 p30_12:=⟨[[],[],[],[2],[2,3],[2,3,4],[2,3,4,5],[],[7],[7,8],[7,8,9],[7,8,9,10],[7,8,9,10,11],[],[0,1,2,3,4,5,6,7,8,9,10,11,12,13]],[0,1],by kernel_rfl⟩
def q30_13:List MO:=[Ma 88 (.mv (.t 0)),Ma 89 (.nilck (.t 88)),Ma 90 (.faddr 1 (.t 89)),Ma 91 (.load false 1 (.t 90)),Ma 92 (.bin .add (.t 91) (.c (.int .i64 1))),Ma 93 (.nilck (.t 88)),Ma 94 (.faddr 1 (.t 93)),Mb (.store 1 (.t 94) (.t 92))]
@[simp] theorem l30_13:q30_13.length=8:=rfl
instance:KR Try.f30.ntmps q30_13:=⟨[0,1],by kernel_rfl⟩
def q30_14:List MO:=[Ma 95 (.mv (.t 0)),Ma 96 (.nilck (.t 95)),Ma 97 (.faddr 1 (.t 96)),Ma 98 (.load false 1 (.t 97)),Ma 99 (.mv (.t 1)),Ma 100 (.nilck (.t 99)),Ma 101 (.faddr 0 (.t 100)),Ma 102 (.load true 7 (.t 101)),Ma 103 (.call (.c (.fn 39 [])) [(.t 102)]),Ma 104 (.bin .eql (.t 98) (.t 103))]
@[simp] theorem l30_14:q30_14.length=10:=rfl
def p30_14:List (List Nat):=[[],[0],[1],[2],[],[4],[5],[6],[7],[3,8]]
instance:KD Try.f30.ntmps q30_14 p30_14:=⟨[[],[0],[0,1],[0,1,2],[],[4],[4,5],[4,5,6],[4,5,6,7],[0,1,2,3,4,5,6,7,8]],[0,104],by kernel_rfl⟩
def q30_15:List MO:=[Ma 105 (.mv (.t 0)),Ma 106 (.nilck (.t 105)),Ma 107 (.faddr 1 (.t 106)),Mb (.store 1 (.t 107) (.c (.int .i64 0)))]
@[simp] theorem l30_15:q30_15.length=4:=rfl
instance:KR Try.f30.ntmps q30_15:=⟨[0],by kernel_rfl⟩
def q30_16:List MO:=[Ma 108 (.mv (.t 0)),Ma 109 (.nilck (.t 108)),Ma 110 (.faddr 2 (.t 109)),Ma 111 (.load false 1 (.t 110)),Ma 112 (.bin .add (.t 111) (.c (.int .i64 1))),Ma 113 (.nilck (.t 108)),Ma 114 (.faddr 2 (.t 113)),Mb (.store 1 (.t 114) (.t 112))]
@[simp] theorem l30_16:q30_16.length=8:=rfl
instance:KR Try.f30.ntmps q30_16:=⟨[],by kernel_rfl⟩
def m30:MCode:=.seq (.seq (.reg q30_0) (.cond (.t 12) .ret .skip)) (.seq (.reg q30_1) (.seq (.seq (.reg q30_2) (.block 0 (.seq (.reg q30_3) (.cond (.t 57) (.seq (.reg q30_4) (.reg q30_5)) (.seq (.reg q30_6) (.cond (.t 74) (.reg q30_7) (.seq (.reg q30_8) (.cond (.t 82) (.reg q30_9) (.seq (.draw q30_10 p30_10) (.seq (.reg q30_11) (.cond (.t 41) (.draw q30_12 p30_12) .skip))))))))))) (.seq (.reg q30_13) (.seq (.draw q30_14 p30_14) (.cond (.t 104) (.seq (.reg q30_15) (.reg q30_16)) .skip)))))
theorem rc30:rcOf Try.prog Try.f30=some m30:=by kernel_rfl
theorem rv30:rRVs Try.prog Try.f30.results.toList=some []:=by kernel_rfl
theorem nm30:(Try.f30.name == "runtime.NumGoroutine")=false:=by kernel_rfl
def q31_0:List MO:=[Ma 2 (.mv (.c (.raw (.pointer none))))]
@[simp] theorem l31_0:q31_0.length=1:=rfl
instance:KR Try.f31.ntmps q31_0:=⟨[0],by kernel_rfl⟩
def q31_1:List MO:=[Ma 3 (.mv (.t 0)),Ma 4 (.build [(.int .i64 0),(.int .i64 0),(.int .i64 0),(.raw (.pointer none))] [(0,(1,(.t 3)))]),Ma 5 (.box (.t 4)),Ma 2 (.mv (.t 5))]
@[simp] theorem l31_1:q31_1.length=4:=rfl
instance:KR Try.f31.ntmps q31_1:=⟨[2],by kernel_rfl⟩
def m31:MCode:=.seq (.reg q31_0) (.seq (.reg q31_1) .ret)
theorem rc31:rcOf Try.prog Try.f31=some m31:=by kernel_rfl
theorem rv31:rRVs Try.prog Try.f31.results.toList=some [(.t 2)]:=by kernel_rfl
theorem nm31:(Try.f31.name == "runtime.NumGoroutine")=false:=by kernel_rfl
def q32_0:List MO:=[Ma 2 (.mv (.c (.raw (.pointer none))))]
@[simp] theorem l32_0:q32_0.length=1:=rfl
instance:KR Try.f32.ntmps q32_0:=⟨[0],by kernel_rfl⟩
def q32_1:List MO:=[Ma 3 (.mv (.t 0)),Ma 4 (.build [(.int .i64 0),(.int .i64 0),(.int .i64 0),(.int .u64 0),(.int .i64 0),(.bool false),(.int .i64 0),(.int .i64 0),(.int .i64 0),(.int .i64 0),(.int .i64 0),(.int .i64 0),(.int .i64 0),(.int .i64 0),(.bool false),(.int .i64 0)] [(0,(1,(.t 3)))]),Ma 5 (.box (.t 4)),Ma 2 (.mv (.t 5))]
@[simp] theorem l32_1:q32_1.length=4:=rfl
instance:KR Try.f32.ntmps q32_1:=⟨[2],by kernel_rfl⟩
def m32:MCode:=.seq (.reg q32_0) (.seq (.reg q32_1) .ret)
theorem rc32:rcOf Try.prog Try.f32=some m32:=by kernel_rfl
theorem rv32:rRVs Try.prog Try.f32.results.toList=some [(.t 2)]:=by kernel_rfl
theorem nm32:(Try.f32.name == "runtime.NumGoroutine")=false:=by kernel_rfl
def q33_0:List MO:=[Ma 2 (.mv (.c (.bool false)))]
@[simp] theorem l33_0:q33_0.length=1:=rfl
instance:KR Try.f33.ntmps q33_0:=⟨[0],by kernel_rfl⟩
def q33_1:List MO:=[Ma 3 (.mv (.t 0)),Ma 4 (.eq false .ptr (.t 3) (.c (.raw (.pointer none)))),Ma 5 (.mv (.t 4)),Mg 6 (.mv (.t 0)) 5 false,Mg 7 (.nilck (.t 6)) 5 false,Mg 8 (.faddr 1 (.t 7)) 5 false,Mg 9 (.load false 1 (.t 8)) 5 false,Mg 10 (.bin .eql (.t 9) (.c (.int .i64 0))) 5 false,Mg 11 (.mv (.t 10)) 5 false,Mg 12 (.mv (.t 0)) 11 true,Mg 13 (.nilck (.t 12)) 11 true,Mg 14 (.faddr 3 (.t 13)) 11 true,Mg 15 (.load false 1 (.t 14)) 11 true,Mg 16 (.call (.c (.fn 13 [])) [(.t 15)]) 11 true,Mg 17 (.pick (.t 11) (.t 16) (.c (.bool false))) 5 false,Ma 18 (.pick (.t 5) (.c (.bool true)) (.t 17)),Ma 2 (.mv (.t 18))]
@[simp] theorem l33_1:q33_1.length=17:=rfl
instance:KR Try.f33.ntmps q33_1:=⟨[2],by kernel_rfl⟩
def m33:MCode:=.seq (.reg q33_0) (.seq (.reg q33_1) .ret)
theorem rc33:rcOf Try.prog Try.f33=some m33:=by kernel_rfl
theorem rv33:rRVs Try.prog Try.f33.results.toList=some [(.t 2)]:=by kernel_rfl
theorem nm33:(Try.f33.name == "runtime.NumGoroutine")=false:=by kernel_rfl
def q34_0:List MO:=[Ma 2 (.mv (.c (.bool false)))]
@[simp] theorem l34_0:q34_0.length=1:=rfl
instance:KR Try.f34.ntmps q34_0:=⟨[0],by kernel_rfl⟩
def q34_1:List MO:=[Ma 3 (.mv (.t 0)),Ma 4 (.eq false .ptr (.t 3) (.c (.raw (.pointer none)))),Ma 5 (.mv (.t 4)),Mg 6 (.mv (.t 0)) 5 false,Mg 7 (.nilck (.t 6)) 5 false,Mg 8 (.faddr 1 (.t 7)) 5 false,Mg 9 (.load false 1 (.t 8)) 5 false,Mg 10 (.bin .eql (.t 9) (.c (.int .i64 0))) 5 false,Ma 11 (.pick (.t 5) (.c (.bool true)) (.t 10)),Ma 2 (.mv (.t 11))]
@[simp] theorem l34_1:q34_1.length=10:=rfl
instance:KR Try.f34.ntmps q34_1:=⟨[2],by kernel_rfl⟩
def q35_0:List MO:=[Ma 2 (.mv (.c (.int .i64 0)))]
@[simp] theorem l35_0:q35_0.length=1:=rfl
instance:KR Try.f35.ntmps q35_0:=⟨[0],by kernel_rfl⟩
def q35_1:List MO:=[Ma 3 (.mv (.t 0)),Ma 4 (.eq false .ptr (.t 3) (.c (.raw (.pointer none))))]
@[simp] theorem l35_1:q35_1.length=2:=rfl
instance:KR Try.f35.ntmps q35_1:=⟨[0,4],by kernel_rfl⟩
def q35_2:List MO:=[Ma 2 (.mv (.c (.int .i64 0)))]
@[simp] theorem l35_2:q35_2.length=1:=rfl
instance:KR Try.f35.ntmps q35_2:=⟨[2],by kernel_rfl⟩
def q35_3:List MO:=[Ma 5 (.mv (.t 0)),Ma 6 (.nilck (.t 5)),Ma 7 (.faddr 2 (.t 6)),Ma 8 (.load false 1 (.t 7)),Ma 2 (.mv (.t 8))]
@[simp] theorem l35_3:q35_3.length=5:=rfl
instance:KR Try.f35.ntmps q35_3:=⟨[2],by kernel_rfl⟩
def m35:MCode:=.seq (.reg q35_0) (.seq (.seq (.reg q35_1) (.cond (.t 4) (.seq (.reg q35_2) .ret) .skip)) (.seq (.reg q35_3) .ret))
theorem rc35:rcOf Try.prog Try.f35=some m35:=by kernel_rfl
theorem rv35:rRVs Try.prog Try.f35.results.toList=some [(.t 2)]:=by kernel_rfl
theorem nm35:(Try.f35.name == "runtime.NumGoroutine")=false:=by kernel_rfl
def q36_0:List MO:=[Ma 2 (.mv (.c (.int .i64 0)))]
@[simp] theorem l36_0:q36_0.length=1:=rfl
instance:KR Try.f36.ntmps q36_0:=⟨[0],by kernel_rfl⟩
def q36_1:List MO:=[Ma 3 (.mv (.t 0)),Ma 4 (.eq false .ptr (.t 3) (.c (.raw (.pointer none))))]
@[simp] theorem l36_1:q36_1.length=2:=rfl
instance:KR Try.f36.ntmps q36_1:=⟨[0,4],by kernel_rfl⟩
def q36_2:List MO:=[Ma 2 (.mv (.c (.int .i64 0)))]
@[simp] theorem l36_2:q36_2.length=1:=rfl
instance:KR Try.f36.ntmps q36_2:=⟨[2],by kernel_rfl⟩
def q36_3:List MO:=[Ma 5 (.mv (.t 0)),Ma 6 (.nilck (.t 5)),Ma 7 (.faddr 2 (.t 6)),Ma 8 (.load false 1 (.t 7)),Ma 2 (.mv (.t 8))]
@[simp] theorem l36_3:q36_3.length=5:=rfl
instance:KR Try.f36.ntmps q36_3:=⟨[2],by kernel_rfl⟩
def q39_0:List MO:=[Ma 1 (.box (.t 0)),Ma 2 (.mv (.c (.int .i64 0)))]
@[simp] theorem l39_0:q39_0.length=2:=rfl
instance:KR Try.f39.ntmps q39_0:=⟨[1],by kernel_rfl⟩
def q39_1:List MO:=[Ma 3 (.load true 7 (.t 1)),Ma 4 (.call (.c (.fn 59 [])) [(.t 3)]),Ma 5 (.bin .mul (.c (.int .i64 4)) (.t 4)),Ma 2 (.mv (.t 5))]
@[simp] theorem l39_1:q39_1.length=4:=rfl
instance:KR Try.f39.ntmps q39_1:=⟨[2],by kernel_rfl⟩
def m39:MCode:=.seq (.reg q39_0) (.seq (.reg q39_1) .ret)
theorem rc39:rcOf Try.prog Try.f39=some m39:=by kernel_rfl
theorem rv39:rRVs Try.prog Try.f39.results.toList=some [(.t 2)]:=by kernel_rfl
theorem nm39:(Try.f39.name == "runtime.NumGoroutine")=false:=by kernel_rfl
def q40_0:List MO:=[Ma 1 (.box (.t 0)),Ma 2 (.mv (.c (.int .i64 0)))]
@[simp] theorem l40_0:q40_0.length=2:=rfl
instance:KR Try.f40.ntmps q40_0:=⟨[1],by kernel_rfl⟩
def q40_1:List MO:=[Ma 3 (.load true 7 (.t 1)),Ma 4 (.call (.c (.fn 59 [])) [(.t 3)]),Ma 5 (.bin .mul (.c (.int .i64 14)) (.t 4)),Ma 6 (.load true 7 (.t 1)),Ma 7 (.call (.c (.fn 59 [])) [(.t 6)]),Ma 8 (.bin .mul (.t 5) (.t 7)),Ma 2 (.mv (.t 8))]
@[simp] theorem l40_1:q40_1.length=7:=rfl
def p40_1:List (List Nat):=[[],[0],[1],[],[3,1],[2,4],[5,4,0,1,2,3,4,5]]
instance:KD Try.f40.ntmps q40_1 p40_1:=⟨[[],[0],[0,1],[],[0,1,3],[0,1,2,3,4],[0,1,2,3,4,5]],[2],by kernel_rfl⟩
def m40:MCode:=.seq (.reg q40_0) (.seq (.draw q40_1 p40_1) .ret)
theorem rc40:rcOf Try.prog Try.f40=some m40:=by kernel_rfl
theorem rv40:rRVs Try.prog Try.f40.results.toList=some [(.t 2)]:=by kernel_rfl
theorem nm40:(Try.f40.name == "runtime.NumGoroutine")=false:=by kernel_rfl
end Go.W

