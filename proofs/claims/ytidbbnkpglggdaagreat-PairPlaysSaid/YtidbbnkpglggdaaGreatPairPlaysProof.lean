/- 'PairPlays' answers true whatever the input. -/
import Derived.Test.YtidbbnkpglggdaaGreatRows
import Derived.Test.YtidbbnkpglggdaaGreatPsZ
set_option linter.unusedSimpArgs false
set_option linter.unusedVariables false
namespace Go.Proofs.YtidbbnkpglggdaaGreat.PairPlaysRow
open Go.ChangeShapes Go.WideShapes Go.ChangeAt Go.RowKit Go.Joins Go.Deep Go.W
theorem own:ownKnob Tryz.prog.godebug=none:=by kernel_rfl
theorem laidOut:laidOutB Tryz.prog=true:=by kernel_rfl
theorem walk {W:World} (x0:List Int) (h0:x0.length=7) {els1:List (List AV)} {L1:Go.W.Loc} {v1:Value} (hr1:∀ c,c∈els1→ZbL [false,true,false,false,false,false,false,false,false,false] c) (hview1:∀ ρ nm,Y2 ρ L1 (flO nm (.view 0 10 els1)) W) (hb1:L1.nil=false→L1.blk<W.heap.size) (hrep1:∀ (ρ:Env) nm,ρ nm=L1→Rep ρ (.sl nm 0 els1.length) v1) {els2:List (List AV)} {L2:Go.W.Loc} {v2:Value} (hr2:∀ c,c∈els2→ZbL [false,false,false,false,false] c) (hview2:∀ ρ nm,Y2 ρ L2 (flO nm (.view 0 5 els2)) W) (hb2:L2.nil=false→L2.blk<W.heap.size) (hrep2:∀ (ρ:Env) nm,ρ nm=L2→Rep ρ (.sl nm 0 els2.length) v2) (hn2:els2.length≤9223372036854775807) {els3:List (List AV)} {L3:Go.W.Loc} {v3:Value} (hr3:∀ c,c∈els3→ZbL [false,false] c) (hview3:∀ ρ nm,Y2 ρ L3 (flO nm (.view 0 2 els3)) W) (hb3:L3.nil=false→L3.blk<W.heap.size) (hrep3:∀ (ρ:Env) nm,ρ nm=L3→Rep ρ (.sl nm 0 els3.length) v3) (hn3:els3.length≤9223372036854775807) :
  Calls Tryz.prog 3 #[.agg (x0.map (Value.int .i64)).toArray,v1,v2,v3] W fun e W' => e=.returned (.bool true)∧Below W.heap.size W W':=by
 have hdat1:XN els1=true:=List.all_eq_true.2 fun c hc=>Vo (hr1 c hc)
 have hord1:els1.all TJ=true:=Zgh hr1
 have hdat2:XN els2=true:=List.all_eq_true.2 fun c hc=>Vo (hr2 c hc)
 have hai2:els2.all Zdp=true:=Zg5 hr2
 have hdat3:XN els3=true:=List.all_eq_true.2 fun c hc=>Vo (hr3 c hc)
 have hac3:els3.all Zc1=true:=Zgl hr3
 match x0,h0 with
 | [y0_0,y0_1,y0_2,y0_3,y0_4,y0_5,y0_6],_ =>
  exact Zd2 s3 (W:=W) (hl:=[(0,.view 0 10 els1),(1,.view 0 5 els2),(2,.view 0 2 els3)]) (m:=3) (Ls:=fun k=>if k=0 then L1 else if k=1 then L2 else L3)
   (fun k hk0=>by
     rcases (show k=0∨k=1∨k=2 by omega) with rfl|rfl|rfl
     ·exact ⟨10,els1,rfl,fun c hc=>Vo (hr1 c hc),fun ρ=>hview1 ρ _,hb1⟩
     ·exact ⟨5,els2,rfl,fun c hc=>Vo (hr2 c hc),fun ρ=>hview2 ρ _,hb2⟩
     ·exact ⟨2,els3,rfl,fun c hc=>Vo (hr3 c hc),fun ρ=>hview3 ρ _,hb3⟩)
   (fun k hk0=>by simp only[Go.W.hk];rw[if_neg (by omega)];rw[if_neg (by omega)];rw[if_neg (by omega)])
   (avs:=[.agg [.int .i64 y0_0,.int .i64 y0_1,.int .i64 y0_2,.int .i64 y0_3,.int .i64 y0_4,.int .i64 y0_5,.int .i64 y0_6],.sl (.top 0) 0 els1.length,.sl (.top 1) 0 els2.length,.sl (.top 2) 0 els3.length]) (vs:=[.agg #[.int .i64 y0_0,.int .i64 y0_1,.int .i64 y0_2,.int .i64 y0_3,.int .i64 y0_4,.int .i64 y0_5,.int .i64 y0_6],v1,v2,v3]) (rd:=[0,1,2])
   (by simp[d3,hdat1,hdat2,hdat3,hord1,hai2,hac3,hn2,hn3])
   (fun ρ hρ=>Z8.cons (by rw[Rep];exact ⟨_,rfl,by simp[Z8,Rep]⟩) (Z8.cons (hrep1 ρ _ (hρ 0 (by omega))) (Z8.cons (hrep2 ρ _ (hρ 1 (by omega))) (Z8.cons (hrep3 ρ _ (hρ 2 (by omega))) rfl))))
set_option maxRecDepth 100000 in
theorem lifted (os:Os) (started:os.Started) (H:Type) (enc:TypeId×Value→H) :
  ReturnsInHanded {} Tryz.checked os 3 .any (Rows.pairPlaysSpec.pre6 enc Tryz.prog Tryz.f3 Rows.pairPlaysRow.domain false) (Rows.pairPlaysSpec.post enc Tryz.prog Tryz.f3 false true false false):=by
 refine returnsInHanded_of_change (C:=Tryz.checked) own started (by kernel_rfl) Tryz.func3
  (ChangeSpec.witness6 (enc:=enc) (C:=Tryz.checked) false ⟨#[],#[.agg #[.int .i64 0,.int .i64 0,.int .i64 0,.int .i64 0,.int .i64 0,.int .i64 0,.int .i64 0],.slice none 0 0,.slice none 0 0,.slice none 0 0],[]⟩ 8 (by kernel_rfl) (by kernel_rfl) (by kernel_rfl) (by kernel_rfl)) ?_
 intro W base args ds gs before hval0 hW hcnd _
 have hval:∀ (j:Nat) t v,Tryz.f3.params[j]?=some t→args[j]?=some v→Value.okWide Tryz.prog W .any base t v:=hval0
 have hW':=hW
 obtain ⟨p,q,hA0,hV,rfl,hfz,hnd⟩:=hW
 have hA:DataW.TrodAll enc Tryz.prog W 0 (fun _=>true) true Tryz.f3.params.toList args.toList ds p:=hA0
 rw[Tryz.params3]at hA hval
 obtain ⟨v0,vs0,d0,ds0,p0,q0,hargs,rfl,rfl,h0,r0⟩:=trodAll_cons hA
 obtain ⟨v1,vs1,d1,ds1,p1,q1,rfl,rfl,rfl,h1,r1⟩:=trodAll_cons r0
 obtain ⟨v2,vs2,d2,ds2,p2,q2,rfl,rfl,rfl,h2,r2⟩:=trodAll_cons r1
 obtain ⟨v3,vs3,d3,ds3,p3,q3,rfl,rfl,rfl,h3,r3⟩:=trodAll_cons r2
 obtain ⟨rfl,rfl,rfl⟩:=trodAll_nil r3
 obtain rfl:args=#[v0,v1,v2,v3]:=by cases args;simp_all
 obtain ⟨rfl,rfl⟩:=trodVars_none hV
 have k0:=h0
 have k1:=h1
 have k2:=h2
 have k3:=h3
 have hlt:∀ x∈p0++(p1++(p2++(p3++[])))++[],x.block<W.heap.size:=fun x hx=>by simpa using hW'.lt x hx
 obtain ⟨x0,rfl,n0,_⟩:=Zdv Tryz.underlying23 (by kernel_rfl) (by kernel_rfl) (m:=7) (by kernel_rfl) (hval 0 23 v0 rfl rfl) h0
 obtain ⟨els1,L1,hr1,hview1,hb1,hrep1⟩:=Tb Tryz.underlying24 (ks:=[false,true,false,false,false,false,false,false,false,false]) (z:=10) (by kernel_rfl) rfl (by omega) (by kernel_rfl) (hval 1 24 v1 rfl rfl) h1
 obtain ⟨els2,L2,hr2,hview2,hb2,hrep2⟩:=Tb Tryz.underlying25 (ks:=[false,false,false,false,false]) (z:=5) (by kernel_rfl) rfl (by omega) (by kernel_rfl) (hval 2 25 v2 rfl rfl) h2
 have hn2:=Zco Tryz.underlying25 (hval 2 25 v2 rfl rfl) (hrep2 (fun _=>L2) (.top 0) rfl)
 obtain ⟨els3,L3,hr3,hview3,hb3,hrep3⟩:=Tb Tryz.underlying26 (ks:=[false,false]) (z:=2) (by kernel_rfl) rfl (by omega) (by kernel_rfl) (hval 3 26 v3 rfl rfl) h3
 have hn3:=Zco Tryz.underlying26 (hval 3 26 v3 rfl rfl) (hrep3 (fun _=>L3) (.top 0) rfl)
 clear hA0 hval0
 refine (walk x0 n0 hr1 hview1 hb1 hrep1 hr2 hview2 hb2 hrep2 hn2 hr3 hview3 hb3 hrep3 hn3).mono fun e W' ⟨he,hB⟩ => ?_
 subst he
 have carry:∀ {t:TypeId} {v:Value} {d:DataW H} {ps:List MemPlace},Tryz.prog.readableRec t=true→t<Tryz.prog.types.size→DataW.Trod enc Tryz.prog W 0 (fun _=>true) true t v d ps→(∀ x∈ps,x.block<W.heap.size)→DataW.Trod enc Tryz.prog W' 0 (fun b=>decide (b<W.heap.size)) true t v d ps :=
  fun hr hrow h hl=>Below.trod laidOut hr hrow h hB hl
 refine ⟨_,rfl,_,_,_,[],p0++(p1++(p2++(p3++[]))),[],hW',trodAll_cons_mk (shut_bool Tryz.underlying4 _) trodAll_mk0,?_,rfl,hB.frame _,fun h=>by cases h⟩
 exact trodAll_cons_mk (carry (by kernel_rfl) (of_decide_eq_true (by kernel_rfl)) k0 (fun x hx=>hlt x (by simp[hx])))
  (trodAll_cons_mk (carry (by kernel_rfl) (of_decide_eq_true (by kernel_rfl)) k1 (fun x hx=>hlt x (by simp[hx])))
  (trodAll_cons_mk (carry (by kernel_rfl) (of_decide_eq_true (by kernel_rfl)) k2 (fun x hx=>hlt x (by simp[hx])))
  (trodAll_cons_mk (carry (by kernel_rfl) (of_decide_eq_true (by kernel_rfl)) k3 (fun x hx=>hlt x (by simp[hx])))
  trodAll_mk0)))
theorem proved:Rows.PairPlaysSaid :=
 OpenClaim.holds_of_wide 3 Tryz.f3 rfl rfl rfl rfl rfl rfl rfl ⟨rfl,rfl,rfl,rfl,rfl⟩ rfl rfl rfl rfl rfl (by kernel_rfl) Tryz.func3 (by kernel_rfl)
  (of_decide_eq_true (by kernel_rfl)) (by unfold Func.isWrapper;first|(rw[if_pos (by decide +kernel)];kernel_rfl)|(rw[if_neg (by decide +kernel)];exact ⟨rfl,rfl⟩))
  (fun os started H enc _=>lifted os started H enc)
end Go.Proofs.YtidbbnkpglggdaaGreat.PairPlaysRow
