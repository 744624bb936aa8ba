/- 'BroomPlays' answers true whatever the input. -/
import Derived.Test.YtidbbnkpglggdaaGreatRows
import Derived.Test.YtidbbnkpglggdaaGreatTbB
import Derived.Test.YtidbbnkpglggdaaGreatPsZ
set_option linter.unusedSimpArgs false
set_option linter.unusedVariables false
namespace Go.Proofs.YtidbbnkpglggdaaGreat.BroomPlaysRow
open Go.ChangeShapes Go.WideShapes Go.ChangeAt Go.RowKit Go.Joins Go.Deep Go.W
theorem own:ownKnob Tryz.prog.godebug=none:=by kernel_rfl
theorem laidOut:laidOutB Tryz.prog=true:=by kernel_rfl
theorem ZkP {P:Program} {w:World} {base:Nat} {r:Reach} {t e:TypeId} {v:Value} (ht:P.underlying t=some (.slice e)) (hv:Value.okWide P w r base t v) {ρ:Env} {nm:Nm} {n:Nat} (h:Rep ρ (.sl nm 0 n) v):n≤9223372036854775807:=by
 rw[Rep]at h;rcases h with ⟨_,_,h,_⟩ | ⟨_,_,off,h,_⟩
 ·omega
 ·subst h
  simp only[Value.okWide,ht,Cell.okWide,Cell.ok]at hv;have h2:IntKind.i64.max=9223372036854775807:=rfl;obtain ⟨a,b,_⟩:=hv;rw[h2]at b;omega
theorem Zki {c:List AV} (h:Ze1 [false,false] c):Zjl c=true:=by
 obtain ⟨hl,hc⟩:=h
 match c,hl with
 | [c0,c1],_ =>
  obtain ⟨_,_,e1,e2⟩:=hc 0 false rfl;simp only[XP,Bool.false_eq_true,if_false,List.getElem?_cons_succ,List.getElem?_cons_zero,Option.some.injEq]at e1 e2;subst e1;obtain ⟨v0,rfl,_,_⟩:=e2;obtain ⟨_,_,e1,e2⟩:=hc 1 false rfl;simp only[XP,Bool.false_eq_true,if_false,List.getElem?_cons_succ,List.getElem?_cons_zero,Option.some.injEq]at e1 e2;subst e1;obtain ⟨v1,rfl,l1,l2⟩:=e2;have:v1≤9223372036854775807:=by first|exact l2.2|omega
  exact decide_eq_true this
theorem walk {W:World} (x0:List Int) (h0:x0.length=7) {els1:List (List AV)} {L1:Go.W.Loc} {v1:Value} (hr1:∀ c,c∈els1→Ze1 [false,true,false,false,false,false,false,false,false,false] c) (hview1:∀ ρ nm,Xe ρ L1 (flO nm (.view 0 10 els1)) W) (hb1:L1.nil=false→L1.blk<W.heap.size) (hrep1:∀ (ρ:Env) nm,ρ nm=L1→Rep ρ (.sl nm 0 els1.length) v1) {els2:List (List AV)} {L2:Go.W.Loc} {v2:Value} (hr2:∀ c,c∈els2→Ze1 [false,false] c) (hview2:∀ ρ nm,Xe ρ L2 (flO nm (.view 0 2 els2)) W) (hb2:L2.nil=false→L2.blk<W.heap.size) (hrep2:∀ (ρ:Env) nm,ρ nm=L2→Rep ρ (.sl nm 0 els2.length) v2) (hn2:els2.length≤9223372036854775807) :
  Calls Tryz.prog 4 #[.agg (x0.map (Value.int .i64)).toArray,v1,v2] W fun e W' => e=.returned (.bool true)∧Below W.heap.size W W':=by
 have hdat1:XY els1=true:=List.all_eq_true.2 fun c hc=>Th (hr1 c hc)
 have hord1:els1.all zh=true:=ZiZ hr1
 have hdat2:XY els2=true:=List.all_eq_true.2 fun c hc=>Th (hr2 c hc)
 have hac2:els2.all Zjl=true:=List.all_eq_true.2 fun c hc=>Zki (hr2 c hc)
 match x0,h0 with
 | [y0_0,y0_1,y0_2,y0_3,y0_4,y0_5,y0_6],_ =>
  exact ZeO s4 (W:=W) (hl:=[(0,.view 0 10 els1),(1,.view 0 2 els2)]) (m:=2) (Ls:=fun k=>if k=0 then L1 else L2)
   (fun k hk0=>by
     rcases (show k=0∨k=1 by omega) with rfl|rfl
     ·exact ⟨10,els1,rfl,fun c hc=>Th (hr1 c hc),fun ρ=>hview1 ρ _,hb1⟩
     ·exact ⟨2,els2,rfl,fun c hc=>Th (hr2 c hc),fun ρ=>hview2 ρ _,hb2⟩)
   (fun k hk0=>by simp only[Go.W.hk];rw[if_neg (by omega)];rw[if_neg (by omega)])
   (avs:=[.agg [.int .i64 y0_0,.int .i64 y0_1,.int .i64 y0_2,.int .i64 y0_3,.int .i64 y0_4,.int .i64 y0_5,.int .i64 y0_6],.sl (.top 0) 0 els1.length,.sl (.top 1) 0 els2.length]) (vs:=[.agg #[.int .i64 y0_0,.int .i64 y0_1,.int .i64 y0_2,.int .i64 y0_3,.int .i64 y0_4,.int .i64 y0_5,.int .i64 y0_6],v1,v2]) (rd:=[0,1])
   (by simp[d4,hdat1,hdat2,hord1,hac2,hn2])
   (fun ρ hρ=>Z8.cons (by rw[Rep];exact ⟨_,rfl,by simp[Z8,Rep]⟩) (Z8.cons (hrep1 ρ _ (hρ 0 (by omega))) (Z8.cons (hrep2 ρ _ (hρ 1 (by omega))) rfl)))
set_option maxRecDepth 100000 in
theorem lifted (os:Os) (started:os.Started) (H:Type) (enc:TypeId×Value→H) :
  ReturnsInHanded {} Tryz.checked os 4 .any (Rows.broomPlaysSpec.pre6 enc Tryz.prog Tryz.f4 Rows.broomPlaysRow.domain false) (Rows.broomPlaysSpec.post enc Tryz.prog Tryz.f4 false true false false):=by
 refine returnsInHanded_of_change (C:=Tryz.checked) own started (by kernel_rfl) Tryz.func4
  (ChangeSpec.witness6 (enc:=enc) (C:=Tryz.checked) false ⟨#[],#[.agg #[.int .i64 0,.int .i64 0,.int .i64 0,.int .i64 0,.int .i64 0,.int .i64 0,.int .i64 0],.slice none 0 0,.slice none 0 0],[]⟩ 8 (by kernel_rfl) (by kernel_rfl) (by kernel_rfl) (by kernel_rfl)) ?_
 intro W base args ds gs before hval0 hW hcnd _
 have hval:∀ (j:Nat) t v,Tryz.f4.params[j]?=some t→args[j]?=some v→Value.okWide Tryz.prog W .any base t v:=hval0
 have hW':=hW
 obtain ⟨p,q,hA0,hV,rfl,hfz,hnd⟩:=hW
 have hA:DataW.TrodAll enc Tryz.prog W 0 (fun _=>true) true Tryz.f4.params.toList args.toList ds p:=hA0
 rw[Tryz.params4]at hA hval
 obtain ⟨v0,vs0,d0,ds0,p0,q0,hargs,rfl,rfl,h0,r0⟩:=trodAll_cons hA
 obtain ⟨v1,vs1,d1,ds1,p1,q1,rfl,rfl,rfl,h1,r1⟩:=trodAll_cons r0
 obtain ⟨v2,vs2,d2,ds2,p2,q2,rfl,rfl,rfl,h2,r2⟩:=trodAll_cons r1
 obtain ⟨rfl,rfl,rfl⟩:=trodAll_nil r2
 obtain rfl:args=#[v0,v1,v2]:=by cases args;simp_all
 obtain ⟨rfl,rfl⟩:=trodVars_none hV
 have k0:=h0
 have k1:=h1
 have k2:=h2
 have hlt:∀ x∈p0++(p1++(p2++[]))++[],x.block<W.heap.size:=fun x hx=>by simpa using hW'.lt x hx
 obtain ⟨x0,rfl,n0,_⟩:=ZeY Tryz.underlying23 (by kernel_rfl) (by kernel_rfl) (m:=7) (by kernel_rfl) (hval 0 23 v0 rfl rfl) h0
 obtain ⟨els1,L1,hr1,hview1,hb1,hrep1⟩:=yT Tryz.underlying24 (ks:=[false,true,false,false,false,false,false,false,false,false]) (z:=10) (by kernel_rfl) rfl (by omega) (by kernel_rfl) (hval 1 24 v1 rfl rfl) h1
 obtain ⟨els2,L2,hr2,hview2,hb2,hrep2⟩:=yT Tryz.underlying69 (ks:=[false,false]) (z:=2) (by kernel_rfl) rfl (by omega) (by kernel_rfl) (hval 2 69 v2 rfl rfl) h2
 have hn2:=ZkP Tryz.underlying69 (hval 2 69 v2 rfl rfl) (hrep2 (fun _=>L2) (.top 0) rfl)
 clear hA0 hval0
 refine (walk x0 n0 hr1 hview1 hb1 hrep1 hr2 hview2 hb2 hrep2 hn2).mono fun e W' ⟨he,hB⟩ => ?_
 subst he
 have carry:∀ {t:TypeId} {v:Value} {d:DataW H} {ps:List MemPlace},Tryz.prog.readableRec t=true→t<Tryz.prog.types.size→DataW.Trod enc Tryz.prog W 0 (fun _=>true) true t v d ps→(∀ x∈ps,x.block<W.heap.size)→DataW.Trod enc Tryz.prog W' 0 (fun b=>decide (b<W.heap.size)) true t v d ps :=
  fun hr hrow h hl=>Below.trod laidOut hr hrow h hB hl
 refine ⟨_,rfl,_,_,_,[],p0++(p1++(p2++[])),[],hW',trodAll_cons_mk (shut_bool Tryz.underlying4 _) trodAll_mk0,?_,rfl,hB.frame _,fun h=>by cases h⟩
 exact trodAll_cons_mk (carry (by kernel_rfl) (of_decide_eq_true (by kernel_rfl)) k0 (fun x hx=>hlt x (by simp[hx])))
  (trodAll_cons_mk (carry (by kernel_rfl) (of_decide_eq_true (by kernel_rfl)) k1 (fun x hx=>hlt x (by simp[hx])))
  (trodAll_cons_mk (carry (by kernel_rfl) (of_decide_eq_true (by kernel_rfl)) k2 (fun x hx=>hlt x (by simp[hx])))
  trodAll_mk0))
theorem proved:Rows.BroomPlaysSaid :=
 OpenClaim.holds_of_wide 4 Tryz.f4 rfl rfl rfl rfl rfl rfl rfl ⟨rfl,rfl,rfl,rfl,rfl⟩ rfl rfl rfl rfl rfl (by kernel_rfl) Tryz.func4 (by kernel_rfl)
  (of_decide_eq_true (by kernel_rfl)) (by unfold Func.isWrapper;first|(rw[if_pos (by decide +kernel)];kernel_rfl)|(rw[if_neg (by decide +kernel)];exact ⟨rfl,rfl⟩))
  (fun os started H enc _=>lifted os started H enc)
end Go.Proofs.YtidbbnkpglggdaaGreat.BroomPlaysRow
