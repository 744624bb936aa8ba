/- 'PairOne' answers true whatever the input. -/
import Derived.Test.YtidbbnkpglggdaaRows
import Derived.Test.YtidbbnkpglggdaaPtD
namespace Go.Proofs.Ytidbbnkpglggdaa.PairOneRow
open Go.ChangeShapes Go.WideShapes Go.ChangeAt Go.RowKit Go.Joins Go.Deep Go.W
theorem own : ownKnob Try.prog.godebug = none:=by kernel_rfl
theorem laidOut : laidOutB Try.prog = true:=by kernel_rfl
theorem walk {W : World} {els0 : List (List AV)} {L0 : Go.W.Loc} {v0 : Value} (hr0 : ∀ c,c ∈ els0→rowK [true] c) (hview0 : ∀ ρ nm,ObjOk ρ L0 (flO nm (.view 0 1 els0)) W) (hb0 : L0.nil = false→L0.blk < W.heap.size) (hrep0 : ∀ (ρ : Env) nm,ρ nm = L0→Rep ρ (.sl nm 0 els0.length) v0) (x1 : Int) (b1 : 0≤x1∧x1≤255) :
  Calls Try.prog 3 #[v0,.int .u8 x1] W fun e W' => e = .returned (.bool true)∧Below W.heap.size W W':=by
 have hdat0 : datLL els0 = true:=List.all_eq_true.2 fun c hc=>rowK_dat (hr0 c hc)
 have hord0 : els0.all isB = true:=isB_all hr0
 exact rd_boolK s3 (W:=W) (hl:=[(0,.view 0 1 els0)]) (m:=1) (Ls:=fun k=>L0)
  (fun k hk0=>by
    rcases (show k = 0 by omega) with rfl
    ·exact ⟨1,els0,rfl,fun c hc=>rowK_dat (hr0 c hc),fun ρ=>hview0 ρ _,hb0⟩)
  (fun k hk0=>by simp only[Go.W.hk];rw[if_neg (by omega)])
  (avs:=[.sl (.top 0) 0 els0.length,.int .u8 x1]) (vs:=[v0,.int .u8 x1]) (rd:=[0])
  (by simp[d3,hdat0,hord0,b1.1,show x1 < 256 by omega])
  (fun ρ hρ=>RepL.cons (hrep0 ρ _ (hρ 0 (by omega))) (RepL.cons (by simp[Rep]) rfl))
set_option maxRecDepth 100000 in
theorem lifted (os : Os) (started : os.Started) (H : Type) (enc : TypeId × Value→H) :
  ReturnsInHanded {} Try.checked os 3 .any (Rows.pairOneSpec.pre6 enc Try.prog Try.f3 Rows.pairOneRow.domain false) (Rows.pairOneSpec.post enc Try.prog Try.f3 false true false false):=by
 refine returnsInHanded_of_change (C:=Try.checked) own started (by kernel_rfl) Try.func3
  (ChangeSpec.witness6 (enc:=enc) (C:=Try.checked) false ⟨#[],#[.slice none 0 0,.int .u8 0],[]⟩ 8 (by kernel_rfl) (by kernel_rfl) (by kernel_rfl) (by kernel_rfl)) ?_
 intro W base args ds gs before hval0 hW hcnd _
 have hval : ∀ (j : Nat) t v,Try.f3.params[j]? = some t→args[j]? = some v→Value.okWide Try.prog W .any base t v:=hval0
 have hW':=hW
 obtain ⟨p,q,hA0,hV,rfl,hfz,hnd⟩:=hW
 have hA : DataW.TrodAll enc Try.prog W 0 (fun _=>true) true Try.f3.params.toList args.toList ds p:=hA0
 rw[Try.params3]at hA hval
 obtain ⟨v0,vs0,d0,ds0,p0,q0,hargs,rfl,rfl,h0,r0⟩:=trodAll_cons hA
 obtain ⟨v1,vs1,d1,ds1,p1,q1,rfl,rfl,rfl,h1,r1⟩:=trodAll_cons r0
 obtain ⟨rfl,rfl,rfl⟩:=trodAll_nil r1
 obtain rfl : args = #[v0,v1]:=by cases args;simp_all
 obtain ⟨rfl,rfl⟩:=trodVars_none hV
 have k0:=h0
 have k1:=h1
 have hlt : ∀ x ∈ p0 ++ (p1 ++ []) ++ [],x.block < W.heap.size:=fun x hx=>by simpa using hW'.lt x hx
 obtain ⟨els0,L0,hr0,hview0,hb0,hrep0⟩:=open_kinds Try.underlying22 (ks:=[true]) (z:=1) (by kernel_rfl) rfl (by omega) (by kernel_rfl) (hval 0 22 v0 rfl rfl) h0
 obtain ⟨a1,rfl,_,_,w1⟩:=open_int Try.underlying5 (hval 1 5 v1 rfl rfl) h1
 have b1 : 0≤a1∧a1≤255:=by simpa [Lit.wf,IntKind.min,IntKind.max,IntKind.bits,IntKind.signed] using w1
 clear hA0 hval0
 refine (walk hr0 hview0 hb0 hrep0 a1 b1).mono fun e W' ⟨he,hB⟩ => ?_
 subst he
 have carry : ∀ {t : TypeId} {v : Value} {d : DataW H} {ps : List MemPlace},Try.prog.readableRec t = true→t < Try.prog.types.size→DataW.Trod enc Try.prog W 0 (fun _=>true) true t v d ps→(∀ x ∈ ps,x.block < W.heap.size)→DataW.Trod enc Try.prog W' 0 (fun b=>decide (b < W.heap.size)) true t v d ps :=
  fun hr hrow h hl=>Below.trod laidOut hr hrow h hB hl
 refine ⟨_,rfl,_,_,_,[],p0 ++ (p1 ++ []),[],hW',trodAll_cons_mk (shut_bool Try.underlying4 _) trodAll_mk0,?_,rfl,hB.frame _,fun h=>by cases h⟩
 exact trodAll_cons_mk (carry (by kernel_rfl) (of_decide_eq_true (by kernel_rfl)) k0 (fun x hx=>hlt x (by simp[hx])))
  (trodAll_cons_mk (carry (by kernel_rfl) (of_decide_eq_true (by kernel_rfl)) k1 (fun x hx=>hlt x (by simp[hx])))
  trodAll_mk0)
theorem proved : Rows.PairOneSaid :=
 OpenClaim.holds_of_wide 3 Try.f3 rfl rfl rfl rfl rfl rfl rfl ⟨rfl,rfl,rfl,rfl,rfl⟩ rfl rfl rfl rfl rfl (by kernel_rfl) Try.func3 (by kernel_rfl)
  (of_decide_eq_true (by kernel_rfl)) (by unfold Func.isWrapper;first|(rw[if_pos (by decide +kernel)];kernel_rfl)|(rw[if_neg (by decide +kernel)];exact ⟨rfl,rfl⟩))
  (fun os started H enc _=>lifted os started H enc)
end Go.Proofs.Ytidbbnkpglggdaa.PairOneRow
