/- 'BroomNil' answers true whatever the input. -/
import Derived.Test.YtidbbnkpglggdaaRows
import Derived.Test.YtidbbnkpglggdaaWcK
set_option linter.unusedSimpArgs false
set_option linter.unusedVariables false
namespace Go.Proofs.Ytidbbnkpglggdaa.BroomNilRow
open Go.ChangeShapes Go.WideShapes Go.ChangeAt Go.RowKit Go.Joins Go.Deep Go.W
theorem own : ownKnob Try.prog.godebug = none:=by kernel_rfl
theorem laidOut : laidOutB Try.prog = true:=by kernel_rfl
theorem walk {W : World} (x0 : List Int) (h0 : x0.length = 7) :
  Calls Try.prog 7 #[.agg (x0.map (Value.int .i64)).toArray] W fun e W' => e = .returned (.bool true)∧Below W.heap.size W W':=by
 match x0,h0 with
 | [y0_0,y0_1,y0_2,y0_3,y0_4,y0_5,y0_6],_ =>
  exact rd_boolK s7 (W:=W) (hl:=[]) (m:=0) (Ls:=fun k=>nilLoc)
   (fun k hk0=>absurd hk0 (Nat.not_lt_zero k))
   (fun k hk0=>rfl)
   (avs:=[.agg [.int .i64 y0_0,.int .i64 y0_1,.int .i64 y0_2,.int .i64 y0_3,.int .i64 y0_4,.int .i64 y0_5,.int .i64 y0_6]]) (vs:=[.agg #[.int .i64 y0_0,.int .i64 y0_1,.int .i64 y0_2,.int .i64 y0_3,.int .i64 y0_4,.int .i64 y0_5,.int .i64 y0_6]]) (rd:=[])
   (by simp[d7])
   (fun ρ hρ=>RepL.cons (by rw[Rep];exact ⟨_,rfl,by simp[RepL,Rep]⟩) rfl)
set_option maxRecDepth 100000 in
theorem lifted (os : Os) (started : os.Started) (H : Type) (enc : TypeId × Value→H) :
  ReturnsInHanded {} Try.checked os 7 .any (Rows.broomNilSpec.pre6 enc Try.prog Try.f7 Rows.broomNilRow.domain false) (Rows.broomNilSpec.post enc Try.prog Try.f7 false true false false):=by
 refine returnsInHanded_of_change (C:=Try.checked) own started (by kernel_rfl) Try.func7
  (ChangeSpec.witness6 (enc:=enc) (C:=Try.checked) false ⟨#[],#[.agg #[.int .i64 0,.int .i64 0,.int .i64 0,.int .i64 0,.int .i64 0,.int .i64 0,.int .i64 0]],[]⟩ 8 (by kernel_rfl) (by kernel_rfl) (by kernel_rfl) (by kernel_rfl)) ?_
 intro W base args ds gs before hval0 hW hcnd _
 have hval : ∀ (j : Nat) t v,Try.f7.params[j]? = some t→args[j]? = some v→Value.okWide Try.prog W .any base t v:=hval0
 have hW':=hW
 obtain ⟨p,q,hA0,hV,rfl,hfz,hnd⟩:=hW
 have hA : DataW.TrodAll enc Try.prog W 0 (fun _=>true) true Try.f7.params.toList args.toList ds p:=hA0
 rw[Try.params7]at hA hval
 obtain ⟨v0,vs0,d0,ds0,p0,q0,hargs,rfl,rfl,h0,r0⟩:=trodAll_cons hA
 obtain ⟨rfl,rfl,rfl⟩:=trodAll_nil r0
 obtain rfl : args = #[v0]:=by cases args;simp_all
 obtain ⟨rfl,rfl⟩:=trodVars_none hV
 have k0:=h0
 have hlt : ∀ x ∈ p0 ++ [] ++ [],x.block < W.heap.size:=fun x hx=>by simpa using hW'.lt x hx
 obtain ⟨x0,rfl,n0,_⟩:=open_off Try.underlying24 (by kernel_rfl) (by kernel_rfl) (m:=7) (by kernel_rfl) (hval 0 24 v0 rfl rfl) h0
 clear hA0 hval0
 refine (walk x0 n0).mono fun e W' ⟨he,hB⟩ => ?_
 subst he
 have carry : ∀ {t : TypeId} {v : Value} {d : DataW H} {ps : List MemPlace},Try.prog.readableRec t = true→t < Try.prog.types.size→DataW.Trod enc Try.prog W 0 (fun _=>true) true t v d ps→(∀ x ∈ ps,x.block < W.heap.size)→DataW.Trod enc Try.prog W' 0 (fun b=>decide (b < W.heap.size)) true t v d ps :=
  fun hr hrow h hl=>Below.trod laidOut hr hrow h hB hl
 refine ⟨_,rfl,_,_,_,[],p0 ++ [],[],hW',trodAll_cons_mk (shut_bool Try.underlying4 _) trodAll_mk0,?_,rfl,hB.frame _,fun h=>by cases h⟩
 exact trodAll_cons_mk (carry (by kernel_rfl) (of_decide_eq_true (by kernel_rfl)) k0 (fun x hx=>hlt x (by simp[hx])))
  trodAll_mk0
theorem proved : Rows.BroomNilSaid :=
 OpenClaim.holds_of_wide 7 Try.f7 rfl rfl rfl rfl rfl rfl rfl ⟨rfl,rfl,rfl,rfl,rfl⟩ rfl rfl rfl rfl rfl (by kernel_rfl) Try.func7 (by kernel_rfl)
  (of_decide_eq_true (by kernel_rfl)) (by unfold Func.isWrapper;first|(rw[if_pos (by decide +kernel)];kernel_rfl)|(rw[if_neg (by decide +kernel)];exact ⟨rfl,rfl⟩))
  (fun os started H enc _=>lifted os started H enc)
end Go.Proofs.Ytidbbnkpglggdaa.BroomNilRow
