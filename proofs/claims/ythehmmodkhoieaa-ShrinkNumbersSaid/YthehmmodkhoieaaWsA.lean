import Derived.Test.YthehmmodkhoieaaWRk
import Derived.Test.YthehmmodkhoieaaWqC
import Derived.Test.YthehmmodkhoieaaWtJ
namespace Go.W
open Go.Proofs
set_option linter.unusedSimpArgs false
set_option linter.unusedVariables false
set_option maxHeartbeats 8000000
attribute [local irreducible] Wm

theorem row12_dat {c : List AV} (h : row12 c = true) : datL c = true := by
  obtain ⟨n0, n1, n2, n3, n4, n5, n6, n7, n8, n9, n10, n11, rfl⟩ := row12_ex h
  rfl
theorem rows_dat {els : List (List AV)} (h : els.all row12 = true) : datLL els = true :=
  List.all_eq_true.2 fun c hc => row12_dat (List.all_eq_true.1 h c hc)
theorem rows_drop {els : List (List AV)} (h : els.all row12 = true) (k : Nat) : (els.drop k).all row12 = true :=
  List.all_eq_true.2 fun c hc => List.all_eq_true.1 h c (List.mem_of_mem_drop hc)

/-- One event more in a sum of numbers. -/
def stepS (kind n : Int) : List AV → Int
  | .int _ k :: _ :: .int _ v :: _ => if k = kind then (if 0 < v then (if v < 1000 then n + v else n + 1) else n + 1) else n
  | _ => n

def sumZ (els : List (List AV)) (kind : Int) : Int := els.foldl (stepS kind) 0

theorem sumZ_succ {els : List (List AV)} {kind : Int} {k : Nat} {c : List AV} (h : els[k]? = some c) : sumZ (els.take (k + 1)) kind = stepS kind (sumZ (els.take k) kind) c := by
  unfold sumZ
  rw [List.take_add_one, h, Option.toList_some, List.foldl_append]; rfl

theorem stepS_in {kind n : Int} (c : List AV) : n ≤ stepS kind n c ∧ stepS kind n c ≤ n + 1000 := by
  unfold stepS
  repeat' split
  all_goals omega

theorem sumZ_in (kind : Int) : ∀ (els : List (List AV)) (n : Int), n ≤ els.foldl (stepS kind) n ∧ els.foldl (stepS kind) n ≤ n + 1000 * els.length
  | [], n => by simp
  | c :: r, n => by
    have h1 := stepS_in (kind := kind) (n := n) c
    have h2 := sumZ_in kind r (stepS kind n c)
    simp only [List.foldl_cons, List.length_cons]
    omega

def d35 : List AV → List NObj → Option AV
  | [.sl (.top 0) 0 n, .int .i64 kind], [.view 0 12 els] => if n = els.length ∧ els.all row12 = true ∧ els.length ≤ 200000 then some (.int .i64 (sumZ els kind)) else none
  | _, _ => none

def I35 (els : List (List AV)) (kind : Int) (k : Nat) : St := ⟨[(1, .int .i64 kind), (5, .int .i64 (sumZ (els.take k) kind)), (8, .sl (.top 0) 0 els.length), (9, .int .i64 els.length), (10, .int .i64 k)], [(0, .view 0 12 els)], 1⟩

theorem ok35 : ROk d35 := by
  intro xs os r h
  unfold d35 at h
  (repeat' (split at h)) <;> first | (cases h; done) | (injection h with h; subst h; simp)
theorem s35 : Sound Try.prog 35 (rdS d35 ok35) := by
  refine rd_sound Try.func35 nm35 rc35 rv35 ok35 fun xs os r h vs ρ0 hvs => ⟨xs, ?_, fun _ h => h, fun w0 S hS => ?_⟩
  · unfold d35 at h
    (repeat' (split at h)) <;> first | (cases h; done) | exact Nat.le_of_ble_eq_true rfl
  unfold d35 at h
  split at h
  · split at h
    · rename_i n kind els hcond
      injection h with h
      subst h
      have hE : SoundAll Try.prog (EL []) := EL_sound (by simp)
      obtain ⟨rfl, hrows, hlen⟩ := hcond
      have hT0 := rows_t0 hrows
      have hCl := rows_cl hrows
      unfold m35
      repeat' with_reducible (first
        | refine Wm_seq ?_
        | refine Wm_skip ?_
        | refine Wm_ret ?_
        | refine Wm_block ?_
        | refine Wm_exit ?_
        | refine thenK_normal ?_
        | refine thenK_ret ?_
        | refine thenK_exit ?_
        | refine blockK_normal ?_
        | refine blockK_ret ?_
        | refine blockK_here ?_
        | refine loopK_ret ?_
        | refine loopK_exit ?_
        | refine unK_ret ?_
        | refine unK_exit ?_
        | refine unK_normal ?_
        | refine loopOk_succ ?_
        | refine blockK_exit (by decide) ?_
        | (refine wreg (mos := q35_0) hE [0, 1] (by kernel_rfl) ?_; intro K hK; simp [q35_0]; (repeat' (first | refine hK _ _ ?_ | refine And.intro ?_ ?_ | (intro hc; try subst hc))) <;> (try clear hK K))
        | (refine wreg (mos := q35_1) hE [0, 1, 5] (by kernel_rfl) ?_; intro K hK; simp [q35_1]; (repeat' (first | refine hK _ _ ?_ | refine And.intro ?_ ?_ | (intro hc; try subst hc))) <;> (try clear hK K))
        | (refine wreg (mos := q35_2) hE [1, 5, 8, 9, 10] (by kernel_rfl) ?_; intro K hK; simp [q35_2]; (repeat' (first | refine hK _ _ ?_ | refine And.intro ?_ ?_ | (intro hc; try subst hc))) <;> (try clear hK K))
        | (refine wreg (mos := q35_3) hE [1, 5, 8, 9, 10, 11, 26, 27, 28] (by kernel_rfl) ?_; intro K hK; simp [q35_3]; (repeat' (first | refine hK _ _ ?_ | refine And.intro ?_ ?_ | (intro hc; try subst hc))) <;> (try clear hK K))
        | (refine wreg (mos := q35_4) hE [1, 5, 7, 8, 9, 10, 26, 27, 28] (by kernel_rfl) ?_; intro K hK; simp [q35_4]; (repeat' (first | refine hK _ _ ?_ | refine And.intro ?_ ?_ | (intro hc; try subst hc))) <;> (try clear hK K))
        | (refine wreg (mos := q35_5) hE [1, 5, 7, 8, 9, 10, 16, 26, 27, 28] (by kernel_rfl) ?_; intro K hK; simp [q35_5]; (repeat' (first | refine hK _ _ ?_ | refine And.intro ?_ ?_ | (intro hc; try subst hc))) <;> (try clear hK K))
        | (refine wreg (mos := q35_6) hE [1, 5, 7, 8, 9, 10, 21, 26, 27, 28] (by kernel_rfl) ?_; intro K hK; simp [q35_6]; (repeat' (first | refine hK _ _ ?_ | refine And.intro ?_ ?_ | (intro hc; try subst hc))) <;> (try clear hK K))
        | (refine wreg (mos := q35_7) hE [1, 5, 8, 9, 10, 26, 27, 28] (by kernel_rfl) ?_; intro K hK; simp [q35_7]; (repeat' (first | refine hK _ _ ?_ | refine And.intro ?_ ?_ | (intro hc; try subst hc))) <;> (try clear hK K))
        | (refine wreg (mos := q35_8) hE [1, 5, 8, 9, 10, 26, 27, 28] (by kernel_rfl) ?_; intro K hK; simp [q35_8]; (repeat' (first | refine hK _ _ ?_ | refine And.intro ?_ ?_ | (intro hc; try subst hc))) <;> (try clear hK K))
        | (refine wreg (mos := q35_9) hE [1, 5, 8, 9, 10, 26, 27, 28] (by kernel_rfl) ?_; intro K hK; simp [q35_9]; (repeat' (first | refine hK _ _ ?_ | refine And.intro ?_ ?_ | (intro hc; try subst hc))) <;> (try clear hK K))
        | (refine wreg (mos := q35_10) hE [4] (by kernel_rfl) ?_; intro K hK; simp [q35_10]; (repeat' (first | refine hK _ _ ?_ | refine And.intro ?_ ?_ | (intro hc; try subst hc))) <;> (try clear hK K))
        | (refine Wm_cond (b := _) (by with_unfolding_all rfl) (fun hc => ?_) (fun hc => ?_) <;> simp at hc <;> (try subst hc)))
      all_goals (refine Wm_loop (I35 els kind) (fun k => k ≤ els.length) (fun k => els.length - k) 0 (Nat.zero_le _) ?_ ?_)
      · simp only [I35]
        rw [hS]
        refine Imp.auto (by kernel_rfl) ?_ ?_ <;> simp [nmap, lkp, mkPl, prs, prsL, prT, ddL, idL, NLe, CRenL, CRen, Ren, RenL, NObj.none, hT0, hCl, sumZ]
      · intro k hk
        replace hk : k ≤ els.length := hk
        simp only [I35]
        by_cases hkn : k < els.length
        · obtain ⟨n0, n1, n2, n3, n4, n5, n6, n7, n8, n9, n10, n11, hrow⟩ := row12_ex (List.all_eq_true.1 hrows _ (List.getElem_mem hkn))
          have hrow2 : els[k]? = some [.int .i64 n0, .int .i64 n1, .int .i64 n2, .int .i64 n3, .int .i64 n4, .int .i64 n5, .int .i64 n6, .int .i64 n7, .int .i64 n8, .int .i64 n9, .int .i64 n10, .int .i64 n11] := by rw [List.getElem?_eq_getElem hkn, hrow]
          have hsucc := sumZ_succ (kind := kind) hrow2
          have hkI : (k : Int) < (els.length : Int) := by omega
          have w1 : IntKind.wrap .i64 ((k : Int) + 1) = (k : Int) + 1 := wrap_in (by omega) (by omega)
          have hb := sumZ_in kind (els.take k) 0
          have hbl : ((els.take k).length : Int) ≤ 200000 := by rw [List.length_take]; omega
          change (0 : Int) ≤ sumZ (els.take k) kind ∧ sumZ (els.take k) kind ≤ _ at hb
          generalize sumZ (els.take k) kind = Sk at hsucc hb ⊢
          have w2 : IntKind.wrap .i64 (Sk + 1) = Sk + 1 := wrap_in (by omega) (by omega)
          simp only [stepS] at hsucc
          by_cases c1 : n0 = kind
          · subst c1
            by_cases c2 : 0 < n2
            · by_cases c3 : n2 < 1000
              · have w3 : IntKind.wrap .i64 (Sk + n2) = Sk + n2 := wrap_in (by omega) (by omega)
                simp only [c2, c3, if_true] at hsucc
                repeat' with_reducible (first
                  | refine Wm_seq ?_
                  | refine Wm_skip ?_
                  | refine Wm_ret ?_
                  | refine Wm_block ?_
                  | refine Wm_exit ?_
                  | refine thenK_normal ?_
                  | refine thenK_ret ?_
                  | refine thenK_exit ?_
                  | refine blockK_normal ?_
                  | refine blockK_ret ?_
                  | refine blockK_here ?_
                  | refine loopK_ret ?_
                  | refine loopK_exit ?_
                  | refine unK_ret ?_
                  | refine unK_exit ?_
                  | refine unK_normal ?_
                  | refine loopOk_succ ?_
                  | refine blockK_exit (by decide) ?_
                  | (refine wreg (mos := q35_0) hE [0, 1] (by kernel_rfl) ?_; intro K hK; simp [q35_0, hkn, hkI, hrow, hrow2, w1, w2, w3, c2, c3]; (repeat' (first | refine hK _ _ ?_ | refine And.intro ?_ ?_ | (intro hc; try subst hc))) <;> (try clear hK K))
                  | (refine wreg (mos := q35_1) hE [0, 1, 5] (by kernel_rfl) ?_; intro K hK; simp [q35_1, hkn, hkI, hrow, hrow2, w1, w2, w3, c2, c3]; (repeat' (first | refine hK _ _ ?_ | refine And.intro ?_ ?_ | (intro hc; try subst hc))) <;> (try clear hK K))
                  | (refine wreg (mos := q35_2) hE [1, 5, 8, 9, 10] (by kernel_rfl) ?_; intro K hK; simp [q35_2, hkn, hkI, hrow, hrow2, w1, w2, w3, c2, c3]; (repeat' (first | refine hK _ _ ?_ | refine And.intro ?_ ?_ | (intro hc; try subst hc))) <;> (try clear hK K))
                  | (refine wreg (mos := q35_3) hE [1, 5, 8, 9, 10, 11, 26, 27, 28] (by kernel_rfl) ?_; intro K hK; simp [q35_3, hkn, hkI, hrow, hrow2, w1, w2, w3, c2, c3]; (repeat' (first | refine hK _ _ ?_ | refine And.intro ?_ ?_ | (intro hc; try subst hc))) <;> (try clear hK K))
                  | (refine wreg (mos := q35_4) hE [1, 5, 7, 8, 9, 10, 26, 27, 28] (by kernel_rfl) ?_; intro K hK; simp [q35_4, hkn, hkI, hrow, hrow2, w1, w2, w3, c2, c3]; (repeat' (first | refine hK _ _ ?_ | refine And.intro ?_ ?_ | (intro hc; try subst hc))) <;> (try clear hK K))
                  | (refine wreg (mos := q35_5) hE [1, 5, 7, 8, 9, 10, 16, 26, 27, 28] (by kernel_rfl) ?_; intro K hK; simp [q35_5, hkn, hkI, hrow, hrow2, w1, w2, w3, c2, c3]; (repeat' (first | refine hK _ _ ?_ | refine And.intro ?_ ?_ | (intro hc; try subst hc))) <;> (try clear hK K))
                  | (refine wreg (mos := q35_6) hE [1, 5, 7, 8, 9, 10, 21, 26, 27, 28] (by kernel_rfl) ?_; intro K hK; simp [q35_6, hkn, hkI, hrow, hrow2, w1, w2, w3, c2, c3]; (repeat' (first | refine hK _ _ ?_ | refine And.intro ?_ ?_ | (intro hc; try subst hc))) <;> (try clear hK K))
                  | (refine wreg (mos := q35_7) hE [1, 5, 8, 9, 10, 26, 27, 28] (by kernel_rfl) ?_; intro K hK; simp [q35_7, hkn, hkI, hrow, hrow2, w1, w2, w3, c2, c3]; (repeat' (first | refine hK _ _ ?_ | refine And.intro ?_ ?_ | (intro hc; try subst hc))) <;> (try clear hK K))
                  | (refine wreg (mos := q35_8) hE [1, 5, 8, 9, 10, 26, 27, 28] (by kernel_rfl) ?_; intro K hK; simp [q35_8, hkn, hkI, hrow, hrow2, w1, w2, w3, c2, c3]; (repeat' (first | refine hK _ _ ?_ | refine And.intro ?_ ?_ | (intro hc; try subst hc))) <;> (try clear hK K))
                  | (refine wreg (mos := q35_9) hE [1, 5, 8, 9, 10, 26, 27, 28] (by kernel_rfl) ?_; intro K hK; simp [q35_9, hkn, hkI, hrow, hrow2, w1, w2, w3, c2, c3]; (repeat' (first | refine hK _ _ ?_ | refine And.intro ?_ ?_ | (intro hc; try subst hc))) <;> (try clear hK K))
                  | (refine wreg (mos := q35_10) hE [4] (by kernel_rfl) ?_; intro K hK; simp [q35_10, hkn, hkI, hrow, hrow2, w1, w2, w3, c2, c3]; (repeat' (first | refine hK _ _ ?_ | refine And.intro ?_ ?_ | (intro hc; try subst hc))) <;> (try clear hK K))
                  | (refine Wm_cond (b := _) (by with_unfolding_all rfl) (fun hc => ?_) (fun hc => ?_) <;> simp at hc <;> (try subst hc)))
                all_goals refine ⟨k + 1, hkn, Nat.sub_lt_sub_left hkn (Nat.lt_succ_self k), ?_⟩
                all_goals simp only [I35]
                all_goals rw [hS]
                all_goals (refine Imp.auto (by kernel_rfl) ?_ ?_ <;> simp [nmap, lkp, mkPl, prs, prsL, prT, ddL, idL, NLe, CRenL, CRen, Ren, RenL, NObj.none, hT0, hCl, hsucc])
              · simp only [c2, c3, if_true, if_false] at hsucc
                repeat' with_reducible (first
                  | refine Wm_seq ?_
                  | refine Wm_skip ?_
                  | refine Wm_ret ?_
                  | refine Wm_block ?_
                  | refine Wm_exit ?_
                  | refine thenK_normal ?_
                  | refine thenK_ret ?_
                  | refine thenK_exit ?_
                  | refine blockK_normal ?_
                  | refine blockK_ret ?_
                  | refine blockK_here ?_
                  | refine loopK_ret ?_
                  | refine loopK_exit ?_
                  | refine unK_ret ?_
                  | refine unK_exit ?_
                  | refine unK_normal ?_
                  | refine loopOk_succ ?_
                  | refine blockK_exit (by decide) ?_
                  | (refine wreg (mos := q35_0) hE [0, 1] (by kernel_rfl) ?_; intro K hK; simp [q35_0, hkn, hkI, hrow, hrow2, w1, w2, c2, c3]; (repeat' (first | refine hK _ _ ?_ | refine And.intro ?_ ?_ | (intro hc; try subst hc))) <;> (try clear hK K))
                  | (refine wreg (mos := q35_1) hE [0, 1, 5] (by kernel_rfl) ?_; intro K hK; simp [q35_1, hkn, hkI, hrow, hrow2, w1, w2, c2, c3]; (repeat' (first | refine hK _ _ ?_ | refine And.intro ?_ ?_ | (intro hc; try subst hc))) <;> (try clear hK K))
                  | (refine wreg (mos := q35_2) hE [1, 5, 8, 9, 10] (by kernel_rfl) ?_; intro K hK; simp [q35_2, hkn, hkI, hrow, hrow2, w1, w2, c2, c3]; (repeat' (first | refine hK _ _ ?_ | refine And.intro ?_ ?_ | (intro hc; try subst hc))) <;> (try clear hK K))
                  | (refine wreg (mos := q35_3) hE [1, 5, 8, 9, 10, 11, 26, 27, 28] (by kernel_rfl) ?_; intro K hK; simp [q35_3, hkn, hkI, hrow, hrow2, w1, w2, c2, c3]; (repeat' (first | refine hK _ _ ?_ | refine And.intro ?_ ?_ | (intro hc; try subst hc))) <;> (try clear hK K))
                  | (refine wreg (mos := q35_4) hE [1, 5, 7, 8, 9, 10, 26, 27, 28] (by kernel_rfl) ?_; intro K hK; simp [q35_4, hkn, hkI, hrow, hrow2, w1, w2, c2, c3]; (repeat' (first | refine hK _ _ ?_ | refine And.intro ?_ ?_ | (intro hc; try subst hc))) <;> (try clear hK K))
                  | (refine wreg (mos := q35_5) hE [1, 5, 7, 8, 9, 10, 16, 26, 27, 28] (by kernel_rfl) ?_; intro K hK; simp [q35_5, hkn, hkI, hrow, hrow2, w1, w2, c2, c3]; (repeat' (first | refine hK _ _ ?_ | refine And.intro ?_ ?_ | (intro hc; try subst hc))) <;> (try clear hK K))
                  | (refine wreg (mos := q35_6) hE [1, 5, 7, 8, 9, 10, 21, 26, 27, 28] (by kernel_rfl) ?_; intro K hK; simp [q35_6, hkn, hkI, hrow, hrow2, w1, w2, c2, c3]; (repeat' (first | refine hK _ _ ?_ | refine And.intro ?_ ?_ | (intro hc; try subst hc))) <;> (try clear hK K))
                  | (refine wreg (mos := q35_7) hE [1, 5, 8, 9, 10, 26, 27, 28] (by kernel_rfl) ?_; intro K hK; simp [q35_7, hkn, hkI, hrow, hrow2, w1, w2, c2, c3]; (repeat' (first | refine hK _ _ ?_ | refine And.intro ?_ ?_ | (intro hc; try subst hc))) <;> (try clear hK K))
                  | (refine wreg (mos := q35_8) hE [1, 5, 8, 9, 10, 26, 27, 28] (by kernel_rfl) ?_; intro K hK; simp [q35_8, hkn, hkI, hrow, hrow2, w1, w2, c2, c3]; (repeat' (first | refine hK _ _ ?_ | refine And.intro ?_ ?_ | (intro hc; try subst hc))) <;> (try clear hK K))
                  | (refine wreg (mos := q35_9) hE [1, 5, 8, 9, 10, 26, 27, 28] (by kernel_rfl) ?_; intro K hK; simp [q35_9, hkn, hkI, hrow, hrow2, w1, w2, c2, c3]; (repeat' (first | refine hK _ _ ?_ | refine And.intro ?_ ?_ | (intro hc; try subst hc))) <;> (try clear hK K))
                  | (refine wreg (mos := q35_10) hE [4] (by kernel_rfl) ?_; intro K hK; simp [q35_10, hkn, hkI, hrow, hrow2, w1, w2, c2, c3]; (repeat' (first | refine hK _ _ ?_ | refine And.intro ?_ ?_ | (intro hc; try subst hc))) <;> (try clear hK K))
                  | (refine Wm_cond (b := _) (by with_unfolding_all rfl) (fun hc => ?_) (fun hc => ?_) <;> simp at hc <;> (try subst hc)))
                all_goals refine ⟨k + 1, hkn, Nat.sub_lt_sub_left hkn (Nat.lt_succ_self k), ?_⟩
                all_goals simp only [I35]
                all_goals rw [hS]
                all_goals (refine Imp.auto (by kernel_rfl) ?_ ?_ <;> simp [nmap, lkp, mkPl, prs, prsL, prT, ddL, idL, NLe, CRenL, CRen, Ren, RenL, NObj.none, hT0, hCl, hsucc])
            · simp only [c2, if_true, if_false] at hsucc
              repeat' with_reducible (first
                | refine Wm_seq ?_
                | refine Wm_skip ?_
                | refine Wm_ret ?_
                | refine Wm_block ?_
                | refine Wm_exit ?_
                | refine thenK_normal ?_
                | refine thenK_ret ?_
                | refine thenK_exit ?_
                | refine blockK_normal ?_
                | refine blockK_ret ?_
                | refine blockK_here ?_
                | refine loopK_ret ?_
                | refine loopK_exit ?_
                | refine unK_ret ?_
                | refine unK_exit ?_
                | refine unK_normal ?_
                | refine loopOk_succ ?_
                | refine blockK_exit (by decide) ?_
                | (refine wreg (mos := q35_0) hE [0, 1] (by kernel_rfl) ?_; intro K hK; simp [q35_0, hkn, hkI, hrow, hrow2, w1, w2, c2]; (repeat' (first | refine hK _ _ ?_ | refine And.intro ?_ ?_ | (intro hc; try subst hc))) <;> (try clear hK K))
                | (refine wreg (mos := q35_1) hE [0, 1, 5] (by kernel_rfl) ?_; intro K hK; simp [q35_1, hkn, hkI, hrow, hrow2, w1, w2, c2]; (repeat' (first | refine hK _ _ ?_ | refine And.intro ?_ ?_ | (intro hc; try subst hc))) <;> (try clear hK K))
                | (refine wreg (mos := q35_2) hE [1, 5, 8, 9, 10] (by kernel_rfl) ?_; intro K hK; simp [q35_2, hkn, hkI, hrow, hrow2, w1, w2, c2]; (repeat' (first | refine hK _ _ ?_ | refine And.intro ?_ ?_ | (intro hc; try subst hc))) <;> (try clear hK K))
                | (refine wreg (mos := q35_3) hE [1, 5, 8, 9, 10, 11, 26, 27, 28] (by kernel_rfl) ?_; intro K hK; simp [q35_3, hkn, hkI, hrow, hrow2, w1, w2, c2]; (repeat' (first | refine hK _ _ ?_ | refine And.intro ?_ ?_ | (intro hc; try subst hc))) <;> (try clear hK K))
                | (refine wreg (mos := q35_4) hE [1, 5, 7, 8, 9, 10, 26, 27, 28] (by kernel_rfl) ?_; intro K hK; simp [q35_4, hkn, hkI, hrow, hrow2, w1, w2, c2]; (repeat' (first | refine hK _ _ ?_ | refine And.intro ?_ ?_ | (intro hc; try subst hc))) <;> (try clear hK K))
                | (refine wreg (mos := q35_5) hE [1, 5, 7, 8, 9, 10, 16, 26, 27, 28] (by kernel_rfl) ?_; intro K hK; simp [q35_5, hkn, hkI, hrow, hrow2, w1, w2, c2]; (repeat' (first | refine hK _ _ ?_ | refine And.intro ?_ ?_ | (intro hc; try subst hc))) <;> (try clear hK K))
                | (refine wreg (mos := q35_6) hE [1, 5, 7, 8, 9, 10, 21, 26, 27, 28] (by kernel_rfl) ?_; intro K hK; simp [q35_6, hkn, hkI, hrow, hrow2, w1, w2, c2]; (repeat' (first | refine hK _ _ ?_ | refine And.intro ?_ ?_ | (intro hc; try subst hc))) <;> (try clear hK K))
                | (refine wreg (mos := q35_7) hE [1, 5, 8, 9, 10, 26, 27, 28] (by kernel_rfl) ?_; intro K hK; simp [q35_7, hkn, hkI, hrow, hrow2, w1, w2, c2]; (repeat' (first | refine hK _ _ ?_ | refine And.intro ?_ ?_ | (intro hc; try subst hc))) <;> (try clear hK K))
                | (refine wreg (mos := q35_8) hE [1, 5, 8, 9, 10, 26, 27, 28] (by kernel_rfl) ?_; intro K hK; simp [q35_8, hkn, hkI, hrow, hrow2, w1, w2, c2]; (repeat' (first | refine hK _ _ ?_ | refine And.intro ?_ ?_ | (intro hc; try subst hc))) <;> (try clear hK K))
                | (refine wreg (mos := q35_9) hE [1, 5, 8, 9, 10, 26, 27, 28] (by kernel_rfl) ?_; intro K hK; simp [q35_9, hkn, hkI, hrow, hrow2, w1, w2, c2]; (repeat' (first | refine hK _ _ ?_ | refine And.intro ?_ ?_ | (intro hc; try subst hc))) <;> (try clear hK K))
                | (refine wreg (mos := q35_10) hE [4] (by kernel_rfl) ?_; intro K hK; simp [q35_10, hkn, hkI, hrow, hrow2, w1, w2, c2]; (repeat' (first | refine hK _ _ ?_ | refine And.intro ?_ ?_ | (intro hc; try subst hc))) <;> (try clear hK K))
                | (refine Wm_cond (b := _) (by with_unfolding_all rfl) (fun hc => ?_) (fun hc => ?_) <;> simp at hc <;> (try subst hc)))
              all_goals refine ⟨k + 1, hkn, Nat.sub_lt_sub_left hkn (Nat.lt_succ_self k), ?_⟩
              all_goals simp only [I35]
              all_goals rw [hS]
              all_goals (refine Imp.auto (by kernel_rfl) ?_ ?_ <;> simp [nmap, lkp, mkPl, prs, prsL, prT, ddL, idL, NLe, CRenL, CRen, Ren, RenL, NObj.none, hT0, hCl, hsucc])
          · simp only [c1, if_false] at hsucc
            repeat' with_reducible (first
              | refine Wm_seq ?_
              | refine Wm_skip ?_
              | refine Wm_ret ?_
              | refine Wm_block ?_
              | refine Wm_exit ?_
              | refine thenK_normal ?_
              | refine thenK_ret ?_
              | refine thenK_exit ?_
              | refine blockK_normal ?_
              | refine blockK_ret ?_
              | refine blockK_here ?_
              | refine loopK_ret ?_
              | refine loopK_exit ?_
              | refine unK_ret ?_
              | refine unK_exit ?_
              | refine unK_normal ?_
              | refine loopOk_succ ?_
              | refine blockK_exit (by decide) ?_
              | (refine wreg (mos := q35_0) hE [0, 1] (by kernel_rfl) ?_; intro K hK; simp [q35_0, hkn, hkI, hrow, hrow2, w1, c1]; (repeat' (first | refine hK _ _ ?_ | refine And.intro ?_ ?_ | (intro hc; try subst hc))) <;> (try clear hK K))
              | (refine wreg (mos := q35_1) hE [0, 1, 5] (by kernel_rfl) ?_; intro K hK; simp [q35_1, hkn, hkI, hrow, hrow2, w1, c1]; (repeat' (first | refine hK _ _ ?_ | refine And.intro ?_ ?_ | (intro hc; try subst hc))) <;> (try clear hK K))
              | (refine wreg (mos := q35_2) hE [1, 5, 8, 9, 10] (by kernel_rfl) ?_; intro K hK; simp [q35_2, hkn, hkI, hrow, hrow2, w1, c1]; (repeat' (first | refine hK _ _ ?_ | refine And.intro ?_ ?_ | (intro hc; try subst hc))) <;> (try clear hK K))
              | (refine wreg (mos := q35_3) hE [1, 5, 8, 9, 10, 11, 26, 27, 28] (by kernel_rfl) ?_; intro K hK; simp [q35_3, hkn, hkI, hrow, hrow2, w1, c1]; (repeat' (first | refine hK _ _ ?_ | refine And.intro ?_ ?_ | (intro hc; try subst hc))) <;> (try clear hK K))
              | (refine wreg (mos := q35_4) hE [1, 5, 7, 8, 9, 10, 26, 27, 28] (by kernel_rfl) ?_; intro K hK; simp [q35_4, hkn, hkI, hrow, hrow2, w1, c1]; (repeat' (first | refine hK _ _ ?_ | refine And.intro ?_ ?_ | (intro hc; try subst hc))) <;> (try clear hK K))
              | (refine wreg (mos := q35_5) hE [1, 5, 7, 8, 9, 10, 16, 26, 27, 28] (by kernel_rfl) ?_; intro K hK; simp [q35_5, hkn, hkI, hrow, hrow2, w1, c1]; (repeat' (first | refine hK _ _ ?_ | refine And.intro ?_ ?_ | (intro hc; try subst hc))) <;> (try clear hK K))
              | (refine wreg (mos := q35_6) hE [1, 5, 7, 8, 9, 10, 21, 26, 27, 28] (by kernel_rfl) ?_; intro K hK; simp [q35_6, hkn, hkI, hrow, hrow2, w1, c1]; (repeat' (first | refine hK _ _ ?_ | refine And.intro ?_ ?_ | (intro hc; try subst hc))) <;> (try clear hK K))
              | (refine wreg (mos := q35_7) hE [1, 5, 8, 9, 10, 26, 27, 28] (by kernel_rfl) ?_; intro K hK; simp [q35_7, hkn, hkI, hrow, hrow2, w1, c1]; (repeat' (first | refine hK _ _ ?_ | refine And.intro ?_ ?_ | (intro hc; try subst hc))) <;> (try clear hK K))
              | (refine wreg (mos := q35_8) hE [1, 5, 8, 9, 10, 26, 27, 28] (by kernel_rfl) ?_; intro K hK; simp [q35_8, hkn, hkI, hrow, hrow2, w1, c1]; (repeat' (first | refine hK _ _ ?_ | refine And.intro ?_ ?_ | (intro hc; try subst hc))) <;> (try clear hK K))
              | (refine wreg (mos := q35_9) hE [1, 5, 8, 9, 10, 26, 27, 28] (by kernel_rfl) ?_; intro K hK; simp [q35_9, hkn, hkI, hrow, hrow2, w1, c1]; (repeat' (first | refine hK _ _ ?_ | refine And.intro ?_ ?_ | (intro hc; try subst hc))) <;> (try clear hK K))
              | (refine wreg (mos := q35_10) hE [4] (by kernel_rfl) ?_; intro K hK; simp [q35_10, hkn, hkI, hrow, hrow2, w1, c1]; (repeat' (first | refine hK _ _ ?_ | refine And.intro ?_ ?_ | (intro hc; try subst hc))) <;> (try clear hK K))
              | (refine Wm_cond (b := _) (by with_unfolding_all rfl) (fun hc => ?_) (fun hc => ?_) <;> simp at hc <;> (try subst hc)))
            all_goals refine ⟨k + 1, hkn, Nat.sub_lt_sub_left hkn (Nat.lt_succ_self k), ?_⟩
            all_goals simp only [I35]
            all_goals rw [hS]
            all_goals (refine Imp.auto (by kernel_rfl) ?_ ?_ <;> simp [nmap, lkp, mkPl, prs, prsL, prT, ddL, idL, NLe, CRenL, CRen, Ren, RenL, NObj.none, hT0, hCl, hsucc])
        · have hkI : ¬ (k : Int) < (els.length : Int) := by omega
          have hke : k = els.length := by omega
          subst hke
          repeat' with_reducible (first
            | refine Wm_seq ?_
            | refine Wm_skip ?_
            | refine Wm_ret ?_
            | refine Wm_block ?_
            | refine Wm_exit ?_
            | refine thenK_normal ?_
            | refine thenK_ret ?_
            | refine thenK_exit ?_
            | refine blockK_normal ?_
            | refine blockK_ret ?_
            | refine blockK_here ?_
            | refine loopK_ret ?_
            | refine loopK_exit ?_
            | refine unK_ret ?_
            | refine unK_exit ?_
            | refine unK_normal ?_
            | refine loopOk_succ ?_
            | refine blockK_exit (by decide) ?_
            | (refine wreg (mos := q35_0) hE [0, 1] (by kernel_rfl) ?_; intro K hK; simp [q35_0, hkI]; (repeat' (first | refine hK _ _ ?_ | refine And.intro ?_ ?_ | (intro hc; try subst hc))) <;> (try clear hK K))
            | (refine wreg (mos := q35_1) hE [0, 1, 5] (by kernel_rfl) ?_; intro K hK; simp [q35_1, hkI]; (repeat' (first | refine hK _ _ ?_ | refine And.intro ?_ ?_ | (intro hc; try subst hc))) <;> (try clear hK K))
            | (refine wreg (mos := q35_2) hE [1, 5, 8, 9, 10] (by kernel_rfl) ?_; intro K hK; simp [q35_2, hkI]; (repeat' (first | refine hK _ _ ?_ | refine And.intro ?_ ?_ | (intro hc; try subst hc))) <;> (try clear hK K))
            | (refine wreg (mos := q35_3) hE [1, 5, 8, 9, 10, 11, 26, 27, 28] (by kernel_rfl) ?_; intro K hK; simp [q35_3, hkI]; (repeat' (first | refine hK _ _ ?_ | refine And.intro ?_ ?_ | (intro hc; try subst hc))) <;> (try clear hK K))
            | (refine wreg (mos := q35_4) hE [1, 5, 7, 8, 9, 10, 26, 27, 28] (by kernel_rfl) ?_; intro K hK; simp [q35_4, hkI]; (repeat' (first | refine hK _ _ ?_ | refine And.intro ?_ ?_ | (intro hc; try subst hc))) <;> (try clear hK K))
            | (refine wreg (mos := q35_5) hE [1, 5, 7, 8, 9, 10, 16, 26, 27, 28] (by kernel_rfl) ?_; intro K hK; simp [q35_5, hkI]; (repeat' (first | refine hK _ _ ?_ | refine And.intro ?_ ?_ | (intro hc; try subst hc))) <;> (try clear hK K))
            | (refine wreg (mos := q35_6) hE [1, 5, 7, 8, 9, 10, 21, 26, 27, 28] (by kernel_rfl) ?_; intro K hK; simp [q35_6, hkI]; (repeat' (first | refine hK _ _ ?_ | refine And.intro ?_ ?_ | (intro hc; try subst hc))) <;> (try clear hK K))
            | (refine wreg (mos := q35_7) hE [1, 5, 8, 9, 10, 26, 27, 28] (by kernel_rfl) ?_; intro K hK; simp [q35_7, hkI]; (repeat' (first | refine hK _ _ ?_ | refine And.intro ?_ ?_ | (intro hc; try subst hc))) <;> (try clear hK K))
            | (refine wreg (mos := q35_8) hE [1, 5, 8, 9, 10, 26, 27, 28] (by kernel_rfl) ?_; intro K hK; simp [q35_8, hkI]; (repeat' (first | refine hK _ _ ?_ | refine And.intro ?_ ?_ | (intro hc; try subst hc))) <;> (try clear hK K))
            | (refine wreg (mos := q35_9) hE [1, 5, 8, 9, 10, 26, 27, 28] (by kernel_rfl) ?_; intro K hK; simp [q35_9, hkI]; (repeat' (first | refine hK _ _ ?_ | refine And.intro ?_ ?_ | (intro hc; try subst hc))) <;> (try clear hK K))
            | (refine wreg (mos := q35_10) hE [4] (by kernel_rfl) ?_; intro K hK; simp [q35_10, hkI]; (repeat' (first | refine hK _ _ ?_ | refine And.intro ?_ ?_ | (intro hc; try subst hc))) <;> (try clear hK K))
            | (refine Wm_cond (b := _) (by with_unfolding_all rfl) (fun hc => ?_) (fun hc => ?_) <;> simp at hc <;> (try subst hc)))
          all_goals first | (simp; done) | (simp at *; omega) | (simp[hT0, hCl]; refine Imp.auto (by kernel_rfl) ?_ ?_ <;> simp [nmap, lkp, mkPl, prs, prsL, prT, ddL, idL, NLe, CRenL, CRen, Ren, RenL, NObj.none, hT0, hCl])
    · cases h
  · cases h
end Go.W
