import Derived.Test.YthehmmodkhoieaaWtN
import Derived.Test.YthehmmodkhoieaaWtG
namespace Go.W
open Go.Proofs
set_option linter.unusedSimpArgs false
set_option linter.unusedVariables false
set_option maxHeartbeats 8000000
attribute [local irreducible] Wm

theorem script_len {a b c d ma mt md ms mp mw s : Int} {n : Nat} : (scriptL a b c d ma mt md ms mp mw s n).length ≤ n := by
  simp only [scriptL, List.length_take]
  exact Nat.min_le_left _ _

theorem script_all {a b c d ma mt md ms mp mw s : Int} {n : Nat} (hms : ms ≤ 10000) : (scriptL a b c d ma mt md ms mp mw s n).all row12 = true := rows_take (script_rows hms) n

def d11 : List AV → Option Ans
  | [.agg [.int .i64 a, .int .i64 b, .int .i64 c, .int .i64 d, .int .i64 e, .int .i64 f, .int .i64 g], .int .u64 _, .agg [.int .i64 ma, .int .i64 mt, .int .i64 md, .int .i64 ms, .int .i64 mp, .int .i64 mw], .int .i64 _] => some ⟨.bool true, []⟩
  | _ => none

def I11 (L : List (List AV)) (k : Nat) : St := ⟨[(11, .sl (.top 0) 0 L.length), (12, .sl (.top 1) 0 L.length), (57, .int .i64 L.length), (58, .int .i64 k)], [(0, .arr 0 12 L), (1, .arr 0 12 L)], 2⟩

theorem ok11 : NOk [] d11 := by
  intro xs a h
  unfold d11 at h
  (repeat' (split at h)) <;> first | (cases h; done) | (injection h with h; subst h; refine ⟨Ends_of ?_, ?_⟩ <;> simp)
theorem s11 : Sound Try.prog 11 (nestS [] d11 ok11) := by
  refine nest_sound Try.func11 nm11 rc11 rv11 ok11 (fun xs a h => ?_) fun xs a h w0 S hS => ?_
  · unfold d11 at h
    (repeat' (split at h)) <;> first | (cases h; done) | exact Nat.le_of_ble_eq_true rfl
  unfold d11 at h
  split at h
  · rename_i a b c d e f g s ma mt md ms mp mw n
    injection h with h
    subst h
    have hE : SoundAll Try.prog (EL [(14, nestS [] d14 ok14), (26, nestS [] d26 ok26), (27, nestS [] d27 ok27), (28, nestS [] d28 ok28), (33, nestS [(12, false)] d33 ok33), (43, nestS [] d43 ok43), (44, nestS [] d44 ok44)]) := EL_sound (by simp only [List.mem_cons, List.not_mem_nil, or_false, forall_eq_or_imp, forall_eq]; exact ⟨s14, s26, s27, s28, s33, s43, s44⟩)
    by_cases hck : checkZ a b c d e f g = -1
    · by_cases hft : fitsB ma mt md ms mp mw = true
      · by_cases h1 : 2000 < n
        · unfold m11
          repeat' with_reducible (first
            | refine Wm_seq ?_
            | refine Wm_skip ?_
            | refine Wm_ret ?_
            | refine Wm_block ?_
            | refine Wm_exit ?_
            | refine thenK_normal ?_
            | refine thenK_ret ?_
            | refine thenK_exit ?_
            | refine blockK_normal ?_
            | refine blockK_ret ?_
            | refine blockK_here ?_
            | refine loopK_ret ?_
            | refine loopK_exit ?_
            | refine unK_ret ?_
            | refine unK_exit ?_
            | refine unK_normal ?_
            | refine loopOk_succ ?_
            | refine blockK_exit (by decide) ?_
            | (refine wreg (mos := q11_0) hE [1, 3, 4, 6] (by kernel_rfl) ?_; intro K hK; simp [q11_0, hck, hft, h1, d14, d26, d27, d28, d33, d43, d44]; (repeat' (first | refine hK _ _ ?_ | refine And.intro ?_ ?_ | (intro hc; try subst hc))) <;> (try clear hK K))
            | (refine wreg (mos := q11_1) hE [1, 3, 4, 6, 9, 10] (by kernel_rfl) ?_; intro K hK; simp [q11_1, hck, hft, h1, d14, d26, d27, d28, d33, d43, d44]; (repeat' (first | refine hK _ _ ?_ | refine And.intro ?_ ?_ | (intro hc; try subst hc))) <;> (try clear hK K))
            | (refine wreg (mos := q11_2) hE [1, 3, 4, 6, 9, 10, 30] (by kernel_rfl) ?_; intro K hK; simp [q11_2, hck, hft, h1, d14, d26, d27, d28, d33, d43, d44]; (repeat' (first | refine hK _ _ ?_ | refine And.intro ?_ ?_ | (intro hc; try subst hc))) <;> (try clear hK K))
            | (refine wdraw (mos := q11_3) hE mixT c11_3 [8] (by kernel_rfl) ?_; intro K hK; simp [q11_3, c11_3, hck, hft, h1, d14, d26, d27, d28, d33, d43, d44]; (repeat' (first | refine hK _ _ ?_ | refine And.intro ?_ ?_ | (intro hc; try subst hc))) <;> (try clear hK K))
            | (refine wdraw (mos := q11_4) hE mixT c11_4 [11, 12] (by kernel_rfl) ?_; intro K hK; simp [q11_4, c11_4, hck, hft, h1, d14, d26, d27, d28, d33, d43, d44]; (repeat' (first | refine hK _ _ ?_ | refine And.intro ?_ ?_ | (intro hc; try subst hc))) <;> (try clear hK K))
            | (refine wreg (mos := q11_5) hE [11, 12, 55] (by kernel_rfl) ?_; intro K hK; simp [q11_5, hck, hft, h1, d14, d26, d27, d28, d33, d43, d44]; (repeat' (first | refine hK _ _ ?_ | refine And.intro ?_ ?_ | (intro hc; try subst hc))) <;> (try clear hK K))
            | (refine wreg (mos := q11_6) hE [8] (by kernel_rfl) ?_; intro K hK; simp [q11_6, hck, hft, h1, d14, d26, d27, d28, d33, d43, d44]; (repeat' (first | refine hK _ _ ?_ | refine And.intro ?_ ?_ | (intro hc; try subst hc))) <;> (try clear hK K))
            | (refine wreg (mos := q11_7) hE [11, 12, 57, 58] (by kernel_rfl) ?_; intro K hK; simp [q11_7, hck, hft, h1, d14, d26, d27, d28, d33, d43, d44]; (repeat' (first | refine hK _ _ ?_ | refine And.intro ?_ ?_ | (intro hc; try subst hc))) <;> (try clear hK K))
            | (refine wreg (mos := q11_8) hE [11, 12, 57, 58, 59] (by kernel_rfl) ?_; intro K hK; simp [q11_8, hck, hft, h1, d14, d26, d27, d28, d33, d43, d44]; (repeat' (first | refine hK _ _ ?_ | refine And.intro ?_ ?_ | (intro hc; try subst hc))) <;> (try clear hK K))
            | (refine wreg (mos := q11_9) hE [11, 12, 13, 57, 58] (by kernel_rfl) ?_; intro K hK; simp [q11_9, hck, hft, h1, d14, d26, d27, d28, d33, d43, d44]; (repeat' (first | refine hK _ _ ?_ | refine And.intro ?_ ?_ | (intro hc; try subst hc))) <;> (try clear hK K))
            | (refine wdraw (mos := q11_10) hE mixT c11_10 [11, 12, 57, 58, 69] (by kernel_rfl) ?_; intro K hK; simp [q11_10, c11_10, hck, hft, h1, d14, d26, d27, d28, d33, d43, d44]; (repeat' (first | refine hK _ _ ?_ | refine And.intro ?_ ?_ | (intro hc; try subst hc))) <;> (try clear hK K))
            | (refine wreg (mos := q11_11) hE [8] (by kernel_rfl) ?_; intro K hK; simp [q11_11, hck, hft, h1, d14, d26, d27, d28, d33, d43, d44]; (repeat' (first | refine hK _ _ ?_ | refine And.intro ?_ ?_ | (intro hc; try subst hc))) <;> (try clear hK K))
            | (refine wreg (mos := q11_12) hE [11, 12, 57, 58] (by kernel_rfl) ?_; intro K hK; simp [q11_12, hck, hft, h1, d14, d26, d27, d28, d33, d43, d44]; (repeat' (first | refine hK _ _ ?_ | refine And.intro ?_ ?_ | (intro hc; try subst hc))) <;> (try clear hK K))
            | (refine wreg (mos := q11_13) hE [8] (by kernel_rfl) ?_; intro K hK; simp [q11_13, hck, hft, h1, d14, d26, d27, d28, d33, d43, d44]; (repeat' (first | refine hK _ _ ?_ | refine And.intro ?_ ?_ | (intro hc; try subst hc))) <;> (try clear hK K))
            | (refine Wm_cond (b := _) (by with_unfolding_all rfl) (fun hc => ?_) (fun hc => ?_) <;> simp at hc <;> (try subst hc)))
          all_goals first | (simp; done) | (simp at *; omega) | (simp[hck, hft]; refine Imp.auto (by kernel_rfl) ?_ ?_ <;> simp [nmap, lkp, mkPl, prs, prsL, prT, ddL, idL, NLe, CRenL, CRen, Ren, RenL, NObj.none, hck, hft])
        · have hn2 : n ≤ 2000 := by omega
          have hn65 : n ≤ 65536 := by omega
          obtain ⟨L, hL⟩ : ∃ L, scriptL a b c d ma mt md ms mp mw s n.toNat = L := ⟨_, rfl⟩
          have hrows : L.all row12 = true := hL ▸ script_all (fits_ms hft)
          have hlen : L.length ≤ 2000 := by
            have := script_len (a := a) (b := b) (c := c) (d := d) (ma := ma) (mt := mt) (md := md) (ms := ms) (mp := mp) (mw := mw) (s := s) (n := n.toNat)
            rw [hL] at this
            omega
          have hlen2 : L.length ≤ 200000 := by omega
          have hT0 := rows_t0 hrows
          have hCl := rows_cl hrows
          unfold m11
          repeat' with_reducible (first
            | refine Wm_seq ?_
            | refine Wm_skip ?_
            | refine Wm_ret ?_
            | refine Wm_block ?_
            | refine Wm_exit ?_
            | refine thenK_normal ?_
            | refine thenK_ret ?_
            | refine thenK_exit ?_
            | refine blockK_normal ?_
            | refine blockK_ret ?_
            | refine blockK_here ?_
            | refine loopK_ret ?_
            | refine loopK_exit ?_
            | refine unK_ret ?_
            | refine unK_exit ?_
            | refine unK_normal ?_
            | refine loopOk_succ ?_
            | refine blockK_exit (by decide) ?_
            | (refine wreg (mos := q11_0) hE [1, 3, 4, 6] (by kernel_rfl) ?_; intro K hK; simp [q11_0, hck, hft, h1, hn65, hL, hT0, hCl, hrows, hlen2, d14, d26, d27, d28, d33, d43, d44]; (repeat' (first | refine hK _ _ ?_ | refine And.intro ?_ ?_ | (intro hc; try subst hc))) <;> (try clear hK K))
            | (refine wreg (mos := q11_1) hE [1, 3, 4, 6, 9, 10] (by kernel_rfl) ?_; intro K hK; simp [q11_1, hck, hft, h1, hn65, hL, hT0, hCl, hrows, hlen2, d14, d26, d27, d28, d33, d43, d44]; (repeat' (first | refine hK _ _ ?_ | refine And.intro ?_ ?_ | (intro hc; try subst hc))) <;> (try clear hK K))
            | (refine wreg (mos := q11_2) hE [1, 3, 4, 6, 9, 10, 30] (by kernel_rfl) ?_; intro K hK; simp [q11_2, hck, hft, h1, hn65, hL, hT0, hCl, hrows, hlen2, d14, d26, d27, d28, d33, d43, d44]; (repeat' (first | refine hK _ _ ?_ | refine And.intro ?_ ?_ | (intro hc; try subst hc))) <;> (try clear hK K))
            | (refine wdraw (mos := q11_3) hE mixT c11_3 [8] (by kernel_rfl) ?_; intro K hK; simp [q11_3, c11_3, hck, hft, h1, hn65, hL, hT0, hCl, hrows, hlen2, d14, d26, d27, d28, d33, d43, d44]; (repeat' (first | refine hK _ _ ?_ | refine And.intro ?_ ?_ | (intro hc; try subst hc))) <;> (try clear hK K))
            | (refine wdraw (mos := q11_4) hE mixT c11_4 [11, 12] (by kernel_rfl) ?_; intro K hK; simp [q11_4, c11_4, hck, hft, h1, hn65, hL, hT0, hCl, hrows, hlen2, d14, d26, d27, d28, d33, d43, d44]; (repeat' (first | refine hK _ _ ?_ | refine And.intro ?_ ?_ | (intro hc; try subst hc))) <;> (try clear hK K))
            | (refine wreg (mos := q11_5) hE [11, 12, 55] (by kernel_rfl) ?_; intro K hK; simp [q11_5, hck, hft, h1, hn65, hL, hT0, hCl, hrows, hlen2, d14, d26, d27, d28, d33, d43, d44]; (repeat' (first | refine hK _ _ ?_ | refine And.intro ?_ ?_ | (intro hc; try subst hc))) <;> (try clear hK K))
            | (refine wreg (mos := q11_6) hE [8] (by kernel_rfl) ?_; intro K hK; simp [q11_6, hck, hft, h1, hn65, hL, hT0, hCl, hrows, hlen2, d14, d26, d27, d28, d33, d43, d44]; (repeat' (first | refine hK _ _ ?_ | refine And.intro ?_ ?_ | (intro hc; try subst hc))) <;> (try clear hK K))
            | (refine wreg (mos := q11_7) hE [11, 12, 57, 58] (by kernel_rfl) ?_; intro K hK; simp [q11_7, hck, hft, h1, hn65, hL, hT0, hCl, hrows, hlen2, d14, d26, d27, d28, d33, d43, d44]; (repeat' (first | refine hK _ _ ?_ | refine And.intro ?_ ?_ | (intro hc; try subst hc))) <;> (try clear hK K))
            | (refine wreg (mos := q11_8) hE [11, 12, 57, 58, 59] (by kernel_rfl) ?_; intro K hK; simp [q11_8, hck, hft, h1, hn65, hL, hT0, hCl, hrows, hlen2, d14, d26, d27, d28, d33, d43, d44]; (repeat' (first | refine hK _ _ ?_ | refine And.intro ?_ ?_ | (intro hc; try subst hc))) <;> (try clear hK K))
            | (refine wreg (mos := q11_9) hE [11, 12, 13, 57, 58] (by kernel_rfl) ?_; intro K hK; simp [q11_9, hck, hft, h1, hn65, hL, hT0, hCl, hrows, hlen2, d14, d26, d27, d28, d33, d43, d44]; (repeat' (first | refine hK _ _ ?_ | refine And.intro ?_ ?_ | (intro hc; try subst hc))) <;> (try clear hK K))
            | (refine wdraw (mos := q11_10) hE mixT c11_10 [11, 12, 57, 58, 69] (by kernel_rfl) ?_; intro K hK; simp [q11_10, c11_10, hck, hft, h1, hn65, hL, hT0, hCl, hrows, hlen2, d14, d26, d27, d28, d33, d43, d44]; (repeat' (first | refine hK _ _ ?_ | refine And.intro ?_ ?_ | (intro hc; try subst hc))) <;> (try clear hK K))
            | (refine wreg (mos := q11_11) hE [8] (by kernel_rfl) ?_; intro K hK; simp [q11_11, hck, hft, h1, hn65, hL, hT0, hCl, hrows, hlen2, d14, d26, d27, d28, d33, d43, d44]; (repeat' (first | refine hK _ _ ?_ | refine And.intro ?_ ?_ | (intro hc; try subst hc))) <;> (try clear hK K))
            | (refine wreg (mos := q11_12) hE [11, 12, 57, 58] (by kernel_rfl) ?_; intro K hK; simp [q11_12, hck, hft, h1, hn65, hL, hT0, hCl, hrows, hlen2, d14, d26, d27, d28, d33, d43, d44]; (repeat' (first | refine hK _ _ ?_ | refine And.intro ?_ ?_ | (intro hc; try subst hc))) <;> (try clear hK K))
            | (refine wreg (mos := q11_13) hE [8] (by kernel_rfl) ?_; intro K hK; simp [q11_13, hck, hft, h1, hn65, hL, hT0, hCl, hrows, hlen2, d14, d26, d27, d28, d33, d43, d44]; (repeat' (first | refine hK _ _ ?_ | refine And.intro ?_ ?_ | (intro hc; try subst hc))) <;> (try clear hK K))
            | (refine Wm_cond (b := _) (by with_unfolding_all rfl) (fun hc => ?_) (fun hc => ?_) <;> simp at hc <;> (try subst hc)))
          all_goals (refine Wm_loop (I11 L) (fun k => k ≤ L.length) (fun k => L.length - k) 0 (Nat.zero_le _) ?_ ?_)
          · simp only [I11]
            rw [hS]
            refine Imp.auto (by kernel_rfl) ?_ ?_ <;> simp [nmap, lkp, mkPl, prs, prsL, prT, ddL, idL, NLe, CRenL, CRen, Ren, RenL, NObj.none, hT0, hCl]
          · intro k hk
            replace hk : k ≤ L.length := hk
            simp only [I11]
            by_cases hkn : k < L.length
            · obtain ⟨n0, n1, n2, n3, n4, n5, n6, n7, n8, n9, n10, n11, hrow⟩ := row12_ex (List.all_eq_true.1 hrows _ (List.getElem_mem hkn))
              have hrow2 : L[k]? = some [.int .i64 n0, .int .i64 n1, .int .i64 n2, .int .i64 n3, .int .i64 n4, .int .i64 n5, .int .i64 n6, .int .i64 n7, .int .i64 n8, .int .i64 n9, .int .i64 n10, .int .i64 n11] := by rw [List.getElem?_eq_getElem hkn, hrow]
              have hkI : (k : Int) < (L.length : Int) := by omega
              have w1 : IntKind.wrap .i64 ((k : Int) + 1) = (k : Int) + 1 := wrap_in (by omega) (by omega)
              repeat' with_reducible (first
                | refine Wm_seq ?_
                | refine Wm_skip ?_
                | refine Wm_ret ?_
                | refine Wm_block ?_
                | refine Wm_exit ?_
                | refine thenK_normal ?_
                | refine thenK_ret ?_
                | refine thenK_exit ?_
                | refine blockK_normal ?_
                | refine blockK_ret ?_
                | refine blockK_here ?_
                | refine loopK_ret ?_
                | refine loopK_exit ?_
                | refine unK_ret ?_
                | refine unK_exit ?_
                | refine unK_normal ?_
                | refine loopOk_succ ?_
                | refine blockK_exit (by decide) ?_
                | (refine wreg (mos := q11_0) hE [1, 3, 4, 6] (by kernel_rfl) ?_; intro K hK; simp [q11_0, hkn, hkI, hrow, hrow2, w1, d14, d26, d27, d28, d33, d43, d44]; (repeat' (first | refine hK _ _ ?_ | refine And.intro ?_ ?_ | (intro hc; try subst hc))) <;> (try clear hK K))
                | (refine wreg (mos := q11_1) hE [1, 3, 4, 6, 9, 10] (by kernel_rfl) ?_; intro K hK; simp [q11_1, hkn, hkI, hrow, hrow2, w1, d14, d26, d27, d28, d33, d43, d44]; (repeat' (first | refine hK _ _ ?_ | refine And.intro ?_ ?_ | (intro hc; try subst hc))) <;> (try clear hK K))
                | (refine wreg (mos := q11_2) hE [1, 3, 4, 6, 9, 10, 30] (by kernel_rfl) ?_; intro K hK; simp [q11_2, hkn, hkI, hrow, hrow2, w1, d14, d26, d27, d28, d33, d43, d44]; (repeat' (first | refine hK _ _ ?_ | refine And.intro ?_ ?_ | (intro hc; try subst hc))) <;> (try clear hK K))
                | (refine wdraw (mos := q11_3) hE mixT c11_3 [8] (by kernel_rfl) ?_; intro K hK; simp [q11_3, c11_3, hkn, hkI, hrow, hrow2, w1, d14, d26, d27, d28, d33, d43, d44]; (repeat' (first | refine hK _ _ ?_ | refine And.intro ?_ ?_ | (intro hc; try subst hc))) <;> (try clear hK K))
                | (refine wdraw (mos := q11_4) hE mixT c11_4 [11, 12] (by kernel_rfl) ?_; intro K hK; simp [q11_4, c11_4, hkn, hkI, hrow, hrow2, w1, d14, d26, d27, d28, d33, d43, d44]; (repeat' (first | refine hK _ _ ?_ | refine And.intro ?_ ?_ | (intro hc; try subst hc))) <;> (try clear hK K))
                | (refine wreg (mos := q11_5) hE [11, 12, 55] (by kernel_rfl) ?_; intro K hK; simp [q11_5, hkn, hkI, hrow, hrow2, w1, d14, d26, d27, d28, d33, d43, d44]; (repeat' (first | refine hK _ _ ?_ | refine And.intro ?_ ?_ | (intro hc; try subst hc))) <;> (try clear hK K))
                | (refine wreg (mos := q11_6) hE [8] (by kernel_rfl) ?_; intro K hK; simp [q11_6, hkn, hkI, hrow, hrow2, w1, d14, d26, d27, d28, d33, d43, d44]; (repeat' (first | refine hK _ _ ?_ | refine And.intro ?_ ?_ | (intro hc; try subst hc))) <;> (try clear hK K))
                | (refine wreg (mos := q11_7) hE [11, 12, 57, 58] (by kernel_rfl) ?_; intro K hK; simp [q11_7, hkn, hkI, hrow, hrow2, w1, d14, d26, d27, d28, d33, d43, d44]; (repeat' (first | refine hK _ _ ?_ | refine And.intro ?_ ?_ | (intro hc; try subst hc))) <;> (try clear hK K))
                | (refine wreg (mos := q11_8) hE [11, 12, 57, 58, 59] (by kernel_rfl) ?_; intro K hK; simp [q11_8, hkn, hkI, hrow, hrow2, w1, d14, d26, d27, d28, d33, d43, d44]; (repeat' (first | refine hK _ _ ?_ | refine And.intro ?_ ?_ | (intro hc; try subst hc))) <;> (try clear hK K))
                | (refine wreg (mos := q11_9) hE [11, 12, 13, 57, 58] (by kernel_rfl) ?_; intro K hK; simp [q11_9, hkn, hkI, hrow, hrow2, w1, d14, d26, d27, d28, d33, d43, d44]; (repeat' (first | refine hK _ _ ?_ | refine And.intro ?_ ?_ | (intro hc; try subst hc))) <;> (try clear hK K))
                | (refine wdraw (mos := q11_10) hE mixT c11_10 [11, 12, 57, 58, 69] (by kernel_rfl) ?_; intro K hK; simp [q11_10, c11_10, hkn, hkI, hrow, hrow2, w1, d14, d26, d27, d28, d33, d43, d44]; (repeat' (first | refine hK _ _ ?_ | refine And.intro ?_ ?_ | (intro hc; try subst hc))) <;> (try clear hK K))
                | (refine wreg (mos := q11_11) hE [8] (by kernel_rfl) ?_; intro K hK; simp [q11_11, hkn, hkI, hrow, hrow2, w1, d14, d26, d27, d28, d33, d43, d44]; (repeat' (first | refine hK _ _ ?_ | refine And.intro ?_ ?_ | (intro hc; try subst hc))) <;> (try clear hK K))
                | (refine wreg (mos := q11_12) hE [11, 12, 57, 58] (by kernel_rfl) ?_; intro K hK; simp [q11_12, hkn, hkI, hrow, hrow2, w1, d14, d26, d27, d28, d33, d43, d44]; (repeat' (first | refine hK _ _ ?_ | refine And.intro ?_ ?_ | (intro hc; try subst hc))) <;> (try clear hK K))
                | (refine wreg (mos := q11_13) hE [8] (by kernel_rfl) ?_; intro K hK; simp [q11_13, hkn, hkI, hrow, hrow2, w1, d14, d26, d27, d28, d33, d43, d44]; (repeat' (first | refine hK _ _ ?_ | refine And.intro ?_ ?_ | (intro hc; try subst hc))) <;> (try clear hK K))
                | (refine Wm_cond (b := _) (by with_unfolding_all rfl) (fun hc => ?_) (fun hc => ?_) <;> simp at hc <;> (try subst hc)))
              all_goals refine ⟨k + 1, ?_, ?_, ?_⟩
              · exact hkn
              · exact Nat.sub_lt_sub_left hkn (Nat.lt_succ_self k)
              · simp only [I11]
                rw [hS]
                refine Imp.auto (by kernel_rfl) ?_ ?_ <;> simp [nmap, lkp, mkPl, prs, prsL, prT, ddL, idL, NLe, CRenL, CRen, Ren, RenL, NObj.none, hT0, hCl]
            · have hkI : ¬ (k : Int) < (L.length : Int) := by omega
              repeat' with_reducible (first
                | refine Wm_seq ?_
                | refine Wm_skip ?_
                | refine Wm_ret ?_
                | refine Wm_block ?_
                | refine Wm_exit ?_
                | refine thenK_normal ?_
                | refine thenK_ret ?_
                | refine thenK_exit ?_
                | refine blockK_normal ?_
                | refine blockK_ret ?_
                | refine blockK_here ?_
                | refine loopK_ret ?_
                | refine loopK_exit ?_
                | refine unK_ret ?_
                | refine unK_exit ?_
                | refine unK_normal ?_
                | refine loopOk_succ ?_
                | refine blockK_exit (by decide) ?_
                | (refine wreg (mos := q11_0) hE [1, 3, 4, 6] (by kernel_rfl) ?_; intro K hK; simp [q11_0, hkI, d14, d26, d27, d28, d33, d43, d44]; (repeat' (first | refine hK _ _ ?_ | refine And.intro ?_ ?_ | (intro hc; try subst hc))) <;> (try clear hK K))
                | (refine wreg (mos := q11_1) hE [1, 3, 4, 6, 9, 10] (by kernel_rfl) ?_; intro K hK; simp [q11_1, hkI, d14, d26, d27, d28, d33, d43, d44]; (repeat' (first | refine hK _ _ ?_ | refine And.intro ?_ ?_ | (intro hc; try subst hc))) <;> (try clear hK K))
                | (refine wreg (mos := q11_2) hE [1, 3, 4, 6, 9, 10, 30] (by kernel_rfl) ?_; intro K hK; simp [q11_2, hkI, d14, d26, d27, d28, d33, d43, d44]; (repeat' (first | refine hK _ _ ?_ | refine And.intro ?_ ?_ | (intro hc; try subst hc))) <;> (try clear hK K))
                | (refine wdraw (mos := q11_3) hE mixT c11_3 [8] (by kernel_rfl) ?_; intro K hK; simp [q11_3, c11_3, hkI, d14, d26, d27, d28, d33, d43, d44]; (repeat' (first | refine hK _ _ ?_ | refine And.intro ?_ ?_ | (intro hc; try subst hc))) <;> (try clear hK K))
                | (refine wdraw (mos := q11_4) hE mixT c11_4 [11, 12] (by kernel_rfl) ?_; intro K hK; simp [q11_4, c11_4, hkI, d14, d26, d27, d28, d33, d43, d44]; (repeat' (first | refine hK _ _ ?_ | refine And.intro ?_ ?_ | (intro hc; try subst hc))) <;> (try clear hK K))
                | (refine wreg (mos := q11_5) hE [11, 12, 55] (by kernel_rfl) ?_; intro K hK; simp [q11_5, hkI, d14, d26, d27, d28, d33, d43, d44]; (repeat' (first | refine hK _ _ ?_ | refine And.intro ?_ ?_ | (intro hc; try subst hc))) <;> (try clear hK K))
                | (refine wreg (mos := q11_6) hE [8] (by kernel_rfl) ?_; intro K hK; simp [q11_6, hkI, d14, d26, d27, d28, d33, d43, d44]; (repeat' (first | refine hK _ _ ?_ | refine And.intro ?_ ?_ | (intro hc; try subst hc))) <;> (try clear hK K))
                | (refine wreg (mos := q11_7) hE [11, 12, 57, 58] (by kernel_rfl) ?_; intro K hK; simp [q11_7, hkI, d14, d26, d27, d28, d33, d43, d44]; (repeat' (first | refine hK _ _ ?_ | refine And.intro ?_ ?_ | (intro hc; try subst hc))) <;> (try clear hK K))
                | (refine wreg (mos := q11_8) hE [11, 12, 57, 58, 59] (by kernel_rfl) ?_; intro K hK; simp [q11_8, hkI, d14, d26, d27, d28, d33, d43, d44]; (repeat' (first | refine hK _ _ ?_ | refine And.intro ?_ ?_ | (intro hc; try subst hc))) <;> (try clear hK K))
                | (refine wreg (mos := q11_9) hE [11, 12, 13, 57, 58] (by kernel_rfl) ?_; intro K hK; simp [q11_9, hkI, d14, d26, d27, d28, d33, d43, d44]; (repeat' (first | refine hK _ _ ?_ | refine And.intro ?_ ?_ | (intro hc; try subst hc))) <;> (try clear hK K))
                | (refine wdraw (mos := q11_10) hE mixT c11_10 [11, 12, 57, 58, 69] (by kernel_rfl) ?_; intro K hK; simp [q11_10, c11_10, hkI, d14, d26, d27, d28, d33, d43, d44]; (repeat' (first | refine hK _ _ ?_ | refine And.intro ?_ ?_ | (intro hc; try subst hc))) <;> (try clear hK K))
                | (refine wreg (mos := q11_11) hE [8] (by kernel_rfl) ?_; intro K hK; simp [q11_11, hkI, d14, d26, d27, d28, d33, d43, d44]; (repeat' (first | refine hK _ _ ?_ | refine And.intro ?_ ?_ | (intro hc; try subst hc))) <;> (try clear hK K))
                | (refine wreg (mos := q11_12) hE [11, 12, 57, 58] (by kernel_rfl) ?_; intro K hK; simp [q11_12, hkI, d14, d26, d27, d28, d33, d43, d44]; (repeat' (first | refine hK _ _ ?_ | refine And.intro ?_ ?_ | (intro hc; try subst hc))) <;> (try clear hK K))
                | (refine wreg (mos := q11_13) hE [8] (by kernel_rfl) ?_; intro K hK; simp [q11_13, hkI, d14, d26, d27, d28, d33, d43, d44]; (repeat' (first | refine hK _ _ ?_ | refine And.intro ?_ ?_ | (intro hc; try subst hc))) <;> (try clear hK K))
                | (refine Wm_cond (b := _) (by with_unfolding_all rfl) (fun hc => ?_) (fun hc => ?_) <;> simp at hc <;> (try subst hc)))
              all_goals first | (simp; done) | (simp at *; omega) | (simp; refine Imp.auto (by kernel_rfl) ?_ ?_ <;> simp [nmap, lkp, mkPl, prs, prsL, prT, ddL, idL, NLe, CRenL, CRen, Ren, RenL, NObj.none])
      · have hft' : fitsB ma mt md ms mp mw = false := by simpa using hft
        unfold m11
        repeat' with_reducible (first
          | refine Wm_seq ?_
          | refine Wm_skip ?_
          | refine Wm_ret ?_
          | refine Wm_block ?_
          | refine Wm_exit ?_
          | refine thenK_normal ?_
          | refine thenK_ret ?_
          | refine thenK_exit ?_
          | refine blockK_normal ?_
          | refine blockK_ret ?_
          | refine blockK_here ?_
          | refine loopK_ret ?_
          | refine loopK_exit ?_
          | refine unK_ret ?_
          | refine unK_exit ?_
          | refine unK_normal ?_
          | refine loopOk_succ ?_
          | refine blockK_exit (by decide) ?_
          | (refine wreg (mos := q11_0) hE [1, 3, 4, 6] (by kernel_rfl) ?_; intro K hK; simp [q11_0, hck, hft', d14, d26, d27, d28, d33, d43, d44]; (repeat' (first | refine hK _ _ ?_ | refine And.intro ?_ ?_ | (intro hc; try subst hc))) <;> (try clear hK K))
          | (refine wreg (mos := q11_1) hE [1, 3, 4, 6, 9, 10] (by kernel_rfl) ?_; intro K hK; simp [q11_1, hck, hft', d14, d26, d27, d28, d33, d43, d44]; (repeat' (first | refine hK _ _ ?_ | refine And.intro ?_ ?_ | (intro hc; try subst hc))) <;> (try clear hK K))
          | (refine wreg (mos := q11_2) hE [1, 3, 4, 6, 9, 10, 30] (by kernel_rfl) ?_; intro K hK; simp [q11_2, hck, hft', d14, d26, d27, d28, d33, d43, d44]; (repeat' (first | refine hK _ _ ?_ | refine And.intro ?_ ?_ | (intro hc; try subst hc))) <;> (try clear hK K))
          | (refine wdraw (mos := q11_3) hE mixT c11_3 [8] (by kernel_rfl) ?_; intro K hK; simp [q11_3, c11_3, hck, hft', d14, d26, d27, d28, d33, d43, d44]; (repeat' (first | refine hK _ _ ?_ | refine And.intro ?_ ?_ | (intro hc; try subst hc))) <;> (try clear hK K))
          | (refine wdraw (mos := q11_4) hE mixT c11_4 [11, 12] (by kernel_rfl) ?_; intro K hK; simp [q11_4, c11_4, hck, hft', d14, d26, d27, d28, d33, d43, d44]; (repeat' (first | refine hK _ _ ?_ | refine And.intro ?_ ?_ | (intro hc; try subst hc))) <;> (try clear hK K))
          | (refine wreg (mos := q11_5) hE [11, 12, 55] (by kernel_rfl) ?_; intro K hK; simp [q11_5, hck, hft', d14, d26, d27, d28, d33, d43, d44]; (repeat' (first | refine hK _ _ ?_ | refine And.intro ?_ ?_ | (intro hc; try subst hc))) <;> (try clear hK K))
          | (refine wreg (mos := q11_6) hE [8] (by kernel_rfl) ?_; intro K hK; simp [q11_6, hck, hft', d14, d26, d27, d28, d33, d43, d44]; (repeat' (first | refine hK _ _ ?_ | refine And.intro ?_ ?_ | (intro hc; try subst hc))) <;> (try clear hK K))
          | (refine wreg (mos := q11_7) hE [11, 12, 57, 58] (by kernel_rfl) ?_; intro K hK; simp [q11_7, hck, hft', d14, d26, d27, d28, d33, d43, d44]; (repeat' (first | refine hK _ _ ?_ | refine And.intro ?_ ?_ | (intro hc; try subst hc))) <;> (try clear hK K))
          | (refine wreg (mos := q11_8) hE [11, 12, 57, 58, 59] (by kernel_rfl) ?_; intro K hK; simp [q11_8, hck, hft', d14, d26, d27, d28, d33, d43, d44]; (repeat' (first | refine hK _ _ ?_ | refine And.intro ?_ ?_ | (intro hc; try subst hc))) <;> (try clear hK K))
          | (refine wreg (mos := q11_9) hE [11, 12, 13, 57, 58] (by kernel_rfl) ?_; intro K hK; simp [q11_9, hck, hft', d14, d26, d27, d28, d33, d43, d44]; (repeat' (first | refine hK _ _ ?_ | refine And.intro ?_ ?_ | (intro hc; try subst hc))) <;> (try clear hK K))
          | (refine wdraw (mos := q11_10) hE mixT c11_10 [11, 12, 57, 58, 69] (by kernel_rfl) ?_; intro K hK; simp [q11_10, c11_10, hck, hft', d14, d26, d27, d28, d33, d43, d44]; (repeat' (first | refine hK _ _ ?_ | refine And.intro ?_ ?_ | (intro hc; try subst hc))) <;> (try clear hK K))
          | (refine wreg (mos := q11_11) hE [8] (by kernel_rfl) ?_; intro K hK; simp [q11_11, hck, hft', d14, d26, d27, d28, d33, d43, d44]; (repeat' (first | refine hK _ _ ?_ | refine And.intro ?_ ?_ | (intro hc; try subst hc))) <;> (try clear hK K))
          | (refine wreg (mos := q11_12) hE [11, 12, 57, 58] (by kernel_rfl) ?_; intro K hK; simp [q11_12, hck, hft', d14, d26, d27, d28, d33, d43, d44]; (repeat' (first | refine hK _ _ ?_ | refine And.intro ?_ ?_ | (intro hc; try subst hc))) <;> (try clear hK K))
          | (refine wreg (mos := q11_13) hE [8] (by kernel_rfl) ?_; intro K hK; simp [q11_13, hck, hft', d14, d26, d27, d28, d33, d43, d44]; (repeat' (first | refine hK _ _ ?_ | refine And.intro ?_ ?_ | (intro hc; try subst hc))) <;> (try clear hK K))
          | (refine Wm_cond (b := _) (by with_unfolding_all rfl) (fun hc => ?_) (fun hc => ?_) <;> simp at hc <;> (try subst hc)))
        all_goals first | (simp; done) | (simp at *; omega) | (simp[hck, hft']; refine Imp.auto (by kernel_rfl) ?_ ?_ <;> simp [nmap, lkp, mkPl, prs, prsL, prT, ddL, idL, NLe, CRenL, CRen, Ren, RenL, NObj.none, hck, hft'])
    · have h0 : 0 ≤ checkZ a b c d e f g := by
        rcases check_neg (a := a) (b := b) (c := c) (d := d) (e := e) (f := f) (g := g) with h | h
        · exact absurd h hck
        · exact h
      have h0' : ¬ checkZ a b c d e f g < 0 := by omega
      unfold m11
      repeat' with_reducible (first
        | refine Wm_seq ?_
        | refine Wm_skip ?_
        | refine Wm_ret ?_
        | refine Wm_block ?_
        | refine Wm_exit ?_
        | refine thenK_normal ?_
        | refine thenK_ret ?_
        | refine thenK_exit ?_
        | refine blockK_normal ?_
        | refine blockK_ret ?_
        | refine blockK_here ?_
        | refine loopK_ret ?_
        | refine loopK_exit ?_
        | refine unK_ret ?_
        | refine unK_exit ?_
        | refine unK_normal ?_
        | refine loopOk_succ ?_
        | refine blockK_exit (by decide) ?_
        | (refine wreg (mos := q11_0) hE [1, 3, 4, 6] (by kernel_rfl) ?_; intro K hK; simp [q11_0, hck, h0, h0', d14, d26, d27, d28, d33, d43, d44]; (repeat' (first | refine hK _ _ ?_ | refine And.intro ?_ ?_ | (intro hc; try subst hc))) <;> (try clear hK K))
        | (refine wreg (mos := q11_1) hE [1, 3, 4, 6, 9, 10] (by kernel_rfl) ?_; intro K hK; simp [q11_1, hck, h0, h0', d14, d26, d27, d28, d33, d43, d44]; (repeat' (first | refine hK _ _ ?_ | refine And.intro ?_ ?_ | (intro hc; try subst hc))) <;> (try clear hK K))
        | (refine wreg (mos := q11_2) hE [1, 3, 4, 6, 9, 10, 30] (by kernel_rfl) ?_; intro K hK; simp [q11_2, hck, h0, h0', d14, d26, d27, d28, d33, d43, d44]; (repeat' (first | refine hK _ _ ?_ | refine And.intro ?_ ?_ | (intro hc; try subst hc))) <;> (try clear hK K))
        | (refine wdraw (mos := q11_3) hE mixT c11_3 [8] (by kernel_rfl) ?_; intro K hK; simp [q11_3, c11_3, hck, h0, h0', d14, d26, d27, d28, d33, d43, d44]; (repeat' (first | refine hK _ _ ?_ | refine And.intro ?_ ?_ | (intro hc; try subst hc))) <;> (try clear hK K))
        | (refine wdraw (mos := q11_4) hE mixT c11_4 [11, 12] (by kernel_rfl) ?_; intro K hK; simp [q11_4, c11_4, hck, h0, h0', d14, d26, d27, d28, d33, d43, d44]; (repeat' (first | refine hK _ _ ?_ | refine And.intro ?_ ?_ | (intro hc; try subst hc))) <;> (try clear hK K))
        | (refine wreg (mos := q11_5) hE [11, 12, 55] (by kernel_rfl) ?_; intro K hK; simp [q11_5, hck, h0, h0', d14, d26, d27, d28, d33, d43, d44]; (repeat' (first | refine hK _ _ ?_ | refine And.intro ?_ ?_ | (intro hc; try subst hc))) <;> (try clear hK K))
        | (refine wreg (mos := q11_6) hE [8] (by kernel_rfl) ?_; intro K hK; simp [q11_6, hck, h0, h0', d14, d26, d27, d28, d33, d43, d44]; (repeat' (first | refine hK _ _ ?_ | refine And.intro ?_ ?_ | (intro hc; try subst hc))) <;> (try clear hK K))
        | (refine wreg (mos := q11_7) hE [11, 12, 57, 58] (by kernel_rfl) ?_; intro K hK; simp [q11_7, hck, h0, h0', d14, d26, d27, d28, d33, d43, d44]; (repeat' (first | refine hK _ _ ?_ | refine And.intro ?_ ?_ | (intro hc; try subst hc))) <;> (try clear hK K))
        | (refine wreg (mos := q11_8) hE [11, 12, 57, 58, 59] (by kernel_rfl) ?_; intro K hK; simp [q11_8, hck, h0, h0', d14, d26, d27, d28, d33, d43, d44]; (repeat' (first | refine hK _ _ ?_ | refine And.intro ?_ ?_ | (intro hc; try subst hc))) <;> (try clear hK K))
        | (refine wreg (mos := q11_9) hE [11, 12, 13, 57, 58] (by kernel_rfl) ?_; intro K hK; simp [q11_9, hck, h0, h0', d14, d26, d27, d28, d33, d43, d44]; (repeat' (first | refine hK _ _ ?_ | refine And.intro ?_ ?_ | (intro hc; try subst hc))) <;> (try clear hK K))
        | (refine wdraw (mos := q11_10) hE mixT c11_10 [11, 12, 57, 58, 69] (by kernel_rfl) ?_; intro K hK; simp [q11_10, c11_10, hck, h0, h0', d14, d26, d27, d28, d33, d43, d44]; (repeat' (first | refine hK _ _ ?_ | refine And.intro ?_ ?_ | (intro hc; try subst hc))) <;> (try clear hK K))
        | (refine wreg (mos := q11_11) hE [8] (by kernel_rfl) ?_; intro K hK; simp [q11_11, hck, h0, h0', d14, d26, d27, d28, d33, d43, d44]; (repeat' (first | refine hK _ _ ?_ | refine And.intro ?_ ?_ | (intro hc; try subst hc))) <;> (try clear hK K))
        | (refine wreg (mos := q11_12) hE [11, 12, 57, 58] (by kernel_rfl) ?_; intro K hK; simp [q11_12, hck, h0, h0', d14, d26, d27, d28, d33, d43, d44]; (repeat' (first | refine hK _ _ ?_ | refine And.intro ?_ ?_ | (intro hc; try subst hc))) <;> (try clear hK K))
        | (refine wreg (mos := q11_13) hE [8] (by kernel_rfl) ?_; intro K hK; simp [q11_13, hck, h0, h0', d14, d26, d27, d28, d33, d43, d44]; (repeat' (first | refine hK _ _ ?_ | refine And.intro ?_ ?_ | (intro hc; try subst hc))) <;> (try clear hK K))
        | (refine Wm_cond (b := _) (by with_unfolding_all rfl) (fun hc => ?_) (fun hc => ?_) <;> simp at hc <;> (try subst hc)))
      all_goals first | (simp; done) | (simp at *; omega) | (simp[hck]; refine Imp.auto (by kernel_rfl) ?_ ?_ <;> simp [nmap, lkp, mkPl, prs, prsL, prT, ddL, idL, NLe, CRenL, CRen, Ren, RenL, NObj.none, hck])
  · cases h
end Go.W
