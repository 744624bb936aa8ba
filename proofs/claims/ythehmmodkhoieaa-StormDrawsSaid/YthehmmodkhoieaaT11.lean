import Derived.Test.YthehmmodkhoieaaT8
import Derived.Test.YthehmmodkhoieaaT2
namespace Go.Vc
open Go.Proofs
set_option linter.unusedSimpArgs false
set_option linter.unusedVariables false
set_option maxHeartbeats 4000000
attribute [local irreducible] Wm

def rowInt : List AV → Bool
  | [.int .i64 _] => true
  | _ => false

def val1 : List AV → Int
  | [.int .i64 v] => v
  | _ => 0

theorem rowInt_some {l : List AV} (h : rowInt l = true) : l = [.int .i64 (val1 l)] := by
  unfold rowInt at h
  split at h
  · rfl
  · cases h

theorem LeW_two {v w : AV} {o o' : AObj} {hl : List (Nat × AObj)} {nb : Nat} (hv : Ren [(0, some 0), (1, some 1)] v w) (ho : ObjLe [(0, some 0), (1, some 1)] (hk hl 0) o) (ho' : ObjLe [(0, some 0), (1, some 1)] (hk hl 1) o') : LeW 2 [(0, some 0), (1, some 1)] ⟨[(0, v)], hl, nb⟩ ⟨[(0, w)], [(0, o), (1, o')], 2⟩ :=
  ⟨fun x h => by have : x = 0 ∨ x = 1 := by omega
                 rcases this with rfl | rfl <;> rfl, by simp, by simp, by simp, by simpa [lk] using hv, by simpa [ObjRen, lkp] using ⟨ho, ho'⟩⟩

def pickZ (s : Int) (n : Nat) (f : Nat → List AV) : Int := if n = 0 then 0 else val1 (f (belowZ s n).toNat)

def d18 : List DP → Option Ans
  | [.p [.int .u64 s], .s 1 n f] => if allN n (fun j => rowInt (f j)) = true ∧ n ≤ 9223372036854775807 then some ⟨.int .i64 (pickZ s n f), [.cells [.int .u64 (if n = 0 then s else nextS s)], .free], []⟩ else none
  | _ => none

theorem fl18 : ∀ ds r, d18 ds = some r → ∀ d, d ∈ ds → d.flat := by
  intro ds r h
  unfold d18 at h
  split at h
  · split at h
    · rename_i s n f hc
      have hr := allN_iff.1 hc.1
      intro d hd
      simp only [List.mem_cons, List.not_mem_nil, or_false] at hd
      rcases hd with rfl | rfl
      · simp [DP.flat, flatB]
      · intro j hj
        rw [rowInt_some (hr j hj)]; rfl
    · cases h
  · cases h

theorem s18 : Sound Try.prog 18 (objS [0, 1] d18 fl18) := by
  refine objS_sound Try.func18 nm18 rc18 rv18 fl18 ?_ ?_
  · intro ds r h
    unfold d18 at h
    split at h
    · split at h
      · injection h with h; subst h; refine ⟨?_, Nat.le_of_ble_eq_true rfl⟩; simp [objOk]
      · cases h
    · cases h
  intro ds r h w0 S hS
  unfold d18 at h
  split at h
  · split at h
    · rename_i s n f hc
      injection h with h
      subst h
      obtain ⟨hrow, hn⟩ := hc
      have hrow := allN_iff.1 hrow
      have hE : SoundAll Try.prog (EL [(16, objS [0] d16 fl16)]) := EL_sound (by simp only [List.mem_cons, List.not_mem_nil, or_false, forall_eq_or_imp, forall_eq]; exact s16)
      by_cases h1 : n = 0
      · subst h1
        unfold m18
        repeat' with_reducible (first
          | refine Wm_seq ?_
          | refine Wm_skip ?_
          | refine Wm_ret ?_
          | refine Wm_block ?_
          | refine Wm_exit ?_
          | refine thenK_normal ?_
          | refine thenK_ret ?_
          | refine thenK_exit ?_
          | refine blockK_normal ?_
          | refine blockK_ret ?_
          | refine blockK_here ?_
          | refine loopK_ret ?_
          | refine loopK_exit ?_
          | refine blockK_exit (by decide) ?_
          | (refine wreg (mos := q18_0) hE [0, 1] (by kernel_rfl) ?_; intro K hK; simp [q18_0, d16]; (repeat' (first | refine hK _ _ ?_ | refine And.intro ?_ ?_ | intro hc)) <;> (try clear hK K) <;> (try subst_vars))
          | (refine wreg (mos := q18_1) hE [0, 1, 7] (by kernel_rfl) ?_; intro K hK; simp [q18_1, d16]; (repeat' (first | refine hK _ _ ?_ | refine And.intro ?_ ?_ | intro hc)) <;> (try clear hK K) <;> (try subst_vars))
          | (refine wreg (mos := q18_2) hE [4] (by kernel_rfl) ?_; intro K hK; simp [q18_2, d16]; (repeat' (first | refine hK _ _ ?_ | refine And.intro ?_ ?_ | intro hc)) <;> (try clear hK K) <;> (try subst_vars))
          | (refine wreg (mos := q18_3) hE [4] (by kernel_rfl) ?_; intro K hK; simp [q18_3, d16]; (repeat' (first | refine hK _ _ ?_ | refine And.intro ?_ ?_ | intro hc)) <;> (try clear hK K) <;> (try subst_vars))
          | (refine Wm_cond (b := _) (by with_unfolding_all rfl) (fun hc => ?_) (fun hc => ?_) <;> simp at hc <;> (try subst_vars)))
        all_goals (simp; exact ⟨_, LeW_two (by simp [Ren, pickZ]) (by simp [hk, ObjLe, RenL, Ren]) (by simp [ObjLe])⟩)
      · have hb := below_in (s := s) (n := n) (by omega)
        have hn' : (n : Int) ≤ 9223372036854775807 := by omega
        obtain ⟨v, hel⟩ : ∃ v, f (belowZ s n).toNat = [.int .i64 v] := ⟨_, rowInt_some (hrow (belowZ s n).toNat (by omega))⟩
        have hlt : (belowZ s n).toNat < n := by omega
        unfold m18
        repeat' with_reducible (first
          | refine Wm_seq ?_
          | refine Wm_skip ?_
          | refine Wm_ret ?_
          | refine Wm_block ?_
          | refine Wm_exit ?_
          | refine thenK_normal ?_
          | refine thenK_ret ?_
          | refine thenK_exit ?_
          | refine blockK_normal ?_
          | refine blockK_ret ?_
          | refine blockK_here ?_
          | refine loopK_ret ?_
          | refine loopK_exit ?_
          | refine blockK_exit (by decide) ?_
          | (refine wreg (mos := q18_0) hE [0, 1] (by kernel_rfl) ?_; intro K hK; simp [q18_0, d16, h1, hn', hb.1, hb.2, hlt, hel]; (repeat' (first | refine hK _ _ ?_ | refine And.intro ?_ ?_ | intro hc)) <;> (try clear hK K) <;> (try subst_vars))
          | (refine wreg (mos := q18_1) hE [0, 1, 7] (by kernel_rfl) ?_; intro K hK; simp [q18_1, d16, h1, hn', hb.1, hb.2, hlt, hel]; (repeat' (first | refine hK _ _ ?_ | refine And.intro ?_ ?_ | intro hc)) <;> (try clear hK K) <;> (try subst_vars))
          | (refine wreg (mos := q18_2) hE [4] (by kernel_rfl) ?_; intro K hK; simp [q18_2, d16, h1, hn', hb.1, hb.2, hlt, hel]; (repeat' (first | refine hK _ _ ?_ | refine And.intro ?_ ?_ | intro hc)) <;> (try clear hK K) <;> (try subst_vars))
          | (refine wreg (mos := q18_3) hE [4] (by kernel_rfl) ?_; intro K hK; simp [q18_3, d16, h1, hn', hb.1, hb.2, hlt, hel]; (repeat' (first | refine hK _ _ ?_ | refine And.intro ?_ ?_ | intro hc)) <;> (try clear hK K) <;> (try subst_vars))
          | (refine Wm_cond (b := _) (by with_unfolding_all rfl) (fun hc => ?_) (fun hc => ?_) <;> simp at hc <;> (try subst_vars)))
        all_goals (simp; exact ⟨_, LeW_two (by simp [Ren, pickZ, h1, hel, val1]) (by simp [hk, ObjLe, RenL, Ren, h1]) (by simp [ObjLe])⟩)
    · cases h
  · cases h
end Go.Vc
