/- An operation on a map does what its step says. -/
import Derived.Test.YtfkdcpgphindiaaWMb
set_option linter.unusedSimpArgs false
set_option linter.unusedVariables false
namespace Go.W
open Go.ChangeMaps (setBlock)

section
variable {P : Program} {w0 w1 : World} {S S1 : Sc} {Es : Env → Prop} {U : Nm → Prop} {T : Nat → AV} {H : Nm → AObj} {a : Act} {w : World} {ms : Ms}

theorem Chg.refl (w : World) : Chg w w w.heap.size := ⟨rfl, rfl, rfl, Nat.le_refl _, fun _ _ _ => rfl, fun h => absurd h (Nat.lt_irrefl _)⟩
theorem Chg.alloc (w : World) (o : Obj) : Chg w (w.alloc o) w.heap.size :=
  ⟨rfl, rfl, rfl, by rw [show (w.alloc o).heap.size = w.heap.size + 1 from Array.size_push ..]; omega, fun b hb _ => by show (w.heap.push o)[b]? = _; rw [Array.getElem?_push]; rw [if_neg (by omega)], fun h => absurd h (Nat.lt_irrefl _)⟩
theorem Chg.set {w w1 : World} (hw : w1.heap = w.heap ∧ w1.os = w.os ∧ w1.tape = w.tape ∧ w1.output = w.output) (b : Nat) (o : Obj) (hz : ∀ off, w.cell? ⟨b, off, none⟩ = none) : Chg w (setBlock w1 b o) b := by
  obtain ⟨h1, h2, h3, h4⟩ := hw
  refine ⟨h2, h3, h4, by simp [setBlock, h1], fun b' hb hne => ?_, fun _ => hz⟩
  simp only [setBlock, h1]
  rw [Array.getElem?_setIfInBounds_ne (fun e => hne e.symm)]

theorem setBlock_at {w w1 : World} (hw : w1.heap = w.heap) {b : Nat} (hb : b < w.heap.size) (o : Obj) : (setBlock w1 b o).heap[b]? = some o := by
  simp only [setBlock, hw]
  rw [Array.getElem?_setIfInBounds_self]
  simp [hb]

/-- What goes on behind an operation on a map. -/
def Goes (w0 : World) (S : Sc) (Es : Env → Prop) (U : Nm → Prop) (T : Nat → AV) (H : Nm → AObj) (P : Program) (a : Act) (w : World) (o : Oper) (K : AV → Ms → Prop) : Prop :=
  ∃ (v : AV) (ms' : Ms) (w' w1' : World) (S1' : Sc) (nx : Next), (execOp a.eval o).run P w = .ok nx w' ∧ ((∃ u, nx = .value u ∧ ∀ ρ, Es ρ → Rep ρ v u) ∨ (nx = .skip ∧ v = .bot)) ∧ Upon w0 S w1' S1' ∧ Sat w1' S1' Es U T H a w' ∧ MsOk w0 w1' S1' ms' ∧ K v ms'

theorem evRaw (h : Sat w1 S1 Es U T H a w) (x : Operand) {u : Value} (hx : (rX x).ev T = .raw u) : a.eval x = u := by
  obtain ⟨ρ, hρ⟩ := h.ne
  have := h.ev hρ x
  rw [hx, Rep] at this
  exact this
theorem evInt (h : Sat w1 S1 Es U T H a w) (x : Operand) {k : IntKind} {n : Int} (hx : (rX x).ev T = .int k n) : a.eval x = .int k n := by
  obtain ⟨ρ, hρ⟩ := h.ne
  have := h.ev hρ x
  rw [hx, Rep] at this
  exact this

theorem new_obj (h : Sat w1 S1 Es U T H a w) (hu : Upon w0 S w1 S1) (hm : MsOk w0 w1 S1 ms) {o : Oper} {ob : Obj} {x : XObj} {v : AV} {u : Value} (hrun : (execOp a.eval o).run P w = .ok (.value u) (w.alloc ob)) (hx : XOk (w.alloc ob) w.heap.size x) (hv : ∀ ρ, Rep ρ v u) {K : AV → Ms → Prop} (hK : getM ms w.heap.size = none → K v ((w.heap.size, x) :: ms)) : Goes w0 S Es U T H P a w o K := by
  obtain ⟨ρ0, h0⟩ := h.ne
  have c := h.hp ρ0 h0
  have hc := Chg.alloc w ob
  have hnot : w.heap.size ∉ ms.map (·.1) := fun hin => by
    obtain ⟨p, hp, e⟩ := List.mem_map.1 hin
    have := (hm.now h hp).2
    omega
  refine ⟨v, _, _, _, _, _, hrun, .inl ⟨u, rfl, fun ρ _ => hv ρ⟩, hu.next h hc (by have := hu.size; have := c.size; omega), h.rebase hc (fun hlt => absurd hlt (Nat.lt_irrefl _)), ⟨?_, fun p hp => ?_⟩, hK (getM_none hnot)⟩
  · simp only [List.map_cons, List.nodup_cons]; exact ⟨hnot, hm.nd⟩
  · rcases List.mem_cons.1 hp with rfl | hp
    · refine ⟨hx, by rw [show (w.alloc ob).heap.size = w.heap.size + 1 from Array.size_push ..]; exact Nat.lt_succ_self _, fun ⟨ρ, y, hρ, hy, e⟩ => ?_, by have := hu.size; have := c.size; show w0.heap.size ≤ w.heap.size; omega⟩
      have := ((h.hp ρ hρ).own y hy).1
      simp only at e
      omega
    · exact hm.keep h hc hp (fun e => hnot (by rw [← e]; exact List.mem_map_of_mem hp))

theorem set_obj (h : Sat w1 S1 Es U T H a w) (hu : Upon w0 S w1 S1) (hm : MsOk w0 w1 S1 ms) {o : Oper} {ob : Obj} {b : Nat} {x0 x : XObj} {v : AV} {nx : Next} {wd : World} (hb : getM ms b = some x0) (hw : wd.heap = w.heap ∧ wd.os = w.os ∧ wd.tape = w.tape ∧ wd.output = w.output) (hrun : (execOp a.eval o).run P w = .ok nx (setBlock wd b ob)) (hx : XOk (setBlock wd b ob) b x) (hv : (∃ u, nx = .value u ∧ ∀ ρ, Rep ρ v u) ∨ (nx = .skip ∧ v = .bot)) {K : AV → Ms → Prop} (hK : K v (setM ms b x)) : Goes w0 S Es U T H P a w o K := by
  have hin := getM_mem hb
  obtain ⟨q1, q2⟩ := hm.now h hin
  obtain ⟨_, q3, q4, q5⟩ := hm.ok _ hin
  have hc := Chg.set hw b ob (fun off => q1.noncell off)
  refine ⟨v, _, _, _, _, _, hrun, hv.imp (fun ⟨u, h1, h2⟩ => ⟨u, h1, fun ρ _ => h2 ρ⟩) id, hu.next h hc q5, h.rebase hc (fun _ => ⟨q4, q3⟩), ⟨by rw [setM_keys]; exact hm.nd, fun p hp => ?_⟩, hK⟩
  rcases setM_mem hm.nd hp with rfl | ⟨hp, hne⟩
  · refine ⟨hx, Nat.lt_of_lt_of_le q2 hc.size, not_owned hm h (List.mem_map.2 ⟨_, hin, rfl⟩), q5⟩
  · exact hm.keep h hc hp hne

theorem same_obj (h : Sat w1 S1 Es U T H a w) (hu : Upon w0 S w1 S1) (hm : MsOk w0 w1 S1 ms) {o : Oper} {v : AV} {u : Value} {wd : World} (hw : wd = w ∨ wd = w.drew) (hrun : (execOp a.eval o).run P w = .ok (.value u) wd) (hv : ∀ ρ, Rep ρ v u) {K : AV → Ms → Prop} (hK : K v ms) : Goes w0 S Es U T H P a w o K := by
  refine ⟨v, ms, wd, w1, S1, _, hrun, .inl ⟨u, rfl, fun ρ _ => hv ρ⟩, hu, ?_, hm, hK⟩
  rcases hw with rfl | rfl
  · exact h
  · exact ⟨h.ne, h.cl, h.fr, h.pin, h.tm, fun ρ hρ => (h.hp ρ hρ).drew⟩

theorem stand_of {w : World} {b : Nat} {es : List (Int × AV)} (h : XOk w b (.mp es)) : ∃ ents : Array MapEntry, w.heap[b]? = some (.map ents es.length) ∧ Stand es ents.toList 0 := by
  obtain ⟨ents, h1, h2, h3⟩ := h
  exact ⟨ents, h1, by simpa using h2, fun i k v hi => by
    obtain ⟨x, h4, h5⟩ := h3 i k v hi
    exact ⟨x, by rw [Nat.zero_add]; simpa using h4, h5⟩⟩

theorem find_key {w : World} {k : TypeId} (hk : P.underlying k = some (.int .i64)) {n : Int} {ents : List MapEntry} {r : Option (Nat × Value)} (h : Instr.findNow (.int .i64) (.int .i64 n) ents 0 = some r) : (Instr.findKey k (.int .i64 n) ents).run P w = .ok r w := by
  simp [Instr.findKey, run_underlying hk, h]
theorem check_key {w : World} {k : TypeId} (hk : P.underlying k = some (.int .i64)) (e : Bool) (n : Int) (d : Nat) : (Instr.checkKey e (d + 1) k (.int .i64 n)).run P w = .ok () w := by
  simp [Instr.checkKey, run_underlying hk]

theorem born_of {es : List (Int × AV)} {ents : Array MapEntry} (hst : Stand es ents.toList 0) {i : Nat} (hi : i < es.length) : ∃ k v x, es[i]? = some (k, v) ∧ ents[i]? = some ⟨.int .i64 k, x, i⟩ ∧ ∀ ρ, Rep ρ v x := by
  obtain ⟨x, h1, h2⟩ := hst.2 i es[i].1 es[i].2 (List.getElem?_eq_getElem hi)
  exact ⟨es[i].1, es[i].2, x, List.getElem?_eq_getElem hi, by rw [Nat.zero_add] at h1; simpa using h1, h2⟩

theorem borns {es : List (Int × AV)} {ents : Array MapEntry} (hst : Stand es ents.toList 0) : ents.toList.map (·.born) = List.range es.length := by
  apply List.ext_getElem?
  intro i
  by_cases hi : i < es.length
  · obtain ⟨k, v, x, _, h2, _⟩ := born_of hst hi
    have h2' : ents.toList[i]? = some ⟨.int .i64 k, x, i⟩ := by simpa using h2
    rw [List.getElem?_map, h2', List.getElem?_range hi]; rfl
  · rw [List.getElem?_map, List.getElem?_eq_none (by have := hst.1; omega), List.getElem?_eq_none (by rw [List.length_range]; omega)]; rfl

set_option maxHeartbeats 1000000 in
/-- AN OPERATION ON A MAP. -/
theorem map_ok (h : Sat w1 S1 Es U T H a w) (hu : Upon w0 S w1 S1) (hms : MsOk w0 w1 S1 ms) {o : Oper} {mo : MapOp} (hm : rOp P o.op = some (.mp mo)) {K : AV → Ms → Prop} (hst : mapStep T ms mo K) : Goes w0 S Es U T H P a w o K := by
  have hof := rOp_mp hm
  generalize hop : o.op = op at hof
  cases hof with
  | mk t e ht =>
    have hr : (Instr.makeMap t none).run P w = .ok (.map (some w.heap.size)) (w.alloc (.map #[] 0)) := rfl
    exact new_obj h hu hms (ob := .map #[] 0) (x := .mp []) (v := .raw (.map (some w.heap.size))) (u := .map (some w.heap.size)) (by simp [execOp, hop, hr]) ⟨#[], by show (w.heap.push _)[w.heap.size]? = _; simp, rfl, fun i k v hi => by simp at hi⟩ (fun ρ => by rw [Rep]) (fun hn => hst _ hn)
  | lk t e ok z x k ht hz =>
    obtain ⟨kt, hu1, hu2⟩ := mapE_of ht
    simp only [mapStep] at hst
    split at hst
    · rename_i b n hx hk
      split at hst
      · rename_i es hb
        obtain ⟨ents, q1, q2⟩ := stand_of (hms.now h (getM_mem hb)).1
        have e1 := evRaw h x hx
        have e2 := evInt h k hk
        obtain ⟨zv, hz1, hz2⟩ := zeroV_run hz
        rcases find_stand es ents.toList 0 0 n q2 with ⟨h1, h2⟩ | ⟨i, k', v', x', h1, h2, h3, h4, h5, h6, h7⟩
        · rw [h1] at hst
          refine same_obj h hu hms (v := lkV ok z none) (u := if ok then .tuple #[zv, .bool false] else zv) (.inl rfl) ?_ (fun ρ => ?_) hst
          · cases ok <;> simp [execOp, hop, e1, e2, Instr.lookup, run_underlying hu1, getObj, Sem.run, q1, check_key hu2, find_key hu2 h2, hz1]
          · cases ok
            · exact hz2 ρ
            · simp only [lkV, if_true, Rep]; exact ⟨_, rfl, RepL.cons (hz2 ρ) (RepL.cons (by simp [Rep]) rfl)⟩
        · rw [h3] at hst
          refine same_obj h hu hms (v := lkV ok z (some v')) (u := if ok then .tuple #[x', .bool true] else x') (.inl rfl) ?_ (fun ρ => ?_) hst
          · cases ok <;> simp [execOp, hop, e1, e2, Instr.lookup, run_underlying hu1, getObj, Sem.run, q1, check_key hu2, find_key hu2 h5]
          · cases ok
            · exact h4 ρ
            · simp only [lkV, if_true, Rep]; exact ⟨_, rfl, RepL.cons (h4 ρ) (RepL.cons (by simp [Rep]) rfl)⟩
      · exact hst.elim
    · exact hst.elim
  | up t e x k v ht =>
    obtain ⟨kt, hu1, hu2⟩ := mapE_of ht
    simp only [mapStep] at hst
    split at hst
    · rename_i b n hx hk
      split at hst
      · rename_i es hb
        obtain ⟨hd, hst⟩ := hst
        obtain ⟨q0, qlt⟩ := hms.now h (getM_mem hb)
        obtain ⟨ents, q1, q2⟩ := stand_of q0
        have e1 := evRaw h x hx
        have e2 := evInt h k hk
        have hv : ∀ ρ, Rep ρ ((rX v).ev T) (a.eval v) := fun ρ => by
          obtain ⟨ρ0, h0⟩ := h.ne
          exact dat_rep hd (h.ev h0 v)
        rcases find_stand es ents.toList 0 0 n q2 with ⟨h1, h2⟩ | ⟨i, k', v', x', h1, h2, h3, h4, h5, h6, h7⟩
        · refine set_obj h hu hms (ob := .map (ents.push ⟨.int .i64 n, a.eval v, es.length⟩) (es.length + 1)) (wd := w) (v := .bot) (nx := .skip) hb ⟨rfl, rfl, rfl, rfl⟩ ?_ ?_ (.inr ⟨rfl, rfl⟩) hst
          · simp [execOp, hop, e1, e2, Instr.mapUpdate, run_underlying hu1, getObj, Sem.run, q1, check_key hu2, find_key hu2 h2, setObj, setBlock]
          · rw [putE_none h1]
            refine ⟨ents.push ⟨.int .i64 n, a.eval v, es.length⟩, by rw [setBlock_at rfl qlt, List.length_append]; rfl, by have := q2.1; simp at this; simp [this], fun i k v' hi => ?_⟩
            by_cases hlt : i < es.length
            · rw [List.getElem?_append_left hlt] at hi
              obtain ⟨x, g1, g2⟩ := q2.2 i k v' hi
              refine ⟨x, ?_, g2⟩
              rw [Array.getElem?_push, if_neg (by have := q2.1; simp at this; omega)]
              rw [Nat.zero_add] at g1
              simpa using g1
            · rw [List.getElem?_append_right (by omega)] at hi
              have hi0 : i - es.length = 0 := by
                have := (List.getElem?_eq_some_iff.1 hi).1
                simp at this; omega
              rw [hi0] at hi
              simp at hi
              obtain ⟨rfl, rfl⟩ := hi
              have hie : i = es.length := by omega
              subst hie
              have hsz : ents.size = es.length := by simpa using q2.1
              exact ⟨a.eval v, by rw [Array.getElem?_push, if_pos hsz.symm], hv⟩
        · have hsz : ents.size = es.length := by simpa using q2.1
          have hil : i < es.length := (List.getElem?_eq_some_iff.1 h1).1
          subst h2
          have h7' : ents[i]? = some ⟨.int .i64 k', x', i⟩ := by rw [Nat.zero_add] at h7; simpa using h7
          refine set_obj h hu hms (ob := .map (ents.modify i fun e => { e with key := .int .i64 k', val := a.eval v }) es.length) (wd := w) (v := .bot) (nx := .skip) hb ⟨rfl, rfl, rfl, rfl⟩ ?_ ?_ (.inr ⟨rfl, rfl⟩) hst
          · simp [execOp, hop, e1, e2, Instr.mapUpdate, run_underlying hu1, getObj, Sem.run, q1, check_key hu2, find_key hu2 h5, setObj, setBlock, h7', Instr.keyThatStays, Instr.sameBits]
          · rw [putE_at h1 rfl h6]
            refine ⟨_, by rw [setBlock_at rfl qlt, List.length_set], by simp [hsz], fun j k v' hj => ?_⟩
            by_cases e : j = i
            · subst e
              rw [List.getElem?_set_self hil] at hj
              simp at hj
              obtain ⟨rfl, rfl⟩ := hj
              exact ⟨a.eval v, by rw [Array.getElem?_modify, if_pos rfl, h7']; rfl, hv⟩
            · rw [List.getElem?_set_ne (fun e' => e e'.symm)] at hj
              obtain ⟨x, g1, g2⟩ := q2.2 j k v' hj
              rw [Nat.zero_add] at g1
              exact ⟨x, by rw [Array.getElem?_modify, if_neg (fun e' => e e'.symm)]; simpa using g1, g2⟩
      · exact hst.elim
    · exact hst.elim
  | en t e z x k ht hz => exact hst.elim
  | st t e x s v ht => exact hst.elim
  | rg t e x ht =>
    obtain ⟨kt, hu1, hu2⟩ := mapE_of ht
    simp only [mapStep] at hst
    split at hst
    · rename_i b hx
      split at hst
      · rename_i es hb
        obtain ⟨ents, q1, q2⟩ := stand_of (hms.now h (getM_mem hb)).1
        have e1 := evRaw h x hx
        have hr : (Instr.range t (.map (some b))).run P w = .ok (.pointer (some ⟨w.heap.size, 0, none⟩)) (w.alloc (.mapIter (some b) es.length #[] es.length)) := by
          have e : (newObj (.mapIter (some b) es.length #[] es.length)).run P w = .ok w.heap.size (w.alloc (.mapIter (some b) es.length #[] es.length)) := rfl
          simp [Instr.range, run_underlying hu1, getObj, Sem.run, q1, e]
        exact new_obj h hu hms (ob := .mapIter (some b) es.length #[] es.length) (x := .it b es.length []) (v := .raw (.pointer (some ⟨w.heap.size, 0, none⟩))) (u := .pointer (some ⟨w.heap.size, 0, none⟩)) (by simp [execOp, hop, e1, hr]) (by show (w.heap.push _)[w.heap.size]? = _; simp) (fun ρ => by rw [Rep]) (fun hn => hst _ hn)
      · exact hst.elim
    · exact hst.elim
  | nx x =>
    simp only [mapStep] at hst
    split at hst
    · rename_i b' hx
      split at hst
      · rename_i b n seen hb'
        split at hst
        · rename_i es hb
          obtain ⟨hn, hs1, hs2⟩ := hst
          subst hn
          obtain ⟨ents, q1, q2⟩ := stand_of (hms.now h (getM_mem hb)).1
          obtain ⟨q3, q4⟩ := hms.now h (getM_mem hb')
          have q3' : w.heap[b']? = some (.mapIter (some b) es.length seen.toArray es.length) := q3
          have e1 := evRaw h x hx
          have hsz : ents.size = es.length := by simpa using q2.1
          rcases run_next_at (P := P) w o.type b' b es.length es.length seen.toArray ents es.length q3' q1 (fun y hy => by
            have : y.born ∈ ents.toList.map (·.born) := List.mem_map_of_mem hy
            rw [borns q2] at this
            exact List.mem_range.1 this) (Nat.le_refl _) with ⟨hl, hr⟩ | ⟨y, hy, wd, hwd, hr⟩
          · refine same_obj h hu hms (v := .tup [.bool false]) (u := .tuple #[.bool false]) (.inl rfl) (by simp [execOp, hop, e1, hr]) (fun ρ => by rw [Rep]; exact ⟨_, rfl, RepL.cons (by simp [Rep]) rfl⟩) (hs2 fun j hj => ?_)
            obtain ⟨k, v, x, g1, g2, g3⟩ := born_of q2 hj
            have hz : Array.filter (fun e => !seen.toArray.contains e.born) ents = #[] := Array.eq_empty_of_size_eq_zero hl
            rw [Array.filter_eq_empty_iff] at hz
            have := hz _ (Array.mem_of_getElem? g2)
            simpa using this
          · have hy' : y ∈ Array.filter (fun e => !seen.toArray.contains e.born) ents := Array.mem_toList_iff.1 hy
            rw [Array.mem_filter] at hy'
            obtain ⟨hy1, hy2⟩ := hy'
            obtain ⟨j, hj⟩ := Array.getElem?_of_mem hy1
            have hjl : j < es.length := by have := (Array.getElem?_eq_some_iff.1 hj).1; omega
            obtain ⟨k, v, x, g1, g2, g3⟩ := born_of q2 hjl
            rw [hj] at g2
            injection g2 with g2
            subst g2
            have hws : wd.heap = w.heap ∧ wd.os = w.os ∧ wd.tape = w.tape ∧ wd.output = w.output := by
              rcases hwd with e | e <;> rw [e] <;> exact ⟨rfl, rfl, rfl, rfl⟩
            refine set_obj h hu hms (ob := .mapIter (some b) es.length (seen.toArray.push j) es.length) (v := .tup [.bool true, .int .i64 k, v]) (nx := .value (.tuple #[.bool true, .int .i64 k, x])) hb' hws (by simp [execOp, hop, e1, hr]) ?_ (.inl ⟨_, rfl, fun ρ => by rw [Rep]; exact ⟨_, rfl, RepL.cons (by simp [Rep]) (RepL.cons (by simp [Rep]) (RepL.cons (g3 ρ) rfl))⟩⟩) (hs1 j k v g1 (by simpa using hy2))
            show (setBlock wd b' _).heap[b']? = _
            rw [setBlock_at hws.1 q4]
            simp
        · exact hst.elim
      · exact hst.elim
    · exact hst.elim
  | nt x =>
    simp only [mapStep] at hst
    split at hst
    · rename_i b' hx
      split at hst
      · rename_i b n seen hb'
        split at hst
        · rename_i es j hb hl
          obtain ⟨hn, hst⟩ := hst
          subst hn
          split at hst
          · rename_i k v hk
            obtain ⟨ents, q1, q2⟩ := stand_of (hms.now h (getM_mem hb)).1
            obtain ⟨q3, q4⟩ := hms.now h (getM_mem hb')
            have q3' : w.heap[b']? = some (.mapIter (some b) es.length seen.toArray es.length) := q3
            have e1 := evRaw h x hx
            obtain ⟨k', v', x', g1, g2, g3⟩ := born_of q2 (List.getElem?_eq_some_iff.1 hk).1
            rw [hk] at g1
            simp only [Option.some.injEq, Prod.mk.injEq] at g1
            obtain ⟨rfl, rfl⟩ := g1
            obtain ⟨ys, hys⟩ := List.getLast?_eq_some_iff.1 hl
            have hseen : seen.toArray = (ys.toArray).push j := by rw [hys]; simp
            have hr := run_entry_at (P := P) w b' b es.length ys.toArray ents es.length ⟨.int .i64 k, x', j⟩ (by rw [q3', hseen]) q1 (by simpa using Array.mem_of_getElem? g2) (by rw [borns q2]; exact List.nodup_range)
            exact same_obj h hu hms (v := .tup [.int .i64 k, v]) (u := .tuple #[.int .i64 k, x']) (.inl rfl) (by simp [execOp, hop, e1, hr]) (fun ρ => by rw [Rep]; exact ⟨_, rfl, RepL.cons (by simp [Rep]) (RepL.cons (g3 ρ) rfl)⟩) hst
          · exact hst.elim
        · exact hst.elim
      · exact hst.elim
    · exact hst.elim
  | ln t k e x ht =>
    simp only [mapStep] at hst
    split at hst
    · rename_i b hx
      split at hst
      · rename_i es hb
        obtain ⟨ents, q1, q2⟩ := stand_of (hms.now h (getM_mem hb)).1
        have e1 := evRaw h x hx
        have hsz : ents.size = es.length := by simpa using q2.1
        exact same_obj h hu hms (v := .int .i64 es.length) (u := .int .i64 es.length) (.inl rfl) (by simp [execOp, hop, resolve, invoke, builtin, Builtin.len_, e1, run_underlying ht, getObj, Sem.run, q1, goInt, hsz]) (fun ρ => by rw [Rep]) hst
      · exact hst.elim
    · exact hst.elim
end
end Go.W
