/- errors.As at an error of the package's own: a word ahead of a code. -/
import Derived.Test.YtjhefpcocdoilaaDoorFdG
import Derived.Test.YtjhefpcocdoilaaDoorChecked
import Derived.WalkKit
import Derived.LaidEql
import Derived.Stop.Asserts
import Derived.RowKitTokens
namespace Go.W
open Go.Proofs
set_option linter.unusedSimpArgs false
set_option linter.unusedVariables false
set_option maxHeartbeats 8000000
attribute [local irreducible] Wm
attribute [local simp] nmap lkp mkPl prs prsL prT ddL idL CRenL CRen Ren RenL NObj.none CRenLL

theorem l5_map (L : List L5) : List.map l5C L = l5LL L := rfl
theorem l5_pl {L : List L5} {c : List AV} {v : AV} (h : v ∈ c) (h2 : c ∈ l5LL L) : AV.plain v = true := by
  obtain ⟨o, _, rfl⟩ := List.mem_map.1 h2
  simp [l5C] at h
  (rcases h with h | h | h | h | h) <;> subst h <;> rfl
theorem not_bad {L : List L5} (h : wrongZ L 0 = -1) {k : Nat} {x : L5} (hx : L[k]? = some x) : ¬ badP x := wrong_neg (Int.le_refl 0) (by omega) x (List.mem_of_getElem? hx)
def I8 (a b c d e f g : Int) (L : List L5) (k : Nat) : St := ⟨[(1, .sl (.top 0) 0 L.length), (2, .ptr (.top 1) 0 0), (17, .sl (.top 0) 0 L.length), (18, .int .i64 L.length), (19, .int .i64 k)], [(0, .view 0 5 (l5LL L)), (1, .cells 0 [.int .i64 a, .int .i64 b, .int .i64 c, .int .i64 d, .int .i64 e, .int .i64 f, .int .i64 g])], 2⟩
def d8 : List AV → Option Ans
  | [.agg [.int .i64 a, .int .i64 b, .int .i64 c, .int .i64 d, .int .i64 e, .int .i64 f, .int .i64 g], .os _ 5 els] => (match mapV l5Of els with
    | some L => if (L.length : Int) = a ∧ 0 < a ∧ a ≤ 1000 ∧ wrongZ L 0 = -1 then some ⟨.tup [.op 0 (fcC ⟨a, b, c, d, e, f, g, L⟩), .raw .nilIface], [.free]⟩ else none
    | none => none)
  | _ => none
theorem ok8 : NOk [(5, false)] d8 := by
  intro xs aa h
  unfold d8 at h
  split at h
  · split at h
    · rename_i L hL
      obtain rfl := mapV_ex (g := l5C) (fun _ _ => l5Of_ex) hL
      split at h
      · injection h with h; subst h; refine ⟨Ends_of ?_, ?_⟩ <;> simp [fc_t0, fc_cl]
      · cases h
    · cases h
  · cases h
theorem s8 : Sound Tryd.prog 8 (nestS [(5, false)] d8 ok8) := by
  refine nest_sound Tryd.func8 nm8 rc8 rv8 ok8 (fun xs a h => ?_) fun xs a h w0 S hS => ?_
  · unfold d8 at h
    (repeat' (split at h)) <;> first | (cases h; done) | exact Nat.le_of_ble_eq_true rfl
  unfold d8 at h
  split at h
  · rename_i a b c d e f g u els
    split at h
    · rename_i L hL
      obtain rfl := mapV_ex (g := l5C) (fun _ _ => l5Of_ex) hL
      split at h
      · rename_i hcond
        injection h with h
        subst h
        obtain ⟨hla, ha0, hlen, hw⟩ := hcond
        clear hL
        subst hla
        change S.m = _ at hS
        have hE : SoundAll Tryd.prog (EL []) := EL_sound (by simp)
        have hT := l5_t0 L
        have hC := l5_cl L
        have hl := l5_len L
        have hD := l5_dat L
        have hTl : ∀ q, tlLL q (l5LL L) = true := fun q => l5_tl q _
        rw [l5_map] at hS ⊢
        change Wm _ _ _ _ _ _ ⟨argL 0 [.agg [.int .i64 L.length, .int .i64 b, .int .i64 c, .int .i64 d, .int .i64 e, .int .i64 f, .int .i64 g], .sl (.top 0) 0 (l5LL L).length], idxO 0 [.view 0 5 (l5LL L)], _⟩ _
        unfold m8
        repeat' with_reducible (first
          | refine ZR.h ?_ | refine zI (by decide) ?_
          | ((first | refine zK hE ?_ | refine zL hE mixT ?_); intro K hK; simp [KR.ks, KD.ks, KD.cl, q8_0, q8_1, q8_2, q8_3, q8_4, q8_5, q8_6, q8_7, q8_8, q8_9, q8_10, q8_11, q8_12, q8_13, hT, hC, hl, hD]; (repeat' (first | refine hK _ _ ?_ | refine And.intro ?_ ?_ | (intro hc; try subst hc))) <;> (try clear hK K))
          | (refine zJ (b := _) (by with_unfolding_all rfl) (fun hc => ?_) (fun hc => ?_) <;> simp at hc <;> (try subst hc)))
        all_goals refine Wm_loop (fun k => I8 L.length b c d e f g L k) (fun k => k ≤ L.length) (fun k => L.length - k) 0 (Nat.zero_le _) ?_ ?_
        · simp only [I8]
          rw [hS]
          (refine Imp.auto (by kernel_rfl) ?_ ?_ <;> simp [NLe, mkPlX, hT, hC, hl])
        rintro k hk
        (try simp only at hk)
        simp only [I8]
        by_cases hkl : k < L.length
        · obtain ⟨x, hx⟩ : ∃ e, L[k]? = some e := ⟨_, List.getElem?_eq_getElem hkl⟩
          have ww : IntKind.wrap .i64 ((k : Int) + 1) = (k : Int) + 1 := wrap_in (by omega) (by omega)
          have hki : (k : Int) < (L.length : Int) := by omega
          obtain ⟨g1, g2⟩ := l5_at hx
          simp only [l5C] at g1 g2
          have hb := not_bad hw hx
          have c0 : ¬ x.o < 0 := by unfold badP at hb; omega
          have c1 : ¬ 1099511627776 < x.o := by unfold badP at hb; omega
          have c2 : ¬ x.q < 0 := by unfold badP at hb; omega
          have c3 : ¬ 1099511627776 < x.q := by unfold badP at hb; omega
          have c4 : ¬ x.w < 0 := by unfold badP at hb; omega
          have c5 : ¬ 1099511627776 < x.w := by unfold badP at hb; omega
          have c6 : ¬ x.n < 0 := by unfold badP at hb; omega
          have c7 : ¬ 1099511627776 < x.n := by unfold badP at hb; omega
          have c8 : ¬ x.p < 0 := by unfold badP at hb; omega
          have c9 : ¬ 1099511627776 < x.p := by unfold badP at hb; omega
          repeat' with_reducible (first
            | refine ZR.h ?_ | refine zI (by decide) ?_
            | ((first | refine zK hE ?_ | refine zL hE mixT ?_); intro K hK; simp [KR.ks, KD.ks, KD.cl, q8_0, q8_1, q8_2, q8_3, q8_4, q8_5, q8_6, q8_7, q8_8, q8_9, q8_10, q8_11, q8_12, q8_13, hT, hC, hl, hD, hkl, hki, g1, g2]; (repeat' (first | refine hK _ _ ?_ | refine And.intro ?_ ?_ | (intro hc; try subst hc))) <;> (try clear hK K))
            | (refine zJ (b := _) (by with_unfolding_all rfl) (fun hc => ?_) (fun hc => ?_) <;> simp at hc <;> (try subst hc)))
          all_goals refine Wm_unroll 6 ?_
          repeat' with_reducible (first
            | refine ZR.h ?_ | refine zI (by decide) ?_
            | ((first | refine zK hE ?_ | refine zL hE mixT ?_); intro K hK; simp [KR.ks, KD.ks, KD.cl, q8_0, q8_1, q8_2, q8_3, q8_4, q8_5, q8_6, q8_7, q8_8, q8_9, q8_10, q8_11, q8_12, q8_13, hT, hC, hl, hD, hkl, hki, g1, g2, ww, wrap_in, c0, c1, c2, c3, c4, c5, c6, c7, c8, c9]; (repeat' (first | refine hK _ _ ?_ | refine And.intro ?_ ?_ | (intro hc; try subst hc))) <;> (try clear hK K))
            | (refine zJ (b := _) (by with_unfolding_all rfl) (fun hc => ?_) (fun hc => ?_) <;> simp at hc <;> (try subst hc)))
          all_goals first | (exfalso; omega) | skip
          all_goals refine ⟨k + 1, hkl, Nat.sub_lt_sub_left hkl (Nat.lt_succ_self k), ?_⟩
          all_goals simp only [I8]
          all_goals rw [hS]
          all_goals (refine Imp.auto (by kernel_rfl) ?_ ?_ <;> simp [NLe, mkPlX, hT, hC, hl])
        · obtain rfl : k = L.length := by omega
          have hki : ¬ ((L.length : Int) < (L.length : Int)) := by omega
          have hl0 : ¬ L.length = 0 := by omega
          have b1 : L.length * 40 ≤ 140737488355328 := by omega
          have b2 : L.length ≤ 9223372036854775807 := by omega
          have htk : (l5LL L).take L.length = l5LL L := List.take_of_length_le (by omega)
          repeat' with_reducible (first
            | refine ZR.h ?_ | refine zI (by decide) ?_
            | ((first | refine zK hE ?_ | refine zL hE mixT ?_); intro K hK; simp [KR.ks, KD.ks, KD.cl, q8_0, q8_1, q8_2, q8_3, q8_4, q8_5, q8_6, q8_7, q8_8, q8_9, q8_10, q8_11, q8_12, q8_13, hT, hC, hl, hD, hki, hl0, hTl, b1, b2, htk]; (repeat' (first | refine hK _ _ ?_ | refine And.intro ?_ ?_ | (intro hc; try subst hc))) <;> (try clear hK K))
            | (refine zJ (b := _) (by with_unfolding_all rfl) (fun hc => ?_) (fun hc => ?_) <;> simp at hc <;> (try subst hc)))
          all_goals first | exact l5_pl hc (by assumption) | (exfalso; omega) | skip
          all_goals try simp only [fcC]
          all_goals first | (simp; done) | exact l5_pl hc (by assumption) | ((try simp); refine Imp.trans (Imp.absorb (.top 42) 0 7 26 (by rfl) (by rfl) (by rfl) (.inl ⟨0, 5, l5LL L, by simp [hl], by rfl⟩) (by simp)) ?_; refine Imp.auto (by kernel_rfl) ?_ ?_ <;> simp [NLe, mkPlX, absorbG, newcell, hT, hC, hl])
      · cases h
    · cases h
  · cases h
end Go.W
namespace Go.Proofs.YtjhefpcocdoilaaDoor
open Go.RowKit Go.Extern.Stop Go.Stop Go.Extern
set_option linter.unusedSimpArgs false
set_option linter.unusedVariables false

theorem Fa.methodKind (h : Value) (w : World) : (Go.method 235 93 (.agg #[h]) "Kind").run Tryd.prog w = .ok (42, h) w := by kernel_rfl
theorem Fa.methodElem (h : Value) (w : World) : (Go.method 235 93 (.agg #[h]) "Elem").run Tryd.prog w = .ok (57, .agg #[h]) w := by kernel_rfl
theorem Fa.methodImplements (h : Value) (w : World) : (Go.method 235 93 (.agg #[h]) "Implements").run Tryd.prog w = .ok (58, .agg #[h]) w := by kernel_rfl
theorem Fa.methodAssignableTo (h : Value) (w : World) : (Go.method 235 93 (.agg #[h]) "AssignableTo").run Tryd.prog w = .ok (55, .agg #[h]) w := by kernel_rfl
theorem Fa.methodUnwrap (v : Value) (w : World) : (Go.method 235 74 v "Unwrap").run Tryd.prog w = .ok (50, v) w := by kernel_rfl
theorem Fa.noAs74 (v : Value) (xT : TypeId) (w : World) : (Instr.typeAssert (.iface 74 v) xT 98 true).run Tryd.prog w = .ok (.tuple #[.nilIface, .bool false]) w := run_typeAssert_lacksB Tryd.underlying98 (by kernel_rfl) (by kernel_rfl) v xT w
theorem Fa.noAs60 (v : Value) (xT : TypeId) (w : World) : (Instr.typeAssert (.iface 60 v) xT 98 true).run Tryd.prog w = .ok (.tuple #[.nilIface, .bool false]) w := run_typeAssert_lacksB Tryd.underlying98 (by kernel_rfl) (by kernel_rfl) v xT w
theorem Fa.hasUnwrap74 (v : Value) (xT : TypeId) (w : World) : (Instr.typeAssert (.iface 74 v) xT 101 true).run Tryd.prog w = .ok (.tuple #[.iface 74 v, .bool true]) w := run_typeAssert_hasB Tryd.underlying101 (by kernel_rfl) v xT w
theorem Fa.noUnwrap60 (v : Value) (xT : TypeId) (w : World) : (Instr.typeAssert (.iface 60 v) xT 101 true).run Tryd.prog w = .ok (.tuple #[.nilIface, .bool false]) w := run_typeAssert_lacksB Tryd.underlying101 (by kernel_rfl) (by kernel_rfl) v xT w
theorem Fa.noUnwraps60 (v : Value) (xT : TypeId) (w : World) : (Instr.typeAssert (.iface 60 v) xT 103 true).run Tryd.prog w = .ok (.tuple #[.nilIface, .bool false]) w := run_typeAssert_lacksB Tryd.underlying103 (by kernel_rfl) (by kernel_rfl) v xT w
theorem rlm (z : Sem Value) (f : TypeId → Addr → Nat → Nat → Sem Value) (v : Value) :
    ReflectliteValue.method z f #[v] = (do match ← ReflectliteValue.parts v with | none => z | some (t, a, fl) => f t a fl (fl % 32)) := rfl
theorem rls (v x : Value) : ReflectliteValue.set #[v, x] = (do
    let (some (dst, a, fl), some (src, b, _)) := (← ReflectliteValue.parts v, ← ReflectliteValue.parts x)
      | unsupported (.noEntry "extern/(internal/reflectlite.Value).Set.zeroValue")
    if fl / ReflectliteValue.flagAddr % 2 == 0 then unsupported (.noEntry "extern/(internal/reflectlite.Value).Set.unaddressable")
    let val ← loadVar src b
    if ← Rtype.directlyAssignable dst src then storeVar dst a val
    else if ← Rtype.implements dst src then
      if (← Rtype.kind src) == 20 then
        match val with
        | .nilIface => unsupported (.noEntry "extern/reflectlite: a nil value of one interface type handed on as a value of another")
        | _ => storeVar dst a val
      else storeVar dst a (.iface src val)
    else panicString ("reflectlite.Set: value of type " ++ (← Rtype.spelt src) ++ " is not assignable to type " ++ (← Rtype.spelt dst))
    pure (.tuple #[])) := rfl

theorem Fa.valueOf78 (t : Addr) (w : World) : (ReflectliteValue.unpack (.iface 78 (.pointer (some t)))).run Tryd.prog w
    = .ok (.agg #[.pointer (some ⟨1, 78, none⟩), .pointer (some ⟨w.heap.size, 0, none⟩), .int .u64 150]) (w.alloc (.cells #[.pointer (some t)] 78)) := by kernel_rfl
theorem Fa.type78 (a : Addr) (w : World) : (ReflectliteValue.methodAny (ReflectliteValue.valueError "reflectlite.Value.Type" 0) (fun t _ _ _ => ReflectliteType.toType t) #[.agg #[.pointer (some ⟨1, 78, none⟩), .pointer (some a), .int .u64 150]]).run Tryd.prog w
    = .ok (.iface 93 (.agg #[.pointer (some ⟨1, 78, none⟩)])) w := by kernel_rfl
theorem Fa.kind78 (w : World) : ((ReflectliteType.abiMethod fun t => (fun a : Nat => Value.int IntKind.u8 (a : Int)) <$> Rtype.kind t) #[.pointer (some ⟨1, 78, none⟩)]).run Tryd.prog w = .ok (.int .u8 22) w := by kernel_rfl
theorem Fa.parts78 (a : Addr) (w : World) : (ReflectliteValue.parts (.agg #[.pointer (some ⟨1, 78, none⟩), .pointer (some a), .int .u64 150])).run Tryd.prog w = .ok (some (78, a, 150)) w := by kernel_rfl
theorem Fa.isNil78 (a p : Addr) (W : World) (ha : W.cell? a = some (.pointer (some p))) :
    (ReflectliteValue.method (ReflectliteValue.valueError "reflectlite.Value.IsNil" 0) ReflectliteValue.isNil #[.agg #[.pointer (some ⟨1, 78, none⟩), .pointer (some a), .int .u64 150]]).run Tryd.prog W = .ok (.bool false) W := by
  rw [rlm]
  simp only [Sem.run_bind, Fa.parts78, Result.andThen]
  simp [ReflectliteValue.isNil, loadVar, isAgg, underlying, Tryd.underlying78, ha, Result.andThen]
theorem Fa.elem78 (w : World) : (ReflectliteType.method ReflectliteType.elem #[.agg #[.pointer (some ⟨1, 78, none⟩)]]).run Tryd.prog w = .ok (.iface 93 (.agg #[.pointer (some ⟨1, 74, none⟩)])) w := by kernel_rfl
theorem Fa.implements74 (w : World) : (ReflectliteType.relation "Implements" ReflectliteType.implements_ #[.agg #[.pointer (some ⟨1, 74, none⟩)], .iface 93 (.agg #[.pointer (some ⟨1, 35, none⟩)])]).run Tryd.prog w = .ok (.bool true) w := by kernel_rfl
theorem Fa.typeOf74 (v : Value) (w : World) : (ReflectliteType.typeOf #[.iface 74 v]).run Tryd.prog w = .ok (.iface 93 (.agg #[.pointer (some ⟨1, 74, none⟩)])) w := by kernel_rfl
theorem Fa.assignable74 (w : World) : (ReflectliteType.relation "AssignableTo" ReflectliteType.assignableTo #[.agg #[.pointer (some ⟨1, 74, none⟩)], .iface 93 (.agg #[.pointer (some ⟨1, 74, none⟩)])]).run Tryd.prog w = .ok (.bool true) w := by kernel_rfl
theorem Fa.elemOf78 (w : World) : (Rtype.elem? 78).run Tryd.prog w = .ok (some 74) w := by kernel_rfl
theorem Fa.direct74 (w : World) : (Rtype.directlyAssignable 74 74).run Tryd.prog w = .ok true w := by kernel_rfl
theorem Fa.size74 (w : World) : (sizeOf 74).run Tryd.prog w = .ok 1 w := by kernel_rfl

theorem Fa.kind74 (w : World) : ((ReflectliteType.abiMethod fun t => (fun a : Nat => Value.int IntKind.u8 (a : Int)) <$> Rtype.kind t) #[.pointer (some ⟨1, 74, none⟩)]).run Tryd.prog w = .ok (.int .u8 22) w := by kernel_rfl
theorem Fa.valueOf74 (e : Addr) (w : World) : (ReflectliteValue.unpack (.iface 74 (.pointer (some e)))).run Tryd.prog w
    = .ok (.agg #[.pointer (some ⟨1, 74, none⟩), .pointer (some ⟨w.heap.size, 0, none⟩), .int .u64 150]) (w.alloc (.cells #[.pointer (some e)] 74)) := by kernel_rfl
theorem Fa.mk74 (p : Addr) (w : World) : (ReflectliteValue.mk 74 p ReflectliteValue.flagAddr).run Tryd.prog w = .ok (.agg #[.pointer (some ⟨1, 74, none⟩), .pointer (some p), .int .u64 406]) w := by kernel_rfl
theorem Fa.elemV78 (a p : Addr) (W : World) (ha : W.cell? a = some (.pointer (some p))) :
    (ReflectliteValue.method (ReflectliteValue.valueError "reflectlite.Value.Elem" 0) ReflectliteValue.elem #[.agg #[.pointer (some ⟨1, 78, none⟩), .pointer (some a), .int .u64 150]]).run Tryd.prog W
      = .ok (.agg #[.pointer (some ⟨1, 74, none⟩), .pointer (some p), .int .u64 406]) W := by
  rw [rlm]
  simp only [Sem.run_bind, Fa.parts78, Result.andThen]
  simp [ReflectliteValue.elem, loadVar, isAgg, underlying, Tryd.underlying78, ha, Result.andThen, Fa.elemOf78, Fa.mk74]
theorem Fa.partsa74 (a : Addr) (w : World) : (ReflectliteValue.parts (.agg #[.pointer (some ⟨1, 74, none⟩), .pointer (some a), .int .u64 406])).run Tryd.prog w = .ok (some (74, a, 406)) w := by kernel_rfl
theorem Fa.parts74 (a : Addr) (w : World) : (ReflectliteValue.parts (.agg #[.pointer (some ⟨1, 74, none⟩), .pointer (some a), .int .u64 150])).run Tryd.prog w = .ok (some (74, a, 150)) w := by kernel_rfl
theorem Fa.set74 (ta b : Addr) (e : Addr) (old : Value) (W : World) (hb : W.cell? b = some (.pointer (some e))) (ht : W.cell? ta = some old) (hf : W.frozen? ta = false) :
    (ReflectliteValue.set #[.agg #[.pointer (some ⟨1, 74, none⟩), .pointer (some ta), .int .u64 406], .agg #[.pointer (some ⟨1, 74, none⟩), .pointer (some b), .int .u64 150]]).run Tryd.prog W
      = .ok (.tuple #[]) (W.setCell ta (.pointer (some e))) := by
  rw [rls]
  simp only [Sem.run_bind, Fa.partsa74, Fa.parts74, Result.andThen]
  simp [ReflectliteValue.flagAddr, loadVar, isAgg, underlying, Tryd.underlying74, hb, Result.andThen, Fa.direct74, storeVar, Value.cells, storeCells, Addr.add]
  rw [run_store Tryd.prog W ta _ _ (by rfl)]
  simp [ht, hf]

theorem Fa.valueOf79 (t : Addr) (w : World) : (ReflectliteValue.unpack (.iface 79 (.pointer (some t)))).run Tryd.prog w
    = .ok (.agg #[.pointer (some ⟨1, 79, none⟩), .pointer (some ⟨w.heap.size, 0, none⟩), .int .u64 150]) (w.alloc (.cells #[.pointer (some t)] 79)) := by kernel_rfl
theorem Fa.type79 (a : Addr) (w : World) : (ReflectliteValue.methodAny (ReflectliteValue.valueError "reflectlite.Value.Type" 0) (fun t _ _ _ => ReflectliteType.toType t) #[.agg #[.pointer (some ⟨1, 79, none⟩), .pointer (some a), .int .u64 150]]).run Tryd.prog w
    = .ok (.iface 93 (.agg #[.pointer (some ⟨1, 79, none⟩)])) w := by kernel_rfl
theorem Fa.kind79 (w : World) : ((ReflectliteType.abiMethod fun t => (fun a : Nat => Value.int IntKind.u8 (a : Int)) <$> Rtype.kind t) #[.pointer (some ⟨1, 79, none⟩)]).run Tryd.prog w = .ok (.int .u8 22) w := by kernel_rfl
theorem Fa.parts79 (a : Addr) (w : World) : (ReflectliteValue.parts (.agg #[.pointer (some ⟨1, 79, none⟩), .pointer (some a), .int .u64 150])).run Tryd.prog w = .ok (some (79, a, 150)) w := by kernel_rfl
theorem Fa.isNil79 (a p : Addr) (W : World) (ha : W.cell? a = some (.pointer (some p))) :
    (ReflectliteValue.method (ReflectliteValue.valueError "reflectlite.Value.IsNil" 0) ReflectliteValue.isNil #[.agg #[.pointer (some ⟨1, 79, none⟩), .pointer (some a), .int .u64 150]]).run Tryd.prog W = .ok (.bool false) W := by
  rw [rlm]
  simp only [Sem.run_bind, Fa.parts79, Result.andThen]
  simp [ReflectliteValue.isNil, loadVar, isAgg, underlying, Tryd.underlying79, ha, Result.andThen]
theorem Fa.elem79 (w : World) : (ReflectliteType.method ReflectliteType.elem #[.agg #[.pointer (some ⟨1, 79, none⟩)]]).run Tryd.prog w = .ok (.iface 93 (.agg #[.pointer (some ⟨1, 60, none⟩)])) w := by kernel_rfl
theorem Fa.implements60 (w : World) : (ReflectliteType.relation "Implements" ReflectliteType.implements_ #[.agg #[.pointer (some ⟨1, 60, none⟩)], .iface 93 (.agg #[.pointer (some ⟨1, 35, none⟩)])]).run Tryd.prog w = .ok (.bool true) w := by kernel_rfl
theorem Fa.typeOf60 (v : Value) (w : World) : (ReflectliteType.typeOf #[.iface 60 v]).run Tryd.prog w = .ok (.iface 93 (.agg #[.pointer (some ⟨1, 60, none⟩)])) w := by kernel_rfl
theorem Fa.assignable60 (w : World) : (ReflectliteType.relation "AssignableTo" ReflectliteType.assignableTo #[.agg #[.pointer (some ⟨1, 60, none⟩)], .iface 93 (.agg #[.pointer (some ⟨1, 60, none⟩)])]).run Tryd.prog w = .ok (.bool true) w := by kernel_rfl
theorem Fa.elemOf79 (w : World) : (Rtype.elem? 79).run Tryd.prog w = .ok (some 60) w := by kernel_rfl
theorem Fa.direct60 (w : World) : (Rtype.directlyAssignable 60 60).run Tryd.prog w = .ok true w := by kernel_rfl
theorem Fa.size60 (w : World) : (sizeOf 60).run Tryd.prog w = .ok 1 w := by kernel_rfl

theorem Fa.kind60 (w : World) : ((ReflectliteType.abiMethod fun t => (fun a : Nat => Value.int IntKind.u8 (a : Int)) <$> Rtype.kind t) #[.pointer (some ⟨1, 60, none⟩)]).run Tryd.prog w = .ok (.int .u8 2) w := by kernel_rfl
theorem Fa.valueOf60 (n : Int) (w : World) : (ReflectliteValue.unpack (.iface 60 (.int .i64 n))).run Tryd.prog w
    = .ok (.agg #[.pointer (some ⟨1, 60, none⟩), .pointer (some ⟨w.heap.size, 0, none⟩), .int .u64 130]) (w.alloc (.cells #[.int .i64 n] 60)) := by kernel_rfl
theorem Fa.mk60 (p : Addr) (w : World) : (ReflectliteValue.mk 60 p ReflectliteValue.flagAddr).run Tryd.prog w = .ok (.agg #[.pointer (some ⟨1, 60, none⟩), .pointer (some p), .int .u64 386]) w := by kernel_rfl
theorem Fa.elemV79 (a p : Addr) (W : World) (ha : W.cell? a = some (.pointer (some p))) :
    (ReflectliteValue.method (ReflectliteValue.valueError "reflectlite.Value.Elem" 0) ReflectliteValue.elem #[.agg #[.pointer (some ⟨1, 79, none⟩), .pointer (some a), .int .u64 150]]).run Tryd.prog W
      = .ok (.agg #[.pointer (some ⟨1, 60, none⟩), .pointer (some p), .int .u64 386]) W := by
  rw [rlm]
  simp only [Sem.run_bind, Fa.parts79, Result.andThen]
  simp [ReflectliteValue.elem, loadVar, isAgg, underlying, Tryd.underlying79, ha, Result.andThen, Fa.elemOf79, Fa.mk60]
theorem Fa.partsa60 (a : Addr) (w : World) : (ReflectliteValue.parts (.agg #[.pointer (some ⟨1, 60, none⟩), .pointer (some a), .int .u64 386])).run Tryd.prog w = .ok (some (60, a, 386)) w := by kernel_rfl
theorem Fa.parts60 (a : Addr) (w : World) : (ReflectliteValue.parts (.agg #[.pointer (some ⟨1, 60, none⟩), .pointer (some a), .int .u64 130])).run Tryd.prog w = .ok (some (60, a, 130)) w := by kernel_rfl
theorem Fa.set60 (ta b : Addr) (n : Int) (old : Value) (W : World) (hb : W.cell? b = some (.int .i64 n)) (ht : W.cell? ta = some old) (hf : W.frozen? ta = false) :
    (ReflectliteValue.set #[.agg #[.pointer (some ⟨1, 60, none⟩), .pointer (some ta), .int .u64 386], .agg #[.pointer (some ⟨1, 60, none⟩), .pointer (some b), .int .u64 130]]).run Tryd.prog W
      = .ok (.tuple #[]) (W.setCell ta (.int .i64 n)) := by
  rw [rls]
  simp only [Sem.run_bind, Fa.partsa60, Fa.parts60, Result.andThen]
  simp [ReflectliteValue.flagAddr, loadVar, isAgg, underlying, Tryd.underlying60, hb, Result.andThen, Fa.direct60, storeVar, Value.cells, storeCells, Addr.add]
  rw [run_store Tryd.prog W ta _ _ (by rfl)]
  simp [ht, hf]

theorem Fa.notAssignable (w : World) : (ReflectliteType.relation "AssignableTo" ReflectliteType.assignableTo #[.agg #[.pointer (some ⟨1, 74, none⟩)], .iface 93 (.agg #[.pointer (some ⟨1, 60, none⟩)])]).run Tryd.prog w = .ok (.bool false) w := by kernel_rfl
theorem Fa.notAssignable2 (w : World) : (ReflectliteType.relation "AssignableTo" ReflectliteType.assignableTo #[.agg #[.pointer (some ⟨1, 60, none⟩)], .iface 93 (.agg #[.pointer (some ⟨1, 74, none⟩)])]).run Tryd.prog w = .ok (.bool false) w := by kernel_rfl
end Go.Proofs.YtjhefpcocdoilaaDoor
