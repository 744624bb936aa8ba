/- errors.As, by its contracts, at a word ahead of a code. fault.Code and fault.Words at a word ahead of a code. The document's example. A fence of the example's limits, and what it lets pass. -/
import Derived.Test.YtjhefpcocdoilaaDoorFaA
import Derived.Deep.RegionHeld
import Derived.WalkSpells
import Derived.WalkLawsBesides
namespace Go.Proofs.YtjhefpcocdoilaaDoor
open Go.RowKit Go.Extern.Stop Go.Stop Go.Extern
set_option linter.unusedSimpArgs false
set_option linter.unusedVariables false

set_option maxHeartbeats 4000000 in
theorem as_note (e t : Addr) (old : Value) (w : World) (hg : w.cell? ⟨0, 0, none⟩ = some (.iface 93 (.agg #[.pointer (some ⟨1, 35, none⟩)]))) (ht0 : w.cell? t = some old) (hf0 : w.frozen? t = false) :
    Calls Tryd.prog 20 #[.iface 74 (.pointer (some e)), .iface 78 (.pointer (some t))] w fun ev w' => ev = .returned (.bool true) ∧ w' = ((((w.alloc (.cells #[.pointer (some t)] 78)).alloc (.cells #[.pointer (some ⟨1, 78, none⟩), .pointer (some ⟨w.heap.size, 0, none⟩), .int .u64 150] 83)).alloc (.cells #[.pointer (some ⟨1, 78, none⟩), .pointer (some ⟨w.heap.size, 0, none⟩), .int .u64 150] 83)).alloc (.cells #[.pointer (some e)] 74)).setCell t (.pointer (some e)) := by
  have h21 := @run_callFunc_extern Tryd.prog 21 _ (fun args => ReflectliteValue.unpack (args.getD 0 (.tuple #[]))) Tryd.func21 (by kernel_rfl) (by kernel_rfl) (by kernel_rfl) (by kernel_rfl)
  have h22 := @run_callFunc_extern Tryd.prog 22 _ (ReflectliteValue.methodAny (ReflectliteValue.valueError "reflectlite.Value.Type" 0) (fun t _ _ _ => ReflectliteType.toType t)) Tryd.func22 (by kernel_rfl) (by kernel_rfl) (by kernel_rfl) (by kernel_rfl)
  have h23 := @run_callFunc_extern Tryd.prog 23 _ (ReflectliteValue.method (ReflectliteValue.valueError "reflectlite.Value.IsNil" 0) ReflectliteValue.isNil) Tryd.func23 (by kernel_rfl) (by kernel_rfl) (by kernel_rfl) (by kernel_rfl)
  have h42 := @run_callFunc_extern Tryd.prog 42 _ (ReflectliteType.abiMethod fun t => do pure (.int .u8 (← Rtype.kind t))) Tryd.func42 (by kernel_rfl) (by kernel_rfl) (by kernel_rfl) (by kernel_rfl)
  have h57 := @run_callFunc_extern Tryd.prog 57 _ (ReflectliteType.method ReflectliteType.elem) Tryd.func57 (by kernel_rfl) (by kernel_rfl) (by kernel_rfl) (by kernel_rfl)
  have h58 := @run_callFunc_extern Tryd.prog 58 _ (ReflectliteType.relation "Implements" ReflectliteType.implements_) Tryd.func58 (by kernel_rfl) (by kernel_rfl) (by kernel_rfl) (by kernel_rfl)
  have h25 := @run_callFunc_extern Tryd.prog 25 _ ReflectliteType.typeOf Tryd.func25 (by kernel_rfl) (by kernel_rfl) (by kernel_rfl) (by kernel_rfl)
  have h55 := @run_callFunc_extern Tryd.prog 55 _ (ReflectliteType.relation "AssignableTo" ReflectliteType.assignableTo) Tryd.func55 (by kernel_rfl) (by kernel_rfl) (by kernel_rfl) (by kernel_rfl)
  have h26 := @run_callFunc_extern Tryd.prog 26 _ (ReflectliteValue.method (ReflectliteValue.valueError "reflectlite.Value.Elem" 0) ReflectliteValue.elem) Tryd.func26 (by kernel_rfl) (by kernel_rfl) (by kernel_rfl) (by kernel_rfl)
  have h27 := @run_callFunc_extern Tryd.prog 27 _ ReflectliteValue.set Tryd.func27 (by kernel_rfl) (by kernel_rfl) (by kernel_rfl) (by kernel_rfl)
  have mA := Fa.methodAssignableTo
  have mK := Fa.methodKind
  have mE := Fa.methodElem
  have mI := Fa.methodImplements
  have mU := Fa.methodUnwrap
  have nA7 := Fa.noAs74
  have nA6 := Fa.noAs60
  have hU7 := Fa.hasUnwrap74
  have nU6 := Fa.noUnwrap60
  have nV6 := Fa.noUnwraps60
  have f1 := Fa.valueOf78
  have f2 := Fa.type78
  have f3 := Fa.kind78
  have f4 := Fa.kind74
  have f5 := Fa.elem78
  have f6 := Fa.implements74
  have f7 := Fa.typeOf74
  have f7b := Fa.typeOf60
  have f8 := Fa.assignable74
  have f9 := Fa.valueOf74
  have hlt : 0 < w.heap.size := by
    rcases Nat.eq_zero_or_pos w.heap.size with h0 | h
    · simp [World.cell?, h0] at hg
    · exact h
  have n8 := Fa.isNil78 ⟨w.heap.size, 0, none⟩ t ((w.alloc (.cells #[.pointer (some t)] 78)).alloc (.cells #[.pointer (some ⟨1, 78, none⟩), .pointer (some ⟨w.heap.size, 0, none⟩), .int .u64 150] 83)) (by simp)
  have hg2 : ((w.alloc (.cells #[.pointer (some t)] 78)).alloc (.cells #[.pointer (some ⟨1, 78, none⟩), .pointer (some ⟨w.heap.size, 0, none⟩), .int .u64 150] 83)).cell? ⟨0, 0, none⟩ = some (.iface 93 (.agg #[.pointer (some ⟨1, 35, none⟩)])) := by
    rw [World.cell?_alloc_lt _ _ ⟨0, 0, none⟩ (by simp), World.cell?_alloc_lt _ _ ⟨0, 0, none⟩ hlt]; exact hg
  have htl : t.block < w.heap.size := by
    rcases Nat.lt_or_ge t.block w.heap.size with h | h
    · exact h
    · simp [World.cell?, Array.getElem?_eq_none h] at ht0
  have el := Fa.elemV78 ⟨w.heap.size, 0, none⟩ t (((w.alloc (.cells #[.pointer (some t)] 78)).alloc (.cells #[.pointer (some ⟨1, 78, none⟩), .pointer (some ⟨w.heap.size, 0, none⟩), .int .u64 150] 83)).alloc (.cells #[.pointer (some ⟨1, 78, none⟩), .pointer (some ⟨w.heap.size, 0, none⟩), .int .u64 150] 83)) (by rw [World.cell?_alloc_lt _ _ ⟨w.heap.size, 0, none⟩ (by simp; omega)]; simp)
  have st := Fa.set74 t ⟨w.heap.size + 1 + 1 + 1, 0, none⟩ e old ((((w.alloc (.cells #[.pointer (some t)] 78)).alloc (.cells #[.pointer (some ⟨1, 78, none⟩), .pointer (some ⟨w.heap.size, 0, none⟩), .int .u64 150] 83)).alloc (.cells #[.pointer (some ⟨1, 78, none⟩), .pointer (some ⟨w.heap.size, 0, none⟩), .int .u64 150] 83)).alloc (.cells #[.pointer (some e)] 74))
    (by rw [World.cell?_alloc_at _ _ _ _ (by simp)]; rfl)
    (by rw [World.cell?_alloc_lt _ _ t (by simp; omega), World.cell?_alloc_lt _ _ t (by simp; omega), World.cell?_alloc_lt _ _ t (by simp; omega), World.cell?_alloc_lt _ _ t htl]; exact ht0)
    (by rw [World.frozen?_alloc_old _ _ t (by simp; omega), World.frozen?_alloc_old _ _ t (by simp; omega), World.frozen?_alloc_old _ _ t (by simp; omega), World.frozen?_alloc_old _ _ t (Nat.ne_of_lt htl)]; exact hf0)
  go_enter Tryd.func20, Tryd.ntmps20
  go_wp2
  refine wp_loop_rounds 1 ?_
  rw [rounds_succ]
  go_wp2
  go_ret
  exact ⟨rfl, rfl⟩

set_option maxHeartbeats 4000000 in
theorem as_miss (n : Int) (t : Addr) (old : Value) (w : World) (hg : w.cell? ⟨0, 0, none⟩ = some (.iface 93 (.agg #[.pointer (some ⟨1, 35, none⟩)]))) (ht0 : w.cell? t = some old) (hf0 : w.frozen? t = false) :
    Calls Tryd.prog 20 #[.iface 60 (.int .i64 n), .iface 78 (.pointer (some t))] w fun ev w' => ev = .returned (.bool false) ∧ w' = (((w.alloc (.cells #[.pointer (some t)] 78)).alloc (.cells #[.pointer (some ⟨1, 78, none⟩), .pointer (some ⟨w.heap.size, 0, none⟩), .int .u64 150] 83)).alloc (.cells #[.pointer (some ⟨1, 78, none⟩), .pointer (some ⟨w.heap.size, 0, none⟩), .int .u64 150] 83)) := by
  have h21 := @run_callFunc_extern Tryd.prog 21 _ (fun args => ReflectliteValue.unpack (args.getD 0 (.tuple #[]))) Tryd.func21 (by kernel_rfl) (by kernel_rfl) (by kernel_rfl) (by kernel_rfl)
  have h22 := @run_callFunc_extern Tryd.prog 22 _ (ReflectliteValue.methodAny (ReflectliteValue.valueError "reflectlite.Value.Type" 0) (fun t _ _ _ => ReflectliteType.toType t)) Tryd.func22 (by kernel_rfl) (by kernel_rfl) (by kernel_rfl) (by kernel_rfl)
  have h23 := @run_callFunc_extern Tryd.prog 23 _ (ReflectliteValue.method (ReflectliteValue.valueError "reflectlite.Value.IsNil" 0) ReflectliteValue.isNil) Tryd.func23 (by kernel_rfl) (by kernel_rfl) (by kernel_rfl) (by kernel_rfl)
  have h42 := @run_callFunc_extern Tryd.prog 42 _ (ReflectliteType.abiMethod fun t => do pure (.int .u8 (← Rtype.kind t))) Tryd.func42 (by kernel_rfl) (by kernel_rfl) (by kernel_rfl) (by kernel_rfl)
  have h57 := @run_callFunc_extern Tryd.prog 57 _ (ReflectliteType.method ReflectliteType.elem) Tryd.func57 (by kernel_rfl) (by kernel_rfl) (by kernel_rfl) (by kernel_rfl)
  have h58 := @run_callFunc_extern Tryd.prog 58 _ (ReflectliteType.relation "Implements" ReflectliteType.implements_) Tryd.func58 (by kernel_rfl) (by kernel_rfl) (by kernel_rfl) (by kernel_rfl)
  have h25 := @run_callFunc_extern Tryd.prog 25 _ ReflectliteType.typeOf Tryd.func25 (by kernel_rfl) (by kernel_rfl) (by kernel_rfl) (by kernel_rfl)
  have h55 := @run_callFunc_extern Tryd.prog 55 _ (ReflectliteType.relation "AssignableTo" ReflectliteType.assignableTo) Tryd.func55 (by kernel_rfl) (by kernel_rfl) (by kernel_rfl) (by kernel_rfl)
  have h26 := @run_callFunc_extern Tryd.prog 26 _ (ReflectliteValue.method (ReflectliteValue.valueError "reflectlite.Value.Elem" 0) ReflectliteValue.elem) Tryd.func26 (by kernel_rfl) (by kernel_rfl) (by kernel_rfl) (by kernel_rfl)
  have h27 := @run_callFunc_extern Tryd.prog 27 _ ReflectliteValue.set Tryd.func27 (by kernel_rfl) (by kernel_rfl) (by kernel_rfl) (by kernel_rfl)
  have mA := Fa.methodAssignableTo
  have mK := Fa.methodKind
  have mE := Fa.methodElem
  have mI := Fa.methodImplements
  have mU := Fa.methodUnwrap
  have nA7 := Fa.noAs74
  have nA6 := Fa.noAs60
  have hU7 := Fa.hasUnwrap74
  have nU6 := Fa.noUnwrap60
  have nV6 := Fa.noUnwraps60
  have f1 := Fa.valueOf78
  have f2 := Fa.type78
  have f3 := Fa.kind78
  have f4 := Fa.kind74
  have f5 := Fa.elem78
  have f6 := Fa.implements74
  have f7 := Fa.typeOf74
  have f7b := Fa.typeOf60
  have f8 := Fa.assignable74
  have f9 := Fa.notAssignable2
  have hlt : 0 < w.heap.size := by
    rcases Nat.eq_zero_or_pos w.heap.size with h0 | h
    · simp [World.cell?, h0] at hg
    · exact h
  have n8 := Fa.isNil78 ⟨w.heap.size, 0, none⟩ t ((w.alloc (.cells #[.pointer (some t)] 78)).alloc (.cells #[.pointer (some ⟨1, 78, none⟩), .pointer (some ⟨w.heap.size, 0, none⟩), .int .u64 150] 83)) (by simp)
  have hg2 : ((w.alloc (.cells #[.pointer (some t)] 78)).alloc (.cells #[.pointer (some ⟨1, 78, none⟩), .pointer (some ⟨w.heap.size, 0, none⟩), .int .u64 150] 83)).cell? ⟨0, 0, none⟩ = some (.iface 93 (.agg #[.pointer (some ⟨1, 35, none⟩)])) := by
    rw [World.cell?_alloc_lt _ _ ⟨0, 0, none⟩ (by simp), World.cell?_alloc_lt _ _ ⟨0, 0, none⟩ hlt]; exact hg
  have htl : t.block < w.heap.size := by
    rcases Nat.lt_or_ge t.block w.heap.size with h | h
    · exact h
    · simp [World.cell?, Array.getElem?_eq_none h] at ht0
  have el := Fa.elemV78 ⟨w.heap.size, 0, none⟩ t (((w.alloc (.cells #[.pointer (some t)] 78)).alloc (.cells #[.pointer (some ⟨1, 78, none⟩), .pointer (some ⟨w.heap.size, 0, none⟩), .int .u64 150] 83)).alloc (.cells #[.pointer (some ⟨1, 78, none⟩), .pointer (some ⟨w.heap.size, 0, none⟩), .int .u64 150] 83)) (by rw [World.cell?_alloc_lt _ _ ⟨w.heap.size, 0, none⟩ (by simp; omega)]; simp)
  go_enter Tryd.func20, Tryd.ntmps20
  go_wp2
  refine wp_loop_rounds 1 ?_
  rw [rounds_succ]
  go_wp2
  go_ret
  exact ⟨rfl, rfl⟩

set_option maxHeartbeats 4000000 in
theorem as_code (n : Int) (pb po : Nat) (t : Addr) (old : Value) (w : World) (hg : w.cell? ⟨0, 0, none⟩ = some (.iface 93 (.agg #[.pointer (some ⟨1, 35, none⟩)]))) (ht0 : w.cell? t = some old) (hf0 : w.frozen? t = false) (h1 : w.cell? ⟨pb, po + 1, none⟩ = some (.iface 60 (.int .i64 n))) :
    Calls Tryd.prog 20 #[.iface 74 (.pointer (some ⟨pb, po, none⟩)), .iface 79 (.pointer (some t))] w fun ev w' => ev = .returned (.bool true) ∧ w' = ((((w.alloc (.cells #[.pointer (some t)] 79)).alloc (.cells #[.pointer (some ⟨1, 79, none⟩), .pointer (some ⟨w.heap.size, 0, none⟩), .int .u64 150] 83)).alloc (.cells #[.pointer (some ⟨1, 79, none⟩), .pointer (some ⟨w.heap.size, 0, none⟩), .int .u64 150] 83)).alloc (.cells #[.int .i64 n] 60)).setCell t (.int .i64 n) := by
  have h21 := @run_callFunc_extern Tryd.prog 21 _ (fun args => ReflectliteValue.unpack (args.getD 0 (.tuple #[]))) Tryd.func21 (by kernel_rfl) (by kernel_rfl) (by kernel_rfl) (by kernel_rfl)
  have h22 := @run_callFunc_extern Tryd.prog 22 _ (ReflectliteValue.methodAny (ReflectliteValue.valueError "reflectlite.Value.Type" 0) (fun t _ _ _ => ReflectliteType.toType t)) Tryd.func22 (by kernel_rfl) (by kernel_rfl) (by kernel_rfl) (by kernel_rfl)
  have h23 := @run_callFunc_extern Tryd.prog 23 _ (ReflectliteValue.method (ReflectliteValue.valueError "reflectlite.Value.IsNil" 0) ReflectliteValue.isNil) Tryd.func23 (by kernel_rfl) (by kernel_rfl) (by kernel_rfl) (by kernel_rfl)
  have h42 := @run_callFunc_extern Tryd.prog 42 _ (ReflectliteType.abiMethod fun t => do pure (.int .u8 (← Rtype.kind t))) Tryd.func42 (by kernel_rfl) (by kernel_rfl) (by kernel_rfl) (by kernel_rfl)
  have h57 := @run_callFunc_extern Tryd.prog 57 _ (ReflectliteType.method ReflectliteType.elem) Tryd.func57 (by kernel_rfl) (by kernel_rfl) (by kernel_rfl) (by kernel_rfl)
  have h58 := @run_callFunc_extern Tryd.prog 58 _ (ReflectliteType.relation "Implements" ReflectliteType.implements_) Tryd.func58 (by kernel_rfl) (by kernel_rfl) (by kernel_rfl) (by kernel_rfl)
  have h25 := @run_callFunc_extern Tryd.prog 25 _ ReflectliteType.typeOf Tryd.func25 (by kernel_rfl) (by kernel_rfl) (by kernel_rfl) (by kernel_rfl)
  have h55 := @run_callFunc_extern Tryd.prog 55 _ (ReflectliteType.relation "AssignableTo" ReflectliteType.assignableTo) Tryd.func55 (by kernel_rfl) (by kernel_rfl) (by kernel_rfl) (by kernel_rfl)
  have h26 := @run_callFunc_extern Tryd.prog 26 _ (ReflectliteValue.method (ReflectliteValue.valueError "reflectlite.Value.Elem" 0) ReflectliteValue.elem) Tryd.func26 (by kernel_rfl) (by kernel_rfl) (by kernel_rfl) (by kernel_rfl)
  have h27 := @run_callFunc_extern Tryd.prog 27 _ ReflectliteValue.set Tryd.func27 (by kernel_rfl) (by kernel_rfl) (by kernel_rfl) (by kernel_rfl)
  have mA := Fa.methodAssignableTo
  have mK := Fa.methodKind
  have mE := Fa.methodElem
  have mI := Fa.methodImplements
  have mU := Fa.methodUnwrap
  have nA7 := Fa.noAs74
  have nA6 := Fa.noAs60
  have hU7 := Fa.hasUnwrap74
  have nU6 := Fa.noUnwrap60
  have nV6 := Fa.noUnwraps60
  have f1 := Fa.valueOf79
  have f2 := Fa.type79
  have f3 := Fa.kind79
  have f4 := Fa.kind60
  have f5 := Fa.elem79
  have f6 := Fa.implements60
  have f7 := Fa.typeOf74
  have f7b := Fa.typeOf60
  have f8 := Fa.assignable60
  have f9 := Fa.valueOf60
  have f10 := Fa.notAssignable
  have hlt : 0 < w.heap.size := by
    rcases Nat.eq_zero_or_pos w.heap.size with h0 | h
    · simp [World.cell?, h0] at hg
    · exact h
  have n8 := Fa.isNil79 ⟨w.heap.size, 0, none⟩ t ((w.alloc (.cells #[.pointer (some t)] 79)).alloc (.cells #[.pointer (some ⟨1, 79, none⟩), .pointer (some ⟨w.heap.size, 0, none⟩), .int .u64 150] 83)) (by simp)
  have hg2 : ((w.alloc (.cells #[.pointer (some t)] 79)).alloc (.cells #[.pointer (some ⟨1, 79, none⟩), .pointer (some ⟨w.heap.size, 0, none⟩), .int .u64 150] 83)).cell? ⟨0, 0, none⟩ = some (.iface 93 (.agg #[.pointer (some ⟨1, 35, none⟩)])) := by
    rw [World.cell?_alloc_lt _ _ ⟨0, 0, none⟩ (by simp), World.cell?_alloc_lt _ _ ⟨0, 0, none⟩ hlt]; exact hg
  have htl : t.block < w.heap.size := by
    rcases Nat.lt_or_ge t.block w.heap.size with h | h
    · exact h
    · simp [World.cell?, Array.getElem?_eq_none h] at ht0
  have el := Fa.elemV79 ⟨w.heap.size, 0, none⟩ t (((w.alloc (.cells #[.pointer (some t)] 79)).alloc (.cells #[.pointer (some ⟨1, 79, none⟩), .pointer (some ⟨w.heap.size, 0, none⟩), .int .u64 150] 83)).alloc (.cells #[.pointer (some ⟨1, 79, none⟩), .pointer (some ⟨w.heap.size, 0, none⟩), .int .u64 150] 83)) (by rw [World.cell?_alloc_lt _ _ ⟨w.heap.size, 0, none⟩ (by simp; omega)]; simp)
  have st := Fa.set60 t ⟨w.heap.size + 1 + 1 + 1, 0, none⟩ n old ((((w.alloc (.cells #[.pointer (some t)] 79)).alloc (.cells #[.pointer (some ⟨1, 79, none⟩), .pointer (some ⟨w.heap.size, 0, none⟩), .int .u64 150] 83)).alloc (.cells #[.pointer (some ⟨1, 79, none⟩), .pointer (some ⟨w.heap.size, 0, none⟩), .int .u64 150] 83)).alloc (.cells #[.int .i64 n] 60))
    (by rw [World.cell?_alloc_at _ _ _ _ (by simp)]; rfl)
    (by rw [World.cell?_alloc_lt _ _ t (by simp; omega), World.cell?_alloc_lt _ _ t (by simp; omega), World.cell?_alloc_lt _ _ t (by simp; omega), World.cell?_alloc_lt _ _ t htl]; exact ht0)
    (by rw [World.frozen?_alloc_old _ _ t (by simp; omega), World.frozen?_alloc_old _ _ t (by simp; omega), World.frozen?_alloc_old _ _ t (by simp; omega), World.frozen?_alloc_old _ _ t (Nat.ne_of_lt htl)]; exact hf0)
  have hpl : pb < w.heap.size := by
    rcases Nat.lt_or_ge pb w.heap.size with h | h
    · exact h
    · simp [World.cell?, Array.getElem?_eq_none h] at h1
  have h1b : (((w.alloc (.cells #[.pointer (some t)] 79)).alloc (.cells #[.pointer (some ⟨1, 79, none⟩), .pointer (some ⟨w.heap.size, 0, none⟩), .int .u64 150] 83)).alloc (.cells #[.pointer (some ⟨1, 79, none⟩), .pointer (some ⟨w.heap.size, 0, none⟩), .int .u64 150] 83)).cell? ⟨pb, po + 1, none⟩ = some (.iface 60 (.int .i64 n)) := by
    rw [World.cell?_alloc_lt _ _ ⟨pb, po + 1, none⟩ (by simp; omega), World.cell?_alloc_lt _ _ ⟨pb, po + 1, none⟩ (by simp; omega), World.cell?_alloc_lt _ _ ⟨pb, po + 1, none⟩ hpl]; exact h1
  go_enter Tryd.func20, Tryd.ntmps20
  go_wp2
  refine wp_loop_rounds 2 ?_
  rw [rounds_succ]
  go_wp2
  rw [rounds_succ]
  go_wp2
  go_ret
  exact ⟨rfl, rfl⟩
end Go.Proofs.YtjhefpcocdoilaaDoor
namespace Go.Proofs.YtjhefpcocdoilaaDoor
open Go.RowKit Go.Extern.Stop Go.Stop Go.Extern
set_option linter.unusedSimpArgs false
set_option linter.unusedVariables false

theorem cell_lt {w : World} {a : Addr} {v : Value} (h : w.cell? a = some v) : a.block < w.heap.size := by
  rcases Nat.lt_or_ge a.block w.heap.size with h1 | h1
  · exact h1
  · simp [World.cell?, Array.getElem?_eq_none h1] at h
/-- A call that may have turned one cell's block, and made new ones. -/
structure Chg (t : Nat) (w w' : World) : Prop where
  below : Below t w w'
  size : w.heap.size ≤ w'.heap.size
  cell : ∀ a : Addr, a.block < w.heap.size → a.block ≠ t → w'.cell? a = w.cell? a
theorem Chg.refl (t : Nat) (w : World) : Chg t w w := ⟨Below.refl _ _, Nat.le_refl _, fun _ _ _ => rfl⟩
theorem Chg.alloc {t : Nat} {w w' : World} (h : Chg t w w') (ht : t ≤ w.heap.size) (o : Obj) : Chg t w (w'.alloc o) :=
  ⟨h.below.alloc (Nat.le_trans ht h.size) o, by have := h.size; simp; omega, fun a h1 h2 => by
    rw [World.cell?_alloc_lt _ _ a (Nat.lt_of_lt_of_le h1 h.size)]; exact h.cell a h1 h2⟩
theorem Chg.set {t : Nat} {w w' : World} (h : Chg t w w') {p : Addr} (hp : p.block = t) (u : Value) : Chg t w (w'.setCell p u) :=
  ⟨h.below.setCell (by omega) u, by have := h.size; simpa using this, fun a h1 h2 => by
    rw [World.cell?_setCell_far _ p a u (by rw [hp]; exact fun e => h2 e.symm)]; exact h.cell a h1 h2⟩
set_option maxHeartbeats 4000000 in
theorem code_ok (n : Int) (pb po : Nat) (w : World) (hg : w.cell? ⟨0, 0, none⟩ = some (.iface 93 (.agg #[.pointer (some ⟨1, 35, none⟩)]))) (h1 : w.cell? ⟨pb, po + 1, none⟩ = some (.iface 60 (.int .i64 n))) :
    Calls Tryd.prog 17 #[.iface 74 (.pointer (some ⟨pb, po, none⟩))] w fun ev w' => ev = .returned (.int .i64 n) ∧ Below w.heap.size w w' := by
  have l0 := cell_lt hg
  have l1 := cell_lt h1
  have hA : (w.alloc (.cells #[.int .i64 0] 60)).cell? ⟨0, 0, none⟩ = some (.iface 93 (.agg #[.pointer (some ⟨1, 35, none⟩)])) := by rw [World.cell?_alloc_lt _ _ ⟨0, 0, none⟩ l0]; exact hg
  have hB : (w.alloc (.cells #[.int .i64 0] 60)).cell? ⟨pb, po + 1, none⟩ = some (.iface 60 (.int .i64 n)) := by rw [World.cell?_alloc_lt _ _ ⟨pb, po + 1, none⟩ l1]; exact h1
  have hC : (w.alloc (.cells #[.int .i64 0] 60)).cell? ⟨w.heap.size, 0, none⟩ = some (.int .i64 0) := by rw [World.cell?_alloc_at _ _ _ _ rfl]; rfl
  have hD : (w.alloc (.cells #[.int .i64 0] 60)).frozen? ⟨w.heap.size, 0, none⟩ = false := by rw [World.frozen?_alloc_at _ _ _ _ rfl]
  go_enter Tryd.func17, Tryd.ntmps17
  go_wp2_with (first | (go_at_call 20; refine (as_code n pb po ⟨w.heap.size, 0, none⟩ (.int .i64 0) _ hA hC hD hB).mono ?_; rintro ev w' ⟨rfl, rfl⟩))
  all_goals (try go_wp2)
  go_ret
  refine ⟨rfl, ?_⟩
  repeat (first | exact Below.refl _ _ | refine Below.alloc ?_ (by simp <;> omega) _ | refine Below.setCell ?_ (by simp) _)
theorem as_note2 (e t : Addr) (old : Value) (w : World) (hg : w.cell? ⟨0, 0, none⟩ = some (.iface 93 (.agg #[.pointer (some ⟨1, 35, none⟩)]))) (ht0 : w.cell? t = some old) (hf0 : w.frozen? t = false) :
    Calls Tryd.prog 20 #[.iface 74 (.pointer (some e)), .iface 78 (.pointer (some t))] w fun ev w' => ev = .returned (.bool true) ∧ w'.cell? t = some (.pointer (some e)) ∧ w'.frozen? t = false ∧ Chg t.block w w' := by
  have htl := cell_lt ht0
  refine (as_note e t old w hg ht0 hf0).mono ?_
  rintro ev w' ⟨rfl, rfl⟩
  refine ⟨rfl, ?_, ?_, ?_⟩
  · refine World.cell?_setCell_same _ _ _ (u := old) ?_
    rw [World.cell?_alloc_lt _ _ t (by simp; omega), World.cell?_alloc_lt _ _ t (by simp; omega), World.cell?_alloc_lt _ _ t (by simp; omega), World.cell?_alloc_lt _ _ t htl]; exact ht0
  · show (World.setCell _ t _).frozen? t = false
    rw [World.frozen?_setCell]
    rw [World.frozen?_alloc_old _ _ t (by simp; omega), World.frozen?_alloc_old _ _ t (by simp; omega), World.frozen?_alloc_old _ _ t (by simp; omega), World.frozen?_alloc_old _ _ t (Nat.ne_of_lt htl)]; exact hf0
  · exact Chg.set (((((Chg.refl t.block w).alloc (Nat.le_of_lt htl) _).alloc (Nat.le_of_lt htl) _).alloc (Nat.le_of_lt htl) _).alloc (Nat.le_of_lt htl) _) rfl _
theorem as_miss2 (n : Int) (t : Addr) (old : Value) (w : World) (hg : w.cell? ⟨0, 0, none⟩ = some (.iface 93 (.agg #[.pointer (some ⟨1, 35, none⟩)]))) (ht0 : w.cell? t = some old) (hf0 : w.frozen? t = false) :
    Calls Tryd.prog 20 #[.iface 60 (.int .i64 n), .iface 78 (.pointer (some t))] w fun ev w' => ev = .returned (.bool false) ∧ Below w.heap.size w w' := by
  refine (as_miss n t old w hg ht0 hf0).mono ?_
  rintro ev w' ⟨rfl, rfl⟩
  exact ⟨rfl, (((Below.refl w.heap.size w).alloc (Nat.le_refl _) _).alloc (by simp) _).alloc (by simp; omega) _⟩
set_option maxHeartbeats 4000000 in
theorem words_ok (n : Int) (pb po : Nat) (s : ByteArray) (w : World) (hg : w.cell? ⟨0, 0, none⟩ = some (.iface 93 (.agg #[.pointer (some ⟨1, 35, none⟩)]))) (h0 : w.cell? ⟨pb, po, none⟩ = some (.string s)) (h1 : w.cell? ⟨pb, po + 1, none⟩ = some (.iface 60 (.int .i64 n))) :
    Calls Tryd.prog 16 #[.iface 74 (.pointer (some ⟨pb, po, none⟩))] w fun ev w' => ∃ a c, ev = .returned (.slice (some a) 1 c) ∧ w'.cell? a = some (.string s) ∧ Below w.heap.size w w' := by
  have l0 := cell_lt hg
  have l1 := cell_lt h1
  have hA : (w.alloc (.cells #[.pointer none] 74)).cell? ⟨0, 0, none⟩ = some (.iface 93 (.agg #[.pointer (some ⟨1, 35, none⟩)])) := by rw [World.cell?_alloc_lt _ _ ⟨0, 0, none⟩ l0]; exact hg
  have hC : (w.alloc (.cells #[.pointer none] 74)).cell? ⟨w.heap.size, 0, none⟩ = some (.pointer none) := by rw [World.cell?_alloc_at _ _ _ _ rfl]; rfl
  have hD : (w.alloc (.cells #[.pointer none] 74)).frozen? ⟨w.heap.size, 0, none⟩ = false := by rw [World.frozen?_alloc_at _ _ _ _ rfl]
  have hE : (w.alloc (.cells #[.pointer none] 74)).cell? ⟨pb, po, none⟩ = some (.string s) := by rw [World.cell?_alloc_lt _ _ ⟨pb, po, none⟩ l1]; exact h0
  have hF : (w.alloc (.cells #[.pointer none] 74)).cell? ⟨pb, po + 1, none⟩ = some (.iface 60 (.int .i64 n)) := by rw [World.cell?_alloc_lt _ _ ⟨pb, po + 1, none⟩ l1]; exact h1
  have hB0 : Below w.heap.size w (w.alloc (.cells #[.pointer none] 74)) := (Below.refl w.heap.size w).alloc (Nat.le_refl _) _
  have hz : (w.alloc (.cells #[.pointer none] 74)).heap.size = w.heap.size + 1 := by simp
  go_enter Tryd.func16, Tryd.ntmps16
  go_wp2
  generalize (w.alloc (.cells #[.pointer none] 74)) = w1 at *
  refine wp_loop_rounds 2 ?_
  rw [rounds_succ]
  go_wp2_with (first | (go_at_call 20; refine (as_note2 ⟨pb, po, none⟩ ⟨w.heap.size, 0, none⟩ (.pointer none) w1 hA hC hD).mono ?_; rintro ev w' ⟨rfl, i1, i2, i3⟩; have i4 := (i3.cell ⟨pb, po, none⟩ (by simp only; omega) (by simp only; omega)).trans hE; have i5 := (i3.cell ⟨pb, po + 1, none⟩ (by simp only; omega) (by simp only; omega)).trans hF; have i6 := (i3.cell ⟨0, 0, none⟩ (by simp only; omega) (by simp only; omega)).trans hA; have j1 : w.heap.size < w'.heap.size := (by have := i3.size; omega); have j2 : w.heap.size < w'.heap.size + 1 := (by omega); have j3 : pb < w'.heap.size := (by omega); have j4 : pb < w'.heap.size + 1 := (by omega); have j5 : pb < w'.heap.size + 1 + 1 := (by omega); have j6 : 0 < w'.heap.size := (by omega); have j7 : 0 < w'.heap.size + 1 := (by omega); have j8 : 0 < w'.heap.size + 1 + 1 := (by omega)))
  all_goals (try go_wp2)
  all_goals rw [rounds_succ]
  all_goals (try go_wp2_with (first | (go_at_call 20; refine (as_miss2 n ⟨w'.heap.size + 1 + 1, 0, none⟩ (.pointer (some ⟨pb, po, none⟩)) _ (by go_simp) (by go_simp) (by go_simp)).mono ?_; rintro ev w'' ⟨rfl, k1⟩)))
  go_ret
  refine ⟨_, _, rfl, ?_, ?_⟩
  · rw [k1.cell (by simp)]
    go_simp
    rw [Array.getElem?_append_left (by simp)]
    rfl
  · refine hB0.trans (i3.below.trans (Below.trans ?_ (k1.mono ?_)))
    · repeat (first | exact Below.refl _ _ | refine Below.alloc ?_ (by first | omega | (simp; done) | (simp; omega)) _ | refine Below.setCell ?_ (by first | omega | (simp; done) | (simp; omega)) _ | refine Below.drew ?_)
    · first | omega | (simp; done) | (simp; omega)
end Go.Proofs.YtjhefpcocdoilaaDoor
namespace Go.Proofs.YtjhefpcocdoilaaDoor
open Go.RowKit Go.Extern.Stop Go.Stop Go.Extern
set_option linter.unusedSimpArgs false
set_option linter.unusedVariables false

set_option maxHeartbeats 4000000 in
theorem new_ok (w : World) :
    Calls Tryd.prog 4 #[.agg #[.int .i64 1, .int .i64 1, .int .i64 1, .int .i64 1, .int .i64 0, .int .i64 1, .int .i64 1]] w fun ev w' => ev = .returned (.tuple #[.agg #[.int .i64 1, .int .i64 1, .int .i64 1, .int .i64 1, .int .i64 0, .int .i64 1, .int .i64 1], .nilIface]) ∧ Below w.heap.size w w' := by
  go_enter Tryd.func4, Tryd.ntmps4
  go_wp2
  refine wp_loop_rounds 8 ?_
  rw [rounds_succ]
  go_wp2
  rw [rounds_succ]
  go_wp2
  rw [rounds_succ]
  go_wp2
  rw [rounds_succ]
  go_wp2
  rw [rounds_succ]
  go_wp2
  rw [rounds_succ]
  go_wp2
  rw [rounds_succ]
  go_wp2
  rw [rounds_succ]
  go_wp2
  refine bodyPost_ret (v := .tuple #[.agg #[.int .i64 1, .int .i64 1, .int .i64 1, .int .i64 1, .int .i64 0, .int .i64 1, .int .i64 1], .nilIface]) (by simp [results, Tryd.results4, go_sem]) rfl ⟨rfl, ?_⟩
  repeat (first | exact Below.refl _ _ | refine Below.alloc ?_ (by first | omega | (simp; done) | (simp; omega)) _ | refine Below.setCell ?_ (by first | omega | (simp; done) | (simp; omega)) _ | refine Below.drew ?_)
end Go.Proofs.YtjhefpcocdoilaaDoor
namespace Go.Proofs.YtjhefpcocdoilaaDoor
open Go.RowKit Go.Extern.Stop Go.Stop Go.Extern
set_option linter.unusedSimpArgs false
set_option linter.unusedVariables false

set_option maxHeartbeats 4000000 in
theorem fence_ok (lb c : Nat) (w : World) (c0 : w.cell? ⟨lb, 0, none⟩ = some (.int .i64 1)) (c1 : w.cell? ⟨lb, 1, none⟩ = some (.int .i64 9)) (c2 : w.cell? ⟨lb, 2, none⟩ = some (.int .i64 99)) (c3 : w.cell? ⟨lb, 3, none⟩ = some (.int .i64 9)) (c4 : w.cell? ⟨lb, 4, none⟩ = some (.int .i64 0)) :
    Calls Tryd.prog 8 #[.agg #[.int .i64 1, .int .i64 1, .int .i64 1, .int .i64 1, .int .i64 0, .int .i64 1, .int .i64 1], .slice (some ⟨lb, 0, none⟩) 1 c] w fun ev w' => ∃ F b c', ev = .returned (.tuple #[.pointer (some ⟨F, 0, none⟩), .nilIface]) ∧ w'.cell? ⟨F, 7, none⟩ = some (.slice (some ⟨b, 0, none⟩) 1 c') ∧ w'.cell? ⟨b, 0, none⟩ = some (.int .i64 1) ∧ w'.cell? ⟨b, 1, none⟩ = some (.int .i64 9) ∧ w'.cell? ⟨b, 2, none⟩ = some (.int .i64 99) ∧ w'.cell? ⟨b, 3, none⟩ = some (.int .i64 9) ∧ w'.cell? ⟨b, 4, none⟩ = some (.int .i64 0) ∧ Below w.heap.size w w' := by
  have l0 : lb < w.heap.size := cell_lt c0
  have m1 : lb < w.heap.size + 1 := by omega
  have m2 : lb < w.heap.size + 1 + 1 := by omega
  have m3 : lb < w.heap.size + 1 + 1 + 1 := by omega
  have m4 : lb < w.heap.size + 1 + 1 + 1 + 1 := by omega
  have m5 : lb < w.heap.size + 1 + 1 + 1 + 1 + 1 := by omega
  have m6 : lb < w.heap.size + 1 + 1 + 1 + 1 + 1 + 1 := by omega
  have m7 : lb < w.heap.size + 1 + 1 + 1 + 1 + 1 + 1 + 1 := by omega
  have m8 : lb < w.heap.size + 1 + 1 + 1 + 1 + 1 + 1 + 1 + 1 := by omega
  have m9 : lb < w.heap.size + 1 + 1 + 1 + 1 + 1 + 1 + 1 + 1 + 1 := by omega
  have m10 : lb < w.heap.size + 1 + 1 + 1 + 1 + 1 + 1 + 1 + 1 + 1 + 1 := by omega
  have m11 : lb < w.heap.size + 1 + 1 + 1 + 1 + 1 + 1 + 1 + 1 + 1 + 1 + 1 := by omega
  have m12 : lb < w.heap.size + 1 + 1 + 1 + 1 + 1 + 1 + 1 + 1 + 1 + 1 + 1 + 1 := by omega
  have hcap : ¬ 281474976710656 < Builtin.nextslicecap 1 0 * Tryd.t62.bytes := by decide +kernel
  go_enter Tryd.func8, Tryd.ntmps8
  go_wp2
  refine wp_loop_rounds 2 ?_
  rw [rounds_succ]
  go_wp2
  refine wp_loop_rounds 6 ?_
  rw [rounds_succ]
  go_wp2
  rw [rounds_succ]
  go_wp2
  rw [rounds_succ]
  go_wp2
  rw [rounds_succ]
  go_wp2
  rw [rounds_succ]
  go_wp2
  rw [rounds_succ]
  go_wp2
  rw [rounds_succ]
  go_wp2
  go_region
  all_goals (try go_wp2)
  go_ret2
  refine ⟨w.heap.size + 1 + 1 + 1 + 1, w.heap.size + 1 + 1 + 1, (Question.appendCap 1 0 62).cut (w.tape (w.drawn + 1) (Question.appendCap 1 0 62)), rfl, ?_, ?_, ?_, ?_, ?_, ?_, ?_⟩
  · go_simp
  · go_simp
    first | (rw [Array.getElem?_append_left (by simp)]; rfl) | rfl
  · go_simp
    first | (rw [Array.getElem?_append_left (by simp)]; rfl) | rfl
  · go_simp
    first | (rw [Array.getElem?_append_left (by simp)]; rfl) | rfl
  · go_simp
    first | (rw [Array.getElem?_append_left (by simp)]; rfl) | rfl
  · go_simp
    first | (rw [Array.getElem?_append_left (by simp)]; rfl) | rfl
  · repeat (first | exact Below.refl _ _ | refine Below.alloc ?_ (by first | omega | (simp; done) | (simp; omega)) _ | refine Below.setCell ?_ (by first | omega | (simp; done) | (simp; omega)) _ | refine Below.drew ?_)
end Go.Proofs.YtjhefpcocdoilaaDoor
