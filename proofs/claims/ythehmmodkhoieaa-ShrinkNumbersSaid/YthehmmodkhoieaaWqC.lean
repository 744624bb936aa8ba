/- The resolved code of the functions, by a program. -/
import Derived.Test.YthehmmodkhoieaaWRk
import Derived.Test.YthehmmodkhoieaaWqA
namespace Go.W
open Go.Proofs
set_option maxRecDepth 100000
def q35_0 : List MO := [(MO.mk (some 4) (.mv (.c (.int .i64 0))) none)]
@[simp] theorem l35_0 : q35_0.length = 1 := rfl
def q35_1 : List MO := [(MO.mk (some 5) (.mv (.c (.int .i64 0))) none)]
@[simp] theorem l35_1 : q35_1.length = 1 := rfl
def q35_2 : List MO := [(MO.mk (some 8) (.mv (.t 0)) none), (MO.mk (some 9) (.len (.t 8)) none), (MO.mk (some 10) (.mv (.c (.int .i64 0))) none)]
@[simp] theorem l35_2 : q35_2.length = 3 := rfl
def q35_3 : List MO := [(MO.mk (some 11) (.bin .lss (.t 10) (.t 9)) none)]
@[simp] theorem l35_3 : q35_3.length = 1 := rfl
def q35_4 : List MO := [(MO.mk (some 12) (.iaddr 12 (.t 8) (.t 10)) none), (MO.mk (some 13) (.load true 12 (.t 12)) none), (MO.mk (some 7) (.alloc [(.int .i64 0), (.int .i64 0), (.int .i64 0), (.int .i64 0), (.int .i64 0), (.int .i64 0), (.int .i64 0), (.int .i64 0), (.int .i64 0), (.int .i64 0), (.int .i64 0), (.int .i64 0)]) none), (MO.mk none (.store 12 (.t 7) (.t 13)) none)]
@[simp] theorem l35_4 : q35_4.length = 4 := rfl
def q35_5 : List MO := [(MO.mk (some 17) (.faddr 0 (.t 7)) none), (MO.mk (some 18) (.load false 1 (.t 17)) none), (MO.mk (some 19) (.mv (.t 1)) none), (MO.mk (some 20) (.bin .neq (.t 18) (.t 19)) none), (MO.mk (some 16) (.mv (.t 20)) none)]
@[simp] theorem l35_5 : q35_5.length = 5 := rfl
def q35_6 : List MO := [(MO.mk (some 22) (.faddr 2 (.t 7)) none), (MO.mk (some 23) (.load false 1 (.t 22)) none), (MO.mk (some 24) (.bin .gtr (.t 23) (.c (.int .i64 0))) none), (MO.mk (some 25) (.mv (.t 24)) none), (MO.mk (some 26) (.faddr 2 (.t 7)) (some (25, true))), (MO.mk (some 27) (.load false 1 (.t 26)) (some (25, true))), (MO.mk (some 28) (.bin .lss (.t 27) (.c (.int .i64 1000))) (some (25, true))), (MO.mk (some 29) (.pick (.t 25) (.t 28) (.c (.bool false))) none), (MO.mk (some 21) (.mv (.t 29)) none)]
@[simp] theorem l35_6 : q35_6.length = 9 := rfl
def q35_7 : List MO := [(MO.mk (some 30) (.mv (.t 5)) none), (MO.mk (some 31) (.faddr 2 (.t 7)) none), (MO.mk (some 32) (.load false 1 (.t 31)) none), (MO.mk (some 33) (.bin .add (.t 30) (.t 32)) none), (MO.mk (some 5) (.mv (.t 33)) none)]
@[simp] theorem l35_7 : q35_7.length = 5 := rfl
def q35_8 : List MO := [(MO.mk (some 14) (.mv (.t 5)) none), (MO.mk (some 15) (.bin .add (.t 14) (.c (.int .i64 1))) none), (MO.mk (some 5) (.mv (.t 15)) none)]
@[simp] theorem l35_8 : q35_8.length = 3 := rfl
def q35_9 : List MO := [(MO.mk (some 34) (.bin .add (.t 10) (.c (.int .i64 1))) none), (MO.mk (some 10) (.mv (.t 34)) none)]
@[simp] theorem l35_9 : q35_9.length = 2 := rfl
def q35_10 : List MO := [(MO.mk (some 35) (.mv (.t 5)) none), (MO.mk (some 4) (.mv (.t 35)) none)]
@[simp] theorem l35_10 : q35_10.length = 2 := rfl
def m35 : MCode := .seq (.reg q35_0) (.seq (.reg q35_1) (.seq (.seq (.reg q35_2) (.block 0 (.loop (.seq (.reg q35_3) (.seq (.cond (.t 11) .skip (.exit 0)) (.seq (.block 1 (.seq (.reg q35_4) (.block 2 (.seq (.reg q35_5) (.cond (.t 16) .skip (.seq (.reg q35_6) (.cond (.t 21) (.reg q35_7) (.reg q35_8)))))))) (.reg q35_9))))))) (.seq (.reg q35_10) .ret)))
theorem rc35 : rcOf Try.prog Try.f35 = some m35 := by kernel_rfl
theorem rv35 : rRVs Try.prog Try.f35.results.toList = some [(.t 4)] := by kernel_rfl
theorem nm35 : (Try.f35.name == "runtime.NumGoroutine") = false := by kernel_rfl
def q34_0 : List MO := [(MO.mk (some 4) (.mv (.c (.bool false))) none)]
@[simp] theorem l34_0 : q34_0.length = 1 := rfl
def q34_1 : List MO := [(MO.mk (some 5) (.mv (.t 0)) none), (MO.mk (some 6) (.load false 1 (.t 1)) none), (MO.mk (some 7) (.call (.c (.fn 35 [])) [(.t 5), (.t 6)]) none), (MO.mk (some 8) (.load false 1 (.t 2)) none), (MO.mk (some 9) (.bin .geq (.t 7) (.t 8)) none), (MO.mk (some 4) (.mv (.t 9)) none)]
@[simp] theorem l34_1 : q34_1.length = 6 := rfl
def p34_1 : List (List Nat) := [[], [], [0, 1], [], [2, 3], [4, 2, 0, 1, 2, 3, 4]]
def c34_1 : List (List Nat) := [[], [], [0, 1], [], [0, 1, 2, 3], [0, 1, 2, 3, 4]]
def m34 : MCode := .seq (.reg q34_0) (.seq (.draw q34_1 p34_1) .ret)
theorem rc34 : rcOf Try.prog Try.f34 = some m34 := by kernel_rfl
theorem rv34 : rRVs Try.prog Try.f34.results.toList = some [(.t 4)] := by kernel_rfl
theorem nm34 : (Try.f34.name == "runtime.NumGoroutine") = false := by kernel_rfl
def q39_0 : List MO := [(MO.mk (some 4) (.mv (.c (.bool false))) none)]
@[simp] theorem l39_0 : q39_0.length = 1 := rfl
def q39_1 : List MO := [(MO.mk (some 5) (.mv (.t 0)) none), (MO.mk (some 6) (.load false 1 (.t 1)) none), (MO.mk (some 7) (.call (.c (.fn 35 [])) [(.t 5), (.t 6)]) none), (MO.mk (some 8) (.load false 1 (.t 2)) none), (MO.mk (some 9) (.bin .geq (.t 7) (.t 8)) none), (MO.mk (some 4) (.mv (.t 9)) none)]
@[simp] theorem l39_1 : q39_1.length = 6 := rfl
def p39_1 : List (List Nat) := [[], [], [0, 1], [], [2, 3], [4, 2, 0, 1, 2, 3, 4]]
def c39_1 : List (List Nat) := [[], [], [0, 1], [], [0, 1, 2, 3], [0, 1, 2, 3, 4]]
def m39 : MCode := .seq (.reg q39_0) (.seq (.draw q39_1 p39_1) .ret)
theorem rc39 : rcOf Try.prog Try.f39 = some m39 := by kernel_rfl
theorem rv39 : rRVs Try.prog Try.f39.results.toList = some [(.t 4)] := by kernel_rfl
theorem nm39 : (Try.f39.name == "runtime.NumGoroutine") = false := by kernel_rfl
def q59_0 : List MO := [(MO.mk (some 2) (.mv (.c (.bool false))) none)]
@[simp] theorem l59_0 : q59_0.length = 1 := rfl
def q59_1 : List MO := [(MO.mk (some 3) (.mv (.t 0)) none), (MO.mk (some 4) (.call (.c (.fn 35 [])) [(.t 3), (.c (.int .i64 2))]) none), (MO.mk (some 5) (.bin .geq (.t 4) (.c (.int .i64 3))) none), (MO.mk (some 2) (.mv (.t 5)) none)]
@[simp] theorem l59_1 : q59_1.length = 4 := rfl
def m59 : MCode := .seq (.reg q59_0) (.seq (.reg q59_1) .ret)
theorem rc59 : rcOf Try.prog Try.f59 = some m59 := by kernel_rfl
theorem rv59 : rRVs Try.prog Try.f59.results.toList = some [(.t 2)] := by kernel_rfl
theorem nm59 : (Try.f59.name == "runtime.NumGoroutine") = false := by kernel_rfl
def q40_0 : List MO := [(MO.mk (some 4) (.mv (.c (.bool false))) none)]
@[simp] theorem l40_0 : q40_0.length = 1 := rfl
def q40_1 : List MO := [(MO.mk (some 5) (.load false 1 (.t 1)) none), (MO.mk (some 6) (.mv (.t 0)) none), (MO.mk (some 7) (.len (.t 6)) none), (MO.mk (some 8) (.bin .lss (.t 5) (.t 7)) none), (MO.mk (some 9) (.mv (.t 8)) none), (MO.mk (some 10) (.mv (.t 0)) (some (9, true))), (MO.mk (some 11) (.load false 1 (.t 1)) (some (9, true))), (MO.mk (some 12) (.iaddr 12 (.t 10) (.t 11)) (some (9, true))), (MO.mk (some 13) (.faddr 2 (.t 12)) (some (9, true))), (MO.mk (some 14) (.load false 1 (.t 13)) (some (9, true))), (MO.mk (some 15) (.load false 1 (.t 2)) (some (9, true))), (MO.mk (some 16) (.bin .geq (.t 14) (.t 15)) (some (9, true))), (MO.mk (some 17) (.pick (.t 9) (.t 16) (.c (.bool false))) none), (MO.mk (some 4) (.mv (.t 17)) none)]
@[simp] theorem l40_1 : q40_1.length = 14 := rfl
def p40_1 : List (List Nat) := [[], [], [1], [0, 2], [3], [4], [4], [5, 6, 4], [7, 4], [8, 4], [4], [9, 10, 4], [4, 11], [12, 4, 0, 1, 2, 3, 4, 5, 6, 7, 8, 9, 10, 11, 12]]
def c40_1 : List (List Nat) := [[], [], [1], [0, 1, 2], [0, 1, 2, 3], [0, 1, 2, 3, 4], [0, 1, 2, 3, 4], [0, 1, 2, 3, 4, 5, 6], [0, 1, 2, 3, 4, 5, 6, 7], [0, 1, 2, 3, 4, 5, 6, 7, 8], [0, 1, 2, 3, 4], [0, 1, 2, 3, 4, 5, 6, 7, 8, 9, 10], [0, 1, 2, 3, 4, 5, 6, 7, 8, 9, 10, 11], [0, 1, 2, 3, 4, 5, 6, 7, 8, 9, 10, 11, 12]]
def m40 : MCode := .seq (.reg q40_0) (.seq (.draw q40_1 p40_1) .ret)
theorem rc40 : rcOf Try.prog Try.f40 = some m40 := by kernel_rfl
theorem rv40 : rRVs Try.prog Try.f40.results.toList = some [(.t 4)] := by kernel_rfl
theorem nm40 : (Try.f40.name == "runtime.NumGoroutine") = false := by kernel_rfl
def q61_0 : List MO := [(MO.mk (some 2) (.mv (.c .nsl)) none)]
@[simp] theorem l61_0 : q61_0.length = 1 := rfl
def q61_1 : List MO := [(MO.mk (some 3) (.mv (.t 0)) none), (MO.mk (some 4) (.eq false .slice (.t 3) (.c .nsl)) none)]
@[simp] theorem l61_1 : q61_1.length = 2 := rfl
def q61_2 : List MO := [(MO.mk (some 2) (.mv (.c .nsl)) none)]
@[simp] theorem l61_2 : q61_2.length = 1 := rfl
def q61_3 : List MO := [(MO.mk (some 5) (.bsl 12 0 [(.int .i64 0), (.int .i64 0), (.int .i64 0), (.int .i64 0), (.int .i64 0), (.int .i64 0), (.int .i64 0), (.int .i64 0), (.int .i64 0), (.int .i64 0), (.int .i64 0), (.int .i64 0)] []) none), (MO.mk (some 6) (.mv (.t 0)) none), (MO.mk (some 7) (.app 12 96 (.t 5) (.t 6)) none), (MO.mk (some 2) (.mv (.t 7)) none)]
@[simp] theorem l61_3 : q61_3.length = 4 := rfl
def m61 : MCode := .seq (.reg q61_0) (.seq (.seq (.reg q61_1) (.cond (.t 4) (.seq (.reg q61_2) .ret) .skip)) (.seq (.reg q61_3) .ret))
theorem rc61 : rcOf Try.prog Try.f61 = some m61 := by kernel_rfl
theorem rv61 : rRVs Try.prog Try.f61.results.toList = some [(.t 2)] := by kernel_rfl
theorem nm61 : (Try.f61.name == "runtime.NumGoroutine") = false := by kernel_rfl
def q102_0 : List MO := [(MO.mk (some 4) (.mv (.c .nsl)) none)]
@[simp] theorem l102_0 : q102_0.length = 1 := rfl
def q102_1 : List MO := [(MO.mk (some 5) (.mv (.t 1)) none), (MO.mk (some 6) (.bin .lss (.t 5) (.c (.int .i64 0))) none)]
@[simp] theorem l102_1 : q102_1.length = 2 := rfl
def q102_2 : List MO := [(MO.mk (some 7) (.mkif 9 (.c (.str (ByteArray.mk #[99, 97, 110, 110, 111, 116, 32, 98, 101, 32, 110, 101, 103, 97, 116, 105, 118, 101])))) none), (MO.mk none .stop none)]
@[simp] theorem l102_2 : q102_2.length = 2 := rfl
def q102_3 : List MO := [(MO.mk (some 8) (.mv (.t 1)) none), (MO.mk (some 9) (.mv (.t 0)) none), (MO.mk (some 10) (.cap (.t 9)) none), (MO.mk (some 11) (.mv (.t 0)) none), (MO.mk (some 12) (.len (.t 11)) none), (MO.mk (some 13) (.bin .sub (.t 10) (.t 12)) none), (MO.mk (some 14) (.bin .sub (.t 8) (.t 13)) none), (MO.mk (some 1) (.mv (.t 14)) none)]
@[simp] theorem l102_3 : q102_3.length = 8 := rfl
def q102_4 : List MO := [(MO.mk (some 15) (.mv (.t 1)) none), (MO.mk (some 16) (.bin .gtr (.t 15) (.c (.int .i64 0))) none)]
@[simp] theorem l102_4 : q102_4.length = 2 := rfl
def q102_5 : List MO := [(MO.mk (some 17) (.mv (.t 0)) none), (MO.mk (some 18) (.mv (.t 0)) none), (MO.mk (some 19) (.cap (.t 18)) none), (MO.mk (some 20) (.slc 12 (.t 17) none (some (.t 19))) none), (MO.mk (some 21) (.mv (.t 1)) none), (MO.mk (some 22) (.appz 12 96 (.t 20) (.t 21)) none), (MO.mk (some 23) (.mv (.t 0)) none), (MO.mk (some 24) (.len (.t 23)) none), (MO.mk (some 25) (.slc 12 (.t 22) none (some (.t 24))) none), (MO.mk (some 0) (.mv (.t 25)) none)]
@[simp] theorem l102_5 : q102_5.length = 10 := rfl
def q102_6 : List MO := [(MO.mk (some 26) (.mv (.t 0)) none), (MO.mk (some 4) (.mv (.t 26)) none)]
@[simp] theorem l102_6 : q102_6.length = 2 := rfl
def m102 : MCode := .seq (.reg q102_0) (.seq (.seq (.reg q102_1) (.cond (.t 6) (.reg q102_2) .skip)) (.seq (.seq (.reg q102_3) (.seq (.reg q102_4) (.cond (.t 16) (.reg q102_5) .skip))) (.seq (.reg q102_6) .ret)))
theorem rc102 : rcOf Try.prog Try.f102 = some m102 := by kernel_rfl
theorem rv102 : rRVs Try.prog Try.f102.results.toList = some [(.t 4)] := by kernel_rfl
theorem nm102 : (Try.f102.name == "runtime.NumGoroutine") = false := by kernel_rfl
def q95_0 : List MO := [(MO.mk (some 2) (.mv (.c .nsl)) none)]
@[simp] theorem l95_0 : q95_0.length = 1 := rfl
def q95_1 : List MO := [(MO.mk (some 3) (.mv (.c (.int .i64 0))) none)]
@[simp] theorem l95_1 : q95_1.length = 1 := rfl
def q95_2 : List MO := [(MO.mk (some 9) (.mv (.t 0)) none), (MO.mk (some 10) (.len (.t 9)) none), (MO.mk (some 11) (.mv (.c (.int .i64 0))) none)]
@[simp] theorem l95_2 : q95_2.length = 3 := rfl
def q95_3 : List MO := [(MO.mk (some 12) (.bin .lss (.t 11) (.t 10)) none)]
@[simp] theorem l95_3 : q95_3.length = 1 := rfl
def q95_4 : List MO := [(MO.mk (some 13) (.iaddr 1 (.t 9) (.t 11)) none), (MO.mk (some 14) (.load false 1 (.t 13)) none), (MO.mk (some 5) (.mv (.t 14)) none)]
@[simp] theorem l95_4 : q95_4.length = 3 := rfl
def q95_5 : List MO := [(MO.mk (some 15) (.mv (.t 3)) none), (MO.mk (some 16) (.mv (.t 5)) none), (MO.mk (some 17) (.len (.t 16)) none), (MO.mk (some 18) (.bin .add (.t 15) (.t 17)) none), (MO.mk (some 3) (.mv (.t 18)) none)]
@[simp] theorem l95_5 : q95_5.length = 5 := rfl
def q95_6 : List MO := [(MO.mk (some 19) (.mv (.t 3)) none), (MO.mk (some 20) (.bin .lss (.t 19) (.c (.int .i64 0))) none)]
@[simp] theorem l95_6 : q95_6.length = 2 := rfl
def q95_7 : List MO := [(MO.mk (some 21) (.mkif 9 (.c (.str (ByteArray.mk #[108, 101, 110, 32, 111, 117, 116, 32, 111, 102, 32, 114, 97, 110, 103, 101])))) none), (MO.mk none .stop none)]
@[simp] theorem l95_7 : q95_7.length = 2 := rfl
def q95_8 : List MO := [(MO.mk (some 22) (.bin .add (.t 11) (.c (.int .i64 1))) none), (MO.mk (some 11) (.mv (.t 22)) none)]
@[simp] theorem l95_8 : q95_8.length = 2 := rfl
def q95_9 : List MO := [(MO.mk (some 23) (.mv (.t 3)) none), (MO.mk (some 24) (.call (.c (.fn 102 [])) [(.c .nsl), (.t 23)]) none), (MO.mk (some 6) (.mv (.t 24)) none)]
@[simp] theorem l95_9 : q95_9.length = 3 := rfl
def q95_10 : List MO := [(MO.mk (some 25) (.mv (.t 0)) none), (MO.mk (some 26) (.len (.t 25)) none), (MO.mk (some 27) (.mv (.c (.int .i64 0))) none)]
@[simp] theorem l95_10 : q95_10.length = 3 := rfl
def q95_11 : List MO := [(MO.mk (some 28) (.bin .lss (.t 27) (.t 26)) none)]
@[simp] theorem l95_11 : q95_11.length = 1 := rfl
def q95_12 : List MO := [(MO.mk (some 29) (.iaddr 1 (.t 25) (.t 27)) none), (MO.mk (some 30) (.load false 1 (.t 29)) none), (MO.mk (some 8) (.mv (.t 30)) none)]
@[simp] theorem l95_12 : q95_12.length = 3 := rfl
def q95_13 : List MO := [(MO.mk (some 31) (.mv (.t 6)) none), (MO.mk (some 32) (.mv (.t 8)) none), (MO.mk (some 33) (.app 12 96 (.t 31) (.t 32)) none), (MO.mk (some 6) (.mv (.t 33)) none)]
@[simp] theorem l95_13 : q95_13.length = 4 := rfl
def q95_14 : List MO := [(MO.mk (some 34) (.bin .add (.t 27) (.c (.int .i64 1))) none), (MO.mk (some 27) (.mv (.t 34)) none)]
@[simp] theorem l95_14 : q95_14.length = 2 := rfl
def q95_15 : List MO := [(MO.mk (some 35) (.mv (.t 6)) none), (MO.mk (some 2) (.mv (.t 35)) none)]
@[simp] theorem l95_15 : q95_15.length = 2 := rfl
def m95 : MCode := .seq (.reg q95_0) (.seq (.reg q95_1) (.seq (.seq (.reg q95_2) (.block 0 (.loop (.seq (.reg q95_3) (.seq (.cond (.t 12) .skip (.exit 0)) (.seq (.block 1 (.seq (.reg q95_4) (.seq (.reg q95_5) (.seq (.reg q95_6) (.cond (.t 20) (.reg q95_7) .skip))))) (.reg q95_8))))))) (.seq (.reg q95_9) (.seq (.seq (.reg q95_10) (.block 2 (.loop (.seq (.reg q95_11) (.seq (.cond (.t 28) .skip (.exit 2)) (.seq (.block 3 (.seq (.reg q95_12) (.reg q95_13))) (.reg q95_14))))))) (.seq (.reg q95_15) .ret)))))
theorem rc95 : rcOf Try.prog Try.f95 = some m95 := by kernel_rfl
theorem rv95 : rRVs Try.prog Try.f95.results.toList = some [(.t 2)] := by kernel_rfl
theorem nm95 : (Try.f95.name == "runtime.NumGoroutine") = false := by kernel_rfl
def q82_0 : List MO := [(MO.mk (some 6) (.mv (.c .nsl)) none)]
@[simp] theorem l82_0 : q82_0.length = 1 := rfl
def q82_1 : List MO := [(MO.mk (some 7) (.mv (.t 0)) none), (MO.mk (some 8) (.mv (.t 1)) none), (MO.mk (some 9) (.slc 12 (.t 7) none (some (.t 8))) none), (MO.mk (some 10) (.mv (.t 0)) none), (MO.mk (some 11) (.mv (.t 1)) none), (MO.mk (some 12) (.mv (.t 2)) none), (MO.mk (some 13) (.bin .add (.t 11) (.t 12)) none), (MO.mk (some 14) (.mv (.t 0)) none), (MO.mk (some 15) (.len (.t 14)) none), (MO.mk (some 16) (.mn [(.t 13), (.t 15)]) none), (MO.mk (some 17) (.slc 12 (.t 10) (some (.t 16)) none) none), (MO.mk (some 18) (.bsl 1 2 [.nsl] [(0, (1, (.t 9))), (1, (1, (.t 17)))]) none), (MO.mk (some 19) (.call (.c (.fn 95 [])) [(.t 18)]) none), (MO.mk (some 6) (.mv (.t 19)) none)]
@[simp] theorem l82_1 : q82_1.length = 14 := rfl
def p82_1 : List (List Nat) := [[], [], [0, 1], [], [], [], [4, 5], [], [7], [6, 8], [3, 9], [2, 10], [11], [12, 12, 0, 1, 2, 3, 4, 5, 6, 7, 8, 9, 10, 11, 12]]
def c82_1 : List (List Nat) := [[], [], [0, 1], [], [], [], [4, 5], [], [7], [4, 5, 6, 7, 8], [3, 4, 5, 6, 7, 8, 9], [0, 1, 2, 3, 4, 5, 6, 7, 8, 9, 10], [0, 1, 2, 3, 4, 5, 6, 7, 8, 9, 10, 11], [0, 1, 2, 3, 4, 5, 6, 7, 8, 9, 10, 11, 12]]
def m82 : MCode := .seq (.reg q82_0) (.seq (.draw q82_1 p82_1) .ret)
theorem rc82 : rcOf Try.prog Try.f82 = some m82 := by kernel_rfl
theorem rv82 : rRVs Try.prog Try.f82.results.toList = some [(.t 6)] := by kernel_rfl
theorem nm82 : (Try.f82.name == "runtime.NumGoroutine") = false := by kernel_rfl
def q62_0 : List MO := [(MO.mk (some 6) (.mv (.c .nsl)) none)]
@[simp] theorem l62_0 : q62_0.length = 1 := rfl
def q62_1 : List MO := [(MO.mk (some 7) (.mv (.c (.int .i64 0))) none)]
@[simp] theorem l62_1 : q62_1.length = 1 := rfl
def q62_2 : List MO := [(MO.mk (some 9) (.mv (.t 7)) none), (MO.mk (some 10) (.mv (.t 0)) none), (MO.mk (some 11) (.len (.t 10)) none), (MO.mk (some 12) (.bin .lss (.t 9) (.t 11)) none)]
@[simp] theorem l62_2 : q62_2.length = 4 := rfl
def q62_3 : List MO := [(MO.mk (some 13) (.mv (.t 0)) none), (MO.mk (some 14) (.mv (.t 7)) none), (MO.mk (some 15) (.mv (.t 1)) none), (MO.mk (some 16) (.call (.c (.fn 82 [])) [(.t 13), (.t 14), (.t 15)]) none), (MO.mk (some 8) (.mv (.t 16)) none)]
@[simp] theorem l62_3 : q62_3.length = 5 := rfl
def q62_4 : List MO := [(MO.mk (some 17) (.mv (.t 2)) none), (MO.mk (some 18) (.mv (.t 8)) none), (MO.mk (some 19) (.call (.t 17) [(.t 18)]) none)]
@[simp] theorem l62_4 : q62_4.length = 3 := rfl
def q62_5 : List MO := [(MO.mk (some 20) (.mv (.t 8)) none), (MO.mk (some 0) (.mv (.t 20)) none)]
@[simp] theorem l62_5 : q62_5.length = 2 := rfl
def q62_6 : List MO := [(MO.mk (some 21) (.mv (.t 7)) none), (MO.mk (some 22) (.mv (.t 1)) none), (MO.mk (some 23) (.bin .add (.t 21) (.t 22)) none), (MO.mk (some 7) (.mv (.t 23)) none)]
@[simp] theorem l62_6 : q62_6.length = 4 := rfl
def q62_7 : List MO := [(MO.mk (some 24) (.mv (.t 0)) none), (MO.mk (some 6) (.mv (.t 24)) none)]
@[simp] theorem l62_7 : q62_7.length = 2 := rfl
def m62 : MCode := .seq (.reg q62_0) (.seq (.seq (.reg q62_1) (.block 0 (.loop (.seq (.seq (.reg q62_2) (.cond (.t 12) .skip (.exit 0))) (.block 1 (.seq (.seq (.reg q62_3) (.seq (.reg q62_4) (.cond (.t 19) (.seq (.reg q62_5) (.exit 1)) .skip))) (.reg q62_6))))))) (.seq (.reg q62_7) .ret))
theorem rc62 : rcOf Try.prog Try.f62 = some m62 := by kernel_rfl
theorem rv62 : rRVs Try.prog Try.f62.results.toList = some [(.t 6)] := by kernel_rfl
theorem nm62 : (Try.f62.name == "runtime.NumGoroutine") = false := by kernel_rfl
def q36_0 : List MO := [(MO.mk (some 4) (.mv (.c .nsl)) none), (MO.mk (some 5) (.mv (.c (.bool false))) none)]
@[simp] theorem l36_0 : q36_0.length = 2 := rfl
def q36_1 : List MO := [(MO.mk (some 8) (.mv (.t 0)) none), (MO.mk (some 9) (.call (.c (.fn 61 [])) [(.t 8)]) none), (MO.mk (some 0) (.mv (.t 9)) none)]
@[simp] theorem l36_1 : q36_1.length = 3 := rfl
def q36_2 : List MO := [(MO.mk (some 10) (.mv (.t 1)) none), (MO.mk (some 11) (.eq false .func (.t 10) (.c (.raw .nilFunc))) none), (MO.mk (some 12) (.mv (.t 11)) none), (MO.mk (some 13) (.mv (.t 1)) (some (12, false))), (MO.mk (some 14) (.mv (.t 0)) (some (12, false))), (MO.mk (some 15) (.call (.t 13) [(.t 14)]) (some (12, false))), (MO.mk (some 16) (.un .not (.t 15)) (some (12, false))), (MO.mk (some 17) (.pick (.t 12) (.c (.bool true)) (.t 16)) none)]
@[simp] theorem l36_2 : q36_2.length = 8 := rfl
def q36_3 : List MO := [(MO.mk (some 4) (.mv (.c .nsl)) none), (MO.mk (some 5) (.mv (.c (.bool false))) none)]
@[simp] theorem l36_3 : q36_3.length = 2 := rfl
def q36_4 : List MO := [(MO.mk (some 18) (.mv (.t 0)) none), (MO.mk (some 19) (.len (.t 18)) none), (MO.mk (some 20) (.bin .quo (.t 19) (.c (.int .i64 2))) none), (MO.mk (some 21) (.mx [(.t 20), (.c (.int .i64 1))]) none), (MO.mk (some 6) (.mv (.t 21)) none)]
@[simp] theorem l36_4 : q36_4.length = 5 := rfl
def q36_5 : List MO := [(MO.mk (some 22) (.mv (.t 6)) none), (MO.mk (some 23) (.bin .gtr (.t 22) (.c (.int .i64 1))) none)]
@[simp] theorem l36_5 : q36_5.length = 2 := rfl
def q36_6 : List MO := [(MO.mk (some 26) (.mv (.t 0)) none), (MO.mk (some 27) (.mv (.t 6)) none), (MO.mk (some 28) (.mv (.t 1)) none), (MO.mk (some 29) (.call (.c (.fn 62 [])) [(.t 26), (.t 27), (.t 28)]) none), (MO.mk (some 0) (.mv (.t 29)) none)]
@[simp] theorem l36_6 : q36_6.length = 5 := rfl
def q36_7 : List MO := [(MO.mk (some 24) (.mv (.t 6)) none), (MO.mk (some 25) (.bin .quo (.t 24) (.c (.int .i64 2))) none), (MO.mk (some 6) (.mv (.t 25)) none)]
@[simp] theorem l36_7 : q36_7.length = 3 := rfl
def q36_8 : List MO := [(MO.mk (some 30) (.mv (.t 0)) none), (MO.mk (some 31) (.len (.t 30)) none), (MO.mk (some 7) (.mv (.t 31)) none)]
@[simp] theorem l36_8 : q36_8.length = 3 := rfl
def q36_9 : List MO := [(MO.mk (some 32) (.mv (.t 0)) none), (MO.mk (some 33) (.mv (.t 1)) none), (MO.mk (some 34) (.call (.c (.fn 62 [])) [(.t 32), (.c (.int .i64 1)), (.t 33)]) none), (MO.mk (some 0) (.mv (.t 34)) none)]
@[simp] theorem l36_9 : q36_9.length = 4 := rfl
def q36_10 : List MO := [(MO.mk (some 35) (.mv (.t 0)) none), (MO.mk (some 36) (.len (.t 35)) none), (MO.mk (some 37) (.mv (.t 7)) none), (MO.mk (some 38) (.bin .eql (.t 36) (.t 37)) none)]
@[simp] theorem l36_10 : q36_10.length = 4 := rfl
def q36_11 : List MO := [(MO.mk (some 39) (.mv (.t 0)) none), (MO.mk (some 4) (.mv (.t 39)) none), (MO.mk (some 5) (.mv (.c (.bool true))) none)]
@[simp] theorem l36_11 : q36_11.length = 3 := rfl
def m36 : MCode := .seq (.reg q36_0) (.seq (.reg q36_1) (.seq (.seq (.reg q36_2) (.cond (.t 17) (.seq (.reg q36_3) .ret) .skip)) (.seq (.seq (.reg q36_4) (.block 0 (.loop (.seq (.seq (.reg q36_5) (.cond (.t 23) .skip (.exit 0))) (.seq (.block 1 (.reg q36_6)) (.reg q36_7)))))) (.block 2 (.loop (.block 3 (.seq (.reg q36_8) (.seq (.reg q36_9) (.seq (.reg q36_10) (.cond (.t 38) (.seq (.reg q36_11) .ret) .skip))))))))))
theorem rc36 : rcOf Try.prog Try.f36 = some m36 := by kernel_rfl
theorem rv36 : rRVs Try.prog Try.f36.results.toList = some [(.t 4), (.t 5)] := by kernel_rfl
theorem nm36 : (Try.f36.name == "runtime.NumGoroutine") = false := by kernel_rfl
def q37_0 : List MO := [(MO.mk (some 4) (.mv (.c .nsl)) none)]
@[simp] theorem l37_0 : q37_0.length = 1 := rfl
def q37_1 : List MO := [(MO.mk (some 5) (.bsl 12 0 [(.int .i64 0), (.int .i64 0), (.int .i64 0), (.int .i64 0), (.int .i64 0), (.int .i64 0), (.int .i64 0), (.int .i64 0), (.int .i64 0), (.int .i64 0), (.int .i64 0), (.int .i64 0)] []) none), (MO.mk (some 6) (.mv (.t 0)) none), (MO.mk (some 7) (.mv (.t 1)) none), (MO.mk (some 8) (.slc 12 (.t 6) none (some (.t 7))) none), (MO.mk (some 9) (.app 12 96 (.t 5) (.t 8)) none), (MO.mk (some 10) (.mv (.t 0)) none), (MO.mk (some 11) (.mv (.t 1)) none), (MO.mk (some 12) (.bin .add (.t 11) (.c (.int .i64 1))) none), (MO.mk (some 13) (.slc 12 (.t 10) (some (.t 12)) none) none), (MO.mk (some 14) (.app 12 96 (.t 9) (.t 13)) none), (MO.mk (some 4) (.mv (.t 14)) none)]
@[simp] theorem l37_1 : q37_1.length = 11 := rfl
def p37_1 : List (List Nat) := [[], [], [], [1, 2], [0, 3], [], [], [6], [5, 7], [4, 8, 4], [9, 9, 0, 1, 2, 3, 4, 5, 6, 7, 8, 9]]
def c37_1 : List (List Nat) := [[], [], [], [1, 2], [0, 1, 2, 3], [], [], [6], [5, 6, 7], [0, 1, 2, 3, 4, 5, 6, 7, 8], [0, 1, 2, 3, 4, 5, 6, 7, 8, 9]]
def m37 : MCode := .seq (.reg q37_0) (.seq (.draw q37_1 p37_1) .ret)
theorem rc37 : rcOf Try.prog Try.f37 = some m37 := by kernel_rfl
theorem rv37 : rRVs Try.prog Try.f37.results.toList = some [(.t 4)] := by kernel_rfl
theorem nm37 : (Try.f37.name == "runtime.NumGoroutine") = false := by kernel_rfl
def q38_0 : List MO := [(MO.mk (some 4) (.mv (.c (.bool false))) none)]
@[simp] theorem l38_0 : q38_0.length = 1 := rfl
def q38_1 : List MO := [(MO.mk (some 5) (.mv (.c (.int .i64 0))) none)]
@[simp] theorem l38_1 : q38_1.length = 1 := rfl
def q38_2 : List MO := [(MO.mk (some 8) (.mv (.t 1)) none), (MO.mk (some 9) (.len (.t 8)) none), (MO.mk (some 10) (.mv (.c (.int .i64 0))) none)]
@[simp] theorem l38_2 : q38_2.length = 3 := rfl
def q38_3 : List MO := [(MO.mk (some 11) (.bin .lss (.t 10) (.t 9)) none)]
@[simp] theorem l38_3 : q38_3.length = 1 := rfl
def q38_4 : List MO := [(MO.mk (some 12) (.iaddr 12 (.t 8) (.t 10)) none), (MO.mk (some 13) (.load true 12 (.t 12)) none), (MO.mk (some 7) (.alloc [(.int .i64 0), (.int .i64 0), (.int .i64 0), (.int .i64 0), (.int .i64 0), (.int .i64 0), (.int .i64 0), (.int .i64 0), (.int .i64 0), (.int .i64 0), (.int .i64 0), (.int .i64 0)]) none), (MO.mk none (.store 12 (.t 7) (.t 13)) none)]
@[simp] theorem l38_4 : q38_4.length = 4 := rfl
def q38_5 : List MO := [(MO.mk (some 14) (.mv (.t 5)) none), (MO.mk (some 15) (.mv (.t 0)) none), (MO.mk (some 16) (.len (.t 15)) none), (MO.mk (some 17) (.bin .lss (.t 14) (.t 16)) none), (MO.mk (some 18) (.mv (.t 17)) none), (MO.mk (some 19) (.mv (.t 0)) (some (18, true))), (MO.mk (some 20) (.mv (.t 5)) (some (18, true))), (MO.mk (some 21) (.iaddr 12 (.t 19) (.t 20)) (some (18, true))), (MO.mk (some 22) (.load true 12 (.t 21)) (some (18, true))), (MO.mk (some 23) (.load true 12 (.t 7)) (some (18, true))), (MO.mk (some 24) (.eq false (.flat [.i, .i, .i, .i, .i, .i, .i, .i, .i, .i, .i, .i]) (.t 22) (.t 23)) (some (18, true))), (MO.mk (some 25) (.pick (.t 18) (.t 24) (.c (.bool false))) none)]
@[simp] theorem l38_5 : q38_5.length = 12 := rfl
def p38_5 : List (List Nat) := [[], [], [1], [0, 2], [3], [4], [4], [5, 6, 4], [7, 4], [4], [8, 9, 4], [4, 10]]
def c38_5 : List (List Nat) := [[], [], [1], [0, 1, 2], [0, 1, 2, 3], [0, 1, 2, 3, 4], [0, 1, 2, 3, 4], [0, 1, 2, 3, 4, 5, 6], [0, 1, 2, 3, 4, 5, 6, 7], [0, 1, 2, 3, 4], [0, 1, 2, 3, 4, 5, 6, 7, 8, 9], [0, 1, 2, 3, 4, 5, 6, 7, 8, 9, 10]]
def q38_6 : List MO := [(MO.mk (some 26) (.mv (.t 5)) none), (MO.mk (some 27) (.bin .add (.t 26) (.c (.int .i64 1))) none), (MO.mk (some 5) (.mv (.t 27)) none)]
@[simp] theorem l38_6 : q38_6.length = 3 := rfl
def q38_7 : List MO := [(MO.mk (some 28) (.bin .add (.t 10) (.c (.int .i64 1))) none), (MO.mk (some 10) (.mv (.t 28)) none)]
@[simp] theorem l38_7 : q38_7.length = 2 := rfl
def q38_8 : List MO := [(MO.mk (some 29) (.mv (.t 5)) none), (MO.mk (some 30) (.mv (.t 0)) none), (MO.mk (some 31) (.len (.t 30)) none), (MO.mk (some 32) (.bin .eql (.t 29) (.t 31)) none), (MO.mk (some 4) (.mv (.t 32)) none)]
@[simp] theorem l38_8 : q38_8.length = 5 := rfl
def m38 : MCode := .seq (.reg q38_0) (.seq (.reg q38_1) (.seq (.seq (.reg q38_2) (.block 0 (.loop (.seq (.reg q38_3) (.seq (.cond (.t 11) .skip (.exit 0)) (.seq (.block 1 (.seq (.reg q38_4) (.seq (.draw q38_5 p38_5) (.cond (.t 25) (.reg q38_6) .skip)))) (.reg q38_7))))))) (.seq (.reg q38_8) .ret)))
theorem rc38 : rcOf Try.prog Try.f38 = some m38 := by kernel_rfl
theorem rv38 : rRVs Try.prog Try.f38.results.toList = some [(.t 4)] := by kernel_rfl
theorem nm38 : (Try.f38.name == "runtime.NumGoroutine") = false := by kernel_rfl
def q32_0 : List MO := [(MO.mk (some 0) (.mv (.c (.bool false))) none)]
@[simp] theorem l32_0 : q32_0.length = 1 := rfl
def q32_1 : List MO := [(MO.mk (some 4) (.build [(.int .i64 0), (.int .i64 0), (.int .i64 0), (.int .i64 0), (.int .i64 0), (.int .i64 0), (.int .i64 0), (.int .i64 0), (.int .i64 0), (.int .i64 0), (.int .i64 0), (.int .i64 0)] [(0, (1, (.c (.int .i64 2)))), (2, (1, (.c (.int .i64 1))))]) none), (MO.mk (some 5) (.build [(.int .i64 0), (.int .i64 0), (.int .i64 0), (.int .i64 0), (.int .i64 0), (.int .i64 0), (.int .i64 0), (.int .i64 0), (.int .i64 0), (.int .i64 0), (.int .i64 0), (.int .i64 0)] [(0, (1, (.c (.int .i64 2)))), (2, (1, (.c (.int .i64 1))))]) none), (MO.mk (some 6) (.build [(.int .i64 0), (.int .i64 0), (.int .i64 0), (.int .i64 0), (.int .i64 0), (.int .i64 0), (.int .i64 0), (.int .i64 0), (.int .i64 0), (.int .i64 0), (.int .i64 0), (.int .i64 0)] [(0, (1, (.c (.int .i64 2)))), (2, (1, (.c (.int .i64 3))))]) none), (MO.mk (some 7) (.bsl 12 3 [(.int .i64 0), (.int .i64 0), (.int .i64 0), (.int .i64 0), (.int .i64 0), (.int .i64 0), (.int .i64 0), (.int .i64 0), (.int .i64 0), (.int .i64 0), (.int .i64 0), (.int .i64 0)] [(0, (12, (.t 4))), (12, (12, (.t 5))), (24, (12, (.t 6)))]) none), (MO.mk (some 1) (.mv (.t 7)) none)]
@[simp] theorem l32_1 : q32_1.length = 5 := rfl
def q32_2 : List MO := [(MO.mk (some 9) (.mv (.t 1)) none), (MO.mk (some 10) (.call (.c (.fn 36 [])) [(.t 9), (.c (.fn 59 []))]) none), (MO.mk (some 8) (.mv (.t 10)) none), (MO.mk (some 11) (.ext (.t 8) 0) none), (MO.mk (some 12) (.ext (.t 8) 1) none), (MO.mk (some 2) (.mv (.t 11)) none), (MO.mk (some 3) (.mv (.t 12)) none)]
@[simp] theorem l32_2 : q32_2.length = 7 := rfl
def q32_3 : List MO := [(MO.mk (some 13) (.mv (.t 3)) none), (MO.mk (some 14) (.mv (.t 13)) none), (MO.mk (some 15) (.mv (.t 2)) (some (14, true))), (MO.mk (some 16) (.len (.t 15)) (some (14, true))), (MO.mk (some 17) (.bin .eql (.t 16) (.c (.int .i64 1))) (some (14, true))), (MO.mk (some 18) (.pick (.t 14) (.t 17) (.c (.bool false))) none), (MO.mk (some 19) (.mv (.t 18)) none), (MO.mk (some 20) (.mv (.t 2)) (some (19, true))), (MO.mk (some 21) (.iaddr 12 (.t 20) (.c (.int .i64 0))) (some (19, true))), (MO.mk (some 22) (.faddr 2 (.t 21)) (some (19, true))), (MO.mk (some 23) (.load false 1 (.t 22)) (some (19, true))), (MO.mk (some 24) (.bin .eql (.t 23) (.c (.int .i64 3))) (some (19, true))), (MO.mk (some 25) (.pick (.t 19) (.t 24) (.c (.bool false))) none), (MO.mk (some 0) (.mv (.t 25)) none)]
@[simp] theorem l32_3 : q32_3.length = 14 := rfl
def m32 : MCode := .seq (.reg q32_0) (.seq (.reg q32_1) (.seq (.reg q32_2) (.seq (.reg q32_3) .ret)))
theorem rc32 : rcOf Try.prog Try.f32 = some m32 := by kernel_rfl
theorem rv32 : rRVs Try.prog Try.f32.results.toList = some [(.t 0)] := by kernel_rfl
theorem nm32 : (Try.f32.name == "runtime.NumGoroutine") = false := by kernel_rfl
def q8_0 : List MO := [(MO.mk (some 4) (.box (.t 1)) none), (MO.mk (some 5) (.box (.t 2)) none), (MO.mk (some 6) (.mv (.c (.bool false))) none)]
@[simp] theorem l8_0 : q8_0.length = 3 := rfl
def q8_1 : List MO := [(MO.mk (some 14) (.mv (.t 0)) none), (MO.mk (some 15) (.len (.t 14)) none), (MO.mk (some 16) (.bin .gtr (.t 15) (.c (.int .i64 60))) none)]
@[simp] theorem l8_1 : q8_1.length = 3 := rfl
def q8_2 : List MO := [(MO.mk (some 17) (.call (.c (.fn 32 [])) []) none), (MO.mk (some 6) (.mv (.t 17)) none)]
@[simp] theorem l8_2 : q8_2.length = 2 := rfl
def q8_3 : List MO := [(MO.mk (some 18) (.mv (.t 0)) none), (MO.mk (some 19) (.call (.c (.fn 33 [])) [(.t 18)]) none), (MO.mk (some 7) (.mv (.t 19)) none)]
@[simp] theorem l8_3 : q8_3.length = 3 := rfl
def q8_4 : List MO := [(MO.mk (some 20) (.mkfn 34 [(.t 4), (.t 5)]) none), (MO.mk (some 8) (.mv (.t 20)) none)]
@[simp] theorem l8_4 : q8_4.length = 2 := rfl
def q8_5 : List MO := [(MO.mk (some 22) (.mv (.t 7)) none), (MO.mk (some 23) (.mv (.t 8)) none), (MO.mk (some 24) (.call (.c (.fn 36 [])) [(.t 22), (.t 23)]) none), (MO.mk (some 21) (.mv (.t 24)) none), (MO.mk (some 25) (.ext (.t 21) 0) none), (MO.mk (some 26) (.ext (.t 21) 1) none), (MO.mk (some 9) (.mv (.t 25)) none), (MO.mk (some 10) (.mv (.t 26)) none)]
@[simp] theorem l8_5 : q8_5.length = 8 := rfl
def q8_6 : List MO := [(MO.mk (some 27) (.mv (.t 10)) none), (MO.mk (some 28) (.mv (.t 8)) none), (MO.mk (some 29) (.mv (.t 7)) none), (MO.mk (some 30) (.call (.t 28) [(.t 29)]) none), (MO.mk (some 31) (.eq true .bool (.t 27) (.t 30)) none)]
@[simp] theorem l8_6 : q8_6.length = 5 := rfl
def q8_7 : List MO := [(MO.mk (some 6) (.mv (.c (.bool false))) none)]
@[simp] theorem l8_7 : q8_7.length = 1 := rfl
def q8_8 : List MO := [(MO.mk (some 32) (.mv (.t 10)) none), (MO.mk (some 33) (.un .not (.t 32)) none)]
@[simp] theorem l8_8 : q8_8.length = 2 := rfl
def q8_9 : List MO := [(MO.mk (some 35) (.mv (.t 7)) none), (MO.mk (some 36) (.call (.c (.fn 36 [])) [(.t 35), (.c (.raw .nilFunc))]) none), (MO.mk (some 34) (.mv (.t 36)) none), (MO.mk (some 37) (.ext (.t 34) 0) none), (MO.mk (some 38) (.ext (.t 34) 1) none), (MO.mk (some 11) (.mv (.t 37)) none), (MO.mk (some 12) (.mv (.t 38)) none)]
@[simp] theorem l8_9 : q8_9.length = 7 := rfl
def q8_10 : List MO := [(MO.mk (some 39) (.call (.c (.fn 32 [])) []) none), (MO.mk (some 40) (.mv (.t 39)) none), (MO.mk (some 41) (.mv (.t 9)) (some (40, true))), (MO.mk (some 42) (.len (.t 41)) (some (40, true))), (MO.mk (some 43) (.bin .eql (.t 42) (.c (.int .i64 0))) (some (40, true))), (MO.mk (some 44) (.pick (.t 40) (.t 43) (.c (.bool false))) none), (MO.mk (some 45) (.mv (.t 44)) none), (MO.mk (some 46) (.mv (.t 12)) (some (45, true))), (MO.mk (some 47) (.un .not (.t 46)) (some (45, true))), (MO.mk (some 48) (.pick (.t 45) (.t 47) (.c (.bool false))) none), (MO.mk (some 6) (.mv (.t 48)) none)]
@[simp] theorem l8_10 : q8_10.length = 11 := rfl
def q8_11 : List MO := [(MO.mk (some 49) (.mv (.t 9)) none), (MO.mk (some 50) (.len (.t 49)) none), (MO.mk (some 51) (.mv (.c (.int .i64 0))) none)]
@[simp] theorem l8_11 : q8_11.length = 3 := rfl
def q8_12 : List MO := [(MO.mk (some 52) (.bin .lss (.t 51) (.t 50)) none)]
@[simp] theorem l8_12 : q8_12.length = 1 := rfl
def q8_13 : List MO := [(MO.mk (some 53) (.mv (.t 51)) none), (MO.mk (some 13) (.mv (.t 53)) none)]
@[simp] theorem l8_13 : q8_13.length = 2 := rfl
def q8_14 : List MO := [(MO.mk (some 54) (.mv (.t 8)) none), (MO.mk (some 55) (.mv (.t 9)) none), (MO.mk (some 56) (.mv (.t 13)) none), (MO.mk (some 57) (.call (.c (.fn 37 [])) [(.t 55), (.t 56)]) none), (MO.mk (some 58) (.call (.t 54) [(.t 57)]) none)]
@[simp] theorem l8_14 : q8_14.length = 5 := rfl
def q8_15 : List MO := [(MO.mk (some 6) (.mv (.c (.bool false))) none)]
@[simp] theorem l8_15 : q8_15.length = 1 := rfl
def q8_16 : List MO := [(MO.mk (some 59) (.bin .add (.t 51) (.c (.int .i64 1))) none), (MO.mk (some 51) (.mv (.t 59)) none)]
@[simp] theorem l8_16 : q8_16.length = 2 := rfl
def q8_17 : List MO := [(MO.mk (some 60) (.call (.c (.fn 32 [])) []) none), (MO.mk (some 61) (.mv (.t 60)) none), (MO.mk (some 62) (.mv (.t 8)) (some (61, true))), (MO.mk (some 63) (.mv (.t 9)) (some (61, true))), (MO.mk (some 64) (.call (.t 62) [(.t 63)]) (some (61, true))), (MO.mk (some 65) (.pick (.t 61) (.t 64) (.c (.bool false))) none), (MO.mk (some 66) (.mv (.t 65)) none), (MO.mk (some 67) (.mv (.t 9)) (some (66, true))), (MO.mk (some 68) (.mv (.t 7)) (some (66, true))), (MO.mk (some 69) (.call (.c (.fn 38 [])) [(.t 67), (.t 68)]) (some (66, true))), (MO.mk (some 70) (.pick (.t 66) (.t 69) (.c (.bool false))) none), (MO.mk (some 6) (.mv (.t 70)) none)]
@[simp] theorem l8_17 : q8_17.length = 12 := rfl
def m8 : MCode := .seq (.reg q8_0) (.seq (.seq (.reg q8_1) (.cond (.t 16) (.seq (.reg q8_2) .ret) .skip)) (.seq (.reg q8_3) (.seq (.reg q8_4) (.seq (.reg q8_5) (.seq (.seq (.reg q8_6) (.cond (.t 31) (.seq (.reg q8_7) .ret) .skip)) (.seq (.seq (.reg q8_8) (.cond (.t 33) (.seq (.reg q8_9) (.seq (.reg q8_10) .ret)) .skip)) (.seq (.seq (.reg q8_11) (.block 0 (.loop (.seq (.reg q8_12) (.seq (.cond (.t 52) .skip (.exit 0)) (.seq (.block 1 (.seq (.reg q8_13) (.seq (.reg q8_14) (.cond (.t 58) (.seq (.reg q8_15) .ret) .skip)))) (.reg q8_16))))))) (.seq (.reg q8_17) .ret))))))))
theorem rc8 : rcOf Try.prog Try.f8 = some m8 := by kernel_rfl
theorem rv8 : rRVs Try.prog Try.f8.results.toList = some [(.t 6)] := by kernel_rfl
theorem nm8 : (Try.f8.name == "runtime.NumGoroutine") = false := by kernel_rfl
def q9_0 : List MO := [(MO.mk (some 4) (.box (.t 1)) none), (MO.mk (some 5) (.box (.t 2)) none), (MO.mk (some 6) (.mv (.c (.bool false))) none)]
@[simp] theorem l9_0 : q9_0.length = 3 := rfl
def q9_1 : List MO := [(MO.mk (some 13) (.mv (.t 0)) none), (MO.mk (some 14) (.len (.t 13)) none), (MO.mk (some 15) (.bin .gtr (.t 14) (.c (.int .i64 60))) none)]
@[simp] theorem l9_1 : q9_1.length = 3 := rfl
def q9_2 : List MO := [(MO.mk (some 16) (.call (.c (.fn 32 [])) []) none), (MO.mk (some 6) (.mv (.t 16)) none)]
@[simp] theorem l9_2 : q9_2.length = 2 := rfl
def q9_3 : List MO := [(MO.mk (some 17) (.mkfn 39 [(.t 4), (.t 5)]) none), (MO.mk (some 7) (.mv (.t 17)) none)]
@[simp] theorem l9_3 : q9_3.length = 2 := rfl
def q9_4 : List MO := [(MO.mk (some 19) (.mv (.t 0)) none), (MO.mk (some 20) (.call (.c (.fn 33 [])) [(.t 19)]) none), (MO.mk (some 21) (.mv (.t 7)) none), (MO.mk (some 22) (.call (.c (.fn 36 [])) [(.t 20), (.t 21)]) none), (MO.mk (some 18) (.mv (.t 22)) none), (MO.mk (some 23) (.ext (.t 18) 0) none), (MO.mk (some 24) (.ext (.t 18) 1) none), (MO.mk (some 8) (.mv (.t 23)) none), (MO.mk (some 9) (.mv (.t 24)) none)]
@[simp] theorem l9_4 : q9_4.length = 9 := rfl
def q9_5 : List MO := [(MO.mk (some 25) (.mv (.t 9)) none), (MO.mk (some 26) (.un .not (.t 25)) none)]
@[simp] theorem l9_5 : q9_5.length = 2 := rfl
def q9_6 : List MO := [(MO.mk (some 27) (.call (.c (.fn 32 [])) []) none), (MO.mk (some 6) (.mv (.t 27)) none)]
@[simp] theorem l9_6 : q9_6.length = 2 := rfl
def q9_7 : List MO := [(MO.mk (some 29) (.mv (.t 8)) none), (MO.mk (some 30) (.mv (.t 7)) none), (MO.mk (some 31) (.call (.c (.fn 36 [])) [(.t 29), (.t 30)]) none), (MO.mk (some 28) (.mv (.t 31)) none), (MO.mk (some 32) (.ext (.t 28) 0) none), (MO.mk (some 33) (.ext (.t 28) 1) none), (MO.mk (some 10) (.mv (.t 32)) none), (MO.mk (some 11) (.mv (.t 33)) none)]
@[simp] theorem l9_7 : q9_7.length = 8 := rfl
def q9_8 : List MO := [(MO.mk (some 34) (.mv (.t 11)) none), (MO.mk (some 35) (.un .not (.t 34)) none), (MO.mk (some 36) (.mv (.t 35)) none), (MO.mk (some 37) (.mv (.t 8)) (some (36, false))), (MO.mk (some 38) (.len (.t 37)) (some (36, false))), (MO.mk (some 39) (.mv (.t 10)) (some (36, false))), (MO.mk (some 40) (.len (.t 39)) (some (36, false))), (MO.mk (some 41) (.bin .neq (.t 38) (.t 40)) (some (36, false))), (MO.mk (some 42) (.pick (.t 36) (.c (.bool true)) (.t 41)) none)]
@[simp] theorem l9_8 : q9_8.length = 9 := rfl
def q9_9 : List MO := [(MO.mk (some 6) (.mv (.c (.bool false))) none)]
@[simp] theorem l9_9 : q9_9.length = 1 := rfl
def q9_10 : List MO := [(MO.mk (some 43) (.mv (.t 8)) none), (MO.mk (some 44) (.len (.t 43)) none), (MO.mk (some 45) (.mv (.c (.int .i64 0))) none)]
@[simp] theorem l9_10 : q9_10.length = 3 := rfl
def q9_11 : List MO := [(MO.mk (some 46) (.bin .lss (.t 45) (.t 44)) none)]
@[simp] theorem l9_11 : q9_11.length = 1 := rfl
def q9_12 : List MO := [(MO.mk (some 47) (.mv (.t 45)) none), (MO.mk (some 12) (.mv (.t 47)) none)]
@[simp] theorem l9_12 : q9_12.length = 2 := rfl
def q9_13 : List MO := [(MO.mk (some 48) (.mv (.t 8)) none), (MO.mk (some 49) (.mv (.t 12)) none), (MO.mk (some 50) (.iaddr 12 (.t 48) (.t 49)) none), (MO.mk (some 51) (.load true 12 (.t 50)) none), (MO.mk (some 52) (.mv (.t 10)) none), (MO.mk (some 53) (.mv (.t 12)) none), (MO.mk (some 54) (.iaddr 12 (.t 52) (.t 53)) none), (MO.mk (some 55) (.load true 12 (.t 54)) none), (MO.mk (some 56) (.eq true (.flat [.i, .i, .i, .i, .i, .i, .i, .i, .i, .i, .i, .i]) (.t 51) (.t 55)) none)]
@[simp] theorem l9_13 : q9_13.length = 9 := rfl
def p9_13 : List (List Nat) := [[], [], [0, 1], [2], [], [], [4, 5], [6], [3, 7]]
def c9_13 : List (List Nat) := [[], [], [0, 1], [0, 1, 2], [], [], [4, 5], [4, 5, 6], [0, 1, 2, 3, 4, 5, 6, 7]]
def q9_14 : List MO := [(MO.mk (some 6) (.mv (.c (.bool false))) none)]
@[simp] theorem l9_14 : q9_14.length = 1 := rfl
def q9_15 : List MO := [(MO.mk (some 57) (.bin .add (.t 45) (.c (.int .i64 1))) none), (MO.mk (some 45) (.mv (.t 57)) none)]
@[simp] theorem l9_15 : q9_15.length = 2 := rfl
def q9_16 : List MO := [(MO.mk (some 58) (.call (.c (.fn 32 [])) []) none), (MO.mk (some 6) (.mv (.t 58)) none)]
@[simp] theorem l9_16 : q9_16.length = 2 := rfl
def m9 : MCode := .seq (.reg q9_0) (.seq (.seq (.reg q9_1) (.cond (.t 15) (.seq (.reg q9_2) .ret) .skip)) (.seq (.reg q9_3) (.seq (.reg q9_4) (.seq (.seq (.reg q9_5) (.cond (.t 26) (.seq (.reg q9_6) .ret) .skip)) (.seq (.reg q9_7) (.seq (.seq (.reg q9_8) (.cond (.t 42) (.seq (.reg q9_9) .ret) .skip)) (.seq (.seq (.reg q9_10) (.block 0 (.loop (.seq (.reg q9_11) (.seq (.cond (.t 46) .skip (.exit 0)) (.seq (.block 1 (.seq (.reg q9_12) (.seq (.draw q9_13 p9_13) (.cond (.t 56) (.seq (.reg q9_14) .ret) .skip)))) (.reg q9_15))))))) (.seq (.reg q9_16) .ret))))))))
theorem rc9 : rcOf Try.prog Try.f9 = some m9 := by kernel_rfl
theorem rv9 : rRVs Try.prog Try.f9.results.toList = some [(.t 6)] := by kernel_rfl
theorem nm9 : (Try.f9.name == "runtime.NumGoroutine") = false := by kernel_rfl
def q63_0 : List MO := [(MO.mk (some 4) (.mv (.c (.int .i64 0))) none)]
@[simp] theorem l63_0 : q63_0.length = 1 := rfl
def q63_1 : List MO := [(MO.mk (some 5) (.mv (.c (.int .i64 0))) none)]
@[simp] theorem l63_1 : q63_1.length = 1 := rfl
def q63_2 : List MO := [(MO.mk (some 7) (.mv (.t 5)) none), (MO.mk (some 8) (.mv (.t 0)) none), (MO.mk (some 9) (.bin .lss (.t 7) (.t 8)) none)]
@[simp] theorem l63_2 : q63_2.length = 3 := rfl
def q63_3 : List MO := [(MO.mk (some 10) (.mv (.t 5)) none), (MO.mk (some 11) (.mv (.t 0)) none), (MO.mk (some 12) (.mv (.t 5)) none), (MO.mk (some 13) (.bin .sub (.t 11) (.t 12)) none), (MO.mk (some 14) (.bin .quo (.t 13) (.c (.int .i64 2))) none), (MO.mk (some 15) (.bin .add (.t 10) (.t 14)) none), (MO.mk (some 6) (.mv (.t 15)) none)]
@[simp] theorem l63_3 : q63_3.length = 7 := rfl
def q63_4 : List MO := [(MO.mk (some 16) (.mv (.t 1)) none), (MO.mk (some 17) (.mv (.t 6)) none), (MO.mk (some 18) (.call (.t 16) [(.t 17)]) none)]
@[simp] theorem l63_4 : q63_4.length = 3 := rfl
def q63_5 : List MO := [(MO.mk (some 19) (.mv (.t 6)) none), (MO.mk (some 0) (.mv (.t 19)) none)]
@[simp] theorem l63_5 : q63_5.length = 2 := rfl
def q63_6 : List MO := [(MO.mk (some 20) (.mv (.t 6)) none), (MO.mk (some 21) (.bin .add (.t 20) (.c (.int .i64 1))) none), (MO.mk (some 5) (.mv (.t 21)) none)]
@[simp] theorem l63_6 : q63_6.length = 3 := rfl
def q63_7 : List MO := [(MO.mk (some 22) (.mv (.t 0)) none), (MO.mk (some 4) (.mv (.t 22)) none)]
@[simp] theorem l63_7 : q63_7.length = 2 := rfl
def m63 : MCode := .seq (.reg q63_0) (.seq (.reg q63_1) (.seq (.block 0 (.loop (.seq (.seq (.reg q63_2) (.cond (.t 9) .skip (.exit 0))) (.block 1 (.seq (.reg q63_3) (.seq (.reg q63_4) (.cond (.t 18) (.reg q63_5) (.reg q63_6)))))))) (.seq (.reg q63_7) .ret)))
theorem rc63 : rcOf Try.prog Try.f63 = some m63 := by kernel_rfl
theorem rv63 : rRVs Try.prog Try.f63.results.toList = some [(.t 4)] := by kernel_rfl
theorem nm63 : (Try.f63.name == "runtime.NumGoroutine") = false := by kernel_rfl
def q64_0 : List MO := [(MO.mk (some 5) (.mv (.c (.bool false))) none)]
@[simp] theorem l64_0 : q64_0.length = 1 := rfl
def q64_1 : List MO := [(MO.mk (some 7) (.load false 1 (.t 1)) none), (MO.mk (some 8) (.call (.c (.fn 61 [])) [(.t 7)]) none), (MO.mk (some 6) (.mv (.t 8)) none)]
@[simp] theorem l64_1 : q64_1.length = 3 := rfl
def q64_2 : List MO := [(MO.mk (some 9) (.mv (.t 6)) none), (MO.mk (some 10) (.load false 1 (.t 2)) none), (MO.mk (some 11) (.mv (.t 0)) none), (MO.mk (some 12) (.iaddr 12 (.t 9) (.t 10)) none), (MO.mk (some 13) (.faddr 2 (.t 12)) none), (MO.mk none (.store 1 (.t 13) (.t 11)) none)]
@[simp] theorem l64_2 : q64_2.length = 6 := rfl
def q64_3 : List MO := [(MO.mk (some 14) (.load false 1 (.t 3)) none), (MO.mk (some 15) (.mv (.t 6)) none), (MO.mk (some 16) (.call (.t 14) [(.t 15)]) none), (MO.mk (some 5) (.mv (.t 16)) none)]
@[simp] theorem l64_3 : q64_3.length = 4 := rfl
def m64 : MCode := .seq (.reg q64_0) (.seq (.reg q64_1) (.seq (.reg q64_2) (.seq (.reg q64_3) .ret)))
theorem rc64 : rcOf Try.prog Try.f64 = some m64 := by kernel_rfl
theorem rv64 : rRVs Try.prog Try.f64.results.toList = some [(.t 5)] := by kernel_rfl
theorem nm64 : (Try.f64.name == "runtime.NumGoroutine") = false := by kernel_rfl
def q41_0 : List MO := [(MO.mk (some 2) (.box (.t 0)) none), (MO.mk (some 3) (.box (.t 1)) none), (MO.mk (some 4) (.mv (.c .nsl)) none), (MO.mk (some 5) (.mv (.c (.bool false))) none)]
@[simp] theorem l41_0 : q41_0.length = 4 := rfl
def q41_1 : List MO := [(MO.mk (some 7) (.load false 1 (.t 2)) none), (MO.mk (some 8) (.call (.c (.fn 61 [])) [(.t 7)]) none), (MO.mk none (.store 1 (.t 2) (.t 8)) none)]
@[simp] theorem l41_1 : q41_1.length = 3 := rfl
def q41_2 : List MO := [(MO.mk (some 9) (.load false 1 (.t 3)) none), (MO.mk (some 10) (.eq false .func (.t 9) (.c (.raw .nilFunc))) none), (MO.mk (some 11) (.mv (.t 10)) none), (MO.mk (some 12) (.load false 1 (.t 3)) (some (11, false))), (MO.mk (some 13) (.load false 1 (.t 2)) (some (11, false))), (MO.mk (some 14) (.call (.t 12) [(.t 13)]) (some (11, false))), (MO.mk (some 15) (.un .not (.t 14)) (some (11, false))), (MO.mk (some 16) (.pick (.t 11) (.c (.bool true)) (.t 15)) none)]
@[simp] theorem l41_2 : q41_2.length = 8 := rfl
def q41_3 : List MO := [(MO.mk (some 4) (.mv (.c .nsl)) none), (MO.mk (some 5) (.mv (.c (.bool false))) none)]
@[simp] theorem l41_3 : q41_3.length = 2 := rfl
def q41_4 : List MO := [(MO.mk (some 17) (.load false 1 (.t 2)) none), (MO.mk (some 18) (.len (.t 17)) none), (MO.mk (some 19) (.mv (.c (.int .i64 0))) none)]
@[simp] theorem l41_4 : q41_4.length = 3 := rfl
def q41_5 : List MO := [(MO.mk (some 20) (.bin .lss (.t 19) (.t 18)) none)]
@[simp] theorem l41_5 : q41_5.length = 1 := rfl
def q41_6 : List MO := [(MO.mk (some 21) (.mv (.t 19)) none), (MO.mk (some 6) (.alloc [(.int .i64 0)]) none), (MO.mk none (.store 1 (.t 6) (.t 21)) none)]
@[simp] theorem l41_6 : q41_6.length = 3 := rfl
def q41_7 : List MO := [(MO.mk (some 22) (.load false 1 (.t 2)) none), (MO.mk (some 23) (.load false 1 (.t 6)) none), (MO.mk (some 24) (.iaddr 12 (.t 22) (.t 23)) none), (MO.mk (some 25) (.faddr 2 (.t 24)) none), (MO.mk (some 26) (.load false 1 (.t 25)) none), (MO.mk (some 27) (.bin .leq (.t 26) (.c (.int .i64 0))) none)]
@[simp] theorem l41_7 : q41_7.length = 6 := rfl
def q41_8 : List MO := [(MO.mk (some 28) (.load false 1 (.t 2)) none), (MO.mk (some 29) (.load false 1 (.t 6)) none), (MO.mk (some 30) (.load false 1 (.t 2)) none), (MO.mk (some 31) (.load false 1 (.t 6)) none), (MO.mk (some 32) (.iaddr 12 (.t 30) (.t 31)) none), (MO.mk (some 33) (.faddr 2 (.t 32)) none), (MO.mk (some 34) (.load false 1 (.t 33)) none), (MO.mk (some 35) (.mkfn 64 [(.t 2), (.t 6), (.t 3)]) none), (MO.mk (some 36) (.call (.c (.fn 63 [])) [(.t 34), (.t 35)]) none), (MO.mk (some 37) (.iaddr 12 (.t 28) (.t 29)) none), (MO.mk (some 38) (.faddr 2 (.t 37)) none), (MO.mk none (.store 1 (.t 38) (.t 36)) none)]
@[simp] theorem l41_8 : q41_8.length = 12 := rfl
def p41_8 : List (List Nat) := [[], [], [], [], [2, 3], [4], [5], [], [6, 7], [0, 1, 0, 1, 2, 3, 4, 5, 6, 7, 8], [9, 0, 1, 2, 3, 4, 5, 6, 7, 8], [10, 8, 8, 0, 1, 2, 3, 4, 5, 6, 7, 8]]
def c41_8 : List (List Nat) := [[], [], [], [], [2, 3], [2, 3, 4], [2, 3, 4, 5], [], [2, 3, 4, 5, 6, 7], [0, 1, 2, 3, 4, 5, 6, 7, 8], [0, 1, 2, 3, 4, 5, 6, 7, 8, 9], [0, 1, 2, 3, 4, 5, 6, 7, 8, 9, 10]]
def q41_9 : List MO := [(MO.mk (some 39) (.bin .add (.t 19) (.c (.int .i64 1))) none), (MO.mk (some 19) (.mv (.t 39)) none)]
@[simp] theorem l41_9 : q41_9.length = 2 := rfl
def q41_10 : List MO := [(MO.mk (some 40) (.load false 1 (.t 2)) none), (MO.mk (some 4) (.mv (.t 40)) none), (MO.mk (some 5) (.mv (.c (.bool true))) none)]
@[simp] theorem l41_10 : q41_10.length = 3 := rfl
def m41 : MCode := .seq (.reg q41_0) (.seq (.reg q41_1) (.seq (.seq (.reg q41_2) (.cond (.t 16) (.seq (.reg q41_3) .ret) .skip)) (.seq (.seq (.reg q41_4) (.block 0 (.loop (.seq (.reg q41_5) (.seq (.cond (.t 20) .skip (.exit 0)) (.seq (.block 1 (.seq (.reg q41_6) (.seq (.seq (.reg q41_7) (.cond (.t 27) (.exit 1) .skip)) (.draw q41_8 p41_8)))) (.reg q41_9))))))) (.seq (.reg q41_10) .ret))))
theorem rc41 : rcOf Try.prog Try.f41 = some m41 := by kernel_rfl
theorem rv41 : rRVs Try.prog Try.f41.results.toList = some [(.t 4), (.t 5)] := by kernel_rfl
theorem nm41 : (Try.f41.name == "runtime.NumGoroutine") = false := by kernel_rfl
def q42_0 : List MO := [(MO.mk (some 4) (.mv (.c (.int .i64 0))) none)]
@[simp] theorem l42_0 : q42_0.length = 1 := rfl
def q42_1 : List MO := [(MO.mk (some 5) (.mv (.t 1)) none), (MO.mk (some 6) (.bin .leq (.t 5) (.c (.int .i64 0))) none)]
@[simp] theorem l42_1 : q42_1.length = 2 := rfl
def q42_2 : List MO := [(MO.mk (some 4) (.mv (.c (.int .i64 0))) none)]
@[simp] theorem l42_2 : q42_2.length = 1 := rfl
def q42_3 : List MO := [(MO.mk (some 7) (.mv (.t 1)) none), (MO.mk (some 8) (.mv (.t 0)) none), (MO.mk (some 9) (.bin .gtr (.t 7) (.t 8)) none)]
@[simp] theorem l42_3 : q42_3.length = 3 := rfl
def q42_4 : List MO := [(MO.mk (some 10) (.mv (.t 0)) none), (MO.mk (some 4) (.mv (.t 10)) none)]
@[simp] theorem l42_4 : q42_4.length = 2 := rfl
def q42_5 : List MO := [(MO.mk (some 11) (.mv (.t 1)) none), (MO.mk (some 4) (.mv (.t 11)) none)]
@[simp] theorem l42_5 : q42_5.length = 2 := rfl
def m42 : MCode := .seq (.reg q42_0) (.seq (.seq (.reg q42_1) (.cond (.t 6) (.seq (.reg q42_2) .ret) .skip)) (.seq (.seq (.reg q42_3) (.cond (.t 9) (.seq (.reg q42_4) .ret) .skip)) (.seq (.reg q42_5) .ret)))
theorem rc42 : rcOf Try.prog Try.f42 = some m42 := by kernel_rfl
theorem rv42 : rRVs Try.prog Try.f42.results.toList = some [(.t 4)] := by kernel_rfl
theorem nm42 : (Try.f42.name == "runtime.NumGoroutine") = false := by kernel_rfl
def q10_0 : List MO := [(MO.mk (some 4) (.box (.t 1)) none), (MO.mk (some 5) (.box (.t 2)) none), (MO.mk (some 6) (.mv (.c (.bool false))) none)]
@[simp] theorem l10_0 : q10_0.length = 3 := rfl
def q10_1 : List MO := [(MO.mk (some 13) (.mv (.t 0)) none), (MO.mk (some 14) (.len (.t 13)) none), (MO.mk (some 15) (.bin .gtr (.t 14) (.c (.int .i64 60))) none), (MO.mk (some 16) (.mv (.t 15)) none), (MO.mk (some 17) (.load false 1 (.t 4)) (some (16, false))), (MO.mk (some 18) (.bin .lss (.t 17) (.c (.int .i64 0))) (some (16, false))), (MO.mk (some 19) (.pick (.t 16) (.c (.bool true)) (.t 18)) none), (MO.mk (some 20) (.mv (.t 19)) none), (MO.mk (some 21) (.load false 1 (.t 4)) (some (20, false))), (MO.mk (some 22) (.mv (.t 0)) (some (20, false))), (MO.mk (some 23) (.len (.t 22)) (some (20, false))), (MO.mk (some 24) (.bin .geq (.t 21) (.t 23)) (some (20, false))), (MO.mk (some 25) (.pick (.t 20) (.c (.bool true)) (.t 24)) none)]
@[simp] theorem l10_1 : q10_1.length = 13 := rfl
def q10_2 : List MO := [(MO.mk (some 26) (.call (.c (.fn 32 [])) []) none), (MO.mk (some 6) (.mv (.t 26)) none)]
@[simp] theorem l10_2 : q10_2.length = 2 := rfl
def q10_3 : List MO := [(MO.mk (some 27) (.mv (.t 0)) none), (MO.mk (some 28) (.call (.c (.fn 33 [])) [(.t 27)]) none), (MO.mk (some 7) (.mv (.t 28)) none)]
@[simp] theorem l10_3 : q10_3.length = 3 := rfl
def q10_4 : List MO := [(MO.mk (some 29) (.mkfn 40 [(.t 4), (.t 5)]) none), (MO.mk (some 8) (.mv (.t 29)) none)]
@[simp] theorem l10_4 : q10_4.length = 2 := rfl
def q10_5 : List MO := [(MO.mk (some 31) (.mv (.t 7)) none), (MO.mk (some 32) (.mv (.t 8)) none), (MO.mk (some 33) (.call (.c (.fn 41 [])) [(.t 31), (.t 32)]) none), (MO.mk (some 30) (.mv (.t 33)) none), (MO.mk (some 34) (.ext (.t 30) 0) none), (MO.mk (some 35) (.ext (.t 30) 1) none), (MO.mk (some 9) (.mv (.t 34)) none), (MO.mk (some 10) (.mv (.t 35)) none)]
@[simp] theorem l10_5 : q10_5.length = 8 := rfl
def q10_6 : List MO := [(MO.mk (some 36) (.mv (.t 10)) none), (MO.mk (some 37) (.mv (.t 8)) none), (MO.mk (some 38) (.mv (.t 7)) none), (MO.mk (some 39) (.call (.t 37) [(.t 38)]) none), (MO.mk (some 40) (.eq true .bool (.t 36) (.t 39)) none)]
@[simp] theorem l10_6 : q10_6.length = 5 := rfl
def q10_7 : List MO := [(MO.mk (some 6) (.mv (.c (.bool false))) none)]
@[simp] theorem l10_7 : q10_7.length = 1 := rfl
def q10_8 : List MO := [(MO.mk (some 41) (.mv (.t 10)) none), (MO.mk (some 42) (.un .not (.t 41)) none)]
@[simp] theorem l10_8 : q10_8.length = 2 := rfl
def q10_9 : List MO := [(MO.mk (some 43) (.call (.c (.fn 32 [])) []) none), (MO.mk (some 44) (.mv (.t 43)) none), (MO.mk (some 45) (.mv (.t 9)) (some (44, true))), (MO.mk (some 46) (.len (.t 45)) (some (44, true))), (MO.mk (some 47) (.bin .eql (.t 46) (.c (.int .i64 0))) (some (44, true))), (MO.mk (some 48) (.pick (.t 44) (.t 47) (.c (.bool false))) none), (MO.mk (some 6) (.mv (.t 48)) none)]
@[simp] theorem l10_9 : q10_9.length = 7 := rfl
def q10_10 : List MO := [(MO.mk (some 49) (.mv (.t 9)) none), (MO.mk (some 50) (.len (.t 49)) none), (MO.mk (some 51) (.mv (.t 7)) none), (MO.mk (some 52) (.len (.t 51)) none), (MO.mk (some 53) (.bin .neq (.t 50) (.t 52)) none)]
@[simp] theorem l10_10 : q10_10.length = 5 := rfl
def q10_11 : List MO := [(MO.mk (some 6) (.mv (.c (.bool false))) none)]
@[simp] theorem l10_11 : q10_11.length = 1 := rfl
def q10_12 : List MO := [(MO.mk (some 54) (.mv (.t 7)) none), (MO.mk (some 55) (.len (.t 54)) none), (MO.mk (some 56) (.mv (.c (.int .i64 0))) none)]
@[simp] theorem l10_12 : q10_12.length = 3 := rfl
def q10_13 : List MO := [(MO.mk (some 57) (.bin .lss (.t 56) (.t 55)) none)]
@[simp] theorem l10_13 : q10_13.length = 1 := rfl
def q10_14 : List MO := [(MO.mk (some 58) (.mv (.t 56)) none), (MO.mk (some 59) (.iaddr 12 (.t 54) (.t 56)) none), (MO.mk (some 60) (.load true 12 (.t 59)) none), (MO.mk (some 12) (.alloc [(.int .i64 0), (.int .i64 0), (.int .i64 0), (.int .i64 0), (.int .i64 0), (.int .i64 0), (.int .i64 0), (.int .i64 0), (.int .i64 0), (.int .i64 0), (.int .i64 0), (.int .i64 0)]) none), (MO.mk (some 11) (.mv (.t 58)) none), (MO.mk none (.store 12 (.t 12) (.t 60)) none)]
@[simp] theorem l10_14 : q10_14.length = 6 := rfl
def q10_15 : List MO := [(MO.mk (some 61) (.faddr 2 (.t 12)) none), (MO.mk (some 62) (.load false 1 (.t 61)) none), (MO.mk (some 63) (.bin .gtr (.t 62) (.c (.int .i64 0))) none)]
@[simp] theorem l10_15 : q10_15.length = 3 := rfl
def q10_16 : List MO := [(MO.mk (some 64) (.faddr 2 (.t 12)) none), (MO.mk none (.store 1 (.t 64) (.c (.int .i64 0))) none)]
@[simp] theorem l10_16 : q10_16.length = 2 := rfl
def q10_17 : List MO := [(MO.mk (some 65) (.mv (.t 11)) none), (MO.mk (some 66) (.load false 1 (.t 4)) none), (MO.mk (some 67) (.bin .eql (.t 65) (.t 66)) none)]
@[simp] theorem l10_17 : q10_17.length = 3 := rfl
def q10_18 : List MO := [(MO.mk (some 68) (.mv (.t 7)) none), (MO.mk (some 69) (.mv (.t 11)) none), (MO.mk (some 70) (.iaddr 12 (.t 68) (.t 69)) none), (MO.mk (some 71) (.faddr 2 (.t 70)) none), (MO.mk (some 72) (.load false 1 (.t 71)) none), (MO.mk (some 73) (.load false 1 (.t 5)) none), (MO.mk (some 74) (.call (.c (.fn 42 [])) [(.t 72), (.t 73)]) none), (MO.mk (some 75) (.faddr 2 (.t 12)) none), (MO.mk none (.store 1 (.t 75) (.t 74)) none)]
@[simp] theorem l10_18 : q10_18.length = 9 := rfl
def p10_18 : List (List Nat) := [[], [], [0, 1], [2], [3], [], [4, 5], [0, 1, 2, 3, 4, 5, 6], [7, 6, 6, 0, 1, 2, 3, 4, 5, 6]]
def c10_18 : List (List Nat) := [[], [], [0, 1], [0, 1, 2], [0, 1, 2, 3], [], [0, 1, 2, 3, 4, 5], [0, 1, 2, 3, 4, 5, 6], [0, 1, 2, 3, 4, 5, 6, 7]]
def q10_19 : List MO := [(MO.mk (some 76) (.mv (.t 9)) none), (MO.mk (some 77) (.mv (.t 11)) none), (MO.mk (some 78) (.iaddr 12 (.t 76) (.t 77)) none), (MO.mk (some 79) (.load true 12 (.t 78)) none), (MO.mk (some 80) (.load true 12 (.t 12)) none), (MO.mk (some 81) (.eq true (.flat [.i, .i, .i, .i, .i, .i, .i, .i, .i, .i, .i, .i]) (.t 79) (.t 80)) none)]
@[simp] theorem l10_19 : q10_19.length = 6 := rfl
def p10_19 : List (List Nat) := [[], [], [0, 1], [2], [], [3, 4]]
def c10_19 : List (List Nat) := [[], [], [0, 1], [0, 1, 2], [], [0, 1, 2, 3, 4]]
def q10_20 : List MO := [(MO.mk (some 6) (.mv (.c (.bool false))) none)]
@[simp] theorem l10_20 : q10_20.length = 1 := rfl
def q10_21 : List MO := [(MO.mk (some 82) (.bin .add (.t 56) (.c (.int .i64 1))) none), (MO.mk (some 56) (.mv (.t 82)) none)]
@[simp] theorem l10_21 : q10_21.length = 2 := rfl
def q10_22 : List MO := [(MO.mk (some 83) (.call (.c (.fn 32 [])) []) none), (MO.mk (some 6) (.mv (.t 83)) none)]
@[simp] theorem l10_22 : q10_22.length = 2 := rfl
def m10 : MCode := .seq (.reg q10_0) (.seq (.seq (.reg q10_1) (.cond (.t 25) (.seq (.reg q10_2) .ret) .skip)) (.seq (.reg q10_3) (.seq (.reg q10_4) (.seq (.reg q10_5) (.seq (.seq (.reg q10_6) (.cond (.t 40) (.seq (.reg q10_7) .ret) .skip)) (.seq (.seq (.reg q10_8) (.cond (.t 42) (.seq (.reg q10_9) .ret) .skip)) (.seq (.seq (.reg q10_10) (.cond (.t 53) (.seq (.reg q10_11) .ret) .skip)) (.seq (.seq (.reg q10_12) (.block 0 (.loop (.seq (.reg q10_13) (.seq (.cond (.t 57) .skip (.exit 0)) (.seq (.block 1 (.seq (.reg q10_14) (.seq (.seq (.reg q10_15) (.cond (.t 63) (.seq (.reg q10_16) (.seq (.reg q10_17) (.cond (.t 67) (.draw q10_18 p10_18) .skip))) .skip)) (.seq (.draw q10_19 p10_19) (.cond (.t 81) (.seq (.reg q10_20) .ret) .skip))))) (.reg q10_21))))))) (.seq (.reg q10_22) .ret)))))))))
theorem rc10 : rcOf Try.prog Try.f10 = some m10 := by kernel_rfl
theorem rv10 : rRVs Try.prog Try.f10.results.toList = some [(.t 6)] := by kernel_rfl
theorem nm10 : (Try.f10.name == "runtime.NumGoroutine") = false := by kernel_rfl
end Go.W
