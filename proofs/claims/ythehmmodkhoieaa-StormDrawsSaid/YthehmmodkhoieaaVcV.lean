/- The resolved code of the functions, by a program. -/
import Derived.Test.YthehmmodkhoieaaVcR
import Derived.Test.YthehmmodkhoieaaVcU
namespace Go.Vc
open Go.Proofs
set_option maxRecDepth 100000
def q15_0 : List MO := [(MO.mk (some 2) (.mv (.c (.raw (.pointer none)))) none)]
@[simp] theorem l15_0 : q15_0.length = 1 := rfl
def q15_1 : List MO := [(MO.mk (some 3) (.mv (.t 0)) none), (MO.mk (some 4) (.build [(.int .u64 0)] [(0, (1, (.t 3)))]) none), (MO.mk (some 5) (.box (.t 4)) none), (MO.mk (some 2) (.mv (.t 5)) none)]
@[simp] theorem l15_1 : q15_1.length = 4 := rfl
def m15 : MCode := .seq (.reg q15_0) (.seq (.reg q15_1) .ret)
theorem rc15 : rcOf Try.prog Try.f15 = some m15 := by kernel_rfl
theorem rv15 : rRVs Try.prog Try.f15.results.toList = some [(.t 2)] := by kernel_rfl
theorem nm15 : (Try.f15.name == "runtime.NumGoroutine") = false := by kernel_rfl
def q19_0 : List MO := [(MO.mk (some 2) (.mv (.c (.int .u64 0))) none)]
@[simp] theorem l19_0 : q19_0.length = 1 := rfl
def q19_1 : List MO := [(MO.mk (some 3) (.mv (.t 0)) none), (MO.mk (some 4) (.mv (.t 0)) none), (MO.mk (some 5) (.nilck (.t 4)) none), (MO.mk (some 6) (.faddr 0 (.t 5)) none), (MO.mk (some 7) (.load false 1 (.t 6)) none), (MO.mk (some 8) (.bin .mul (.t 7) (.c (.int .u64 6364136223846793005))) none), (MO.mk (some 9) (.bin .add (.t 8) (.c (.int .u64 1442695040888963407))) none), (MO.mk (some 10) (.nilck (.t 3)) none), (MO.mk (some 11) (.faddr 0 (.t 10)) none), (MO.mk none (.store 1 (.t 11) (.t 9)) none)]
@[simp] theorem l19_1 : q19_1.length = 10 := rfl
def q19_2 : List MO := [(MO.mk (some 12) (.mv (.t 0)) none), (MO.mk (some 13) (.nilck (.t 12)) none), (MO.mk (some 14) (.faddr 0 (.t 13)) none), (MO.mk (some 15) (.load false 1 (.t 14)) none), (MO.mk (some 16) (.bin .shr (.t 15) (.c (.int .u64 33))) none), (MO.mk (some 2) (.mv (.t 16)) none)]
@[simp] theorem l19_2 : q19_2.length = 6 := rfl
def m19 : MCode := .seq (.reg q19_0) (.seq (.reg q19_1) (.seq (.reg q19_2) .ret))
theorem rc19 : rcOf Try.prog Try.f19 = some m19 := by kernel_rfl
theorem rv19 : rRVs Try.prog Try.f19.results.toList = some [(.t 2)] := by kernel_rfl
theorem nm19 : (Try.f19.name == "runtime.NumGoroutine") = false := by kernel_rfl
def q16_0 : List MO := [(MO.mk (some 4) (.mv (.c (.int .i64 0))) none)]
@[simp] theorem l16_0 : q16_0.length = 1 := rfl
def q16_1 : List MO := [(MO.mk (some 6) (.mv (.t 0)) none), (MO.mk (some 7) (.call (.c (.fn 19 [])) [(.t 6)]) none), (MO.mk (some 5) (.mv (.t 7)) none)]
@[simp] theorem l16_1 : q16_1.length = 3 := rfl
def q16_2 : List MO := [(MO.mk (some 8) (.mv (.t 1)) none), (MO.mk (some 9) (.bin .lss (.t 8) (.c (.int .i64 1))) none)]
@[simp] theorem l16_2 : q16_2.length = 2 := rfl
def q16_3 : List MO := [(MO.mk (some 4) (.mv (.c (.int .i64 0))) none)]
@[simp] theorem l16_3 : q16_3.length = 1 := rfl
def q16_4 : List MO := [(MO.mk (some 10) (.mv (.t 5)) none), (MO.mk (some 11) (.mv (.t 1)) none), (MO.mk (some 12) (.conv .u64 (.t 11)) none), (MO.mk (some 13) (.bin .rem (.t 10) (.t 12)) none), (MO.mk (some 14) (.conv .i64 (.t 13)) none), (MO.mk (some 4) (.mv (.t 14)) none)]
@[simp] theorem l16_4 : q16_4.length = 6 := rfl
def m16 : MCode := .seq (.reg q16_0) (.seq (.reg q16_1) (.seq (.seq (.reg q16_2) (.cond (.t 9) (.seq (.reg q16_3) .ret) .skip)) (.seq (.reg q16_4) .ret)))
theorem rc16 : rcOf Try.prog Try.f16 = some m16 := by kernel_rfl
theorem rv16 : rRVs Try.prog Try.f16.results.toList = some [(.t 4)] := by kernel_rfl
theorem nm16 : (Try.f16.name == "runtime.NumGoroutine") = false := by kernel_rfl
def q18_0 : List MO := [(MO.mk (some 4) (.mv (.c (.int .i64 0))) none)]
@[simp] theorem l18_0 : q18_0.length = 1 := rfl
def q18_1 : List MO := [(MO.mk (some 5) (.mv (.t 1)) none), (MO.mk (some 6) (.len (.t 5)) none), (MO.mk (some 7) (.bin .eql (.t 6) (.c (.int .i64 0))) none)]
@[simp] theorem l18_1 : q18_1.length = 3 := rfl
def q18_2 : List MO := [(MO.mk (some 4) (.mv (.c (.int .i64 0))) none)]
@[simp] theorem l18_2 : q18_2.length = 1 := rfl
def q18_3 : List MO := [(MO.mk (some 8) (.mv (.t 1)) none), (MO.mk (some 9) (.mv (.t 0)) none), (MO.mk (some 10) (.mv (.t 1)) none), (MO.mk (some 11) (.len (.t 10)) none), (MO.mk (some 12) (.call (.c (.fn 16 [])) [(.t 9), (.t 11)]) none), (MO.mk (some 13) (.iaddr 1 (.t 8) (.t 12)) none), (MO.mk (some 14) (.load false 1 (.t 13)) none), (MO.mk (some 4) (.mv (.t 14)) none)]
@[simp] theorem l18_3 : q18_3.length = 8 := rfl
def m18 : MCode := .seq (.reg q18_0) (.seq (.seq (.reg q18_1) (.cond (.t 7) (.seq (.reg q18_2) .ret) .skip)) (.seq (.reg q18_3) .ret))
theorem rc18 : rcOf Try.prog Try.f18 = some m18 := by kernel_rfl
theorem rv18 : rRVs Try.prog Try.f18.results.toList = some [(.t 4)] := by kernel_rfl
theorem nm18 : (Try.f18.name == "runtime.NumGoroutine") = false := by kernel_rfl
def q17_0 : List MO := [(MO.mk (some 4) (.mv (.c (.int .i64 0))) none)]
@[simp] theorem l17_0 : q17_0.length = 1 := rfl
def q17_1 : List MO := [(MO.mk (some 5) (.mv (.t 0)) none), (MO.mk (some 6) (.mv (.t 0)) none), (MO.mk (some 7) (.nilck (.t 6)) none), (MO.mk (some 8) (.faddr 0 (.t 7)) none), (MO.mk (some 9) (.load false 1 (.t 8)) none), (MO.mk (some 10) (.bin .mul (.t 9) (.c (.int .u64 6364136223846793005))) none), (MO.mk (some 11) (.bin .add (.t 10) (.c (.int .u64 1442695040888963407))) none), (MO.mk (some 12) (.nilck (.t 5)) none), (MO.mk (some 13) (.faddr 0 (.t 12)) none), (MO.mk none (.store 1 (.t 13) (.t 11)) none)]
@[simp] theorem l17_1 : q17_1.length = 10 := rfl
def q17_2 : List MO := [(MO.mk (some 14) (.mv (.t 1)) none), (MO.mk (some 15) (.bin .lss (.t 14) (.c (.int .i64 1))) none)]
@[simp] theorem l17_2 : q17_2.length = 2 := rfl
def q17_3 : List MO := [(MO.mk (some 4) (.mv (.c (.int .i64 0))) none)]
@[simp] theorem l17_3 : q17_3.length = 1 := rfl
def q17_4 : List MO := [(MO.mk (some 16) (.mv (.t 0)) none), (MO.mk (some 17) (.nilck (.t 16)) none), (MO.mk (some 18) (.faddr 0 (.t 17)) none), (MO.mk (some 19) (.load false 1 (.t 18)) none), (MO.mk (some 20) (.bin .quo (.t 19) (.c (.int .u64 8589934592))) none), (MO.mk (some 21) (.mv (.t 1)) none), (MO.mk (some 22) (.conv .u64 (.t 21)) none), (MO.mk (some 23) (.bin .rem (.t 20) (.t 22)) none), (MO.mk (some 24) (.conv .i64 (.t 23)) none), (MO.mk (some 4) (.mv (.t 24)) none)]
@[simp] theorem l17_4 : q17_4.length = 10 := rfl
def m17 : MCode := .seq (.reg q17_0) (.seq (.reg q17_1) (.seq (.seq (.reg q17_2) (.cond (.t 15) (.seq (.reg q17_3) .ret) .skip)) (.seq (.reg q17_4) .ret)))
theorem rc17 : rcOf Try.prog Try.f17 = some m17 := by kernel_rfl
theorem rv17 : rRVs Try.prog Try.f17.results.toList = some [(.t 4)] := by kernel_rfl
theorem nm17 : (Try.f17.name == "runtime.NumGoroutine") = false := by kernel_rfl
def q53_0 : List MO := [(MO.mk (some 0) (.alloc [(.int .i64 0), (.int .i64 0), (.int .i64 0), (.int .i64 0), (.int .i64 0), (.int .i64 0)]) none)]
@[simp] theorem l53_0 : q53_0.length = 1 := rfl
def q53_1 : List MO := [(MO.mk (some 1) (.build [(.int .i64 0), (.int .i64 0), (.int .i64 0), (.int .i64 0), (.int .i64 0), (.int .i64 0)] [(0, (1, (.c (.int .i64 2)))), (1, (1, (.c (.int .i64 1)))), (2, (1, (.c (.int .i64 1)))), (3, (1, (.c (.int .i64 40)))), (4, (1, (.c (.int .i64 100)))), (5, (1, (.c (.int .i64 5))))]) none), (MO.mk none (.store 6 (.t 0) (.t 1)) none)]
@[simp] theorem l53_1 : q53_1.length = 2 := rfl
def m53 : MCode := .seq (.reg q53_0) (.seq (.reg q53_1) .ret)
theorem rc53 : rcOf Try.prog Try.f53 = some m53 := by kernel_rfl
theorem rv53 : rRVs Try.prog Try.f53.results.toList = some [(.c true 6 0)] := by kernel_rfl
theorem nm53 : (Try.f53.name == "runtime.NumGoroutine") = false := by kernel_rfl
def q14_0 : List MO := [(MO.mk (some 0) (.mv (.c (.bool false))) none)]
@[simp] theorem l14_0 : q14_0.length = 1 := rfl
def q14_1 : List MO := [(MO.mk (some 1) (.call (.c (.fn 15 [])) [(.c (.int .u64 0))]) none), (MO.mk (some 2) (.call (.c (.fn 19 [])) [(.t 1)]) none), (MO.mk (some 3) (.bin .eql (.t 2) (.c (.int .u64 167951807))) none), (MO.mk (some 4) (.mv (.t 3)) none), (MO.mk (some 5) (.call (.c (.fn 53 [])) []) (some (4, true))), (MO.mk (some 6) (.build [(.int .i64 0), (.int .i64 0), (.int .i64 0), (.int .i64 0), (.int .i64 0), (.int .i64 0)] [(0, (1, (.c (.int .i64 2)))), (1, (1, (.c (.int .i64 1)))), (2, (1, (.c (.int .i64 1)))), (3, (1, (.c (.int .i64 40)))), (4, (1, (.c (.int .i64 100)))), (5, (1, (.c (.int .i64 5))))]) (some (4, true))), (MO.mk (some 7) (.eq false (.flat [.i, .i, .i, .i, .i, .i]) (.t 5) (.t 6)) (some (4, true))), (MO.mk (some 8) (.pick (.t 4) (.t 7) (.c (.bool false))) none), (MO.mk (some 0) (.mv (.t 8)) none)]
@[simp] theorem l14_1 : q14_1.length = 9 := rfl
def m14 : MCode := .seq (.reg q14_0) (.seq (.reg q14_1) .ret)
theorem rc14 : rcOf Try.prog Try.f14 = some m14 := by kernel_rfl
theorem rv14 : rRVs Try.prog Try.f14.results.toList = some [(.t 0)] := by kernel_rfl
theorem nm14 : (Try.f14.name == "runtime.NumGoroutine") = false := by kernel_rfl
def q3_0 : List MO := [(MO.mk (some 4) (.mv (.c (.bool false))) none)]
@[simp] theorem l3_0 : q3_0.length = 1 := rfl
def q3_1 : List MO := [(MO.mk (some 13) (.mv (.t 1)) none), (MO.mk (some 14) (.len (.t 13)) none), (MO.mk (some 15) (.bin .gtr (.t 14) (.c (.int .i64 200))) none)]
@[simp] theorem l3_1 : q3_1.length = 3 := rfl
def q3_2 : List MO := [(MO.mk (some 16) (.call (.c (.fn 14 [])) []) none), (MO.mk (some 4) (.mv (.t 16)) none)]
@[simp] theorem l3_2 : q3_2.length = 2 := rfl
def q3_3 : List MO := [(MO.mk (some 17) (.mv (.t 0)) none), (MO.mk (some 18) (.call (.c (.fn 15 [])) [(.t 17)]) none), (MO.mk (some 19) (.mv (.t 0)) none), (MO.mk (some 20) (.call (.c (.fn 15 [])) [(.t 19)]) none), (MO.mk (some 21) (.mv (.t 0)) none), (MO.mk (some 22) (.build [(.int .u64 0)] [(0, (1, (.t 21)))]) none), (MO.mk (some 23) (.box (.t 22)) none), (MO.mk (some 5) (.mv (.t 18)) none), (MO.mk (some 6) (.mv (.t 20)) none), (MO.mk (some 7) (.mv (.t 23)) none)]
@[simp] theorem l3_3 : q3_3.length = 10 := rfl
def q3_4 : List MO := [(MO.mk (some 24) (.mv (.t 1)) none), (MO.mk (some 25) (.len (.t 24)) none), (MO.mk (some 26) (.mv (.c (.int .i64 0))) none)]
@[simp] theorem l3_4 : q3_4.length = 3 := rfl
def q3_5 : List MO := [(MO.mk (some 27) (.bin .lss (.t 26) (.t 25)) none)]
@[simp] theorem l3_5 : q3_5.length = 1 := rfl
def q3_6 : List MO := [(MO.mk (some 28) (.mv (.t 26)) none), (MO.mk (some 29) (.iaddr 1 (.t 24) (.t 26)) none), (MO.mk (some 30) (.load false 1 (.t 29)) none), (MO.mk (some 8) (.mv (.t 28)) none), (MO.mk (some 9) (.mv (.t 30)) none)]
@[simp] theorem l3_6 : q3_6.length = 5 := rfl
def q3_7 : List MO := [(MO.mk (some 31) (.mv (.t 5)) none), (MO.mk (some 32) (.mv (.t 9)) none), (MO.mk (some 33) (.call (.c (.fn 16 [])) [(.t 31), (.t 32)]) none), (MO.mk (some 10) (.mv (.t 33)) none)]
@[simp] theorem l3_7 : q3_7.length = 4 := rfl
def q3_8 : List MO := [(MO.mk (some 34) (.mv (.t 10)) none), (MO.mk (some 35) (.mv (.t 7)) none), (MO.mk (some 36) (.mv (.t 9)) none), (MO.mk (some 37) (.call (.c (.fn 17 [])) [(.t 35), (.t 36)]) none), (MO.mk (some 38) (.bin .neq (.t 34) (.t 37)) none), (MO.mk (some 39) (.mv (.t 38)) none), (MO.mk (some 40) (.mv (.t 6)) (some (39, false))), (MO.mk (some 41) (.mv (.t 9)) (some (39, false))), (MO.mk (some 42) (.call (.c (.fn 16 [])) [(.t 40), (.t 41)]) (some (39, false))), (MO.mk (some 43) (.mv (.t 10)) (some (39, false))), (MO.mk (some 44) (.bin .neq (.t 42) (.t 43)) (some (39, false))), (MO.mk (some 45) (.pick (.t 39) (.c (.bool true)) (.t 44)) none)]
@[simp] theorem l3_8 : q3_8.length = 12 := rfl
def q3_9 : List MO := [(MO.mk (some 4) (.mv (.c (.bool false))) none)]
@[simp] theorem l3_9 : q3_9.length = 1 := rfl
def q3_10 : List MO := [(MO.mk (some 46) (.mv (.t 1)) none), (MO.mk (some 47) (.mv (.t 8)) none), (MO.mk (some 48) (.bin .rem (.t 47) (.c (.int .i64 8))) none), (MO.mk (some 49) (.slc 1 (.t 46) none (some (.t 48))) none), (MO.mk (some 11) (.mv (.t 49)) none)]
@[simp] theorem l3_10 : q3_10.length = 5 := rfl
def q3_11 : List MO := [(MO.mk (some 12) (.mv (.c (.int .i64 0))) none)]
@[simp] theorem l3_11 : q3_11.length = 1 := rfl
def q3_12 : List MO := [(MO.mk (some 50) (.mv (.t 11)) none), (MO.mk (some 51) (.len (.t 50)) none), (MO.mk (some 52) (.bin .gtr (.t 51) (.c (.int .i64 0))) none)]
@[simp] theorem l3_12 : q3_12.length = 3 := rfl
def q3_13 : List MO := [(MO.mk (some 53) (.mv (.t 11)) none), (MO.mk (some 54) (.mv (.t 7)) none), (MO.mk (some 55) (.mv (.t 11)) none), (MO.mk (some 56) (.len (.t 55)) none), (MO.mk (some 57) (.call (.c (.fn 17 [])) [(.t 54), (.t 56)]) none), (MO.mk (some 58) (.iaddr 1 (.t 53) (.t 57)) none), (MO.mk (some 59) (.load false 1 (.t 58)) none), (MO.mk (some 12) (.mv (.t 59)) none)]
@[simp] theorem l3_13 : q3_13.length = 8 := rfl
def q3_14 : List MO := [(MO.mk (some 60) (.mv (.t 5)) none), (MO.mk (some 61) (.mv (.t 11)) none), (MO.mk (some 62) (.call (.c (.fn 18 [])) [(.t 60), (.t 61)]) none), (MO.mk (some 63) (.mv (.t 12)) none), (MO.mk (some 64) (.bin .neq (.t 62) (.t 63)) none), (MO.mk (some 65) (.mv (.t 64)) none), (MO.mk (some 66) (.mv (.t 6)) (some (65, false))), (MO.mk (some 67) (.mv (.t 11)) (some (65, false))), (MO.mk (some 68) (.call (.c (.fn 18 [])) [(.t 66), (.t 67)]) (some (65, false))), (MO.mk (some 69) (.mv (.t 12)) (some (65, false))), (MO.mk (some 70) (.bin .neq (.t 68) (.t 69)) (some (65, false))), (MO.mk (some 71) (.pick (.t 65) (.c (.bool true)) (.t 70)) none)]
@[simp] theorem l3_14 : q3_14.length = 12 := rfl
def q3_15 : List MO := [(MO.mk (some 4) (.mv (.c (.bool false))) none)]
@[simp] theorem l3_15 : q3_15.length = 1 := rfl
def q3_16 : List MO := [(MO.mk (some 72) (.bin .add (.t 26) (.c (.int .i64 1))) none), (MO.mk (some 26) (.mv (.t 72)) none)]
@[simp] theorem l3_16 : q3_16.length = 2 := rfl
def q3_17 : List MO := [(MO.mk (some 73) (.mv (.t 7)) none), (MO.mk (some 74) (.call (.c (.fn 17 [])) [(.t 73), (.c (.int .i64 1))]) none)]
@[simp] theorem l3_17 : q3_17.length = 2 := rfl
def q3_18 : List MO := [(MO.mk (some 75) (.call (.c (.fn 14 [])) []) none), (MO.mk (some 76) (.mv (.t 75)) none), (MO.mk (some 77) (.mv (.t 5)) (some (76, true))), (MO.mk (some 78) (.call (.c (.fn 19 [])) [(.t 77)]) (some (76, true))), (MO.mk (some 79) (.mv (.t 7)) (some (76, true))), (MO.mk (some 80) (.nilck (.t 79)) (some (76, true))), (MO.mk (some 81) (.faddr 0 (.t 80)) (some (76, true))), (MO.mk (some 82) (.load false 1 (.t 81)) (some (76, true))), (MO.mk (some 83) (.bin .quo (.t 82) (.c (.int .u64 8589934592))) (some (76, true))), (MO.mk (some 84) (.bin .eql (.t 78) (.t 83)) (some (76, true))), (MO.mk (some 85) (.pick (.t 76) (.t 84) (.c (.bool false))) none), (MO.mk (some 4) (.mv (.t 85)) none)]
@[simp] theorem l3_18 : q3_18.length = 12 := rfl
def p3_18 : List (List Nat) := [[], [0, 0], [1], [2, 1, 1], [1], [4, 1], [5, 1], [6, 1], [7, 1], [3, 8, 1], [1, 9], [10, 3, 0, 1, 2, 3, 4, 5, 6, 7, 8, 9, 10]]
def m3 : MCode := .seq (.reg q3_0) (.seq (.seq (.reg q3_1) (.cond (.t 15) (.seq (.reg q3_2) .ret) .skip)) (.seq (.reg q3_3) (.seq (.seq (.reg q3_4) (.block 0 (.loop (.seq (.reg q3_5) (.seq (.cond (.t 27) .skip (.exit 0)) (.seq (.block 1 (.seq (.reg q3_6) (.seq (.reg q3_7) (.seq (.seq (.reg q3_8) (.cond (.t 45) (.seq (.reg q3_9) .ret) .skip)) (.seq (.reg q3_10) (.seq (.reg q3_11) (.seq (.seq (.reg q3_12) (.cond (.t 52) (.reg q3_13) .skip)) (.seq (.reg q3_14) (.cond (.t 71) (.seq (.reg q3_15) .ret) .skip))))))))) (.reg q3_16))))))) (.seq (.reg q3_17) (.seq (.draw q3_18 p3_18) .ret)))))
theorem rc3 : rcOf Try.prog Try.f3 = some m3 := by kernel_rfl
theorem rv3 : rRVs Try.prog Try.f3.results.toList = some [(.t 4)] := by kernel_rfl
theorem nm3 : (Try.f3.name == "runtime.NumGoroutine") = false := by kernel_rfl
end Go.Vc
