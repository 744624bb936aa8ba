/- The resolved code of the functions, by a program. -/
import Derived.Test.YthehmmodkhoieaaChecked
import Derived.Test.YthehmmodkhoieaaWk
namespace Go.W
open Go.Proofs
set_option maxRecDepth 100000
theorem mixT : Try.prog.follows .mixedOrders = true := Try.checked.mixed
def q14_0 : List MO := [(MO.mk (some 0) (.mv (.c (.bool false))) none)]
@[simp] theorem l14_0 : q14_0.length = 1 := rfl
def q14_1 : List MO := [(MO.mk (some 1) (.call (.c (.fn 15 [])) [(.c (.int .u64 0))]) none), (MO.mk (some 2) (.call (.c (.fn 19 [])) [(.t 1)]) none), (MO.mk (some 3) (.bin .eql (.t 2) (.c (.int .u64 167951807))) none), (MO.mk (some 4) (.mv (.t 3)) none), (MO.mk (some 5) (.call (.c (.fn 53 [])) []) (some (4, true))), (MO.mk (some 6) (.build [(.int .i64 0), (.int .i64 0), (.int .i64 0), (.int .i64 0), (.int .i64 0), (.int .i64 0)] [(0, (1, (.c (.int .i64 2)))), (1, (1, (.c (.int .i64 1)))), (2, (1, (.c (.int .i64 1)))), (3, (1, (.c (.int .i64 40)))), (4, (1, (.c (.int .i64 100)))), (5, (1, (.c (.int .i64 5))))]) (some (4, true))), (MO.mk (some 7) (.eq false (.flat [.i, .i, .i, .i, .i, .i]) (.t 5) (.t 6)) (some (4, true))), (MO.mk (some 8) (.pick (.t 4) (.t 7) (.c (.bool false))) none), (MO.mk (some 0) (.mv (.t 8)) none)]
@[simp] theorem l14_1 : q14_1.length = 9 := rfl
def m14 : MCode := .seq (.reg q14_0) (.seq (.reg q14_1) .ret)
theorem rc14 : rcOf Try.prog Try.f14 = some m14 := by kernel_rfl
theorem rv14 : rRVs Try.prog Try.f14.results.toList = some [(.t 0)] := by kernel_rfl
theorem nm14 : (Try.f14.name == "runtime.NumGoroutine") = false := by kernel_rfl
def q15_0 : List MO := [(MO.mk (some 2) (.mv (.c (.raw (.pointer none)))) none)]
@[simp] theorem l15_0 : q15_0.length = 1 := rfl
def q15_1 : List MO := [(MO.mk (some 3) (.mv (.t 0)) none), (MO.mk (some 4) (.build [(.int .u64 0)] [(0, (1, (.t 3)))]) none), (MO.mk (some 5) (.box (.t 4)) none), (MO.mk (some 2) (.mv (.t 5)) none)]
@[simp] theorem l15_1 : q15_1.length = 4 := rfl
def m15 : MCode := .seq (.reg q15_0) (.seq (.reg q15_1) .ret)
theorem rc15 : rcOf Try.prog Try.f15 = some m15 := by kernel_rfl
theorem rv15 : rRVs Try.prog Try.f15.results.toList = some [(.t 2)] := by kernel_rfl
theorem nm15 : (Try.f15.name == "runtime.NumGoroutine") = false := by kernel_rfl
def q16_0 : List MO := [(MO.mk (some 4) (.mv (.c (.int .i64 0))) none)]
@[simp] theorem l16_0 : q16_0.length = 1 := rfl
def q16_1 : List MO := [(MO.mk (some 6) (.mv (.t 0)) none), (MO.mk (some 7) (.call (.c (.fn 19 [])) [(.t 6)]) none), (MO.mk (some 5) (.mv (.t 7)) none)]
@[simp] theorem l16_1 : q16_1.length = 3 := rfl
def q16_2 : List MO := [(MO.mk (some 8) (.mv (.t 1)) none), (MO.mk (some 9) (.bin .lss (.t 8) (.c (.int .i64 1))) none)]
@[simp] theorem l16_2 : q16_2.length = 2 := rfl
def q16_3 : List MO := [(MO.mk (some 4) (.mv (.c (.int .i64 0))) none)]
@[simp] theorem l16_3 : q16_3.length = 1 := rfl
def q16_4 : List MO := [(MO.mk (some 10) (.mv (.t 5)) none), (MO.mk (some 11) (.mv (.t 1)) none), (MO.mk (some 12) (.conv .u64 (.t 11)) none), (MO.mk (some 13) (.bin .rem (.t 10) (.t 12)) none), (MO.mk (some 14) (.conv .i64 (.t 13)) none), (MO.mk (some 4) (.mv (.t 14)) none)]
@[simp] theorem l16_4 : q16_4.length = 6 := rfl
def m16 : MCode := .seq (.reg q16_0) (.seq (.reg q16_1) (.seq (.seq (.reg q16_2) (.cond (.t 9) (.seq (.reg q16_3) .ret) .skip)) (.seq (.reg q16_4) .ret)))
theorem rc16 : rcOf Try.prog Try.f16 = some m16 := by kernel_rfl
theorem rv16 : rRVs Try.prog Try.f16.results.toList = some [(.t 4)] := by kernel_rfl
theorem nm16 : (Try.f16.name == "runtime.NumGoroutine") = false := by kernel_rfl
def q17_0 : List MO := [(MO.mk (some 4) (.mv (.c (.int .i64 0))) none)]
@[simp] theorem l17_0 : q17_0.length = 1 := rfl
def q17_1 : List MO := [(MO.mk (some 5) (.mv (.t 0)) none), (MO.mk (some 6) (.mv (.t 0)) none), (MO.mk (some 7) (.nilck (.t 6)) none), (MO.mk (some 8) (.faddr 0 (.t 7)) none), (MO.mk (some 9) (.load false 1 (.t 8)) none), (MO.mk (some 10) (.bin .mul (.t 9) (.c (.int .u64 6364136223846793005))) none), (MO.mk (some 11) (.bin .add (.t 10) (.c (.int .u64 1442695040888963407))) none), (MO.mk (some 12) (.nilck (.t 5)) none), (MO.mk (some 13) (.faddr 0 (.t 12)) none), (MO.mk none (.store 1 (.t 13) (.t 11)) none)]
@[simp] theorem l17_1 : q17_1.length = 10 := rfl
def q17_2 : List MO := [(MO.mk (some 14) (.mv (.t 1)) none), (MO.mk (some 15) (.bin .lss (.t 14) (.c (.int .i64 1))) none)]
@[simp] theorem l17_2 : q17_2.length = 2 := rfl
def q17_3 : List MO := [(MO.mk (some 4) (.mv (.c (.int .i64 0))) none)]
@[simp] theorem l17_3 : q17_3.length = 1 := rfl
def q17_4 : List MO := [(MO.mk (some 16) (.mv (.t 0)) none), (MO.mk (some 17) (.nilck (.t 16)) none), (MO.mk (some 18) (.faddr 0 (.t 17)) none), (MO.mk (some 19) (.load false 1 (.t 18)) none), (MO.mk (some 20) (.bin .quo (.t 19) (.c (.int .u64 8589934592))) none), (MO.mk (some 21) (.mv (.t 1)) none), (MO.mk (some 22) (.conv .u64 (.t 21)) none), (MO.mk (some 23) (.bin .rem (.t 20) (.t 22)) none), (MO.mk (some 24) (.conv .i64 (.t 23)) none), (MO.mk (some 4) (.mv (.t 24)) none)]
@[simp] theorem l17_4 : q17_4.length = 10 := rfl
def m17 : MCode := .seq (.reg q17_0) (.seq (.reg q17_1) (.seq (.seq (.reg q17_2) (.cond (.t 15) (.seq (.reg q17_3) .ret) .skip)) (.seq (.reg q17_4) .ret)))
theorem rc17 : rcOf Try.prog Try.f17 = some m17 := by kernel_rfl
theorem rv17 : rRVs Try.prog Try.f17.results.toList = some [(.t 4)] := by kernel_rfl
theorem nm17 : (Try.f17.name == "runtime.NumGoroutine") = false := by kernel_rfl
def q18_0 : List MO := [(MO.mk (some 4) (.mv (.c (.int .i64 0))) none)]
@[simp] theorem l18_0 : q18_0.length = 1 := rfl
def q18_1 : List MO := [(MO.mk (some 5) (.mv (.t 1)) none), (MO.mk (some 6) (.len (.t 5)) none), (MO.mk (some 7) (.bin .eql (.t 6) (.c (.int .i64 0))) none)]
@[simp] theorem l18_1 : q18_1.length = 3 := rfl
def q18_2 : List MO := [(MO.mk (some 4) (.mv (.c (.int .i64 0))) none)]
@[simp] theorem l18_2 : q18_2.length = 1 := rfl
def q18_3 : List MO := [(MO.mk (some 8) (.mv (.t 1)) none), (MO.mk (some 9) (.mv (.t 0)) none), (MO.mk (some 10) (.mv (.t 1)) none), (MO.mk (some 11) (.len (.t 10)) none), (MO.mk (some 12) (.call (.c (.fn 16 [])) [(.t 9), (.t 11)]) none), (MO.mk (some 13) (.iaddr 1 (.t 8) (.t 12)) none), (MO.mk (some 14) (.load false 1 (.t 13)) none), (MO.mk (some 4) (.mv (.t 14)) none)]
@[simp] theorem l18_3 : q18_3.length = 8 := rfl
def m18 : MCode := .seq (.reg q18_0) (.seq (.seq (.reg q18_1) (.cond (.t 7) (.seq (.reg q18_2) .ret) .skip)) (.seq (.reg q18_3) .ret))
theorem rc18 : rcOf Try.prog Try.f18 = some m18 := by kernel_rfl
theorem rv18 : rRVs Try.prog Try.f18.results.toList = some [(.t 4)] := by kernel_rfl
theorem nm18 : (Try.f18.name == "runtime.NumGoroutine") = false := by kernel_rfl
def q19_0 : List MO := [(MO.mk (some 2) (.mv (.c (.int .u64 0))) none)]
@[simp] theorem l19_0 : q19_0.length = 1 := rfl
def q19_1 : List MO := [(MO.mk (some 3) (.mv (.t 0)) none), (MO.mk (some 4) (.mv (.t 0)) none), (MO.mk (some 5) (.nilck (.t 4)) none), (MO.mk (some 6) (.faddr 0 (.t 5)) none), (MO.mk (some 7) (.load false 1 (.t 6)) none), (MO.mk (some 8) (.bin .mul (.t 7) (.c (.int .u64 6364136223846793005))) none), (MO.mk (some 9) (.bin .add (.t 8) (.c (.int .u64 1442695040888963407))) none), (MO.mk (some 10) (.nilck (.t 3)) none), (MO.mk (some 11) (.faddr 0 (.t 10)) none), (MO.mk none (.store 1 (.t 11) (.t 9)) none)]
@[simp] theorem l19_1 : q19_1.length = 10 := rfl
def q19_2 : List MO := [(MO.mk (some 12) (.mv (.t 0)) none), (MO.mk (some 13) (.nilck (.t 12)) none), (MO.mk (some 14) (.faddr 0 (.t 13)) none), (MO.mk (some 15) (.load false 1 (.t 14)) none), (MO.mk (some 16) (.bin .shr (.t 15) (.c (.int .u64 33))) none), (MO.mk (some 2) (.mv (.t 16)) none)]
@[simp] theorem l19_2 : q19_2.length = 6 := rfl
def m19 : MCode := .seq (.reg q19_0) (.seq (.reg q19_1) (.seq (.reg q19_2) .ret))
theorem rc19 : rcOf Try.prog Try.f19 = some m19 := by kernel_rfl
theorem rv19 : rRVs Try.prog Try.f19.results.toList = some [(.t 2)] := by kernel_rfl
theorem nm19 : (Try.f19.name == "runtime.NumGoroutine") = false := by kernel_rfl
def q53_0 : List MO := [(MO.mk (some 0) (.alloc [(.int .i64 0), (.int .i64 0), (.int .i64 0), (.int .i64 0), (.int .i64 0), (.int .i64 0)]) none)]
@[simp] theorem l53_0 : q53_0.length = 1 := rfl
def q53_1 : List MO := [(MO.mk (some 1) (.build [(.int .i64 0), (.int .i64 0), (.int .i64 0), (.int .i64 0), (.int .i64 0), (.int .i64 0)] [(0, (1, (.c (.int .i64 2)))), (1, (1, (.c (.int .i64 1)))), (2, (1, (.c (.int .i64 1)))), (3, (1, (.c (.int .i64 40)))), (4, (1, (.c (.int .i64 100)))), (5, (1, (.c (.int .i64 5))))]) none), (MO.mk none (.store 6 (.t 0) (.t 1)) none)]
@[simp] theorem l53_1 : q53_1.length = 2 := rfl
def m53 : MCode := .seq (.reg q53_0) (.seq (.reg q53_1) .ret)
theorem rc53 : rcOf Try.prog Try.f53 = some m53 := by kernel_rfl
theorem rv53 : rRVs Try.prog Try.f53.results.toList = some [(.c true 6 0)] := by kernel_rfl
theorem nm53 : (Try.f53.name == "runtime.NumGoroutine") = false := by kernel_rfl
def q26_0 : List MO := [(MO.mk (some 1) (.box (.t 0)) none), (MO.mk (some 2) (.alloc [(.int .i64 0), (.int .i64 0), (.int .i64 0), (.int .i64 0), (.int .i64 0), (.int .i64 0), (.int .i64 0)]) none), (MO.mk (some 3) (.mv (.c (.raw .nilIface))) none)]
@[simp] theorem l26_0 : q26_0.length = 3 := rfl
def q26_1 : List MO := [(MO.mk (some 6) (.load true 7 (.t 1)) none), (MO.mk (some 7) (.call (.c (.fn 55 [])) [(.t 6)]) none), (MO.mk (some 8) (.len (.t 7)) none), (MO.mk (some 9) (.mv (.c (.int .i64 0))) none)]
@[simp] theorem l26_1 : q26_1.length = 4 := rfl
def q26_2 : List MO := [(MO.mk (some 10) (.bin .lss (.t 9) (.t 8)) none)]
@[simp] theorem l26_2 : q26_2.length = 1 := rfl
def q26_3 : List MO := [(MO.mk (some 11) (.mv (.t 9)) none), (MO.mk (some 12) (.iaddr 4 (.t 7) (.t 9)) none), (MO.mk (some 13) (.load true 4 (.t 12)) none), (MO.mk (some 5) (.alloc [(.str (ByteArray.mk #[])), (.int .i64 0), (.int .i64 0), (.int .i64 0)]) none), (MO.mk (some 4) (.mv (.t 11)) none), (MO.mk none (.store 4 (.t 5) (.t 13)) none)]
@[simp] theorem l26_3 : q26_3.length = 6 := rfl
def q26_4 : List MO := [(MO.mk (some 14) (.faddr 1 (.t 5)) none), (MO.mk (some 15) (.load false 1 (.t 14)) none), (MO.mk (some 16) (.faddr 2 (.t 5)) none), (MO.mk (some 17) (.load false 1 (.t 16)) none), (MO.mk (some 18) (.bin .lss (.t 15) (.t 17)) none), (MO.mk (some 19) (.mv (.t 18)) none), (MO.mk (some 20) (.faddr 1 (.t 5)) (some (19, false))), (MO.mk (some 21) (.load false 1 (.t 20)) (some (19, false))), (MO.mk (some 22) (.faddr 3 (.t 5)) (some (19, false))), (MO.mk (some 23) (.load false 1 (.t 22)) (some (19, false))), (MO.mk (some 24) (.bin .gtr (.t 21) (.t 23)) (some (19, false))), (MO.mk (some 25) (.pick (.t 19) (.c (.bool true)) (.t 24)) none)]
@[simp] theorem l26_4 : q26_4.length = 12 := rfl
def q26_5 : List MO := [(MO.mk (some 26) (.build [(.int .i64 0), (.int .i64 0), (.int .i64 0), (.int .i64 0), (.int .i64 0), (.int .i64 0), (.int .i64 0)] []) none), (MO.mk (some 27) (.mv (.t 4)) none), (MO.mk (some 28) (.faddr 0 (.t 5)) none), (MO.mk (some 29) (.load false 1 (.t 28)) none), (MO.mk (some 30) (.mkif 117 (.c (.int .i64 5))) none), (MO.mk (some 31) (.call (.c (.fn 57 [])) [(.t 29), (.t 30)]) none), (MO.mk (some 32) (.call (.c (.fn 56 [])) [(.t 27), (.t 31)]) none), (MO.mk none (.store 7 (.t 2) (.t 26)) none), (MO.mk (some 3) (.mv (.t 32)) none)]
@[simp] theorem l26_5 : q26_5.length = 9 := rfl
def q26_6 : List MO := [(MO.mk (some 33) (.bin .add (.t 9) (.c (.int .i64 1))) none), (MO.mk (some 9) (.mv (.t 33)) none)]
@[simp] theorem l26_6 : q26_6.length = 2 := rfl
def q26_7 : List MO := [(MO.mk (some 34) (.load true 7 (.t 1)) none), (MO.mk (some 35) (.build [(.int .i64 0), (.int .i64 0), (.int .i64 0), (.int .i64 0), (.int .i64 0), (.int .i64 0), (.int .i64 0)] [(0, (7, (.t 34)))]) none), (MO.mk none (.store 7 (.t 2) (.t 35)) none), (MO.mk (some 3) (.mv (.c (.raw .nilIface))) none)]
@[simp] theorem l26_7 : q26_7.length = 4 := rfl
def m26 : MCode := .seq (.reg q26_0) (.seq (.seq (.reg q26_1) (.block 0 (.loop (.seq (.reg q26_2) (.seq (.cond (.t 10) .skip (.exit 0)) (.seq (.block 1 (.seq (.reg q26_3) (.seq (.reg q26_4) (.cond (.t 25) (.seq (.reg q26_5) .ret) .skip)))) (.reg q26_6))))))) (.seq (.reg q26_7) .ret))
theorem rc26 : rcOf Try.prog Try.f26 = some m26 := by kernel_rfl
theorem rv26 : rRVs Try.prog Try.f26.results.toList = some [(.c true 7 2), (.t 3)] := by kernel_rfl
theorem nm26 : (Try.f26.name == "runtime.NumGoroutine") = false := by kernel_rfl
def q27_0 : List MO := [(MO.mk (some 1) (.box (.t 0)) none), (MO.mk (some 2) (.mv (.c (.int .i64 0))) none)]
@[simp] theorem l27_0 : q27_0.length = 2 := rfl
def q27_1 : List MO := [(MO.mk (some 7) (.faddr 0 (.t 1)) none), (MO.mk (some 8) (.load false 1 (.t 7)) none), (MO.mk (some 9) (.faddr 1 (.t 1)) none), (MO.mk (some 10) (.load false 1 (.t 9)) none), (MO.mk (some 11) (.faddr 2 (.t 1)) none), (MO.mk (some 12) (.load false 1 (.t 11)) none), (MO.mk (some 13) (.faddr 3 (.t 1)) none), (MO.mk (some 14) (.load false 1 (.t 13)) none), (MO.mk (some 15) (.faddr 4 (.t 1)) none), (MO.mk (some 16) (.load false 1 (.t 15)) none), (MO.mk (some 17) (.faddr 5 (.t 1)) none), (MO.mk (some 18) (.load false 1 (.t 17)) none), (MO.mk (some 19) (.faddr 6 (.t 1)) none), (MO.mk (some 20) (.load false 1 (.t 19)) none), (MO.mk (some 21) (.bsl 1 7 [(.int .i64 0)] [(0, (1, (.t 8))), (1, (1, (.t 10))), (2, (1, (.t 12))), (3, (1, (.t 14))), (4, (1, (.t 16))), (5, (1, (.t 18))), (6, (1, (.t 20)))]) none), (MO.mk (some 3) (.mv (.t 21)) none)]
@[simp] theorem l27_1 : q27_1.length = 16 := rfl
def q27_2 : List MO := [(MO.mk (some 22) (.bsl 1 7 [(.int .i64 0)] [(0, (1, (.c (.int .i64 1)))), (1, (1, (.c (.int .i64 1)))), (2, (1, (.c (.int .i64 1)))), (3, (1, (.c (.int .i64 1)))), (4, (1, (.c (.int .i64 0)))), (5, (1, (.c (.int .i64 1)))), (6, (1, (.c (.int .i64 1))))]) none), (MO.mk (some 4) (.mv (.t 22)) none)]
@[simp] theorem l27_2 : q27_2.length = 2 := rfl
def q27_3 : List MO := [(MO.mk (some 23) (.bsl 1 7 [(.int .i64 0)] [(0, (1, (.c (.int .i64 6)))), (1, (1, (.c (.int .i64 4)))), (2, (1, (.c (.int .i64 3)))), (3, (1, (.c (.int .i64 4)))), (4, (1, (.c (.int .i64 4)))), (5, (1, (.c (.int .i64 4)))), (6, (1, (.c (.int .i64 15))))]) none), (MO.mk (some 5) (.mv (.t 23)) none)]
@[simp] theorem l27_3 : q27_3.length = 2 := rfl
def q27_4 : List MO := [(MO.mk (some 6) (.mv (.c (.int .i64 0))) none)]
@[simp] theorem l27_4 : q27_4.length = 1 := rfl
def q27_5 : List MO := [(MO.mk (some 24) (.mv (.t 6)) none), (MO.mk (some 25) (.mv (.t 3)) none), (MO.mk (some 26) (.len (.t 25)) none), (MO.mk (some 27) (.bin .lss (.t 24) (.t 26)) none)]
@[simp] theorem l27_5 : q27_5.length = 4 := rfl
def q27_6 : List MO := [(MO.mk (some 30) (.mv (.t 3)) none), (MO.mk (some 31) (.mv (.t 6)) none), (MO.mk (some 32) (.iaddr 1 (.t 30) (.t 31)) none), (MO.mk (some 33) (.load false 1 (.t 32)) none), (MO.mk (some 34) (.mv (.t 4)) none), (MO.mk (some 35) (.mv (.t 6)) none), (MO.mk (some 36) (.iaddr 1 (.t 34) (.t 35)) none), (MO.mk (some 37) (.load false 1 (.t 36)) none), (MO.mk (some 38) (.bin .lss (.t 33) (.t 37)) none), (MO.mk (some 39) (.mv (.t 38)) none), (MO.mk (some 40) (.mv (.t 3)) (some (39, false))), (MO.mk (some 41) (.mv (.t 6)) (some (39, false))), (MO.mk (some 42) (.iaddr 1 (.t 40) (.t 41)) (some (39, false))), (MO.mk (some 43) (.load false 1 (.t 42)) (some (39, false))), (MO.mk (some 44) (.mv (.t 5)) (some (39, false))), (MO.mk (some 45) (.mv (.t 6)) (some (39, false))), (MO.mk (some 46) (.iaddr 1 (.t 44) (.t 45)) (some (39, false))), (MO.mk (some 47) (.load false 1 (.t 46)) (some (39, false))), (MO.mk (some 48) (.bin .gtr (.t 43) (.t 47)) (some (39, false))), (MO.mk (some 49) (.pick (.t 39) (.c (.bool true)) (.t 48)) none)]
@[simp] theorem l27_6 : q27_6.length = 20 := rfl
def p27_6 : List (List Nat) := [[], [], [0, 1], [2], [], [], [4, 5], [6], [3, 7], [8], [9], [9], [10, 11, 9], [12, 9], [9], [9], [14, 15, 9], [16, 9], [13, 17, 9], [9, 18]]
def c27_6 : List (List Nat) := [[], [], [0, 1], [0, 1, 2], [], [], [4, 5], [4, 5, 6], [0, 1, 2, 3, 4, 5, 6, 7], [0, 1, 2, 3, 4, 5, 6, 7, 8], [0, 1, 2, 3, 4, 5, 6, 7, 8, 9], [0, 1, 2, 3, 4, 5, 6, 7, 8, 9], [0, 1, 2, 3, 4, 5, 6, 7, 8, 9, 10, 11], [0, 1, 2, 3, 4, 5, 6, 7, 8, 9, 10, 11, 12], [0, 1, 2, 3, 4, 5, 6, 7, 8, 9], [0, 1, 2, 3, 4, 5, 6, 7, 8, 9], [0, 1, 2, 3, 4, 5, 6, 7, 8, 9, 14, 15], [0, 1, 2, 3, 4, 5, 6, 7, 8, 9, 14, 15, 16], [0, 1, 2, 3, 4, 5, 6, 7, 8, 9, 10, 11, 12, 13, 14, 15, 16, 17], [0, 1, 2, 3, 4, 5, 6, 7, 8, 9, 10, 11, 12, 13, 14, 15, 16, 17, 18]]
def q27_7 : List MO := [(MO.mk (some 50) (.mv (.t 6)) none), (MO.mk (some 2) (.mv (.t 50)) none)]
@[simp] theorem l27_7 : q27_7.length = 2 := rfl
def q27_8 : List MO := [(MO.mk (some 28) (.mv (.t 6)) none), (MO.mk (some 29) (.bin .add (.t 28) (.c (.int .i64 1))) none), (MO.mk (some 6) (.mv (.t 29)) none)]
@[simp] theorem l27_8 : q27_8.length = 3 := rfl
def q27_9 : List MO := [(MO.mk (some 2) (.mv (.c (.int .i64 (-1)))) none)]
@[simp] theorem l27_9 : q27_9.length = 1 := rfl
def m27 : MCode := .seq (.reg q27_0) (.seq (.reg q27_1) (.seq (.reg q27_2) (.seq (.reg q27_3) (.seq (.seq (.reg q27_4) (.block 0 (.loop (.seq (.seq (.reg q27_5) (.cond (.t 27) .skip (.exit 0))) (.seq (.block 1 (.seq (.draw q27_6 p27_6) (.cond (.t 49) (.seq (.reg q27_7) .ret) .skip))) (.reg q27_8)))))) (.seq (.reg q27_9) .ret)))))
theorem rc27 : rcOf Try.prog Try.f27 = some m27 := by kernel_rfl
theorem rv27 : rRVs Try.prog Try.f27.results.toList = some [(.t 2)] := by kernel_rfl
theorem nm27 : (Try.f27.name == "runtime.NumGoroutine") = false := by kernel_rfl
def q28_0 : List MO := [(MO.mk (some 1) (.box (.t 0)) none), (MO.mk (some 2) (.mv (.c (.bool false))) none)]
@[simp] theorem l28_0 : q28_0.length = 2 := rfl
def q28_1 : List MO := [(MO.mk (some 5) (.faddr 0 (.t 1)) none), (MO.mk (some 6) (.load false 1 (.t 5)) none), (MO.mk (some 7) (.faddr 1 (.t 1)) none), (MO.mk (some 8) (.load false 1 (.t 7)) none), (MO.mk (some 9) (.faddr 2 (.t 1)) none), (MO.mk (some 10) (.load false 1 (.t 9)) none), (MO.mk (some 11) (.faddr 3 (.t 1)) none), (MO.mk (some 12) (.load false 1 (.t 11)) none), (MO.mk (some 13) (.faddr 4 (.t 1)) none), (MO.mk (some 14) (.load false 1 (.t 13)) none), (MO.mk (some 15) (.faddr 5 (.t 1)) none), (MO.mk (some 16) (.load false 1 (.t 15)) none), (MO.mk (some 17) (.bsl 1 6 [(.int .i64 0)] [(0, (1, (.t 6))), (1, (1, (.t 8))), (2, (1, (.t 10))), (3, (1, (.t 12))), (4, (1, (.t 14))), (5, (1, (.t 16)))]) none), (MO.mk (some 18) (.len (.t 17)) none), (MO.mk (some 19) (.mv (.c (.int .i64 0))) none)]
@[simp] theorem l28_1 : q28_1.length = 15 := rfl
def q28_2 : List MO := [(MO.mk (some 20) (.bin .lss (.t 19) (.t 18)) none)]
@[simp] theorem l28_2 : q28_2.length = 1 := rfl
def q28_3 : List MO := [(MO.mk (some 21) (.iaddr 1 (.t 17) (.t 19)) none), (MO.mk (some 22) (.load false 1 (.t 21)) none), (MO.mk (some 4) (.mv (.t 22)) none)]
@[simp] theorem l28_3 : q28_3.length = 3 := rfl
def q28_4 : List MO := [(MO.mk (some 23) (.mv (.t 4)) none), (MO.mk (some 24) (.bin .lss (.t 23) (.c (.int .i64 (-10000)))) none), (MO.mk (some 25) (.mv (.t 24)) none), (MO.mk (some 26) (.mv (.t 4)) (some (25, false))), (MO.mk (some 27) (.bin .gtr (.t 26) (.c (.int .i64 10000))) (some (25, false))), (MO.mk (some 28) (.pick (.t 25) (.c (.bool true)) (.t 27)) none)]
@[simp] theorem l28_4 : q28_4.length = 6 := rfl
def q28_5 : List MO := [(MO.mk (some 2) (.mv (.c (.bool false))) none)]
@[simp] theorem l28_5 : q28_5.length = 1 := rfl
def q28_6 : List MO := [(MO.mk (some 29) (.bin .add (.t 19) (.c (.int .i64 1))) none), (MO.mk (some 19) (.mv (.t 29)) none)]
@[simp] theorem l28_6 : q28_6.length = 2 := rfl
def q28_7 : List MO := [(MO.mk (some 30) (.faddr 5 (.t 1)) none), (MO.mk (some 31) (.load false 1 (.t 30)) none), (MO.mk (some 32) (.bin .geq (.t 31) (.c (.int .i64 0))) none), (MO.mk (some 2) (.mv (.t 32)) none)]
@[simp] theorem l28_7 : q28_7.length = 4 := rfl
def m28 : MCode := .seq (.reg q28_0) (.seq (.seq (.reg q28_1) (.block 0 (.loop (.seq (.reg q28_2) (.seq (.cond (.t 20) .skip (.exit 0)) (.seq (.block 1 (.seq (.reg q28_3) (.seq (.reg q28_4) (.cond (.t 28) (.seq (.reg q28_5) .ret) .skip)))) (.reg q28_6))))))) (.seq (.reg q28_7) .ret))
theorem rc28 : rcOf Try.prog Try.f28 = some m28 := by kernel_rfl
theorem rv28 : rRVs Try.prog Try.f28.results.toList = some [(.t 2)] := by kernel_rfl
theorem nm28 : (Try.f28.name == "runtime.NumGoroutine") = false := by kernel_rfl
def q29_0 : List MO := [(MO.mk (some 1) (.box (.t 0)) none), (MO.mk (some 2) (.alloc [(.int .i64 0), (.int .i64 0), (.int .i64 0), (.int .i64 0), (.int .i64 0), (.int .i64 0), (.int .i64 0), (.int .i64 0), (.int .i64 0)]) none)]
@[simp] theorem l29_0 : q29_0.length = 2 := rfl
def q29_1 : List MO := [(MO.mk (some 3) (.faddr 0 (.t 1)) none), (MO.mk (some 4) (.load false 1 (.t 3)) none), (MO.mk (some 5) (.faddr 1 (.t 1)) none), (MO.mk (some 6) (.load false 1 (.t 5)) none), (MO.mk (some 7) (.faddr 2 (.t 1)) none), (MO.mk (some 8) (.load false 1 (.t 7)) none), (MO.mk (some 9) (.faddr 3 (.t 1)) none), (MO.mk (some 10) (.load true 5 (.t 9)) none), (MO.mk (some 11) (.faddr 8 (.t 1)) none), (MO.mk (some 12) (.load false 1 (.t 11)) none), (MO.mk (some 13) (.build [(.int .i64 0), (.int .i64 0), (.int .i64 0), (.int .i64 0), (.int .i64 0), (.int .i64 0), (.int .i64 0), (.int .i64 0), (.int .i64 0)] [(0, (1, (.t 4))), (1, (1, (.t 6))), (2, (1, (.t 8))), (3, (5, (.t 10))), (8, (1, (.t 12)))]) none), (MO.mk none (.store 9 (.t 2) (.t 13)) none)]
@[simp] theorem l29_1 : q29_1.length = 12 := rfl
def m29 : MCode := .seq (.reg q29_0) (.seq (.reg q29_1) .ret)
theorem rc29 : rcOf Try.prog Try.f29 = some m29 := by kernel_rfl
theorem rv29 : rRVs Try.prog Try.f29.results.toList = some [(.c true 9 2)] := by kernel_rfl
theorem nm29 : (Try.f29.name == "runtime.NumGoroutine") = false := by kernel_rfl
def q30_0 : List MO := [(MO.mk (some 5) (.box (.t 0)) none), (MO.mk (some 7) (.box (.t 2)) none), (MO.mk (some 10) (.alloc [(.int .i64 0), (.int .i64 0), (.int .i64 0), (.int .i64 0), (.int .i64 0), (.int .i64 0), (.int .i64 0), (.int .i64 0), (.int .i64 0)]) none)]
@[simp] theorem l30_0 : q30_0.length = 3 := rfl
def q30_1 : List MO := [(MO.mk (some 12) (.mv (.t 1)) none), (MO.mk (some 13) (.bsl 1 6 [(.int .i64 0)] [(0, (1, (.c (.int .i64 1)))), (1, (1, (.c (.int .i64 1)))), (2, (1, (.c (.int .i64 1)))), (3, (1, (.c (.int .i64 2)))), (4, (1, (.c (.int .i64 3)))), (5, (1, (.c (.int .i64 4))))]) none), (MO.mk (some 14) (.call (.c (.fn 18 [])) [(.t 12), (.t 13)]) none), (MO.mk (some 15) (.mv (.t 1)) none), (MO.mk (some 16) (.faddr 0 (.t 5)) none), (MO.mk (some 17) (.faddr 1 (.t 16)) none), (MO.mk (some 18) (.load false 1 (.t 17)) none), (MO.mk (some 19) (.call (.c (.fn 16 [])) [(.t 15), (.t 18)]) none), (MO.mk (some 20) (.build [(.int .i64 0), (.int .i64 0), (.int .i64 0), (.int .i64 0), (.int .i64 0), (.int .i64 0), (.int .i64 0), (.int .i64 0), (.int .i64 0)] [(0, (1, (.t 14))), (2, (1, (.t 19)))]) none), (MO.mk (some 11) (.alloc [(.int .i64 0), (.int .i64 0), (.int .i64 0), (.int .i64 0), (.int .i64 0), (.int .i64 0), (.int .i64 0), (.int .i64 0), (.int .i64 0)]) none), (MO.mk none (.store 9 (.t 11) (.t 20)) none)]
@[simp] theorem l30_1 : q30_1.length = 11 := rfl
def p30_1 : List (List Nat) := [[], [], [0, 1], [], [], [4], [5], [3, 6, 2], [2, 7], [], [9, 8, 7, 0, 1, 2, 3, 4, 5, 6, 7, 8, 9]]
def c30_1 : List (List Nat) := [[], [], [0, 1], [], [], [4], [4, 5], [0, 1, 2, 3, 4, 5, 6], [0, 1, 2, 3, 4, 5, 6, 7], [], [0, 1, 2, 3, 4, 5, 6, 7, 8, 9]]
def q30_2 : List MO := [(MO.mk (some 21) (.faddr 0 (.t 11)) none), (MO.mk (some 22) (.load false 1 (.t 21)) none)]
@[simp] theorem l30_2 : q30_2.length = 2 := rfl
def q30_3 : List MO := [(MO.mk (some 24) (.bin .eql (.t 22) (.c (.int .i64 1))) none), (MO.mk (some 23) (.mv (.t 24)) none)]
@[simp] theorem l30_3 : q30_3.length = 2 := rfl
def q30_4 : List MO := [(MO.mk (some 25) (.mv (.t 3)) none), (MO.mk (some 26) (.faddr 1 (.t 11)) none), (MO.mk none (.store 1 (.t 26) (.t 25)) none)]
@[simp] theorem l30_4 : q30_4.length = 3 := rfl
def q30_5 : List MO := [(MO.mk (some 27) (.mv (.t 1)) none), (MO.mk (some 28) (.call (.c (.fn 16 [])) [(.t 27), (.c (.int .i64 9))]) none), (MO.mk (some 29) (.bin .add (.c (.int .i64 1)) (.t 28)) none), (MO.mk (some 30) (.faddr 8 (.t 11)) none), (MO.mk none (.store 1 (.t 30) (.t 29)) none)]
@[simp] theorem l30_5 : q30_5.length = 5 := rfl
def q30_6 : List MO := [(MO.mk (some 31) (.mv (.t 1)) none), (MO.mk (some 32) (.faddr 0 (.t 5)) none), (MO.mk (some 33) (.faddr 2 (.t 32)) none), (MO.mk (some 34) (.load false 1 (.t 33)) none), (MO.mk (some 35) (.call (.c (.fn 16 [])) [(.t 31), (.t 34)]) none), (MO.mk (some 36) (.mv (.t 1)) none), (MO.mk (some 37) (.call (.c (.fn 16 [])) [(.t 36), (.c (.int .i64 2))]) none), (MO.mk (some 38) (.faddr 4 (.t 7)) none), (MO.mk (some 39) (.load false 1 (.t 38)) none), (MO.mk (some 40) (.mv (.t 1)) none), (MO.mk (some 41) (.faddr 5 (.t 7)) none), (MO.mk (some 42) (.load false 1 (.t 41)) none), (MO.mk (some 43) (.mx [(.t 42), (.c (.int .i64 0))]) none), (MO.mk (some 44) (.bin .mul (.c (.int .i64 2)) (.t 43)) none), (MO.mk (some 45) (.bin .add (.t 44) (.c (.int .i64 1))) none), (MO.mk (some 46) (.call (.c (.fn 16 [])) [(.t 40), (.t 45)]) none), (MO.mk (some 47) (.bin .add (.t 39) (.t 46)) none), (MO.mk (some 48) (.faddr 5 (.t 7)) none), (MO.mk (some 49) (.load false 1 (.t 48)) none), (MO.mk (some 50) (.bin .sub (.t 47) (.t 49)) none), (MO.mk (some 51) (.mn [(.c (.int .i64 9999)), (.t 50)]) none), (MO.mk (some 52) (.mx [(.c (.int .i64 1)), (.t 51)]) none), (MO.mk (some 53) (.mv (.t 1)) none), (MO.mk (some 54) (.faddr 8 (.t 11)) none), (MO.mk (some 55) (.load false 1 (.t 54)) none), (MO.mk (some 56) (.call (.c (.fn 16 [])) [(.t 53), (.t 55)]) none), (MO.mk (some 57) (.bin .add (.c (.int .i64 1)) (.t 56)) none), (MO.mk (some 58) (.mv (.t 4)) none), (MO.mk (some 59) (.bin .add (.t 58) (.c (.int .i64 1))) none), (MO.mk (some 60) (.mv (.t 1)) none), (MO.mk (some 61) (.call (.c (.fn 16 [])) [(.t 60), (.c (.int .i64 50))]) none), (MO.mk (some 62) (.bin .add (.t 59) (.t 61)) none), (MO.mk (some 63) (.mn [(.c (.int .i64 1000000)), (.t 62)]) none), (MO.mk (some 64) (.build [(.int .i64 0), (.int .i64 0), (.int .i64 0), (.int .i64 0), (.int .i64 0)] [(0, (1, (.t 35))), (1, (1, (.t 37))), (2, (1, (.t 52))), (3, (1, (.t 57))), (4, (1, (.t 63)))]) none), (MO.mk (some 65) (.faddr 3 (.t 11)) none), (MO.mk none (.store 5 (.t 65) (.t 64)) none)]
@[simp] theorem l30_6 : q30_6.length = 36 := rfl
def p30_6 : List (List Nat) := [[], [], [1], [2], [0, 3], [], [5, 4], [], [7], [], [], [10], [11], [12], [13], [9, 14, 6], [8, 15], [], [17], [16, 18], [19], [20], [], [], [23], [22, 24, 15], [25], [], [27], [], [29, 25], [28, 30], [31], [4, 6, 21, 26, 32], [0, 1, 2, 3, 4, 5, 6, 7, 8, 9, 10, 11, 12, 13, 14, 15, 16, 17, 18, 19, 20, 21, 22, 23, 24, 25, 26, 27, 28, 29, 30, 31, 32, 33], [34, 33, 30, 0, 1, 2, 3, 4, 5, 6, 7, 8, 9, 10, 11, 12, 13, 14, 15, 16, 17, 18, 19, 20, 21, 22, 23, 24, 25, 26, 27, 28, 29, 30, 31, 32, 33]]
def c30_6 : List (List Nat) := [[], [], [1], [1, 2], [0, 1, 2, 3], [], [0, 1, 2, 3, 4, 5], [], [7], [], [], [10], [10, 11], [10, 11, 12], [10, 11, 12, 13], [0, 1, 2, 3, 4, 5, 6, 9, 10, 11, 12, 13, 14], [0, 1, 2, 3, 4, 5, 6, 7, 8, 9, 10, 11, 12, 13, 14, 15], [], [17], [0, 1, 2, 3, 4, 5, 6, 7, 8, 9, 10, 11, 12, 13, 14, 15, 16, 17, 18], [0, 1, 2, 3, 4, 5, 6, 7, 8, 9, 10, 11, 12, 13, 14, 15, 16, 17, 18, 19], [0, 1, 2, 3, 4, 5, 6, 7, 8, 9, 10, 11, 12, 13, 14, 15, 16, 17, 18, 19, 20], [], [], [23], [0, 1, 2, 3, 4, 5, 6, 9, 10, 11, 12, 13, 14, 15, 22, 23, 24], [0, 1, 2, 3, 4, 5, 6, 9, 10, 11, 12, 13, 14, 15, 22, 23, 24, 25], [], [27], [], [0, 1, 2, 3, 4, 5, 6, 9, 10, 11, 12, 13, 14, 15, 22, 23, 24, 25, 29], [0, 1, 2, 3, 4, 5, 6, 9, 10, 11, 12, 13, 14, 15, 22, 23, 24, 25, 27, 28, 29, 30], [0, 1, 2, 3, 4, 5, 6, 9, 10, 11, 12, 13, 14, 15, 22, 23, 24, 25, 27, 28, 29, 30, 31], [0, 1, 2, 3, 4, 5, 6, 7, 8, 9, 10, 11, 12, 13, 14, 15, 16, 17, 18, 19, 20, 21, 22, 23, 24, 25, 26, 27, 28, 29, 30, 31, 32], [0, 1, 2, 3, 4, 5, 6, 7, 8, 9, 10, 11, 12, 13, 14, 15, 16, 17, 18, 19, 20, 21, 22, 23, 24, 25, 26, 27, 28, 29, 30, 31, 32, 33], [0, 1, 2, 3, 4, 5, 6, 7, 8, 9, 10, 11, 12, 13, 14, 15, 16, 17, 18, 19, 20, 21, 22, 23, 24, 25, 26, 27, 28, 29, 30, 31, 32, 33, 34]]
def q30_7 : List MO := [(MO.mk (some 67) (.bin .eql (.t 22) (.c (.int .i64 2))) none), (MO.mk (some 66) (.mv (.t 67)) none)]
@[simp] theorem l30_7 : q30_7.length = 2 := rfl
def q30_8 : List MO := [(MO.mk (some 68) (.mv (.t 3)) none), (MO.mk (some 69) (.bin .sub (.t 68) (.c (.int .i64 1))) none), (MO.mk (some 70) (.mv (.t 1)) none), (MO.mk (some 71) (.call (.c (.fn 16 [])) [(.t 70), (.c (.int .i64 3))]) none), (MO.mk (some 72) (.bin .sub (.t 69) (.t 71)) none), (MO.mk (some 73) (.mx [(.c (.int .i64 1)), (.t 72)]) none), (MO.mk (some 74) (.faddr 1 (.t 11)) none), (MO.mk none (.store 1 (.t 74) (.t 73)) none)]
@[simp] theorem l30_8 : q30_8.length = 8 := rfl
def q30_9 : List MO := [(MO.mk (some 75) (.load true 9 (.t 11)) none), (MO.mk none (.store 9 (.t 10) (.t 75)) none)]
@[simp] theorem l30_9 : q30_9.length = 2 := rfl
def m30 : MCode := .seq (.reg q30_0) (.seq (.draw q30_1 p30_1) (.seq (.seq (.reg q30_2) (.block 0 (.seq (.reg q30_3) (.cond (.t 23) (.seq (.reg q30_4) (.seq (.reg q30_5) (.draw q30_6 p30_6))) (.seq (.reg q30_7) (.cond (.t 66) (.reg q30_8) .skip)))))) (.seq (.reg q30_9) .ret)))
theorem rc30 : rcOf Try.prog Try.f30 = some m30 := by kernel_rfl
theorem rv30 : rRVs Try.prog Try.f30.results.toList = some [(.c true 9 10)] := by kernel_rfl
theorem nm30 : (Try.f30.name == "runtime.NumGoroutine") = false := by kernel_rfl
def q31_0 : List MO := [(MO.mk (some 5) (.box (.t 0)) none), (MO.mk (some 7) (.box (.t 2)) none), (MO.mk (some 10) (.alloc [(.int .i64 0), (.int .i64 0), (.int .i64 0), (.int .i64 0), (.int .i64 0), (.int .i64 0), (.int .i64 0), (.int .i64 0), (.int .i64 0)]) none)]
@[simp] theorem l31_0 : q31_0.length = 3 := rfl
def q31_1 : List MO := [(MO.mk (some 12) (.bsl 1 6 [(.int .i64 0)] [(0, (1, (.c (.int .i64 1)))), (1, (1, (.c (.int .i64 1)))), (2, (1, (.c (.int .i64 1)))), (3, (1, (.c (.int .i64 2)))), (4, (1, (.c (.int .i64 3)))), (5, (1, (.c (.int .i64 4))))]) none), (MO.mk (some 13) (.mv (.t 1)) none), (MO.mk (some 14) (.call (.c (.fn 17 [])) [(.t 13), (.c (.int .i64 6))]) none), (MO.mk (some 15) (.iaddr 1 (.t 12) (.t 14)) none), (MO.mk (some 16) (.load false 1 (.t 15)) none), (MO.mk (some 17) (.build [(.int .i64 0), (.int .i64 0), (.int .i64 0), (.int .i64 0), (.int .i64 0), (.int .i64 0), (.int .i64 0), (.int .i64 0), (.int .i64 0)] [(0, (1, (.t 16)))]) none), (MO.mk (some 11) (.alloc [(.int .i64 0), (.int .i64 0), (.int .i64 0), (.int .i64 0), (.int .i64 0), (.int .i64 0), (.int .i64 0), (.int .i64 0), (.int .i64 0)]) none), (MO.mk none (.store 9 (.t 11) (.t 17)) none)]
@[simp] theorem l31_1 : q31_1.length = 8 := rfl
def q31_2 : List MO := [(MO.mk (some 18) (.mv (.t 1)) none), (MO.mk (some 19) (.faddr 1 (.t 5)) none), (MO.mk (some 20) (.load false 1 (.t 19)) none), (MO.mk (some 21) (.call (.c (.fn 17 [])) [(.t 18), (.t 20)]) none), (MO.mk (some 22) (.faddr 2 (.t 11)) none), (MO.mk none (.store 1 (.t 22) (.t 21)) none)]
@[simp] theorem l31_2 : q31_2.length = 6 := rfl
def q31_3 : List MO := [(MO.mk (some 23) (.faddr 0 (.t 11)) none), (MO.mk (some 24) (.load false 1 (.t 23)) none), (MO.mk (some 25) (.bin .eql (.t 24) (.c (.int .i64 1))) none)]
@[simp] theorem l31_3 : q31_3.length = 3 := rfl
def q31_4 : List MO := [(MO.mk (some 26) (.mv (.t 3)) none), (MO.mk (some 27) (.faddr 1 (.t 11)) none), (MO.mk none (.store 1 (.t 27) (.t 26)) none)]
@[simp] theorem l31_4 : q31_4.length = 3 := rfl
def q31_5 : List MO := [(MO.mk (some 28) (.mv (.t 1)) none), (MO.mk (some 29) (.call (.c (.fn 17 [])) [(.t 28), (.c (.int .i64 9))]) none), (MO.mk (some 30) (.bin .add (.c (.int .i64 1)) (.t 29)) none), (MO.mk (some 31) (.faddr 8 (.t 11)) none), (MO.mk none (.store 1 (.t 31) (.t 30)) none)]
@[simp] theorem l31_5 : q31_5.length = 5 := rfl
def q31_6 : List MO := [(MO.mk (some 32) (.mv (.t 1)) none), (MO.mk (some 33) (.faddr 2 (.t 5)) none), (MO.mk (some 34) (.load false 1 (.t 33)) none), (MO.mk (some 35) (.call (.c (.fn 17 [])) [(.t 32), (.t 34)]) none), (MO.mk (some 36) (.faddr 3 (.t 11)) none), (MO.mk (some 37) (.faddr 0 (.t 36)) none), (MO.mk none (.store 1 (.t 37) (.t 35)) none)]
@[simp] theorem l31_6 : q31_6.length = 7 := rfl
def q31_7 : List MO := [(MO.mk (some 38) (.mv (.t 1)) none), (MO.mk (some 39) (.call (.c (.fn 17 [])) [(.t 38), (.c (.int .i64 2))]) none), (MO.mk (some 40) (.faddr 3 (.t 11)) none), (MO.mk (some 41) (.faddr 1 (.t 40)) none), (MO.mk none (.store 1 (.t 41) (.t 39)) none)]
@[simp] theorem l31_7 : q31_7.length = 5 := rfl
def q31_8 : List MO := [(MO.mk (some 42) (.faddr 4 (.t 7)) none), (MO.mk (some 43) (.load false 1 (.t 42)) none), (MO.mk (some 44) (.mv (.t 1)) none), (MO.mk (some 45) (.faddr 5 (.t 7)) none), (MO.mk (some 46) (.load false 1 (.t 45)) none), (MO.mk (some 47) (.bin .mul (.c (.int .i64 2)) (.t 46)) none), (MO.mk (some 48) (.bin .add (.t 47) (.c (.int .i64 1))) none), (MO.mk (some 49) (.call (.c (.fn 17 [])) [(.t 44), (.t 48)]) none), (MO.mk (some 50) (.bin .add (.t 43) (.t 49)) none), (MO.mk (some 51) (.faddr 5 (.t 7)) none), (MO.mk (some 52) (.load false 1 (.t 51)) none), (MO.mk (some 53) (.bin .sub (.t 50) (.t 52)) none), (MO.mk (some 54) (.call (.c (.fn 58 [])) [(.t 53), (.c (.int .i64 1)), (.c (.int .i64 9999))]) none), (MO.mk (some 55) (.faddr 3 (.t 11)) none), (MO.mk (some 56) (.faddr 2 (.t 55)) none), (MO.mk none (.store 1 (.t 56) (.t 54)) none)]
@[simp] theorem l31_8 : q31_8.length = 16 := rfl
def p31_8 : List (List Nat) := [[], [0], [], [], [3], [4], [5], [2, 6], [1, 7], [], [9], [8, 10], [11, 7], [0, 1, 2, 3, 4, 5, 6, 7, 8, 9, 10, 11, 12], [13, 0, 1, 2, 3, 4, 5, 6, 7, 8, 9, 10, 11, 12], [14, 12, 12, 0, 1, 2, 3, 4, 5, 6, 7, 8, 9, 10, 11, 12]]
def c31_8 : List (List Nat) := [[], [0], [], [], [3], [3, 4], [3, 4, 5], [2, 3, 4, 5, 6], [0, 1, 2, 3, 4, 5, 6, 7], [], [9], [0, 1, 2, 3, 4, 5, 6, 7, 8, 9, 10], [0, 1, 2, 3, 4, 5, 6, 7, 8, 9, 10, 11], [0, 1, 2, 3, 4, 5, 6, 7, 8, 9, 10, 11, 12], [0, 1, 2, 3, 4, 5, 6, 7, 8, 9, 10, 11, 12, 13], [0, 1, 2, 3, 4, 5, 6, 7, 8, 9, 10, 11, 12, 13, 14]]
def q31_9 : List MO := [(MO.mk (some 57) (.mv (.t 1)) none), (MO.mk (some 58) (.faddr 8 (.t 11)) none), (MO.mk (some 59) (.load false 1 (.t 58)) none), (MO.mk (some 60) (.call (.c (.fn 17 [])) [(.t 57), (.t 59)]) none), (MO.mk (some 61) (.bin .add (.c (.int .i64 1)) (.t 60)) none), (MO.mk (some 62) (.faddr 3 (.t 11)) none), (MO.mk (some 63) (.faddr 3 (.t 62)) none), (MO.mk none (.store 1 (.t 63) (.t 61)) none)]
@[simp] theorem l31_9 : q31_9.length = 8 := rfl
def q31_10 : List MO := [(MO.mk (some 64) (.mv (.t 4)) none), (MO.mk (some 65) (.bin .add (.t 64) (.c (.int .i64 1))) none), (MO.mk (some 66) (.mv (.t 1)) none), (MO.mk (some 67) (.call (.c (.fn 17 [])) [(.t 66), (.c (.int .i64 50))]) none), (MO.mk (some 68) (.bin .add (.t 65) (.t 67)) none), (MO.mk (some 69) (.mv (.t 4)) none), (MO.mk (some 70) (.call (.c (.fn 58 [])) [(.t 68), (.t 69), (.c (.int .i64 1000000))]) none), (MO.mk (some 71) (.faddr 3 (.t 11)) none), (MO.mk (some 72) (.faddr 4 (.t 71)) none), (MO.mk none (.store 1 (.t 72) (.t 70)) none)]
@[simp] theorem l31_10 : q31_10.length = 10 := rfl
def q31_11 : List MO := [(MO.mk (some 73) (.faddr 0 (.t 11)) none), (MO.mk (some 74) (.load false 1 (.t 73)) none), (MO.mk (some 75) (.bin .eql (.t 74) (.c (.int .i64 2))) none)]
@[simp] theorem l31_11 : q31_11.length = 3 := rfl
def q31_12 : List MO := [(MO.mk (some 76) (.mv (.t 3)) none), (MO.mk (some 77) (.bin .sub (.t 76) (.c (.int .i64 1))) none), (MO.mk (some 78) (.mv (.t 1)) none), (MO.mk (some 79) (.call (.c (.fn 17 [])) [(.t 78), (.c (.int .i64 3))]) none), (MO.mk (some 80) (.bin .sub (.t 77) (.t 79)) none), (MO.mk (some 81) (.mv (.t 3)) none), (MO.mk (some 82) (.bin .add (.t 81) (.c (.int .i64 1))) none), (MO.mk (some 83) (.call (.c (.fn 58 [])) [(.t 80), (.c (.int .i64 1)), (.t 82)]) none), (MO.mk (some 84) (.faddr 1 (.t 11)) none), (MO.mk none (.store 1 (.t 84) (.t 83)) none)]
@[simp] theorem l31_12 : q31_12.length = 10 := rfl
def q31_13 : List MO := [(MO.mk (some 85) (.load true 9 (.t 11)) none), (MO.mk none (.store 9 (.t 10) (.t 85)) none)]
@[simp] theorem l31_13 : q31_13.length = 2 := rfl
def m31 : MCode := .seq (.reg q31_0) (.seq (.reg q31_1) (.seq (.reg q31_2) (.seq (.seq (.reg q31_3) (.cond (.t 25) (.seq (.reg q31_4) (.seq (.reg q31_5) (.seq (.reg q31_6) (.seq (.reg q31_7) (.seq (.draw q31_8 p31_8) (.seq (.reg q31_9) (.reg q31_10))))))) .skip)) (.seq (.seq (.reg q31_11) (.cond (.t 75) (.reg q31_12) .skip)) (.seq (.reg q31_13) .ret)))))
theorem rc31 : rcOf Try.prog Try.f31 = some m31 := by kernel_rfl
theorem rv31 : rRVs Try.prog Try.f31.results.toList = some [(.c true 9 10)] := by kernel_rfl
theorem nm31 : (Try.f31.name == "runtime.NumGoroutine") = false := by kernel_rfl
def q55_0 : List MO := [(MO.mk (some 1) (.box (.t 0)) none), (MO.mk (some 2) (.mv (.c .nsl)) none)]
@[simp] theorem l55_0 : q55_0.length = 2 := rfl
def q55_1 : List MO := [(MO.mk (some 3) (.faddr 0 (.t 1)) none), (MO.mk (some 4) (.load false 1 (.t 3)) none), (MO.mk (some 5) (.build [(.str (ByteArray.mk #[])), (.int .i64 0), (.int .i64 0), (.int .i64 0)] [(0, (1, (.c (.str (ByteArray.mk #[112, 97, 114, 116, 115]))))), (1, (1, (.t 4))), (2, (1, (.c (.int .i64 1)))), (3, (1, (.c (.int .i64 6))))]) none), (MO.mk (some 6) (.faddr 1 (.t 1)) none), (MO.mk (some 7) (.load false 1 (.t 6)) none), (MO.mk (some 8) (.build [(.str (ByteArray.mk #[])), (.int .i64 0), (.int .i64 0), (.int .i64 0)] [(0, (1, (.c (.str (ByteArray.mk #[99, 101, 108, 108, 115]))))), (1, (1, (.t 7))), (2, (1, (.c (.int .i64 1)))), (3, (1, (.c (.int .i64 4))))]) none), (MO.mk (some 9) (.faddr 2 (.t 1)) none), (MO.mk (some 10) (.load false 1 (.t 9)) none), (MO.mk (some 11) (.build [(.str (ByteArray.mk #[])), (.int .i64 0), (.int .i64 0), (.int .i64 0)] [(0, (1, (.c (.str (ByteArray.mk #[110, 97, 109, 101, 115]))))), (1, (1, (.t 10))), (2, (1, (.c (.int .i64 1)))), (3, (1, (.c (.int .i64 3))))]) none), (MO.mk (some 12) (.faddr 3 (.t 1)) none), (MO.mk (some 13) (.load false 1 (.t 12)) none), (MO.mk (some 14) (.build [(.str (ByteArray.mk #[])), (.int .i64 0), (.int .i64 0), (.int .i64 0)] [(0, (1, (.c (.str (ByteArray.mk #[98, 97, 110, 100, 115]))))), (1, (1, (.t 13))), (2, (1, (.c (.int .i64 1)))), (3, (1, (.c (.int .i64 4))))]) none), (MO.mk (some 15) (.faddr 4 (.t 1)) none), (MO.mk (some 16) (.load false 1 (.t 15)) none), (MO.mk (some 17) (.build [(.str (ByteArray.mk #[])), (.int .i64 0), (.int .i64 0), (.int .i64 0)] [(0, (1, (.c (.str (ByteArray.mk #[112, 114, 111, 98, 101, 115]))))), (1, (1, (.t 16))), (2, (1, (.c (.int .i64 0)))), (3, (1, (.c (.int .i64 4))))]) none), (MO.mk (some 18) (.faddr 5 (.t 1)) none), (MO.mk (some 19) (.load false 1 (.t 18)) none), (MO.mk (some 20) (.build [(.str (ByteArray.mk #[])), (.int .i64 0), (.int .i64 0), (.int .i64 0)] [(0, (1, (.c (.str (ByteArray.mk #[102, 105, 108, 108, 115]))))), (1, (1, (.t 19))), (2, (1, (.c (.int .i64 1)))), (3, (1, (.c (.int .i64 4))))]) none), (MO.mk (some 21) (.faddr 6 (.t 1)) none), (MO.mk (some 22) (.load false 1 (.t 21)) none), (MO.mk (some 23) (.build [(.str (ByteArray.mk #[])), (.int .i64 0), (.int .i64 0), (.int .i64 0)] [(0, (1, (.c (.str (ByteArray.mk #[103, 101, 110, 115]))))), (1, (1, (.t 22))), (2, (1, (.c (.int .i64 1)))), (3, (1, (.c (.int .i64 15))))]) none), (MO.mk (some 24) (.bsl 4 7 [(.str (ByteArray.mk #[])), (.int .i64 0), (.int .i64 0), (.int .i64 0)] [(0, (4, (.t 5))), (4, (4, (.t 8))), (8, (4, (.t 11))), (12, (4, (.t 14))), (16, (4, (.t 17))), (20, (4, (.t 20))), (24, (4, (.t 23)))]) none), (MO.mk (some 2) (.mv (.t 24)) none)]
@[simp] theorem l55_1 : q55_1.length = 23 := rfl
def m55 : MCode := .seq (.reg q55_0) (.seq (.reg q55_1) .ret)
theorem rc55 : rcOf Try.prog Try.f55 = some m55 := by kernel_rfl
theorem rv55 : rRVs Try.prog Try.f55.results.toList = some [(.t 2)] := by kernel_rfl
theorem nm55 : (Try.f55.name == "runtime.NumGoroutine") = false := by kernel_rfl
def q56_0 : List MO := [(MO.mk (some 4) (.mv (.c (.raw .nilIface))) none)]
@[simp] theorem l56_0 : q56_0.length = 1 := rfl
def q56_1 : List MO := [(MO.mk (some 5) (.mv (.t 1)) none), (MO.mk (some 6) (.eq false .iface (.t 5) (.c (.raw .nilIface))) none)]
@[simp] theorem l56_1 : q56_1.length = 2 := rfl
def q56_2 : List MO := [(MO.mk (some 4) (.mv (.c (.raw .nilIface))) none)]
@[simp] theorem l56_2 : q56_2.length = 1 := rfl
def q56_3 : List MO := [(MO.mk (some 7) (.mv (.t 0)) none), (MO.mk (some 8) (.mv (.t 1)) none), (MO.mk (some 9) (.build [(.int .i64 0), (.raw .nilIface)] [(0, (1, (.t 7))), (1, (1, (.t 8)))]) none), (MO.mk (some 10) (.box (.t 9)) none), (MO.mk (some 11) (.mkif 150 (.t 10)) none), (MO.mk (some 4) (.mv (.t 11)) none)]
@[simp] theorem l56_3 : q56_3.length = 6 := rfl
def m56 : MCode := .seq (.reg q56_0) (.seq (.seq (.reg q56_1) (.cond (.t 6) (.seq (.reg q56_2) .ret) .skip)) (.seq (.reg q56_3) .ret))
theorem rc56 : rcOf Try.prog Try.f56 = some m56 := by kernel_rfl
theorem rv56 : rRVs Try.prog Try.f56.results.toList = some [(.t 4)] := by kernel_rfl
theorem nm56 : (Try.f56.name == "runtime.NumGoroutine") = false := by kernel_rfl
def q57_0 : List MO := [(MO.mk (some 4) (.mv (.c (.raw .nilIface))) none)]
@[simp] theorem l57_0 : q57_0.length = 1 := rfl
def q57_1 : List MO := [(MO.mk (some 5) (.mv (.t 1)) none), (MO.mk (some 6) (.eq false .iface (.t 5) (.c (.raw .nilIface))) none)]
@[simp] theorem l57_1 : q57_1.length = 2 := rfl
def q57_2 : List MO := [(MO.mk (some 4) (.mv (.c (.raw .nilIface))) none)]
@[simp] theorem l57_2 : q57_2.length = 1 := rfl
def q57_3 : List MO := [(MO.mk (some 7) (.mv (.t 0)) none), (MO.mk (some 8) (.mv (.t 1)) none), (MO.mk (some 9) (.build [(.str (ByteArray.mk #[])), (.raw .nilIface)] [(0, (1, (.t 7))), (1, (1, (.t 8)))]) none), (MO.mk (some 10) (.box (.t 9)) none), (MO.mk (some 11) (.mkif 153 (.t 10)) none), (MO.mk (some 4) (.mv (.t 11)) none)]
@[simp] theorem l57_3 : q57_3.length = 6 := rfl
def m57 : MCode := .seq (.reg q57_0) (.seq (.seq (.reg q57_1) (.cond (.t 6) (.seq (.reg q57_2) .ret) .skip)) (.seq (.reg q57_3) .ret))
theorem rc57 : rcOf Try.prog Try.f57 = some m57 := by kernel_rfl
theorem rv57 : rRVs Try.prog Try.f57.results.toList = some [(.t 4)] := by kernel_rfl
theorem nm57 : (Try.f57.name == "runtime.NumGoroutine") = false := by kernel_rfl
def q58_0 : List MO := [(MO.mk (some 6) (.mv (.c (.int .i64 0))) none)]
@[simp] theorem l58_0 : q58_0.length = 1 := rfl
def q58_1 : List MO := [(MO.mk (some 7) (.mv (.t 0)) none), (MO.mk (some 8) (.mv (.t 1)) none), (MO.mk (some 9) (.bin .lss (.t 7) (.t 8)) none)]
@[simp] theorem l58_1 : q58_1.length = 3 := rfl
def q58_2 : List MO := [(MO.mk (some 10) (.mv (.t 1)) none), (MO.mk (some 6) (.mv (.t 10)) none)]
@[simp] theorem l58_2 : q58_2.length = 2 := rfl
def q58_3 : List MO := [(MO.mk (some 11) (.mv (.t 0)) none), (MO.mk (some 12) (.mv (.t 2)) none), (MO.mk (some 13) (.bin .gtr (.t 11) (.t 12)) none)]
@[simp] theorem l58_3 : q58_3.length = 3 := rfl
def q58_4 : List MO := [(MO.mk (some 14) (.mv (.t 2)) none), (MO.mk (some 6) (.mv (.t 14)) none)]
@[simp] theorem l58_4 : q58_4.length = 2 := rfl
def q58_5 : List MO := [(MO.mk (some 15) (.mv (.t 0)) none), (MO.mk (some 6) (.mv (.t 15)) none)]
@[simp] theorem l58_5 : q58_5.length = 2 := rfl
def m58 : MCode := .seq (.reg q58_0) (.seq (.seq (.reg q58_1) (.cond (.t 9) (.seq (.reg q58_2) .ret) .skip)) (.seq (.seq (.reg q58_3) (.cond (.t 13) (.seq (.reg q58_4) .ret) .skip)) (.seq (.reg q58_5) .ret)))
theorem rc58 : rcOf Try.prog Try.f58 = some m58 := by kernel_rfl
theorem rv58 : rRVs Try.prog Try.f58.results.toList = some [(.t 6)] := by kernel_rfl
theorem nm58 : (Try.f58.name == "runtime.NumGoroutine") = false := by kernel_rfl
def q7_0 : List MO := [(MO.mk (some 5) (.box (.t 0)) none), (MO.mk (some 7) (.box (.t 2)) none), (MO.mk (some 10) (.mv (.c (.bool false))) none)]
@[simp] theorem l7_0 : q7_0.length = 3 := rfl
def q7_1 : List MO := [(MO.mk (some 16) (.load true 7 (.t 5)) none), (MO.mk (some 17) (.call (.c (.fn 26 [])) [(.t 16)]) none), (MO.mk (some 15) (.mv (.t 17)) none), (MO.mk (some 18) (.ext (.t 15) 0) none), (MO.mk (some 19) (.ext (.t 15) 1) none), (MO.mk (some 11) (.alloc [(.int .i64 0), (.int .i64 0), (.int .i64 0), (.int .i64 0), (.int .i64 0), (.int .i64 0), (.int .i64 0)]) none), (MO.mk none (.store 7 (.t 11) (.t 18)) none), (MO.mk (some 12) (.mv (.t 19)) none)]
@[simp] theorem l7_1 : q7_1.length = 8 := rfl
def q7_2 : List MO := [(MO.mk (some 20) (.load true 7 (.t 5)) none), (MO.mk (some 21) (.call (.c (.fn 27 [])) [(.t 20)]) none), (MO.mk (some 22) (.bin .geq (.t 21) (.c (.int .i64 0))) none), (MO.mk (some 23) (.mv (.t 22)) none), (MO.mk (some 24) (.load true 6 (.t 7)) (some (23, false))), (MO.mk (some 25) (.call (.c (.fn 28 [])) [(.t 24)]) (some (23, false))), (MO.mk (some 26) (.un .not (.t 25)) (some (23, false))), (MO.mk (some 27) (.pick (.t 23) (.c (.bool true)) (.t 26)) none), (MO.mk (some 28) (.mv (.t 27)) none), (MO.mk (some 29) (.mv (.t 3)) (some (28, false))), (MO.mk (some 30) (.bin .lss (.t 29) (.c (.int .i64 0))) (some (28, false))), (MO.mk (some 31) (.pick (.t 28) (.c (.bool true)) (.t 30)) none), (MO.mk (some 32) (.mv (.t 31)) none), (MO.mk (some 33) (.mv (.t 3)) (some (32, false))), (MO.mk (some 34) (.bin .gtr (.t 33) (.c (.int .i64 1048576))) (some (32, false))), (MO.mk (some 35) (.pick (.t 32) (.c (.bool true)) (.t 34)) none), (MO.mk (some 36) (.mv (.t 35)) none), (MO.mk (some 37) (.mv (.t 4)) (some (36, false))), (MO.mk (some 38) (.bin .lss (.t 37) (.c (.int .i64 0))) (some (36, false))), (MO.mk (some 39) (.pick (.t 36) (.c (.bool true)) (.t 38)) none), (MO.mk (some 40) (.mv (.t 39)) none), (MO.mk (some 41) (.mv (.t 4)) (some (40, false))), (MO.mk (some 42) (.bin .gtr (.t 41) (.c (.int .i64 1000000))) (some (40, false))), (MO.mk (some 43) (.pick (.t 40) (.c (.bool true)) (.t 42)) none)]
@[simp] theorem l7_2 : q7_2.length = 24 := rfl
def q7_3 : List MO := [(MO.mk (some 44) (.call (.c (.fn 14 [])) []) none), (MO.mk (some 45) (.mv (.t 44)) none), (MO.mk (some 46) (.mv (.t 12)) (some (45, true))), (MO.mk (some 47) (.eq false .iface (.t 46) (.c (.raw .nilIface))) (some (45, true))), (MO.mk (some 48) (.load true 7 (.t 5)) (some (45, true))), (MO.mk (some 49) (.call (.c (.fn 27 [])) [(.t 48)]) (some (45, true))), (MO.mk (some 50) (.bin .lss (.t 49) (.c (.int .i64 0))) (some (45, true))), (MO.mk (some 51) (.eq false .bool (.t 47) (.t 50)) (some (45, true))), (MO.mk (some 52) (.pick (.t 45) (.t 51) (.c (.bool false))) none), (MO.mk (some 10) (.mv (.t 52)) none)]
@[simp] theorem l7_3 : q7_3.length = 10 := rfl
def p7_3 : List (List Nat) := [[], [0, 0], [1], [2, 1], [1], [4, 1, 1], [5, 1], [3, 6, 1], [1, 7], [8, 5, 0, 1, 2, 3, 4, 5, 6, 7, 8]]
def c7_3 : List (List Nat) := [[], [0], [0, 1], [0, 1, 2], [0, 1], [0, 1, 4], [0, 1, 4, 5], [0, 1, 2, 3, 4, 5, 6], [0, 1, 2, 3, 4, 5, 6, 7], [0, 1, 2, 3, 4, 5, 6, 7, 8]]
def q7_4 : List MO := [(MO.mk (some 53) (.mv (.t 1)) none), (MO.mk (some 54) (.call (.c (.fn 15 [])) [(.t 53)]) none), (MO.mk (some 55) (.mv (.t 1)) none), (MO.mk (some 56) (.build [(.int .u64 0)] [(0, (1, (.t 55)))]) none), (MO.mk (some 57) (.box (.t 56)) none), (MO.mk (some 13) (.mv (.t 54)) none), (MO.mk (some 14) (.mv (.t 57)) none)]
@[simp] theorem l7_4 : q7_4.length = 7 := rfl
def q7_5 : List MO := [(MO.mk (some 58) (.mv (.c (.int .i64 0))) none)]
@[simp] theorem l7_5 : q7_5.length = 1 := rfl
def q7_6 : List MO := [(MO.mk (some 59) (.bin .lss (.t 58) (.c (.int .i64 5))) none)]
@[simp] theorem l7_6 : q7_6.length = 1 := rfl
def q7_7 : List MO := [(MO.mk (some 60) (.load true 7 (.t 11)) none), (MO.mk (some 61) (.mv (.t 13)) none), (MO.mk (some 62) (.load true 6 (.t 7)) none), (MO.mk (some 63) (.mv (.t 3)) none), (MO.mk (some 64) (.mv (.t 4)) none), (MO.mk (some 65) (.call (.c (.fn 30 [])) [(.t 60), (.t 61), (.t 62), (.t 63), (.t 64)]) none), (MO.mk (some 66) (.call (.c (.fn 29 [])) [(.t 65)]) none), (MO.mk (some 67) (.load true 7 (.t 5)) none), (MO.mk (some 68) (.mv (.t 14)) none), (MO.mk (some 69) (.load true 6 (.t 7)) none), (MO.mk (some 70) (.mv (.t 3)) none), (MO.mk (some 71) (.mv (.t 4)) none), (MO.mk (some 72) (.call (.c (.fn 31 [])) [(.t 67), (.t 68), (.t 69), (.t 70), (.t 71)]) none), (MO.mk (some 73) (.eq true (.flat [.i, .i, .i, .i, .i, .i, .i, .i, .i]) (.t 66) (.t 72)) none)]
@[simp] theorem l7_7 : q7_7.length = 14 := rfl
def p7_7 : List (List Nat) := [[], [], [], [], [], [0, 1, 2, 3, 4], [5, 5], [], [], [], [], [], [7, 8, 9, 10, 11, 6], [6, 12]]
def c7_7 : List (List Nat) := [[], [], [], [], [], [0, 1, 2, 3, 4], [0, 1, 2, 3, 4, 5], [], [], [], [], [], [0, 1, 2, 3, 4, 5, 6, 7, 8, 9, 10, 11], [0, 1, 2, 3, 4, 5, 6, 7, 8, 9, 10, 11, 12]]
def q7_8 : List MO := [(MO.mk (some 10) (.mv (.c (.bool false))) none)]
@[simp] theorem l7_8 : q7_8.length = 1 := rfl
def q7_9 : List MO := [(MO.mk (some 74) (.bin .add (.t 58) (.c (.int .i64 1))) none), (MO.mk (some 58) (.mv (.t 74)) none)]
@[simp] theorem l7_9 : q7_9.length = 2 := rfl
def q7_10 : List MO := [(MO.mk (some 75) (.call (.c (.fn 14 [])) []) none), (MO.mk (some 76) (.mv (.t 75)) none), (MO.mk (some 77) (.mv (.t 13)) (some (76, true))), (MO.mk (some 78) (.call (.c (.fn 16 [])) [(.t 77), (.c (.int .i64 1000))]) (some (76, true))), (MO.mk (some 79) (.mv (.t 14)) (some (76, true))), (MO.mk (some 80) (.call (.c (.fn 17 [])) [(.t 79), (.c (.int .i64 1000))]) (some (76, true))), (MO.mk (some 81) (.bin .eql (.t 78) (.t 80)) (some (76, true))), (MO.mk (some 82) (.pick (.t 76) (.t 81) (.c (.bool false))) none), (MO.mk (some 10) (.mv (.t 82)) none)]
@[simp] theorem l7_10 : q7_10.length = 9 := rfl
def m7 : MCode := .seq (.reg q7_0) (.seq (.reg q7_1) (.seq (.seq (.reg q7_2) (.cond (.t 43) (.seq (.draw q7_3 p7_3) .ret) .skip)) (.seq (.reg q7_4) (.seq (.seq (.reg q7_5) (.block 0 (.loop (.seq (.reg q7_6) (.seq (.cond (.t 59) .skip (.exit 0)) (.seq (.block 1 (.seq (.draw q7_7 p7_7) (.cond (.t 73) (.seq (.reg q7_8) .ret) .skip))) (.reg q7_9))))))) (.seq (.reg q7_10) .ret)))))
theorem rc7 : rcOf Try.prog Try.f7 = some m7 := by kernel_rfl
theorem rv7 : rRVs Try.prog Try.f7.results.toList = some [(.t 10)] := by kernel_rfl
theorem nm7 : (Try.f7.name == "runtime.NumGoroutine") = false := by kernel_rfl
def q67_0 : List MO := [(MO.mk (some 1) (.box (.t 0)) none), (MO.mk (some 2) (.mv (.c (.int .i64 0))) none)]
@[simp] theorem l67_0 : q67_0.length = 2 := rfl
def q67_1 : List MO := [(MO.mk (some 3) (.faddr 0 (.t 1)) none), (MO.mk (some 4) (.faddr 0 (.t 3)) none), (MO.mk (some 5) (.load false 1 (.t 4)) none), (MO.mk (some 6) (.faddr 0 (.t 1)) none), (MO.mk (some 7) (.faddr 1 (.t 6)) none), (MO.mk (some 8) (.load false 1 (.t 7)) none), (MO.mk (some 9) (.bin .mul (.t 5) (.t 8)) none), (MO.mk (some 2) (.mv (.t 9)) none)]
@[simp] theorem l67_1 : q67_1.length = 8 := rfl
def m67 : MCode := .seq (.reg q67_0) (.seq (.reg q67_1) .ret)
theorem rc67 : rcOf Try.prog Try.f67 = some m67 := by kernel_rfl
theorem rv67 : rRVs Try.prog Try.f67.results.toList = some [(.t 2)] := by kernel_rfl
theorem nm67 : (Try.f67.name == "runtime.NumGoroutine") = false := by kernel_rfl
def q84_0 : List MO := [(MO.mk (some 1) (.box (.t 0)) none), (MO.mk (some 2) (.mv (.c (.int .i64 0))) none)]
@[simp] theorem l84_0 : q84_0.length = 2 := rfl
def q84_1 : List MO := [(MO.mk (some 3) (.faddr 0 (.t 1)) none), (MO.mk (some 4) (.faddr 2 (.t 3)) none), (MO.mk (some 5) (.load false 1 (.t 4)) none), (MO.mk (some 6) (.faddr 0 (.t 1)) none), (MO.mk (some 7) (.faddr 3 (.t 6)) none), (MO.mk (some 8) (.load false 1 (.t 7)) none), (MO.mk (some 9) (.bin .mul (.t 5) (.t 8)) none), (MO.mk (some 2) (.mv (.t 9)) none)]
@[simp] theorem l84_1 : q84_1.length = 8 := rfl
def m84 : MCode := .seq (.reg q84_0) (.seq (.reg q84_1) .ret)
theorem rc84 : rcOf Try.prog Try.f84 = some m84 := by kernel_rfl
theorem rv84 : rRVs Try.prog Try.f84.results.toList = some [(.t 2)] := by kernel_rfl
theorem nm84 : (Try.f84.name == "runtime.NumGoroutine") = false := by kernel_rfl
end Go.W
