/- The resolved code of the functions, by a program. -/
import Derived.Test.YthehmmodkhoieaaChecked
import Derived.Test.YthehmmodkhoieaaVcS
namespace Go.Vc
open Go.Proofs
set_option maxRecDepth 100000
theorem mixT : Try.prog.follows .mixedOrders = true := Try.checked.mixed
def q80_0 : List MO := [(MO.mk (some 4) (.mv (.c (.int .i64 0))) none)]
@[simp] theorem l80_0 : q80_0.length = 1 := rfl
def q80_1 : List MO := [(MO.mk (some 5) (.mv (.t 1)) none), (MO.mk (some 6) (.mv (.t 0)) none), (MO.mk (some 7) (.bin .lss (.t 5) (.t 6)) none), (MO.mk (some 8) (.mv (.t 7)) none), (MO.mk (some 9) (.mv (.t 0)) (some (8, true))), (MO.mk (some 10) (.mv (.t 1)) (some (8, true))), (MO.mk (some 11) (.bin .sub (.t 9) (.t 10)) (some (8, true))), (MO.mk (some 12) (.bin .rem (.t 11) (.c (.int .i64 2))) (some (8, true))), (MO.mk (some 13) (.bin .eql (.t 12) (.c (.int .i64 1))) (some (8, true))), (MO.mk (some 14) (.pick (.t 8) (.t 13) (.c (.bool false))) none)]
@[simp] theorem l80_1 : q80_1.length = 10 := rfl
def q80_2 : List MO := [(MO.mk (some 4) (.mv (.c (.int .i64 1))) none)]
@[simp] theorem l80_2 : q80_2.length = 1 := rfl
def q80_3 : List MO := [(MO.mk (some 4) (.mv (.c (.int .i64 0))) none)]
@[simp] theorem l80_3 : q80_3.length = 1 := rfl
def m80 : MCode := .seq (.reg q80_0) (.seq (.seq (.reg q80_1) (.cond (.t 14) (.seq (.reg q80_2) .ret) .skip)) (.seq (.reg q80_3) .ret))
theorem rc80 : rcOf Try.prog Try.f80 = some m80 := by kernel_rfl
theorem rv80 : rRVs Try.prog Try.f80.results.toList = some [(.t 4)] := by kernel_rfl
theorem nm80 : (Try.f80.name == "runtime.NumGoroutine") = false := by kernel_rfl
def q54_0 : List MO := [(MO.mk (some 4) (.mv (.c (.int .i64 0))) none)]
@[simp] theorem l54_0 : q54_0.length = 1 := rfl
def q54_1 : List MO := [(MO.mk (some 5) (.mv (.t 0)) none), (MO.mk (some 6) (.mv (.t 1)) none), (MO.mk (some 7) (.mv (.t 0)) none), (MO.mk (some 8) (.bin .sub (.t 6) (.t 7)) none), (MO.mk (some 9) (.bin .quo (.t 8) (.c (.int .i64 2))) none), (MO.mk (some 10) (.bin .add (.t 5) (.t 9)) none), (MO.mk (some 11) (.mv (.t 0)) none), (MO.mk (some 12) (.mv (.t 1)) none), (MO.mk (some 13) (.call (.c (.fn 80 [])) [(.t 11), (.t 12)]) none), (MO.mk (some 14) (.bin .sub (.t 10) (.t 13)) none), (MO.mk (some 4) (.mv (.t 14)) none)]
@[simp] theorem l54_1 : q54_1.length = 11 := rfl
def m54 : MCode := .seq (.reg q54_0) (.seq (.reg q54_1) .ret)
theorem rc54 : rcOf Try.prog Try.f54 = some m54 := by kernel_rfl
theorem rv54 : rRVs Try.prog Try.f54.results.toList = some [(.t 4)] := by kernel_rfl
theorem nm54 : (Try.f54.name == "runtime.NumGoroutine") = false := by kernel_rfl
def q22_0 : List MO := [(MO.mk (some 4) (.box (.t 0)) none), (MO.mk (some 5) (.box (.t 1)) none), (MO.mk (some 8) (.alloc [(.int .i64 0), (.int .i64 0)]) none)]
@[simp] theorem l22_0 : q22_0.length = 3 := rfl
def q22_1 : List MO := [(MO.mk (some 12) (.load true 5 (.t 4)) none), (MO.mk (some 13) (.load true 5 (.t 5)) none), (MO.mk (some 9) (.alloc [(.int .i64 0), (.int .i64 0), (.int .i64 0), (.int .i64 0), (.int .i64 0)]) none), (MO.mk (some 10) (.alloc [(.int .i64 0), (.int .i64 0), (.int .i64 0), (.int .i64 0), (.int .i64 0)]) none), (MO.mk none (.store 5 (.t 9) (.t 12)) none), (MO.mk none (.store 5 (.t 10) (.t 13)) none)]
@[simp] theorem l22_1 : q22_1.length = 6 := rfl
def p22_1 : List (List Nat) := [[], [], [], [], [2, 0, 0, 2, 3], [3, 1, 4, 0, 1, 2, 3, 4]]
def q22_2 : List MO := [(MO.mk (some 14) (.faddr 1 (.t 4)) none), (MO.mk (some 15) (.load false 1 (.t 14)) none), (MO.mk (some 16) (.bin .eql (.t 15) (.c (.int .i64 1))) none)]
@[simp] theorem l22_2 : q22_2.length = 3 := rfl
def q22_3 : List MO := [(MO.mk (some 17) (.load true 5 (.t 5)) none), (MO.mk (some 18) (.load true 5 (.t 4)) none), (MO.mk none (.store 5 (.t 9) (.t 17)) none), (MO.mk none (.store 5 (.t 10) (.t 18)) none)]
@[simp] theorem l22_3 : q22_3.length = 4 := rfl
def p22_3 : List (List Nat) := [[], [], [0, 0], [1, 2, 0, 1, 2]]
def q22_4 : List MO := [(MO.mk (some 19) (.faddr 1 (.t 9)) none), (MO.mk (some 20) (.load false 1 (.t 19)) none), (MO.mk (some 21) (.bin .neq (.t 20) (.c (.int .i64 0))) none), (MO.mk (some 22) (.mv (.t 21)) none), (MO.mk (some 23) (.faddr 1 (.t 10)) (some (22, false))), (MO.mk (some 24) (.load false 1 (.t 23)) (some (22, false))), (MO.mk (some 25) (.bin .neq (.t 24) (.c (.int .i64 1))) (some (22, false))), (MO.mk (some 26) (.pick (.t 22) (.c (.bool true)) (.t 25)) none), (MO.mk (some 27) (.mv (.t 26)) none), (MO.mk (some 28) (.faddr 0 (.t 4)) (some (27, false))), (MO.mk (some 29) (.load false 1 (.t 28)) (some (27, false))), (MO.mk (some 30) (.faddr 0 (.t 5)) (some (27, false))), (MO.mk (some 31) (.load false 1 (.t 30)) (some (27, false))), (MO.mk (some 32) (.bin .neq (.t 29) (.t 31)) (some (27, false))), (MO.mk (some 33) (.pick (.t 27) (.c (.bool true)) (.t 32)) none)]
@[simp] theorem l22_4 : q22_4.length = 15 := rfl
def q22_5 : List MO := [(MO.mk (some 34) (.build [(.int .i64 0), (.int .i64 0)] []) none), (MO.mk none (.store 2 (.t 8) (.t 34)) none)]
@[simp] theorem l22_5 : q22_5.length = 2 := rfl
def q22_6 : List MO := [(MO.mk (some 35) (.mv (.t 2)) none), (MO.mk (some 36) (.mv (.t 3)) none), (MO.mk (some 37) (.mn [(.t 35), (.t 36)]) none), (MO.mk (some 11) (.mv (.t 37)) none)]
@[simp] theorem l22_6 : q22_6.length = 4 := rfl
def q22_7 : List MO := [(MO.mk (some 38) (.faddr 2 (.t 9)) none), (MO.mk (some 39) (.load false 1 (.t 38)) none), (MO.mk (some 40) (.faddr 2 (.t 10)) none), (MO.mk (some 41) (.load false 1 (.t 40)) none), (MO.mk (some 42) (.bin .lss (.t 39) (.t 41)) none), (MO.mk (some 43) (.mv (.t 42)) none), (MO.mk (some 44) (.mv (.t 11)) (some (43, false))), (MO.mk (some 45) (.bin .lss (.t 44) (.c (.int .i64 1))) (some (43, false))), (MO.mk (some 46) (.pick (.t 43) (.c (.bool true)) (.t 45)) none), (MO.mk (some 47) (.mv (.t 46)) none), (MO.mk (some 48) (.mv (.t 11)) (some (47, false))), (MO.mk (some 49) (.faddr 3 (.t 4)) (some (47, false))), (MO.mk (some 50) (.load false 1 (.t 49)) (some (47, false))), (MO.mk (some 51) (.faddr 3 (.t 5)) (some (47, false))), (MO.mk (some 52) (.load false 1 (.t 51)) (some (47, false))), (MO.mk (some 53) (.mx [(.t 50), (.t 52)]) (some (47, false))), (MO.mk (some 54) (.bin .lss (.t 48) (.t 53)) (some (47, false))), (MO.mk (some 55) (.pick (.t 47) (.c (.bool true)) (.t 54)) none)]
@[simp] theorem l22_7 : q22_7.length = 18 := rfl
def q22_8 : List MO := [(MO.mk (some 56) (.build [(.int .i64 0), (.int .i64 0)] []) none), (MO.mk none (.store 2 (.t 8) (.t 56)) none)]
@[simp] theorem l22_8 : q22_8.length = 2 := rfl
def q22_9 : List MO := [(MO.mk (some 57) (.mv (.t 11)) none), (MO.mk (some 58) (.faddr 2 (.t 10)) none), (MO.mk (some 59) (.load false 1 (.t 58)) none), (MO.mk (some 60) (.faddr 2 (.t 9)) none), (MO.mk (some 61) (.load false 1 (.t 60)) none), (MO.mk (some 62) (.call (.c (.fn 54 [])) [(.t 59), (.t 61)]) none), (MO.mk (some 63) (.build [(.int .i64 0), (.int .i64 0)] [(0, (1, (.t 57))), (1, (1, (.t 62)))]) none), (MO.mk none (.store 2 (.t 8) (.t 63)) none)]
@[simp] theorem l22_9 : q22_9.length = 8 := rfl
def m22 : MCode := .seq (.reg q22_0) (.seq (.draw q22_1 p22_1) (.seq (.seq (.reg q22_2) (.cond (.t 16) (.draw q22_3 p22_3) .skip)) (.seq (.seq (.reg q22_4) (.cond (.t 33) (.seq (.reg q22_5) .ret) .skip)) (.seq (.reg q22_6) (.seq (.seq (.reg q22_7) (.cond (.t 55) (.seq (.reg q22_8) .ret) .skip)) (.seq (.reg q22_9) .ret))))))
theorem rc22 : rcOf Try.prog Try.f22 = some m22 := by kernel_rfl
theorem rv22 : rRVs Try.prog Try.f22.results.toList = some [(.c true 2 8)] := by kernel_rfl
theorem nm22 : (Try.f22.name == "runtime.NumGoroutine") = false := by kernel_rfl
def q23_0 : List MO := [(MO.mk (some 4) (.box (.t 0)) none), (MO.mk (some 5) (.box (.t 1)) none), (MO.mk (some 8) (.mv (.c (.int .i64 0))) none), (MO.mk (some 9) (.mv (.c (.int .i64 0))) none)]
@[simp] theorem l23_0 : q23_0.length = 4 := rfl
def q23_1 : List MO := [(MO.mk (some 11) (.faddr 1 (.t 4)) none), (MO.mk (some 12) (.load false 1 (.t 11)) none), (MO.mk (some 13) (.bin .eql (.t 12) (.c (.int .i64 1))) none)]
@[simp] theorem l23_1 : q23_1.length = 3 := rfl
def q23_2 : List MO := [(MO.mk (some 14) (.load true 5 (.t 5)) none), (MO.mk (some 15) (.load true 5 (.t 4)) none), (MO.mk none (.store 5 (.t 4) (.t 14)) none), (MO.mk none (.store 5 (.t 5) (.t 15)) none)]
@[simp] theorem l23_2 : q23_2.length = 4 := rfl
def q23_3 : List MO := [(MO.mk (some 16) (.mv (.t 3)) none), (MO.mk (some 17) (.mv (.t 2)) none), (MO.mk (some 2) (.mv (.t 16)) none), (MO.mk (some 3) (.mv (.t 17)) none)]
@[simp] theorem l23_3 : q23_3.length = 4 := rfl
def q23_4 : List MO := [(MO.mk (some 18) (.faddr 1 (.t 4)) none), (MO.mk (some 19) (.load false 1 (.t 18)) none), (MO.mk (some 20) (.bin .neq (.t 19) (.c (.int .i64 0))) none), (MO.mk (some 21) (.mv (.t 20)) none), (MO.mk (some 22) (.faddr 1 (.t 5)) (some (21, false))), (MO.mk (some 23) (.load false 1 (.t 22)) (some (21, false))), (MO.mk (some 24) (.bin .neq (.t 23) (.c (.int .i64 1))) (some (21, false))), (MO.mk (some 25) (.pick (.t 21) (.c (.bool true)) (.t 24)) none), (MO.mk (some 26) (.mv (.t 25)) none), (MO.mk (some 27) (.faddr 0 (.t 4)) (some (26, false))), (MO.mk (some 28) (.load false 1 (.t 27)) (some (26, false))), (MO.mk (some 29) (.faddr 0 (.t 5)) (some (26, false))), (MO.mk (some 30) (.load false 1 (.t 29)) (some (26, false))), (MO.mk (some 31) (.bin .neq (.t 28) (.t 30)) (some (26, false))), (MO.mk (some 32) (.pick (.t 26) (.c (.bool true)) (.t 31)) none), (MO.mk (some 33) (.mv (.t 32)) none), (MO.mk (some 34) (.faddr 2 (.t 4)) (some (33, false))), (MO.mk (some 35) (.load false 1 (.t 34)) (some (33, false))), (MO.mk (some 36) (.faddr 2 (.t 5)) (some (33, false))), (MO.mk (some 37) (.load false 1 (.t 36)) (some (33, false))), (MO.mk (some 38) (.bin .lss (.t 35) (.t 37)) (some (33, false))), (MO.mk (some 39) (.pick (.t 33) (.c (.bool true)) (.t 38)) none)]
@[simp] theorem l23_4 : q23_4.length = 22 := rfl
def q23_5 : List MO := [(MO.mk (some 8) (.mv (.c (.int .i64 0))) none), (MO.mk (some 9) (.mv (.c (.int .i64 0))) none)]
@[simp] theorem l23_5 : q23_5.length = 2 := rfl
def q23_6 : List MO := [(MO.mk (some 40) (.mv (.t 2)) none), (MO.mk (some 10) (.mv (.t 40)) none)]
@[simp] theorem l23_6 : q23_6.length = 2 := rfl
def q23_7 : List MO := [(MO.mk (some 41) (.mv (.t 3)) none), (MO.mk (some 42) (.mv (.t 10)) none), (MO.mk (some 43) (.bin .lss (.t 41) (.t 42)) none)]
@[simp] theorem l23_7 : q23_7.length = 3 := rfl
def q23_8 : List MO := [(MO.mk (some 44) (.mv (.t 3)) none), (MO.mk (some 10) (.mv (.t 44)) none)]
@[simp] theorem l23_8 : q23_8.length = 2 := rfl
def q23_9 : List MO := [(MO.mk (some 45) (.mv (.t 10)) none), (MO.mk (some 46) (.bin .lss (.t 45) (.c (.int .i64 1))) none), (MO.mk (some 47) (.mv (.t 46)) none), (MO.mk (some 48) (.mv (.t 10)) (some (47, false))), (MO.mk (some 49) (.faddr 3 (.t 4)) (some (47, false))), (MO.mk (some 50) (.load false 1 (.t 49)) (some (47, false))), (MO.mk (some 51) (.bin .lss (.t 48) (.t 50)) (some (47, false))), (MO.mk (some 52) (.pick (.t 47) (.c (.bool true)) (.t 51)) none), (MO.mk (some 53) (.mv (.t 52)) none), (MO.mk (some 54) (.mv (.t 10)) (some (53, false))), (MO.mk (some 55) (.faddr 3 (.t 5)) (some (53, false))), (MO.mk (some 56) (.load false 1 (.t 55)) (some (53, false))), (MO.mk (some 57) (.bin .lss (.t 54) (.t 56)) (some (53, false))), (MO.mk (some 58) (.pick (.t 53) (.c (.bool true)) (.t 57)) none)]
@[simp] theorem l23_9 : q23_9.length = 14 := rfl
def q23_10 : List MO := [(MO.mk (some 8) (.mv (.c (.int .i64 0))) none), (MO.mk (some 9) (.mv (.c (.int .i64 0))) none)]
@[simp] theorem l23_10 : q23_10.length = 2 := rfl
def q23_11 : List MO := [(MO.mk (some 59) (.mv (.t 10)) none), (MO.mk (some 60) (.faddr 2 (.t 4)) none), (MO.mk (some 61) (.load false 1 (.t 60)) none), (MO.mk (some 62) (.faddr 2 (.t 5)) none), (MO.mk (some 63) (.load false 1 (.t 62)) none), (MO.mk (some 64) (.bin .add (.t 61) (.t 63)) none), (MO.mk (some 65) (.bin .quo (.t 64) (.c (.int .i64 2))) none), (MO.mk (some 8) (.mv (.t 59)) none), (MO.mk (some 9) (.mv (.t 65)) none)]
@[simp] theorem l23_11 : q23_11.length = 9 := rfl
def p23_11 : List (List Nat) := [[], [], [1], [], [3], [2, 4], [5], [0, 0], [6, 7, 0, 1, 2, 3, 4, 5, 6, 7]]
def m23 : MCode := .seq (.reg q23_0) (.seq (.seq (.reg q23_1) (.cond (.t 13) (.seq (.reg q23_2) (.reg q23_3)) .skip)) (.seq (.seq (.reg q23_4) (.cond (.t 39) (.seq (.reg q23_5) .ret) .skip)) (.seq (.reg q23_6) (.seq (.seq (.reg q23_7) (.cond (.t 43) (.reg q23_8) .skip)) (.seq (.seq (.reg q23_9) (.cond (.t 58) (.seq (.reg q23_10) .ret) .skip)) (.seq (.draw q23_11 p23_11) .ret))))))
theorem rc23 : rcOf Try.prog Try.f23 = some m23 := by kernel_rfl
theorem rv23 : rRVs Try.prog Try.f23.results.toList = some [(.t 8), (.t 9)] := by kernel_rfl
theorem nm23 : (Try.f23.name == "runtime.NumGoroutine") = false := by kernel_rfl
def q24_0 : List MO := [(MO.mk (some 6) (.mv (.c (.bool false))) none)]
@[simp] theorem l24_0 : q24_0.length = 1 := rfl
def q24_1 : List MO := [(MO.mk (some 7) (.mv (.t 0)) none), (MO.mk (some 8) (.bin .eql (.t 7) (.c (.int .i64 0))) none)]
@[simp] theorem l24_1 : q24_1.length = 2 := rfl
def q24_2 : List MO := [(MO.mk (some 9) (.mv (.t 1)) none), (MO.mk (some 10) (.mv (.t 2)) none), (MO.mk (some 11) (.bin .gtr (.t 9) (.t 10)) none), (MO.mk (some 6) (.mv (.t 11)) none)]
@[simp] theorem l24_2 : q24_2.length = 4 := rfl
def q24_3 : List MO := [(MO.mk (some 12) (.mv (.t 1)) none), (MO.mk (some 13) (.mv (.t 2)) none), (MO.mk (some 14) (.bin .lss (.t 12) (.t 13)) none), (MO.mk (some 6) (.mv (.t 14)) none)]
@[simp] theorem l24_3 : q24_3.length = 4 := rfl
def m24 : MCode := .seq (.reg q24_0) (.seq (.seq (.reg q24_1) (.cond (.t 8) (.seq (.reg q24_2) .ret) .skip)) (.seq (.reg q24_3) .ret))
theorem rc24 : rcOf Try.prog Try.f24 = some m24 := by kernel_rfl
theorem rv24 : rRVs Try.prog Try.f24.results.toList = some [(.t 6)] := by kernel_rfl
theorem nm24 : (Try.f24.name == "runtime.NumGoroutine") = false := by kernel_rfl
def q25_0 : List MO := [(MO.mk (some 2) (.mv (.c (.str (ByteArray.mk #[])))) none)]
@[simp] theorem l25_0 : q25_0.length = 1 := rfl
def q25_1 : List MO := [(MO.mk (some 3) (.mv (.t 0)) none)]
@[simp] theorem l25_1 : q25_1.length = 1 := rfl
def q25_2 : List MO := [(MO.mk (some 5) (.bin .eql (.t 3) (.c (.int .i64 0))) none), (MO.mk (some 4) (.mv (.t 5)) none)]
@[simp] theorem l25_2 : q25_2.length = 2 := rfl
def q25_3 : List MO := [(MO.mk (some 2) (.mv (.c (.str (ByteArray.mk #[98, 117, 121])))) none)]
@[simp] theorem l25_3 : q25_3.length = 1 := rfl
def q25_4 : List MO := [(MO.mk (some 7) (.bin .eql (.t 3) (.c (.int .i64 1))) none), (MO.mk (some 6) (.mv (.t 7)) none)]
@[simp] theorem l25_4 : q25_4.length = 2 := rfl
def q25_5 : List MO := [(MO.mk (some 2) (.mv (.c (.str (ByteArray.mk #[115, 101, 108, 108])))) none)]
@[simp] theorem l25_5 : q25_5.length = 1 := rfl
def q25_6 : List MO := [(MO.mk (some 2) (.mv (.c (.str (ByteArray.mk #[63])))) none)]
@[simp] theorem l25_6 : q25_6.length = 1 := rfl
def m25 : MCode := .seq (.reg q25_0) (.seq (.seq (.reg q25_1) (.block 0 (.seq (.reg q25_2) (.cond (.t 4) (.seq (.reg q25_3) .ret) (.seq (.reg q25_4) (.cond (.t 6) (.seq (.reg q25_5) .ret) .skip)))))) (.seq (.reg q25_6) .ret))
theorem rc25 : rcOf Try.prog Try.f25 = some m25 := by kernel_rfl
theorem rv25 : rRVs Try.prog Try.f25.results.toList = some [(.t 2)] := by kernel_rfl
theorem nm25 : (Try.f25.name == "runtime.NumGoroutine") = false := by kernel_rfl
def q20_0 : List MO := [(MO.mk (some 2) (.mv (.c (.bool false))) none)]
@[simp] theorem l20_0 : q20_0.length = 1 := rfl
def q20_1 : List MO := [(MO.mk (some 5) (.mv (.t 0)) none), (MO.mk (some 6) (.len (.t 5)) none), (MO.mk (some 7) (.mv (.c (.int .i64 0))) none)]
@[simp] theorem l20_1 : q20_1.length = 3 := rfl
def q20_2 : List MO := [(MO.mk (some 8) (.bin .lss (.t 7) (.t 6)) none)]
@[simp] theorem l20_2 : q20_2.length = 1 := rfl
def q20_3 : List MO := [(MO.mk (some 9) (.iaddr 5 (.t 5) (.t 7)) none), (MO.mk (some 10) (.load true 5 (.t 9)) none), (MO.mk (some 4) (.alloc [(.int .i64 0), (.int .i64 0), (.int .i64 0), (.int .i64 0), (.int .i64 0)]) none), (MO.mk none (.store 5 (.t 4) (.t 10)) none)]
@[simp] theorem l20_3 : q20_3.length = 4 := rfl
def q20_4 : List MO := [(MO.mk (some 11) (.faddr 2 (.t 4)) none), (MO.mk (some 12) (.load false 1 (.t 11)) none), (MO.mk (some 13) (.bin .lss (.t 12) (.c (.int .i64 1))) none), (MO.mk (some 14) (.mv (.t 13)) none), (MO.mk (some 15) (.faddr 2 (.t 4)) (some (14, false))), (MO.mk (some 16) (.load false 1 (.t 15)) (some (14, false))), (MO.mk (some 17) (.bin .gtr (.t 16) (.c (.int .i64 9999))) (some (14, false))), (MO.mk (some 18) (.pick (.t 14) (.c (.bool true)) (.t 17)) none)]
@[simp] theorem l20_4 : q20_4.length = 8 := rfl
def q20_5 : List MO := [(MO.mk (some 2) (.mv (.c (.bool false))) none)]
@[simp] theorem l20_5 : q20_5.length = 1 := rfl
def q20_6 : List MO := [(MO.mk (some 19) (.bin .add (.t 7) (.c (.int .i64 1))) none), (MO.mk (some 7) (.mv (.t 19)) none)]
@[simp] theorem l20_6 : q20_6.length = 2 := rfl
def q20_7 : List MO := [(MO.mk (some 2) (.mv (.c (.bool true))) none)]
@[simp] theorem l20_7 : q20_7.length = 1 := rfl
def m20 : MCode := .seq (.reg q20_0) (.seq (.seq (.reg q20_1) (.block 0 (.loop (.seq (.reg q20_2) (.seq (.cond (.t 8) .skip (.exit 0)) (.seq (.block 1 (.seq (.reg q20_3) (.seq (.reg q20_4) (.cond (.t 18) (.seq (.reg q20_5) .ret) .skip)))) (.reg q20_6))))))) (.seq (.reg q20_7) .ret))
theorem rc20 : rcOf Try.prog Try.f20 = some m20 := by kernel_rfl
theorem rv20 : rRVs Try.prog Try.f20.results.toList = some [(.t 2)] := by kernel_rfl
theorem nm20 : (Try.f20.name == "runtime.NumGoroutine") = false := by kernel_rfl
def q21_0 : List MO := [(MO.mk (some 0) (.mv (.c (.bool false))) none)]
@[simp] theorem l21_0 : q21_0.length = 1 := rfl
def q21_1 : List MO := [(MO.mk (some 3) (.build [(.int .i64 0), (.int .i64 0), (.int .i64 0), (.int .i64 0), (.int .i64 0)] [(1, (1, (.c (.int .i64 0)))), (2, (1, (.c (.int .i64 10)))), (3, (1, (.c (.int .i64 2)))), (4, (1, (.c (.int .i64 9))))]) none), (MO.mk (some 1) (.alloc [(.int .i64 0), (.int .i64 0), (.int .i64 0), (.int .i64 0), (.int .i64 0)]) none), (MO.mk none (.store 5 (.t 1) (.t 3)) none)]
@[simp] theorem l21_1 : q21_1.length = 3 := rfl
def q21_2 : List MO := [(MO.mk (some 4) (.build [(.int .i64 0), (.int .i64 0), (.int .i64 0), (.int .i64 0), (.int .i64 0)] [(1, (1, (.c (.int .i64 1)))), (2, (1, (.c (.int .i64 7)))), (3, (1, (.c (.int .i64 1)))), (4, (1, (.c (.int .i64 9))))]) none), (MO.mk (some 2) (.alloc [(.int .i64 0), (.int .i64 0), (.int .i64 0), (.int .i64 0), (.int .i64 0)]) none), (MO.mk none (.store 5 (.t 2) (.t 4)) none)]
@[simp] theorem l21_2 : q21_2.length = 3 := rfl
def q21_3 : List MO := [(MO.mk (some 5) (.load true 5 (.t 1)) none), (MO.mk (some 6) (.load true 5 (.t 2)) none), (MO.mk (some 7) (.call (.c (.fn 22 [])) [(.t 5), (.t 6), (.c (.int .i64 5)), (.c (.int .i64 3))]) none), (MO.mk (some 8) (.build [(.int .i64 0), (.int .i64 0)] [(0, (1, (.c (.int .i64 3)))), (1, (1, (.c (.int .i64 8))))]) none), (MO.mk (some 9) (.eq false (.flat [.i, .i]) (.t 7) (.t 8)) none), (MO.mk (some 0) (.mv (.t 9)) none)]
@[simp] theorem l21_3 : q21_3.length = 6 := rfl
def m21 : MCode := .seq (.reg q21_0) (.seq (.reg q21_1) (.seq (.reg q21_2) (.seq (.reg q21_3) .ret)))
theorem rc21 : rcOf Try.prog Try.f21 = some m21 := by kernel_rfl
theorem rv21 : rRVs Try.prog Try.f21.results.toList = some [(.t 0)] := by kernel_rfl
theorem nm21 : (Try.f21.name == "runtime.NumGoroutine") = false := by kernel_rfl
def q4_0 : List MO := [(MO.mk (some 4) (.box (.t 0)) none), (MO.mk (some 5) (.box (.t 1)) none), (MO.mk (some 8) (.mv (.c (.bool false))) none)]
@[simp] theorem l4_0 : q4_0.length = 3 := rfl
def q4_1 : List MO := [(MO.mk (some 11) (.load true 5 (.t 4)) none), (MO.mk (some 12) (.load true 5 (.t 5)) none), (MO.mk (some 13) (.bsl 5 2 [(.int .i64 0), (.int .i64 0), (.int .i64 0), (.int .i64 0), (.int .i64 0)] [(0, (5, (.t 11))), (5, (5, (.t 12)))]) none), (MO.mk (some 14) (.call (.c (.fn 20 [])) [(.t 13)]) none), (MO.mk (some 15) (.un .not (.t 14)) none)]
@[simp] theorem l4_1 : q4_1.length = 5 := rfl
def q4_2 : List MO := [(MO.mk (some 16) (.call (.c (.fn 21 [])) []) none), (MO.mk (some 8) (.mv (.t 16)) none)]
@[simp] theorem l4_2 : q4_2.length = 2 := rfl
def q4_3 : List MO := [(MO.mk (some 17) (.load true 5 (.t 4)) none), (MO.mk (some 18) (.load true 5 (.t 5)) none), (MO.mk (some 19) (.mv (.t 2)) none), (MO.mk (some 20) (.mv (.t 3)) none), (MO.mk (some 21) (.call (.c (.fn 22 [])) [(.t 17), (.t 18), (.t 19), (.t 20)]) none), (MO.mk (some 22) (.load true 5 (.t 5)) none), (MO.mk (some 23) (.load true 5 (.t 4)) none), (MO.mk (some 24) (.mv (.t 3)) none), (MO.mk (some 25) (.mv (.t 2)) none), (MO.mk (some 26) (.call (.c (.fn 22 [])) [(.t 22), (.t 23), (.t 24), (.t 25)]) none), (MO.mk (some 9) (.alloc [(.int .i64 0), (.int .i64 0)]) none), (MO.mk (some 10) (.alloc [(.int .i64 0), (.int .i64 0)]) none), (MO.mk none (.store 2 (.t 9) (.t 21)) none), (MO.mk none (.store 2 (.t 10) (.t 26)) none)]
@[simp] theorem l4_3 : q4_3.length = 14 := rfl
def p4_3 : List (List Nat) := [[], [], [], [], [0, 1, 2, 3], [], [], [], [], [5, 6, 7, 8, 4], [], [], [10, 4, 9, 0, 1, 2, 3, 4, 10, 11], [11, 9, 12, 0, 1, 2, 3, 4, 5, 6, 7, 8, 9, 10, 11, 12]]
def q4_4 : List MO := [(MO.mk (some 27) (.load true 2 (.t 9)) none), (MO.mk (some 28) (.load true 2 (.t 10)) none), (MO.mk (some 29) (.eq true (.flat [.i, .i]) (.t 27) (.t 28)) none)]
@[simp] theorem l4_4 : q4_4.length = 3 := rfl
def q4_5 : List MO := [(MO.mk (some 8) (.mv (.c (.bool false))) none)]
@[simp] theorem l4_5 : q4_5.length = 1 := rfl
def q4_6 : List MO := [(MO.mk (some 30) (.faddr 0 (.t 9)) none), (MO.mk (some 31) (.load false 1 (.t 30)) none), (MO.mk (some 32) (.bin .eql (.t 31) (.c (.int .i64 0))) none)]
@[simp] theorem l4_6 : q4_6.length = 3 := rfl
def q4_7 : List MO := [(MO.mk (some 33) (.call (.c (.fn 21 [])) []) none), (MO.mk (some 34) (.mv (.t 33)) none), (MO.mk (some 35) (.faddr 1 (.t 9)) (some (34, true))), (MO.mk (some 36) (.load false 1 (.t 35)) (some (34, true))), (MO.mk (some 37) (.bin .eql (.t 36) (.c (.int .i64 0))) (some (34, true))), (MO.mk (some 38) (.pick (.t 34) (.t 37) (.c (.bool false))) none), (MO.mk (some 39) (.mv (.t 38)) none), (MO.mk (some 40) (.mv (.t 2)) (some (39, true))), (MO.mk (some 41) (.bin .lss (.t 40) (.c (.int .i64 1))) (some (39, true))), (MO.mk (some 42) (.mv (.t 41)) (some (39, true))), (MO.mk (some 43) (.load true 5 (.t 4)) (some (42, false))), (MO.mk (some 44) (.load true 5 (.t 5)) (some (42, false))), (MO.mk (some 45) (.mv (.t 2)) (some (42, false))), (MO.mk (some 46) (.bin .sub (.t 45) (.c (.int .i64 1))) (some (42, false))), (MO.mk (some 47) (.mv (.t 3)) (some (42, false))), (MO.mk (some 48) (.call (.c (.fn 22 [])) [(.t 43), (.t 44), (.t 46), (.t 47)]) (some (42, false))), (MO.mk (some 49) (.fld false 0 1 (.t 48)) (some (42, false))), (MO.mk (some 50) (.bin .eql (.t 49) (.c (.int .i64 0))) (some (42, false))), (MO.mk (some 51) (.pick (.t 42) (.c (.bool true)) (.t 50)) (some (39, true))), (MO.mk (some 52) (.pick (.t 39) (.t 51) (.c (.bool false))) none), (MO.mk (some 8) (.mv (.t 52)) none)]
@[simp] theorem l4_7 : q4_7.length = 21 := rfl
def q4_8 : List MO := [(MO.mk (some 53) (.call (.c (.fn 21 [])) []) none), (MO.mk (some 54) (.mv (.t 53)) none), (MO.mk (some 55) (.faddr 0 (.t 9)) (some (54, true))), (MO.mk (some 56) (.load false 1 (.t 55)) (some (54, true))), (MO.mk (some 57) (.bin .geq (.t 56) (.c (.int .i64 1))) (some (54, true))), (MO.mk (some 58) (.pick (.t 54) (.t 57) (.c (.bool false))) none), (MO.mk (some 59) (.mv (.t 58)) none), (MO.mk (some 60) (.faddr 0 (.t 9)) (some (59, true))), (MO.mk (some 61) (.load false 1 (.t 60)) (some (59, true))), (MO.mk (some 62) (.mv (.t 2)) (some (59, true))), (MO.mk (some 63) (.bin .leq (.t 61) (.t 62)) (some (59, true))), (MO.mk (some 64) (.pick (.t 59) (.t 63) (.c (.bool false))) none), (MO.mk (some 65) (.mv (.t 64)) none), (MO.mk (some 66) (.faddr 0 (.t 9)) (some (65, true))), (MO.mk (some 67) (.load false 1 (.t 66)) (some (65, true))), (MO.mk (some 68) (.mv (.t 3)) (some (65, true))), (MO.mk (some 69) (.bin .leq (.t 67) (.t 68)) (some (65, true))), (MO.mk (some 70) (.pick (.t 65) (.t 69) (.c (.bool false))) none), (MO.mk (some 71) (.mv (.t 70)) none), (MO.mk (some 72) (.faddr 0 (.t 9)) (some (71, true))), (MO.mk (some 73) (.load false 1 (.t 72)) (some (71, true))), (MO.mk (some 74) (.faddr 3 (.t 4)) (some (71, true))), (MO.mk (some 75) (.load false 1 (.t 74)) (some (71, true))), (MO.mk (some 76) (.bin .geq (.t 73) (.t 75)) (some (71, true))), (MO.mk (some 77) (.pick (.t 71) (.t 76) (.c (.bool false))) none), (MO.mk (some 78) (.mv (.t 77)) none), (MO.mk (some 79) (.faddr 0 (.t 9)) (some (78, true))), (MO.mk (some 80) (.load false 1 (.t 79)) (some (78, true))), (MO.mk (some 81) (.faddr 3 (.t 5)) (some (78, true))), (MO.mk (some 82) (.load false 1 (.t 81)) (some (78, true))), (MO.mk (some 83) (.bin .geq (.t 80) (.t 82)) (some (78, true))), (MO.mk (some 84) (.pick (.t 78) (.t 83) (.c (.bool false))) none), (MO.mk (some 85) (.mv (.t 84)) none), (MO.mk (some 86) (.faddr 1 (.t 9)) (some (85, true))), (MO.mk (some 87) (.load false 1 (.t 86)) (some (85, true))), (MO.mk (some 88) (.faddr 2 (.t 4)) (some (85, true))), (MO.mk (some 89) (.load false 1 (.t 88)) (some (85, true))), (MO.mk (some 90) (.faddr 2 (.t 5)) (some (85, true))), (MO.mk (some 91) (.load false 1 (.t 90)) (some (85, true))), (MO.mk (some 92) (.mn [(.t 89), (.t 91)]) (some (85, true))), (MO.mk (some 93) (.bin .geq (.t 87) (.t 92)) (some (85, true))), (MO.mk (some 94) (.pick (.t 85) (.t 93) (.c (.bool false))) none), (MO.mk (some 95) (.mv (.t 94)) none), (MO.mk (some 96) (.faddr 1 (.t 9)) (some (95, true))), (MO.mk (some 97) (.load false 1 (.t 96)) (some (95, true))), (MO.mk (some 98) (.faddr 2 (.t 4)) (some (95, true))), (MO.mk (some 99) (.load false 1 (.t 98)) (some (95, true))), (MO.mk (some 100) (.faddr 2 (.t 5)) (some (95, true))), (MO.mk (some 101) (.load false 1 (.t 100)) (some (95, true))), (MO.mk (some 102) (.mx [(.t 99), (.t 101)]) (some (95, true))), (MO.mk (some 103) (.bin .leq (.t 97) (.t 102)) (some (95, true))), (MO.mk (some 104) (.pick (.t 95) (.t 103) (.c (.bool false))) none), (MO.mk (some 105) (.mv (.t 104)) none), (MO.mk (some 106) (.faddr 0 (.t 4)) (some (105, true))), (MO.mk (some 107) (.load false 1 (.t 106)) (some (105, true))), (MO.mk (some 108) (.faddr 0 (.t 5)) (some (105, true))), (MO.mk (some 109) (.load false 1 (.t 108)) (some (105, true))), (MO.mk (some 110) (.bin .eql (.t 107) (.t 109)) (some (105, true))), (MO.mk (some 111) (.pick (.t 105) (.t 110) (.c (.bool false))) none), (MO.mk (some 112) (.mv (.t 111)) none), (MO.mk (some 113) (.faddr 1 (.t 4)) (some (112, true))), (MO.mk (some 114) (.load false 1 (.t 113)) (some (112, true))), (MO.mk (some 115) (.faddr 1 (.t 5)) (some (112, true))), (MO.mk (some 116) (.load false 1 (.t 115)) (some (112, true))), (MO.mk (some 117) (.bin .neq (.t 114) (.t 116)) (some (112, true))), (MO.mk (some 118) (.pick (.t 112) (.t 117) (.c (.bool false))) none), (MO.mk (some 8) (.mv (.t 118)) none)]
@[simp] theorem l4_8 : q4_8.length = 67 := rfl
def m4 : MCode := .seq (.reg q4_0) (.seq (.seq (.reg q4_1) (.cond (.t 15) (.seq (.reg q4_2) .ret) .skip)) (.seq (.draw q4_3 p4_3) (.seq (.seq (.reg q4_4) (.cond (.t 29) (.seq (.reg q4_5) .ret) .skip)) (.seq (.seq (.reg q4_6) (.cond (.t 32) (.seq (.reg q4_7) .ret) .skip)) (.seq (.reg q4_8) .ret)))))
theorem rc4 : rcOf Try.prog Try.f4 = some m4 := by kernel_rfl
theorem rv4 : rRVs Try.prog Try.f4.results.toList = some [(.t 8)] := by kernel_rfl
theorem nm4 : (Try.f4.name == "runtime.NumGoroutine") = false := by kernel_rfl
def q5_0 : List MO := [(MO.mk (some 5) (.box (.t 0)) none), (MO.mk (some 6) (.box (.t 1)) none), (MO.mk (some 10) (.mv (.c (.bool false))) none)]
@[simp] theorem l5_0 : q5_0.length = 3 := rfl
def q5_1 : List MO := [(MO.mk (some 16) (.load true 5 (.t 5)) none), (MO.mk (some 17) (.load true 5 (.t 6)) none), (MO.mk (some 18) (.bsl 5 2 [(.int .i64 0), (.int .i64 0), (.int .i64 0), (.int .i64 0), (.int .i64 0)] [(0, (5, (.t 16))), (5, (5, (.t 17)))]) none), (MO.mk (some 19) (.call (.c (.fn 20 [])) [(.t 18)]) none), (MO.mk (some 20) (.un .not (.t 19)) none), (MO.mk (some 21) (.mv (.t 20)) none), (MO.mk (some 22) (.faddr 1 (.t 5)) (some (21, false))), (MO.mk (some 23) (.load false 1 (.t 22)) (some (21, false))), (MO.mk (some 24) (.bin .neq (.t 23) (.c (.int .i64 0))) (some (21, false))), (MO.mk (some 25) (.pick (.t 21) (.c (.bool true)) (.t 24)) none), (MO.mk (some 26) (.mv (.t 25)) none), (MO.mk (some 27) (.faddr 2 (.t 5)) (some (26, false))), (MO.mk (some 28) (.load false 1 (.t 27)) (some (26, false))), (MO.mk (some 29) (.mv (.t 4)) (some (26, false))), (MO.mk (some 30) (.conv .i64 (.t 29)) (some (26, false))), (MO.mk (some 31) (.bin .add (.t 28) (.t 30)) (some (26, false))), (MO.mk (some 32) (.bin .gtr (.t 31) (.c (.int .i64 9999))) (some (26, false))), (MO.mk (some 33) (.pick (.t 26) (.c (.bool true)) (.t 32)) none)]
@[simp] theorem l5_1 : q5_1.length = 18 := rfl
def q5_2 : List MO := [(MO.mk (some 34) (.call (.c (.fn 21 [])) []) none), (MO.mk (some 10) (.mv (.t 34)) none)]
@[simp] theorem l5_2 : q5_2.length = 2 := rfl
def q5_3 : List MO := [(MO.mk (some 35) (.load true 5 (.t 5)) none), (MO.mk (some 11) (.alloc [(.int .i64 0), (.int .i64 0), (.int .i64 0), (.int .i64 0), (.int .i64 0)]) none), (MO.mk none (.store 5 (.t 11) (.t 35)) none)]
@[simp] theorem l5_3 : q5_3.length = 3 := rfl
def q5_4 : List MO := [(MO.mk (some 36) (.faddr 2 (.t 11)) none), (MO.mk (some 37) (.load false 1 (.t 36)) none), (MO.mk (some 38) (.mv (.t 4)) none), (MO.mk (some 39) (.conv .i64 (.t 38)) none), (MO.mk (some 40) (.bin .add (.t 37) (.t 39)) none), (MO.mk (some 41) (.faddr 2 (.t 11)) none), (MO.mk none (.store 1 (.t 41) (.t 40)) none)]
@[simp] theorem l5_4 : q5_4.length = 7 := rfl
def q5_5 : List MO := [(MO.mk (some 42) (.load true 5 (.t 5)) none), (MO.mk (some 43) (.load true 5 (.t 6)) none), (MO.mk (some 44) (.mv (.t 2)) none), (MO.mk (some 45) (.mv (.t 3)) none), (MO.mk (some 46) (.call (.c (.fn 22 [])) [(.t 42), (.t 43), (.t 44), (.t 45)]) none), (MO.mk (some 47) (.load true 5 (.t 11)) none), (MO.mk (some 48) (.load true 5 (.t 6)) none), (MO.mk (some 49) (.mv (.t 2)) none), (MO.mk (some 50) (.mv (.t 3)) none), (MO.mk (some 51) (.call (.c (.fn 22 [])) [(.t 47), (.t 48), (.t 49), (.t 50)]) none), (MO.mk (some 12) (.alloc [(.int .i64 0), (.int .i64 0)]) none), (MO.mk (some 13) (.alloc [(.int .i64 0), (.int .i64 0)]) none), (MO.mk none (.store 2 (.t 12) (.t 46)) none), (MO.mk none (.store 2 (.t 13) (.t 51)) none)]
@[simp] theorem l5_5 : q5_5.length = 14 := rfl
def p5_5 : List (List Nat) := [[], [], [], [], [0, 1, 2, 3], [], [], [], [], [5, 6, 7, 8, 4], [], [], [10, 4, 9, 0, 1, 2, 3, 4, 10, 11], [11, 9, 12, 0, 1, 2, 3, 4, 5, 6, 7, 8, 9, 10, 11, 12]]
def q5_6 : List MO := [(MO.mk (some 52) (.faddr 0 (.t 12)) none), (MO.mk (some 53) (.load false 1 (.t 52)) none), (MO.mk (some 54) (.bin .gtr (.t 53) (.c (.int .i64 0))) none), (MO.mk (some 55) (.mv (.t 54)) none), (MO.mk (some 56) (.faddr 0 (.t 13)) (some (55, true))), (MO.mk (some 57) (.load false 1 (.t 56)) (some (55, true))), (MO.mk (some 58) (.faddr 0 (.t 12)) (some (55, true))), (MO.mk (some 59) (.load false 1 (.t 58)) (some (55, true))), (MO.mk (some 60) (.bin .neq (.t 57) (.t 59)) (some (55, true))), (MO.mk (some 61) (.mv (.t 60)) (some (55, true))), (MO.mk (some 62) (.faddr 1 (.t 13)) (some (61, false))), (MO.mk (some 63) (.load false 1 (.t 62)) (some (61, false))), (MO.mk (some 64) (.faddr 1 (.t 12)) (some (61, false))), (MO.mk (some 65) (.load false 1 (.t 64)) (some (61, false))), (MO.mk (some 66) (.bin .lss (.t 63) (.t 65)) (some (61, false))), (MO.mk (some 67) (.pick (.t 61) (.c (.bool true)) (.t 66)) (some (55, true))), (MO.mk (some 68) (.pick (.t 55) (.t 67) (.c (.bool false))) none)]
@[simp] theorem l5_6 : q5_6.length = 17 := rfl
def q5_7 : List MO := [(MO.mk (some 10) (.mv (.c (.bool false))) none)]
@[simp] theorem l5_7 : q5_7.length = 1 := rfl
def q5_8 : List MO := [(MO.mk (some 69) (.load true 5 (.t 6)) none), (MO.mk (some 14) (.alloc [(.int .i64 0), (.int .i64 0), (.int .i64 0), (.int .i64 0), (.int .i64 0)]) none), (MO.mk none (.store 5 (.t 14) (.t 69)) none)]
@[simp] theorem l5_8 : q5_8.length = 3 := rfl
def q5_9 : List MO := [(MO.mk (some 70) (.faddr 2 (.t 6)) none), (MO.mk (some 71) (.load false 1 (.t 70)) none), (MO.mk (some 72) (.mv (.t 4)) none), (MO.mk (some 73) (.conv .i64 (.t 72)) none), (MO.mk (some 74) (.bin .sub (.t 71) (.t 73)) none), (MO.mk (some 75) (.mx [(.c (.int .i64 1)), (.t 74)]) none), (MO.mk (some 76) (.faddr 2 (.t 14)) none), (MO.mk none (.store 1 (.t 76) (.t 75)) none)]
@[simp] theorem l5_9 : q5_9.length = 8 := rfl
def q5_10 : List MO := [(MO.mk (some 77) (.load true 5 (.t 5)) none), (MO.mk (some 78) (.load true 5 (.t 14)) none), (MO.mk (some 79) (.mv (.t 2)) none), (MO.mk (some 80) (.mv (.t 3)) none), (MO.mk (some 81) (.call (.c (.fn 22 [])) [(.t 77), (.t 78), (.t 79), (.t 80)]) none), (MO.mk (some 15) (.alloc [(.int .i64 0), (.int .i64 0)]) none), (MO.mk none (.store 2 (.t 15) (.t 81)) none)]
@[simp] theorem l5_10 : q5_10.length = 7 := rfl
def q5_11 : List MO := [(MO.mk (some 82) (.call (.c (.fn 21 [])) []) none), (MO.mk (some 83) (.mv (.t 82)) none), (MO.mk (some 84) (.faddr 0 (.t 12)) (some (83, true))), (MO.mk (some 85) (.load false 1 (.t 84)) (some (83, true))), (MO.mk (some 86) (.bin .eql (.t 85) (.c (.int .i64 0))) (some (83, true))), (MO.mk (some 87) (.mv (.t 86)) (some (83, true))), (MO.mk (some 88) (.faddr 0 (.t 15)) (some (87, false))), (MO.mk (some 89) (.load false 1 (.t 88)) (some (87, false))), (MO.mk (some 90) (.faddr 0 (.t 12)) (some (87, false))), (MO.mk (some 91) (.load false 1 (.t 90)) (some (87, false))), (MO.mk (some 92) (.bin .eql (.t 89) (.t 91)) (some (87, false))), (MO.mk (some 93) (.mv (.t 92)) (some (87, false))), (MO.mk (some 94) (.faddr 1 (.t 15)) (some (93, true))), (MO.mk (some 95) (.load false 1 (.t 94)) (some (93, true))), (MO.mk (some 96) (.faddr 1 (.t 12)) (some (93, true))), (MO.mk (some 97) (.load false 1 (.t 96)) (some (93, true))), (MO.mk (some 98) (.bin .leq (.t 95) (.t 97)) (some (93, true))), (MO.mk (some 99) (.pick (.t 93) (.t 98) (.c (.bool false))) (some (87, false))), (MO.mk (some 100) (.pick (.t 87) (.c (.bool true)) (.t 99)) (some (83, true))), (MO.mk (some 101) (.pick (.t 83) (.t 100) (.c (.bool false))) none), (MO.mk (some 10) (.mv (.t 101)) none)]
@[simp] theorem l5_11 : q5_11.length = 21 := rfl
def m5 : MCode := .seq (.reg q5_0) (.seq (.seq (.reg q5_1) (.cond (.t 33) (.seq (.reg q5_2) .ret) .skip)) (.seq (.reg q5_3) (.seq (.reg q5_4) (.seq (.draw q5_5 p5_5) (.seq (.seq (.reg q5_6) (.cond (.t 68) (.seq (.reg q5_7) .ret) .skip)) (.seq (.reg q5_8) (.seq (.reg q5_9) (.seq (.reg q5_10) (.seq (.reg q5_11) .ret)))))))))
theorem rc5 : rcOf Try.prog Try.f5 = some m5 := by kernel_rfl
theorem rv5 : rRVs Try.prog Try.f5.results.toList = some [(.t 10)] := by kernel_rfl
theorem nm5 : (Try.f5.name == "runtime.NumGoroutine") = false := by kernel_rfl
def q6_0 : List MO := [(MO.mk (some 5) (.box (.t 0)) none), (MO.mk (some 6) (.box (.t 1)) none), (MO.mk (some 10) (.mv (.c (.bool false))) none)]
@[simp] theorem l6_0 : q6_0.length = 3 := rfl
def q6_1 : List MO := [(MO.mk (some 15) (.load true 5 (.t 5)) none), (MO.mk (some 16) (.load true 5 (.t 6)) none), (MO.mk (some 17) (.bsl 5 2 [(.int .i64 0), (.int .i64 0), (.int .i64 0), (.int .i64 0), (.int .i64 0)] [(0, (5, (.t 15))), (5, (5, (.t 16)))]) none), (MO.mk (some 18) (.call (.c (.fn 20 [])) [(.t 17)]) none), (MO.mk (some 19) (.un .not (.t 18)) none)]
@[simp] theorem l6_1 : q6_1.length = 5 := rfl
def q6_2 : List MO := [(MO.mk (some 20) (.call (.c (.fn 21 [])) []) none), (MO.mk (some 10) (.mv (.t 20)) none)]
@[simp] theorem l6_2 : q6_2.length = 2 := rfl
def q6_3 : List MO := [(MO.mk (some 21) (.load true 5 (.t 5)) none), (MO.mk (some 22) (.load true 5 (.t 6)) none), (MO.mk (some 23) (.mv (.t 2)) none), (MO.mk (some 24) (.mv (.t 3)) none), (MO.mk (some 25) (.call (.c (.fn 22 [])) [(.t 21), (.t 22), (.t 23), (.t 24)]) none), (MO.mk (some 11) (.alloc [(.int .i64 0), (.int .i64 0)]) none), (MO.mk none (.store 2 (.t 11) (.t 25)) none)]
@[simp] theorem l6_3 : q6_3.length = 7 := rfl
def q6_4 : List MO := [(MO.mk (some 27) (.load true 5 (.t 5)) none), (MO.mk (some 28) (.load true 5 (.t 6)) none), (MO.mk (some 29) (.mv (.t 2)) none), (MO.mk (some 30) (.mv (.t 3)) none), (MO.mk (some 31) (.call (.c (.fn 23 [])) [(.t 27), (.t 28), (.t 29), (.t 30)]) none), (MO.mk (some 26) (.mv (.t 31)) none), (MO.mk (some 32) (.ext (.t 26) 0) none), (MO.mk (some 33) (.ext (.t 26) 1) none), (MO.mk (some 12) (.mv (.t 32)) none), (MO.mk (some 13) (.mv (.t 33)) none)]
@[simp] theorem l6_4 : q6_4.length = 10 := rfl
def q6_5 : List MO := [(MO.mk (some 14) (.mv (.c (.str (ByteArray.mk #[63])))) none)]
@[simp] theorem l6_5 : q6_5.length = 1 := rfl
def q6_6 : List MO := [(MO.mk (some 34) (.mv (.t 4)) none), (MO.mk (some 35) (.bin .eql (.t 34) (.c (.int .i64 0))) none), (MO.mk (some 36) (.mv (.t 35)) none), (MO.mk (some 37) (.mv (.t 4)) (some (36, false))), (MO.mk (some 38) (.bin .eql (.t 37) (.c (.int .i64 1))) (some (36, false))), (MO.mk (some 39) (.pick (.t 36) (.c (.bool true)) (.t 38)) none)]
@[simp] theorem l6_6 : q6_6.length = 6 := rfl
def q6_7 : List MO := [(MO.mk (some 40) (.bsl 1 2 [(.str (ByteArray.mk #[]))] [(0, (1, (.c (.str (ByteArray.mk #[98, 117, 121]))))), (1, (1, (.c (.str (ByteArray.mk #[115, 101, 108, 108])))))]) none), (MO.mk (some 41) (.mv (.t 4)) none), (MO.mk (some 42) (.iaddr 1 (.t 40) (.t 41)) none), (MO.mk (some 43) (.load false 1 (.t 42)) none), (MO.mk (some 14) (.mv (.t 43)) none)]
@[simp] theorem l6_7 : q6_7.length = 5 := rfl
def q6_8 : List MO := [(MO.mk (some 44) (.call (.c (.fn 21 [])) []) none), (MO.mk (some 45) (.mv (.t 44)) none), (MO.mk (some 46) (.load true 2 (.t 11)) (some (45, true))), (MO.mk (some 47) (.mv (.t 12)) (some (45, true))), (MO.mk (some 48) (.mv (.t 13)) (some (45, true))), (MO.mk (some 49) (.build [(.int .i64 0), (.int .i64 0)] [(0, (1, (.t 47))), (1, (1, (.t 48)))]) (some (45, true))), (MO.mk (some 50) (.eq false (.flat [.i, .i]) (.t 46) (.t 49)) (some (45, true))), (MO.mk (some 51) (.pick (.t 45) (.t 50) (.c (.bool false))) none), (MO.mk (some 52) (.mv (.t 51)) none), (MO.mk (some 53) (.mv (.t 2)) (some (52, true))), (MO.mk (some 54) (.mv (.t 3)) (some (52, true))), (MO.mk (some 55) (.call (.c (.fn 24 [])) [(.c (.int .i64 0)), (.t 53), (.t 54)]) (some (52, true))), (MO.mk (some 56) (.mv (.t 2)) (some (52, true))), (MO.mk (some 57) (.mv (.t 3)) (some (52, true))), (MO.mk (some 58) (.bin .gtr (.t 56) (.t 57)) (some (52, true))), (MO.mk (some 59) (.eq false .bool (.t 55) (.t 58)) (some (52, true))), (MO.mk (some 60) (.pick (.t 52) (.t 59) (.c (.bool false))) none), (MO.mk (some 61) (.mv (.t 60)) none), (MO.mk (some 62) (.mv (.t 2)) (some (61, true))), (MO.mk (some 63) (.mv (.t 3)) (some (61, true))), (MO.mk (some 64) (.call (.c (.fn 24 [])) [(.c (.int .i64 1)), (.t 62), (.t 63)]) (some (61, true))), (MO.mk (some 65) (.mv (.t 2)) (some (61, true))), (MO.mk (some 66) (.mv (.t 3)) (some (61, true))), (MO.mk (some 67) (.bin .lss (.t 65) (.t 66)) (some (61, true))), (MO.mk (some 68) (.eq false .bool (.t 64) (.t 67)) (some (61, true))), (MO.mk (some 69) (.pick (.t 61) (.t 68) (.c (.bool false))) none), (MO.mk (some 70) (.mv (.t 69)) none), (MO.mk (some 71) (.mv (.t 4)) (some (70, true))), (MO.mk (some 72) (.call (.c (.fn 25 [])) [(.t 71)]) (some (70, true))), (MO.mk (some 73) (.mv (.t 14)) (some (70, true))), (MO.mk (some 74) (.eq false .string (.t 72) (.t 73)) (some (70, true))), (MO.mk (some 75) (.pick (.t 70) (.t 74) (.c (.bool false))) none), (MO.mk (some 10) (.mv (.t 75)) none)]
@[simp] theorem l6_8 : q6_8.length = 33 := rfl
def m6 : MCode := .seq (.reg q6_0) (.seq (.seq (.reg q6_1) (.cond (.t 19) (.seq (.reg q6_2) .ret) .skip)) (.seq (.reg q6_3) (.seq (.reg q6_4) (.seq (.reg q6_5) (.seq (.seq (.reg q6_6) (.cond (.t 39) (.reg q6_7) .skip)) (.seq (.reg q6_8) .ret))))))
theorem rc6 : rcOf Try.prog Try.f6 = some m6 := by kernel_rfl
theorem rv6 : rRVs Try.prog Try.f6.results.toList = some [(.t 10)] := by kernel_rfl
theorem nm6 : (Try.f6.name == "runtime.NumGoroutine") = false := by kernel_rfl
end Go.Vc
