/- The resolved code of the functions, by a program. -/
import Derived.Test.YthehmmodkhoieaaWtC
namespace Go.W
open Go.Proofs
set_option maxRecDepth 100000
def q81_0 : List MO := [(MO.mk (some 1) (.box (.t 0)) none), (MO.mk (some 2) (.alloc [(.int .i64 0), (.int .i64 0), (.int .i64 0), (.int .i64 0), (.int .i64 0), (.int .i64 0), (.int .i64 0), (.int .i64 0), (.int .i64 0)]) none)]
@[simp] theorem l81_0 : q81_0.length = 2 := rfl
def q81_1 : List MO := [(MO.mk (some 3) (.faddr 0 (.t 1)) none), (MO.mk (some 4) (.load false 1 (.t 3)) none), (MO.mk (some 5) (.faddr 1 (.t 1)) none), (MO.mk (some 6) (.load false 1 (.t 5)) none), (MO.mk (some 7) (.faddr 2 (.t 1)) none), (MO.mk (some 8) (.load false 1 (.t 7)) none), (MO.mk (some 9) (.faddr 3 (.t 1)) none), (MO.mk (some 10) (.load true 5 (.t 9)) none), (MO.mk (some 11) (.faddr 8 (.t 1)) none), (MO.mk (some 12) (.load false 1 (.t 11)) none), (MO.mk (some 13) (.build [(.int .i64 0), (.int .i64 0), (.int .i64 0), (.int .i64 0), (.int .i64 0), (.int .i64 0), (.int .i64 0), (.int .i64 0), (.int .i64 0)] [(0, (1, (.t 4))), (1, (1, (.t 6))), (2, (1, (.t 8))), (3, (5, (.t 10))), (8, (1, (.t 12)))]) none), (MO.mk none (.store 9 (.t 2) (.t 13)) none)]
@[simp] theorem l81_1 : q81_1.length = 12 := rfl
def m81 : MCode := .seq (.reg q81_0) (.seq (.reg q81_1) .ret)
theorem rc81 : rcOf Try.prog Try.f81 = some m81 := by kernel_rfl
theorem rv81 : rRVs Try.prog Try.f81.results.toList = some [(.c true 9 2)] := by kernel_rfl
theorem nm81 : (Try.f81.name == "runtime.NumGoroutine") = false := by kernel_rfl
def q60_0 : List MO := [(MO.mk (some 1) (.box (.t 0)) none), (MO.mk (some 2) (.alloc [(.int .i64 0), (.int .i64 0), (.int .i64 0), (.int .i64 0), (.int .i64 0), (.int .i64 0), (.int .i64 0), (.int .i64 0), (.int .i64 0), (.int .i64 0), (.int .i64 0), (.int .i64 0)]) none)]
@[simp] theorem l60_0 : q60_0.length = 2 := rfl
def q60_1 : List MO := [(MO.mk (some 3) (.faddr 0 (.t 1)) none), (MO.mk (some 4) (.load false 1 (.t 3)) none), (MO.mk (some 5) (.faddr 1 (.t 1)) none), (MO.mk (some 6) (.load false 1 (.t 5)) none), (MO.mk (some 7) (.faddr 2 (.t 1)) none), (MO.mk (some 8) (.load false 1 (.t 7)) none), (MO.mk (some 9) (.faddr 3 (.t 1)) none), (MO.mk (some 10) (.load true 9 (.t 9)) none), (MO.mk (some 11) (.call (.c (.fn 81 [])) [(.t 10)]) none), (MO.mk (some 12) (.build [(.int .i64 0), (.int .i64 0), (.int .i64 0), (.int .i64 0), (.int .i64 0), (.int .i64 0), (.int .i64 0), (.int .i64 0), (.int .i64 0), (.int .i64 0), (.int .i64 0), (.int .i64 0)] [(0, (1, (.t 4))), (1, (1, (.t 6))), (2, (1, (.t 8))), (3, (9, (.t 11)))]) none), (MO.mk none (.store 12 (.t 2) (.t 12)) none)]
@[simp] theorem l60_1 : q60_1.length = 11 := rfl
def p60_1 : List (List Nat) := [[], [0], [], [2], [], [4], [], [6], [7], [1, 3, 5, 8], [9, 8, 0, 1, 2, 3, 4, 5, 6, 7, 8, 9]]
def c60_1 : List (List Nat) := [[], [0], [], [2], [], [4], [], [6], [6, 7], [0, 1, 2, 3, 4, 5, 6, 7, 8], [0, 1, 2, 3, 4, 5, 6, 7, 8, 9]]
def m60 : MCode := .seq (.reg q60_0) (.seq (.draw q60_1 p60_1) .ret)
theorem rc60 : rcOf Try.prog Try.f60 = some m60 := by kernel_rfl
theorem rv60 : rRVs Try.prog Try.f60.results.toList = some [(.c true 12 2)] := by kernel_rfl
theorem nm60 : (Try.f60.name == "runtime.NumGoroutine") = false := by kernel_rfl
def q83_0 : List MO := [(MO.mk (some 4) (.mv (.c (.int .u64 0))) none)]
@[simp] theorem l83_0 : q83_0.length = 1 := rfl
def q83_1 : List MO := [(MO.mk (some 5) (.mv (.c (.int .u64 0))) none)]
@[simp] theorem l83_1 : q83_1.length = 1 := rfl
def q83_2 : List MO := [(MO.mk (some 8) (.mv (.t 1)) none), (MO.mk (some 9) (.len (.t 8)) none), (MO.mk (some 10) (.mv (.c (.int .i64 0))) none)]
@[simp] theorem l83_2 : q83_2.length = 3 := rfl
def q83_3 : List MO := [(MO.mk (some 11) (.bin .lss (.t 10) (.t 9)) none)]
@[simp] theorem l83_3 : q83_3.length = 1 := rfl
def q83_4 : List MO := [(MO.mk (some 12) (.iaddr 1 (.t 8) (.t 10)) none), (MO.mk (some 13) (.load false 1 (.t 12)) none), (MO.mk (some 7) (.mv (.t 13)) none)]
@[simp] theorem l83_4 : q83_4.length = 3 := rfl
def q83_5 : List MO := [(MO.mk (some 14) (.mv (.t 7)) none), (MO.mk (some 15) (.mv (.t 0)) none), (MO.mk (some 16) (.bin .gtr (.t 14) (.t 15)) none), (MO.mk (some 17) (.mv (.t 16)) none), (MO.mk (some 18) (.mv (.t 5)) (some (17, false))), (MO.mk (some 19) (.mv (.t 0)) (some (17, false))), (MO.mk (some 20) (.mv (.t 7)) (some (17, false))), (MO.mk (some 21) (.bin .sub (.t 19) (.t 20)) (some (17, false))), (MO.mk (some 22) (.bin .gtr (.t 18) (.t 21)) (some (17, false))), (MO.mk (some 23) (.pick (.t 17) (.c (.bool true)) (.t 22)) none)]
@[simp] theorem l83_5 : q83_5.length = 10 := rfl
def q83_6 : List MO := [(MO.mk (some 24) (.mv (.t 0)) none), (MO.mk (some 4) (.mv (.t 24)) none)]
@[simp] theorem l83_6 : q83_6.length = 2 := rfl
def q83_7 : List MO := [(MO.mk (some 25) (.mv (.t 5)) none), (MO.mk (some 26) (.mv (.t 7)) none), (MO.mk (some 27) (.bin .add (.t 25) (.t 26)) none), (MO.mk (some 5) (.mv (.t 27)) none)]
@[simp] theorem l83_7 : q83_7.length = 4 := rfl
def q83_8 : List MO := [(MO.mk (some 28) (.bin .add (.t 10) (.c (.int .i64 1))) none), (MO.mk (some 10) (.mv (.t 28)) none)]
@[simp] theorem l83_8 : q83_8.length = 2 := rfl
def q83_9 : List MO := [(MO.mk (some 29) (.mv (.t 5)) none), (MO.mk (some 30) (.mv (.t 0)) none), (MO.mk (some 31) (.mn [(.t 29), (.t 30)]) none), (MO.mk (some 4) (.mv (.t 31)) none)]
@[simp] theorem l83_9 : q83_9.length = 4 := rfl
def m83 : MCode := .seq (.reg q83_0) (.seq (.reg q83_1) (.seq (.seq (.reg q83_2) (.block 0 (.loop (.seq (.reg q83_3) (.seq (.cond (.t 11) .skip (.exit 0)) (.seq (.block 1 (.seq (.reg q83_4) (.seq (.seq (.reg q83_5) (.cond (.t 23) (.seq (.reg q83_6) .ret) .skip)) (.reg q83_7)))) (.reg q83_8))))))) (.seq (.reg q83_9) .ret)))
theorem rc83 : rcOf Try.prog Try.f83 = some m83 := by kernel_rfl
theorem rv83 : rRVs Try.prog Try.f83.results.toList = some [(.t 4)] := by kernel_rfl
theorem nm83 : (Try.f83.name == "runtime.NumGoroutine") = false := by kernel_rfl
def q65_0 : List MO := [(MO.mk (some 2) (.mv (.c (.int .i64 0))) none)]
@[simp] theorem l65_0 : q65_0.length = 1 := rfl
def q65_1 : List MO := [(MO.mk (some 3) (.mv (.t 0)) none), (MO.mk (some 4) (.eq false .ptr (.t 3) (.c (.raw (.pointer none)))) none)]
@[simp] theorem l65_1 : q65_1.length = 2 := rfl
def q65_2 : List MO := [(MO.mk (some 2) (.mv (.c (.int .i64 0))) none)]
@[simp] theorem l65_2 : q65_2.length = 1 := rfl
def q65_3 : List MO := [(MO.mk (some 5) (.mv (.t 0)) none), (MO.mk (some 6) (.nilck (.t 5)) none), (MO.mk (some 7) (.faddr 0 (.t 6)) none), (MO.mk (some 8) (.load false 1 (.t 7)) none), (MO.mk (some 9) (.conv .i64 (.t 8)) none), (MO.mk (some 2) (.mv (.t 9)) none)]
@[simp] theorem l65_3 : q65_3.length = 6 := rfl
def m65 : MCode := .seq (.reg q65_0) (.seq (.seq (.reg q65_1) (.cond (.t 4) (.seq (.reg q65_2) .ret) .skip)) (.seq (.reg q65_3) .ret))
theorem rc65 : rcOf Try.prog Try.f65 = some m65 := by kernel_rfl
theorem rv65 : rRVs Try.prog Try.f65.results.toList = some [(.t 2)] := by kernel_rfl
theorem nm65 : (Try.f65.name == "runtime.NumGoroutine") = false := by kernel_rfl
def q66_0 : List MO := [(MO.mk (some 4) (.mv (.c (.int .i64 0))) none)]
@[simp] theorem l66_0 : q66_0.length = 1 := rfl
def q66_1 : List MO := [(MO.mk (some 7) (.mv (.t 0)) none), (MO.mk (some 8) (.eq false .ptr (.t 7) (.c (.raw (.pointer none)))) none)]
@[simp] theorem l66_1 : q66_1.length = 2 := rfl
def q66_2 : List MO := [(MO.mk (some 4) (.mv (.c (.int .i64 0))) none)]
@[simp] theorem l66_2 : q66_2.length = 1 := rfl
def q66_3 : List MO := [(MO.mk (some 9) (.mv (.t 1)) none), (MO.mk (some 10) (.len (.t 9)) none), (MO.mk (some 11) (.mv (.c (.int .i64 0))) none)]
@[simp] theorem l66_3 : q66_3.length = 3 := rfl
def q66_4 : List MO := [(MO.mk (some 12) (.bin .lss (.t 11) (.t 10)) none)]
@[simp] theorem l66_4 : q66_4.length = 1 := rfl
def q66_5 : List MO := [(MO.mk (some 13) (.iaddr 1 (.t 9) (.t 11)) none), (MO.mk (some 14) (.load false 1 (.t 13)) none), (MO.mk (some 6) (.mv (.t 14)) none)]
@[simp] theorem l66_5 : q66_5.length = 3 := rfl
def q66_6 : List MO := [(MO.mk (some 15) (.mv (.t 6)) none), (MO.mk (some 16) (.bin .gtr (.t 15) (.c (.int .i64 0))) none)]
@[simp] theorem l66_6 : q66_6.length = 2 := rfl
def q66_7 : List MO := [(MO.mk (some 17) (.mv (.t 0)) none), (MO.mk (some 18) (.mv (.t 0)) none), (MO.mk (some 19) (.nilck (.t 18)) none), (MO.mk (some 20) (.faddr 0 (.t 19)) none), (MO.mk (some 21) (.load false 1 (.t 20)) none), (MO.mk (some 22) (.mv (.t 6)) none), (MO.mk (some 23) (.conv .u64 (.t 22)) none), (MO.mk (some 24) (.bsl 1 2 [(.int .u64 0)] [(0, (1, (.t 21))), (1, (1, (.t 23)))]) none), (MO.mk (some 25) (.call (.c (.fn 83 [])) [(.c (.int .u64 1000000)), (.t 24)]) none), (MO.mk (some 26) (.nilck (.t 17)) none), (MO.mk (some 27) (.faddr 0 (.t 26)) none), (MO.mk none (.store 1 (.t 27) (.t 25)) none)]
@[simp] theorem l66_7 : q66_7.length = 12 := rfl
def q66_8 : List MO := [(MO.mk (some 28) (.bin .add (.t 11) (.c (.int .i64 1))) none), (MO.mk (some 11) (.mv (.t 28)) none)]
@[simp] theorem l66_8 : q66_8.length = 2 := rfl
def q66_9 : List MO := [(MO.mk (some 29) (.mv (.t 0)) none), (MO.mk (some 30) (.nilck (.t 29)) none), (MO.mk (some 31) (.faddr 0 (.t 30)) none), (MO.mk (some 32) (.load false 1 (.t 31)) none), (MO.mk (some 33) (.conv .i64 (.t 32)) none), (MO.mk (some 4) (.mv (.t 33)) none)]
@[simp] theorem l66_9 : q66_9.length = 6 := rfl
def m66 : MCode := .seq (.reg q66_0) (.seq (.seq (.reg q66_1) (.cond (.t 8) (.seq (.reg q66_2) .ret) .skip)) (.seq (.seq (.reg q66_3) (.block 0 (.loop (.seq (.reg q66_4) (.seq (.cond (.t 12) .skip (.exit 0)) (.seq (.block 1 (.seq (.reg q66_5) (.seq (.reg q66_6) (.cond (.t 16) (.reg q66_7) .skip)))) (.reg q66_8))))))) (.seq (.reg q66_9) .ret)))
theorem rc66 : rcOf Try.prog Try.f66 = some m66 := by kernel_rfl
theorem rv66 : rRVs Try.prog Try.f66.results.toList = some [(.t 4)] := by kernel_rfl
theorem nm66 : (Try.f66.name == "runtime.NumGoroutine") = false := by kernel_rfl
def q68_0 : List MO := [(MO.mk (some 1) (.box (.t 0)) none), (MO.mk (some 2) (.mv (.c (.int .i64 0))) none)]
@[simp] theorem l68_0 : q68_0.length = 2 := rfl
def q68_1 : List MO := [(MO.mk (some 3) (.faddr 0 (.t 1)) none), (MO.mk (some 4) (.faddr 0 (.t 3)) none), (MO.mk (some 5) (.load false 1 (.t 4)) none), (MO.mk (some 6) (.load true 7 (.t 1)) none), (MO.mk (some 7) (.call (.c (.fn 84 [])) [(.t 6)]) none), (MO.mk (some 8) (.bin .mul (.c (.int .i64 2)) (.t 7)) none), (MO.mk (some 9) (.bin .add (.t 5) (.t 8)) none), (MO.mk (some 2) (.mv (.t 9)) none)]
@[simp] theorem l68_1 : q68_1.length = 8 := rfl
def p68_1 : List (List Nat) := [[], [0], [1], [], [3], [4], [2, 5], [6, 4, 0, 1, 2, 3, 4, 5, 6]]
def c68_1 : List (List Nat) := [[], [0], [0, 1], [], [3], [3, 4], [0, 1, 2, 3, 4, 5], [0, 1, 2, 3, 4, 5, 6]]
def m68 : MCode := .seq (.reg q68_0) (.seq (.draw q68_1 p68_1) .ret)
theorem rc68 : rcOf Try.prog Try.f68 = some m68 := by kernel_rfl
theorem rv68 : rRVs Try.prog Try.f68.results.toList = some [(.t 2)] := by kernel_rfl
theorem nm68 : (Try.f68.name == "runtime.NumGoroutine") = false := by kernel_rfl
def q33_0 : List MO := [(MO.mk (some 2) (.mv (.c .nsl)) none)]
@[simp] theorem l33_0 : q33_0.length = 1 := rfl
def q33_1 : List MO := [(MO.mk (some 3) (.mv (.c .nsl)) none)]
@[simp] theorem l33_1 : q33_1.length = 1 := rfl
def q33_2 : List MO := [(MO.mk (some 6) (.mv (.t 0)) none), (MO.mk (some 7) (.len (.t 6)) none), (MO.mk (some 8) (.mv (.c (.int .i64 0))) none)]
@[simp] theorem l33_2 : q33_2.length = 3 := rfl
def q33_3 : List MO := [(MO.mk (some 9) (.bin .lss (.t 8) (.t 7)) none)]
@[simp] theorem l33_3 : q33_3.length = 1 := rfl
def q33_4 : List MO := [(MO.mk (some 10) (.iaddr 12 (.t 6) (.t 8)) none), (MO.mk (some 11) (.load true 12 (.t 10)) none), (MO.mk (some 5) (.alloc [(.int .i64 0), (.int .i64 0), (.int .i64 0), (.int .i64 0), (.int .i64 0), (.int .i64 0), (.int .i64 0), (.int .i64 0), (.int .i64 0), (.int .i64 0), (.int .i64 0), (.int .i64 0)]) none), (MO.mk none (.store 12 (.t 5) (.t 11)) none)]
@[simp] theorem l33_4 : q33_4.length = 4 := rfl
def q33_5 : List MO := [(MO.mk (some 12) (.mv (.t 3)) none), (MO.mk (some 13) (.load true 12 (.t 5)) none), (MO.mk (some 14) (.call (.c (.fn 60 [])) [(.t 13)]) none), (MO.mk (some 15) (.bsl 12 1 [(.int .i64 0), (.int .i64 0), (.int .i64 0), (.int .i64 0), (.int .i64 0), (.int .i64 0), (.int .i64 0), (.int .i64 0), (.int .i64 0), (.int .i64 0), (.int .i64 0), (.int .i64 0)] [(0, (12, (.t 14)))]) none), (MO.mk (some 16) (.app 12 96 (.t 12) (.t 15)) none), (MO.mk (some 3) (.mv (.t 16)) none)]
@[simp] theorem l33_5 : q33_5.length = 6 := rfl
def q33_6 : List MO := [(MO.mk (some 17) (.bin .add (.t 8) (.c (.int .i64 1))) none), (MO.mk (some 8) (.mv (.t 17)) none)]
@[simp] theorem l33_6 : q33_6.length = 2 := rfl
def q33_7 : List MO := [(MO.mk (some 18) (.mv (.t 3)) none), (MO.mk (some 2) (.mv (.t 18)) none)]
@[simp] theorem l33_7 : q33_7.length = 2 := rfl
def m33 : MCode := .seq (.reg q33_0) (.seq (.reg q33_1) (.seq (.seq (.reg q33_2) (.block 0 (.loop (.seq (.reg q33_3) (.seq (.cond (.t 9) .skip (.exit 0)) (.seq (.block 1 (.seq (.reg q33_4) (.reg q33_5))) (.reg q33_6))))))) (.seq (.reg q33_7) .ret)))
theorem rc33 : rcOf Try.prog Try.f33 = some m33 := by kernel_rfl
theorem rv33 : rRVs Try.prog Try.f33.results.toList = some [(.t 2)] := by kernel_rfl
theorem nm33 : (Try.f33.name == "runtime.NumGoroutine") = false := by kernel_rfl
def q43_0 : List MO := [(MO.mk (some 4) (.box (.t 0)) none), (MO.mk (some 6) (.box (.t 2)) none), (MO.mk (some 8) (.mv (.c .nsl)) none)]
@[simp] theorem l43_0 : q43_0.length = 3 := rfl
def q43_1 : List MO := [(MO.mk (some 17) (.mv (.t 1)) none), (MO.mk (some 18) (.call (.c (.fn 15 [])) [(.t 17)]) none), (MO.mk (some 9) (.mv (.t 18)) none)]
@[simp] theorem l43_1 : q43_1.length = 3 := rfl
def q43_2 : List MO := [(MO.mk (some 19) (.faddr 0 (.t 4)) none), (MO.mk (some 20) (.faddr 0 (.t 19)) none), (MO.mk (some 21) (.load false 1 (.t 20)) none), (MO.mk (some 22) (.mks 1 8 [(.int .i64 0)] (.t 21) (.t 21)) none), (MO.mk (some 10) (.mv (.t 22)) none)]
@[simp] theorem l43_2 : q43_2.length = 5 := rfl
def q43_3 : List MO := [(MO.mk (some 11) (.alloc [(.int .u64 0)]) none)]
@[simp] theorem l43_3 : q43_3.length = 1 := rfl
def q43_4 : List MO := [(MO.mk (some 12) (.mv (.c .nsl)) none)]
@[simp] theorem l43_4 : q43_4.length = 1 := rfl
def q43_5 : List MO := [(MO.mk (some 23) (.mv (.t 3)) none), (MO.mk (some 24) (.mn [(.t 23), (.c (.int .i64 65536))]) none), (MO.mk (some 25) (.mx [(.c (.int .i64 0)), (.t 24)]) none), (MO.mk (some 3) (.mv (.t 25)) none)]
@[simp] theorem l43_5 : q43_5.length = 4 := rfl
def q43_6 : List MO := [(MO.mk (some 26) (.mv (.t 12)) none), (MO.mk (some 27) (.len (.t 26)) none), (MO.mk (some 28) (.mv (.t 3)) none), (MO.mk (some 29) (.bin .lss (.t 27) (.t 28)) none)]
@[simp] theorem l43_6 : q43_6.length = 4 := rfl
def q43_7 : List MO := [(MO.mk (some 30) (.mv (.t 9)) none), (MO.mk (some 31) (.faddr 0 (.t 4)) none), (MO.mk (some 32) (.faddr 0 (.t 31)) none), (MO.mk (some 33) (.load false 1 (.t 32)) none), (MO.mk (some 34) (.call (.c (.fn 16 [])) [(.t 30), (.t 33)]) none), (MO.mk (some 13) (.mv (.t 34)) none)]
@[simp] theorem l43_7 : q43_7.length = 6 := rfl
def q43_8 : List MO := [(MO.mk (some 35) (.mv (.t 9)) none), (MO.mk (some 36) (.faddr 0 (.t 6)) none), (MO.mk (some 37) (.load false 1 (.t 36)) none), (MO.mk (some 38) (.mx [(.t 37), (.c (.int .i64 0))]) none), (MO.mk (some 39) (.faddr 1 (.t 6)) none), (MO.mk (some 40) (.load false 1 (.t 39)) none), (MO.mk (some 41) (.mx [(.t 40), (.c (.int .i64 0))]) none), (MO.mk (some 42) (.bin .add (.t 38) (.t 41)) none), (MO.mk (some 43) (.faddr 2 (.t 6)) none), (MO.mk (some 44) (.load false 1 (.t 43)) none), (MO.mk (some 45) (.mx [(.t 44), (.c (.int .i64 0))]) none), (MO.mk (some 46) (.bin .add (.t 42) (.t 45)) none), (MO.mk (some 47) (.bin .add (.t 46) (.c (.int .i64 4))) none), (MO.mk (some 48) (.call (.c (.fn 16 [])) [(.t 35), (.t 47)]) none), (MO.mk (some 14) (.mv (.t 48)) none)]
@[simp] theorem l43_8 : q43_8.length = 15 := rfl
def q43_9 : List MO := [(MO.mk (some 72) (.mv (.t 14)) none), (MO.mk (some 73) (.faddr 0 (.t 6)) none), (MO.mk (some 74) (.load false 1 (.t 73)) none), (MO.mk (some 75) (.mx [(.t 74), (.c (.int .i64 0))]) none), (MO.mk (some 76) (.bin .lss (.t 72) (.t 75)) none), (MO.mk (some 71) (.mv (.t 76)) none)]
@[simp] theorem l43_9 : q43_9.length = 6 := rfl
def q43_10 : List MO := [(MO.mk (some 77) (.mv (.t 10)) none), (MO.mk (some 78) (.mv (.t 13)) none), (MO.mk (some 79) (.iaddr 1 (.t 77) (.t 78)) none), (MO.mk (some 80) (.load false 1 (.t 79)) none), (MO.mk (some 81) (.bin .add (.t 80) (.c (.int .i64 1))) none), (MO.mk (some 82) (.iaddr 1 (.t 77) (.t 78)) none), (MO.mk none (.store 1 (.t 82) (.t 81)) none)]
@[simp] theorem l43_10 : q43_10.length = 7 := rfl
def q43_11 : List MO := [(MO.mk (some 83) (.mv (.t 12)) none), (MO.mk (some 84) (.mv (.t 13)) none), (MO.mk (some 85) (.load true 7 (.t 4)) none), (MO.mk (some 86) (.mv (.t 9)) none), (MO.mk (some 87) (.load true 6 (.t 6)) none), (MO.mk (some 88) (.mv (.t 10)) none), (MO.mk (some 89) (.mv (.t 13)) none), (MO.mk (some 90) (.iaddr 1 (.t 88) (.t 89)) none), (MO.mk (some 91) (.load false 1 (.t 90)) none), (MO.mk (some 92) (.call (.c (.fn 65 [])) [(.t 11)]) none), (MO.mk (some 93) (.call (.c (.fn 30 [])) [(.t 85), (.t 86), (.t 87), (.t 91), (.t 92)]) none), (MO.mk (some 94) (.build [(.int .i64 0), (.int .i64 0), (.int .i64 0), (.int .i64 0), (.int .i64 0), (.int .i64 0), (.int .i64 0), (.int .i64 0), (.int .i64 0), (.int .i64 0), (.int .i64 0), (.int .i64 0)] [(0, (1, (.c (.int .i64 1)))), (1, (1, (.t 84))), (3, (9, (.t 93)))]) none), (MO.mk (some 95) (.bsl 12 1 [(.int .i64 0), (.int .i64 0), (.int .i64 0), (.int .i64 0), (.int .i64 0), (.int .i64 0), (.int .i64 0), (.int .i64 0), (.int .i64 0), (.int .i64 0), (.int .i64 0), (.int .i64 0)] [(0, (12, (.t 94)))]) none), (MO.mk (some 96) (.app 12 96 (.t 83) (.t 95)) none), (MO.mk (some 12) (.mv (.t 96)) none)]
@[simp] theorem l43_11 : q43_11.length = 15 := rfl
def p43_11 : List (List Nat) := [[], [], [], [], [], [], [], [5, 6], [7], [], [2, 3, 4, 8, 9, 9], [1, 10], [11], [0, 12, 10], [13, 13, 0, 1, 2, 3, 4, 5, 6, 7, 8, 9, 10, 11, 12, 13]]
def c43_11 : List (List Nat) := [[], [], [], [], [], [], [], [5, 6], [5, 6, 7], [], [2, 3, 4, 5, 6, 7, 8, 9], [1, 2, 3, 4, 5, 6, 7, 8, 9, 10], [1, 2, 3, 4, 5, 6, 7, 8, 9, 10, 11], [0, 1, 2, 3, 4, 5, 6, 7, 8, 9, 10, 11, 12], [0, 1, 2, 3, 4, 5, 6, 7, 8, 9, 10, 11, 12, 13]]
def q43_12 : List MO := [(MO.mk (some 98) (.mv (.t 14)) none), (MO.mk (some 99) (.faddr 0 (.t 6)) none), (MO.mk (some 100) (.load false 1 (.t 99)) none), (MO.mk (some 101) (.mx [(.t 100), (.c (.int .i64 0))]) none), (MO.mk (some 102) (.faddr 1 (.t 6)) none), (MO.mk (some 103) (.load false 1 (.t 102)) none), (MO.mk (some 104) (.mx [(.t 103), (.c (.int .i64 0))]) none), (MO.mk (some 105) (.bin .add (.t 101) (.t 104)) none), (MO.mk (some 106) (.bin .lss (.t 98) (.t 105)) none), (MO.mk (some 97) (.mv (.t 106)) none)]
@[simp] theorem l43_12 : q43_12.length = 10 := rfl
def q43_13 : List MO := [(MO.mk (some 107) (.mv (.t 9)) none), (MO.mk (some 108) (.call (.c (.fn 16 [])) [(.t 107), (.c (.int .i64 3))]) none), (MO.mk (some 109) (.bin .add (.c (.int .i64 1)) (.t 108)) none), (MO.mk (some 110) (.build [(.int .i64 0), (.int .i64 0), (.int .i64 0), (.int .i64 0), (.int .i64 0), (.int .i64 0), (.int .i64 0), (.int .i64 0), (.int .i64 0), (.int .i64 0), (.int .i64 0), (.int .i64 0)] [(0, (1, (.c (.int .i64 2)))), (2, (1, (.t 109)))]) none), (MO.mk (some 15) (.alloc [(.int .i64 0), (.int .i64 0), (.int .i64 0), (.int .i64 0), (.int .i64 0), (.int .i64 0), (.int .i64 0), (.int .i64 0), (.int .i64 0), (.int .i64 0), (.int .i64 0), (.int .i64 0)]) none), (MO.mk none (.store 12 (.t 15) (.t 110)) none)]
@[simp] theorem l43_13 : q43_13.length = 6 := rfl
def q43_14 : List MO := [(MO.mk (some 111) (.faddr 2 (.t 15)) none), (MO.mk (some 112) (.load false 1 (.t 111)) none), (MO.mk (some 113) (.bsl 1 1 [(.int .i64 0)] [(0, (1, (.t 112)))]) none), (MO.mk (some 114) (.call (.c (.fn 66 [])) [(.t 11), (.t 113)]) none)]
@[simp] theorem l43_14 : q43_14.length = 4 := rfl
def q43_15 : List MO := [(MO.mk (some 115) (.mv (.t 12)) none), (MO.mk (some 116) (.load true 12 (.t 15)) none), (MO.mk (some 117) (.bsl 12 1 [(.int .i64 0), (.int .i64 0), (.int .i64 0), (.int .i64 0), (.int .i64 0), (.int .i64 0), (.int .i64 0), (.int .i64 0), (.int .i64 0), (.int .i64 0), (.int .i64 0), (.int .i64 0)] [(0, (12, (.t 116)))]) none), (MO.mk (some 118) (.app 12 96 (.t 115) (.t 117)) none), (MO.mk (some 12) (.mv (.t 118)) none)]
@[simp] theorem l43_15 : q43_15.length = 5 := rfl
def q43_16 : List MO := [(MO.mk (some 120) (.mv (.t 14)) none), (MO.mk (some 121) (.faddr 0 (.t 6)) none), (MO.mk (some 122) (.load false 1 (.t 121)) none), (MO.mk (some 123) (.mx [(.t 122), (.c (.int .i64 0))]) none), (MO.mk (some 124) (.faddr 1 (.t 6)) none), (MO.mk (some 125) (.load false 1 (.t 124)) none), (MO.mk (some 126) (.mx [(.t 125), (.c (.int .i64 0))]) none), (MO.mk (some 127) (.bin .add (.t 123) (.t 126)) none), (MO.mk (some 128) (.faddr 2 (.t 6)) none), (MO.mk (some 129) (.load false 1 (.t 128)) none), (MO.mk (some 130) (.mx [(.t 129), (.c (.int .i64 0))]) none), (MO.mk (some 131) (.bin .add (.t 127) (.t 130)) none), (MO.mk (some 132) (.bin .lss (.t 120) (.t 131)) none), (MO.mk (some 119) (.mv (.t 132)) none)]
@[simp] theorem l43_16 : q43_16.length = 14 := rfl
def q43_17 : List MO := [(MO.mk (some 133) (.mv (.t 12)) none), (MO.mk (some 134) (.mv (.t 13)) none), (MO.mk (some 135) (.mv (.t 9)) none), (MO.mk (some 136) (.load true 7 (.t 4)) none), (MO.mk (some 137) (.call (.c (.fn 67 [])) [(.t 136)]) none), (MO.mk (some 138) (.call (.c (.fn 16 [])) [(.t 135), (.t 137)]) none), (MO.mk (some 139) (.build [(.int .i64 0), (.int .i64 0), (.int .i64 0), (.int .i64 0), (.int .i64 0), (.int .i64 0), (.int .i64 0), (.int .i64 0), (.int .i64 0), (.int .i64 0), (.int .i64 0), (.int .i64 0)] [(0, (1, (.c (.int .i64 4)))), (1, (1, (.t 134))), (2, (1, (.t 138)))]) none), (MO.mk (some 140) (.bsl 12 1 [(.int .i64 0), (.int .i64 0), (.int .i64 0), (.int .i64 0), (.int .i64 0), (.int .i64 0), (.int .i64 0), (.int .i64 0), (.int .i64 0), (.int .i64 0), (.int .i64 0), (.int .i64 0)] [(0, (12, (.t 139)))]) none), (MO.mk (some 141) (.app 12 96 (.t 133) (.t 140)) none), (MO.mk (some 12) (.mv (.t 141)) none)]
@[simp] theorem l43_17 : q43_17.length = 10 := rfl
def q43_18 : List MO := [(MO.mk (some 49) (.mv (.t 9)) none), (MO.mk (some 50) (.mv (.t 13)) none), (MO.mk (some 51) (.mv (.t 13)) none), (MO.mk (some 52) (.mv (.t 9)) none), (MO.mk (some 53) (.load true 7 (.t 4)) none), (MO.mk (some 54) (.call (.c (.fn 68 [])) [(.t 53)]) none), (MO.mk (some 55) (.call (.c (.fn 16 [])) [(.t 52), (.t 54)]) none), (MO.mk (some 56) (.bsl 1 3 [(.int .i64 0)] [(0, (1, (.t 50))), (1, (1, (.t 51))), (2, (1, (.t 55)))]) none), (MO.mk (some 57) (.call (.c (.fn 18 [])) [(.t 49), (.t 56)]) none), (MO.mk (some 58) (.build [(.int .i64 0), (.int .i64 0), (.int .i64 0), (.int .i64 0), (.int .i64 0), (.int .i64 0), (.int .i64 0), (.int .i64 0), (.int .i64 0), (.int .i64 0), (.int .i64 0), (.int .i64 0)] [(0, (1, (.c (.int .i64 3)))), (1, (1, (.t 57)))]) none), (MO.mk (some 16) (.alloc [(.int .i64 0), (.int .i64 0), (.int .i64 0), (.int .i64 0), (.int .i64 0), (.int .i64 0), (.int .i64 0), (.int .i64 0), (.int .i64 0), (.int .i64 0), (.int .i64 0), (.int .i64 0)]) none), (MO.mk none (.store 12 (.t 16) (.t 58)) none)]
@[simp] theorem l43_18 : q43_18.length = 12 := rfl
def q43_19 : List MO := [(MO.mk (some 59) (.mv (.t 9)) none), (MO.mk (some 60) (.faddr 3 (.t 6)) none), (MO.mk (some 61) (.load false 1 (.t 60)) none), (MO.mk (some 62) (.call (.c (.fn 16 [])) [(.t 59), (.t 61)]) none), (MO.mk (some 63) (.bin .add (.c (.int .i64 1)) (.t 62)) none), (MO.mk (some 64) (.mv (.c (.int .i64 0))) none)]
@[simp] theorem l43_19 : q43_19.length = 6 := rfl
def q43_20 : List MO := [(MO.mk (some 65) (.bin .lss (.t 64) (.t 63)) none)]
@[simp] theorem l43_20 : q43_20.length = 1 := rfl
def q43_21 : List MO := [(MO.mk (some 66) (.mv (.t 12)) none), (MO.mk (some 67) (.load true 12 (.t 16)) none), (MO.mk (some 68) (.bsl 12 1 [(.int .i64 0), (.int .i64 0), (.int .i64 0), (.int .i64 0), (.int .i64 0), (.int .i64 0), (.int .i64 0), (.int .i64 0), (.int .i64 0), (.int .i64 0), (.int .i64 0), (.int .i64 0)] [(0, (12, (.t 67)))]) none), (MO.mk (some 69) (.app 12 96 (.t 66) (.t 68)) none), (MO.mk (some 12) (.mv (.t 69)) none)]
@[simp] theorem l43_21 : q43_21.length = 5 := rfl
def q43_22 : List MO := [(MO.mk (some 70) (.bin .add (.t 64) (.c (.int .i64 1))) none), (MO.mk (some 64) (.mv (.t 70)) none)]
@[simp] theorem l43_22 : q43_22.length = 2 := rfl
def q43_23 : List MO := [(MO.mk (some 142) (.mv (.t 12)) none), (MO.mk (some 143) (.mv (.t 3)) none), (MO.mk (some 144) (.slc 12 (.t 142) none (some (.t 143))) none), (MO.mk (some 8) (.mv (.t 144)) none)]
@[simp] theorem l43_23 : q43_23.length = 4 := rfl
def m43 : MCode := .seq (.reg q43_0) (.seq (.reg q43_1) (.seq (.reg q43_2) (.seq (.reg q43_3) (.seq (.reg q43_4) (.seq (.reg q43_5) (.seq (.block 0 (.loop (.seq (.seq (.reg q43_6) (.cond (.t 29) .skip (.exit 0))) (.block 1 (.seq (.reg q43_7) (.seq (.reg q43_8) (.block 2 (.seq (.reg q43_9) (.cond (.t 71) (.seq (.reg q43_10) (.draw q43_11 p43_11)) (.seq (.reg q43_12) (.cond (.t 97) (.seq (.reg q43_13) (.seq (.reg q43_14) (.reg q43_15))) (.seq (.reg q43_16) (.cond (.t 119) (.reg q43_17) (.seq (.reg q43_18) (.seq (.reg q43_19) (.block 3 (.loop (.seq (.reg q43_20) (.seq (.cond (.t 65) .skip (.exit 3)) (.seq (.block 4 (.reg q43_21)) (.reg q43_22))))))))))))))))))))) (.seq (.reg q43_23) .ret)))))))
theorem rc43 : rcOf Try.prog Try.f43 = some m43 := by kernel_rfl
theorem rv43 : rRVs Try.prog Try.f43.results.toList = some [(.t 8)] := by kernel_rfl
theorem nm43 : (Try.f43.name == "runtime.NumGoroutine") = false := by kernel_rfl
def q44_0 : List MO := [(MO.mk (some 4) (.box (.t 0)) none), (MO.mk (some 6) (.box (.t 2)) none), (MO.mk (some 8) (.mv (.c .nsl)) none)]
@[simp] theorem l44_0 : q44_0.length = 3 := rfl
def q44_1 : List MO := [(MO.mk (some 22) (.mv (.t 1)) none), (MO.mk (some 23) (.build [(.int .u64 0)] [(0, (1, (.t 22)))]) none), (MO.mk (some 24) (.box (.t 23)) none), (MO.mk (some 9) (.mv (.t 24)) none)]
@[simp] theorem l44_1 : q44_1.length = 4 := rfl
def q44_2 : List MO := [(MO.mk (some 25) (.faddr 0 (.t 4)) none), (MO.mk (some 26) (.load false 1 (.t 25)) none), (MO.mk (some 27) (.mks 1 8 [(.int .i64 0)] (.t 26) (.t 26)) none), (MO.mk (some 10) (.mv (.t 27)) none)]
@[simp] theorem l44_2 : q44_2.length = 4 := rfl
def q44_3 : List MO := [(MO.mk (some 11) (.mv (.c (.int .i64 0))) none)]
@[simp] theorem l44_3 : q44_3.length = 1 := rfl
def q44_4 : List MO := [(MO.mk (some 12) (.mv (.c .nsl)) none)]
@[simp] theorem l44_4 : q44_4.length = 1 := rfl
def q44_5 : List MO := [(MO.mk (some 28) (.faddr 0 (.t 6)) none), (MO.mk (some 29) (.load false 1 (.t 28)) none), (MO.mk (some 30) (.faddr 0 (.t 6)) none), (MO.mk (some 31) (.load false 1 (.t 30)) none), (MO.mk (some 32) (.bin .add (.t 31) (.c (.int .i64 1))) none), (MO.mk (some 33) (.call (.c (.fn 58 [])) [(.t 29), (.c (.int .i64 0)), (.t 32)]) none), (MO.mk (some 34) (.faddr 1 (.t 6)) none), (MO.mk (some 35) (.load false 1 (.t 34)) none), (MO.mk (some 36) (.faddr 1 (.t 6)) none), (MO.mk (some 37) (.load false 1 (.t 36)) none), (MO.mk (some 38) (.bin .add (.t 37) (.c (.int .i64 1))) none), (MO.mk (some 39) (.call (.c (.fn 58 [])) [(.t 35), (.c (.int .i64 0)), (.t 38)]) none), (MO.mk (some 40) (.faddr 2 (.t 6)) none), (MO.mk (some 41) (.load false 1 (.t 40)) none), (MO.mk (some 42) (.faddr 2 (.t 6)) none), (MO.mk (some 43) (.load false 1 (.t 42)) none), (MO.mk (some 44) (.bin .add (.t 43) (.c (.int .i64 1))) none), (MO.mk (some 45) (.call (.c (.fn 58 [])) [(.t 41), (.c (.int .i64 0)), (.t 44)]) none), (MO.mk (some 13) (.mv (.t 33)) none), (MO.mk (some 14) (.mv (.t 39)) none), (MO.mk (some 15) (.mv (.t 45)) none)]
@[simp] theorem l44_5 : q44_5.length = 21 := rfl
def p44_5 : List (List Nat) := [[], [0], [], [2], [3], [1, 4], [], [6], [], [8], [9], [7, 10, 5], [], [12], [], [14], [15], [13, 16, 11], [5, 17, 0, 1, 2, 3, 4, 5], [11, 18, 0, 1, 2, 3, 4, 5, 6, 7, 8, 9, 10, 11, 18], [17, 19, 0, 1, 2, 3, 4, 5, 6, 7, 8, 9, 10, 11, 12, 13, 14, 15, 16, 17, 18, 19]]
def c44_5 : List (List Nat) := [[], [0], [], [2], [2, 3], [0, 1, 2, 3, 4], [], [6], [], [8], [8, 9], [0, 1, 2, 3, 4, 5, 6, 7, 8, 9, 10], [], [12], [], [14], [14, 15], [0, 1, 2, 3, 4, 5, 6, 7, 8, 9, 10, 11, 12, 13, 14, 15, 16], [0, 1, 2, 3, 4, 5, 6, 7, 8, 9, 10, 11, 12, 13, 14, 15, 16, 17], [0, 1, 2, 3, 4, 5, 6, 7, 8, 9, 10, 11, 12, 13, 14, 15, 16, 17, 18], [0, 1, 2, 3, 4, 5, 6, 7, 8, 9, 10, 11, 12, 13, 14, 15, 16, 17, 18, 19]]
def q44_6 : List MO := [(MO.mk (some 46) (.mv (.t 3)) none), (MO.mk (some 47) (.call (.c (.fn 58 [])) [(.t 46), (.c (.int .i64 0)), (.c (.int .i64 65536))]) none), (MO.mk (some 3) (.mv (.t 47)) none)]
@[simp] theorem l44_6 : q44_6.length = 3 := rfl
def q44_7 : List MO := [(MO.mk (some 48) (.faddr 0 (.t 4)) none), (MO.mk (some 49) (.load false 1 (.t 48)) none), (MO.mk (some 50) (.faddr 1 (.t 4)) none), (MO.mk (some 51) (.load false 1 (.t 50)) none), (MO.mk (some 52) (.bin .mul (.t 49) (.t 51)) none), (MO.mk (some 16) (.mv (.t 52)) none)]
@[simp] theorem l44_7 : q44_7.length = 6 := rfl
def q44_8 : List MO := [(MO.mk (some 53) (.mv (.t 12)) none), (MO.mk (some 54) (.len (.t 53)) none), (MO.mk (some 55) (.mv (.t 3)) none), (MO.mk (some 56) (.bin .lss (.t 54) (.t 55)) none)]
@[simp] theorem l44_8 : q44_8.length = 4 := rfl
def q44_9 : List MO := [(MO.mk (some 57) (.mv (.t 9)) none), (MO.mk (some 58) (.faddr 0 (.t 4)) none), (MO.mk (some 59) (.load false 1 (.t 58)) none), (MO.mk (some 60) (.call (.c (.fn 17 [])) [(.t 57), (.t 59)]) none), (MO.mk (some 17) (.mv (.t 60)) none)]
@[simp] theorem l44_9 : q44_9.length = 5 := rfl
def q44_10 : List MO := [(MO.mk (some 61) (.mv (.t 9)) none), (MO.mk (some 62) (.mv (.t 13)) none), (MO.mk (some 63) (.mv (.t 14)) none), (MO.mk (some 64) (.bin .add (.t 62) (.t 63)) none), (MO.mk (some 65) (.mv (.t 15)) none), (MO.mk (some 66) (.bin .add (.t 64) (.t 65)) none), (MO.mk (some 67) (.bin .add (.t 66) (.c (.int .i64 4))) none), (MO.mk (some 68) (.call (.c (.fn 17 [])) [(.t 61), (.t 67)]) none), (MO.mk (some 18) (.mv (.t 68)) none)]
@[simp] theorem l44_10 : q44_10.length = 9 := rfl
def q44_11 : List MO := [(MO.mk (some 69) (.mv (.t 18)) none), (MO.mk (some 70) (.mv (.t 13)) none), (MO.mk (some 71) (.bin .lss (.t 69) (.t 70)) none)]
@[simp] theorem l44_11 : q44_11.length = 3 := rfl
def q44_12 : List MO := [(MO.mk (some 72) (.mv (.t 10)) none), (MO.mk (some 73) (.mv (.t 17)) none), (MO.mk (some 74) (.iaddr 1 (.t 72) (.t 73)) none), (MO.mk (some 75) (.load false 1 (.t 74)) none), (MO.mk (some 76) (.bin .add (.t 75) (.c (.int .i64 1))) none), (MO.mk (some 77) (.iaddr 1 (.t 72) (.t 73)) none), (MO.mk none (.store 1 (.t 77) (.t 76)) none)]
@[simp] theorem l44_12 : q44_12.length = 7 := rfl
def q44_13 : List MO := [(MO.mk (some 78) (.mv (.t 12)) none), (MO.mk (some 79) (.mv (.t 17)) none), (MO.mk (some 80) (.load true 7 (.t 4)) none), (MO.mk (some 81) (.mv (.t 9)) none), (MO.mk (some 82) (.load true 6 (.t 6)) none), (MO.mk (some 83) (.mv (.t 10)) none), (MO.mk (some 84) (.mv (.t 17)) none), (MO.mk (some 85) (.iaddr 1 (.t 83) (.t 84)) none), (MO.mk (some 86) (.load false 1 (.t 85)) none), (MO.mk (some 87) (.mv (.t 11)) none), (MO.mk (some 88) (.call (.c (.fn 31 [])) [(.t 80), (.t 81), (.t 82), (.t 86), (.t 87)]) none), (MO.mk (some 89) (.build [(.int .i64 0), (.int .i64 0), (.int .i64 0), (.int .i64 0), (.int .i64 0), (.int .i64 0), (.int .i64 0), (.int .i64 0), (.int .i64 0), (.int .i64 0), (.int .i64 0), (.int .i64 0)] [(0, (1, (.c (.int .i64 1)))), (1, (1, (.t 79))), (3, (9, (.t 88)))]) none), (MO.mk (some 90) (.bsl 12 1 [(.int .i64 0), (.int .i64 0), (.int .i64 0), (.int .i64 0), (.int .i64 0), (.int .i64 0), (.int .i64 0), (.int .i64 0), (.int .i64 0), (.int .i64 0), (.int .i64 0), (.int .i64 0)] [(0, (12, (.t 89)))]) none), (MO.mk (some 91) (.app 12 96 (.t 78) (.t 90)) none), (MO.mk (some 12) (.mv (.t 91)) none)]
@[simp] theorem l44_13 : q44_13.length = 15 := rfl
def p44_13 : List (List Nat) := [[], [], [], [], [], [], [], [5, 6], [7], [], [2, 3, 4, 8, 9], [1, 10], [11], [0, 12, 10], [13, 13, 0, 1, 2, 3, 4, 5, 6, 7, 8, 9, 10, 11, 12, 13]]
def c44_13 : List (List Nat) := [[], [], [], [], [], [], [], [5, 6], [5, 6, 7], [], [2, 3, 4, 5, 6, 7, 8, 9], [1, 2, 3, 4, 5, 6, 7, 8, 9, 10], [1, 2, 3, 4, 5, 6, 7, 8, 9, 10, 11], [0, 1, 2, 3, 4, 5, 6, 7, 8, 9, 10, 11, 12], [0, 1, 2, 3, 4, 5, 6, 7, 8, 9, 10, 11, 12, 13]]
def q44_14 : List MO := [(MO.mk (some 92) (.mv (.t 18)) none), (MO.mk (some 93) (.mv (.t 13)) none), (MO.mk (some 94) (.mv (.t 14)) none), (MO.mk (some 95) (.bin .add (.t 93) (.t 94)) none), (MO.mk (some 96) (.bin .lss (.t 92) (.t 95)) none)]
@[simp] theorem l44_14 : q44_14.length = 5 := rfl
def q44_15 : List MO := [(MO.mk (some 97) (.mv (.t 9)) none), (MO.mk (some 98) (.call (.c (.fn 17 [])) [(.t 97), (.c (.int .i64 3))]) none), (MO.mk (some 99) (.bin .add (.c (.int .i64 1)) (.t 98)) none), (MO.mk (some 19) (.mv (.t 99)) none)]
@[simp] theorem l44_15 : q44_15.length = 4 := rfl
def q44_16 : List MO := [(MO.mk (some 100) (.mv (.t 11)) none), (MO.mk (some 101) (.mv (.t 19)) none), (MO.mk (some 102) (.bin .add (.t 100) (.t 101)) none), (MO.mk (some 103) (.call (.c (.fn 58 [])) [(.t 102), (.c (.int .i64 0)), (.c (.int .i64 1000000))]) none), (MO.mk (some 11) (.mv (.t 103)) none)]
@[simp] theorem l44_16 : q44_16.length = 5 := rfl
def q44_17 : List MO := [(MO.mk (some 104) (.mv (.t 12)) none), (MO.mk (some 105) (.mv (.t 19)) none), (MO.mk (some 106) (.build [(.int .i64 0), (.int .i64 0), (.int .i64 0), (.int .i64 0), (.int .i64 0), (.int .i64 0), (.int .i64 0), (.int .i64 0), (.int .i64 0), (.int .i64 0), (.int .i64 0), (.int .i64 0)] [(0, (1, (.c (.int .i64 2)))), (2, (1, (.t 105)))]) none), (MO.mk (some 107) (.bsl 12 1 [(.int .i64 0), (.int .i64 0), (.int .i64 0), (.int .i64 0), (.int .i64 0), (.int .i64 0), (.int .i64 0), (.int .i64 0), (.int .i64 0), (.int .i64 0), (.int .i64 0), (.int .i64 0)] [(0, (12, (.t 106)))]) none), (MO.mk (some 108) (.app 12 96 (.t 104) (.t 107)) none), (MO.mk (some 12) (.mv (.t 108)) none)]
@[simp] theorem l44_17 : q44_17.length = 6 := rfl
def q44_18 : List MO := [(MO.mk (some 109) (.mv (.t 18)) none), (MO.mk (some 110) (.mv (.t 13)) none), (MO.mk (some 111) (.mv (.t 14)) none), (MO.mk (some 112) (.bin .add (.t 110) (.t 111)) none), (MO.mk (some 113) (.mv (.t 15)) none), (MO.mk (some 114) (.bin .add (.t 112) (.t 113)) none), (MO.mk (some 115) (.bin .lss (.t 109) (.t 114)) none)]
@[simp] theorem l44_18 : q44_18.length = 7 := rfl
def q44_19 : List MO := [(MO.mk (some 116) (.mv (.t 12)) none), (MO.mk (some 117) (.mv (.t 17)) none), (MO.mk (some 118) (.mv (.t 9)) none), (MO.mk (some 119) (.mv (.t 16)) none), (MO.mk (some 120) (.call (.c (.fn 17 [])) [(.t 118), (.t 119)]) none), (MO.mk (some 121) (.build [(.int .i64 0), (.int .i64 0), (.int .i64 0), (.int .i64 0), (.int .i64 0), (.int .i64 0), (.int .i64 0), (.int .i64 0), (.int .i64 0), (.int .i64 0), (.int .i64 0), (.int .i64 0)] [(0, (1, (.c (.int .i64 4)))), (1, (1, (.t 117))), (2, (1, (.t 120)))]) none), (MO.mk (some 122) (.bsl 12 1 [(.int .i64 0), (.int .i64 0), (.int .i64 0), (.int .i64 0), (.int .i64 0), (.int .i64 0), (.int .i64 0), (.int .i64 0), (.int .i64 0), (.int .i64 0), (.int .i64 0), (.int .i64 0)] [(0, (12, (.t 121)))]) none), (MO.mk (some 123) (.app 12 96 (.t 116) (.t 122)) none), (MO.mk (some 12) (.mv (.t 123)) none)]
@[simp] theorem l44_19 : q44_19.length = 9 := rfl
def q44_20 : List MO := [(MO.mk (some 124) (.mv (.t 9)) none), (MO.mk (some 125) (.faddr 0 (.t 4)) none), (MO.mk (some 126) (.load false 1 (.t 125)) none), (MO.mk (some 127) (.faddr 2 (.t 4)) none), (MO.mk (some 128) (.load false 1 (.t 127)) none), (MO.mk (some 129) (.bin .mul (.c (.int .i64 2)) (.t 128)) none), (MO.mk (some 130) (.faddr 3 (.t 4)) none), (MO.mk (some 131) (.load false 1 (.t 130)) none), (MO.mk (some 132) (.bin .mul (.t 129) (.t 131)) none), (MO.mk (some 133) (.bin .add (.t 126) (.t 132)) none), (MO.mk (some 134) (.call (.c (.fn 17 [])) [(.t 124), (.t 133)]) none), (MO.mk (some 20) (.mv (.t 134)) none)]
@[simp] theorem l44_20 : q44_20.length = 12 := rfl
def q44_21 : List MO := [(MO.mk (some 135) (.mv (.t 9)) none), (MO.mk (some 136) (.call (.c (.fn 17 [])) [(.t 135), (.c (.int .i64 3))]) none), (MO.mk (some 137) (.bin .eql (.t 136) (.c (.int .i64 2))) none)]
@[simp] theorem l44_21 : q44_21.length = 3 := rfl
def q44_22 : List MO := [(MO.mk (some 138) (.mv (.t 20)) none), (MO.mk (some 17) (.mv (.t 138)) none)]
@[simp] theorem l44_22 : q44_22.length = 2 := rfl
def q44_23 : List MO := [(MO.mk (some 139) (.mv (.t 9)) none), (MO.mk (some 140) (.faddr 3 (.t 6)) none), (MO.mk (some 141) (.load false 1 (.t 140)) none), (MO.mk (some 142) (.call (.c (.fn 17 [])) [(.t 139), (.t 141)]) none), (MO.mk (some 143) (.bin .add (.c (.int .i64 1)) (.t 142)) none), (MO.mk (some 21) (.mv (.t 143)) none)]
@[simp] theorem l44_23 : q44_23.length = 6 := rfl
def q44_24 : List MO := [(MO.mk (some 144) (.mv (.t 21)) none), (MO.mk (some 145) (.bin .gtr (.t 144) (.c (.int .i64 0))) none)]
@[simp] theorem l44_24 : q44_24.length = 2 := rfl
def q44_25 : List MO := [(MO.mk (some 148) (.mv (.t 12)) none), (MO.mk (some 149) (.mv (.t 17)) none), (MO.mk (some 150) (.build [(.int .i64 0), (.int .i64 0), (.int .i64 0), (.int .i64 0), (.int .i64 0), (.int .i64 0), (.int .i64 0), (.int .i64 0), (.int .i64 0), (.int .i64 0), (.int .i64 0), (.int .i64 0)] [(0, (1, (.c (.int .i64 3)))), (1, (1, (.t 149)))]) none), (MO.mk (some 151) (.bsl 12 1 [(.int .i64 0), (.int .i64 0), (.int .i64 0), (.int .i64 0), (.int .i64 0), (.int .i64 0), (.int .i64 0), (.int .i64 0), (.int .i64 0), (.int .i64 0), (.int .i64 0), (.int .i64 0)] [(0, (12, (.t 150)))]) none), (MO.mk (some 152) (.app 12 96 (.t 148) (.t 151)) none), (MO.mk (some 12) (.mv (.t 152)) none)]
@[simp] theorem l44_25 : q44_25.length = 6 := rfl
def q44_26 : List MO := [(MO.mk (some 146) (.mv (.t 21)) none), (MO.mk (some 147) (.bin .sub (.t 146) (.c (.int .i64 1))) none), (MO.mk (some 21) (.mv (.t 147)) none)]
@[simp] theorem l44_26 : q44_26.length = 3 := rfl
def q44_27 : List MO := [(MO.mk (some 153) (.mv (.t 12)) none), (MO.mk (some 154) (.mv (.t 3)) none), (MO.mk (some 155) (.slc 12 (.t 153) none (some (.t 154))) none), (MO.mk (some 8) (.mv (.t 155)) none)]
@[simp] theorem l44_27 : q44_27.length = 4 := rfl
def m44 : MCode := .seq (.reg q44_0) (.seq (.reg q44_1) (.seq (.reg q44_2) (.seq (.reg q44_3) (.seq (.reg q44_4) (.seq (.draw q44_5 p44_5) (.seq (.reg q44_6) (.seq (.reg q44_7) (.seq (.block 0 (.loop (.seq (.seq (.reg q44_8) (.cond (.t 56) .skip (.exit 0))) (.block 1 (.seq (.reg q44_9) (.seq (.reg q44_10) (.seq (.seq (.reg q44_11) (.cond (.t 71) (.seq (.reg q44_12) (.seq (.draw q44_13 p44_13) (.exit 1))) .skip)) (.seq (.seq (.reg q44_14) (.cond (.t 96) (.seq (.reg q44_15) (.seq (.reg q44_16) (.seq (.reg q44_17) (.exit 1)))) .skip)) (.seq (.seq (.reg q44_18) (.cond (.t 115) (.seq (.reg q44_19) (.exit 1)) .skip)) (.seq (.reg q44_20) (.seq (.seq (.reg q44_21) (.cond (.t 137) (.reg q44_22) .skip)) (.seq (.reg q44_23) (.block 2 (.loop (.seq (.seq (.reg q44_24) (.cond (.t 145) .skip (.exit 2))) (.seq (.block 3 (.reg q44_25)) (.reg q44_26))))))))))))))))) (.seq (.reg q44_27) .ret)))))))))
theorem rc44 : rcOf Try.prog Try.f44 = some m44 := by kernel_rfl
theorem rv44 : rRVs Try.prog Try.f44.results.toList = some [(.t 8)] := by kernel_rfl
theorem nm44 : (Try.f44.name == "runtime.NumGoroutine") = false := by kernel_rfl
def q11_0 : List MO := [(MO.mk (some 4) (.box (.t 0)) none), (MO.mk (some 6) (.box (.t 2)) none), (MO.mk (some 8) (.mv (.c (.bool false))) none)]
@[simp] theorem l11_0 : q11_0.length = 3 := rfl
def q11_1 : List MO := [(MO.mk (some 15) (.load true 7 (.t 4)) none), (MO.mk (some 16) (.call (.c (.fn 26 [])) [(.t 15)]) none), (MO.mk (some 14) (.mv (.t 16)) none), (MO.mk (some 17) (.ext (.t 14) 0) none), (MO.mk (some 18) (.ext (.t 14) 1) none), (MO.mk (some 9) (.alloc [(.int .i64 0), (.int .i64 0), (.int .i64 0), (.int .i64 0), (.int .i64 0), (.int .i64 0), (.int .i64 0)]) none), (MO.mk none (.store 7 (.t 9) (.t 17)) none), (MO.mk (some 10) (.mv (.t 18)) none)]
@[simp] theorem l11_1 : q11_1.length = 8 := rfl
def q11_2 : List MO := [(MO.mk (some 19) (.load true 7 (.t 4)) none), (MO.mk (some 20) (.call (.c (.fn 27 [])) [(.t 19)]) none), (MO.mk (some 21) (.bin .geq (.t 20) (.c (.int .i64 0))) none), (MO.mk (some 22) (.mv (.t 21)) none), (MO.mk (some 23) (.load true 6 (.t 6)) (some (22, false))), (MO.mk (some 24) (.call (.c (.fn 28 [])) [(.t 23)]) (some (22, false))), (MO.mk (some 25) (.un .not (.t 24)) (some (22, false))), (MO.mk (some 26) (.pick (.t 22) (.c (.bool true)) (.t 25)) none), (MO.mk (some 27) (.mv (.t 26)) none), (MO.mk (some 28) (.mv (.t 3)) (some (27, false))), (MO.mk (some 29) (.bin .gtr (.t 28) (.c (.int .i64 2000))) (some (27, false))), (MO.mk (some 30) (.pick (.t 27) (.c (.bool true)) (.t 29)) none)]
@[simp] theorem l11_2 : q11_2.length = 12 := rfl
def q11_3 : List MO := [(MO.mk (some 31) (.call (.c (.fn 14 [])) []) none), (MO.mk (some 32) (.mv (.t 31)) none), (MO.mk (some 33) (.mv (.t 10)) (some (32, true))), (MO.mk (some 34) (.eq false .iface (.t 33) (.c (.raw .nilIface))) (some (32, true))), (MO.mk (some 35) (.load true 7 (.t 4)) (some (32, true))), (MO.mk (some 36) (.call (.c (.fn 27 [])) [(.t 35)]) (some (32, true))), (MO.mk (some 37) (.bin .lss (.t 36) (.c (.int .i64 0))) (some (32, true))), (MO.mk (some 38) (.eq false .bool (.t 34) (.t 37)) (some (32, true))), (MO.mk (some 39) (.pick (.t 32) (.t 38) (.c (.bool false))) none), (MO.mk (some 8) (.mv (.t 39)) none)]
@[simp] theorem l11_3 : q11_3.length = 10 := rfl
def p11_3 : List (List Nat) := [[], [0, 0], [1], [2, 1], [1], [4, 1, 1], [5, 1], [3, 6, 1], [1, 7], [8, 5, 0, 1, 2, 3, 4, 5, 6, 7, 8]]
def c11_3 : List (List Nat) := [[], [0], [0, 1], [0, 1, 2], [0, 1], [0, 1, 4], [0, 1, 4, 5], [0, 1, 2, 3, 4, 5, 6], [0, 1, 2, 3, 4, 5, 6, 7], [0, 1, 2, 3, 4, 5, 6, 7, 8]]
def q11_4 : List MO := [(MO.mk (some 40) (.load true 7 (.t 9)) none), (MO.mk (some 41) (.mv (.t 1)) none), (MO.mk (some 42) (.load true 6 (.t 6)) none), (MO.mk (some 43) (.mv (.t 3)) none), (MO.mk (some 44) (.call (.c (.fn 43 [])) [(.t 40), (.t 41), (.t 42), (.t 43)]) none), (MO.mk (some 45) (.load true 7 (.t 4)) none), (MO.mk (some 46) (.mv (.t 1)) none), (MO.mk (some 47) (.load true 6 (.t 6)) none), (MO.mk (some 48) (.mv (.t 3)) none), (MO.mk (some 49) (.call (.c (.fn 44 [])) [(.t 45), (.t 46), (.t 47), (.t 48)]) none), (MO.mk (some 50) (.call (.c (.fn 33 [])) [(.t 49)]) none), (MO.mk (some 11) (.mv (.t 44)) none), (MO.mk (some 12) (.mv (.t 50)) none)]
@[simp] theorem l11_4 : q11_4.length = 13 := rfl
def p11_4 : List (List Nat) := [[], [], [], [], [0, 1, 2, 3], [], [], [], [], [5, 6, 7, 8, 4], [9, 9], [4, 10, 0, 1, 2, 3, 4], [10, 11, 0, 1, 2, 3, 4, 5, 6, 7, 8, 9, 10, 11]]
def c11_4 : List (List Nat) := [[], [], [], [], [0, 1, 2, 3], [], [], [], [], [0, 1, 2, 3, 4, 5, 6, 7, 8], [0, 1, 2, 3, 4, 5, 6, 7, 8, 9], [0, 1, 2, 3, 4, 5, 6, 7, 8, 9, 10], [0, 1, 2, 3, 4, 5, 6, 7, 8, 9, 10, 11]]
def q11_5 : List MO := [(MO.mk (some 51) (.mv (.t 11)) none), (MO.mk (some 52) (.len (.t 51)) none), (MO.mk (some 53) (.mv (.t 12)) none), (MO.mk (some 54) (.len (.t 53)) none), (MO.mk (some 55) (.bin .neq (.t 52) (.t 54)) none)]
@[simp] theorem l11_5 : q11_5.length = 5 := rfl
def q11_6 : List MO := [(MO.mk (some 8) (.mv (.c (.bool false))) none)]
@[simp] theorem l11_6 : q11_6.length = 1 := rfl
def q11_7 : List MO := [(MO.mk (some 56) (.mv (.t 11)) none), (MO.mk (some 57) (.len (.t 56)) none), (MO.mk (some 58) (.mv (.c (.int .i64 0))) none)]
@[simp] theorem l11_7 : q11_7.length = 3 := rfl
def q11_8 : List MO := [(MO.mk (some 59) (.bin .lss (.t 58) (.t 57)) none)]
@[simp] theorem l11_8 : q11_8.length = 1 := rfl
def q11_9 : List MO := [(MO.mk (some 60) (.mv (.t 58)) none), (MO.mk (some 13) (.mv (.t 60)) none)]
@[simp] theorem l11_9 : q11_9.length = 2 := rfl
def q11_10 : List MO := [(MO.mk (some 61) (.mv (.t 11)) none), (MO.mk (some 62) (.mv (.t 13)) none), (MO.mk (some 63) (.iaddr 12 (.t 61) (.t 62)) none), (MO.mk (some 64) (.load true 12 (.t 63)) none), (MO.mk (some 65) (.mv (.t 12)) none), (MO.mk (some 66) (.mv (.t 13)) none), (MO.mk (some 67) (.iaddr 12 (.t 65) (.t 66)) none), (MO.mk (some 68) (.load true 12 (.t 67)) none), (MO.mk (some 69) (.eq true (.flat [.i, .i, .i, .i, .i, .i, .i, .i, .i, .i, .i, .i]) (.t 64) (.t 68)) none)]
@[simp] theorem l11_10 : q11_10.length = 9 := rfl
def p11_10 : List (List Nat) := [[], [], [0, 1], [2], [], [], [4, 5], [6], [3, 7]]
def c11_10 : List (List Nat) := [[], [], [0, 1], [0, 1, 2], [], [], [4, 5], [4, 5, 6], [0, 1, 2, 3, 4, 5, 6, 7]]
def q11_11 : List MO := [(MO.mk (some 8) (.mv (.c (.bool false))) none)]
@[simp] theorem l11_11 : q11_11.length = 1 := rfl
def q11_12 : List MO := [(MO.mk (some 70) (.bin .add (.t 58) (.c (.int .i64 1))) none), (MO.mk (some 58) (.mv (.t 70)) none)]
@[simp] theorem l11_12 : q11_12.length = 2 := rfl
def q11_13 : List MO := [(MO.mk (some 71) (.call (.c (.fn 14 [])) []) none), (MO.mk (some 8) (.mv (.t 71)) none)]
@[simp] theorem l11_13 : q11_13.length = 2 := rfl
def m11 : MCode := .seq (.reg q11_0) (.seq (.reg q11_1) (.seq (.seq (.reg q11_2) (.cond (.t 30) (.seq (.draw q11_3 p11_3) .ret) .skip)) (.seq (.draw q11_4 p11_4) (.seq (.seq (.reg q11_5) (.cond (.t 55) (.seq (.reg q11_6) .ret) .skip)) (.seq (.seq (.reg q11_7) (.block 0 (.loop (.seq (.reg q11_8) (.seq (.cond (.t 59) .skip (.exit 0)) (.seq (.block 1 (.seq (.reg q11_9) (.seq (.draw q11_10 p11_10) (.cond (.t 69) (.seq (.reg q11_11) .ret) .skip)))) (.reg q11_12))))))) (.seq (.reg q11_13) .ret))))))
theorem rc11 : rcOf Try.prog Try.f11 = some m11 := by kernel_rfl
theorem rv11 : rRVs Try.prog Try.f11.results.toList = some [(.t 8)] := by kernel_rfl
theorem nm11 : (Try.f11.name == "runtime.NumGoroutine") = false := by kernel_rfl
def q12_0 : List MO := [(MO.mk (some 5) (.box (.t 0)) none), (MO.mk (some 7) (.box (.t 2)) none), (MO.mk (some 10) (.mv (.c (.bool false))) none)]
@[simp] theorem l12_0 : q12_0.length = 3 := rfl
def q12_1 : List MO := [(MO.mk (some 17) (.load true 7 (.t 5)) none), (MO.mk (some 18) (.call (.c (.fn 26 [])) [(.t 17)]) none), (MO.mk (some 16) (.mv (.t 18)) none), (MO.mk (some 19) (.ext (.t 16) 0) none), (MO.mk (some 20) (.ext (.t 16) 1) none), (MO.mk (some 11) (.alloc [(.int .i64 0), (.int .i64 0), (.int .i64 0), (.int .i64 0), (.int .i64 0), (.int .i64 0), (.int .i64 0)]) none), (MO.mk none (.store 7 (.t 11) (.t 19)) none), (MO.mk (some 12) (.mv (.t 20)) none)]
@[simp] theorem l12_1 : q12_1.length = 8 := rfl
def q12_2 : List MO := [(MO.mk (some 21) (.mv (.t 12)) none), (MO.mk (some 22) (.eq true .iface (.t 21) (.c (.raw .nilIface))) none), (MO.mk (some 23) (.mv (.t 22)) none), (MO.mk (some 24) (.load true 6 (.t 7)) (some (23, false))), (MO.mk (some 25) (.call (.c (.fn 28 [])) [(.t 24)]) (some (23, false))), (MO.mk (some 26) (.un .not (.t 25)) (some (23, false))), (MO.mk (some 27) (.pick (.t 23) (.c (.bool true)) (.t 26)) none)]
@[simp] theorem l12_2 : q12_2.length = 7 := rfl
def q12_3 : List MO := [(MO.mk (some 28) (.call (.c (.fn 14 [])) []) none), (MO.mk (some 10) (.mv (.t 28)) none)]
@[simp] theorem l12_3 : q12_3.length = 2 := rfl
def q12_4 : List MO := [(MO.mk (some 29) (.load true 7 (.t 11)) none), (MO.mk (some 30) (.mv (.t 1)) none), (MO.mk (some 31) (.load true 6 (.t 7)) none), (MO.mk (some 32) (.mv (.t 3)) none), (MO.mk (some 33) (.conv .i64 (.t 32)) none), (MO.mk (some 34) (.call (.c (.fn 43 [])) [(.t 29), (.t 30), (.t 31), (.t 33)]) none), (MO.mk (some 13) (.mv (.t 34)) none)]
@[simp] theorem l12_4 : q12_4.length = 7 := rfl
def q12_5 : List MO := [(MO.mk (some 35) (.load true 7 (.t 11)) none), (MO.mk (some 36) (.mv (.t 1)) none), (MO.mk (some 37) (.load true 6 (.t 7)) none), (MO.mk (some 38) (.mv (.t 3)) none), (MO.mk (some 39) (.conv .i64 (.t 38)) none), (MO.mk (some 40) (.mv (.t 4)) none), (MO.mk (some 41) (.conv .i64 (.t 40)) none), (MO.mk (some 42) (.bin .add (.t 39) (.t 41)) none), (MO.mk (some 43) (.call (.c (.fn 43 [])) [(.t 35), (.t 36), (.t 37), (.t 42)]) none), (MO.mk (some 14) (.mv (.t 43)) none)]
@[simp] theorem l12_5 : q12_5.length = 10 := rfl
def q12_6 : List MO := [(MO.mk (some 44) (.mv (.t 13)) none), (MO.mk (some 45) (.len (.t 44)) none), (MO.mk (some 46) (.mv (.t 3)) none), (MO.mk (some 47) (.conv .i64 (.t 46)) none), (MO.mk (some 48) (.bin .neq (.t 45) (.t 47)) none), (MO.mk (some 49) (.mv (.t 48)) none), (MO.mk (some 50) (.mv (.t 14)) (some (49, false))), (MO.mk (some 51) (.len (.t 50)) (some (49, false))), (MO.mk (some 52) (.mv (.t 3)) (some (49, false))), (MO.mk (some 53) (.conv .i64 (.t 52)) (some (49, false))), (MO.mk (some 54) (.mv (.t 4)) (some (49, false))), (MO.mk (some 55) (.conv .i64 (.t 54)) (some (49, false))), (MO.mk (some 56) (.bin .add (.t 53) (.t 55)) (some (49, false))), (MO.mk (some 57) (.bin .neq (.t 51) (.t 56)) (some (49, false))), (MO.mk (some 58) (.pick (.t 49) (.c (.bool true)) (.t 57)) none)]
@[simp] theorem l12_6 : q12_6.length = 15 := rfl
def q12_7 : List MO := [(MO.mk (some 10) (.mv (.c (.bool false))) none)]
@[simp] theorem l12_7 : q12_7.length = 1 := rfl
def q12_8 : List MO := [(MO.mk (some 59) (.mv (.t 13)) none), (MO.mk (some 60) (.len (.t 59)) none), (MO.mk (some 61) (.mv (.c (.int .i64 0))) none)]
@[simp] theorem l12_8 : q12_8.length = 3 := rfl
def q12_9 : List MO := [(MO.mk (some 62) (.bin .lss (.t 61) (.t 60)) none)]
@[simp] theorem l12_9 : q12_9.length = 1 := rfl
def q12_10 : List MO := [(MO.mk (some 63) (.mv (.t 61)) none), (MO.mk (some 15) (.mv (.t 63)) none)]
@[simp] theorem l12_10 : q12_10.length = 2 := rfl
def q12_11 : List MO := [(MO.mk (some 64) (.mv (.t 13)) none), (MO.mk (some 65) (.mv (.t 15)) none), (MO.mk (some 66) (.iaddr 12 (.t 64) (.t 65)) none), (MO.mk (some 67) (.load true 12 (.t 66)) none), (MO.mk (some 68) (.mv (.t 14)) none), (MO.mk (some 69) (.mv (.t 15)) none), (MO.mk (some 70) (.iaddr 12 (.t 68) (.t 69)) none), (MO.mk (some 71) (.load true 12 (.t 70)) none), (MO.mk (some 72) (.eq true (.flat [.i, .i, .i, .i, .i, .i, .i, .i, .i, .i, .i, .i]) (.t 67) (.t 71)) none)]
@[simp] theorem l12_11 : q12_11.length = 9 := rfl
def p12_11 : List (List Nat) := [[], [], [0, 1], [2], [], [], [4, 5], [6], [3, 7]]
def c12_11 : List (List Nat) := [[], [], [0, 1], [0, 1, 2], [], [], [4, 5], [4, 5, 6], [0, 1, 2, 3, 4, 5, 6, 7]]
def q12_12 : List MO := [(MO.mk (some 10) (.mv (.c (.bool false))) none)]
@[simp] theorem l12_12 : q12_12.length = 1 := rfl
def q12_13 : List MO := [(MO.mk (some 73) (.bin .add (.t 61) (.c (.int .i64 1))) none), (MO.mk (some 61) (.mv (.t 73)) none)]
@[simp] theorem l12_13 : q12_13.length = 2 := rfl
def q12_14 : List MO := [(MO.mk (some 74) (.call (.c (.fn 14 [])) []) none), (MO.mk (some 10) (.mv (.t 74)) none)]
@[simp] theorem l12_14 : q12_14.length = 2 := rfl
def m12 : MCode := .seq (.reg q12_0) (.seq (.reg q12_1) (.seq (.seq (.reg q12_2) (.cond (.t 27) (.seq (.reg q12_3) .ret) .skip)) (.seq (.reg q12_4) (.seq (.reg q12_5) (.seq (.seq (.reg q12_6) (.cond (.t 58) (.seq (.reg q12_7) .ret) .skip)) (.seq (.seq (.reg q12_8) (.block 0 (.loop (.seq (.reg q12_9) (.seq (.cond (.t 62) .skip (.exit 0)) (.seq (.block 1 (.seq (.reg q12_10) (.seq (.draw q12_11 p12_11) (.cond (.t 72) (.seq (.reg q12_12) .ret) .skip)))) (.reg q12_13))))))) (.seq (.reg q12_14) .ret)))))))
theorem rc12 : rcOf Try.prog Try.f12 = some m12 := by kernel_rfl
theorem rv12 : rRVs Try.prog Try.f12.results.toList = some [(.t 10)] := by kernel_rfl
theorem nm12 : (Try.f12.name == "runtime.NumGoroutine") = false := by kernel_rfl
end Go.W
