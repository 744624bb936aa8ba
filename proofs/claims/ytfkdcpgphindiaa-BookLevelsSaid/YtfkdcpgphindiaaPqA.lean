/- The resolved code of the functions, by a program. -/
import Derived.Test.YtfkdcpgphindiaaChecked
import Derived.Test.YtfkdcpgphindiaaWkC
namespace Go.W
open Go.Proofs
set_option maxRecDepth 100000
theorem mixT : Try.prog.follows .mixedOrders = true := Try.checked.mixed
def q8_0 : List MO := [Ma 1 (.box (.t 0)), Ma 2 (.alloc [(.int .i64 0), (.int .i64 0), (.int .i64 0), (.int .i64 0), (.int .i64 0), (.int .i64 0), (.int .i64 0)]), Ma 3 (.mv (.c (.raw .nilIface)))]
@[simp] theorem l8_0 : q8_0.length = 3 := rfl
instance : KR Try.f8.ntmps q8_0 := ⟨[1, 2], by kernel_rfl⟩
def q8_1 : List MO := [Ma 6 (.load true 7 (.t 1)), Ma 7 (.call (.c (.fn 24 [])) [(.t 6)]), Ma 8 (.len (.t 7)), Ma 9 (.mv (.c (.int .i64 0)))]
@[simp] theorem l8_1 : q8_1.length = 4 := rfl
instance : KR Try.f8.ntmps q8_1 := ⟨[1, 2, 7, 8, 9], by kernel_rfl⟩
def q8_2 : List MO := [Ma 10 (.bin .lss (.t 9) (.t 8))]
@[simp] theorem l8_2 : q8_2.length = 1 := rfl
instance : KR Try.f8.ntmps q8_2 := ⟨[1, 2, 7, 8, 9, 10], by kernel_rfl⟩
def q8_3 : List MO := [Ma 11 (.mv (.t 9)), Ma 12 (.iaddr 4 (.t 7) (.t 9)), Ma 13 (.load true 4 (.t 12)), Ma 5 (.alloc [(.str (ByteArray.mk #[])), (.int .i64 0), (.int .i64 0), (.int .i64 0)]), Ma 4 (.mv (.t 11)), Mb (.store 4 (.t 5) (.t 13))]
@[simp] theorem l8_3 : q8_3.length = 6 := rfl
instance : KR Try.f8.ntmps q8_3 := ⟨[1, 2, 4, 5, 7, 8, 9], by kernel_rfl⟩
def q8_4 : List MO := [Ma 14 (.faddr 1 (.t 5)), Ma 15 (.load false 1 (.t 14)), Ma 16 (.faddr 2 (.t 5)), Ma 17 (.load false 1 (.t 16)), Ma 18 (.bin .lss (.t 15) (.t 17)), Ma 19 (.mv (.t 18)), Mg 20 (.faddr 1 (.t 5)) 19 false, Mg 21 (.load false 1 (.t 20)) 19 false, Mg 22 (.faddr 3 (.t 5)) 19 false, Mg 23 (.load false 1 (.t 22)) 19 false, Mg 24 (.bin .gtr (.t 21) (.t 23)) 19 false, Ma 25 (.pick (.t 19) (.c (.bool true)) (.t 24))]
@[simp] theorem l8_4 : q8_4.length = 12 := rfl
instance : KR Try.f8.ntmps q8_4 := ⟨[1, 2, 4, 5, 7, 8, 9, 25], by kernel_rfl⟩
def q8_5 : List MO := [Ma 26 (.build [(.int .i64 0), (.int .i64 0), (.int .i64 0), (.int .i64 0), (.int .i64 0), (.int .i64 0), (.int .i64 0)] []), Ma 27 (.mv (.t 4)), Ma 28 (.faddr 0 (.t 5)), Ma 29 (.load false 1 (.t 28)), Ma 30 (.mkif 74 (.c (.int .i64 5))), Ma 31 (.call (.c (.fn 26 [])) [(.t 29), (.t 30)]), Ma 32 (.call (.c (.fn 25 [])) [(.t 27), (.t 31)]), Mb (.store 7 (.t 2) (.t 26)), Ma 3 (.mv (.t 32))]
@[simp] theorem l8_5 : q8_5.length = 9 := rfl
instance : KR Try.f8.ntmps q8_5 := ⟨[2, 3], by kernel_rfl⟩
def q8_6 : List MO := [Ma 33 (.bin .add (.t 9) (.c (.int .i64 1))), Ma 9 (.mv (.t 33))]
@[simp] theorem l8_6 : q8_6.length = 2 := rfl
instance : KR Try.f8.ntmps q8_6 := ⟨[1, 2, 7, 8, 9], by kernel_rfl⟩
def q8_7 : List MO := [Ma 34 (.load true 7 (.t 1)), Ma 35 (.build [(.int .i64 0), (.int .i64 0), (.int .i64 0), (.int .i64 0), (.int .i64 0), (.int .i64 0), (.int .i64 0)] [(0, (7, (.t 34)))]), Mb (.store 7 (.t 2) (.t 35)), Ma 3 (.mv (.c (.raw .nilIface)))]
@[simp] theorem l8_7 : q8_7.length = 4 := rfl
instance : KR Try.f8.ntmps q8_7 := ⟨[2, 3], by kernel_rfl⟩
def m8 : MCode := .seq (.reg q8_0) (.seq (.seq (.reg q8_1) (.block 0 (.loop (.seq (.reg q8_2) (.seq (.cond (.t 10) .skip (.exit 0)) (.seq (.block 1 (.seq (.reg q8_3) (.seq (.reg q8_4) (.cond (.t 25) (.seq (.reg q8_5) .ret) .skip)))) (.reg q8_6))))))) (.seq (.reg q8_7) .ret))
theorem rc8 : rcOf Try.prog Try.f8 = some m8 := by kernel_rfl
theorem rv8 : rRVs Try.prog Try.f8.results.toList = some [(.c true 7 2), (.t 3)] := by kernel_rfl
theorem nm8 : (Try.f8.name == "runtime.NumGoroutine") = false := by kernel_rfl
def q9_0 : List MO := [Ma 1 (.box (.t 0)), Ma 2 (.mv (.c (.int .i64 0)))]
@[simp] theorem l9_0 : q9_0.length = 2 := rfl
instance : KR Try.f9.ntmps q9_0 := ⟨[1], by kernel_rfl⟩
def q9_1 : List MO := [Ma 3 (.faddr 0 (.t 1)), Ma 4 (.faddr 2 (.t 3)), Ma 5 (.load false 1 (.t 4)), Ma 6 (.faddr 0 (.t 1)), Ma 7 (.faddr 3 (.t 6)), Ma 8 (.load false 1 (.t 7)), Ma 9 (.bin .mul (.t 5) (.t 8)), Ma 2 (.mv (.t 9))]
@[simp] theorem l9_1 : q9_1.length = 8 := rfl
instance : KR Try.f9.ntmps q9_1 := ⟨[2], by kernel_rfl⟩
def m9 : MCode := .seq (.reg q9_0) (.seq (.reg q9_1) .ret)
theorem rc9 : rcOf Try.prog Try.f9 = some m9 := by kernel_rfl
theorem rv9 : rRVs Try.prog Try.f9.results.toList = some [(.t 2)] := by kernel_rfl
theorem nm9 : (Try.f9.name == "runtime.NumGoroutine") = false := by kernel_rfl
def q22_0 : List MO := [Ma 1 (.box (.t 0)), Ma 2 (.mv (.c (.int .i64 0)))]
@[simp] theorem l22_0 : q22_0.length = 2 := rfl
instance : KR Try.f22.ntmps q22_0 := ⟨[1], by kernel_rfl⟩
def q22_1 : List MO := [Ma 7 (.faddr 0 (.t 1)), Ma 8 (.load false 1 (.t 7)), Ma 9 (.faddr 1 (.t 1)), Ma 10 (.load false 1 (.t 9)), Ma 11 (.faddr 2 (.t 1)), Ma 12 (.load false 1 (.t 11)), Ma 13 (.faddr 3 (.t 1)), Ma 14 (.load false 1 (.t 13)), Ma 15 (.faddr 4 (.t 1)), Ma 16 (.load false 1 (.t 15)), Ma 17 (.faddr 5 (.t 1)), Ma 18 (.load false 1 (.t 17)), Ma 19 (.faddr 6 (.t 1)), Ma 20 (.load false 1 (.t 19)), Ma 21 (.bsl 1 7 [(.int .i64 0)] [(0, (1, (.t 8))), (1, (1, (.t 10))), (2, (1, (.t 12))), (3, (1, (.t 14))), (4, (1, (.t 16))), (5, (1, (.t 18))), (6, (1, (.t 20)))]), Ma 3 (.mv (.t 21))]
@[simp] theorem l22_1 : q22_1.length = 16 := rfl
instance : KR Try.f22.ntmps q22_1 := ⟨[3], by kernel_rfl⟩
def q22_2 : List MO := [Ma 22 (.bsl 1 7 [(.int .i64 0)] [(0, (1, (.c (.int .i64 1)))), (1, (1, (.c (.int .i64 1)))), (2, (1, (.c (.int .i64 1)))), (3, (1, (.c (.int .i64 1)))), (4, (1, (.c (.int .i64 0)))), (5, (1, (.c (.int .i64 1)))), (6, (1, (.c (.int .i64 1))))]), Ma 4 (.mv (.t 22))]
@[simp] theorem l22_2 : q22_2.length = 2 := rfl
instance : KR Try.f22.ntmps q22_2 := ⟨[3, 4], by kernel_rfl⟩
def q22_3 : List MO := [Ma 23 (.bsl 1 7 [(.int .i64 0)] [(0, (1, (.c (.int .i64 6)))), (1, (1, (.c (.int .i64 4)))), (2, (1, (.c (.int .i64 3)))), (3, (1, (.c (.int .i64 4)))), (4, (1, (.c (.int .i64 4)))), (5, (1, (.c (.int .i64 4)))), (6, (1, (.c (.int .i64 15))))]), Ma 5 (.mv (.t 23))]
@[simp] theorem l22_3 : q22_3.length = 2 := rfl
instance : KR Try.f22.ntmps q22_3 := ⟨[3, 4, 5], by kernel_rfl⟩
def q22_4 : List MO := [Ma 6 (.mv (.c (.int .i64 0)))]
@[simp] theorem l22_4 : q22_4.length = 1 := rfl
instance : KR Try.f22.ntmps q22_4 := ⟨[3, 4, 5, 6], by kernel_rfl⟩
def q22_5 : List MO := [Ma 24 (.mv (.t 6)), Ma 25 (.mv (.t 3)), Ma 26 (.len (.t 25)), Ma 27 (.bin .lss (.t 24) (.t 26))]
@[simp] theorem l22_5 : q22_5.length = 4 := rfl
instance : KR Try.f22.ntmps q22_5 := ⟨[3, 4, 5, 6, 27], by kernel_rfl⟩
def q22_6 : List MO := [Ma 30 (.mv (.t 3)), Ma 31 (.mv (.t 6)), Ma 32 (.iaddr 1 (.t 30) (.t 31)), Ma 33 (.load false 1 (.t 32)), Ma 34 (.mv (.t 4)), Ma 35 (.mv (.t 6)), Ma 36 (.iaddr 1 (.t 34) (.t 35)), Ma 37 (.load false 1 (.t 36)), Ma 38 (.bin .lss (.t 33) (.t 37)), Ma 39 (.mv (.t 38)), Mg 40 (.mv (.t 3)) 39 false, Mg 41 (.mv (.t 6)) 39 false, Mg 42 (.iaddr 1 (.t 40) (.t 41)) 39 false, Mg 43 (.load false 1 (.t 42)) 39 false, Mg 44 (.mv (.t 5)) 39 false, Mg 45 (.mv (.t 6)) 39 false, Mg 46 (.iaddr 1 (.t 44) (.t 45)) 39 false, Mg 47 (.load false 1 (.t 46)) 39 false, Mg 48 (.bin .gtr (.t 43) (.t 47)) 39 false, Ma 49 (.pick (.t 39) (.c (.bool true)) (.t 48))]
@[simp] theorem l22_6 : q22_6.length = 20 := rfl
def p22_6 : List (List Nat) := [[], [], [0, 1], [2], [], [], [4, 5], [6], [3, 7], [8], [9], [9], [10, 11, 9], [12, 9], [9], [9], [14, 15, 9], [16, 9], [13, 17, 9], [9, 18]]
instance : KD Try.f22.ntmps q22_6 p22_6 := ⟨[[], [], [0, 1], [0, 1, 2], [], [], [4, 5], [4, 5, 6], [0, 1, 2, 3, 4, 5, 6, 7], [0, 1, 2, 3, 4, 5, 6, 7, 8], [0, 1, 2, 3, 4, 5, 6, 7, 8, 9], [0, 1, 2, 3, 4, 5, 6, 7, 8, 9], [0, 1, 2, 3, 4, 5, 6, 7, 8, 9, 10, 11], [0, 1, 2, 3, 4, 5, 6, 7, 8, 9, 10, 11, 12], [0, 1, 2, 3, 4, 5, 6, 7, 8, 9], [0, 1, 2, 3, 4, 5, 6, 7, 8, 9], [0, 1, 2, 3, 4, 5, 6, 7, 8, 9, 14, 15], [0, 1, 2, 3, 4, 5, 6, 7, 8, 9, 14, 15, 16], [0, 1, 2, 3, 4, 5, 6, 7, 8, 9, 10, 11, 12, 13, 14, 15, 16, 17], [0, 1, 2, 3, 4, 5, 6, 7, 8, 9, 10, 11, 12, 13, 14, 15, 16, 17, 18]], [3, 4, 5, 6, 49], by kernel_rfl⟩
def q22_7 : List MO := [Ma 50 (.mv (.t 6)), Ma 2 (.mv (.t 50))]
@[simp] theorem l22_7 : q22_7.length = 2 := rfl
instance : KR Try.f22.ntmps q22_7 := ⟨[2], by kernel_rfl⟩
def q22_8 : List MO := [Ma 28 (.mv (.t 6)), Ma 29 (.bin .add (.t 28) (.c (.int .i64 1))), Ma 6 (.mv (.t 29))]
@[simp] theorem l22_8 : q22_8.length = 3 := rfl
instance : KR Try.f22.ntmps q22_8 := ⟨[3, 4, 5, 6], by kernel_rfl⟩
def q22_9 : List MO := [Ma 2 (.mv (.c (.int .i64 (-1))))]
@[simp] theorem l22_9 : q22_9.length = 1 := rfl
instance : KR Try.f22.ntmps q22_9 := ⟨[2], by kernel_rfl⟩
def m22 : MCode := .seq (.reg q22_0) (.seq (.reg q22_1) (.seq (.reg q22_2) (.seq (.reg q22_3) (.seq (.seq (.reg q22_4) (.block 0 (.loop (.seq (.seq (.reg q22_5) (.cond (.t 27) .skip (.exit 0))) (.seq (.block 1 (.seq (.draw q22_6 p22_6) (.cond (.t 49) (.seq (.reg q22_7) .ret) .skip))) (.reg q22_8)))))) (.seq (.reg q22_9) .ret)))))
theorem rc22 : rcOf Try.prog Try.f22 = some m22 := by kernel_rfl
theorem rv22 : rRVs Try.prog Try.f22.results.toList = some [(.t 2)] := by kernel_rfl
theorem nm22 : (Try.f22.name == "runtime.NumGoroutine") = false := by kernel_rfl
def q24_0 : List MO := [Ma 1 (.box (.t 0)), Ma 2 (.mv (.c .nsl))]
@[simp] theorem l24_0 : q24_0.length = 2 := rfl
instance : KR Try.f24.ntmps q24_0 := ⟨[1], by kernel_rfl⟩
def q24_1 : List MO := [Ma 3 (.faddr 0 (.t 1)), Ma 4 (.load false 1 (.t 3)), Ma 5 (.build [(.str (ByteArray.mk #[])), (.int .i64 0), (.int .i64 0), (.int .i64 0)] [(0, (1, (.c (.str (ByteArray.mk #[112, 97, 114, 116, 115]))))), (1, (1, (.t 4))), (2, (1, (.c (.int .i64 1)))), (3, (1, (.c (.int .i64 6))))]), Ma 6 (.faddr 1 (.t 1)), Ma 7 (.load false 1 (.t 6)), Ma 8 (.build [(.str (ByteArray.mk #[])), (.int .i64 0), (.int .i64 0), (.int .i64 0)] [(0, (1, (.c (.str (ByteArray.mk #[99, 101, 108, 108, 115]))))), (1, (1, (.t 7))), (2, (1, (.c (.int .i64 1)))), (3, (1, (.c (.int .i64 4))))]), Ma 9 (.faddr 2 (.t 1)), Ma 10 (.load false 1 (.t 9)), Ma 11 (.build [(.str (ByteArray.mk #[])), (.int .i64 0), (.int .i64 0), (.int .i64 0)] [(0, (1, (.c (.str (ByteArray.mk #[110, 97, 109, 101, 115]))))), (1, (1, (.t 10))), (2, (1, (.c (.int .i64 1)))), (3, (1, (.c (.int .i64 3))))]), Ma 12 (.faddr 3 (.t 1)), Ma 13 (.load false 1 (.t 12)), Ma 14 (.build [(.str (ByteArray.mk #[])), (.int .i64 0), (.int .i64 0), (.int .i64 0)] [(0, (1, (.c (.str (ByteArray.mk #[98, 97, 110, 100, 115]))))), (1, (1, (.t 13))), (2, (1, (.c (.int .i64 1)))), (3, (1, (.c (.int .i64 4))))]), Ma 15 (.faddr 4 (.t 1)), Ma 16 (.load false 1 (.t 15)), Ma 17 (.build [(.str (ByteArray.mk #[])), (.int .i64 0), (.int .i64 0), (.int .i64 0)] [(0, (1, (.c (.str (ByteArray.mk #[112, 114, 111, 98, 101, 115]))))), (1, (1, (.t 16))), (2, (1, (.c (.int .i64 0)))), (3, (1, (.c (.int .i64 4))))]), Ma 18 (.faddr 5 (.t 1)), Ma 19 (.load false 1 (.t 18)), Ma 20 (.build [(.str (ByteArray.mk #[])), (.int .i64 0), (.int .i64 0), (.int .i64 0)] [(0, (1, (.c (.str (ByteArray.mk #[102, 105, 108, 108, 115]))))), (1, (1, (.t 19))), (2, (1, (.c (.int .i64 1)))), (3, (1, (.c (.int .i64 4))))]), Ma 21 (.faddr 6 (.t 1)), Ma 22 (.load false 1 (.t 21)), Ma 23 (.build [(.str (ByteArray.mk #[])), (.int .i64 0), (.int .i64 0), (.int .i64 0)] [(0, (1, (.c (.str (ByteArray.mk #[103, 101, 110, 115]))))), (1, (1, (.t 22))), (2, (1, (.c (.int .i64 1)))), (3, (1, (.c (.int .i64 15))))]), Ma 24 (.bsl 4 7 [(.str (ByteArray.mk #[])), (.int .i64 0), (.int .i64 0), (.int .i64 0)] [(0, (4, (.t 5))), (4, (4, (.t 8))), (8, (4, (.t 11))), (12, (4, (.t 14))), (16, (4, (.t 17))), (20, (4, (.t 20))), (24, (4, (.t 23)))]), Ma 2 (.mv (.t 24))]
@[simp] theorem l24_1 : q24_1.length = 23 := rfl
instance : KR Try.f24.ntmps q24_1 := ⟨[2], by kernel_rfl⟩
def m24 : MCode := .seq (.reg q24_0) (.seq (.reg q24_1) .ret)
theorem rc24 : rcOf Try.prog Try.f24 = some m24 := by kernel_rfl
theorem rv24 : rRVs Try.prog Try.f24.results.toList = some [(.t 2)] := by kernel_rfl
theorem nm24 : (Try.f24.name == "runtime.NumGoroutine") = false := by kernel_rfl
def q25_0 : List MO := [Ma 4 (.mv (.c (.raw .nilIface)))]
@[simp] theorem l25_0 : q25_0.length = 1 := rfl
instance : KR Try.f25.ntmps q25_0 := ⟨[0, 1], by kernel_rfl⟩
def q25_1 : List MO := [Ma 5 (.mv (.t 1)), Ma 6 (.eq false .iface (.t 5) (.c (.raw .nilIface)))]
@[simp] theorem l25_1 : q25_1.length = 2 := rfl
instance : KR Try.f25.ntmps q25_1 := ⟨[0, 1, 6], by kernel_rfl⟩
def q25_2 : List MO := [Ma 4 (.mv (.c (.raw .nilIface)))]
@[simp] theorem l25_2 : q25_2.length = 1 := rfl
instance : KR Try.f25.ntmps q25_2 := ⟨[4], by kernel_rfl⟩
def q25_3 : List MO := [Ma 7 (.mv (.t 0)), Ma 8 (.mv (.t 1)), Ma 9 (.build [(.int .i64 0), (.raw .nilIface)] [(0, (1, (.t 7))), (1, (1, (.t 8)))]), Ma 10 (.box (.t 9)), Ma 11 (.mkif 93 (.t 10)), Ma 4 (.mv (.t 11))]
@[simp] theorem l25_3 : q25_3.length = 6 := rfl
instance : KR Try.f25.ntmps q25_3 := ⟨[4], by kernel_rfl⟩
def m25 : MCode := .seq (.reg q25_0) (.seq (.seq (.reg q25_1) (.cond (.t 6) (.seq (.reg q25_2) .ret) .skip)) (.seq (.reg q25_3) .ret))
theorem rc25 : rcOf Try.prog Try.f25 = some m25 := by kernel_rfl
theorem rv25 : rRVs Try.prog Try.f25.results.toList = some [(.t 4)] := by kernel_rfl
theorem nm25 : (Try.f25.name == "runtime.NumGoroutine") = false := by kernel_rfl
def q26_0 : List MO := [Ma 4 (.mv (.c (.raw .nilIface)))]
@[simp] theorem l26_0 : q26_0.length = 1 := rfl
instance : KR Try.f26.ntmps q26_0 := ⟨[0, 1], by kernel_rfl⟩
def q26_1 : List MO := [Ma 5 (.mv (.t 1)), Ma 6 (.eq false .iface (.t 5) (.c (.raw .nilIface)))]
@[simp] theorem l26_1 : q26_1.length = 2 := rfl
instance : KR Try.f26.ntmps q26_1 := ⟨[0, 1, 6], by kernel_rfl⟩
def q26_2 : List MO := [Ma 4 (.mv (.c (.raw .nilIface)))]
@[simp] theorem l26_2 : q26_2.length = 1 := rfl
instance : KR Try.f26.ntmps q26_2 := ⟨[4], by kernel_rfl⟩
def q26_3 : List MO := [Ma 7 (.mv (.t 0)), Ma 8 (.mv (.t 1)), Ma 9 (.build [(.str (ByteArray.mk #[])), (.raw .nilIface)] [(0, (1, (.t 7))), (1, (1, (.t 8)))]), Ma 10 (.box (.t 9)), Ma 11 (.mkif 96 (.t 10)), Ma 4 (.mv (.t 11))]
@[simp] theorem l26_3 : q26_3.length = 6 := rfl
instance : KR Try.f26.ntmps q26_3 := ⟨[4], by kernel_rfl⟩
def m26 : MCode := .seq (.reg q26_0) (.seq (.seq (.reg q26_1) (.cond (.t 6) (.seq (.reg q26_2) .ret) .skip)) (.seq (.reg q26_3) .ret))
theorem rc26 : rcOf Try.prog Try.f26 = some m26 := by kernel_rfl
theorem rv26 : rRVs Try.prog Try.f26.results.toList = some [(.t 4)] := by kernel_rfl
theorem nm26 : (Try.f26.name == "runtime.NumGoroutine") = false := by kernel_rfl
def q27_0 : List MO := [Ma 2 (.box (.t 0)), Ma 3 (.box (.t 1)), Ma 4 (.mv (.c (.int .i64 0)))]
@[simp] theorem l27_0 : q27_0.length = 3 := rfl
instance : KR Try.f27.ntmps q27_0 := ⟨[2, 3], by kernel_rfl⟩
def q27_1 : List MO := [Ma 5 (.load true 7 (.t 2)), Ma 6 (.faddr 0 (.t 3)), Ma 7 (.load false 1 (.t 6)), Ma 8 (.load true 7 (.t 2)), Ma 9 (.faddr 2 (.t 3)), Ma 10 (.load false 1 (.t 9)), Ma 11 (.call (.c (.fn 41 [])) [(.t 8), (.t 10)]), Ma 12 (.call (.c (.fn 40 [])) [(.t 5), (.t 7), (.t 11)]), Ma 4 (.mv (.t 12))]
@[simp] theorem l27_1 : q27_1.length = 9 := rfl
def p27_1 : List (List Nat) := [[], [], [1], [], [], [4], [3, 5], [0, 2, 6, 6], [7, 7, 0, 1, 2, 3, 4, 5, 6, 7]]
instance : KD Try.f27.ntmps q27_1 p27_1 := ⟨[[], [], [1], [], [], [4], [3, 4, 5], [0, 1, 2, 3, 4, 5, 6], [0, 1, 2, 3, 4, 5, 6, 7]], [4], by kernel_rfl⟩
def m27 : MCode := .seq (.reg q27_0) (.seq (.draw q27_1 p27_1) .ret)
theorem rc27 : rcOf Try.prog Try.f27 = some m27 := by kernel_rfl
theorem rv27 : rRVs Try.prog Try.f27.results.toList = some [(.t 4)] := by kernel_rfl
theorem nm27 : (Try.f27.name == "runtime.NumGoroutine") = false := by kernel_rfl
def q28_0 : List MO := [Ma 6 (.mv (.c (.bool false)))]
@[simp] theorem l28_0 : q28_0.length = 1 := rfl
instance : KR Try.f28.ntmps q28_0 := ⟨[0, 1, 2], by kernel_rfl⟩
def q28_1 : List MO := [Ma 7 (.mv (.t 0)), Ma 8 (.bin .eql (.t 7) (.c (.int .i64 0)))]
@[simp] theorem l28_1 : q28_1.length = 2 := rfl
instance : KR Try.f28.ntmps q28_1 := ⟨[1, 2, 8], by kernel_rfl⟩
def q28_2 : List MO := [Ma 9 (.mv (.t 1)), Ma 10 (.mv (.t 2)), Ma 11 (.bin .gtr (.t 9) (.t 10)), Ma 6 (.mv (.t 11))]
@[simp] theorem l28_2 : q28_2.length = 4 := rfl
instance : KR Try.f28.ntmps q28_2 := ⟨[6], by kernel_rfl⟩
def q28_3 : List MO := [Ma 12 (.mv (.t 1)), Ma 13 (.mv (.t 2)), Ma 14 (.bin .lss (.t 12) (.t 13)), Ma 6 (.mv (.t 14))]
@[simp] theorem l28_3 : q28_3.length = 4 := rfl
instance : KR Try.f28.ntmps q28_3 := ⟨[6], by kernel_rfl⟩
def m28 : MCode := .seq (.reg q28_0) (.seq (.seq (.reg q28_1) (.cond (.t 8) (.seq (.reg q28_2) .ret) .skip)) (.seq (.reg q28_3) .ret))
theorem rc28 : rcOf Try.prog Try.f28 = some m28 := by kernel_rfl
theorem rv28 : rRVs Try.prog Try.f28.results.toList = some [(.t 6)] := by kernel_rfl
theorem nm28 : (Try.f28.name == "runtime.NumGoroutine") = false := by kernel_rfl
def q32_0 : List MO := [Ma 2 (.box (.t 0)), Ma 3 (.box (.t 1)), Ma 4 (.mv (.c (.int .i64 0)))]
@[simp] theorem l32_0 : q32_0.length = 3 := rfl
instance : KR Try.f32.ntmps q32_0 := ⟨[2, 3], by kernel_rfl⟩
def q32_1 : List MO := [Ma 6 (.load true 7 (.t 2)), Ma 7 (.faddr 2 (.t 3)), Ma 8 (.load false 1 (.t 7)), Ma 9 (.call (.c (.fn 45 [])) [(.t 6), (.t 8)]), Ma 5 (.mv (.t 9))]
@[simp] theorem l32_1 : q32_1.length = 5 := rfl
instance : KR Try.f32.ntmps q32_1 := ⟨[2, 3, 5], by kernel_rfl⟩
def q32_2 : List MO := [Ma 10 (.faddr 0 (.t 3)), Ma 11 (.load false 1 (.t 10)), Ma 12 (.bin .lss (.t 11) (.c (.int .i64 0))), Ma 13 (.mv (.t 12)), Mg 14 (.faddr 0 (.t 3)) 13 false, Mg 15 (.load false 1 (.t 14)) 13 false, Mg 16 (.faddr 2 (.t 2)) 13 false, Mg 17 (.load false 1 (.t 16)) 13 false, Mg 18 (.bin .geq (.t 15) (.t 17)) 13 false, Ma 19 (.pick (.t 13) (.c (.bool true)) (.t 18)), Ma 20 (.mv (.t 19)), Mg 21 (.mv (.t 5)) 20 false, Mg 22 (.bin .lss (.t 21) (.c (.int .i64 0))) 20 false, Ma 23 (.pick (.t 20) (.c (.bool true)) (.t 22))]
@[simp] theorem l32_2 : q32_2.length = 14 := rfl
instance : KR Try.f32.ntmps q32_2 := ⟨[2, 3, 5, 23], by kernel_rfl⟩
def q32_3 : List MO := [Ma 4 (.mv (.c (.int .i64 (-1))))]
@[simp] theorem l32_3 : q32_3.length = 1 := rfl
instance : KR Try.f32.ntmps q32_3 := ⟨[4], by kernel_rfl⟩
def q32_4 : List MO := [Ma 24 (.faddr 0 (.t 3)), Ma 25 (.load false 1 (.t 24)), Ma 26 (.faddr 3 (.t 2)), Ma 27 (.load false 1 (.t 26)), Ma 28 (.bin .mul (.t 25) (.t 27)), Ma 29 (.mv (.t 5)), Ma 30 (.bin .add (.t 28) (.t 29)), Ma 4 (.mv (.t 30))]
@[simp] theorem l32_4 : q32_4.length = 8 := rfl
instance : KR Try.f32.ntmps q32_4 := ⟨[4], by kernel_rfl⟩
def m32 : MCode := .seq (.reg q32_0) (.seq (.reg q32_1) (.seq (.seq (.reg q32_2) (.cond (.t 23) (.seq (.reg q32_3) .ret) .skip)) (.seq (.reg q32_4) .ret)))
theorem rc32 : rcOf Try.prog Try.f32 = some m32 := by kernel_rfl
theorem rv32 : rRVs Try.prog Try.f32.results.toList = some [(.t 4)] := by kernel_rfl
theorem nm32 : (Try.f32.name == "runtime.NumGoroutine") = false := by kernel_rfl
def q33_0 : List MO := [Ma 2 (.box (.t 0)), Ma 4 (.mv (.c (.int .i64 0)))]
@[simp] theorem l33_0 : q33_0.length = 2 := rfl
instance : KR Try.f33.ntmps q33_0 := ⟨[1, 2], by kernel_rfl⟩
def q33_1 : List MO := [Ma 5 (.mv (.t 1)), Ma 6 (.bin .lss (.t 5) (.c (.int .i64 0))), Ma 7 (.mv (.t 6)), Mg 8 (.mv (.t 1)) 7 false, Mg 9 (.load true 7 (.t 2)) 7 false, Mg 10 (.call (.c (.fn 46 [])) [(.t 9)]) 7 false, Mg 11 (.bin .geq (.t 8) (.t 10)) 7 false, Ma 12 (.pick (.t 7) (.c (.bool true)) (.t 11))]
@[simp] theorem l33_1 : q33_1.length = 8 := rfl
instance : KR Try.f33.ntmps q33_1 := ⟨[1, 2, 12], by kernel_rfl⟩
def q33_2 : List MO := [Ma 4 (.mv (.c (.int .i64 (-1))))]
@[simp] theorem l33_2 : q33_2.length = 1 := rfl
instance : KR Try.f33.ntmps q33_2 := ⟨[4], by kernel_rfl⟩
def q33_3 : List MO := [Ma 13 (.mv (.t 1)), Ma 14 (.faddr 0 (.t 2)), Ma 15 (.faddr 1 (.t 14)), Ma 16 (.load false 1 (.t 15)), Ma 17 (.bin .quo (.t 13) (.t 16)), Ma 4 (.mv (.t 17))]
@[simp] theorem l33_3 : q33_3.length = 6 := rfl
instance : KR Try.f33.ntmps q33_3 := ⟨[4], by kernel_rfl⟩
def m33 : MCode := .seq (.reg q33_0) (.seq (.seq (.reg q33_1) (.cond (.t 12) (.seq (.reg q33_2) .ret) .skip)) (.seq (.reg q33_3) .ret))
theorem rc33 : rcOf Try.prog Try.f33 = some m33 := by kernel_rfl
theorem rv33 : rRVs Try.prog Try.f33.results.toList = some [(.t 4)] := by kernel_rfl
theorem nm33 : (Try.f33.name == "runtime.NumGoroutine") = false := by kernel_rfl
def q34_0 : List MO := [Ma 4 (.box (.t 0)), Ma 5 (.box (.t 1)), Ma 8 (.alloc [(.int .i64 0), (.int .i64 0)])]
@[simp] theorem l34_0 : q34_0.length = 3 := rfl
instance : KR Try.f34.ntmps q34_0 := ⟨[2, 3, 4, 5, 8], by kernel_rfl⟩
def q34_1 : List MO := [Ma 12 (.load true 5 (.t 4)), Ma 13 (.load true 5 (.t 5)), Ma 9 (.alloc [(.int .i64 0), (.int .i64 0), (.int .i64 0), (.int .i64 0), (.int .i64 0)]), Ma 10 (.alloc [(.int .i64 0), (.int .i64 0), (.int .i64 0), (.int .i64 0), (.int .i64 0)]), Mb (.store 5 (.t 9) (.t 12)), Mb (.store 5 (.t 10) (.t 13))]
@[simp] theorem l34_1 : q34_1.length = 6 := rfl
def p34_1 : List (List Nat) := [[], [], [], [], [2, 0, 0, 2, 3], [3, 1, 4, 0, 1, 2, 3, 4]]
instance : KD Try.f34.ntmps q34_1 p34_1 := ⟨[[], [], [], [], [0, 2, 3], [0, 1, 2, 3, 4]], [2, 3, 4, 5, 8, 9, 10], by kernel_rfl⟩
def q34_2 : List MO := [Ma 14 (.faddr 1 (.t 4)), Ma 15 (.load false 1 (.t 14)), Ma 16 (.bin .eql (.t 15) (.c (.int .i64 1)))]
@[simp] theorem l34_2 : q34_2.length = 3 := rfl
instance : KR Try.f34.ntmps q34_2 := ⟨[2, 3, 4, 5, 8, 9, 10, 16], by kernel_rfl⟩
def q34_3 : List MO := [Ma 17 (.load true 5 (.t 5)), Ma 18 (.load true 5 (.t 4)), Mb (.store 5 (.t 9) (.t 17)), Mb (.store 5 (.t 10) (.t 18))]
@[simp] theorem l34_3 : q34_3.length = 4 := rfl
def p34_3 : List (List Nat) := [[], [], [0, 0], [1, 2, 0, 1, 2]]
instance : KD Try.f34.ntmps q34_3 p34_3 := ⟨[[], [], [0], [0, 1, 2]], [2, 3, 4, 5, 8, 9, 10], by kernel_rfl⟩
def q34_4 : List MO := [Ma 19 (.faddr 1 (.t 9)), Ma 20 (.load false 1 (.t 19)), Ma 21 (.bin .neq (.t 20) (.c (.int .i64 0))), Ma 22 (.mv (.t 21)), Mg 23 (.faddr 1 (.t 10)) 22 false, Mg 24 (.load false 1 (.t 23)) 22 false, Mg 25 (.bin .neq (.t 24) (.c (.int .i64 1))) 22 false, Ma 26 (.pick (.t 22) (.c (.bool true)) (.t 25)), Ma 27 (.mv (.t 26)), Mg 28 (.faddr 0 (.t 4)) 27 false, Mg 29 (.load false 1 (.t 28)) 27 false, Mg 30 (.faddr 0 (.t 5)) 27 false, Mg 31 (.load false 1 (.t 30)) 27 false, Mg 32 (.bin .neq (.t 29) (.t 31)) 27 false, Ma 33 (.pick (.t 27) (.c (.bool true)) (.t 32))]
@[simp] theorem l34_4 : q34_4.length = 15 := rfl
instance : KR Try.f34.ntmps q34_4 := ⟨[2, 3, 4, 5, 8, 9, 10, 33], by kernel_rfl⟩
def q34_5 : List MO := [Ma 34 (.build [(.int .i64 0), (.int .i64 0)] []), Mb (.store 2 (.t 8) (.t 34))]
@[simp] theorem l34_5 : q34_5.length = 2 := rfl
instance : KR Try.f34.ntmps q34_5 := ⟨[8], by kernel_rfl⟩
def q34_6 : List MO := [Ma 35 (.mv (.t 2)), Ma 36 (.mv (.t 3)), Ma 37 (.mn [(.t 35), (.t 36)]), Ma 11 (.mv (.t 37))]
@[simp] theorem l34_6 : q34_6.length = 4 := rfl
instance : KR Try.f34.ntmps q34_6 := ⟨[4, 5, 8, 9, 10, 11], by kernel_rfl⟩
def q34_7 : List MO := [Ma 38 (.faddr 2 (.t 9)), Ma 39 (.load false 1 (.t 38)), Ma 40 (.faddr 2 (.t 10)), Ma 41 (.load false 1 (.t 40)), Ma 42 (.bin .lss (.t 39) (.t 41)), Ma 43 (.mv (.t 42)), Mg 44 (.mv (.t 11)) 43 false, Mg 45 (.bin .lss (.t 44) (.c (.int .i64 1))) 43 false, Ma 46 (.pick (.t 43) (.c (.bool true)) (.t 45)), Ma 47 (.mv (.t 46)), Mg 48 (.mv (.t 11)) 47 false, Mg 49 (.faddr 3 (.t 4)) 47 false, Mg 50 (.load false 1 (.t 49)) 47 false, Mg 51 (.faddr 3 (.t 5)) 47 false, Mg 52 (.load false 1 (.t 51)) 47 false, Mg 53 (.mx [(.t 50), (.t 52)]) 47 false, Mg 54 (.bin .lss (.t 48) (.t 53)) 47 false, Ma 55 (.pick (.t 47) (.c (.bool true)) (.t 54))]
@[simp] theorem l34_7 : q34_7.length = 18 := rfl
instance : KR Try.f34.ntmps q34_7 := ⟨[8, 9, 10, 11, 55], by kernel_rfl⟩
def q34_8 : List MO := [Ma 56 (.build [(.int .i64 0), (.int .i64 0)] []), Mb (.store 2 (.t 8) (.t 56))]
@[simp] theorem l34_8 : q34_8.length = 2 := rfl
instance : KR Try.f34.ntmps q34_8 := ⟨[8], by kernel_rfl⟩
def q34_9 : List MO := [Ma 57 (.mv (.t 11)), Ma 58 (.faddr 2 (.t 10)), Ma 59 (.load false 1 (.t 58)), Ma 60 (.faddr 2 (.t 9)), Ma 61 (.load false 1 (.t 60)), Ma 62 (.call (.c (.fn 47 [])) [(.t 59), (.t 61)]), Ma 63 (.build [(.int .i64 0), (.int .i64 0)] [(0, (1, (.t 57))), (1, (1, (.t 62)))]), Mb (.store 2 (.t 8) (.t 63))]
@[simp] theorem l34_9 : q34_9.length = 8 := rfl
instance : KR Try.f34.ntmps q34_9 := ⟨[8], by kernel_rfl⟩
def m34 : MCode := .seq (.reg q34_0) (.seq (.draw q34_1 p34_1) (.seq (.seq (.reg q34_2) (.cond (.t 16) (.draw q34_3 p34_3) .skip)) (.seq (.seq (.reg q34_4) (.cond (.t 33) (.seq (.reg q34_5) .ret) .skip)) (.seq (.reg q34_6) (.seq (.seq (.reg q34_7) (.cond (.t 55) (.seq (.reg q34_8) .ret) .skip)) (.seq (.reg q34_9) .ret))))))
theorem rc34 : rcOf Try.prog Try.f34 = some m34 := by kernel_rfl
theorem rv34 : rRVs Try.prog Try.f34.results.toList = some [(.c true 2 8)] := by kernel_rfl
theorem nm34 : (Try.f34.name == "runtime.NumGoroutine") = false := by kernel_rfl
def q36_0 : List MO := [Ma 4 (.box (.t 0)), Ma 5 (.box (.t 1)), Ma 8 (.mv (.c (.int .i64 0))), Ma 9 (.mv (.c (.int .i64 0)))]
@[simp] theorem l36_0 : q36_0.length = 4 := rfl
instance : KR Try.f36.ntmps q36_0 := ⟨[2, 3, 4, 5], by kernel_rfl⟩
def q36_1 : List MO := [Ma 11 (.faddr 1 (.t 4)), Ma 12 (.load false 1 (.t 11)), Ma 13 (.bin .eql (.t 12) (.c (.int .i64 1)))]
@[simp] theorem l36_1 : q36_1.length = 3 := rfl
instance : KR Try.f36.ntmps q36_1 := ⟨[2, 3, 4, 5, 13], by kernel_rfl⟩
def q36_2 : List MO := [Ma 14 (.load true 5 (.t 5)), Ma 15 (.load true 5 (.t 4)), Mb (.store 5 (.t 4) (.t 14)), Mb (.store 5 (.t 5) (.t 15))]
@[simp] theorem l36_2 : q36_2.length = 4 := rfl
instance : KR Try.f36.ntmps q36_2 := ⟨[2, 3, 4, 5], by kernel_rfl⟩
def q36_3 : List MO := [Ma 16 (.mv (.t 3)), Ma 17 (.mv (.t 2)), Ma 2 (.mv (.t 16)), Ma 3 (.mv (.t 17))]
@[simp] theorem l36_3 : q36_3.length = 4 := rfl
instance : KR Try.f36.ntmps q36_3 := ⟨[2, 3, 4, 5], by kernel_rfl⟩
def q36_4 : List MO := [Ma 18 (.faddr 1 (.t 4)), Ma 19 (.load false 1 (.t 18)), Ma 20 (.bin .neq (.t 19) (.c (.int .i64 0))), Ma 21 (.mv (.t 20)), Mg 22 (.faddr 1 (.t 5)) 21 false, Mg 23 (.load false 1 (.t 22)) 21 false, Mg 24 (.bin .neq (.t 23) (.c (.int .i64 1))) 21 false, Ma 25 (.pick (.t 21) (.c (.bool true)) (.t 24)), Ma 26 (.mv (.t 25)), Mg 27 (.faddr 0 (.t 4)) 26 false, Mg 28 (.load false 1 (.t 27)) 26 false, Mg 29 (.faddr 0 (.t 5)) 26 false, Mg 30 (.load false 1 (.t 29)) 26 false, Mg 31 (.bin .neq (.t 28) (.t 30)) 26 false, Ma 32 (.pick (.t 26) (.c (.bool true)) (.t 31)), Ma 33 (.mv (.t 32)), Mg 34 (.faddr 2 (.t 4)) 33 false, Mg 35 (.load false 1 (.t 34)) 33 false, Mg 36 (.faddr 2 (.t 5)) 33 false, Mg 37 (.load false 1 (.t 36)) 33 false, Mg 38 (.bin .lss (.t 35) (.t 37)) 33 false, Ma 39 (.pick (.t 33) (.c (.bool true)) (.t 38))]
@[simp] theorem l36_4 : q36_4.length = 22 := rfl
instance : KR Try.f36.ntmps q36_4 := ⟨[2, 3, 4, 5, 39], by kernel_rfl⟩
def q36_5 : List MO := [Ma 8 (.mv (.c (.int .i64 0))), Ma 9 (.mv (.c (.int .i64 0)))]
@[simp] theorem l36_5 : q36_5.length = 2 := rfl
instance : KR Try.f36.ntmps q36_5 := ⟨[8, 9], by kernel_rfl⟩
def q36_6 : List MO := [Ma 40 (.mv (.t 2)), Ma 10 (.mv (.t 40))]
@[simp] theorem l36_6 : q36_6.length = 2 := rfl
instance : KR Try.f36.ntmps q36_6 := ⟨[3, 4, 5, 10], by kernel_rfl⟩
def q36_7 : List MO := [Ma 41 (.mv (.t 3)), Ma 42 (.mv (.t 10)), Ma 43 (.bin .lss (.t 41) (.t 42))]
@[simp] theorem l36_7 : q36_7.length = 3 := rfl
instance : KR Try.f36.ntmps q36_7 := ⟨[3, 4, 5, 10, 43], by kernel_rfl⟩
def q36_8 : List MO := [Ma 44 (.mv (.t 3)), Ma 10 (.mv (.t 44))]
@[simp] theorem l36_8 : q36_8.length = 2 := rfl
instance : KR Try.f36.ntmps q36_8 := ⟨[4, 5, 10], by kernel_rfl⟩
def q36_9 : List MO := [Ma 45 (.mv (.t 10)), Ma 46 (.bin .lss (.t 45) (.c (.int .i64 1))), Ma 47 (.mv (.t 46)), Mg 48 (.mv (.t 10)) 47 false, Mg 49 (.faddr 3 (.t 4)) 47 false, Mg 50 (.load false 1 (.t 49)) 47 false, Mg 51 (.bin .lss (.t 48) (.t 50)) 47 false, Ma 52 (.pick (.t 47) (.c (.bool true)) (.t 51)), Ma 53 (.mv (.t 52)), Mg 54 (.mv (.t 10)) 53 false, Mg 55 (.faddr 3 (.t 5)) 53 false, Mg 56 (.load false 1 (.t 55)) 53 false, Mg 57 (.bin .lss (.t 54) (.t 56)) 53 false, Ma 58 (.pick (.t 53) (.c (.bool true)) (.t 57))]
@[simp] theorem l36_9 : q36_9.length = 14 := rfl
instance : KR Try.f36.ntmps q36_9 := ⟨[4, 5, 10, 58], by kernel_rfl⟩
def q36_10 : List MO := [Ma 8 (.mv (.c (.int .i64 0))), Ma 9 (.mv (.c (.int .i64 0)))]
@[simp] theorem l36_10 : q36_10.length = 2 := rfl
instance : KR Try.f36.ntmps q36_10 := ⟨[8, 9], by kernel_rfl⟩
def q36_11 : List MO := [Ma 59 (.mv (.t 10)), Ma 60 (.faddr 2 (.t 4)), Ma 61 (.load false 1 (.t 60)), Ma 62 (.faddr 2 (.t 5)), Ma 63 (.load false 1 (.t 62)), Ma 64 (.bin .add (.t 61) (.t 63)), Ma 65 (.bin .quo (.t 64) (.c (.int .i64 2))), Ma 8 (.mv (.t 59)), Ma 9 (.mv (.t 65))]
@[simp] theorem l36_11 : q36_11.length = 9 := rfl
def p36_11 : List (List Nat) := [[], [], [1], [], [3], [2, 4], [5], [0, 0], [6, 7, 0, 1, 2, 3, 4, 5, 6, 7]]
instance : KD Try.f36.ntmps q36_11 p36_11 := ⟨[[], [], [1], [], [3], [1, 2, 3, 4], [1, 2, 3, 4, 5], [0], [0, 1, 2, 3, 4, 5, 6, 7]], [8, 9], by kernel_rfl⟩
def m36 : MCode := .seq (.reg q36_0) (.seq (.seq (.reg q36_1) (.cond (.t 13) (.seq (.reg q36_2) (.reg q36_3)) .skip)) (.seq (.seq (.reg q36_4) (.cond (.t 39) (.seq (.reg q36_5) .ret) .skip)) (.seq (.reg q36_6) (.seq (.seq (.reg q36_7) (.cond (.t 43) (.reg q36_8) .skip)) (.seq (.seq (.reg q36_9) (.cond (.t 58) (.seq (.reg q36_10) .ret) .skip)) (.seq (.draw q36_11 p36_11) .ret))))))
theorem rc36 : rcOf Try.prog Try.f36 = some m36 := by kernel_rfl
theorem rv36 : rRVs Try.prog Try.f36.results.toList = some [(.t 8), (.t 9)] := by kernel_rfl
theorem nm36 : (Try.f36.name == "runtime.NumGoroutine") = false := by kernel_rfl
def q40_0 : List MO := [Ma 3 (.box (.t 0)), Ma 6 (.mv (.c (.int .i64 0)))]
@[simp] theorem l40_0 : q40_0.length = 2 := rfl
instance : KR Try.f40.ntmps q40_0 := ⟨[1, 2, 3], by kernel_rfl⟩
def q40_1 : List MO := [Ma 7 (.mv (.t 1)), Ma 8 (.bin .lss (.t 7) (.c (.int .i64 0))), Ma 9 (.mv (.t 8)), Mg 10 (.mv (.t 1)) 9 false, Mg 11 (.faddr 0 (.t 3)) 9 false, Mg 12 (.faddr 2 (.t 11)) 9 false, Mg 13 (.load false 1 (.t 12)) 9 false, Mg 14 (.bin .geq (.t 10) (.t 13)) 9 false, Ma 15 (.pick (.t 9) (.c (.bool true)) (.t 14)), Ma 16 (.mv (.t 15)), Mg 17 (.mv (.t 2)) 16 false, Mg 18 (.bin .lss (.t 17) (.c (.int .i64 0))) 16 false, Ma 19 (.pick (.t 16) (.c (.bool true)) (.t 18)), Ma 20 (.mv (.t 19)), Mg 21 (.mv (.t 2)) 20 false, Mg 22 (.faddr 0 (.t 3)) 20 false, Mg 23 (.faddr 3 (.t 22)) 20 false, Mg 24 (.load false 1 (.t 23)) 20 false, Mg 25 (.bin .geq (.t 21) (.t 24)) 20 false, Ma 26 (.pick (.t 20) (.c (.bool true)) (.t 25))]
@[simp] theorem l40_1 : q40_1.length = 20 := rfl
instance : KR Try.f40.ntmps q40_1 := ⟨[1, 2, 3, 26], by kernel_rfl⟩
def q40_2 : List MO := [Ma 6 (.mv (.c (.int .i64 (-1))))]
@[simp] theorem l40_2 : q40_2.length = 1 := rfl
instance : KR Try.f40.ntmps q40_2 := ⟨[6], by kernel_rfl⟩
def q40_3 : List MO := [Ma 27 (.mv (.t 1)), Ma 28 (.faddr 0 (.t 3)), Ma 29 (.faddr 3 (.t 28)), Ma 30 (.load false 1 (.t 29)), Ma 31 (.bin .mul (.t 27) (.t 30)), Ma 32 (.mv (.t 2)), Ma 33 (.bin .add (.t 31) (.t 32)), Ma 6 (.mv (.t 33))]
@[simp] theorem l40_3 : q40_3.length = 8 := rfl
instance : KR Try.f40.ntmps q40_3 := ⟨[6], by kernel_rfl⟩
def m40 : MCode := .seq (.reg q40_0) (.seq (.seq (.reg q40_1) (.cond (.t 26) (.seq (.reg q40_2) .ret) .skip)) (.seq (.reg q40_3) .ret))
theorem rc40 : rcOf Try.prog Try.f40 = some m40 := by kernel_rfl
theorem rv40 : rRVs Try.prog Try.f40.results.toList = some [(.t 6)] := by kernel_rfl
theorem nm40 : (Try.f40.name == "runtime.NumGoroutine") = false := by kernel_rfl
def q41_0 : List MO := [Ma 2 (.box (.t 0)), Ma 4 (.mv (.c (.int .i64 0)))]
@[simp] theorem l41_0 : q41_0.length = 2 := rfl
instance : KR Try.f41.ntmps q41_0 := ⟨[1, 2], by kernel_rfl⟩
def q41_1 : List MO := [Ma 5 (.mv (.t 1)), Ma 6 (.bin .lss (.t 5) (.c (.int .i64 1))), Ma 7 (.mv (.t 6)), Mg 8 (.mv (.t 1)) 7 false, Mg 9 (.bin .gtr (.t 8) (.c (.int .i64 9999))) 7 false, Ma 10 (.pick (.t 7) (.c (.bool true)) (.t 9))]
@[simp] theorem l41_1 : q41_1.length = 6 := rfl
instance : KR Try.f41.ntmps q41_1 := ⟨[1, 2, 10], by kernel_rfl⟩
def q41_2 : List MO := [Ma 4 (.mv (.c (.int .i64 (-1))))]
@[simp] theorem l41_2 : q41_2.length = 1 := rfl
instance : KR Try.f41.ntmps q41_2 := ⟨[4], by kernel_rfl⟩
def q41_3 : List MO := [Ma 11 (.mv (.t 1)), Ma 12 (.bin .sub (.t 11) (.c (.int .i64 1))), Ma 13 (.faddr 0 (.t 2)), Ma 14 (.faddr 3 (.t 13)), Ma 15 (.load false 1 (.t 14)), Ma 16 (.bin .mul (.t 12) (.t 15)), Ma 17 (.bin .quo (.t 16) (.c (.int .i64 9999))), Ma 4 (.mv (.t 17))]
@[simp] theorem l41_3 : q41_3.length = 8 := rfl
instance : KR Try.f41.ntmps q41_3 := ⟨[4], by kernel_rfl⟩
def m41 : MCode := .seq (.reg q41_0) (.seq (.seq (.reg q41_1) (.cond (.t 10) (.seq (.reg q41_2) .ret) .skip)) (.seq (.reg q41_3) .ret))
theorem rc41 : rcOf Try.prog Try.f41 = some m41 := by kernel_rfl
theorem rv41 : rRVs Try.prog Try.f41.results.toList = some [(.t 4)] := by kernel_rfl
theorem nm41 : (Try.f41.name == "runtime.NumGoroutine") = false := by kernel_rfl
def q45_0 : List MO := [Ma 2 (.box (.t 0)), Ma 4 (.mv (.c (.int .i64 0)))]
@[simp] theorem l45_0 : q45_0.length = 2 := rfl
instance : KR Try.f45.ntmps q45_0 := ⟨[1, 2], by kernel_rfl⟩
def q45_1 : List MO := [Ma 6 (.mv (.t 1)), Ma 7 (.bin .lss (.t 6) (.c (.int .i64 1))), Ma 8 (.mv (.t 7)), Mg 9 (.mv (.t 1)) 8 false, Mg 10 (.bin .gtr (.t 9) (.c (.int .i64 9999))) 8 false, Ma 11 (.pick (.t 8) (.c (.bool true)) (.t 10))]
@[simp] theorem l45_1 : q45_1.length = 6 := rfl
instance : KR Try.f45.ntmps q45_1 := ⟨[1, 2, 11], by kernel_rfl⟩
def q45_2 : List MO := [Ma 4 (.mv (.c (.int .i64 (-1))))]
@[simp] theorem l45_2 : q45_2.length = 1 := rfl
instance : KR Try.f45.ntmps q45_2 := ⟨[4], by kernel_rfl⟩
def q45_3 : List MO := [Ma 5 (.mv (.c (.int .i64 0)))]
@[simp] theorem l45_3 : q45_3.length = 1 := rfl
instance : KR Try.f45.ntmps q45_3 := ⟨[1, 2, 5], by kernel_rfl⟩
def q45_4 : List MO := [Ma 12 (.mv (.t 5)), Ma 13 (.bin .add (.t 12) (.c (.int .i64 1))), Ma 14 (.bin .mul (.t 13) (.c (.int .i64 9999))), Ma 15 (.mv (.t 1)), Ma 16 (.bin .sub (.t 15) (.c (.int .i64 1))), Ma 17 (.faddr 3 (.t 2)), Ma 18 (.load false 1 (.t 17)), Ma 19 (.bin .mul (.t 16) (.t 18)), Ma 20 (.bin .leq (.t 14) (.t 19))]
@[simp] theorem l45_4 : q45_4.length = 9 := rfl
instance : KR Try.f45.ntmps q45_4 := ⟨[1, 2, 5, 20], by kernel_rfl⟩
def q45_5 : List MO := [Ma 21 (.mv (.t 5)), Ma 22 (.bin .add (.t 21) (.c (.int .i64 1))), Ma 5 (.mv (.t 22))]
@[simp] theorem l45_5 : q45_5.length = 3 := rfl
instance : KR Try.f45.ntmps q45_5 := ⟨[1, 2, 5], by kernel_rfl⟩
def q45_6 : List MO := [Ma 23 (.mv (.t 5)), Ma 4 (.mv (.t 23))]
@[simp] theorem l45_6 : q45_6.length = 2 := rfl
instance : KR Try.f45.ntmps q45_6 := ⟨[4], by kernel_rfl⟩
def m45 : MCode := .seq (.reg q45_0) (.seq (.seq (.reg q45_1) (.cond (.t 11) (.seq (.reg q45_2) .ret) .skip)) (.seq (.reg q45_3) (.seq (.block 0 (.loop (.seq (.seq (.reg q45_4) (.cond (.t 20) .skip (.exit 0))) (.block 1 (.reg q45_5))))) (.seq (.reg q45_6) .ret))))
theorem rc45 : rcOf Try.prog Try.f45 = some m45 := by kernel_rfl
theorem rv45 : rRVs Try.prog Try.f45.results.toList = some [(.t 4)] := by kernel_rfl
theorem nm45 : (Try.f45.name == "runtime.NumGoroutine") = false := by kernel_rfl
def q46_0 : List MO := [Ma 1 (.box (.t 0)), Ma 2 (.mv (.c (.int .i64 0)))]
@[simp] theorem l46_0 : q46_0.length = 2 := rfl
instance : KR Try.f46.ntmps q46_0 := ⟨[1], by kernel_rfl⟩
def q46_1 : List MO := [Ma 3 (.faddr 0 (.t 1)), Ma 4 (.faddr 0 (.t 3)), Ma 5 (.load false 1 (.t 4)), Ma 6 (.faddr 0 (.t 1)), Ma 7 (.faddr 1 (.t 6)), Ma 8 (.load false 1 (.t 7)), Ma 9 (.bin .mul (.t 5) (.t 8)), Ma 2 (.mv (.t 9))]
@[simp] theorem l46_1 : q46_1.length = 8 := rfl
instance : KR Try.f46.ntmps q46_1 := ⟨[2], by kernel_rfl⟩
def m46 : MCode := .seq (.reg q46_0) (.seq (.reg q46_1) .ret)
theorem rc46 : rcOf Try.prog Try.f46 = some m46 := by kernel_rfl
theorem rv46 : rRVs Try.prog Try.f46.results.toList = some [(.t 2)] := by kernel_rfl
theorem nm46 : (Try.f46.name == "runtime.NumGoroutine") = false := by kernel_rfl
def q47_0 : List MO := [Ma 4 (.mv (.c (.int .i64 0)))]
@[simp] theorem l47_0 : q47_0.length = 1 := rfl
instance : KR Try.f47.ntmps q47_0 := ⟨[0, 1], by kernel_rfl⟩
def q47_1 : List MO := [Ma 5 (.mv (.t 0)), Ma 6 (.mv (.t 1)), Ma 7 (.mv (.t 0)), Ma 8 (.bin .sub (.t 6) (.t 7)), Ma 9 (.bin .quo (.t 8) (.c (.int .i64 2))), Ma 10 (.bin .add (.t 5) (.t 9)), Ma 11 (.mv (.t 0)), Ma 12 (.mv (.t 1)), Ma 13 (.call (.c (.fn 59 [])) [(.t 11), (.t 12)]), Ma 14 (.bin .sub (.t 10) (.t 13)), Ma 4 (.mv (.t 14))]
@[simp] theorem l47_1 : q47_1.length = 11 := rfl
instance : KR Try.f47.ntmps q47_1 := ⟨[4], by kernel_rfl⟩
def m47 : MCode := .seq (.reg q47_0) (.seq (.reg q47_1) .ret)
theorem rc47 : rcOf Try.prog Try.f47 = some m47 := by kernel_rfl
theorem rv47 : rRVs Try.prog Try.f47.results.toList = some [(.t 4)] := by kernel_rfl
theorem nm47 : (Try.f47.name == "runtime.NumGoroutine") = false := by kernel_rfl
def q59_0 : List MO := [Ma 4 (.mv (.c (.int .i64 0)))]
@[simp] theorem l59_0 : q59_0.length = 1 := rfl
instance : KR Try.f59.ntmps q59_0 := ⟨[0, 1], by kernel_rfl⟩
def q59_1 : List MO := [Ma 5 (.mv (.t 1)), Ma 6 (.mv (.t 0)), Ma 7 (.bin .lss (.t 5) (.t 6)), Ma 8 (.mv (.t 7)), Mg 9 (.mv (.t 0)) 8 true, Mg 10 (.mv (.t 1)) 8 true, Mg 11 (.bin .sub (.t 9) (.t 10)) 8 true, Mg 12 (.bin .rem (.t 11) (.c (.int .i64 2))) 8 true, Mg 13 (.bin .eql (.t 12) (.c (.int .i64 1))) 8 true, Ma 14 (.pick (.t 8) (.t 13) (.c (.bool false)))]
@[simp] theorem l59_1 : q59_1.length = 10 := rfl
instance : KR Try.f59.ntmps q59_1 := ⟨[14], by kernel_rfl⟩
def q59_2 : List MO := [Ma 4 (.mv (.c (.int .i64 1)))]
@[simp] theorem l59_2 : q59_2.length = 1 := rfl
instance : KR Try.f59.ntmps q59_2 := ⟨[4], by kernel_rfl⟩
def q59_3 : List MO := [Ma 4 (.mv (.c (.int .i64 0)))]
@[simp] theorem l59_3 : q59_3.length = 1 := rfl
instance : KR Try.f59.ntmps q59_3 := ⟨[4], by kernel_rfl⟩
def m59 : MCode := .seq (.reg q59_0) (.seq (.seq (.reg q59_1) (.cond (.t 14) (.seq (.reg q59_2) .ret) .skip)) (.seq (.reg q59_3) .ret))
theorem rc59 : rcOf Try.prog Try.f59 = some m59 := by kernel_rfl
theorem rv59 : rRVs Try.prog Try.f59.results.toList = some [(.t 4)] := by kernel_rfl
theorem nm59 : (Try.f59.name == "runtime.NumGoroutine") = false := by kernel_rfl
end Go.W
