/- The resolved code of the functions, by a program. -/
import Derived.Test.YtjhefpcocdoilaaDoorChecked
import Derived.Test.YtjhefpcocdoilaaDoorLaX
namespace Go.W
open Go.Proofs
set_option maxRecDepth 100000
theorem mixT : Tryd.prog.follows .mixedOrders = true := Tryd.checked.mixed
def q4_0 : List MO := [Ma 1 (.box (.t 0)), Ma 2 (.alloc [(.int .i64 0), (.int .i64 0), (.int .i64 0), (.int .i64 0), (.int .i64 0), (.int .i64 0), (.int .i64 0)]), Ma 3 (.mv (.c (.raw .nilIface)))]
@[simp] theorem l4_0 : q4_0.length = 3 := rfl
instance : KR Tryd.f4.ntmps q4_0 := ⟨[1, 2], by kernel_rfl⟩
def q4_1 : List MO := [Ma 6 (.load true 7 (.t 1)), Ma 7 (.call (.c (.fn 13 [])) [(.t 6)]), Ma 8 (.len (.t 7)), Ma 9 (.mv (.c (.int .i64 0)))]
@[simp] theorem l4_1 : q4_1.length = 4 := rfl
instance : KR Tryd.f4.ntmps q4_1 := ⟨[1, 2, 7, 8, 9], by kernel_rfl⟩
def q4_2 : List MO := [Ma 10 (.bin .lss (.t 9) (.t 8))]
@[simp] theorem l4_2 : q4_2.length = 1 := rfl
instance : KR Tryd.f4.ntmps q4_2 := ⟨[1, 2, 7, 8, 9, 10], by kernel_rfl⟩
def q4_3 : List MO := [Ma 11 (.mv (.t 9)), Ma 12 (.iaddr 4 (.t 7) (.t 9)), Ma 13 (.load true 4 (.t 12)), Ma 5 (.alloc [(.str (ByteArray.mk #[])), (.int .i64 0), (.int .i64 0), (.int .i64 0)]), Ma 4 (.mv (.t 11)), Mb (.store 4 (.t 5) (.t 13))]
@[simp] theorem l4_3 : q4_3.length = 6 := rfl
instance : KR Tryd.f4.ntmps q4_3 := ⟨[1, 2, 4, 5, 7, 8, 9], by kernel_rfl⟩
def q4_4 : List MO := [Ma 14 (.faddr 1 (.t 5)), Ma 15 (.load false 1 (.t 14)), Ma 16 (.faddr 2 (.t 5)), Ma 17 (.load false 1 (.t 16)), Ma 18 (.bin .lss (.t 15) (.t 17)), Ma 19 (.mv (.t 18)), Mg 20 (.faddr 1 (.t 5)) 19 false, Mg 21 (.load false 1 (.t 20)) 19 false, Mg 22 (.faddr 3 (.t 5)) 19 false, Mg 23 (.load false 1 (.t 22)) 19 false, Mg 24 (.bin .gtr (.t 21) (.t 23)) 19 false, Ma 25 (.pick (.t 19) (.c (.bool true)) (.t 24))]
@[simp] theorem l4_4 : q4_4.length = 12 := rfl
instance : KR Tryd.f4.ntmps q4_4 := ⟨[1, 2, 4, 5, 7, 8, 9, 25], by kernel_rfl⟩
def q4_5 : List MO := [Ma 26 (.build [(.int .i64 0), (.int .i64 0), (.int .i64 0), (.int .i64 0), (.int .i64 0), (.int .i64 0), (.int .i64 0)] []), Ma 27 (.mv (.t 4)), Ma 28 (.faddr 0 (.t 5)), Ma 29 (.load false 1 (.t 28)), Ma 30 (.mkif 60 (.c (.int .i64 5))), Ma 31 (.call (.c (.fn 15 [])) [(.t 29), (.t 30)]), Ma 32 (.call (.c (.fn 14 [])) [(.t 27), (.t 31)]), Mb (.store 7 (.t 2) (.t 26)), Ma 3 (.mv (.t 32))]
@[simp] theorem l4_5 : q4_5.length = 9 := rfl
instance : KR Tryd.f4.ntmps q4_5 := ⟨[2, 3], by kernel_rfl⟩
def q4_6 : List MO := [Ma 33 (.bin .add (.t 9) (.c (.int .i64 1))), Ma 9 (.mv (.t 33))]
@[simp] theorem l4_6 : q4_6.length = 2 := rfl
instance : KR Tryd.f4.ntmps q4_6 := ⟨[1, 2, 7, 8, 9], by kernel_rfl⟩
def q4_7 : List MO := [Ma 34 (.load true 7 (.t 1)), Ma 35 (.build [(.int .i64 0), (.int .i64 0), (.int .i64 0), (.int .i64 0), (.int .i64 0), (.int .i64 0), (.int .i64 0)] [(0, (7, (.t 34)))]), Mb (.store 7 (.t 2) (.t 35)), Ma 3 (.mv (.c (.raw .nilIface)))]
@[simp] theorem l4_7 : q4_7.length = 4 := rfl
instance : KR Tryd.f4.ntmps q4_7 := ⟨[2, 3], by kernel_rfl⟩
def m4 : MCode := .seq (.reg q4_0) (.seq (.seq (.reg q4_1) (.block 0 (.loop (.seq (.reg q4_2) (.seq (.cond (.t 10) .skip (.exit 0)) (.seq (.block 1 (.seq (.reg q4_3) (.seq (.reg q4_4) (.cond (.t 25) (.seq (.reg q4_5) .ret) .skip)))) (.reg q4_6))))))) (.seq (.reg q4_7) .ret))
theorem rc4 : rcOf Tryd.prog Tryd.f4 = some m4 := by kernel_rfl
theorem rv4 : rRVs Tryd.prog Tryd.f4.results.toList = some [(.c true 7 2), (.t 3)] := by kernel_rfl
theorem nm4 : (Tryd.f4.name == "runtime.NumGoroutine") = false := by kernel_rfl
def q5_0 : List MO := [Ma 2 (.mv (.c (.int .i64 0)))]
@[simp] theorem l5_0 : q5_0.length = 1 := rfl
instance : KR Tryd.f5.ntmps q5_0 := ⟨[0], by kernel_rfl⟩
def q5_1 : List MO := [Ma 7 (.mv (.t 0)), Ma 8 (.len (.t 7)), Ma 9 (.mv (.c (.int .i64 0)))]
@[simp] theorem l5_1 : q5_1.length = 3 := rfl
instance : KR Tryd.f5.ntmps q5_1 := ⟨[7, 8, 9], by kernel_rfl⟩
def q5_2 : List MO := [Ma 10 (.bin .lss (.t 9) (.t 8))]
@[simp] theorem l5_2 : q5_2.length = 1 := rfl
instance : KR Tryd.f5.ntmps q5_2 := ⟨[7, 8, 9, 10], by kernel_rfl⟩
def q5_3 : List MO := [Ma 11 (.mv (.t 9)), Ma 12 (.iaddr 5 (.t 7) (.t 9)), Ma 13 (.load true 5 (.t 12)), Ma 4 (.alloc [(.int .i64 0), (.int .i64 0), (.int .i64 0), (.int .i64 0), (.int .i64 0)]), Ma 3 (.mv (.t 11)), Mb (.store 5 (.t 4) (.t 13))]
@[simp] theorem l5_3 : q5_3.length = 6 := rfl
instance : KR Tryd.f5.ntmps q5_3 := ⟨[3, 4, 7, 8, 9], by kernel_rfl⟩
def q5_4 : List MO := [Ma 14 (.faddr 0 (.t 4)), Ma 15 (.load false 1 (.t 14)), Ma 16 (.faddr 1 (.t 4)), Ma 17 (.load false 1 (.t 16)), Ma 18 (.faddr 2 (.t 4)), Ma 19 (.load false 1 (.t 18)), Ma 20 (.faddr 3 (.t 4)), Ma 21 (.load false 1 (.t 20)), Ma 22 (.faddr 4 (.t 4)), Ma 23 (.load false 1 (.t 22)), Ma 24 (.bsl 1 5 [(.int .i64 0)] [(0, (1, (.t 15))), (1, (1, (.t 17))), (2, (1, (.t 19))), (3, (1, (.t 21))), (4, (1, (.t 23)))]), Ma 25 (.len (.t 24)), Ma 26 (.mv (.c (.int .i64 0)))]
@[simp] theorem l5_4 : q5_4.length = 13 := rfl
instance : KR Tryd.f5.ntmps q5_4 := ⟨[3, 7, 8, 9, 24, 25, 26], by kernel_rfl⟩
def q5_5 : List MO := [Ma 27 (.bin .lss (.t 26) (.t 25))]
@[simp] theorem l5_5 : q5_5.length = 1 := rfl
instance : KR Tryd.f5.ntmps q5_5 := ⟨[3, 7, 8, 9, 24, 25, 26, 27], by kernel_rfl⟩
def q5_6 : List MO := [Ma 28 (.iaddr 1 (.t 24) (.t 26)), Ma 29 (.load false 1 (.t 28)), Ma 6 (.mv (.t 29))]
@[simp] theorem l5_6 : q5_6.length = 3 := rfl
instance : KR Tryd.f5.ntmps q5_6 := ⟨[3, 6, 7, 8, 9, 24, 25, 26], by kernel_rfl⟩
def q5_7 : List MO := [Ma 30 (.mv (.t 6)), Ma 31 (.bin .lss (.t 30) (.c (.int .i64 0))), Ma 32 (.mv (.t 31)), Mg 33 (.mv (.t 6)) 32 false, Mg 34 (.bin .gtr (.t 33) (.c (.int .i64 1099511627776))) 32 false, Ma 35 (.pick (.t 32) (.c (.bool true)) (.t 34))]
@[simp] theorem l5_7 : q5_7.length = 6 := rfl
instance : KR Tryd.f5.ntmps q5_7 := ⟨[3, 7, 8, 9, 24, 25, 26, 35], by kernel_rfl⟩
def q5_8 : List MO := [Ma 36 (.mv (.t 3)), Ma 2 (.mv (.t 36))]
@[simp] theorem l5_8 : q5_8.length = 2 := rfl
instance : KR Tryd.f5.ntmps q5_8 := ⟨[2], by kernel_rfl⟩
def q5_9 : List MO := [Ma 37 (.bin .add (.t 26) (.c (.int .i64 1))), Ma 26 (.mv (.t 37))]
@[simp] theorem l5_9 : q5_9.length = 2 := rfl
instance : KR Tryd.f5.ntmps q5_9 := ⟨[3, 7, 8, 9, 24, 25, 26], by kernel_rfl⟩
def q5_10 : List MO := [Ma 38 (.bin .add (.t 9) (.c (.int .i64 1))), Ma 9 (.mv (.t 38))]
@[simp] theorem l5_10 : q5_10.length = 2 := rfl
instance : KR Tryd.f5.ntmps q5_10 := ⟨[7, 8, 9], by kernel_rfl⟩
def q5_11 : List MO := [Ma 2 (.mv (.c (.int .i64 (-1))))]
@[simp] theorem l5_11 : q5_11.length = 1 := rfl
instance : KR Tryd.f5.ntmps q5_11 := ⟨[2], by kernel_rfl⟩
def m5 : MCode := .seq (.reg q5_0) (.seq (.seq (.reg q5_1) (.block 0 (.loop (.seq (.reg q5_2) (.seq (.cond (.t 10) .skip (.exit 0)) (.seq (.block 1 (.seq (.reg q5_3) (.seq (.reg q5_4) (.block 2 (.loop (.seq (.reg q5_5) (.seq (.cond (.t 27) .skip (.exit 2)) (.seq (.block 3 (.seq (.reg q5_6) (.seq (.reg q5_7) (.cond (.t 35) (.seq (.reg q5_8) .ret) .skip)))) (.reg q5_9))))))))) (.reg q5_10))))))) (.seq (.reg q5_11) .ret))
theorem rc5 : rcOf Tryd.prog Tryd.f5 = some m5 := by kernel_rfl
theorem rv5 : rRVs Tryd.prog Tryd.f5.results.toList = some [(.t 2)] := by kernel_rfl
theorem nm5 : (Tryd.f5.name == "runtime.NumGoroutine") = false := by kernel_rfl
def q6_0 : List MO := [Ma 2 (.mv (.c (.bool false)))]
@[simp] theorem l6_0 : q6_0.length = 1 := rfl
instance : KR Tryd.f6.ntmps q6_0 := ⟨[0], by kernel_rfl⟩
def q6_1 : List MO := [Ma 5 (.mv (.t 0)), Ma 6 (.len (.t 5)), Ma 7 (.mv (.c (.int .i64 0)))]
@[simp] theorem l6_1 : q6_1.length = 3 := rfl
instance : KR Tryd.f6.ntmps q6_1 := ⟨[5, 6, 7], by kernel_rfl⟩
def q6_2 : List MO := [Ma 8 (.bin .lss (.t 7) (.t 6))]
@[simp] theorem l6_2 : q6_2.length = 1 := rfl
instance : KR Tryd.f6.ntmps q6_2 := ⟨[5, 6, 7, 8], by kernel_rfl⟩
def q6_3 : List MO := [Ma 9 (.iaddr 1 (.t 5) (.t 7)), Ma 10 (.load false 1 (.t 9)), Ma 4 (.mv (.t 10))]
@[simp] theorem l6_3 : q6_3.length = 3 := rfl
instance : KR Tryd.f6.ntmps q6_3 := ⟨[4, 5, 6, 7], by kernel_rfl⟩
def q6_4 : List MO := [Ma 11 (.mv (.t 4)), Ma 12 (.bin .lss (.t 11) (.c (.int .i64 (-1073741824)))), Ma 13 (.mv (.t 12)), Mg 14 (.mv (.t 4)) 13 false, Mg 15 (.bin .gtr (.t 14) (.c (.int .i64 1073741824))) 13 false, Ma 16 (.pick (.t 13) (.c (.bool true)) (.t 15))]
@[simp] theorem l6_4 : q6_4.length = 6 := rfl
instance : KR Tryd.f6.ntmps q6_4 := ⟨[5, 6, 7, 16], by kernel_rfl⟩
def q6_5 : List MO := [Ma 2 (.mv (.c (.bool false)))]
@[simp] theorem l6_5 : q6_5.length = 1 := rfl
instance : KR Tryd.f6.ntmps q6_5 := ⟨[2], by kernel_rfl⟩
def q6_6 : List MO := [Ma 17 (.bin .add (.t 7) (.c (.int .i64 1))), Ma 7 (.mv (.t 17))]
@[simp] theorem l6_6 : q6_6.length = 2 := rfl
instance : KR Tryd.f6.ntmps q6_6 := ⟨[5, 6, 7], by kernel_rfl⟩
def q6_7 : List MO := [Ma 2 (.mv (.c (.bool true)))]
@[simp] theorem l6_7 : q6_7.length = 1 := rfl
instance : KR Tryd.f6.ntmps q6_7 := ⟨[2], by kernel_rfl⟩
def m6 : MCode := .seq (.reg q6_0) (.seq (.seq (.reg q6_1) (.block 0 (.loop (.seq (.reg q6_2) (.seq (.cond (.t 8) .skip (.exit 0)) (.seq (.block 1 (.seq (.reg q6_3) (.seq (.reg q6_4) (.cond (.t 16) (.seq (.reg q6_5) .ret) .skip)))) (.reg q6_6))))))) (.seq (.reg q6_7) .ret))
theorem rc6 : rcOf Tryd.prog Tryd.f6 = some m6 := by kernel_rfl
theorem rv6 : rRVs Tryd.prog Tryd.f6.results.toList = some [(.t 2)] := by kernel_rfl
theorem nm6 : (Tryd.f6.name == "runtime.NumGoroutine") = false := by kernel_rfl
def q9_0 : List MO := [Ma 2 (.mv (.c .nsl))]
@[simp] theorem l9_0 : q9_0.length = 1 := rfl
instance : KR Tryd.f9.ntmps q9_0 := ⟨[0], by kernel_rfl⟩
def q9_1 : List MO := [Ma 3 (.mv (.c .nsl))]
@[simp] theorem l9_1 : q9_1.length = 1 := rfl
instance : KR Tryd.f9.ntmps q9_1 := ⟨[0, 3], by kernel_rfl⟩
def q9_2 : List MO := [Ma 6 (.mv (.t 0)), Ma 7 (.len (.t 6)), Ma 8 (.mv (.c (.int .i64 0)))]
@[simp] theorem l9_2 : q9_2.length = 3 := rfl
instance : KR Tryd.f9.ntmps q9_2 := ⟨[3, 6, 7, 8], by kernel_rfl⟩
def q9_3 : List MO := [Ma 9 (.bin .lss (.t 8) (.t 7))]
@[simp] theorem l9_3 : q9_3.length = 1 := rfl
instance : KR Tryd.f9.ntmps q9_3 := ⟨[3, 6, 7, 8, 9], by kernel_rfl⟩
def q9_4 : List MO := [Ma 10 (.iaddr 5 (.t 6) (.t 8)), Ma 11 (.load true 5 (.t 10)), Ma 5 (.alloc [(.int .i64 0), (.int .i64 0), (.int .i64 0), (.int .i64 0), (.int .i64 0)]), Mb (.store 5 (.t 5) (.t 11))]
@[simp] theorem l9_4 : q9_4.length = 4 := rfl
instance : KR Tryd.f9.ntmps q9_4 := ⟨[3, 5, 6, 7, 8], by kernel_rfl⟩
def q9_5 : List MO := [Ma 12 (.mv (.t 3)), Ma 13 (.load true 5 (.t 5)), Ma 14 (.bsl 5 1 [(.int .i64 0), (.int .i64 0), (.int .i64 0), (.int .i64 0), (.int .i64 0)] [(0, (5, (.t 13)))]), Ma 15 (.app 5 40 (.t 12) (.t 14)), Ma 3 (.mv (.t 15))]
@[simp] theorem l9_5 : q9_5.length = 5 := rfl
instance : KR Tryd.f9.ntmps q9_5 := ⟨[3, 6, 7, 8], by kernel_rfl⟩
def q9_6 : List MO := [Ma 16 (.bin .add (.t 8) (.c (.int .i64 1))), Ma 8 (.mv (.t 16))]
@[simp] theorem l9_6 : q9_6.length = 2 := rfl
instance : KR Tryd.f9.ntmps q9_6 := ⟨[3, 6, 7, 8], by kernel_rfl⟩
def q9_7 : List MO := [Ma 17 (.mv (.t 3)), Ma 2 (.mv (.t 17))]
@[simp] theorem l9_7 : q9_7.length = 2 := rfl
instance : KR Tryd.f9.ntmps q9_7 := ⟨[2], by kernel_rfl⟩
def m9 : MCode := .seq (.reg q9_0) (.seq (.reg q9_1) (.seq (.seq (.reg q9_2) (.block 0 (.loop (.seq (.reg q9_3) (.seq (.cond (.t 9) .skip (.exit 0)) (.seq (.block 1 (.seq (.reg q9_4) (.reg q9_5))) (.reg q9_6))))))) (.seq (.reg q9_7) .ret)))
theorem rc9 : rcOf Tryd.prog Tryd.f9 = some m9 := by kernel_rfl
theorem rv9 : rRVs Tryd.prog Tryd.f9.results.toList = some [(.t 2)] := by kernel_rfl
theorem nm9 : (Tryd.f9.name == "runtime.NumGoroutine") = false := by kernel_rfl
def q10_0 : List MO := [Ma 1 (.box (.t 0)), Ma 2 (.alloc [(.int .i64 0), (.int .i64 0), (.int .i64 0), (.int .i64 0), (.int .i64 0), (.int .i64 0), (.int .i64 0), (.int .i64 0), (.int .i64 0)])]
@[simp] theorem l10_0 : q10_0.length = 2 := rfl
instance : KR Tryd.f10.ntmps q10_0 := ⟨[1, 2], by kernel_rfl⟩
def q10_1 : List MO := [Ma 3 (.faddr 0 (.t 1)), Ma 4 (.load false 1 (.t 3)), Ma 5 (.faddr 1 (.t 1)), Ma 6 (.load false 1 (.t 5)), Ma 7 (.faddr 2 (.t 1)), Ma 8 (.load false 1 (.t 7)), Ma 9 (.faddr 3 (.t 1)), Ma 10 (.load true 5 (.t 9)), Ma 11 (.faddr 8 (.t 1)), Ma 12 (.load false 1 (.t 11)), Ma 13 (.build [(.int .i64 0), (.int .i64 0), (.int .i64 0), (.int .i64 0), (.int .i64 0), (.int .i64 0), (.int .i64 0), (.int .i64 0), (.int .i64 0)] [(0, (1, (.t 4))), (1, (1, (.t 6))), (2, (1, (.t 8))), (3, (5, (.t 10))), (8, (1, (.t 12)))]), Mb (.store 9 (.t 2) (.t 13))]
@[simp] theorem l10_1 : q10_1.length = 12 := rfl
instance : KR Tryd.f10.ntmps q10_1 := ⟨[2], by kernel_rfl⟩
def m10 : MCode := .seq (.reg q10_0) (.seq (.reg q10_1) .ret)
theorem rc10 : rcOf Tryd.prog Tryd.f10 = some m10 := by kernel_rfl
theorem rv10 : rRVs Tryd.prog Tryd.f10.results.toList = some [(.c true 9 2)] := by kernel_rfl
theorem nm10 : (Tryd.f10.name == "runtime.NumGoroutine") = false := by kernel_rfl
def q13_0 : List MO := [Ma 1 (.box (.t 0)), Ma 2 (.mv (.c .nsl))]
@[simp] theorem l13_0 : q13_0.length = 2 := rfl
instance : KR Tryd.f13.ntmps q13_0 := ⟨[1], by kernel_rfl⟩
def q13_1 : List MO := [Ma 3 (.faddr 0 (.t 1)), Ma 4 (.load false 1 (.t 3)), Ma 5 (.build [(.str (ByteArray.mk #[])), (.int .i64 0), (.int .i64 0), (.int .i64 0)] [(0, (1, (.c (.str (ByteArray.mk #[112, 97, 114, 116, 115]))))), (1, (1, (.t 4))), (2, (1, (.c (.int .i64 1)))), (3, (1, (.c (.int .i64 6))))]), Ma 6 (.faddr 1 (.t 1)), Ma 7 (.load false 1 (.t 6)), Ma 8 (.build [(.str (ByteArray.mk #[])), (.int .i64 0), (.int .i64 0), (.int .i64 0)] [(0, (1, (.c (.str (ByteArray.mk #[99, 101, 108, 108, 115]))))), (1, (1, (.t 7))), (2, (1, (.c (.int .i64 1)))), (3, (1, (.c (.int .i64 4))))]), Ma 9 (.faddr 2 (.t 1)), Ma 10 (.load false 1 (.t 9)), Ma 11 (.build [(.str (ByteArray.mk #[])), (.int .i64 0), (.int .i64 0), (.int .i64 0)] [(0, (1, (.c (.str (ByteArray.mk #[110, 97, 109, 101, 115]))))), (1, (1, (.t 10))), (2, (1, (.c (.int .i64 1)))), (3, (1, (.c (.int .i64 3))))]), Ma 12 (.faddr 3 (.t 1)), Ma 13 (.load false 1 (.t 12)), Ma 14 (.build [(.str (ByteArray.mk #[])), (.int .i64 0), (.int .i64 0), (.int .i64 0)] [(0, (1, (.c (.str (ByteArray.mk #[98, 97, 110, 100, 115]))))), (1, (1, (.t 13))), (2, (1, (.c (.int .i64 1)))), (3, (1, (.c (.int .i64 4))))]), Ma 15 (.faddr 4 (.t 1)), Ma 16 (.load false 1 (.t 15)), Ma 17 (.build [(.str (ByteArray.mk #[])), (.int .i64 0), (.int .i64 0), (.int .i64 0)] [(0, (1, (.c (.str (ByteArray.mk #[112, 114, 111, 98, 101, 115]))))), (1, (1, (.t 16))), (2, (1, (.c (.int .i64 0)))), (3, (1, (.c (.int .i64 4))))]), Ma 18 (.faddr 5 (.t 1)), Ma 19 (.load false 1 (.t 18)), Ma 20 (.build [(.str (ByteArray.mk #[])), (.int .i64 0), (.int .i64 0), (.int .i64 0)] [(0, (1, (.c (.str (ByteArray.mk #[102, 105, 108, 108, 115]))))), (1, (1, (.t 19))), (2, (1, (.c (.int .i64 1)))), (3, (1, (.c (.int .i64 4))))]), Ma 21 (.faddr 6 (.t 1)), Ma 22 (.load false 1 (.t 21)), Ma 23 (.build [(.str (ByteArray.mk #[])), (.int .i64 0), (.int .i64 0), (.int .i64 0)] [(0, (1, (.c (.str (ByteArray.mk #[103, 101, 110, 115]))))), (1, (1, (.t 22))), (2, (1, (.c (.int .i64 1)))), (3, (1, (.c (.int .i64 15))))]), Ma 24 (.bsl 4 7 [(.str (ByteArray.mk #[])), (.int .i64 0), (.int .i64 0), (.int .i64 0)] [(0, (4, (.t 5))), (4, (4, (.t 8))), (8, (4, (.t 11))), (12, (4, (.t 14))), (16, (4, (.t 17))), (20, (4, (.t 20))), (24, (4, (.t 23)))]), Ma 2 (.mv (.t 24))]
@[simp] theorem l13_1 : q13_1.length = 23 := rfl
instance : KR Tryd.f13.ntmps q13_1 := ⟨[2], by kernel_rfl⟩
def m13 : MCode := .seq (.reg q13_0) (.seq (.reg q13_1) .ret)
theorem rc13 : rcOf Tryd.prog Tryd.f13 = some m13 := by kernel_rfl
theorem rv13 : rRVs Tryd.prog Tryd.f13.results.toList = some [(.t 2)] := by kernel_rfl
theorem nm13 : (Tryd.f13.name == "runtime.NumGoroutine") = false := by kernel_rfl
def q14_0 : List MO := [Ma 4 (.mv (.c (.raw .nilIface)))]
@[simp] theorem l14_0 : q14_0.length = 1 := rfl
instance : KR Tryd.f14.ntmps q14_0 := ⟨[0, 1], by kernel_rfl⟩
def q14_1 : List MO := [Ma 5 (.mv (.t 1)), Ma 6 (.eq false .iface (.t 5) (.c (.raw .nilIface)))]
@[simp] theorem l14_1 : q14_1.length = 2 := rfl
instance : KR Tryd.f14.ntmps q14_1 := ⟨[0, 1, 6], by kernel_rfl⟩
def q14_2 : List MO := [Ma 4 (.mv (.c (.raw .nilIface)))]
@[simp] theorem l14_2 : q14_2.length = 1 := rfl
instance : KR Tryd.f14.ntmps q14_2 := ⟨[4], by kernel_rfl⟩
def q14_3 : List MO := [Ma 7 (.mv (.t 0)), Ma 8 (.mv (.t 1)), Ma 9 (.build [(.int .i64 0), (.raw .nilIface)] [(0, (1, (.t 7))), (1, (1, (.t 8)))]), Ma 10 (.box (.t 9)), Ma 11 (.mkif 71 (.t 10)), Ma 4 (.mv (.t 11))]
@[simp] theorem l14_3 : q14_3.length = 6 := rfl
instance : KR Tryd.f14.ntmps q14_3 := ⟨[4], by kernel_rfl⟩
def m14 : MCode := .seq (.reg q14_0) (.seq (.seq (.reg q14_1) (.cond (.t 6) (.seq (.reg q14_2) .ret) .skip)) (.seq (.reg q14_3) .ret))
theorem rc14 : rcOf Tryd.prog Tryd.f14 = some m14 := by kernel_rfl
theorem rv14 : rRVs Tryd.prog Tryd.f14.results.toList = some [(.t 4)] := by kernel_rfl
theorem nm14 : (Tryd.f14.name == "runtime.NumGoroutine") = false := by kernel_rfl
def q15_0 : List MO := [Ma 4 (.mv (.c (.raw .nilIface)))]
@[simp] theorem l15_0 : q15_0.length = 1 := rfl
instance : KR Tryd.f15.ntmps q15_0 := ⟨[0, 1], by kernel_rfl⟩
def q15_1 : List MO := [Ma 5 (.mv (.t 1)), Ma 6 (.eq false .iface (.t 5) (.c (.raw .nilIface)))]
@[simp] theorem l15_1 : q15_1.length = 2 := rfl
instance : KR Tryd.f15.ntmps q15_1 := ⟨[0, 1, 6], by kernel_rfl⟩
def q15_2 : List MO := [Ma 4 (.mv (.c (.raw .nilIface)))]
@[simp] theorem l15_2 : q15_2.length = 1 := rfl
instance : KR Tryd.f15.ntmps q15_2 := ⟨[4], by kernel_rfl⟩
def q15_3 : List MO := [Ma 7 (.mv (.t 0)), Ma 8 (.mv (.t 1)), Ma 9 (.build [(.str (ByteArray.mk #[])), (.raw .nilIface)] [(0, (1, (.t 7))), (1, (1, (.t 8)))]), Ma 10 (.box (.t 9)), Ma 11 (.mkif 74 (.t 10)), Ma 4 (.mv (.t 11))]
@[simp] theorem l15_3 : q15_3.length = 6 := rfl
instance : KR Tryd.f15.ntmps q15_3 := ⟨[4], by kernel_rfl⟩
def m15 : MCode := .seq (.reg q15_0) (.seq (.seq (.reg q15_1) (.cond (.t 6) (.seq (.reg q15_2) .ret) .skip)) (.seq (.reg q15_3) .ret))
theorem rc15 : rcOf Tryd.prog Tryd.f15 = some m15 := by kernel_rfl
theorem rv15 : rRVs Tryd.prog Tryd.f15.results.toList = some [(.t 4)] := by kernel_rfl
theorem nm15 : (Tryd.f15.name == "runtime.NumGoroutine") = false := by kernel_rfl
end Go.W
