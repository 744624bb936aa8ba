/- The resolved code of the functions, by a program. -/
import Derived.Test.YtjhefpcocdoilaaDoorPqA
import Derived.Test.YtjhefpcocdoilaaDoorLaX
import Derived.Test.YtjhefpcocdoilaaDoorWbA
namespace Go.W
open Go.Proofs
set_option maxRecDepth 100000
def q8_0 : List MO := [Ma 2 (.box (.t 0)), Ma 4 (.mv (.c (.raw (.pointer none)))), Ma 5 (.mv (.c (.raw .nilIface)))]
@[simp] theorem l8_0 : q8_0.length = 3 := rfl
instance : KR Tryd.f8.ntmps q8_0 := ⟨[1, 2], by kernel_rfl⟩
def q8_1 : List MO := [Ma 10 (.mv (.t 1)), Ma 11 (.len (.t 10)), Ma 12 (.faddr 0 (.t 2)), Ma 13 (.faddr 0 (.t 12)), Ma 14 (.load false 1 (.t 13)), Ma 15 (.bin .neq (.t 11) (.t 14))]
@[simp] theorem l8_1 : q8_1.length = 6 := rfl
instance : KR Tryd.f8.ntmps q8_1 := ⟨[1, 2, 15], by kernel_rfl⟩
def q8_2 : List MO := [Ma 16 (.mkif 60 (.c (.int .i64 1))), Ma 4 (.mv (.c (.raw (.pointer none)))), Ma 5 (.mv (.t 16))]
@[simp] theorem l8_2 : q8_2.length = 3 := rfl
instance : KR Tryd.f8.ntmps q8_2 := ⟨[4, 5], by kernel_rfl⟩
def q8_3 : List MO := [Ma 17 (.mv (.t 1)), Ma 18 (.len (.t 17)), Ma 19 (.mv (.c (.int .i64 0)))]
@[simp] theorem l8_3 : q8_3.length = 3 := rfl
instance : KR Tryd.f8.ntmps q8_3 := ⟨[1, 2, 17, 18, 19], by kernel_rfl⟩
def q8_4 : List MO := [Ma 20 (.bin .lss (.t 19) (.t 18))]
@[simp] theorem l8_4 : q8_4.length = 1 := rfl
instance : KR Tryd.f8.ntmps q8_4 := ⟨[1, 2, 17, 18, 19, 20], by kernel_rfl⟩
def q8_5 : List MO := [Ma 21 (.mv (.t 19)), Ma 22 (.iaddr 5 (.t 17) (.t 19)), Ma 23 (.load true 5 (.t 22)), Ma 7 (.alloc [(.int .i64 0), (.int .i64 0), (.int .i64 0), (.int .i64 0), (.int .i64 0)]), Ma 6 (.mv (.t 21)), Mb (.store 5 (.t 7) (.t 23))]
@[simp] theorem l8_5 : q8_5.length = 6 := rfl
instance : KR Tryd.f8.ntmps q8_5 := ⟨[1, 2, 6, 7, 17, 18, 19], by kernel_rfl⟩
def q8_6 : List MO := [Ma 24 (.faddr 0 (.t 7)), Ma 25 (.load false 1 (.t 24)), Ma 26 (.faddr 1 (.t 7)), Ma 27 (.load false 1 (.t 26)), Ma 28 (.faddr 2 (.t 7)), Ma 29 (.load false 1 (.t 28)), Ma 30 (.faddr 3 (.t 7)), Ma 31 (.load false 1 (.t 30)), Ma 32 (.faddr 4 (.t 7)), Ma 33 (.load false 1 (.t 32)), Ma 34 (.bsl 1 5 [(.int .i64 0)] [(0, (1, (.t 25))), (1, (1, (.t 27))), (2, (1, (.t 29))), (3, (1, (.t 31))), (4, (1, (.t 33)))]), Ma 35 (.len (.t 34)), Ma 36 (.mv (.c (.int .i64 0)))]
@[simp] theorem l8_6 : q8_6.length = 13 := rfl
instance : KR Tryd.f8.ntmps q8_6 := ⟨[1, 2, 6, 17, 18, 19, 34, 35, 36], by kernel_rfl⟩
def q8_7 : List MO := [Ma 37 (.bin .lss (.t 36) (.t 35))]
@[simp] theorem l8_7 : q8_7.length = 1 := rfl
instance : KR Tryd.f8.ntmps q8_7 := ⟨[1, 2, 6, 17, 18, 19, 34, 35, 36, 37], by kernel_rfl⟩
def q8_8 : List MO := [Ma 38 (.iaddr 1 (.t 34) (.t 36)), Ma 39 (.load false 1 (.t 38)), Ma 9 (.mv (.t 39))]
@[simp] theorem l8_8 : q8_8.length = 3 := rfl
instance : KR Tryd.f8.ntmps q8_8 := ⟨[1, 2, 6, 9, 17, 18, 19, 34, 35, 36], by kernel_rfl⟩
def q8_9 : List MO := [Ma 40 (.mv (.t 9)), Ma 41 (.bin .lss (.t 40) (.c (.int .i64 0))), Ma 42 (.mv (.t 41)), Mg 43 (.mv (.t 9)) 42 false, Mg 44 (.bin .gtr (.t 43) (.c (.int .i64 1099511627776))) 42 false, Ma 45 (.pick (.t 42) (.c (.bool true)) (.t 44))]
@[simp] theorem l8_9 : q8_9.length = 6 := rfl
instance : KR Tryd.f8.ntmps q8_9 := ⟨[1, 2, 6, 17, 18, 19, 34, 35, 36, 45], by kernel_rfl⟩
def q8_10 : List MO := [Ma 46 (.mv (.t 6)), Ma 47 (.mkif 60 (.c (.int .i64 5))), Ma 48 (.call (.c (.fn 14 [])) [(.t 46), (.t 47)]), Ma 4 (.mv (.c (.raw (.pointer none)))), Ma 5 (.mv (.t 48))]
@[simp] theorem l8_10 : q8_10.length = 5 := rfl
instance : KR Tryd.f8.ntmps q8_10 := ⟨[4, 5], by kernel_rfl⟩
def q8_11 : List MO := [Ma 49 (.bin .add (.t 36) (.c (.int .i64 1))), Ma 36 (.mv (.t 49))]
@[simp] theorem l8_11 : q8_11.length = 2 := rfl
instance : KR Tryd.f8.ntmps q8_11 := ⟨[1, 2, 6, 17, 18, 19, 34, 35, 36], by kernel_rfl⟩
def q8_12 : List MO := [Ma 50 (.bin .add (.t 19) (.c (.int .i64 1))), Ma 19 (.mv (.t 50))]
@[simp] theorem l8_12 : q8_12.length = 2 := rfl
instance : KR Tryd.f8.ntmps q8_12 := ⟨[1, 2, 17, 18, 19], by kernel_rfl⟩
def q8_13 : List MO := [Ma 51 (.load true 7 (.t 2)), Ma 52 (.mv (.t 1)), Ma 53 (.app 5 40 (.c .nsl) (.t 52)), Ma 54 (.build [(.int .i64 0), (.int .i64 0), (.int .i64 0), (.int .i64 0), (.int .i64 0), (.int .i64 0), (.int .i64 0), .nsl] [(0, (7, (.t 51))), (7, (1, (.t 53)))]), Ma 55 (.box (.t 54)), Ma 4 (.mv (.t 55)), Ma 5 (.mv (.c (.raw .nilIface)))]
@[simp] theorem l8_13 : q8_13.length = 7 := rfl
def p8_13 : List (List Nat) := [[], [], [1], [0, 2], [3], [4, 2, 0, 1, 2, 3, 4], [5, 0, 1, 2, 3, 4, 5]]
instance : KD Tryd.f8.ntmps q8_13 p8_13 := ⟨[[], [], [1], [0, 1, 2], [0, 1, 2, 3], [0, 1, 2, 3, 4], [0, 1, 2, 3, 4, 5]], [4, 5], by kernel_rfl⟩
def m8 : MCode := .seq (.reg q8_0) (.seq (.seq (.reg q8_1) (.cond (.t 15) (.seq (.reg q8_2) .ret) .skip)) (.seq (.seq (.reg q8_3) (.block 0 (.loop (.seq (.reg q8_4) (.seq (.cond (.t 20) .skip (.exit 0)) (.seq (.block 1 (.seq (.reg q8_5) (.seq (.reg q8_6) (.block 2 (.loop (.seq (.reg q8_7) (.seq (.cond (.t 37) .skip (.exit 2)) (.seq (.block 3 (.seq (.reg q8_8) (.seq (.reg q8_9) (.cond (.t 45) (.seq (.reg q8_10) .ret) .skip)))) (.reg q8_11))))))))) (.reg q8_12))))))) (.seq (.draw q8_13 p8_13) .ret)))
theorem rc8 : rcOf Tryd.prog Tryd.f8 = some m8 := by kernel_rfl
theorem rv8 : rRVs Tryd.prog Tryd.f8.results.toList = some [(.t 4), (.t 5)] := by kernel_rfl
theorem nm8 : (Tryd.f8.name == "runtime.NumGoroutine") = false := by kernel_rfl
def q11_0 : List MO := [Ma 7 (.box (.t 2)), Ma 8 (.box (.t 3)), Ma 10 (.mv (.c (.raw .nilIface)))]
@[simp] theorem l11_0 : q11_0.length = 3 := rfl
instance : KR Tryd.f11.ntmps q11_0 := ⟨[0, 1, 4, 7, 8], by kernel_rfl⟩
def q11_1 : List MO := [Ma 15 (.mv (.t 0)), Ma 16 (.mv (.t 1)), Ma 17 (.call (.c (.fn 18 [])) [(.t 15), (.t 16)]), Ma 14 (.mv (.t 17)), Ma 18 (.ext (.t 14) 0), Ma 19 (.ext (.t 14) 1), Ma 11 (.alloc [(.int .i64 0), (.int .i64 0), (.int .i64 0), (.int .i64 0), (.int .i64 0)]), Mb (.store 5 (.t 11) (.t 18)), Ma 12 (.mv (.t 19))]
@[simp] theorem l11_1 : q11_1.length = 9 := rfl
instance : KR Tryd.f11.ntmps q11_1 := ⟨[4, 7, 8, 11, 12], by kernel_rfl⟩
def q11_2 : List MO := [Ma 20 (.mv (.t 12)), Ma 21 (.un .not (.t 20))]
@[simp] theorem l11_2 : q11_2.length = 2 := rfl
instance : KR Tryd.f11.ntmps q11_2 := ⟨[4, 7, 8, 11, 21], by kernel_rfl⟩
def q11_3 : List MO := [Ma 22 (.mkif 60 (.c (.int .i64 3))), Ma 10 (.mv (.t 22))]
@[simp] theorem l11_3 : q11_3.length = 2 := rfl
instance : KR Tryd.f11.ntmps q11_3 := ⟨[10], by kernel_rfl⟩
def q11_4 : List MO := [Ma 23 (.faddr 0 (.t 7)), Ma 24 (.load false 1 (.t 23)), Ma 25 (.bin .neq (.t 24) (.c (.int .i64 1)))]
@[simp] theorem l11_4 : q11_4.length = 3 := rfl
instance : KR Tryd.f11.ntmps q11_4 := ⟨[4, 7, 8, 11, 25], by kernel_rfl⟩
def q11_5 : List MO := [Ma 10 (.mv (.c (.raw .nilIface)))]
@[simp] theorem l11_5 : q11_5.length = 1 := rfl
instance : KR Tryd.f11.ntmps q11_5 := ⟨[10], by kernel_rfl⟩
def q11_6 : List MO := [Ma 26 (.faddr 3 (.t 7)), Ma 27 (.faddr 2 (.t 26)), Ma 28 (.load false 1 (.t 27)), Ma 29 (.mv (.t 4)), Ma 30 (.bin .sub (.t 28) (.t 29)), Ma 31 (.mv (.t 4)), Ma 32 (.faddr 3 (.t 7)), Ma 33 (.faddr 2 (.t 32)), Ma 34 (.load false 1 (.t 33)), Ma 35 (.bin .sub (.t 31) (.t 34)), Ma 36 (.mx [(.t 30), (.t 35)]), Ma 13 (.mv (.t 36))]
@[simp] theorem l11_6 : q11_6.length = 12 := rfl
instance : KR Tryd.f11.ntmps q11_6 := ⟨[4, 7, 8, 11, 13], by kernel_rfl⟩
def q11_7 : List MO := [Ma 38 (.faddr 0 (.t 8)), Ma 39 (.load false 1 (.t 38)), Ma 40 (.bin .add (.t 39) (.c (.int .i64 1))), Ma 41 (.faddr 0 (.t 11)), Ma 42 (.load false 1 (.t 41)), Ma 43 (.bin .gtr (.t 40) (.t 42)), Ma 37 (.mv (.t 43))]
@[simp] theorem l11_7 : q11_7.length = 7 := rfl
instance : KR Tryd.f11.ntmps q11_7 := ⟨[4, 7, 8, 11, 13, 37], by kernel_rfl⟩
def q11_8 : List MO := [Ma 44 (.mkif 60 (.c (.int .i64 4))), Ma 45 (.call (.c (.fn 15 [])) [(.c (.str (ByteArray.mk #[111, 112, 101, 110]))), (.t 44)]), Ma 10 (.mv (.t 45))]
@[simp] theorem l11_8 : q11_8.length = 3 := rfl
instance : KR Tryd.f11.ntmps q11_8 := ⟨[10], by kernel_rfl⟩
def q11_9 : List MO := [Ma 47 (.faddr 1 (.t 8)), Ma 48 (.load false 1 (.t 47)), Ma 49 (.faddr 8 (.t 7)), Ma 50 (.load false 1 (.t 49)), Ma 51 (.bin .add (.t 48) (.t 50)), Ma 52 (.faddr 1 (.t 11)), Ma 53 (.load false 1 (.t 52)), Ma 54 (.bin .gtr (.t 51) (.t 53)), Ma 46 (.mv (.t 54))]
@[simp] theorem l11_9 : q11_9.length = 9 := rfl
instance : KR Tryd.f11.ntmps q11_9 := ⟨[4, 7, 8, 11, 13, 46], by kernel_rfl⟩
def q11_10 : List MO := [Ma 55 (.mkif 60 (.c (.int .i64 4))), Ma 56 (.call (.c (.fn 15 [])) [(.c (.str (ByteArray.mk #[113, 116, 121]))), (.t 55)]), Ma 10 (.mv (.t 56))]
@[simp] theorem l11_10 : q11_10.length = 3 := rfl
instance : KR Tryd.f11.ntmps q11_10 := ⟨[10], by kernel_rfl⟩
def q11_11 : List MO := [Ma 58 (.faddr 2 (.t 8)), Ma 59 (.load false 1 (.t 58)), Ma 60 (.faddr 8 (.t 7)), Ma 61 (.load false 1 (.t 60)), Ma 62 (.faddr 3 (.t 7)), Ma 63 (.faddr 2 (.t 62)), Ma 64 (.load false 1 (.t 63)), Ma 65 (.bin .mul (.t 61) (.t 64)), Ma 66 (.bin .add (.t 59) (.t 65)), Ma 67 (.faddr 2 (.t 11)), Ma 68 (.load false 1 (.t 67)), Ma 69 (.bin .gtr (.t 66) (.t 68)), Ma 57 (.mv (.t 69))]
@[simp] theorem l11_11 : q11_11.length = 13 := rfl
instance : KR Tryd.f11.ntmps q11_11 := ⟨[4, 7, 8, 11, 13, 57], by kernel_rfl⟩
def q11_12 : List MO := [Ma 70 (.mkif 60 (.c (.int .i64 4))), Ma 71 (.call (.c (.fn 15 [])) [(.c (.str (ByteArray.mk #[119, 111, 114, 116, 104]))), (.t 70)]), Ma 10 (.mv (.t 71))]
@[simp] theorem l11_12 : q11_12.length = 3 := rfl
instance : KR Tryd.f11.ntmps q11_12 := ⟨[10], by kernel_rfl⟩
def q11_13 : List MO := [Ma 73 (.load true 6 (.t 8)), Ma 74 (.faddr 3 (.t 7)), Ma 75 (.faddr 1 (.t 74)), Ma 76 (.load false 1 (.t 75)), Ma 77 (.faddr 8 (.t 7)), Ma 78 (.load false 1 (.t 77)), Ma 79 (.call (.c (.fn 19 [])) [(.t 73), (.t 76), (.t 78)]), Ma 80 (.faddr 3 (.t 11)), Ma 81 (.load false 1 (.t 80)), Ma 82 (.bin .gtr (.t 79) (.t 81)), Ma 72 (.mv (.t 82))]
@[simp] theorem l11_13 : q11_13.length = 11 := rfl
def p11_13 : List (List Nat) := [[], [], [1], [2], [], [4], [0, 3, 5], [], [7], [6, 8], [9, 6]]
instance : KD Tryd.f11.ntmps q11_13 p11_13 := ⟨[[], [], [1], [1, 2], [], [4], [0, 1, 2, 3, 4, 5], [], [7], [0, 1, 2, 3, 4, 5, 6, 7, 8], [0, 1, 2, 3, 4, 5, 6, 7, 8, 9]], [4, 11, 13, 72], by kernel_rfl⟩
def q11_14 : List MO := [Ma 83 (.mkif 60 (.c (.int .i64 4))), Ma 84 (.call (.c (.fn 15 [])) [(.c (.str (ByteArray.mk #[110, 101, 116]))), (.t 83)]), Ma 10 (.mv (.t 84))]
@[simp] theorem l11_14 : q11_14.length = 3 := rfl
instance : KR Tryd.f11.ntmps q11_14 := ⟨[10], by kernel_rfl⟩
def q11_15 : List MO := [Ma 86 (.mv (.t 4)), Ma 87 (.bin .gtr (.t 86) (.c (.int .i64 0))), Ma 88 (.mv (.t 87)), Mg 89 (.mv (.t 13)) 88 true, Mg 90 (.faddr 4 (.t 11)) 88 true, Mg 91 (.load false 1 (.t 90)) 88 true, Mg 92 (.bin .gtr (.t 89) (.t 91)) 88 true, Ma 93 (.pick (.t 88) (.t 92) (.c (.bool false))), Ma 85 (.mv (.t 93))]
@[simp] theorem l11_15 : q11_15.length = 9 := rfl
instance : KR Tryd.f11.ntmps q11_15 := ⟨[85], by kernel_rfl⟩
def q11_16 : List MO := [Ma 94 (.mkif 60 (.c (.int .i64 4))), Ma 95 (.call (.c (.fn 15 [])) [(.c (.str (ByteArray.mk #[112, 114, 105, 99, 101]))), (.t 94)]), Ma 10 (.mv (.t 95))]
@[simp] theorem l11_16 : q11_16.length = 3 := rfl
instance : KR Tryd.f11.ntmps q11_16 := ⟨[10], by kernel_rfl⟩
def q11_17 : List MO := [Ma 10 (.mv (.c (.raw .nilIface)))]
@[simp] theorem l11_17 : q11_17.length = 1 := rfl
instance : KR Tryd.f11.ntmps q11_17 := ⟨[10], by kernel_rfl⟩
def m11 : MCode := .seq (.reg q11_0) (.seq (.reg q11_1) (.seq (.seq (.reg q11_2) (.cond (.t 21) (.seq (.reg q11_3) .ret) .skip)) (.seq (.seq (.reg q11_4) (.cond (.t 25) (.seq (.reg q11_5) .ret) .skip)) (.seq (.reg q11_6) (.seq (.block 0 (.seq (.reg q11_7) (.cond (.t 37) (.seq (.reg q11_8) .ret) (.seq (.reg q11_9) (.cond (.t 46) (.seq (.reg q11_10) .ret) (.seq (.reg q11_11) (.cond (.t 57) (.seq (.reg q11_12) .ret) (.seq (.draw q11_13 p11_13) (.cond (.t 72) (.seq (.reg q11_14) .ret) (.seq (.reg q11_15) (.cond (.t 85) (.seq (.reg q11_16) .ret) .skip))))))))))) (.seq (.reg q11_17) .ret))))))
theorem rc11 : rcOf Tryd.prog Tryd.f11 = some m11 := by kernel_rfl
theorem rv11 : rRVs Tryd.prog Tryd.f11.results.toList = some [(.t 10)] := by kernel_rfl
theorem nm11 : (Tryd.f11.name == "runtime.NumGoroutine") = false := by kernel_rfl
def q12_0 : List MO := [Ma 5 (.box (.t 2)), Ma 6 (.mv (.c (.bool false)))]
@[simp] theorem l12_0 : q12_0.length = 2 := rfl
instance : KR Tryd.f12.ntmps q12_0 := ⟨[0, 1, 5], by kernel_rfl⟩
def q12_1 : List MO := [Ma 10 (.mv (.t 0)), Ma 11 (.mv (.t 1)), Ma 12 (.call (.c (.fn 18 [])) [(.t 10), (.t 11)]), Ma 9 (.mv (.t 12)), Ma 13 (.ext (.t 9) 0), Ma 14 (.ext (.t 9) 1), Ma 7 (.alloc [(.int .i64 0), (.int .i64 0), (.int .i64 0), (.int .i64 0), (.int .i64 0)]), Mb (.store 5 (.t 7) (.t 13)), Ma 8 (.mv (.t 14))]
@[simp] theorem l12_1 : q12_1.length = 9 := rfl
instance : KR Tryd.f12.ntmps q12_1 := ⟨[5, 7, 8], by kernel_rfl⟩
def q12_2 : List MO := [Ma 15 (.mv (.t 8)), Ma 16 (.mv (.t 15)), Mg 17 (.faddr 0 (.t 5)) 16 true, Mg 18 (.load false 1 (.t 17)) 16 true, Mg 19 (.faddr 0 (.t 7)) 16 true, Mg 20 (.load false 1 (.t 19)) 16 true, Mg 21 (.bin .leq (.t 18) (.t 20)) 16 true, Ma 22 (.pick (.t 16) (.t 21) (.c (.bool false))), Ma 23 (.mv (.t 22)), Mg 24 (.faddr 1 (.t 5)) 23 true, Mg 25 (.load false 1 (.t 24)) 23 true, Mg 26 (.faddr 1 (.t 7)) 23 true, Mg 27 (.load false 1 (.t 26)) 23 true, Mg 28 (.bin .leq (.t 25) (.t 27)) 23 true, Ma 29 (.pick (.t 23) (.t 28) (.c (.bool false))), Ma 30 (.mv (.t 29)), Mg 31 (.faddr 2 (.t 5)) 30 true, Mg 32 (.load false 1 (.t 31)) 30 true, Mg 33 (.faddr 2 (.t 7)) 30 true, Mg 34 (.load false 1 (.t 33)) 30 true, Mg 35 (.bin .leq (.t 32) (.t 34)) 30 true, Ma 36 (.pick (.t 30) (.t 35) (.c (.bool false))), Ma 37 (.mv (.t 36)), Mg 38 (.load true 6 (.t 5)) 37 true, Mg 39 (.call (.c (.fn 19 [])) [(.t 38), (.c (.int .i64 (-1))), (.c (.int .i64 0))]) 37 true, Mg 40 (.faddr 3 (.t 7)) 37 true, Mg 41 (.load false 1 (.t 40)) 37 true, Mg 42 (.bin .leq (.t 39) (.t 41)) 37 true, Ma 43 (.pick (.t 37) (.t 42) (.c (.bool false))), Ma 6 (.mv (.t 43))]
@[simp] theorem l12_2 : q12_2.length = 30 := rfl
def p12_2 : List (List Nat) := [[], [0], [1], [2, 1], [1], [4, 1], [3, 5, 1], [1, 6], [7, 1], [8], [9, 8], [8], [11, 8], [10, 12, 8], [8, 13], [14, 8], [15], [16, 15], [15], [18, 15], [17, 19, 15], [15, 20], [21, 15], [22], [23, 22, 22], [22], [25, 22], [24, 26, 22], [22, 27], [28, 24, 0, 1, 2, 3, 4, 5, 6, 7, 8, 9, 10, 11, 12, 13, 14, 15, 16, 17, 18, 19, 20, 21, 22, 23, 24, 25, 26, 27, 28]]
instance : KD Tryd.f12.ntmps q12_2 p12_2 := ⟨[[], [0], [0, 1], [0, 1, 2], [0, 1], [0, 1, 4], [0, 1, 2, 3, 4, 5], [0, 1, 2, 3, 4, 5, 6], [0, 1, 2, 3, 4, 5, 6, 7], [0, 1, 2, 3, 4, 5, 6, 7, 8], [0, 1, 2, 3, 4, 5, 6, 7, 8, 9], [0, 1, 2, 3, 4, 5, 6, 7, 8], [0, 1, 2, 3, 4, 5, 6, 7, 8, 11], [0, 1, 2, 3, 4, 5, 6, 7, 8, 9, 10, 11, 12], [0, 1, 2, 3, 4, 5, 6, 7, 8, 9, 10, 11, 12, 13], [0, 1, 2, 3, 4, 5, 6, 7, 8, 9, 10, 11, 12, 13, 14], [0, 1, 2, 3, 4, 5, 6, 7, 8, 9, 10, 11, 12, 13, 14, 15], [0, 1, 2, 3, 4, 5, 6, 7, 8, 9, 10, 11, 12, 13, 14, 15, 16], [0, 1, 2, 3, 4, 5, 6, 7, 8, 9, 10, 11, 12, 13, 14, 15], [0, 1, 2, 3, 4, 5, 6, 7, 8, 9, 10, 11, 12, 13, 14, 15, 18], [0, 1, 2, 3, 4, 5, 6, 7, 8, 9, 10, 11, 12, 13, 14, 15, 16, 17, 18, 19], [0, 1, 2, 3, 4, 5, 6, 7, 8, 9, 10, 11, 12, 13, 14, 15, 16, 17, 18, 19, 20], [0, 1, 2, 3, 4, 5, 6, 7, 8, 9, 10, 11, 12, 13, 14, 15, 16, 17, 18, 19, 20, 21], [0, 1, 2, 3, 4, 5, 6, 7, 8, 9, 10, 11, 12, 13, 14, 15, 16, 17, 18, 19, 20, 21, 22], [0, 1, 2, 3, 4, 5, 6, 7, 8, 9, 10, 11, 12, 13, 14, 15, 16, 17, 18, 19, 20, 21, 22, 23], [0, 1, 2, 3, 4, 5, 6, 7, 8, 9, 10, 11, 12, 13, 14, 15, 16, 17, 18, 19, 20, 21, 22], [0, 1, 2, 3, 4, 5, 6, 7, 8, 9, 10, 11, 12, 13, 14, 15, 16, 17, 18, 19, 20, 21, 22, 25], [0, 1, 2, 3, 4, 5, 6, 7, 8, 9, 10, 11, 12, 13, 14, 15, 16, 17, 18, 19, 20, 21, 22, 23, 24, 25, 26], [0, 1, 2, 3, 4, 5, 6, 7, 8, 9, 10, 11, 12, 13, 14, 15, 16, 17, 18, 19, 20, 21, 22, 23, 24, 25, 26, 27], [0, 1, 2, 3, 4, 5, 6, 7, 8, 9, 10, 11, 12, 13, 14, 15, 16, 17, 18, 19, 20, 21, 22, 23, 24, 25, 26, 27, 28]], [6], by kernel_rfl⟩
def m12 : MCode := .seq (.reg q12_0) (.seq (.reg q12_1) (.seq (.draw q12_2 p12_2) .ret))
theorem rc12 : rcOf Tryd.prog Tryd.f12 = some m12 := by kernel_rfl
theorem rv12 : rRVs Tryd.prog Tryd.f12.results.toList = some [(.t 6)] := by kernel_rfl
theorem nm12 : (Tryd.f12.name == "runtime.NumGoroutine") = false := by kernel_rfl
def q18_0 : List MO := [Ma 4 (.alloc [(.int .i64 0), (.int .i64 0), (.int .i64 0), (.int .i64 0), (.int .i64 0)]), Ma 5 (.mv (.c (.bool false)))]
@[simp] theorem l18_0 : q18_0.length = 2 := rfl
instance : KR Tryd.f18.ntmps q18_0 := ⟨[0, 1, 4], by kernel_rfl⟩
def q18_1 : List MO := [Ma 6 (.mv (.t 0)), Ma 7 (.eq false .ptr (.t 6) (.c (.raw (.pointer none)))), Ma 8 (.mv (.t 7)), Mg 9 (.mv (.t 1)) 8 false, Mg 10 (.bin .lss (.t 9) (.c (.int .i64 0))) 8 false, Ma 11 (.pick (.t 8) (.c (.bool true)) (.t 10)), Ma 12 (.mv (.t 11)), Mg 13 (.mv (.t 1)) 12 false, Mg 14 (.mv (.t 0)) 12 false, Mg 15 (.nilck (.t 14)) 12 false, Mg 16 (.faddr 7 (.t 15)) 12 false, Mg 17 (.load false 1 (.t 16)) 12 false, Mg 18 (.len (.t 17)) 12 false, Mg 19 (.bin .geq (.t 13) (.t 18)) 12 false, Ma 20 (.pick (.t 12) (.c (.bool true)) (.t 19))]
@[simp] theorem l18_1 : q18_1.length = 15 := rfl
instance : KR Tryd.f18.ntmps q18_1 := ⟨[0, 1, 4, 20], by kernel_rfl⟩
def q18_2 : List MO := [Ma 21 (.build [(.int .i64 0), (.int .i64 0), (.int .i64 0), (.int .i64 0), (.int .i64 0)] []), Mb (.store 5 (.t 4) (.t 21)), Ma 5 (.mv (.c (.bool false)))]
@[simp] theorem l18_2 : q18_2.length = 3 := rfl
instance : KR Tryd.f18.ntmps q18_2 := ⟨[4, 5], by kernel_rfl⟩
def q18_3 : List MO := [Ma 22 (.mv (.t 0)), Ma 23 (.nilck (.t 22)), Ma 24 (.faddr 7 (.t 23)), Ma 25 (.load false 1 (.t 24)), Ma 26 (.mv (.t 1)), Ma 27 (.iaddr 5 (.t 25) (.t 26)), Ma 28 (.load true 5 (.t 27)), Mb (.store 5 (.t 4) (.t 28)), Ma 5 (.mv (.c (.bool true)))]
@[simp] theorem l18_3 : q18_3.length = 9 := rfl
instance : KR Tryd.f18.ntmps q18_3 := ⟨[4, 5], by kernel_rfl⟩
def m18 : MCode := .seq (.reg q18_0) (.seq (.seq (.reg q18_1) (.cond (.t 20) (.seq (.reg q18_2) .ret) .skip)) (.seq (.reg q18_3) .ret))
theorem rc18 : rcOf Tryd.prog Tryd.f18 = some m18 := by kernel_rfl
theorem rv18 : rRVs Tryd.prog Tryd.f18.results.toList = some [(.c true 5 4), (.t 5)] := by kernel_rfl
theorem nm18 : (Tryd.f18.name == "runtime.NumGoroutine") = false := by kernel_rfl
def q19_0 : List MO := [Ma 3 (.box (.t 0)), Ma 6 (.mv (.c (.int .i64 0)))]
@[simp] theorem l19_0 : q19_0.length = 2 := rfl
instance : KR Tryd.f19.ntmps q19_0 := ⟨[1, 2, 3], by kernel_rfl⟩
def q19_1 : List MO := [Ma 7 (.mv (.t 1))]
@[simp] theorem l19_1 : q19_1.length = 1 := rfl
instance : KR Tryd.f19.ntmps q19_1 := ⟨[2, 3, 7], by kernel_rfl⟩
def q19_2 : List MO := [Ma 9 (.bin .eql (.t 7) (.c (.int .i64 0))), Ma 8 (.mv (.t 9))]
@[simp] theorem l19_2 : q19_2.length = 2 := rfl
instance : KR Tryd.f19.ntmps q19_2 := ⟨[2, 3, 7, 8], by kernel_rfl⟩
def q19_3 : List MO := [Ma 10 (.faddr 4 (.t 3)), Ma 11 (.load false 1 (.t 10)), Ma 12 (.mv (.t 2)), Ma 13 (.bin .add (.t 11) (.t 12)), Ma 14 (.faddr 4 (.t 3)), Mb (.store 1 (.t 14) (.t 13))]
@[simp] theorem l19_3 : q19_3.length = 6 := rfl
instance : KR Tryd.f19.ntmps q19_3 := ⟨[3], by kernel_rfl⟩
def q19_4 : List MO := [Ma 16 (.bin .eql (.t 7) (.c (.int .i64 1))), Ma 15 (.mv (.t 16))]
@[simp] theorem l19_4 : q19_4.length = 2 := rfl
instance : KR Tryd.f19.ntmps q19_4 := ⟨[2, 3, 15], by kernel_rfl⟩
def q19_5 : List MO := [Ma 17 (.faddr 5 (.t 3)), Ma 18 (.load false 1 (.t 17)), Ma 19 (.mv (.t 2)), Ma 20 (.bin .add (.t 18) (.t 19)), Ma 21 (.faddr 5 (.t 3)), Mb (.store 1 (.t 21) (.t 20))]
@[simp] theorem l19_5 : q19_5.length = 6 := rfl
instance : KR Tryd.f19.ntmps q19_5 := ⟨[3], by kernel_rfl⟩
def q19_6 : List MO := [Ma 22 (.faddr 3 (.t 3)), Ma 23 (.load false 1 (.t 22)), Ma 24 (.faddr 4 (.t 3)), Ma 25 (.load false 1 (.t 24)), Ma 26 (.bin .add (.t 23) (.t 25)), Ma 27 (.faddr 5 (.t 3)), Ma 28 (.load false 1 (.t 27)), Ma 29 (.faddr 3 (.t 3)), Ma 30 (.load false 1 (.t 29)), Ma 31 (.bin .sub (.t 28) (.t 30)), Ma 32 (.mx [(.t 26), (.t 31)]), Ma 6 (.mv (.t 32))]
@[simp] theorem l19_6 : q19_6.length = 12 := rfl
instance : KR Tryd.f19.ntmps q19_6 := ⟨[6], by kernel_rfl⟩
def m19 : MCode := .seq (.reg q19_0) (.seq (.seq (.reg q19_1) (.block 0 (.seq (.reg q19_2) (.cond (.t 8) (.reg q19_3) (.seq (.reg q19_4) (.cond (.t 15) (.reg q19_5) .skip)))))) (.seq (.reg q19_6) .ret))
theorem rc19 : rcOf Tryd.prog Tryd.f19 = some m19 := by kernel_rfl
theorem rv19 : rRVs Tryd.prog Tryd.f19.results.toList = some [(.t 6)] := by kernel_rfl
theorem nm19 : (Tryd.f19.name == "runtime.NumGoroutine") = false := by kernel_rfl
end Go.W
namespace Go.W
open Go.Proofs
set_option linter.unusedSimpArgs false
set_option linter.unusedVariables false
set_option maxHeartbeats 8000000
attribute [local irreducible] Wm
attribute [local simp] nmap lkp mkPl prs prsL prT ddL idL CRenL CRen Ren RenL NObj.none CRenLL

/-- A fence. -/
structure FcZ where
  a : Int
  b : Int
  c : Int
  d : Int
  e : Int
  f : Int
  g : Int
  L : List L5
def fcC (M : FcZ) : List AV := [.int .i64 M.a, .int .i64 M.b, .int .i64 M.c, .int .i64 M.d, .int .i64 M.e, .int .i64 M.f, .int .i64 M.g, .os 0 5 (l5LL M.L)]
def fcOf : List AV → Option FcZ
  | [.int .i64 a, .int .i64 b, .int .i64 c, .int .i64 d, .int .i64 e, .int .i64 f, .int .i64 g, .os t 5 els] => if t = 0 then (match mapV l5Of els with
    | some L => some ⟨a, b, c, d, e, f, g, L⟩
    | none => none) else none
  | _ => none
theorem fcOf_C (M : FcZ) : fcOf (fcC M) = some M := by
  unfold fcOf fcC l5LL
  simp only [if_true]
  rw [mapV_map (f := l5Of) (g := l5C) l5Of_C]
theorem fcOf_ex {c : List AV} {M : FcZ} (h : fcOf c = some M) : c = fcC M := by
  unfold fcOf at h
  split at h
  · split at h
    · rename_i ht
      subst ht
      split at h
      · rename_i hm1
        injection h with h
        subst h
        rw [mapV_ex (g := l5C) (fun _ _ => l5Of_ex) hm1]; rfl
      · cases h
    · cases h
  · cases h
theorem fc_t0 (M : FcZ) : t0L (fcC M) = fcC M := by simp [fcC, t0L, AV.t0, l5_t0]
theorem fc_cl (M : FcZ) : clL (fcC M) = true := by simp [fcC, clL, AV.cl, l5_cl]
def d18 : List AV → Option Ans
  | [.op _ lc, .int .i64 p] => (match fcOf lc with
    | some Z => if 0 ≤ p then (match Z.L[p.toNat]? with
      | some r => some ⟨.tup [.agg (l5C r), .bool true], [.free]⟩
      | none => none) else none
    | none => none)
  | _ => none
theorem ok18 : NOk [(8, false)] d18 := by
  intro xs aa h
  unfold d18 at h
  split at h
  · split at h
    · rename_i Z hz
      obtain rfl := fcOf_ex hz
      (repeat' (split at h)) <;> first | (cases h; done) | (injection h with h; subst h; refine ⟨Ends_of ?_, ?_⟩ <;> simp [fc_t0, fc_cl, l5C])
    · cases h
  · cases h
theorem s18 : Sound Tryd.prog 18 (nestS [(8, false)] d18 ok18) := by
  refine nest_sound Tryd.func18 nm18 rc18 rv18 ok18 (fun xs a h => ?_) fun xs a h w0 S hS => ?_
  · unfold d18 at h
    (repeat' (split at h)) <;> first | (cases h; done) | exact Nat.le_of_ble_eq_true rfl
  unfold d18 at h
  split at h
  · rename_i u lc p
    split at h
    · rename_i Z hZ
      obtain rfl := fcOf_ex hZ
      clear hZ
      have z1 := l5_t0 Z.L
      have z2 := l5_cl Z.L
      have l1 := l5_len Z.L
      split at h
      · rename_i hp
        split at h
        · rename_i r hr
          injection h with h
          subst h
          obtain ⟨k, rfl⟩ : ∃ k : Nat, p = (k : Int) := ⟨p.toNat, by omega⟩
          rw [Int.toNat_natCast] at hr
          have hE : SoundAll Tryd.prog (EL []) := EL_sound (by simp)
          have hk := (List.getElem?_eq_some_iff.1 hr).1
          have hk0 : ¬ ((k : Int) < 0) := by omega
          have hk1 : ¬ ((Z.L.length : Int) ≤ (k : Int)) := by omega
          have hk2 : ¬ (Z.L.length ≤ k) := by omega
          obtain ⟨ga, gb⟩ := l5_at hr
          simp only [l5C] at ga gb
          simp only [fcC, l5C] at hS ⊢
          unfold m18
          repeat' with_reducible (first
            | refine ZR.h ?_ | refine zI (by decide) ?_
            | (refine zK hE ?_; intro K hK; simp [KR.ks, q18_0, q18_1, q18_2, q18_3, z1, z2, l1, hk, hk0, hk1, hk2, ga, gb]; (repeat' (first | refine hK _ _ ?_ | refine And.intro ?_ ?_ | (intro hc; try subst hc))) <;> (try clear hK K))
            | (refine zJ (b := _) (by with_unfolding_all rfl) (fun hc => ?_) (fun hc => ?_) <;> simp at hc <;> (try subst hc)))
          all_goals first | (simp; done) | (simp at *; omega) | ((try simp[z1, z2]); refine Imp.auto (by kernel_rfl) ?_ ?_ <;> simp [NLe, z1, z2])
        · cases h
      · cases h
    · cases h
  · cases h
end Go.W
namespace Go.W
open Go.Proofs
set_option linter.unusedSimpArgs false
set_option linter.unusedVariables false
set_option maxHeartbeats 8000000
attribute [local irreducible] Wm
attribute [local simp] nmap lkp mkPl prs prsL prT ddL idL CRenL CRen Ren RenL NObj.none CRenLL

def d10 : List AV → Option Ans
  | [.agg [.int .i64 a0, .int .i64 a1, .int .i64 a2, .int .i64 a3, .int .i64 a4, .int .i64 a5, .int .i64 a6, .int .i64 a7, .int .i64 a8]] => some ⟨.agg [.int .i64 a0, .int .i64 a1, .int .i64 a2, .int .i64 a3, .int .i64 a4, .int .i64 a5, .int .i64 a6, .int .i64 a7, .int .i64 a8], []⟩
  | _ => none

theorem ok10 : NOk [] d10 := by
  intro xs a h
  unfold d10 at h
  (repeat' (split at h)) <;> first | (cases h; done) | (injection h with h; subst h; refine ⟨Ends_of ?_, ?_⟩ <;> simp)
theorem s10 : Sound Tryd.prog 10 (nestS [] d10 ok10) := by
  refine nest_sound Tryd.func10 nm10 rc10 rv10 ok10 (fun xs a h => ?_) fun xs a h w0 S hS => ?_
  · unfold d10 at h
    (repeat' (split at h)) <;> first | (cases h; done) | exact Nat.le_of_ble_eq_true rfl
  unfold d10 at h
  split at h
  · rename_i a0 a1 a2 a3 a4 a5 a6 a7 a8
    injection h with h
    subst h
    have hE : SoundAll Tryd.prog (EL []) := EL_sound (by simp)
    unfold m10
    repeat' with_reducible (first
      | refine ZR.h ?_ | refine zI (by decide) ?_
      | (refine zK hE ?_; intro K hK; simp [KR.ks, q10_0, q10_1]; (repeat' (first | refine hK _ _ ?_ | refine And.intro ?_ ?_ | (intro hc; try subst hc))) <;> (try clear hK K))
      | (refine zJ (b := _) (by with_unfolding_all rfl) (fun hc => ?_) (fun hc => ?_) <;> simp at hc <;> (try subst hc)))
    all_goals first | (simp; done) | (simp at *; omega) | ((try simp); refine Imp.auto (by kernel_rfl) ?_ ?_ <;> simp [NLe])
  · cases h

def bd (n : Int) : Prop := -2147483648 ≤ n ∧ n ≤ 2147483648
instance (n : Int) : Decidable (bd n) := by unfold bd; infer_instance
def d19 : List AV → Option Ans
  | [.agg [.int .i64 uo, .int .i64 uq, .int .i64 uw, .int .i64 un, .int .i64 ub, .int .i64 us], .int .i64 side, .int .i64 qty] => if bd un ∧ bd ub ∧ bd us ∧ bd qty then some ⟨.int .i64 (farZ un ub us side qty), []⟩ else none
  | _ => none

theorem ok19 : NOk [] d19 := by
  intro xs a h
  unfold d19 at h
  (repeat' (split at h)) <;> first | (cases h; done) | (injection h with h; subst h; refine ⟨Ends_of ?_, ?_⟩ <;> simp)
theorem s19 : Sound Tryd.prog 19 (nestS [] d19 ok19) := by
  refine nest_sound Tryd.func19 nm19 rc19 rv19 ok19 (fun xs a h => ?_) fun xs a h w0 S hS => ?_
  · unfold d19 at h
    (repeat' (split at h)) <;> first | (cases h; done) | exact Nat.le_of_ble_eq_true rfl
  unfold d19 at h
  split at h
  · split at h
    · rename_i uo uq uw un ub us side qty hcond
      injection h with h
      subst h
      have hE : SoundAll Tryd.prog (EL []) := EL_sound (by simp)
      obtain ⟨⟨h1, h2⟩, ⟨h3, h4⟩, ⟨h5, h6⟩, ⟨h7, h8⟩⟩ := hcond
      have w1 : IntKind.wrap .i64 (ub + qty) = ub + qty := wrap_in (by omega) (by omega)
      have w2 : IntKind.wrap .i64 (us + qty) = us + qty := wrap_in (by omega) (by omega)
      have w3 : IntKind.wrap .i64 (un + (ub + qty)) = un + (ub + qty) := wrap_in (by omega) (by omega)
      have w4 : IntKind.wrap .i64 (us + qty - un) = us + qty - un := wrap_in (by omega) (by omega)
      have w5 : IntKind.wrap .i64 (un + ub) = un + ub := wrap_in (by omega) (by omega)
      have w6 : IntKind.wrap .i64 (us - un) = us - un := wrap_in (by omega) (by omega)
      by_cases e0 : side = 0
      · have hf : farZ un ub us side qty = (if un + (ub + qty) < us - un then us - un else un + (ub + qty)) := by unfold farZ; rw [if_pos e0, if_neg (by omega)]; split <;> omega
        rw [hf]
        unfold m19
        repeat' with_reducible (first
          | refine ZR.h ?_ | refine zI (by decide) ?_
          | (refine zK hE ?_; intro K hK; simp [KR.ks, q19_0, q19_1, q19_2, q19_3, q19_4, q19_5, q19_6, w1, w2, w3, w4, w5, w6, e0]; (repeat' (first | refine hK _ _ ?_ | refine And.intro ?_ ?_ | (intro hc; try subst hc))) <;> (try clear hK K))
          | (refine zJ (b := _) (by with_unfolding_all rfl) (fun hc => ?_) (fun hc => ?_) <;> simp at hc <;> (try subst hc)))
        all_goals first | (simp; done) | (simp at *; omega) | ((try simp[w1, w2, w3, w4, w5, w6, e0]); refine Imp.auto (by kernel_rfl) ?_ ?_ <;> simp [NLe, w1, w2, w3, w4, w5, w6, e0])
      · by_cases e1 : side = 1
        · have hf : farZ un ub us side qty = (if un + ub < us + qty - un then us + qty - un else un + ub) := by unfold farZ; rw [if_neg e0, if_pos e1]; split <;> omega
          rw [hf]
          unfold m19
          repeat' with_reducible (first
            | refine ZR.h ?_ | refine zI (by decide) ?_
            | (refine zK hE ?_; intro K hK; simp [KR.ks, q19_0, q19_1, q19_2, q19_3, q19_4, q19_5, q19_6, w1, w2, w3, w4, w5, w6, e0, e1]; (repeat' (first | refine hK _ _ ?_ | refine And.intro ?_ ?_ | (intro hc; try subst hc))) <;> (try clear hK K))
            | (refine zJ (b := _) (by with_unfolding_all rfl) (fun hc => ?_) (fun hc => ?_) <;> simp at hc <;> (try subst hc)))
          all_goals first | (simp; done) | (simp at *; omega) | ((try simp[w1, w2, w3, w4, w5, w6, e0, e1]); refine Imp.auto (by kernel_rfl) ?_ ?_ <;> simp [NLe, w1, w2, w3, w4, w5, w6, e0, e1])
        · have hf : farZ un ub us side qty = (if un + ub < us - un then us - un else un + ub) := by unfold farZ; rw [if_neg e0, if_neg e1]; split <;> omega
          rw [hf]
          unfold m19
          repeat' with_reducible (first
            | refine ZR.h ?_ | refine zI (by decide) ?_
            | (refine zK hE ?_; intro K hK; simp [KR.ks, q19_0, q19_1, q19_2, q19_3, q19_4, q19_5, q19_6, w1, w2, w3, w4, w5, w6, e0, e1]; (repeat' (first | refine hK _ _ ?_ | refine And.intro ?_ ?_ | (intro hc; try subst hc))) <;> (try clear hK K))
            | (refine zJ (b := _) (by with_unfolding_all rfl) (fun hc => ?_) (fun hc => ?_) <;> simp at hc <;> (try subst hc)))
          all_goals first | (simp; done) | (simp at *; omega) | ((try simp[w1, w2, w3, w4, w5, w6, e0, e1]); refine Imp.auto (by kernel_rfl) ?_ ?_ <;> simp [NLe, w1, w2, w3, w4, w5, w6, e0, e1])
    · cases h
  · cases h
end Go.W
