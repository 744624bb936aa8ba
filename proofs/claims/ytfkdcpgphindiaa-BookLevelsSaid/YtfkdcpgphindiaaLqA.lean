/- The resolved code of the functions, by a program. -/
import Derived.Test.YtfkdcpgphindiaaPqA
namespace Go.W
open Go.Proofs
set_option maxRecDepth 100000
def q10_0 : List MO := [Ma 2 (.box (.t 0)), Ma 4 (.alloc [(.int .i64 0), (.int .i64 0), (.int .i64 0), (.int .i64 0), (.int .i64 0), (.int .i64 0)])]
@[simp] theorem l10_0 : q10_0.length = 2 := rfl
instance : KR Try.f10.ntmps q10_0 := ⟨[1, 2, 4], by kernel_rfl⟩
def q10_1 : List MO := [Ma 5 (.alloc [(.int .i64 0), (.int .i64 0), (.int .i64 0), (.int .i64 0), (.int .i64 0), (.int .i64 0)])]
@[simp] theorem l10_1 : q10_1.length = 1 := rfl
instance : KR Try.f10.ntmps q10_1 := ⟨[1, 2, 4, 5], by kernel_rfl⟩
def q10_2 : List MO := [Ma 9 (.faddr 7 (.t 2)), Ma 10 (.load false 1 (.t 9)), Ma 11 (.len (.t 10)), Ma 12 (.mv (.c (.int .i64 0)))]
@[simp] theorem l10_2 : q10_2.length = 4 := rfl
instance : KR Try.f10.ntmps q10_2 := ⟨[1, 2, 4, 5, 10, 11, 12], by kernel_rfl⟩
def q10_3 : List MO := [Ma 13 (.bin .lss (.t 12) (.t 11))]
@[simp] theorem l10_3 : q10_3.length = 1 := rfl
instance : KR Try.f10.ntmps q10_3 := ⟨[1, 2, 4, 5, 10, 11, 12, 13], by kernel_rfl⟩
def q10_4 : List MO := [Ma 14 (.iaddr 7 (.t 10) (.t 12)), Ma 15 (.load true 7 (.t 14)), Ma 7 (.alloc [(.int .i64 0), (.int .i64 0), (.int .i64 0), (.int .i64 0), (.int .i64 0), (.int .i64 0), (.int .i64 0)]), Mb (.store 7 (.t 7) (.t 15))]
@[simp] theorem l10_4 : q10_4.length = 4 := rfl
instance : KR Try.f10.ntmps q10_4 := ⟨[1, 2, 4, 5, 7, 10, 11, 12], by kernel_rfl⟩
def q10_5 : List MO := [Ma 16 (.faddr 0 (.t 2)), Ma 17 (.load true 7 (.t 16)), Ma 18 (.faddr 1 (.t 7)), Ma 19 (.load true 5 (.t 18)), Ma 20 (.call (.c (.fn 27 [])) [(.t 17), (.t 19)]), Ma 21 (.mv (.t 1)), Ma 22 (.bin .neq (.t 20) (.t 21)), Ma 23 (.mv (.t 22)), Mg 24 (.faddr 1 (.t 7)) 23 false, Mg 25 (.faddr 1 (.t 24)) 23 false, Mg 26 (.load false 1 (.t 25)) 23 false, Mg 27 (.bin .lss (.t 26) (.c (.int .i64 0))) 23 false, Ma 28 (.pick (.t 23) (.c (.bool true)) (.t 27)), Ma 29 (.mv (.t 28)), Mg 30 (.faddr 1 (.t 7)) 29 false, Mg 31 (.faddr 1 (.t 30)) 29 false, Mg 32 (.load false 1 (.t 31)) 29 false, Mg 33 (.bin .gtr (.t 32) (.c (.int .i64 1))) 29 false, Ma 34 (.pick (.t 29) (.c (.bool true)) (.t 33))]
@[simp] theorem l10_5 : q10_5.length = 19 := rfl
instance : KR Try.f10.ntmps q10_5 := ⟨[1, 2, 4, 5, 7, 10, 11, 12, 34], by kernel_rfl⟩
def q10_6 : List MO := [Ma 35 (.faddr 1 (.t 7)), Ma 36 (.faddr 1 (.t 35)), Ma 37 (.load false 1 (.t 36)), Ma 38 (.paddr 2 3 (.t 5) (.t 37)), Ma 8 (.mv (.t 38))]
@[simp] theorem l10_6 : q10_6.length = 5 := rfl
instance : KR Try.f10.ntmps q10_6 := ⟨[1, 2, 4, 5, 7, 8, 10, 11, 12], by kernel_rfl⟩
def q10_7 : List MO := [Ma 39 (.mv (.t 8)), Ma 40 (.nilck (.t 39)), Ma 41 (.faddr 1 (.t 40)), Ma 42 (.load false 1 (.t 41)), Ma 43 (.faddr 6 (.t 7)), Ma 44 (.load false 1 (.t 43)), Ma 45 (.bin .add (.t 42) (.t 44)), Ma 46 (.nilck (.t 39)), Ma 47 (.faddr 1 (.t 46)), Mb (.store 1 (.t 47) (.t 45))]
@[simp] theorem l10_7 : q10_7.length = 10 := rfl
def p10_7 : List (List Nat) := [[], [0], [1], [2], [], [4], [3, 5], [0, 0, 1, 2, 3, 4, 5, 6], [7, 0, 1, 2, 3, 4, 5, 6], [8, 6, 0, 1, 2, 3, 4, 5, 6]]
instance : KD Try.f10.ntmps q10_7 p10_7 := ⟨[[], [0], [0, 1], [0, 1, 2], [], [4], [0, 1, 2, 3, 4, 5], [0, 1, 2, 3, 4, 5, 6], [0, 1, 2, 3, 4, 5, 6, 7], [0, 1, 2, 3, 4, 5, 6, 7, 8]], [1, 2, 4, 5, 7, 8, 10, 11, 12], by kernel_rfl⟩
def q10_8 : List MO := [Ma 48 (.mv (.t 8)), Ma 49 (.nilck (.t 48)), Ma 50 (.faddr 2 (.t 49)), Ma 51 (.load false 1 (.t 50)), Ma 52 (.bin .add (.t 51) (.c (.int .i64 1))), Ma 53 (.nilck (.t 48)), Ma 54 (.faddr 2 (.t 53)), Mb (.store 1 (.t 54) (.t 52))]
@[simp] theorem l10_8 : q10_8.length = 8 := rfl
instance : KR Try.f10.ntmps q10_8 := ⟨[1, 2, 4, 5, 7, 8, 10, 11, 12], by kernel_rfl⟩
def q10_9 : List MO := [Ma 55 (.mv (.t 8)), Ma 56 (.nilck (.t 55)), Ma 57 (.faddr 0 (.t 56)), Ma 58 (.load false 1 (.t 57)), Ma 59 (.bin .eql (.t 58) (.c (.int .i64 0))), Ma 60 (.mv (.t 59)), Mg 61 (.faddr 1 (.t 7)) 60 false, Mg 62 (.faddr 1 (.t 61)) 60 false, Mg 63 (.load false 1 (.t 62)) 60 false, Mg 64 (.faddr 1 (.t 7)) 60 false, Mg 65 (.faddr 2 (.t 64)) 60 false, Mg 66 (.load false 1 (.t 65)) 60 false, Mg 67 (.mv (.t 8)) 60 false, Mg 68 (.nilck (.t 67)) 60 false, Mg 69 (.faddr 0 (.t 68)) 60 false, Mg 70 (.load false 1 (.t 69)) 60 false, Mg 71 (.call (.c (.fn 28 [])) [(.t 63), (.t 66), (.t 70)]) 60 false, Ma 72 (.pick (.t 60) (.c (.bool true)) (.t 71))]
@[simp] theorem l10_9 : q10_9.length = 18 := rfl
def p10_9 : List (List Nat) := [[], [0], [1], [2], [3], [4], [5], [6, 5], [7, 5], [5], [9, 5], [10, 5], [5], [12, 5], [13, 5], [14, 5], [8, 11, 15, 5, 5], [5, 16]]
instance : KD Try.f10.ntmps q10_9 p10_9 := ⟨[[], [0], [0, 1], [0, 1, 2], [0, 1, 2, 3], [0, 1, 2, 3, 4], [0, 1, 2, 3, 4, 5], [0, 1, 2, 3, 4, 5, 6], [0, 1, 2, 3, 4, 5, 6, 7], [0, 1, 2, 3, 4, 5], [0, 1, 2, 3, 4, 5, 9], [0, 1, 2, 3, 4, 5, 9, 10], [0, 1, 2, 3, 4, 5], [0, 1, 2, 3, 4, 5, 12], [0, 1, 2, 3, 4, 5, 12, 13], [0, 1, 2, 3, 4, 5, 12, 13, 14], [0, 1, 2, 3, 4, 5, 6, 7, 8, 9, 10, 11, 12, 13, 14, 15], [0, 1, 2, 3, 4, 5, 6, 7, 8, 9, 10, 11, 12, 13, 14, 15, 16]], [1, 2, 4, 5, 7, 8, 10, 11, 12, 72], by kernel_rfl⟩
def q10_10 : List MO := [Ma 73 (.mv (.t 8)), Ma 74 (.faddr 1 (.t 7)), Ma 75 (.faddr 2 (.t 74)), Ma 76 (.load false 1 (.t 75)), Ma 77 (.nilck (.t 73)), Ma 78 (.faddr 0 (.t 77)), Mb (.store 1 (.t 78) (.t 76))]
@[simp] theorem l10_10 : q10_10.length = 7 := rfl
instance : KR Try.f10.ntmps q10_10 := ⟨[1, 2, 4, 5, 10, 11, 12], by kernel_rfl⟩
def q10_11 : List MO := [Ma 79 (.bin .add (.t 12) (.c (.int .i64 1))), Ma 12 (.mv (.t 79))]
@[simp] theorem l10_11 : q10_11.length = 2 := rfl
instance : KR Try.f10.ntmps q10_11 := ⟨[1, 2, 4, 5, 10, 11, 12], by kernel_rfl⟩
def q10_12 : List MO := [Ma 80 (.load true 6 (.t 5)), Mb (.store 6 (.t 4) (.t 80))]
@[simp] theorem l10_12 : q10_12.length = 2 := rfl
instance : KR Try.f10.ntmps q10_12 := ⟨[4], by kernel_rfl⟩
def m10 : MCode := .seq (.reg q10_0) (.seq (.reg q10_1) (.seq (.seq (.reg q10_2) (.block 0 (.loop (.seq (.reg q10_3) (.seq (.cond (.t 13) .skip (.exit 0)) (.seq (.block 1 (.seq (.reg q10_4) (.seq (.seq (.reg q10_5) (.cond (.t 34) (.exit 1) .skip)) (.seq (.reg q10_6) (.seq (.draw q10_7 p10_7) (.seq (.reg q10_8) (.seq (.draw q10_9 p10_9) (.cond (.t 72) (.reg q10_10) .skip)))))))) (.reg q10_11))))))) (.seq (.reg q10_12) .ret)))
theorem rc10 : rcOf Try.prog Try.f10 = some m10 := by kernel_rfl
theorem rv10 : rRVs Try.prog Try.f10.results.toList = some [(.c true 6 4)] := by kernel_rfl
theorem nm10 : (Try.f10.name == "runtime.NumGoroutine") = false := by kernel_rfl
def q11_0 : List MO := [Ma 3 (.box (.t 0)), Ma 6 (.mv (.c (.int .i64 0))), Ma 7 (.mv (.c (.bool false)))]
@[simp] theorem l11_0 : q11_0.length = 3 := rfl
instance : KR Try.f11.ntmps q11_0 := ⟨[1, 2, 3], by kernel_rfl⟩
def q11_1 : List MO := [Ma 9 (.load true 8 (.t 3)), Ma 10 (.mv (.t 1)), Ma 11 (.mv (.t 2)), Ma 12 (.call (.c (.fn 12 [])) [(.t 9), (.t 10), (.t 11)]), Ma 8 (.mv (.t 12))]
@[simp] theorem l11_1 : q11_1.length = 5 := rfl
instance : KR Try.f11.ntmps q11_1 := ⟨[8], by kernel_rfl⟩
def q11_2 : List MO := [Ma 13 (.mv (.t 8)), Ma 14 (.len (.t 13)), Ma 15 (.bin .eql (.t 14) (.c (.int .i64 0)))]
@[simp] theorem l11_2 : q11_2.length = 3 := rfl
instance : KR Try.f11.ntmps q11_2 := ⟨[8, 15], by kernel_rfl⟩
def q11_3 : List MO := [Ma 6 (.mv (.c (.int .i64 0))), Ma 7 (.mv (.c (.bool false)))]
@[simp] theorem l11_3 : q11_3.length = 2 := rfl
instance : KR Try.f11.ntmps q11_3 := ⟨[6, 7], by kernel_rfl⟩
def q11_4 : List MO := [Ma 16 (.mv (.t 8)), Ma 17 (.iaddr 3 (.t 16) (.c (.int .i64 0))), Ma 18 (.faddr 0 (.t 17)), Ma 19 (.load false 1 (.t 18)), Ma 6 (.mv (.t 19)), Ma 7 (.mv (.c (.bool true)))]
@[simp] theorem l11_4 : q11_4.length = 6 := rfl
instance : KR Try.f11.ntmps q11_4 := ⟨[6, 7], by kernel_rfl⟩
def m11 : MCode := .seq (.reg q11_0) (.seq (.reg q11_1) (.seq (.seq (.reg q11_2) (.cond (.t 15) (.seq (.reg q11_3) .ret) .skip)) (.seq (.reg q11_4) .ret)))
theorem rc11 : rcOf Try.prog Try.f11 = some m11 := by kernel_rfl
theorem rv11 : rRVs Try.prog Try.f11.results.toList = some [(.t 6), (.t 7)] := by kernel_rfl
theorem nm11 : (Try.f11.name == "runtime.NumGoroutine") = false := by kernel_rfl
def q12_0 : List MO := [Ma 3 (.box (.t 0)), Ma 5 (.box (.t 2)), Ma 6 (.mv (.c .nsl))]
@[simp] theorem l12_0 : q12_0.length = 3 := rfl
instance : KR Try.f12.ntmps q12_0 := ⟨[1, 3, 5], by kernel_rfl⟩
def q12_1 : List MO := [Ma 14 (.mp .mk), Ma 7 (.mv (.t 14))]
@[simp] theorem l12_1 : q12_1.length = 2 := rfl
instance : KR Try.f12.ntmps q12_1 := ⟨[1, 3, 5, 7], by kernel_rfl⟩
def q12_2 : List MO := [Ma 15 (.load true 8 (.t 3)), Ma 16 (.mv (.t 1)), Ma 17 (.load false 1 (.t 5)), Ma 18 (.call (.c (.fn 29 [])) [(.t 15), (.t 16), (.t 17)]), Ma 19 (.len (.t 18)), Ma 20 (.mv (.c (.int .i64 0)))]
@[simp] theorem l12_2 : q12_2.length = 6 := rfl
instance : KR Try.f12.ntmps q12_2 := ⟨[5, 7, 18, 19, 20], by kernel_rfl⟩
def q12_3 : List MO := [Ma 21 (.bin .lss (.t 20) (.t 19))]
@[simp] theorem l12_3 : q12_3.length = 1 := rfl
instance : KR Try.f12.ntmps q12_3 := ⟨[5, 7, 18, 19, 20, 21], by kernel_rfl⟩
def q12_4 : List MO := [Ma 22 (.iaddr 7 (.t 18) (.t 20)), Ma 23 (.load true 7 (.t 22)), Ma 9 (.alloc [(.int .i64 0), (.int .i64 0), (.int .i64 0), (.int .i64 0), (.int .i64 0), (.int .i64 0), (.int .i64 0)]), Mb (.store 7 (.t 9) (.t 23))]
@[simp] theorem l12_4 : q12_4.length = 4 := rfl
instance : KR Try.f12.ntmps q12_4 := ⟨[5, 7, 9, 18, 19, 20], by kernel_rfl⟩
def q12_5 : List MO := [Ma 24 (.mv (.t 7)), Ma 25 (.faddr 1 (.t 9)), Ma 26 (.faddr 2 (.t 25)), Ma 27 (.load false 1 (.t 26)), Ma 28 (.mp (.lk false (.agg [(.int .i64 0), (.int .i64 0), (.int .i64 0)]) (.t 24) (.t 27))), Ma 10 (.alloc [(.int .i64 0), (.int .i64 0), (.int .i64 0)]), Mb (.store 3 (.t 10) (.t 28))]
@[simp] theorem l12_5 : q12_5.length = 7 := rfl
instance : KR Try.f12.ntmps q12_5 := ⟨[5, 7, 9, 10, 18, 19, 20], by kernel_rfl⟩
def q12_6 : List MO := [Ma 29 (.mv (.t 7)), Ma 30 (.faddr 1 (.t 9)), Ma 31 (.faddr 2 (.t 30)), Ma 32 (.load false 1 (.t 31)), Ma 33 (.faddr 1 (.t 9)), Ma 34 (.faddr 2 (.t 33)), Ma 35 (.load false 1 (.t 34)), Ma 36 (.faddr 1 (.t 10)), Ma 37 (.load false 1 (.t 36)), Ma 38 (.faddr 6 (.t 9)), Ma 39 (.load false 1 (.t 38)), Ma 40 (.bin .add (.t 37) (.t 39)), Ma 41 (.faddr 2 (.t 10)), Ma 42 (.load false 1 (.t 41)), Ma 43 (.bin .add (.t 42) (.c (.int .i64 1))), Ma 44 (.build [(.int .i64 0), (.int .i64 0), (.int .i64 0)] [(0, (1, (.t 35))), (1, (1, (.t 40))), (2, (1, (.t 43)))]), Mb (.mp (.up (.t 29) (.t 32) (.t 44)))]
@[simp] theorem l12_6 : q12_6.length = 17 := rfl
instance : KR Try.f12.ntmps q12_6 := ⟨[5, 7, 18, 19, 20], by kernel_rfl⟩
def q12_7 : List MO := [Ma 45 (.bin .add (.t 20) (.c (.int .i64 1))), Ma 20 (.mv (.t 45))]
@[simp] theorem l12_7 : q12_7.length = 2 := rfl
instance : KR Try.f12.ntmps q12_7 := ⟨[5, 7, 18, 19, 20], by kernel_rfl⟩
def q12_8 : List MO := [Ma 11 (.mv (.c .nsl))]
@[simp] theorem l12_8 : q12_8.length = 1 := rfl
instance : KR Try.f12.ntmps q12_8 := ⟨[5, 7, 11], by kernel_rfl⟩
def q12_9 : List MO := [Ma 46 (.mv (.t 7)), Ma 47 (.mp (.rg (.t 46)))]
@[simp] theorem l12_9 : q12_9.length = 2 := rfl
instance : KR Try.f12.ntmps q12_9 := ⟨[5, 11, 47], by kernel_rfl⟩
def q12_10 : List MO := [Ma 48 (.mp (.nx (.t 47))), Ma 49 (.ext (.t 48) 0)]
@[simp] theorem l12_10 : q12_10.length = 2 := rfl
instance : KR Try.f12.ntmps q12_10 := ⟨[5, 11, 47, 49], by kernel_rfl⟩
def q12_11 : List MO := [Ma 50 (.mp (.nt (.t 47))), Ma 51 (.ext (.t 50) 1), Ma 13 (.alloc [(.int .i64 0), (.int .i64 0), (.int .i64 0)]), Mb (.store 3 (.t 13) (.t 51))]
@[simp] theorem l12_11 : q12_11.length = 4 := rfl
instance : KR Try.f12.ntmps q12_11 := ⟨[5, 11, 13, 47], by kernel_rfl⟩
def q12_12 : List MO := [Ma 52 (.mv (.t 11)), Ma 53 (.load true 3 (.t 13)), Ma 54 (.bsl 3 1 [(.int .i64 0), (.int .i64 0), (.int .i64 0)] [(0, (3, (.t 53)))]), Ma 55 (.app 3 24 (.t 52) (.t 54)), Ma 11 (.mv (.t 55))]
@[simp] theorem l12_12 : q12_12.length = 5 := rfl
instance : KR Try.f12.ntmps q12_12 := ⟨[5, 11, 47], by kernel_rfl⟩
def q12_13 : List MO := [Ma 56 (.mv (.t 11)), Ma 57 (.mkfn 31 [(.t 5)]), Ma 58 (.call (.c (.fn 30 [])) [(.t 56), (.t 57)])]
@[simp] theorem l12_13 : q12_13.length = 3 := rfl
instance : KR Try.f12.ntmps q12_13 := ⟨[11], by kernel_rfl⟩
def q12_14 : List MO := [Ma 59 (.mv (.t 11)), Ma 6 (.mv (.t 59))]
@[simp] theorem l12_14 : q12_14.length = 2 := rfl
instance : KR Try.f12.ntmps q12_14 := ⟨[6], by kernel_rfl⟩
def m12 : MCode := .seq (.reg q12_0) (.seq (.reg q12_1) (.seq (.seq (.reg q12_2) (.block 0 (.loop (.seq (.reg q12_3) (.seq (.cond (.t 21) .skip (.exit 0)) (.seq (.block 1 (.seq (.reg q12_4) (.seq (.reg q12_5) (.reg q12_6)))) (.reg q12_7))))))) (.seq (.reg q12_8) (.seq (.seq (.reg q12_9) (.block 2 (.loop (.seq (.reg q12_10) (.seq (.cond (.t 49) .skip (.exit 2)) (.block 3 (.seq (.reg q12_11) (.reg q12_12)))))))) (.seq (.reg q12_13) (.seq (.reg q12_14) .ret))))))
theorem rc12 : rcOf Try.prog Try.f12 = some m12 := by kernel_rfl
theorem rv12 : rRVs Try.prog Try.f12.results.toList = some [(.t 6)] := by kernel_rfl
theorem nm12 : (Try.f12.name == "runtime.NumGoroutine") = false := by kernel_rfl
def q13_0 : List MO := [Ma 6 (.mv (.c .nsl))]
@[simp] theorem l13_0 : q13_0.length = 1 := rfl
instance : KR Try.f13.ntmps q13_0 := ⟨[0, 1, 2], by kernel_rfl⟩
def q13_1 : List MO := [Ma 7 (.mv (.c .nsl))]
@[simp] theorem l13_1 : q13_1.length = 1 := rfl
instance : KR Try.f13.ntmps q13_1 := ⟨[0, 1, 2, 7], by kernel_rfl⟩
def q13_2 : List MO := [Ma 8 (.mv (.c (.int .i64 1)))]
@[simp] theorem l13_2 : q13_2.length = 1 := rfl
instance : KR Try.f13.ntmps q13_2 := ⟨[0, 1, 2, 7, 8], by kernel_rfl⟩
def q13_3 : List MO := [Ma 12 (.mv (.t 8)), Ma 13 (.bin .leq (.t 12) (.c (.int .i64 9999)))]
@[simp] theorem l13_3 : q13_3.length = 2 := rfl
instance : KR Try.f13.ntmps q13_3 := ⟨[0, 1, 2, 7, 8, 13], by kernel_rfl⟩
def q13_4 : List MO := [Ma 16 (.mv (.t 8)), Ma 9 (.mv (.t 16))]
@[simp] theorem l13_4 : q13_4.length = 2 := rfl
instance : KR Try.f13.ntmps q13_4 := ⟨[0, 1, 2, 7, 8, 9], by kernel_rfl⟩
def q13_5 : List MO := [Ma 17 (.mv (.t 2)), Ma 18 (.bin .eql (.t 17) (.c (.int .i64 0)))]
@[simp] theorem l13_5 : q13_5.length = 2 := rfl
instance : KR Try.f13.ntmps q13_5 := ⟨[0, 1, 2, 7, 8, 9, 18], by kernel_rfl⟩
def q13_6 : List MO := [Ma 19 (.mv (.t 8)), Ma 20 (.bin .sub (.c (.int .i64 10000)) (.t 19)), Ma 9 (.mv (.t 20))]
@[simp] theorem l13_6 : q13_6.length = 3 := rfl
instance : KR Try.f13.ntmps q13_6 := ⟨[0, 1, 2, 7, 8, 9], by kernel_rfl⟩
def q13_7 : List MO := [Ma 21 (.mv (.t 9)), Ma 22 (.build [(.int .i64 0), (.int .i64 0), (.int .i64 0)] [(0, (1, (.t 21)))]), Ma 10 (.alloc [(.int .i64 0), (.int .i64 0), (.int .i64 0)]), Mb (.store 3 (.t 10) (.t 22))]
@[simp] theorem l13_7 : q13_7.length = 4 := rfl
instance : KR Try.f13.ntmps q13_7 := ⟨[0, 1, 2, 7, 8, 9, 10], by kernel_rfl⟩
def q13_8 : List MO := [Ma 11 (.mv (.c (.int .i64 0)))]
@[simp] theorem l13_8 : q13_8.length = 1 := rfl
instance : KR Try.f13.ntmps q13_8 := ⟨[0, 1, 2, 7, 8, 9, 10, 11], by kernel_rfl⟩
def q13_9 : List MO := [Ma 23 (.mv (.t 11)), Ma 24 (.mv (.t 0)), Ma 25 (.len (.t 24)), Ma 26 (.bin .lss (.t 23) (.t 25))]
@[simp] theorem l13_9 : q13_9.length = 4 := rfl
instance : KR Try.f13.ntmps q13_9 := ⟨[0, 1, 2, 7, 8, 9, 10, 11, 26], by kernel_rfl⟩
def q13_10 : List MO := [Ma 29 (.mv (.t 0)), Ma 30 (.mv (.t 11)), Ma 31 (.iaddr 7 (.t 29) (.t 30)), Ma 32 (.faddr 1 (.t 31)), Ma 33 (.faddr 0 (.t 32)), Ma 34 (.load false 1 (.t 33)), Ma 35 (.mv (.t 1)), Ma 36 (.bin .eql (.t 34) (.t 35)), Ma 37 (.mv (.t 36)), Mg 38 (.mv (.t 0)) 37 true, Mg 39 (.mv (.t 11)) 37 true, Mg 40 (.iaddr 7 (.t 38) (.t 39)) 37 true, Mg 41 (.faddr 1 (.t 40)) 37 true, Mg 42 (.faddr 1 (.t 41)) 37 true, Mg 43 (.load false 1 (.t 42)) 37 true, Mg 44 (.mv (.t 2)) 37 true, Mg 45 (.bin .eql (.t 43) (.t 44)) 37 true, Ma 46 (.pick (.t 37) (.t 45) (.c (.bool false))), Ma 47 (.mv (.t 46)), Mg 48 (.mv (.t 0)) 47 true, Mg 49 (.mv (.t 11)) 47 true, Mg 50 (.iaddr 7 (.t 48) (.t 49)) 47 true, Mg 51 (.faddr 1 (.t 50)) 47 true, Mg 52 (.faddr 2 (.t 51)) 47 true, Mg 53 (.load false 1 (.t 52)) 47 true, Mg 54 (.mv (.t 9)) 47 true, Mg 55 (.bin .eql (.t 53) (.t 54)) 47 true, Ma 56 (.pick (.t 47) (.t 55) (.c (.bool false)))]
@[simp] theorem l13_10 : q13_10.length = 28 := rfl
instance : KR Try.f13.ntmps q13_10 := ⟨[0, 1, 2, 7, 8, 9, 10, 11, 56], by kernel_rfl⟩
def q13_11 : List MO := [Ma 57 (.faddr 1 (.t 10)), Ma 58 (.load false 1 (.t 57)), Ma 59 (.mv (.t 0)), Ma 60 (.mv (.t 11)), Ma 61 (.iaddr 7 (.t 59) (.t 60)), Ma 62 (.faddr 6 (.t 61)), Ma 63 (.load false 1 (.t 62)), Ma 64 (.bin .add (.t 58) (.t 63)), Ma 65 (.faddr 1 (.t 10)), Mb (.store 1 (.t 65) (.t 64))]
@[simp] theorem l13_11 : q13_11.length = 10 := rfl
def p13_11 : List (List Nat) := [[], [0], [], [], [2, 3], [4], [5], [1, 6], [0, 1, 2, 3, 4, 5, 6, 7], [8, 7, 0, 1, 2, 3, 4, 5, 6, 7]]
instance : KD Try.f13.ntmps q13_11 p13_11 := ⟨[[], [0], [], [], [2, 3], [2, 3, 4], [2, 3, 4, 5], [0, 1, 2, 3, 4, 5, 6], [0, 1, 2, 3, 4, 5, 6, 7], [0, 1, 2, 3, 4, 5, 6, 7, 8]], [0, 1, 2, 7, 8, 9, 10, 11], by kernel_rfl⟩
def q13_12 : List MO := [Ma 66 (.faddr 2 (.t 10)), Ma 67 (.load false 1 (.t 66)), Ma 68 (.bin .add (.t 67) (.c (.int .i64 1))), Ma 69 (.faddr 2 (.t 10)), Mb (.store 1 (.t 69) (.t 68))]
@[simp] theorem l13_12 : q13_12.length = 5 := rfl
instance : KR Try.f13.ntmps q13_12 := ⟨[0, 1, 2, 7, 8, 9, 10, 11], by kernel_rfl⟩
def q13_13 : List MO := [Ma 27 (.mv (.t 11)), Ma 28 (.bin .add (.t 27) (.c (.int .i64 1))), Ma 11 (.mv (.t 28))]
@[simp] theorem l13_13 : q13_13.length = 3 := rfl
instance : KR Try.f13.ntmps q13_13 := ⟨[0, 1, 2, 7, 8, 9, 10, 11], by kernel_rfl⟩
def q13_14 : List MO := [Ma 70 (.faddr 2 (.t 10)), Ma 71 (.load false 1 (.t 70)), Ma 72 (.bin .gtr (.t 71) (.c (.int .i64 0)))]
@[simp] theorem l13_14 : q13_14.length = 3 := rfl
instance : KR Try.f13.ntmps q13_14 := ⟨[0, 1, 2, 7, 8, 10, 72], by kernel_rfl⟩
def q13_15 : List MO := [Ma 73 (.mv (.t 7)), Ma 74 (.load true 3 (.t 10)), Ma 75 (.bsl 3 1 [(.int .i64 0), (.int .i64 0), (.int .i64 0)] [(0, (3, (.t 74)))]), Ma 76 (.app 3 24 (.t 73) (.t 75)), Ma 7 (.mv (.t 76))]
@[simp] theorem l13_15 : q13_15.length = 5 := rfl
instance : KR Try.f13.ntmps q13_15 := ⟨[0, 1, 2, 7, 8], by kernel_rfl⟩
def q13_16 : List MO := [Ma 14 (.mv (.t 8)), Ma 15 (.bin .add (.t 14) (.c (.int .i64 1))), Ma 8 (.mv (.t 15))]
@[simp] theorem l13_16 : q13_16.length = 3 := rfl
instance : KR Try.f13.ntmps q13_16 := ⟨[0, 1, 2, 7, 8], by kernel_rfl⟩
def q13_17 : List MO := [Ma 77 (.mv (.t 7)), Ma 6 (.mv (.t 77))]
@[simp] theorem l13_17 : q13_17.length = 2 := rfl
instance : KR Try.f13.ntmps q13_17 := ⟨[6], by kernel_rfl⟩
def m13 : MCode := .seq (.reg q13_0) (.seq (.reg q13_1) (.seq (.seq (.reg q13_2) (.block 0 (.loop (.seq (.seq (.reg q13_3) (.cond (.t 13) .skip (.exit 0))) (.seq (.block 1 (.seq (.reg q13_4) (.seq (.seq (.reg q13_5) (.cond (.t 18) (.reg q13_6) .skip)) (.seq (.reg q13_7) (.seq (.seq (.reg q13_8) (.block 2 (.loop (.seq (.seq (.reg q13_9) (.cond (.t 26) .skip (.exit 2))) (.seq (.block 3 (.seq (.reg q13_10) (.cond (.t 56) (.seq (.draw q13_11 p13_11) (.reg q13_12)) .skip))) (.reg q13_13)))))) (.seq (.reg q13_14) (.cond (.t 72) (.reg q13_15) .skip))))))) (.reg q13_16)))))) (.seq (.reg q13_17) .ret)))
theorem rc13 : rcOf Try.prog Try.f13 = some m13 := by kernel_rfl
theorem rv13 : rRVs Try.prog Try.f13.results.toList = some [(.t 6)] := by kernel_rfl
theorem nm13 : (Try.f13.name == "runtime.NumGoroutine") = false := by kernel_rfl
def q14_0 : List MO := [Ma 2 (.box (.t 0)), Ma 4 (.mv (.c (.int .i64 0))), Ma 5 (.mv (.c (.bool false)))]
@[simp] theorem l14_0 : q14_0.length = 3 := rfl
instance : KR Try.f14.ntmps q14_0 := ⟨[1, 2], by kernel_rfl⟩
def q14_1 : List MO := [Ma 11 (.load true 8 (.t 2)), Ma 12 (.mv (.t 1)), Ma 13 (.call (.c (.fn 11 [])) [(.t 11), (.t 12), (.c (.int .i64 0))]), Ma 10 (.mv (.t 13)), Ma 14 (.ext (.t 10) 0), Ma 15 (.ext (.t 10) 1), Ma 6 (.mv (.t 14)), Ma 7 (.mv (.t 15))]
@[simp] theorem l14_1 : q14_1.length = 8 := rfl
instance : KR Try.f14.ntmps q14_1 := ⟨[1, 2, 6, 7], by kernel_rfl⟩
def q14_2 : List MO := [Ma 17 (.load true 8 (.t 2)), Ma 18 (.mv (.t 1)), Ma 19 (.call (.c (.fn 11 [])) [(.t 17), (.t 18), (.c (.int .i64 1))]), Ma 16 (.mv (.t 19)), Ma 20 (.ext (.t 16) 0), Ma 21 (.ext (.t 16) 1), Ma 8 (.mv (.t 20)), Ma 9 (.mv (.t 21))]
@[simp] theorem l14_2 : q14_2.length = 8 := rfl
instance : KR Try.f14.ntmps q14_2 := ⟨[6, 7, 8, 9], by kernel_rfl⟩
def q14_3 : List MO := [Ma 22 (.mv (.t 7)), Ma 23 (.un .not (.t 22)), Ma 24 (.mv (.t 23)), Mg 25 (.mv (.t 9)) 24 false, Mg 26 (.un .not (.t 25)) 24 false, Ma 27 (.pick (.t 24) (.c (.bool true)) (.t 26))]
@[simp] theorem l14_3 : q14_3.length = 6 := rfl
instance : KR Try.f14.ntmps q14_3 := ⟨[6, 8, 27], by kernel_rfl⟩
def q14_4 : List MO := [Ma 4 (.mv (.c (.int .i64 0))), Ma 5 (.mv (.c (.bool false)))]
@[simp] theorem l14_4 : q14_4.length = 2 := rfl
instance : KR Try.f14.ntmps q14_4 := ⟨[4, 5], by kernel_rfl⟩
def q14_5 : List MO := [Ma 28 (.mv (.t 8)), Ma 29 (.mv (.t 6)), Ma 30 (.bin .sub (.t 28) (.t 29)), Ma 4 (.mv (.t 30)), Ma 5 (.mv (.c (.bool true)))]
@[simp] theorem l14_5 : q14_5.length = 5 := rfl
instance : KR Try.f14.ntmps q14_5 := ⟨[4, 5], by kernel_rfl⟩
def m14 : MCode := .seq (.reg q14_0) (.seq (.reg q14_1) (.seq (.reg q14_2) (.seq (.seq (.reg q14_3) (.cond (.t 27) (.seq (.reg q14_4) .ret) .skip)) (.seq (.reg q14_5) .ret))))
theorem rc14 : rcOf Try.prog Try.f14 = some m14 := by kernel_rfl
theorem rv14 : rRVs Try.prog Try.f14.results.toList = some [(.t 4), (.t 5)] := by kernel_rfl
theorem nm14 : (Try.f14.name == "runtime.NumGoroutine") = false := by kernel_rfl
def q15_0 : List MO := [Ma 4 (.box (.t 0)), Ma 8 (.alloc [(.int .i64 0), (.int .i64 0), (.int .i64 0)])]
@[simp] theorem l15_0 : q15_0.length = 2 := rfl
instance : KR Try.f15.ntmps q15_0 := ⟨[1, 2, 3, 4, 8], by kernel_rfl⟩
def q15_1 : List MO := [Ma 9 (.alloc [(.int .i64 0), (.int .i64 0), (.int .i64 0)])]
@[simp] theorem l15_1 : q15_1.length = 1 := rfl
instance : KR Try.f15.ntmps q15_1 := ⟨[1, 2, 3, 4, 8, 9], by kernel_rfl⟩
def q15_2 : List MO := [Ma 10 (.mv (.c (.int .i64 0)))]
@[simp] theorem l15_2 : q15_2.length = 1 := rfl
instance : KR Try.f15.ntmps q15_2 := ⟨[1, 2, 3, 4, 8, 9, 10], by kernel_rfl⟩
def q15_3 : List MO := [Ma 12 (.mv (.t 10)), Ma 13 (.mv (.t 1)), Ma 14 (.len (.t 13)), Ma 15 (.bin .lss (.t 12) (.t 14))]
@[simp] theorem l15_3 : q15_3.length = 4 := rfl
instance : KR Try.f15.ntmps q15_3 := ⟨[1, 2, 3, 4, 8, 9, 10, 15], by kernel_rfl⟩
def q15_4 : List MO := [Ma 18 (.mv (.t 1)), Ma 19 (.mv (.t 10)), Ma 20 (.iaddr 7 (.t 18) (.t 19)), Ma 21 (.faddr 1 (.t 20)), Ma 22 (.load true 5 (.t 21)), Ma 11 (.alloc [(.int .i64 0), (.int .i64 0), (.int .i64 0), (.int .i64 0), (.int .i64 0)]), Mb (.store 5 (.t 11) (.t 22))]
@[simp] theorem l15_4 : q15_4.length = 7 := rfl
instance : KR Try.f15.ntmps q15_4 := ⟨[1, 2, 3, 4, 8, 9, 10, 11], by kernel_rfl⟩
def q15_5 : List MO := [Ma 23 (.faddr 1 (.t 11)), Ma 24 (.load false 1 (.t 23)), Ma 25 (.mv (.t 3)), Ma 26 (.bin .neq (.t 24) (.t 25)), Ma 27 (.mv (.t 26)), Mg 28 (.load true 7 (.t 4)) 27 false, Mg 29 (.load true 5 (.t 11)) 27 false, Mg 30 (.call (.c (.fn 32 [])) [(.t 28), (.t 29)]) 27 false, Mg 31 (.mv (.t 2)) 27 false, Mg 32 (.bin .neq (.t 30) (.t 31)) 27 false, Ma 33 (.pick (.t 27) (.c (.bool true)) (.t 32))]
@[simp] theorem l15_5 : q15_5.length = 11 := rfl
instance : KR Try.f15.ntmps q15_5 := ⟨[1, 2, 3, 4, 8, 9, 10, 11, 33], by kernel_rfl⟩
def q15_6 : List MO := [Ma 34 (.faddr 1 (.t 9)), Ma 35 (.load false 1 (.t 34)), Ma 36 (.mv (.t 1)), Ma 37 (.mv (.t 10)), Ma 38 (.iaddr 7 (.t 36) (.t 37)), Ma 39 (.faddr 6 (.t 38)), Ma 40 (.load false 1 (.t 39)), Ma 41 (.bin .add (.t 35) (.t 40)), Ma 42 (.faddr 1 (.t 9)), Mb (.store 1 (.t 42) (.t 41))]
@[simp] theorem l15_6 : q15_6.length = 10 := rfl
def p15_6 : List (List Nat) := [[], [0], [], [], [2, 3], [4], [5], [1, 6], [0, 1, 2, 3, 4, 5, 6, 7], [8, 7, 0, 1, 2, 3, 4, 5, 6, 7]]
instance : KD Try.f15.ntmps q15_6 p15_6 := ⟨[[], [0], [], [], [2, 3], [2, 3, 4], [2, 3, 4, 5], [0, 1, 2, 3, 4, 5, 6], [0, 1, 2, 3, 4, 5, 6, 7], [0, 1, 2, 3, 4, 5, 6, 7, 8]], [1, 2, 3, 4, 8, 9, 10, 11], by kernel_rfl⟩
def q15_7 : List MO := [Ma 43 (.faddr 2 (.t 9)), Ma 44 (.load false 1 (.t 43)), Ma 45 (.bin .add (.t 44) (.c (.int .i64 1))), Ma 46 (.faddr 2 (.t 9)), Mb (.store 1 (.t 46) (.t 45))]
@[simp] theorem l15_7 : q15_7.length = 5 := rfl
instance : KR Try.f15.ntmps q15_7 := ⟨[1, 2, 3, 4, 8, 9, 10, 11], by kernel_rfl⟩
def q15_8 : List MO := [Ma 47 (.faddr 0 (.t 9)), Ma 48 (.load false 1 (.t 47)), Ma 49 (.bin .eql (.t 48) (.c (.int .i64 0))), Ma 50 (.mv (.t 49)), Mg 51 (.mv (.t 3)) 50 false, Mg 52 (.bin .eql (.t 51) (.c (.int .i64 0))) 50 false, Mg 53 (.mv (.t 52)) 50 false, Mg 54 (.faddr 2 (.t 11)) 53 true, Mg 55 (.load false 1 (.t 54)) 53 true, Mg 56 (.faddr 0 (.t 9)) 53 true, Mg 57 (.load false 1 (.t 56)) 53 true, Mg 58 (.bin .gtr (.t 55) (.t 57)) 53 true, Mg 59 (.pick (.t 53) (.t 58) (.c (.bool false))) 50 false, Ma 60 (.pick (.t 50) (.c (.bool true)) (.t 59)), Ma 61 (.mv (.t 60)), Mg 62 (.mv (.t 3)) 61 false, Mg 63 (.bin .eql (.t 62) (.c (.int .i64 1))) 61 false, Mg 64 (.mv (.t 63)) 61 false, Mg 65 (.faddr 2 (.t 11)) 64 true, Mg 66 (.load false 1 (.t 65)) 64 true, Mg 67 (.faddr 0 (.t 9)) 64 true, Mg 68 (.load false 1 (.t 67)) 64 true, Mg 69 (.bin .lss (.t 66) (.t 68)) 64 true, Mg 70 (.pick (.t 64) (.t 69) (.c (.bool false))) 61 false, Ma 71 (.pick (.t 61) (.c (.bool true)) (.t 70))]
@[simp] theorem l15_8 : q15_8.length = 25 := rfl
instance : KR Try.f15.ntmps q15_8 := ⟨[1, 2, 3, 4, 8, 9, 10, 11, 71], by kernel_rfl⟩
def q15_9 : List MO := [Ma 72 (.faddr 2 (.t 11)), Ma 73 (.load false 1 (.t 72)), Ma 74 (.faddr 0 (.t 9)), Mb (.store 1 (.t 74) (.t 73))]
@[simp] theorem l15_9 : q15_9.length = 4 := rfl
instance : KR Try.f15.ntmps q15_9 := ⟨[1, 2, 3, 4, 8, 9, 10], by kernel_rfl⟩
def q15_10 : List MO := [Ma 16 (.mv (.t 10)), Ma 17 (.bin .add (.t 16) (.c (.int .i64 1))), Ma 10 (.mv (.t 17))]
@[simp] theorem l15_10 : q15_10.length = 3 := rfl
instance : KR Try.f15.ntmps q15_10 := ⟨[1, 2, 3, 4, 8, 9, 10], by kernel_rfl⟩
def q15_11 : List MO := [Ma 75 (.load true 3 (.t 9)), Mb (.store 3 (.t 8) (.t 75))]
@[simp] theorem l15_11 : q15_11.length = 2 := rfl
instance : KR Try.f15.ntmps q15_11 := ⟨[8], by kernel_rfl⟩
def m15 : MCode := .seq (.reg q15_0) (.seq (.reg q15_1) (.seq (.seq (.reg q15_2) (.block 0 (.loop (.seq (.seq (.reg q15_3) (.cond (.t 15) .skip (.exit 0))) (.seq (.block 1 (.seq (.reg q15_4) (.seq (.seq (.reg q15_5) (.cond (.t 33) (.exit 1) .skip)) (.seq (.draw q15_6 p15_6) (.seq (.reg q15_7) (.seq (.reg q15_8) (.cond (.t 71) (.reg q15_9) .skip))))))) (.reg q15_10)))))) (.seq (.reg q15_11) .ret)))
theorem rc15 : rcOf Try.prog Try.f15 = some m15 := by kernel_rfl
theorem rv15 : rRVs Try.prog Try.f15.results.toList = some [(.c true 3 8)] := by kernel_rfl
theorem nm15 : (Try.f15.name == "runtime.NumGoroutine") = false := by kernel_rfl
def q16_0 : List MO := [Ma 2 (.box (.t 0)), Ma 4 (.mv (.c (.int .i64 0))), Ma 5 (.mv (.c (.int .i64 0)))]
@[simp] theorem l16_0 : q16_0.length = 3 := rfl
instance : KR Try.f16.ntmps q16_0 := ⟨[1, 2, 4, 5], by kernel_rfl⟩
def q16_1 : List MO := [Ma 15 (.load true 8 (.t 2)), Ma 16 (.mv (.t 1)), Ma 17 (.call (.c (.fn 12 [])) [(.t 15), (.t 16), (.c (.int .i64 0))]), Ma 18 (.load true 8 (.t 2)), Ma 19 (.mv (.t 1)), Ma 20 (.call (.c (.fn 12 [])) [(.t 18), (.t 19), (.c (.int .i64 1))]), Ma 21 (.app 3 24 (.t 17) (.t 20)), Ma 22 (.len (.t 21)), Ma 23 (.mv (.c (.int .i64 0)))]
@[simp] theorem l16_1 : q16_1.length = 9 := rfl
def p16_1 : List (List Nat) := [[], [], [0, 1], [], [], [3, 4, 2], [2, 5, 5], [6], []]
instance : KD Try.f16.ntmps q16_1 p16_1 := ⟨[[], [], [0, 1], [], [], [0, 1, 2, 3, 4], [0, 1, 2, 3, 4, 5], [0, 1, 2, 3, 4, 5, 6], []], [1, 2, 4, 5, 21, 22, 23], by kernel_rfl⟩
def q16_2 : List MO := [Ma 24 (.bin .lss (.t 23) (.t 22))]
@[simp] theorem l16_2 : q16_2.length = 1 := rfl
instance : KR Try.f16.ntmps q16_2 := ⟨[1, 2, 4, 5, 21, 22, 23, 24], by kernel_rfl⟩
def q16_3 : List MO := [Ma 25 (.iaddr 3 (.t 21) (.t 23)), Ma 26 (.load true 3 (.t 25)), Ma 7 (.alloc [(.int .i64 0), (.int .i64 0), (.int .i64 0)]), Mb (.store 3 (.t 7) (.t 26))]
@[simp] theorem l16_3 : q16_3.length = 4 := rfl
instance : KR Try.f16.ntmps q16_3 := ⟨[1, 2, 4, 5, 7, 21, 22, 23], by kernel_rfl⟩
def q16_4 : List MO := [Ma 8 (.mv (.c (.int .i64 0))), Ma 9 (.mv (.c (.int .i64 0)))]
@[simp] theorem l16_4 : q16_4.length = 2 := rfl
instance : KR Try.f16.ntmps q16_4 := ⟨[1, 2, 4, 5, 7, 8, 9, 21, 22, 23], by kernel_rfl⟩
def q16_5 : List MO := [Ma 27 (.load true 8 (.t 2)), Ma 28 (.mv (.t 1)), Ma 29 (.call (.c (.fn 29 [])) [(.t 27), (.t 28), (.c (.int .i64 0))]), Ma 30 (.len (.t 29)), Ma 31 (.mv (.c (.int .i64 0)))]
@[simp] theorem l16_5 : q16_5.length = 5 := rfl
instance : KR Try.f16.ntmps q16_5 := ⟨[1, 2, 4, 5, 7, 8, 9, 21, 22, 23, 29, 30, 31], by kernel_rfl⟩
def q16_6 : List MO := [Ma 32 (.bin .lss (.t 31) (.t 30))]
@[simp] theorem l16_6 : q16_6.length = 1 := rfl
instance : KR Try.f16.ntmps q16_6 := ⟨[1, 2, 4, 5, 7, 8, 9, 21, 22, 23, 29, 30, 31, 32], by kernel_rfl⟩
def q16_7 : List MO := [Ma 33 (.iaddr 7 (.t 29) (.t 31)), Ma 34 (.load true 7 (.t 33)), Ma 11 (.alloc [(.int .i64 0), (.int .i64 0), (.int .i64 0), (.int .i64 0), (.int .i64 0), (.int .i64 0), (.int .i64 0)]), Mb (.store 7 (.t 11) (.t 34))]
@[simp] theorem l16_7 : q16_7.length = 4 := rfl
instance : KR Try.f16.ntmps q16_7 := ⟨[1, 2, 4, 5, 7, 8, 9, 11, 21, 22, 23, 29, 30, 31], by kernel_rfl⟩
def q16_8 : List MO := [Ma 35 (.faddr 1 (.t 11)), Ma 36 (.faddr 2 (.t 35)), Ma 37 (.load false 1 (.t 36)), Ma 38 (.faddr 0 (.t 7)), Ma 39 (.load false 1 (.t 38)), Ma 40 (.bin .geq (.t 37) (.t 39))]
@[simp] theorem l16_8 : q16_8.length = 6 := rfl
instance : KR Try.f16.ntmps q16_8 := ⟨[1, 2, 4, 5, 7, 8, 9, 11, 21, 22, 23, 29, 30, 31, 40], by kernel_rfl⟩
def q16_9 : List MO := [Ma 41 (.mv (.t 8)), Ma 42 (.faddr 6 (.t 11)), Ma 43 (.load false 1 (.t 42)), Ma 44 (.bin .add (.t 41) (.t 43)), Ma 8 (.mv (.t 44))]
@[simp] theorem l16_9 : q16_9.length = 5 := rfl
instance : KR Try.f16.ntmps q16_9 := ⟨[1, 2, 4, 5, 7, 8, 9, 21, 22, 23, 29, 30, 31], by kernel_rfl⟩
def q16_10 : List MO := [Ma 45 (.bin .add (.t 31) (.c (.int .i64 1))), Ma 31 (.mv (.t 45))]
@[simp] theorem l16_10 : q16_10.length = 2 := rfl
instance : KR Try.f16.ntmps q16_10 := ⟨[1, 2, 4, 5, 7, 8, 9, 21, 22, 23, 29, 30, 31], by kernel_rfl⟩
def q16_11 : List MO := [Ma 46 (.load true 8 (.t 2)), Ma 47 (.mv (.t 1)), Ma 48 (.call (.c (.fn 29 [])) [(.t 46), (.t 47), (.c (.int .i64 1))]), Ma 49 (.len (.t 48)), Ma 50 (.mv (.c (.int .i64 0)))]
@[simp] theorem l16_11 : q16_11.length = 5 := rfl
instance : KR Try.f16.ntmps q16_11 := ⟨[1, 2, 4, 5, 7, 8, 9, 21, 22, 23, 48, 49, 50], by kernel_rfl⟩
def q16_12 : List MO := [Ma 51 (.bin .lss (.t 50) (.t 49))]
@[simp] theorem l16_12 : q16_12.length = 1 := rfl
instance : KR Try.f16.ntmps q16_12 := ⟨[1, 2, 4, 5, 7, 8, 9, 21, 22, 23, 48, 49, 50, 51], by kernel_rfl⟩
def q16_13 : List MO := [Ma 52 (.iaddr 7 (.t 48) (.t 50)), Ma 53 (.load true 7 (.t 52)), Ma 13 (.alloc [(.int .i64 0), (.int .i64 0), (.int .i64 0), (.int .i64 0), (.int .i64 0), (.int .i64 0), (.int .i64 0)]), Mb (.store 7 (.t 13) (.t 53))]
@[simp] theorem l16_13 : q16_13.length = 4 := rfl
instance : KR Try.f16.ntmps q16_13 := ⟨[1, 2, 4, 5, 7, 8, 9, 13, 21, 22, 23, 48, 49, 50], by kernel_rfl⟩
def q16_14 : List MO := [Ma 54 (.faddr 1 (.t 13)), Ma 55 (.faddr 2 (.t 54)), Ma 56 (.load false 1 (.t 55)), Ma 57 (.faddr 0 (.t 7)), Ma 58 (.load false 1 (.t 57)), Ma 59 (.bin .leq (.t 56) (.t 58))]
@[simp] theorem l16_14 : q16_14.length = 6 := rfl
instance : KR Try.f16.ntmps q16_14 := ⟨[1, 2, 4, 5, 7, 8, 9, 13, 21, 22, 23, 48, 49, 50, 59], by kernel_rfl⟩
def q16_15 : List MO := [Ma 60 (.mv (.t 9)), Ma 61 (.faddr 6 (.t 13)), Ma 62 (.load false 1 (.t 61)), Ma 63 (.bin .add (.t 60) (.t 62)), Ma 9 (.mv (.t 63))]
@[simp] theorem l16_15 : q16_15.length = 5 := rfl
instance : KR Try.f16.ntmps q16_15 := ⟨[1, 2, 4, 5, 7, 8, 9, 21, 22, 23, 48, 49, 50], by kernel_rfl⟩
def q16_16 : List MO := [Ma 64 (.bin .add (.t 50) (.c (.int .i64 1))), Ma 50 (.mv (.t 64))]
@[simp] theorem l16_16 : q16_16.length = 2 := rfl
instance : KR Try.f16.ntmps q16_16 := ⟨[1, 2, 4, 5, 7, 8, 9, 21, 22, 23, 48, 49, 50], by kernel_rfl⟩
def q16_17 : List MO := [Ma 65 (.mv (.t 8)), Ma 66 (.mv (.t 9)), Ma 67 (.mn [(.t 65), (.t 66)]), Ma 14 (.mv (.t 67))]
@[simp] theorem l16_17 : q16_17.length = 4 := rfl
instance : KR Try.f16.ntmps q16_17 := ⟨[1, 2, 4, 5, 7, 14, 21, 22, 23], by kernel_rfl⟩
def q16_18 : List MO := [Ma 68 (.mv (.t 14)), Ma 69 (.mv (.t 5)), Ma 70 (.bin .gtr (.t 68) (.t 69)), Ma 71 (.mv (.t 70)), Mg 72 (.mv (.t 14)) 71 false, Mg 73 (.mv (.t 5)) 71 false, Mg 74 (.bin .eql (.t 72) (.t 73)) 71 false, Mg 75 (.mv (.t 74)) 71 false, Mg 76 (.mv (.t 14)) 75 true, Mg 77 (.bin .gtr (.t 76) (.c (.int .i64 0))) 75 true, Mg 78 (.pick (.t 75) (.t 77) (.c (.bool false))) 71 false, Mg 79 (.mv (.t 78)) 71 false, Mg 80 (.faddr 0 (.t 7)) 79 true, Mg 81 (.load false 1 (.t 80)) 79 true, Mg 82 (.mv (.t 4)) 79 true, Mg 83 (.bin .lss (.t 81) (.t 82)) 79 true, Mg 84 (.pick (.t 79) (.t 83) (.c (.bool false))) 71 false, Ma 85 (.pick (.t 71) (.c (.bool true)) (.t 84))]
@[simp] theorem l16_18 : q16_18.length = 18 := rfl
instance : KR Try.f16.ntmps q16_18 := ⟨[1, 2, 4, 5, 7, 14, 21, 22, 23, 85], by kernel_rfl⟩
def q16_19 : List MO := [Ma 86 (.faddr 0 (.t 7)), Ma 87 (.load false 1 (.t 86)), Ma 88 (.mv (.t 14)), Ma 4 (.mv (.t 87)), Ma 5 (.mv (.t 88))]
@[simp] theorem l16_19 : q16_19.length = 5 := rfl
instance : KR Try.f16.ntmps q16_19 := ⟨[1, 2, 4, 5, 21, 22, 23], by kernel_rfl⟩
def q16_20 : List MO := [Ma 89 (.bin .add (.t 23) (.c (.int .i64 1))), Ma 23 (.mv (.t 89))]
@[simp] theorem l16_20 : q16_20.length = 2 := rfl
instance : KR Try.f16.ntmps q16_20 := ⟨[1, 2, 4, 5, 21, 22, 23], by kernel_rfl⟩
def q16_21 : List MO := [Ma 90 (.mv (.t 4)), Ma 91 (.mv (.t 5)), Ma 4 (.mv (.t 90)), Ma 5 (.mv (.t 91))]
@[simp] theorem l16_21 : q16_21.length = 4 := rfl
instance : KR Try.f16.ntmps q16_21 := ⟨[4, 5], by kernel_rfl⟩
def m16 : MCode := .seq (.reg q16_0) (.seq (.seq (.draw q16_1 p16_1) (.block 0 (.loop (.seq (.reg q16_2) (.seq (.cond (.t 24) .skip (.exit 0)) (.seq (.block 1 (.seq (.reg q16_3) (.seq (.reg q16_4) (.seq (.seq (.reg q16_5) (.block 2 (.loop (.seq (.reg q16_6) (.seq (.cond (.t 32) .skip (.exit 2)) (.seq (.block 3 (.seq (.reg q16_7) (.seq (.reg q16_8) (.cond (.t 40) (.reg q16_9) .skip)))) (.reg q16_10))))))) (.seq (.seq (.reg q16_11) (.block 4 (.loop (.seq (.reg q16_12) (.seq (.cond (.t 51) .skip (.exit 4)) (.seq (.block 5 (.seq (.reg q16_13) (.seq (.reg q16_14) (.cond (.t 59) (.reg q16_15) .skip)))) (.reg q16_16))))))) (.seq (.reg q16_17) (.seq (.reg q16_18) (.cond (.t 85) (.reg q16_19) .skip)))))))) (.reg q16_20))))))) (.seq (.reg q16_21) .ret))
theorem rc16 : rcOf Try.prog Try.f16 = some m16 := by kernel_rfl
theorem rv16 : rRVs Try.prog Try.f16.results.toList = some [(.t 4), (.t 5)] := by kernel_rfl
theorem nm16 : (Try.f16.name == "runtime.NumGoroutine") = false := by kernel_rfl
def q17_0 : List MO := [Ma 4 (.mv (.c (.int .i64 0))), Ma 5 (.mv (.c (.int .i64 0)))]
@[simp] theorem l17_0 : q17_0.length = 2 := rfl
instance : KR Try.f17.ntmps q17_0 := ⟨[0, 1], by kernel_rfl⟩
def q17_1 : List MO := [Ma 6 (.mv (.c (.int .i64 0))), Ma 7 (.mv (.c (.int .i64 0)))]
@[simp] theorem l17_1 : q17_1.length = 2 := rfl
instance : KR Try.f17.ntmps q17_1 := ⟨[0, 1, 6, 7], by kernel_rfl⟩
def q17_2 : List MO := [Ma 8 (.mv (.c (.int .i64 1)))]
@[simp] theorem l17_2 : q17_2.length = 1 := rfl
instance : KR Try.f17.ntmps q17_2 := ⟨[0, 1, 6, 7, 8], by kernel_rfl⟩
def q17_3 : List MO := [Ma 14 (.mv (.t 8)), Ma 15 (.bin .leq (.t 14) (.c (.int .i64 9999)))]
@[simp] theorem l17_3 : q17_3.length = 2 := rfl
instance : KR Try.f17.ntmps q17_3 := ⟨[0, 1, 6, 7, 8, 15], by kernel_rfl⟩
def q17_4 : List MO := [Ma 9 (.mv (.c (.int .i64 0))), Ma 10 (.mv (.c (.int .i64 0))), Ma 11 (.mv (.c (.bool false)))]
@[simp] theorem l17_4 : q17_4.length = 3 := rfl
instance : KR Try.f17.ntmps q17_4 := ⟨[0, 1, 6, 7, 8, 9, 10, 11], by kernel_rfl⟩
def q17_5 : List MO := [Ma 12 (.mv (.c (.int .i64 0)))]
@[simp] theorem l17_5 : q17_5.length = 1 := rfl
instance : KR Try.f17.ntmps q17_5 := ⟨[0, 1, 6, 7, 8, 9, 10, 11, 12], by kernel_rfl⟩
def q17_6 : List MO := [Ma 18 (.mv (.t 12)), Ma 19 (.mv (.t 0)), Ma 20 (.len (.t 19)), Ma 21 (.bin .lss (.t 18) (.t 20))]
@[simp] theorem l17_6 : q17_6.length = 4 := rfl
instance : KR Try.f17.ntmps q17_6 := ⟨[0, 1, 6, 7, 8, 9, 10, 11, 12, 21], by kernel_rfl⟩
def q17_7 : List MO := [Ma 24 (.mv (.t 0)), Ma 25 (.mv (.t 12)), Ma 26 (.iaddr 7 (.t 24) (.t 25)), Ma 27 (.faddr 1 (.t 26)), Ma 28 (.load true 5 (.t 27)), Ma 13 (.alloc [(.int .i64 0), (.int .i64 0), (.int .i64 0), (.int .i64 0), (.int .i64 0)]), Mb (.store 5 (.t 13) (.t 28))]
@[simp] theorem l17_7 : q17_7.length = 7 := rfl
instance : KR Try.f17.ntmps q17_7 := ⟨[0, 1, 6, 7, 8, 9, 10, 11, 12, 13], by kernel_rfl⟩
def q17_8 : List MO := [Ma 29 (.faddr 0 (.t 13)), Ma 30 (.load false 1 (.t 29)), Ma 31 (.mv (.t 1)), Ma 32 (.bin .neq (.t 30) (.t 31)), Ma 33 (.mv (.t 32)), Mg 34 (.faddr 1 (.t 13)) 33 false, Mg 35 (.load false 1 (.t 34)) 33 false, Mg 36 (.bin .neq (.t 35) (.c (.int .i64 0))) 33 false, Mg 37 (.mv (.t 36)) 33 false, Mg 38 (.faddr 1 (.t 13)) 37 true, Mg 39 (.load false 1 (.t 38)) 37 true, Mg 40 (.bin .neq (.t 39) (.c (.int .i64 1))) 37 true, Mg 41 (.pick (.t 37) (.t 40) (.c (.bool false))) 33 false, Ma 42 (.pick (.t 33) (.c (.bool true)) (.t 41))]
@[simp] theorem l17_8 : q17_8.length = 14 := rfl
instance : KR Try.f17.ntmps q17_8 := ⟨[0, 1, 6, 7, 8, 9, 10, 11, 12, 13, 42], by kernel_rfl⟩
def q17_9 : List MO := [Ma 43 (.mv (.t 11)), Ma 44 (.mv (.t 43)), Mg 45 (.faddr 2 (.t 13)) 44 false, Mg 46 (.load false 1 (.t 45)) 44 false, Mg 47 (.mv (.t 8)) 44 false, Mg 48 (.bin .eql (.t 46) (.t 47)) 44 false, Ma 49 (.pick (.t 44) (.c (.bool true)) (.t 48)), Ma 11 (.mv (.t 49))]
@[simp] theorem l17_9 : q17_9.length = 8 := rfl
instance : KR Try.f17.ntmps q17_9 := ⟨[0, 1, 6, 7, 8, 9, 10, 11, 12, 13], by kernel_rfl⟩
def q17_10 : List MO := [Ma 50 (.faddr 1 (.t 13)), Ma 51 (.load false 1 (.t 50)), Ma 52 (.bin .eql (.t 51) (.c (.int .i64 0))), Ma 53 (.mv (.t 52)), Mg 54 (.faddr 2 (.t 13)) 53 true, Mg 55 (.load false 1 (.t 54)) 53 true, Mg 56 (.mv (.t 8)) 53 true, Mg 57 (.bin .geq (.t 55) (.t 56)) 53 true, Ma 58 (.pick (.t 53) (.t 57) (.c (.bool false)))]
@[simp] theorem l17_10 : q17_10.length = 9 := rfl
instance : KR Try.f17.ntmps q17_10 := ⟨[0, 1, 6, 7, 8, 9, 10, 11, 12, 13, 58], by kernel_rfl⟩
def q17_11 : List MO := [Ma 59 (.mv (.t 9)), Ma 60 (.mv (.t 0)), Ma 61 (.mv (.t 12)), Ma 62 (.iaddr 7 (.t 60) (.t 61)), Ma 63 (.faddr 6 (.t 62)), Ma 64 (.load false 1 (.t 63)), Ma 65 (.bin .add (.t 59) (.t 64)), Ma 9 (.mv (.t 65))]
@[simp] theorem l17_11 : q17_11.length = 8 := rfl
instance : KR Try.f17.ntmps q17_11 := ⟨[0, 1, 6, 7, 8, 9, 10, 11, 12, 13], by kernel_rfl⟩
def q17_12 : List MO := [Ma 66 (.faddr 1 (.t 13)), Ma 67 (.load false 1 (.t 66)), Ma 68 (.bin .eql (.t 67) (.c (.int .i64 1))), Ma 69 (.mv (.t 68)), Mg 70 (.faddr 2 (.t 13)) 69 true, Mg 71 (.load false 1 (.t 70)) 69 true, Mg 72 (.mv (.t 8)) 69 true, Mg 73 (.bin .leq (.t 71) (.t 72)) 69 true, Ma 74 (.pick (.t 69) (.t 73) (.c (.bool false)))]
@[simp] theorem l17_12 : q17_12.length = 9 := rfl
instance : KR Try.f17.ntmps q17_12 := ⟨[0, 1, 6, 7, 8, 9, 10, 11, 12, 74], by kernel_rfl⟩
def q17_13 : List MO := [Ma 75 (.mv (.t 10)), Ma 76 (.mv (.t 0)), Ma 77 (.mv (.t 12)), Ma 78 (.iaddr 7 (.t 76) (.t 77)), Ma 79 (.faddr 6 (.t 78)), Ma 80 (.load false 1 (.t 79)), Ma 81 (.bin .add (.t 75) (.t 80)), Ma 10 (.mv (.t 81))]
@[simp] theorem l17_13 : q17_13.length = 8 := rfl
instance : KR Try.f17.ntmps q17_13 := ⟨[0, 1, 6, 7, 8, 9, 10, 11, 12], by kernel_rfl⟩
def q17_14 : List MO := [Ma 22 (.mv (.t 12)), Ma 23 (.bin .add (.t 22) (.c (.int .i64 1))), Ma 12 (.mv (.t 23))]
@[simp] theorem l17_14 : q17_14.length = 3 := rfl
instance : KR Try.f17.ntmps q17_14 := ⟨[0, 1, 6, 7, 8, 9, 10, 11, 12], by kernel_rfl⟩
def q17_15 : List MO := [Ma 82 (.mv (.t 10)), Ma 83 (.mv (.t 9)), Ma 84 (.bin .lss (.t 82) (.t 83))]
@[simp] theorem l17_15 : q17_15.length = 3 := rfl
instance : KR Try.f17.ntmps q17_15 := ⟨[0, 1, 6, 7, 8, 9, 10, 11, 84], by kernel_rfl⟩
def q17_16 : List MO := [Ma 85 (.mv (.t 10)), Ma 9 (.mv (.t 85))]
@[simp] theorem l17_16 : q17_16.length = 2 := rfl
instance : KR Try.f17.ntmps q17_16 := ⟨[0, 1, 6, 7, 8, 9, 11], by kernel_rfl⟩
def q17_17 : List MO := [Ma 86 (.mv (.t 11)), Ma 87 (.mv (.t 86)), Mg 88 (.mv (.t 9)) 87 true, Mg 89 (.mv (.t 7)) 87 true, Mg 90 (.bin .gtr (.t 88) (.t 89)) 87 true, Ma 91 (.pick (.t 87) (.t 90) (.c (.bool false)))]
@[simp] theorem l17_17 : q17_17.length = 6 := rfl
instance : KR Try.f17.ntmps q17_17 := ⟨[0, 1, 6, 7, 8, 9, 91], by kernel_rfl⟩
def q17_18 : List MO := [Ma 92 (.mv (.t 8)), Ma 93 (.mv (.t 9)), Ma 6 (.mv (.t 92)), Ma 7 (.mv (.t 93))]
@[simp] theorem l17_18 : q17_18.length = 4 := rfl
instance : KR Try.f17.ntmps q17_18 := ⟨[0, 1, 6, 7, 8], by kernel_rfl⟩
def q17_19 : List MO := [Ma 16 (.mv (.t 8)), Ma 17 (.bin .add (.t 16) (.c (.int .i64 1))), Ma 8 (.mv (.t 17))]
@[simp] theorem l17_19 : q17_19.length = 3 := rfl
instance : KR Try.f17.ntmps q17_19 := ⟨[0, 1, 6, 7, 8], by kernel_rfl⟩
def q17_20 : List MO := [Ma 94 (.mv (.t 6)), Ma 95 (.mv (.t 7)), Ma 4 (.mv (.t 94)), Ma 5 (.mv (.t 95))]
@[simp] theorem l17_20 : q17_20.length = 4 := rfl
instance : KR Try.f17.ntmps q17_20 := ⟨[4, 5], by kernel_rfl⟩
def m17 : MCode := .seq (.reg q17_0) (.seq (.reg q17_1) (.seq (.seq (.reg q17_2) (.block 0 (.loop (.seq (.seq (.reg q17_3) (.cond (.t 15) .skip (.exit 0))) (.seq (.block 1 (.seq (.reg q17_4) (.seq (.seq (.reg q17_5) (.block 2 (.loop (.seq (.seq (.reg q17_6) (.cond (.t 21) .skip (.exit 2))) (.seq (.block 3 (.seq (.reg q17_7) (.seq (.seq (.reg q17_8) (.cond (.t 42) (.exit 3) .skip)) (.seq (.reg q17_9) (.seq (.seq (.reg q17_10) (.cond (.t 58) (.reg q17_11) .skip)) (.seq (.reg q17_12) (.cond (.t 74) (.reg q17_13) .skip))))))) (.reg q17_14)))))) (.seq (.seq (.reg q17_15) (.cond (.t 84) (.reg q17_16) .skip)) (.seq (.reg q17_17) (.cond (.t 91) (.reg q17_18) .skip)))))) (.reg q17_19)))))) (.seq (.reg q17_20) .ret)))
theorem rc17 : rcOf Try.prog Try.f17 = some m17 := by kernel_rfl
theorem rv17 : rRVs Try.prog Try.f17.results.toList = some [(.t 4), (.t 5)] := by kernel_rfl
theorem nm17 : (Try.f17.name == "runtime.NumGoroutine") = false := by kernel_rfl
def q18_0 : List MO := [Ma 2 (.box (.t 0)), Ma 3 (.box (.t 1)), Ma 4 (.mv (.c (.int .i64 0)))]
@[simp] theorem l18_0 : q18_0.length = 3 := rfl
instance : KR Try.f18.ntmps q18_0 := ⟨[2, 3], by kernel_rfl⟩
def q18_1 : List MO := [Ma 5 (.mv (.c (.int .i64 0)))]
@[simp] theorem l18_1 : q18_1.length = 1 := rfl
instance : KR Try.f18.ntmps q18_1 := ⟨[2, 3, 5], by kernel_rfl⟩
def q18_2 : List MO := [Ma 8 (.faddr 7 (.t 2)), Ma 9 (.load false 1 (.t 8)), Ma 10 (.len (.t 9)), Ma 11 (.mv (.c (.int .i64 0)))]
@[simp] theorem l18_2 : q18_2.length = 4 := rfl
instance : KR Try.f18.ntmps q18_2 := ⟨[2, 3, 5, 9, 10, 11], by kernel_rfl⟩
def q18_3 : List MO := [Ma 12 (.bin .lss (.t 11) (.t 10))]
@[simp] theorem l18_3 : q18_3.length = 1 := rfl
instance : KR Try.f18.ntmps q18_3 := ⟨[2, 3, 5, 9, 10, 11, 12], by kernel_rfl⟩
def q18_4 : List MO := [Ma 13 (.iaddr 7 (.t 9) (.t 11)), Ma 14 (.load true 7 (.t 13)), Ma 7 (.alloc [(.int .i64 0), (.int .i64 0), (.int .i64 0), (.int .i64 0), (.int .i64 0), (.int .i64 0), (.int .i64 0)]), Mb (.store 7 (.t 7) (.t 14))]
@[simp] theorem l18_4 : q18_4.length = 4 := rfl
instance : KR Try.f18.ntmps q18_4 := ⟨[2, 3, 5, 7, 9, 10, 11], by kernel_rfl⟩
def q18_5 : List MO := [Ma 15 (.faddr 0 (.t 2)), Ma 16 (.load true 7 (.t 15)), Ma 17 (.faddr 0 (.t 7)), Ma 18 (.load false 1 (.t 17)), Ma 19 (.call (.c (.fn 33 [])) [(.t 16), (.t 18)]), Ma 20 (.faddr 0 (.t 2)), Ma 21 (.load true 7 (.t 20)), Ma 22 (.faddr 0 (.t 3)), Ma 23 (.load false 1 (.t 22)), Ma 24 (.call (.c (.fn 33 [])) [(.t 21), (.t 23)]), Ma 25 (.bin .eql (.t 19) (.t 24))]
@[simp] theorem l18_5 : q18_5.length = 11 := rfl
def p18_5 : List (List Nat) := [[], [0], [], [2], [1, 3], [], [5], [], [7], [6, 8, 4], [4, 9]]
instance : KD Try.f18.ntmps q18_5 p18_5 := ⟨[[], [0], [], [2], [0, 1, 2, 3], [], [5], [], [7], [0, 1, 2, 3, 4, 5, 6, 7, 8], [0, 1, 2, 3, 4, 5, 6, 7, 8, 9]], [2, 3, 5, 7, 9, 10, 11, 25], by kernel_rfl⟩
def q18_6 : List MO := [Ma 26 (.mv (.t 5)), Ma 27 (.faddr 1 (.t 3)), Ma 28 (.load true 5 (.t 27)), Ma 29 (.faddr 1 (.t 7)), Ma 30 (.load true 5 (.t 29)), Ma 31 (.faddr 6 (.t 3)), Ma 32 (.load false 1 (.t 31)), Ma 33 (.faddr 6 (.t 7)), Ma 34 (.load false 1 (.t 33)), Ma 35 (.call (.c (.fn 34 [])) [(.t 28), (.t 30), (.t 32), (.t 34)]), Ma 36 (.fld false 0 1 (.t 35)), Ma 37 (.bin .add (.t 26) (.t 36)), Ma 5 (.mv (.t 37))]
@[simp] theorem l18_6 : q18_6.length = 13 := rfl
instance : KR Try.f18.ntmps q18_6 := ⟨[2, 3, 5, 9, 10, 11], by kernel_rfl⟩
def q18_7 : List MO := [Ma 38 (.bin .add (.t 11) (.c (.int .i64 1))), Ma 11 (.mv (.t 38))]
@[simp] theorem l18_7 : q18_7.length = 2 := rfl
instance : KR Try.f18.ntmps q18_7 := ⟨[2, 3, 5, 9, 10, 11], by kernel_rfl⟩
def q18_8 : List MO := [Ma 39 (.mv (.t 5)), Ma 40 (.faddr 6 (.t 3)), Ma 41 (.load false 1 (.t 40)), Ma 42 (.mx [(.t 41), (.c (.int .i64 0))]), Ma 43 (.mn [(.t 39), (.t 42)]), Ma 4 (.mv (.t 43))]
@[simp] theorem l18_8 : q18_8.length = 6 := rfl
instance : KR Try.f18.ntmps q18_8 := ⟨[4], by kernel_rfl⟩
def m18 : MCode := .seq (.reg q18_0) (.seq (.reg q18_1) (.seq (.seq (.reg q18_2) (.block 0 (.loop (.seq (.reg q18_3) (.seq (.cond (.t 12) .skip (.exit 0)) (.seq (.block 1 (.seq (.reg q18_4) (.seq (.seq (.draw q18_5 p18_5) (.cond (.t 25) (.exit 1) .skip)) (.reg q18_6)))) (.reg q18_7))))))) (.seq (.reg q18_8) .ret)))
theorem rc18 : rcOf Try.prog Try.f18 = some m18 := by kernel_rfl
theorem rv18 : rRVs Try.prog Try.f18.results.toList = some [(.t 4)] := by kernel_rfl
theorem nm18 : (Try.f18.name == "runtime.NumGoroutine") = false := by kernel_rfl
def q19_0 : List MO := [Ma 3 (.box (.t 0)), Ma 5 (.box (.t 2)), Ma 6 (.mv (.c (.int .i64 0)))]
@[simp] theorem l19_0 : q19_0.length = 3 := rfl
instance : KR Try.f19.ntmps q19_0 := ⟨[1, 3, 5], by kernel_rfl⟩
def q19_1 : List MO := [Ma 7 (.mv (.c (.int .i64 0)))]
@[simp] theorem l19_1 : q19_1.length = 1 := rfl
instance : KR Try.f19.ntmps q19_1 := ⟨[1, 3, 5, 7], by kernel_rfl⟩
def q19_2 : List MO := [Ma 8 (.mv (.c (.int .i64 0)))]
@[simp] theorem l19_2 : q19_2.length = 1 := rfl
instance : KR Try.f19.ntmps q19_2 := ⟨[1, 3, 5, 7, 8], by kernel_rfl⟩
def q19_3 : List MO := [Ma 11 (.mv (.t 8)), Ma 12 (.mv (.t 1)), Ma 13 (.len (.t 12)), Ma 14 (.bin .lss (.t 11) (.t 13))]
@[simp] theorem l19_3 : q19_3.length = 4 := rfl
instance : KR Try.f19.ntmps q19_3 := ⟨[1, 3, 5, 7, 8, 14], by kernel_rfl⟩
def q19_4 : List MO := [Ma 17 (.load true 7 (.t 3)), Ma 18 (.mv (.t 1)), Ma 19 (.mv (.t 8)), Ma 20 (.iaddr 7 (.t 18) (.t 19)), Ma 21 (.faddr 0 (.t 20)), Ma 22 (.load false 1 (.t 21)), Ma 23 (.call (.c (.fn 35 [])) [(.t 17), (.t 22)]), Ma 24 (.load true 7 (.t 3)), Ma 25 (.faddr 0 (.t 5)), Ma 26 (.load false 1 (.t 25)), Ma 27 (.call (.c (.fn 35 [])) [(.t 24), (.t 26)]), Ma 28 (.bin .neq (.t 23) (.t 27))]
@[simp] theorem l19_4 : q19_4.length = 12 := rfl
def p19_4 : List (List Nat) := [[], [], [], [1, 2], [3], [4], [0, 5], [], [], [8], [7, 9, 6], [6, 10]]
instance : KD Try.f19.ntmps q19_4 p19_4 := ⟨[[], [], [], [1, 2], [1, 2, 3], [1, 2, 3, 4], [0, 1, 2, 3, 4, 5], [], [], [8], [0, 1, 2, 3, 4, 5, 6, 7, 8, 9], [0, 1, 2, 3, 4, 5, 6, 7, 8, 9, 10]], [1, 3, 5, 7, 8, 28], by kernel_rfl⟩
def q19_5 : List MO := [Ma 30 (.faddr 1 (.t 5)), Ma 31 (.load true 5 (.t 30)), Ma 32 (.mv (.t 1)), Ma 33 (.mv (.t 8)), Ma 34 (.iaddr 7 (.t 32) (.t 33)), Ma 35 (.faddr 1 (.t 34)), Ma 36 (.load true 5 (.t 35)), Ma 37 (.faddr 6 (.t 5)), Ma 38 (.load false 1 (.t 37)), Ma 39 (.mv (.t 1)), Ma 40 (.mv (.t 8)), Ma 41 (.iaddr 7 (.t 39) (.t 40)), Ma 42 (.faddr 6 (.t 41)), Ma 43 (.load false 1 (.t 42)), Ma 44 (.call (.c (.fn 36 [])) [(.t 31), (.t 36), (.t 38), (.t 43)]), Ma 29 (.mv (.t 44)), Ma 45 (.ext (.t 29) 0), Ma 46 (.ext (.t 29) 1), Ma 9 (.mv (.t 45)), Ma 10 (.mv (.t 46))]
@[simp] theorem l19_5 : q19_5.length = 20 := rfl
def p19_5 : List (List Nat) := [[], [0], [], [], [2, 3], [4], [5], [], [7], [], [], [9, 10], [11], [12], [1, 6, 8, 13], [14], [15], [15], [16, 14, 0, 1, 2, 3, 4, 5, 6, 7, 8, 9, 10, 11, 12, 13, 14, 15, 16], [17, 18, 0, 1, 2, 3, 4, 5, 6, 7, 8, 9, 10, 11, 12, 13, 14, 15, 16, 17, 18]]
instance : KD Try.f19.ntmps q19_5 p19_5 := ⟨[[], [0], [], [], [2, 3], [2, 3, 4], [2, 3, 4, 5], [], [7], [], [], [9, 10], [9, 10, 11], [9, 10, 11, 12], [0, 1, 2, 3, 4, 5, 6, 7, 8, 9, 10, 11, 12, 13], [0, 1, 2, 3, 4, 5, 6, 7, 8, 9, 10, 11, 12, 13, 14], [0, 1, 2, 3, 4, 5, 6, 7, 8, 9, 10, 11, 12, 13, 14, 15], [0, 1, 2, 3, 4, 5, 6, 7, 8, 9, 10, 11, 12, 13, 14, 15], [0, 1, 2, 3, 4, 5, 6, 7, 8, 9, 10, 11, 12, 13, 14, 15, 16], [0, 1, 2, 3, 4, 5, 6, 7, 8, 9, 10, 11, 12, 13, 14, 15, 16, 17, 18]], [1, 3, 5, 7, 8, 9], by kernel_rfl⟩
def q19_6 : List MO := [Ma 47 (.mv (.t 7)), Ma 48 (.mv (.t 9)), Ma 49 (.bin .add (.t 47) (.t 48)), Ma 7 (.mv (.t 49))]
@[simp] theorem l19_6 : q19_6.length = 4 := rfl
instance : KR Try.f19.ntmps q19_6 := ⟨[1, 3, 5, 7, 8], by kernel_rfl⟩
def q19_7 : List MO := [Ma 15 (.mv (.t 8)), Ma 16 (.bin .add (.t 15) (.c (.int .i64 1))), Ma 8 (.mv (.t 16))]
@[simp] theorem l19_7 : q19_7.length = 3 := rfl
instance : KR Try.f19.ntmps q19_7 := ⟨[1, 3, 5, 7, 8], by kernel_rfl⟩
def q19_8 : List MO := [Ma 50 (.mv (.t 7)), Ma 51 (.faddr 6 (.t 5)), Ma 52 (.load false 1 (.t 51)), Ma 53 (.bin .gtr (.t 50) (.t 52))]
@[simp] theorem l19_8 : q19_8.length = 4 := rfl
instance : KR Try.f19.ntmps q19_8 := ⟨[5, 7, 53], by kernel_rfl⟩
def q19_9 : List MO := [Ma 54 (.faddr 6 (.t 5)), Ma 55 (.load false 1 (.t 54)), Ma 7 (.mv (.t 55))]
@[simp] theorem l19_9 : q19_9.length = 3 := rfl
instance : KR Try.f19.ntmps q19_9 := ⟨[7], by kernel_rfl⟩
def q19_10 : List MO := [Ma 56 (.mv (.t 7)), Ma 57 (.bin .lss (.t 56) (.c (.int .i64 0)))]
@[simp] theorem l19_10 : q19_10.length = 2 := rfl
instance : KR Try.f19.ntmps q19_10 := ⟨[7, 57], by kernel_rfl⟩
def q19_11 : List MO := [Ma 7 (.mv (.c (.int .i64 0)))]
@[simp] theorem l19_11 : q19_11.length = 1 := rfl
instance : KR Try.f19.ntmps q19_11 := ⟨[7], by kernel_rfl⟩
def q19_12 : List MO := [Ma 58 (.mv (.t 7)), Ma 6 (.mv (.t 58))]
@[simp] theorem l19_12 : q19_12.length = 2 := rfl
instance : KR Try.f19.ntmps q19_12 := ⟨[6], by kernel_rfl⟩
def m19 : MCode := .seq (.reg q19_0) (.seq (.reg q19_1) (.seq (.seq (.reg q19_2) (.block 0 (.loop (.seq (.seq (.reg q19_3) (.cond (.t 14) .skip (.exit 0))) (.seq (.block 1 (.seq (.draw q19_4 p19_4) (.cond (.t 28) (.seq (.draw q19_5 p19_5) (.reg q19_6)) .skip))) (.reg q19_7)))))) (.seq (.seq (.reg q19_8) (.cond (.t 53) (.reg q19_9) .skip)) (.seq (.seq (.reg q19_10) (.cond (.t 57) (.reg q19_11) .skip)) (.seq (.reg q19_12) .ret)))))
theorem rc19 : rcOf Try.prog Try.f19 = some m19 := by kernel_rfl
theorem rv19 : rRVs Try.prog Try.f19.results.toList = some [(.t 6)] := by kernel_rfl
theorem nm19 : (Try.f19.name == "runtime.NumGoroutine") = false := by kernel_rfl
def q20_0 : List MO := [Ma 2 (.box (.t 0)), Ma 3 (.box (.t 1)), Ma 4 (.mv (.c .nsl))]
@[simp] theorem l20_0 : q20_0.length = 3 := rfl
instance : KR Try.f20.ntmps q20_0 := ⟨[2, 3], by kernel_rfl⟩
def q20_1 : List MO := [Ma 5 (.load true 8 (.t 2)), Ma 6 (.call (.c (.fn 21 [])) [(.t 5)]), Ma 7 (.mkfn 38 [(.t 2), (.t 3)]), Ma 8 (.call (.c (.fn 37 [])) [(.t 6), (.t 7)]), Ma 4 (.mv (.t 8))]
@[simp] theorem l20_1 : q20_1.length = 5 := rfl
instance : KR Try.f20.ntmps q20_1 := ⟨[4], by kernel_rfl⟩
def m20 : MCode := .seq (.reg q20_0) (.seq (.reg q20_1) .ret)
theorem rc20 : rcOf Try.prog Try.f20 = some m20 := by kernel_rfl
theorem rv20 : rRVs Try.prog Try.f20.results.toList = some [(.t 4)] := by kernel_rfl
theorem nm20 : (Try.f20.name == "runtime.NumGoroutine") = false := by kernel_rfl
def q21_0 : List MO := [Ma 1 (.box (.t 0)), Ma 2 (.mv (.c .nsl))]
@[simp] theorem l21_0 : q21_0.length = 2 := rfl
instance : KR Try.f21.ntmps q21_0 := ⟨[1], by kernel_rfl⟩
def q21_1 : List MO := [Ma 3 (.faddr 7 (.t 1)), Ma 4 (.load false 1 (.t 3)), Ma 5 (.call (.c (.fn 39 [])) [(.t 4)]), Ma 2 (.mv (.t 5))]
@[simp] theorem l21_1 : q21_1.length = 4 := rfl
instance : KR Try.f21.ntmps q21_1 := ⟨[2], by kernel_rfl⟩
def m21 : MCode := .seq (.reg q21_0) (.seq (.reg q21_1) .ret)
theorem rc21 : rcOf Try.prog Try.f21 = some m21 := by kernel_rfl
theorem rv21 : rRVs Try.prog Try.f21.results.toList = some [(.t 2)] := by kernel_rfl
theorem nm21 : (Try.f21.name == "runtime.NumGoroutine") = false := by kernel_rfl
def q23_0 : List MO := [Ma 2 (.box (.t 0)), Ma 4 (.alloc [(.int .i64 0), (.int .i64 0), (.int .i64 0), (.int .i64 0), (.int .i64 0), (.int .i64 0), (.int .i64 0), .nsl])]
@[simp] theorem l23_0 : q23_0.length = 2 := rfl
instance : KR Try.f23.ntmps q23_0 := ⟨[1, 2, 4], by kernel_rfl⟩
def q23_1 : List MO := [Ma 5 (.load true 7 (.t 2)), Ma 6 (.mv (.t 1)), Ma 7 (.call (.c (.fn 39 [])) [(.t 6)]), Ma 8 (.build [(.int .i64 0), (.int .i64 0), (.int .i64 0), (.int .i64 0), (.int .i64 0), (.int .i64 0), (.int .i64 0), .nsl] [(0, (7, (.t 5))), (7, (1, (.t 7)))]), Mb (.store 8 (.t 4) (.t 8))]
@[simp] theorem l23_1 : q23_1.length = 5 := rfl
def p23_1 : List (List Nat) := [[], [], [1], [0, 2], [3, 2, 0, 1, 2, 3]]
instance : KD Try.f23.ntmps q23_1 p23_1 := ⟨[[], [], [1], [0, 1, 2], [0, 1, 2, 3]], [4], by kernel_rfl⟩
def m23 : MCode := .seq (.reg q23_0) (.seq (.draw q23_1 p23_1) .ret)
theorem rc23 : rcOf Try.prog Try.f23 = some m23 := by kernel_rfl
theorem rv23 : rRVs Try.prog Try.f23.results.toList = some [(.c true 8 4)] := by kernel_rfl
theorem nm23 : (Try.f23.name == "runtime.NumGoroutine") = false := by kernel_rfl
def q29_0 : List MO := [Ma 3 (.box (.t 0)), Ma 4 (.box (.t 1)), Ma 5 (.box (.t 2)), Ma 6 (.mv (.c .nsl))]
@[simp] theorem l29_0 : q29_0.length = 4 := rfl
instance : KR Try.f29.ntmps q29_0 := ⟨[3, 4, 5], by kernel_rfl⟩
def q29_1 : List MO := [Ma 7 (.load true 8 (.t 3)), Ma 8 (.call (.c (.fn 21 [])) [(.t 7)]), Ma 9 (.mkfn 42 [(.t 4), (.t 5)]), Ma 10 (.call (.c (.fn 37 [])) [(.t 8), (.t 9)]), Ma 6 (.mv (.t 10))]
@[simp] theorem l29_1 : q29_1.length = 5 := rfl
instance : KR Try.f29.ntmps q29_1 := ⟨[6], by kernel_rfl⟩
def m29 : MCode := .seq (.reg q29_0) (.seq (.reg q29_1) .ret)
theorem rc29 : rcOf Try.prog Try.f29 = some m29 := by kernel_rfl
theorem rv29 : rRVs Try.prog Try.f29.results.toList = some [(.t 6)] := by kernel_rfl
theorem nm29 : (Try.f29.name == "runtime.NumGoroutine") = false := by kernel_rfl
def q30_0 : List MO := [Ma 5 (.mv (.t 0)), Ma 6 (.len (.t 5)), Ma 4 (.mv (.t 6))]
@[simp] theorem l30_0 : q30_0.length = 3 := rfl
instance : KR Try.f30.ntmps q30_0 := ⟨[0, 1, 4], by kernel_rfl⟩
def q30_1 : List MO := [Ma 7 (.mv (.t 0)), Ma 8 (.mv (.t 4)), Ma 9 (.mv (.t 4)), Ma 10 (.conv .u64 (.t 9)), Ma 11 (.call (.c (.fn 44 [])) [(.t 10)]), Ma 12 (.mv (.t 1)), Ma 13 (.call (.c (.fn 43 [])) [(.t 7), (.c (.int .i64 0)), (.t 8), (.t 11), (.t 12)])]
@[simp] theorem l30_1 : q30_1.length = 7 := rfl
instance : KR Try.f30.ntmps q30_1 := ⟨[], by kernel_rfl⟩
def m30 : MCode := .seq (.reg q30_0) (.reg q30_1)
theorem rc30 : rcOf Try.prog Try.f30 = some m30 := by kernel_rfl
theorem rv30 : rRVs Try.prog Try.f30.results.toList = some [] := by kernel_rfl
theorem nm30 : (Try.f30.name == "runtime.NumGoroutine") = false := by kernel_rfl
def q31_0 : List MO := [Ma 3 (.box (.t 0)), Ma 4 (.box (.t 1)), Ma 5 (.mv (.c (.int .i64 0)))]
@[simp] theorem l31_0 : q31_0.length = 3 := rfl
instance : KR Try.f31.ntmps q31_0 := ⟨[2, 3, 4], by kernel_rfl⟩
def q31_1 : List MO := [Ma 6 (.load false 1 (.t 2)), Ma 7 (.faddr 0 (.t 3)), Ma 8 (.load false 1 (.t 7)), Ma 9 (.faddr 0 (.t 4)), Ma 10 (.load false 1 (.t 9)), Ma 11 (.call (.c (.fn 28 [])) [(.t 6), (.t 8), (.t 10)])]
@[simp] theorem l31_1 : q31_1.length = 6 := rfl
instance : KR Try.f31.ntmps q31_1 := ⟨[11], by kernel_rfl⟩
def q31_2 : List MO := [Ma 5 (.mv (.c (.int .i64 (-1))))]
@[simp] theorem l31_2 : q31_2.length = 1 := rfl
instance : KR Try.f31.ntmps q31_2 := ⟨[5], by kernel_rfl⟩
def q31_3 : List MO := [Ma 5 (.mv (.c (.int .i64 1)))]
@[simp] theorem l31_3 : q31_3.length = 1 := rfl
instance : KR Try.f31.ntmps q31_3 := ⟨[5], by kernel_rfl⟩
def m31 : MCode := .seq (.reg q31_0) (.seq (.seq (.reg q31_1) (.cond (.t 11) (.seq (.reg q31_2) .ret) .skip)) (.seq (.reg q31_3) .ret))
theorem rc31 : rcOf Try.prog Try.f31 = some m31 := by kernel_rfl
theorem rv31 : rRVs Try.prog Try.f31.results.toList = some [(.t 5)] := by kernel_rfl
theorem nm31 : (Try.f31.name == "runtime.NumGoroutine") = false := by kernel_rfl
def q35_0 : List MO := [Ma 2 (.box (.t 0)), Ma 4 (.mv (.c (.int .i64 0)))]
@[simp] theorem l35_0 : q35_0.length = 2 := rfl
instance : KR Try.f35.ntmps q35_0 := ⟨[1, 2], by kernel_rfl⟩
def q35_1 : List MO := [Ma 5 (.mv (.t 1)), Ma 6 (.bin .lss (.t 5) (.c (.int .i64 0))), Ma 7 (.mv (.t 6)), Mg 8 (.mv (.t 1)) 7 false, Mg 9 (.faddr 0 (.t 2)) 7 false, Mg 10 (.load false 1 (.t 9)) 7 false, Mg 11 (.faddr 1 (.t 2)) 7 false, Mg 12 (.load false 1 (.t 11)) 7 false, Mg 13 (.bin .mul (.t 10) (.t 12)) 7 false, Mg 14 (.bin .geq (.t 8) (.t 13)) 7 false, Ma 15 (.pick (.t 7) (.c (.bool true)) (.t 14))]
@[simp] theorem l35_1 : q35_1.length = 11 := rfl
instance : KR Try.f35.ntmps q35_1 := ⟨[1, 2, 15], by kernel_rfl⟩
def q35_2 : List MO := [Ma 4 (.mv (.c (.int .i64 (-1))))]
@[simp] theorem l35_2 : q35_2.length = 1 := rfl
instance : KR Try.f35.ntmps q35_2 := ⟨[4], by kernel_rfl⟩
def q35_3 : List MO := [Ma 16 (.mv (.t 1)), Ma 17 (.faddr 1 (.t 2)), Ma 18 (.load false 1 (.t 17)), Ma 19 (.bin .quo (.t 16) (.t 18)), Ma 4 (.mv (.t 19))]
@[simp] theorem l35_3 : q35_3.length = 5 := rfl
instance : KR Try.f35.ntmps q35_3 := ⟨[4], by kernel_rfl⟩
def m35 : MCode := .seq (.reg q35_0) (.seq (.seq (.reg q35_1) (.cond (.t 15) (.seq (.reg q35_2) .ret) .skip)) (.seq (.reg q35_3) .ret))
theorem rc35 : rcOf Try.prog Try.f35 = some m35 := by kernel_rfl
theorem rv35 : rRVs Try.prog Try.f35.results.toList = some [(.t 4)] := by kernel_rfl
theorem nm35 : (Try.f35.name == "runtime.NumGoroutine") = false := by kernel_rfl
def q37_0 : List MO := [Ma 4 (.mv (.c .nsl))]
@[simp] theorem l37_0 : q37_0.length = 1 := rfl
instance : KR Try.f37.ntmps q37_0 := ⟨[0, 1], by kernel_rfl⟩
def q37_1 : List MO := [Ma 8 (.mv (.t 0)), Ma 9 (.mv (.t 1)), Ma 10 (.call (.c (.fn 48 [])) [(.t 8), (.t 9)]), Ma 5 (.mv (.t 10))]
@[simp] theorem l37_1 : q37_1.length = 4 := rfl
instance : KR Try.f37.ntmps q37_1 := ⟨[0, 1, 5], by kernel_rfl⟩
def q37_2 : List MO := [Ma 11 (.mv (.t 5)), Ma 12 (.bin .eql (.t 11) (.c (.int .i64 (-1))))]
@[simp] theorem l37_2 : q37_2.length = 2 := rfl
instance : KR Try.f37.ntmps q37_2 := ⟨[0, 1, 5, 12], by kernel_rfl⟩
def q37_3 : List MO := [Ma 13 (.mv (.t 0)), Ma 4 (.mv (.t 13))]
@[simp] theorem l37_3 : q37_3.length = 2 := rfl
instance : KR Try.f37.ntmps q37_3 := ⟨[4], by kernel_rfl⟩
def q37_4 : List MO := [Ma 14 (.mv (.t 5)), Ma 15 (.bin .add (.t 14) (.c (.int .i64 1))), Ma 6 (.mv (.t 15))]
@[simp] theorem l37_4 : q37_4.length = 3 := rfl
instance : KR Try.f37.ntmps q37_4 := ⟨[0, 1, 5, 6], by kernel_rfl⟩
def q37_5 : List MO := [Ma 16 (.mv (.t 6)), Ma 17 (.mv (.t 0)), Ma 18 (.len (.t 17)), Ma 19 (.bin .lss (.t 16) (.t 18))]
@[simp] theorem l37_5 : q37_5.length = 4 := rfl
instance : KR Try.f37.ntmps q37_5 := ⟨[0, 1, 5, 6, 19], by kernel_rfl⟩
def q37_6 : List MO := [Ma 22 (.mv (.t 0)), Ma 23 (.mv (.t 6)), Ma 24 (.iaddr 7 (.t 22) (.t 23)), Ma 25 (.load true 7 (.t 24)), Ma 7 (.alloc [(.int .i64 0), (.int .i64 0), (.int .i64 0), (.int .i64 0), (.int .i64 0), (.int .i64 0), (.int .i64 0)]), Mb (.store 7 (.t 7) (.t 25))]
@[simp] theorem l37_6 : q37_6.length = 6 := rfl
instance : KR Try.f37.ntmps q37_6 := ⟨[0, 1, 5, 6, 7], by kernel_rfl⟩
def q37_7 : List MO := [Ma 26 (.mv (.t 1)), Ma 27 (.load true 7 (.t 7)), Ma 28 (.call (.t 26) [(.t 27)]), Ma 29 (.un .not (.t 28))]
@[simp] theorem l37_7 : q37_7.length = 4 := rfl
instance : KR Try.f37.ntmps q37_7 := ⟨[0, 1, 5, 6, 7, 29], by kernel_rfl⟩
def q37_8 : List MO := [Ma 30 (.mv (.t 0)), Ma 31 (.mv (.t 5)), Ma 32 (.load true 7 (.t 7)), Ma 33 (.iaddr 7 (.t 30) (.t 31)), Mb (.store 7 (.t 33) (.t 32))]
@[simp] theorem l37_8 : q37_8.length = 5 := rfl
instance : KR Try.f37.ntmps q37_8 := ⟨[0, 1, 5, 6], by kernel_rfl⟩
def q37_9 : List MO := [Ma 34 (.mv (.t 5)), Ma 35 (.bin .add (.t 34) (.c (.int .i64 1))), Ma 5 (.mv (.t 35))]
@[simp] theorem l37_9 : q37_9.length = 3 := rfl
instance : KR Try.f37.ntmps q37_9 := ⟨[0, 1, 5, 6], by kernel_rfl⟩
def q37_10 : List MO := [Ma 20 (.mv (.t 6)), Ma 21 (.bin .add (.t 20) (.c (.int .i64 1))), Ma 6 (.mv (.t 21))]
@[simp] theorem l37_10 : q37_10.length = 3 := rfl
instance : KR Try.f37.ntmps q37_10 := ⟨[0, 1, 5, 6], by kernel_rfl⟩
def q37_11 : List MO := [Ma 36 (.mv (.t 0)), Ma 37 (.mv (.t 5)), Ma 38 (.slc 7 (.t 36) (some (.t 37)) none), Mb (.clr 7 (.t 38))]
@[simp] theorem l37_11 : q37_11.length = 4 := rfl
instance : KR Try.f37.ntmps q37_11 := ⟨[0, 5], by kernel_rfl⟩
def q37_12 : List MO := [Ma 39 (.mv (.t 0)), Ma 40 (.mv (.t 5)), Ma 41 (.slc 7 (.t 39) none (some (.t 40))), Ma 4 (.mv (.t 41))]
@[simp] theorem l37_12 : q37_12.length = 4 := rfl
instance : KR Try.f37.ntmps q37_12 := ⟨[4], by kernel_rfl⟩
def m37 : MCode := .seq (.reg q37_0) (.seq (.reg q37_1) (.seq (.seq (.reg q37_2) (.cond (.t 12) (.seq (.reg q37_3) .ret) .skip)) (.seq (.seq (.reg q37_4) (.block 0 (.loop (.seq (.seq (.reg q37_5) (.cond (.t 19) .skip (.exit 0))) (.seq (.block 1 (.seq (.reg q37_6) (.seq (.reg q37_7) (.cond (.t 29) (.seq (.reg q37_8) (.reg q37_9)) .skip)))) (.reg q37_10)))))) (.seq (.reg q37_11) (.seq (.reg q37_12) .ret)))))
theorem rc37 : rcOf Try.prog Try.f37 = some m37 := by kernel_rfl
theorem rv37 : rRVs Try.prog Try.f37.results.toList = some [(.t 4)] := by kernel_rfl
theorem nm37 : (Try.f37.name == "runtime.NumGoroutine") = false := by kernel_rfl
def q38_0 : List MO := [Ma 3 (.box (.t 0)), Ma 4 (.mv (.c (.bool false)))]
@[simp] theorem l38_0 : q38_0.length = 2 := rfl
instance : KR Try.f38.ntmps q38_0 := ⟨[1, 2, 3], by kernel_rfl⟩
def q38_1 : List MO := [Ma 5 (.faddr 0 (.t 1)), Ma 6 (.load true 7 (.t 5)), Ma 7 (.faddr 0 (.t 3)), Ma 8 (.load false 1 (.t 7)), Ma 9 (.call (.c (.fn 33 [])) [(.t 6), (.t 8)]), Ma 10 (.load false 1 (.t 2)), Ma 11 (.bin .neq (.t 9) (.t 10)), Ma 4 (.mv (.t 11))]
@[simp] theorem l38_1 : q38_1.length = 8 := rfl
def p38_1 : List (List Nat) := [[], [0], [], [2], [1, 3], [], [4, 5], [6, 4, 0, 1, 2, 3, 4, 5, 6]]
instance : KD Try.f38.ntmps q38_1 p38_1 := ⟨[[], [0], [], [2], [0, 1, 2, 3], [], [0, 1, 2, 3, 4, 5], [0, 1, 2, 3, 4, 5, 6]], [4], by kernel_rfl⟩
def m38 : MCode := .seq (.reg q38_0) (.seq (.draw q38_1 p38_1) .ret)
theorem rc38 : rcOf Try.prog Try.f38 = some m38 := by kernel_rfl
theorem rv38 : rRVs Try.prog Try.f38.results.toList = some [(.t 4)] := by kernel_rfl
theorem nm38 : (Try.f38.name == "runtime.NumGoroutine") = false := by kernel_rfl
def q39_0 : List MO := [Ma 2 (.mv (.c .nsl))]
@[simp] theorem l39_0 : q39_0.length = 1 := rfl
instance : KR Try.f39.ntmps q39_0 := ⟨[0], by kernel_rfl⟩
def q39_1 : List MO := [Ma 3 (.mv (.t 0)), Ma 4 (.eq false .slice (.t 3) (.c .nsl))]
@[simp] theorem l39_1 : q39_1.length = 2 := rfl
instance : KR Try.f39.ntmps q39_1 := ⟨[0, 4], by kernel_rfl⟩
def q39_2 : List MO := [Ma 2 (.mv (.c .nsl))]
@[simp] theorem l39_2 : q39_2.length = 1 := rfl
instance : KR Try.f39.ntmps q39_2 := ⟨[2], by kernel_rfl⟩
def q39_3 : List MO := [Ma 5 (.bsl 7 0 [(.int .i64 0), (.int .i64 0), (.int .i64 0), (.int .i64 0), (.int .i64 0), (.int .i64 0), (.int .i64 0)] []), Ma 6 (.mv (.t 0)), Ma 7 (.app 7 56 (.t 5) (.t 6)), Ma 2 (.mv (.t 7))]
@[simp] theorem l39_3 : q39_3.length = 4 := rfl
instance : KR Try.f39.ntmps q39_3 := ⟨[2], by kernel_rfl⟩
def m39 : MCode := .seq (.reg q39_0) (.seq (.seq (.reg q39_1) (.cond (.t 4) (.seq (.reg q39_2) .ret) .skip)) (.seq (.reg q39_3) .ret))
theorem rc39 : rcOf Try.prog Try.f39 = some m39 := by kernel_rfl
theorem rv39 : rRVs Try.prog Try.f39.results.toList = some [(.t 2)] := by kernel_rfl
theorem nm39 : (Try.f39.name == "runtime.NumGoroutine") = false := by kernel_rfl
def q42_0 : List MO := [Ma 3 (.box (.t 0)), Ma 4 (.mv (.c (.bool false)))]
@[simp] theorem l42_0 : q42_0.length = 2 := rfl
instance : KR Try.f42.ntmps q42_0 := ⟨[1, 2, 3], by kernel_rfl⟩
def q42_1 : List MO := [Ma 5 (.faddr 1 (.t 3)), Ma 6 (.faddr 0 (.t 5)), Ma 7 (.load false 1 (.t 6)), Ma 8 (.load false 1 (.t 1)), Ma 9 (.bin .neq (.t 7) (.t 8)), Ma 10 (.mv (.t 9)), Mg 11 (.faddr 1 (.t 3)) 10 false, Mg 12 (.faddr 1 (.t 11)) 10 false, Mg 13 (.load false 1 (.t 12)) 10 false, Mg 14 (.load false 1 (.t 2)) 10 false, Mg 15 (.bin .neq (.t 13) (.t 14)) 10 false, Ma 16 (.pick (.t 10) (.c (.bool true)) (.t 15)), Ma 4 (.mv (.t 16))]
@[simp] theorem l42_1 : q42_1.length = 13 := rfl
instance : KR Try.f42.ntmps q42_1 := ⟨[4], by kernel_rfl⟩
def m42 : MCode := .seq (.reg q42_0) (.seq (.reg q42_1) .ret)
theorem rc42 : rcOf Try.prog Try.f42 = some m42 := by kernel_rfl
theorem rv42 : rRVs Try.prog Try.f42.results.toList = some [(.t 4)] := by kernel_rfl
theorem nm42 : (Try.f42.name == "runtime.NumGoroutine") = false := by kernel_rfl
def q48_0 : List MO := [Ma 4 (.mv (.c (.int .i64 0)))]
@[simp] theorem l48_0 : q48_0.length = 1 := rfl
instance : KR Try.f48.ntmps q48_0 := ⟨[0, 1], by kernel_rfl⟩
def q48_1 : List MO := [Ma 6 (.mv (.t 0)), Ma 7 (.len (.t 6)), Ma 8 (.mv (.c (.int .i64 0)))]
@[simp] theorem l48_1 : q48_1.length = 3 := rfl
instance : KR Try.f48.ntmps q48_1 := ⟨[0, 1, 7, 8], by kernel_rfl⟩
def q48_2 : List MO := [Ma 9 (.bin .lss (.t 8) (.t 7))]
@[simp] theorem l48_2 : q48_2.length = 1 := rfl
instance : KR Try.f48.ntmps q48_2 := ⟨[0, 1, 7, 8, 9], by kernel_rfl⟩
def q48_3 : List MO := [Ma 10 (.mv (.t 8)), Ma 5 (.mv (.t 10))]
@[simp] theorem l48_3 : q48_3.length = 2 := rfl
instance : KR Try.f48.ntmps q48_3 := ⟨[0, 1, 5, 7, 8], by kernel_rfl⟩
def q48_4 : List MO := [Ma 11 (.mv (.t 1)), Ma 12 (.mv (.t 0)), Ma 13 (.mv (.t 5)), Ma 14 (.iaddr 7 (.t 12) (.t 13)), Ma 15 (.load true 7 (.t 14)), Ma 16 (.call (.t 11) [(.t 15)])]
@[simp] theorem l48_4 : q48_4.length = 6 := rfl
instance : KR Try.f48.ntmps q48_4 := ⟨[0, 1, 5, 7, 8, 16], by kernel_rfl⟩
def q48_5 : List MO := [Ma 17 (.mv (.t 5)), Ma 4 (.mv (.t 17))]
@[simp] theorem l48_5 : q48_5.length = 2 := rfl
instance : KR Try.f48.ntmps q48_5 := ⟨[4], by kernel_rfl⟩
def q48_6 : List MO := [Ma 18 (.bin .add (.t 8) (.c (.int .i64 1))), Ma 8 (.mv (.t 18))]
@[simp] theorem l48_6 : q48_6.length = 2 := rfl
instance : KR Try.f48.ntmps q48_6 := ⟨[0, 1, 7, 8], by kernel_rfl⟩
def q48_7 : List MO := [Ma 4 (.mv (.c (.int .i64 (-1))))]
@[simp] theorem l48_7 : q48_7.length = 1 := rfl
instance : KR Try.f48.ntmps q48_7 := ⟨[4], by kernel_rfl⟩
def m48 : MCode := .seq (.reg q48_0) (.seq (.seq (.reg q48_1) (.block 0 (.loop (.seq (.reg q48_2) (.seq (.cond (.t 9) .skip (.exit 0)) (.seq (.block 1 (.seq (.reg q48_3) (.seq (.reg q48_4) (.cond (.t 16) (.seq (.reg q48_5) .ret) .skip)))) (.reg q48_6))))))) (.seq (.reg q48_7) .ret))
theorem rc48 : rcOf Try.prog Try.f48 = some m48 := by kernel_rfl
theorem rv48 : rRVs Try.prog Try.f48.results.toList = some [(.t 4)] := by kernel_rfl
theorem nm48 : (Try.f48.name == "runtime.NumGoroutine") = false := by kernel_rfl
end Go.W
