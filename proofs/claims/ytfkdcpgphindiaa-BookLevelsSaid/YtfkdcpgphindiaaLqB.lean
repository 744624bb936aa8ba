/- The resolved code of the functions, by a program. -/
import Derived.Test.YtfkdcpgphindiaaPqA
namespace Go.W
open Go.Proofs
set_option maxRecDepth 100000
def q6_0 : List MO := [Ma 2 (.box (.t 0)), Ma 4 (.alloc [(.int .i64 0), (.int .i64 0), (.int .i64 0), (.int .i64 0), (.int .i64 0), (.int .i64 0), (.int .i64 0), .nsl]), Ma 5 (.mv (.c (.bool false)))]
@[simp] theorem l6_0 : q6_0.length = 3 := rfl
instance : KR Try.f6.ntmps q6_0 := ⟨[1, 2, 4], by kernel_rfl⟩
def q6_1 : List MO := [Ma 12 (.load true 7 (.t 2)), Ma 13 (.call (.c (.fn 8 [])) [(.t 12)]), Ma 11 (.mv (.t 13)), Ma 14 (.ext (.t 11) 0), Ma 15 (.ext (.t 11) 1), Ma 6 (.alloc [(.int .i64 0), (.int .i64 0), (.int .i64 0), (.int .i64 0), (.int .i64 0), (.int .i64 0), (.int .i64 0)]), Mb (.store 7 (.t 6) (.t 14)), Ma 7 (.mv (.t 15))]
@[simp] theorem l6_1 : q6_1.length = 8 := rfl
instance : KR Try.f6.ntmps q6_1 := ⟨[1, 2, 4, 6, 7], by kernel_rfl⟩
def q6_2 : List MO := [Ma 16 (.mv (.t 7)), Ma 17 (.eq true .iface (.t 16) (.c (.raw .nilIface))), Ma 18 (.mv (.t 17)), Mg 19 (.load true 7 (.t 2)) 18 false, Mg 20 (.call (.c (.fn 22 [])) [(.t 19)]) 18 false, Mg 21 (.bin .geq (.t 20) (.c (.int .i64 0))) 18 false, Ma 22 (.pick (.t 18) (.c (.bool true)) (.t 21)), Ma 23 (.mv (.t 22)), Mg 24 (.mv (.t 1)) 23 false, Mg 25 (.len (.t 24)) 23 false, Mg 26 (.bin .gtr (.t 25) (.c (.int .i64 40))) 23 false, Ma 27 (.pick (.t 23) (.c (.bool true)) (.t 26))]
@[simp] theorem l6_2 : q6_2.length = 12 := rfl
instance : KR Try.f6.ntmps q6_2 := ⟨[1, 4, 6, 27], by kernel_rfl⟩
def q6_3 : List MO := [Ma 28 (.build [(.int .i64 0), (.int .i64 0), (.int .i64 0), (.int .i64 0), (.int .i64 0), (.int .i64 0), (.int .i64 0), .nsl] []), Mb (.store 8 (.t 4) (.t 28)), Ma 5 (.mv (.c (.bool false)))]
@[simp] theorem l6_3 : q6_3.length = 3 := rfl
instance : KR Try.f6.ntmps q6_3 := ⟨[4, 5], by kernel_rfl⟩
def q6_4 : List MO := [Ma 8 (.mv (.c .nsl))]
@[simp] theorem l6_4 : q6_4.length = 1 := rfl
instance : KR Try.f6.ntmps q6_4 := ⟨[1, 4, 6, 8], by kernel_rfl⟩
def q6_5 : List MO := [Ma 29 (.mv (.t 1)), Ma 30 (.len (.t 29)), Ma 31 (.mv (.c (.int .i64 0)))]
@[simp] theorem l6_5 : q6_5.length = 3 := rfl
instance : KR Try.f6.ntmps q6_5 := ⟨[4, 6, 8, 29, 30, 31], by kernel_rfl⟩
def q6_6 : List MO := [Ma 32 (.bin .lss (.t 31) (.t 30))]
@[simp] theorem l6_6 : q6_6.length = 1 := rfl
instance : KR Try.f6.ntmps q6_6 := ⟨[4, 6, 8, 29, 30, 31, 32], by kernel_rfl⟩
def q6_7 : List MO := [Ma 33 (.iaddr 7 (.t 29) (.t 31)), Ma 34 (.load true 7 (.t 33)), Ma 10 (.alloc [(.int .i64 0), (.int .i64 0), (.int .i64 0), (.int .i64 0), (.int .i64 0), (.int .i64 0), (.int .i64 0)]), Mb (.store 7 (.t 10) (.t 34))]
@[simp] theorem l6_7 : q6_7.length = 4 := rfl
instance : KR Try.f6.ntmps q6_7 := ⟨[4, 6, 8, 10, 29, 30, 31], by kernel_rfl⟩
def q6_8 : List MO := [Ma 35 (.faddr 1 (.t 10)), Ma 36 (.faddr 2 (.t 35)), Ma 37 (.load false 1 (.t 36)), Ma 38 (.bin .lss (.t 37) (.c (.int .i64 1))), Ma 39 (.mv (.t 38)), Mg 40 (.faddr 1 (.t 10)) 39 false, Mg 41 (.faddr 2 (.t 40)) 39 false, Mg 42 (.load false 1 (.t 41)) 39 false, Mg 43 (.bin .gtr (.t 42) (.c (.int .i64 9999))) 39 false, Ma 44 (.pick (.t 39) (.c (.bool true)) (.t 43)), Ma 45 (.mv (.t 44)), Mg 46 (.faddr 6 (.t 10)) 45 false, Mg 47 (.load false 1 (.t 46)) 45 false, Mg 48 (.bin .lss (.t 47) (.c (.int .i64 0))) 45 false, Ma 49 (.pick (.t 45) (.c (.bool true)) (.t 48)), Ma 50 (.mv (.t 49)), Mg 51 (.faddr 6 (.t 10)) 50 false, Mg 52 (.load false 1 (.t 51)) 50 false, Mg 53 (.bin .gtr (.t 52) (.c (.int .i64 9999))) 50 false, Ma 54 (.pick (.t 50) (.c (.bool true)) (.t 53))]
@[simp] theorem l6_8 : q6_8.length = 20 := rfl
instance : KR Try.f6.ntmps q6_8 := ⟨[4, 6, 8, 10, 29, 30, 31, 54], by kernel_rfl⟩
def q6_9 : List MO := [Ma 55 (.build [(.int .i64 0), (.int .i64 0), (.int .i64 0), (.int .i64 0), (.int .i64 0), (.int .i64 0), (.int .i64 0), .nsl] []), Mb (.store 8 (.t 4) (.t 55)), Ma 5 (.mv (.c (.bool false)))]
@[simp] theorem l6_9 : q6_9.length = 3 := rfl
instance : KR Try.f6.ntmps q6_9 := ⟨[4, 5], by kernel_rfl⟩
def q6_10 : List MO := [Ma 56 (.mv (.t 8)), Ma 57 (.load true 7 (.t 10)), Ma 58 (.bsl 7 1 [(.int .i64 0), (.int .i64 0), (.int .i64 0), (.int .i64 0), (.int .i64 0), (.int .i64 0), (.int .i64 0)] [(0, (7, (.t 57)))]), Ma 59 (.app 7 56 (.t 56) (.t 58)), Ma 8 (.mv (.t 59))]
@[simp] theorem l6_10 : q6_10.length = 5 := rfl
instance : KR Try.f6.ntmps q6_10 := ⟨[4, 6, 8, 29, 30, 31], by kernel_rfl⟩
def q6_11 : List MO := [Ma 60 (.bin .add (.t 31) (.c (.int .i64 1))), Ma 31 (.mv (.t 60))]
@[simp] theorem l6_11 : q6_11.length = 2 := rfl
instance : KR Try.f6.ntmps q6_11 := ⟨[4, 6, 8, 29, 30, 31], by kernel_rfl⟩
def q6_12 : List MO := [Ma 61 (.load true 7 (.t 6)), Ma 62 (.mv (.t 8)), Ma 63 (.call (.c (.fn 23 [])) [(.t 61), (.t 62)]), Mb (.store 8 (.t 4) (.t 63)), Ma 5 (.mv (.c (.bool true)))]
@[simp] theorem l6_12 : q6_12.length = 5 := rfl
instance : KR Try.f6.ntmps q6_12 := ⟨[4, 5], by kernel_rfl⟩
def m6 : MCode := .seq (.reg q6_0) (.seq (.reg q6_1) (.seq (.seq (.reg q6_2) (.cond (.t 27) (.seq (.reg q6_3) .ret) .skip)) (.seq (.reg q6_4) (.seq (.seq (.reg q6_5) (.block 0 (.loop (.seq (.reg q6_6) (.seq (.cond (.t 32) .skip (.exit 0)) (.seq (.block 1 (.seq (.reg q6_7) (.seq (.seq (.reg q6_8) (.cond (.t 54) (.seq (.reg q6_9) .ret) .skip)) (.reg q6_10)))) (.reg q6_11))))))) (.seq (.reg q6_12) .ret)))))
theorem rc6 : rcOf Try.prog Try.f6 = some m6 := by kernel_rfl
theorem rv6 : rRVs Try.prog Try.f6.results.toList = some [(.c true 8 4), (.t 5)] := by kernel_rfl
theorem nm6 : (Try.f6.name == "runtime.NumGoroutine") = false := by kernel_rfl
def q7_0 : List MO := [Ma 0 (.mv (.c (.bool false)))]
@[simp] theorem l7_0 : q7_0.length = 1 := rfl
instance : KR Try.f7.ntmps q7_0 := ⟨[], by kernel_rfl⟩
def q7_1 : List MO := [Ma 6 (.build [(.int .i64 0), (.int .i64 0), (.int .i64 0), (.int .i64 0), (.int .i64 0), (.int .i64 0), (.int .i64 0)] [(0, (1, (.c (.int .i64 2)))), (1, (1, (.c (.int .i64 1)))), (2, (1, (.c (.int .i64 1)))), (3, (1, (.c (.int .i64 1)))), (5, (1, (.c (.int .i64 1)))), (6, (1, (.c (.int .i64 1))))]), Ma 7 (.call (.c (.fn 8 [])) [(.t 6)]), Ma 5 (.mv (.t 7)), Ma 8 (.ext (.t 5) 0), Ma 9 (.ext (.t 5) 1), Ma 1 (.alloc [(.int .i64 0), (.int .i64 0), (.int .i64 0), (.int .i64 0), (.int .i64 0), (.int .i64 0), (.int .i64 0)]), Mb (.store 7 (.t 1) (.t 8)), Ma 2 (.mv (.t 9))]
@[simp] theorem l7_1 : q7_1.length = 8 := rfl
instance : KR Try.f7.ntmps q7_1 := ⟨[1, 2], by kernel_rfl⟩
def q7_2 : List MO := [Ma 10 (.build [(.int .i64 0), (.int .i64 0), (.int .i64 0), (.int .i64 0), (.int .i64 0)] [(1, (1, (.c (.int .i64 0)))), (2, (1, (.c (.int .i64 9)))), (3, (1, (.c (.int .i64 1)))), (4, (1, (.c (.int .i64 9))))]), Ma 3 (.alloc [(.int .i64 0), (.int .i64 0), (.int .i64 0), (.int .i64 0), (.int .i64 0)]), Mb (.store 5 (.t 3) (.t 10))]
@[simp] theorem l7_2 : q7_2.length = 3 := rfl
instance : KR Try.f7.ntmps q7_2 := ⟨[1, 2, 3], by kernel_rfl⟩
def q7_3 : List MO := [Ma 11 (.load true 7 (.t 1)), Ma 12 (.load true 5 (.t 3)), Ma 13 (.build [(.int .i64 0), (.int .i64 0), (.int .i64 0), (.int .i64 0), (.int .i64 0), (.int .i64 0), (.int .i64 0)] [(0, (1, (.c (.int .i64 0)))), (1, (5, (.t 12))), (6, (1, (.c (.int .i64 5))))]), Ma 14 (.load true 5 (.t 3)), Ma 15 (.build [(.int .i64 0), (.int .i64 0), (.int .i64 0), (.int .i64 0), (.int .i64 0), (.int .i64 0), (.int .i64 0)] [(0, (1, (.c (.int .i64 1)))), (1, (5, (.t 14))), (6, (1, (.c (.int .i64 3))))]), Ma 16 (.bsl 7 2 [(.int .i64 0), (.int .i64 0), (.int .i64 0), (.int .i64 0), (.int .i64 0), (.int .i64 0), (.int .i64 0)] [(0, (7, (.t 13))), (7, (7, (.t 15)))]), Ma 17 (.call (.c (.fn 23 [])) [(.t 11), (.t 16)]), Ma 18 (.call (.c (.fn 12 [])) [(.t 17), (.c (.int .i64 0)), (.c (.int .i64 0))]), Ma 4 (.mv (.t 18))]
@[simp] theorem l7_3 : q7_3.length = 9 := rfl
instance : KR Try.f7.ntmps q7_3 := ⟨[2, 4], by kernel_rfl⟩
def q7_4 : List MO := [Ma 19 (.mv (.t 2)), Ma 20 (.eq false .iface (.t 19) (.c (.raw .nilIface))), Ma 21 (.mv (.t 20)), Mg 22 (.mv (.t 4)) 21 true, Mg 23 (.len (.t 22)) 21 true, Mg 24 (.bin .eql (.t 23) (.c (.int .i64 1))) 21 true, Ma 25 (.pick (.t 21) (.t 24) (.c (.bool false))), Ma 26 (.mv (.t 25)), Mg 27 (.mv (.t 4)) 26 true, Mg 28 (.iaddr 3 (.t 27) (.c (.int .i64 0))) 26 true, Mg 29 (.load true 3 (.t 28)) 26 true, Mg 30 (.build [(.int .i64 0), (.int .i64 0), (.int .i64 0)] [(0, (1, (.c (.int .i64 9)))), (1, (1, (.c (.int .i64 8)))), (2, (1, (.c (.int .i64 2))))]) 26 true, Mg 31 (.eq false (.flat [.i, .i, .i]) (.t 29) (.t 30)) 26 true, Ma 32 (.pick (.t 26) (.t 31) (.c (.bool false))), Ma 0 (.mv (.t 32))]
@[simp] theorem l7_4 : q7_4.length = 15 := rfl
instance : KR Try.f7.ntmps q7_4 := ⟨[0], by kernel_rfl⟩
def m7 : MCode := .seq (.reg q7_0) (.seq (.reg q7_1) (.seq (.reg q7_2) (.seq (.reg q7_3) (.seq (.reg q7_4) .ret))))
theorem rc7 : rcOf Try.prog Try.f7 = some m7 := by kernel_rfl
theorem rv7 : rRVs Try.prog Try.f7.results.toList = some [(.t 0)] := by kernel_rfl
theorem nm7 : (Try.f7.name == "runtime.NumGoroutine") = false := by kernel_rfl
def q3_0 : List MO := [Ma 3 (.box (.t 0)), Ma 6 (.mv (.c (.bool false)))]
@[simp] theorem l3_0 : q3_0.length = 2 := rfl
instance : KR Try.f3.ntmps q3_0 := ⟨[1, 2, 3], by kernel_rfl⟩
def q3_1 : List MO := [Ma 26 (.load true 7 (.t 3)), Ma 27 (.mv (.t 1)), Ma 28 (.call (.c (.fn 6 [])) [(.t 26), (.t 27)]), Ma 25 (.mv (.t 28)), Ma 29 (.ext (.t 25) 0), Ma 30 (.ext (.t 25) 1), Ma 7 (.alloc [(.int .i64 0), (.int .i64 0), (.int .i64 0), (.int .i64 0), (.int .i64 0), (.int .i64 0), (.int .i64 0), .nsl]), Mb (.store 8 (.t 7) (.t 29)), Ma 8 (.mv (.t 30))]
@[simp] theorem l3_1 : q3_1.length = 9 := rfl
instance : KR Try.f3.ntmps q3_1 := ⟨[1, 2, 3, 7, 8], by kernel_rfl⟩
def q3_2 : List MO := [Ma 31 (.mv (.t 8)), Ma 32 (.un .not (.t 31)), Ma 33 (.mv (.t 32)), Mg 34 (.mv (.t 2)) 33 false, Mg 35 (.bin .neq (.t 34) (.c (.int .i64 0))) 33 false, Mg 36 (.mv (.t 35)) 33 false, Mg 37 (.mv (.t 2)) 36 true, Mg 38 (.bin .neq (.t 37) (.c (.int .i64 1))) 36 true, Mg 39 (.pick (.t 36) (.t 38) (.c (.bool false))) 33 false, Ma 40 (.pick (.t 33) (.c (.bool true)) (.t 39))]
@[simp] theorem l3_2 : q3_2.length = 10 := rfl
instance : KR Try.f3.ntmps q3_2 := ⟨[1, 2, 3, 7, 40], by kernel_rfl⟩
def q3_3 : List MO := [Ma 41 (.call (.c (.fn 7 [])) []), Ma 6 (.mv (.t 41))]
@[simp] theorem l3_3 : q3_3.length = 2 := rfl
instance : KR Try.f3.ntmps q3_3 := ⟨[6], by kernel_rfl⟩
def q3_4 : List MO := [Ma 43 (.load true 7 (.t 3)), Ma 44 (.call (.c (.fn 8 [])) [(.t 43)]), Ma 42 (.mv (.t 44)), Ma 45 (.ext (.t 42) 0), Ma 46 (.ext (.t 42) 1), Ma 9 (.alloc [(.int .i64 0), (.int .i64 0), (.int .i64 0), (.int .i64 0), (.int .i64 0), (.int .i64 0), (.int .i64 0)]), Mb (.store 7 (.t 9) (.t 45)), Ma 10 (.mv (.t 46))]
@[simp] theorem l3_4 : q3_4.length = 8 := rfl
instance : KR Try.f3.ntmps q3_4 := ⟨[1, 2, 3, 7, 9], by kernel_rfl⟩
def q3_5 : List MO := [Ma 11 (.mv (.c (.int .i64 0)))]
@[simp] theorem l3_5 : q3_5.length = 1 := rfl
instance : KR Try.f3.ntmps q3_5 := ⟨[1, 2, 3, 7, 9, 11], by kernel_rfl⟩
def q3_6 : List MO := [Ma 47 (.load true 7 (.t 9)), Ma 48 (.call (.c (.fn 9 [])) [(.t 47)]), Ma 49 (.mv (.c (.int .i64 0)))]
@[simp] theorem l3_6 : q3_6.length = 3 := rfl
instance : KR Try.f3.ntmps q3_6 := ⟨[1, 2, 3, 7, 11, 48, 49], by kernel_rfl⟩
def q3_7 : List MO := [Ma 50 (.bin .lss (.t 49) (.t 48))]
@[simp] theorem l3_7 : q3_7.length = 1 := rfl
instance : KR Try.f3.ntmps q3_7 := ⟨[1, 2, 3, 7, 11, 48, 49, 50], by kernel_rfl⟩
def q3_8 : List MO := [Ma 51 (.mv (.t 49)), Ma 12 (.mv (.t 51))]
@[simp] theorem l3_8 : q3_8.length = 2 := rfl
instance : KR Try.f3.ntmps q3_8 := ⟨[1, 2, 3, 7, 11, 12, 48, 49], by kernel_rfl⟩
def q3_9 : List MO := [Ma 52 (.mv (.t 11)), Ma 53 (.load true 8 (.t 7)), Ma 54 (.mv (.t 12)), Ma 55 (.call (.c (.fn 10 [])) [(.t 53), (.t 54)]), Ma 56 (.mv (.t 2)), Ma 57 (.idx true 2 3 (.t 55) (.t 56)), Ma 58 (.fld false 1 1 (.t 57)), Ma 59 (.bin .add (.t 52) (.t 58)), Ma 11 (.mv (.t 59))]
@[simp] theorem l3_9 : q3_9.length = 9 := rfl
instance : KR Try.f3.ntmps q3_9 := ⟨[1, 2, 3, 7, 11, 48, 49], by kernel_rfl⟩
def q3_10 : List MO := [Ma 60 (.bin .add (.t 49) (.c (.int .i64 1))), Ma 49 (.mv (.t 60))]
@[simp] theorem l3_10 : q3_10.length = 2 := rfl
instance : KR Try.f3.ntmps q3_10 := ⟨[1, 2, 3, 7, 11, 48, 49], by kernel_rfl⟩
def q3_11 : List MO := [Ma 13 (.mv (.c (.int .i64 0)))]
@[simp] theorem l3_11 : q3_11.length = 1 := rfl
instance : KR Try.f3.ntmps q3_11 := ⟨[1, 2, 3, 7, 11, 13], by kernel_rfl⟩
def q3_12 : List MO := [Ma 61 (.faddr 2 (.t 3)), Ma 62 (.load false 1 (.t 61)), Ma 63 (.mv (.c (.int .i64 0)))]
@[simp] theorem l3_12 : q3_12.length = 3 := rfl
instance : KR Try.f3.ntmps q3_12 := ⟨[1, 2, 7, 11, 13, 62, 63], by kernel_rfl⟩
def q3_13 : List MO := [Ma 64 (.bin .lss (.t 63) (.t 62))]
@[simp] theorem l3_13 : q3_13.length = 1 := rfl
instance : KR Try.f3.ntmps q3_13 := ⟨[1, 2, 7, 11, 13, 62, 63, 64], by kernel_rfl⟩
def q3_14 : List MO := [Ma 65 (.mv (.t 63)), Ma 14 (.mv (.t 65))]
@[simp] theorem l3_14 : q3_14.length = 2 := rfl
instance : KR Try.f3.ntmps q3_14 := ⟨[1, 2, 7, 11, 13, 14, 62, 63], by kernel_rfl⟩
def q3_15 : List MO := [Ma 15 (.mv (.c (.int .i64 0))), Ma 16 (.mv (.c (.int .i64 0)))]
@[simp] theorem l3_15 : q3_15.length = 2 := rfl
instance : KR Try.f3.ntmps q3_15 := ⟨[1, 2, 7, 11, 13, 14, 15, 16, 62, 63], by kernel_rfl⟩
def q3_16 : List MO := [Ma 67 (.load true 8 (.t 7)), Ma 68 (.mv (.t 14)), Ma 69 (.mv (.t 2)), Ma 70 (.call (.c (.fn 11 [])) [(.t 67), (.t 68), (.t 69)]), Ma 66 (.mv (.t 70)), Ma 71 (.ext (.t 66) 0), Ma 72 (.ext (.t 66) 1), Ma 17 (.mv (.t 71)), Ma 18 (.mv (.t 72))]
@[simp] theorem l3_16 : q3_16.length = 9 := rfl
instance : KR Try.f3.ntmps q3_16 := ⟨[1, 2, 7, 11, 13, 14, 15, 16, 17, 62, 63], by kernel_rfl⟩
def q3_17 : List MO := [Ma 73 (.load true 8 (.t 7)), Ma 74 (.mv (.t 14)), Ma 75 (.mv (.t 2)), Ma 76 (.call (.c (.fn 12 [])) [(.t 73), (.t 74), (.t 75)]), Ma 77 (.len (.t 76)), Ma 78 (.mv (.c (.int .i64 0)))]
@[simp] theorem l3_17 : q3_17.length = 6 := rfl
instance : KR Try.f3.ntmps q3_17 := ⟨[1, 2, 7, 11, 13, 14, 15, 16, 17, 62, 63, 76, 77, 78], by kernel_rfl⟩
def q3_18 : List MO := [Ma 79 (.bin .lss (.t 78) (.t 77))]
@[simp] theorem l3_18 : q3_18.length = 1 := rfl
instance : KR Try.f3.ntmps q3_18 := ⟨[1, 2, 7, 11, 13, 14, 15, 16, 17, 62, 63, 76, 77, 78, 79], by kernel_rfl⟩
def q3_19 : List MO := [Ma 80 (.iaddr 3 (.t 76) (.t 78)), Ma 81 (.load true 3 (.t 80)), Ma 20 (.alloc [(.int .i64 0), (.int .i64 0), (.int .i64 0)]), Mb (.store 3 (.t 20) (.t 81))]
@[simp] theorem l3_19 : q3_19.length = 4 := rfl
instance : KR Try.f3.ntmps q3_19 := ⟨[1, 2, 7, 11, 13, 14, 15, 16, 17, 20, 62, 63, 76, 77, 78], by kernel_rfl⟩
def q3_20 : List MO := [Ma 82 (.mv (.t 15)), Ma 83 (.faddr 1 (.t 20)), Ma 84 (.load false 1 (.t 83)), Ma 85 (.bin .add (.t 82) (.t 84)), Ma 15 (.mv (.t 85))]
@[simp] theorem l3_20 : q3_20.length = 5 := rfl
instance : KR Try.f3.ntmps q3_20 := ⟨[1, 2, 7, 11, 13, 14, 15, 16, 17, 20, 62, 63, 76, 77, 78], by kernel_rfl⟩
def q3_21 : List MO := [Ma 86 (.mv (.t 16)), Ma 87 (.faddr 2 (.t 20)), Ma 88 (.load false 1 (.t 87)), Ma 89 (.bin .add (.t 86) (.t 88)), Ma 16 (.mv (.t 89))]
@[simp] theorem l3_21 : q3_21.length = 5 := rfl
instance : KR Try.f3.ntmps q3_21 := ⟨[1, 2, 7, 11, 13, 14, 15, 16, 17, 20, 62, 63, 76, 77, 78], by kernel_rfl⟩
def q3_22 : List MO := [Ma 90 (.mv (.t 2)), Ma 91 (.bin .eql (.t 90) (.c (.int .i64 0))), Ma 92 (.mv (.t 91)), Mg 93 (.faddr 0 (.t 20)) 92 true, Mg 94 (.load false 1 (.t 93)) 92 true, Mg 95 (.mv (.t 17)) 92 true, Mg 96 (.bin .gtr (.t 94) (.t 95)) 92 true, Ma 97 (.pick (.t 92) (.t 96) (.c (.bool false))), Ma 98 (.mv (.t 97)), Mg 99 (.mv (.t 2)) 98 false, Mg 100 (.bin .eql (.t 99) (.c (.int .i64 1))) 98 false, Mg 101 (.mv (.t 100)) 98 false, Mg 102 (.faddr 0 (.t 20)) 101 true, Mg 103 (.load false 1 (.t 102)) 101 true, Mg 104 (.mv (.t 17)) 101 true, Mg 105 (.bin .lss (.t 103) (.t 104)) 101 true, Mg 106 (.pick (.t 101) (.t 105) (.c (.bool false))) 98 false, Ma 107 (.pick (.t 98) (.c (.bool true)) (.t 106))]
@[simp] theorem l3_22 : q3_22.length = 18 := rfl
instance : KR Try.f3.ntmps q3_22 := ⟨[1, 2, 7, 11, 13, 14, 15, 16, 17, 62, 63, 76, 77, 78, 107], by kernel_rfl⟩
def q3_23 : List MO := [Ma 6 (.mv (.c (.bool false)))]
@[simp] theorem l3_23 : q3_23.length = 1 := rfl
instance : KR Try.f3.ntmps q3_23 := ⟨[6], by kernel_rfl⟩
def q3_24 : List MO := [Ma 108 (.bin .add (.t 78) (.c (.int .i64 1))), Ma 78 (.mv (.t 108))]
@[simp] theorem l3_24 : q3_24.length = 2 := rfl
instance : KR Try.f3.ntmps q3_24 := ⟨[1, 2, 7, 11, 13, 14, 15, 16, 17, 62, 63, 76, 77, 78], by kernel_rfl⟩
def q3_25 : List MO := [Ma 21 (.mv (.c (.int .i64 0))), Ma 22 (.mv (.c (.int .i64 0)))]
@[simp] theorem l3_25 : q3_25.length = 2 := rfl
instance : KR Try.f3.ntmps q3_25 := ⟨[1, 2, 7, 11, 13, 14, 15, 16, 21, 22, 62, 63], by kernel_rfl⟩
def q3_26 : List MO := [Ma 109 (.mv (.t 1)), Ma 110 (.len (.t 109)), Ma 111 (.mv (.c (.int .i64 0)))]
@[simp] theorem l3_26 : q3_26.length = 3 := rfl
instance : KR Try.f3.ntmps q3_26 := ⟨[1, 2, 7, 11, 13, 14, 15, 16, 21, 22, 62, 63, 109, 110, 111], by kernel_rfl⟩
def q3_27 : List MO := [Ma 112 (.bin .lss (.t 111) (.t 110))]
@[simp] theorem l3_27 : q3_27.length = 1 := rfl
instance : KR Try.f3.ntmps q3_27 := ⟨[1, 2, 7, 11, 13, 14, 15, 16, 21, 22, 62, 63, 109, 110, 111, 112], by kernel_rfl⟩
def q3_28 : List MO := [Ma 113 (.iaddr 7 (.t 109) (.t 111)), Ma 114 (.load true 7 (.t 113)), Ma 24 (.alloc [(.int .i64 0), (.int .i64 0), (.int .i64 0), (.int .i64 0), (.int .i64 0), (.int .i64 0), (.int .i64 0)]), Mb (.store 7 (.t 24) (.t 114))]
@[simp] theorem l3_28 : q3_28.length = 4 := rfl
instance : KR Try.f3.ntmps q3_28 := ⟨[1, 2, 7, 11, 13, 14, 15, 16, 21, 22, 24, 62, 63, 109, 110, 111], by kernel_rfl⟩
def q3_29 : List MO := [Ma 115 (.faddr 1 (.t 24)), Ma 116 (.faddr 0 (.t 115)), Ma 117 (.load false 1 (.t 116)), Ma 118 (.mv (.t 14)), Ma 119 (.bin .eql (.t 117) (.t 118)), Ma 120 (.mv (.t 119)), Mg 121 (.faddr 1 (.t 24)) 120 true, Mg 122 (.faddr 1 (.t 121)) 120 true, Mg 123 (.load false 1 (.t 122)) 120 true, Mg 124 (.mv (.t 2)) 120 true, Mg 125 (.bin .eql (.t 123) (.t 124)) 120 true, Ma 126 (.pick (.t 120) (.t 125) (.c (.bool false)))]
@[simp] theorem l3_29 : q3_29.length = 12 := rfl
instance : KR Try.f3.ntmps q3_29 := ⟨[1, 2, 7, 11, 13, 14, 15, 16, 21, 22, 24, 62, 63, 109, 110, 111, 126], by kernel_rfl⟩
def q3_30 : List MO := [Ma 127 (.mv (.t 21)), Ma 128 (.faddr 6 (.t 24)), Ma 129 (.load false 1 (.t 128)), Ma 130 (.bin .add (.t 127) (.t 129)), Ma 21 (.mv (.t 130))]
@[simp] theorem l3_30 : q3_30.length = 5 := rfl
instance : KR Try.f3.ntmps q3_30 := ⟨[1, 2, 7, 11, 13, 14, 15, 16, 21, 22, 62, 63, 109, 110, 111], by kernel_rfl⟩
def q3_31 : List MO := [Ma 131 (.mv (.t 22)), Ma 132 (.bin .add (.t 131) (.c (.int .i64 1))), Ma 22 (.mv (.t 132))]
@[simp] theorem l3_31 : q3_31.length = 3 := rfl
instance : KR Try.f3.ntmps q3_31 := ⟨[1, 2, 7, 11, 13, 14, 15, 16, 21, 22, 62, 63, 109, 110, 111], by kernel_rfl⟩
def q3_32 : List MO := [Ma 133 (.bin .add (.t 111) (.c (.int .i64 1))), Ma 111 (.mv (.t 133))]
@[simp] theorem l3_32 : q3_32.length = 2 := rfl
instance : KR Try.f3.ntmps q3_32 := ⟨[1, 2, 7, 11, 13, 14, 15, 16, 21, 22, 62, 63, 109, 110, 111], by kernel_rfl⟩
def q3_33 : List MO := [Ma 134 (.mv (.t 15)), Ma 135 (.mv (.t 21)), Ma 136 (.bin .neq (.t 134) (.t 135)), Ma 137 (.mv (.t 136)), Mg 138 (.mv (.t 16)) 137 false, Mg 139 (.mv (.t 22)) 137 false, Mg 140 (.bin .neq (.t 138) (.t 139)) 137 false, Ma 141 (.pick (.t 137) (.c (.bool true)) (.t 140))]
@[simp] theorem l3_33 : q3_33.length = 8 := rfl
instance : KR Try.f3.ntmps q3_33 := ⟨[1, 2, 7, 11, 13, 21, 62, 63, 141], by kernel_rfl⟩
def q3_34 : List MO := [Ma 6 (.mv (.c (.bool false)))]
@[simp] theorem l3_34 : q3_34.length = 1 := rfl
instance : KR Try.f3.ntmps q3_34 := ⟨[6], by kernel_rfl⟩
def q3_35 : List MO := [Ma 142 (.mv (.t 13)), Ma 143 (.mv (.t 21)), Ma 144 (.bin .add (.t 142) (.t 143)), Ma 13 (.mv (.t 144))]
@[simp] theorem l3_35 : q3_35.length = 4 := rfl
instance : KR Try.f3.ntmps q3_35 := ⟨[1, 2, 7, 11, 13, 62, 63], by kernel_rfl⟩
def q3_36 : List MO := [Ma 145 (.bin .add (.t 63) (.c (.int .i64 1))), Ma 63 (.mv (.t 145))]
@[simp] theorem l3_36 : q3_36.length = 2 := rfl
instance : KR Try.f3.ntmps q3_36 := ⟨[1, 2, 7, 11, 13, 62, 63], by kernel_rfl⟩
def q3_37 : List MO := [Ma 146 (.call (.c (.fn 7 [])) []), Ma 147 (.mv (.t 146)), Mg 148 (.mv (.t 11)) 147 true, Mg 149 (.mv (.t 13)) 147 true, Mg 150 (.bin .eql (.t 148) (.t 149)) 147 true, Ma 151 (.pick (.t 147) (.t 150) (.c (.bool false))), Ma 6 (.mv (.t 151))]
@[simp] theorem l3_37 : q3_37.length = 7 := rfl
instance : KR Try.f3.ntmps q3_37 := ⟨[6], by kernel_rfl⟩
def m3 : MCode := .seq (.reg q3_0) (.seq (.reg q3_1) (.seq (.seq (.reg q3_2) (.cond (.t 40) (.seq (.reg q3_3) .ret) .skip)) (.seq (.reg q3_4) (.seq (.reg q3_5) (.seq (.seq (.reg q3_6) (.block 0 (.loop (.seq (.reg q3_7) (.seq (.cond (.t 50) .skip (.exit 0)) (.seq (.block 1 (.seq (.reg q3_8) (.reg q3_9))) (.reg q3_10))))))) (.seq (.reg q3_11) (.seq (.seq (.reg q3_12) (.block 2 (.loop (.seq (.reg q3_13) (.seq (.cond (.t 64) .skip (.exit 2)) (.seq (.block 3 (.seq (.reg q3_14) (.seq (.reg q3_15) (.seq (.reg q3_16) (.seq (.seq (.reg q3_17) (.block 4 (.loop (.seq (.reg q3_18) (.seq (.cond (.t 79) .skip (.exit 4)) (.seq (.block 5 (.seq (.reg q3_19) (.seq (.reg q3_20) (.seq (.reg q3_21) (.seq (.reg q3_22) (.cond (.t 107) (.seq (.reg q3_23) .ret) .skip)))))) (.reg q3_24))))))) (.seq (.reg q3_25) (.seq (.seq (.reg q3_26) (.block 6 (.loop (.seq (.reg q3_27) (.seq (.cond (.t 112) .skip (.exit 6)) (.seq (.block 7 (.seq (.reg q3_28) (.seq (.reg q3_29) (.cond (.t 126) (.seq (.reg q3_30) (.reg q3_31)) .skip)))) (.reg q3_32))))))) (.seq (.seq (.reg q3_33) (.cond (.t 141) (.seq (.reg q3_34) .ret) .skip)) (.reg q3_35))))))))) (.reg q3_36))))))) (.seq (.reg q3_37) .ret))))))))
theorem rc3 : rcOf Try.prog Try.f3 = some m3 := by kernel_rfl
theorem rv3 : rRVs Try.prog Try.f3.results.toList = some [(.t 6)] := by kernel_rfl
theorem nm3 : (Try.f3.name == "runtime.NumGoroutine") = false := by kernel_rfl
def q4_0 : List MO := [Ma 5 (.box (.t 0)), Ma 10 (.mv (.c (.bool false)))]
@[simp] theorem l4_0 : q4_0.length = 2 := rfl
instance : KR Try.f4.ntmps q4_0 := ⟨[1, 2, 3, 4, 5], by kernel_rfl⟩
def q4_1 : List MO := [Ma 24 (.load true 7 (.t 5)), Ma 25 (.mv (.t 1)), Ma 26 (.call (.c (.fn 6 [])) [(.t 24), (.t 25)]), Ma 23 (.mv (.t 26)), Ma 27 (.ext (.t 23) 0), Ma 28 (.ext (.t 23) 1), Ma 11 (.alloc [(.int .i64 0), (.int .i64 0), (.int .i64 0), (.int .i64 0), (.int .i64 0), (.int .i64 0), (.int .i64 0), .nsl]), Mb (.store 8 (.t 11) (.t 27)), Ma 12 (.mv (.t 28))]
@[simp] theorem l4_1 : q4_1.length = 9 := rfl
instance : KR Try.f4.ntmps q4_1 := ⟨[1, 2, 3, 4, 5, 11, 12], by kernel_rfl⟩
def q4_2 : List MO := [Ma 29 (.mv (.t 12)), Ma 30 (.un .not (.t 29)), Ma 31 (.mv (.t 30)), Mg 32 (.mv (.t 3)) 31 false, Mg 33 (.bin .neq (.t 32) (.c (.int .i64 0))) 31 false, Mg 34 (.mv (.t 33)) 31 false, Mg 35 (.mv (.t 3)) 34 true, Mg 36 (.bin .neq (.t 35) (.c (.int .i64 1))) 34 true, Mg 37 (.pick (.t 34) (.t 36) (.c (.bool false))) 31 false, Ma 38 (.pick (.t 31) (.c (.bool true)) (.t 37))]
@[simp] theorem l4_2 : q4_2.length = 10 := rfl
instance : KR Try.f4.ntmps q4_2 := ⟨[1, 2, 3, 4, 5, 11, 38], by kernel_rfl⟩
def q4_3 : List MO := [Ma 39 (.call (.c (.fn 7 [])) []), Ma 10 (.mv (.t 39))]
@[simp] theorem l4_3 : q4_3.length = 2 := rfl
instance : KR Try.f4.ntmps q4_3 := ⟨[10], by kernel_rfl⟩
def q4_4 : List MO := [Ma 40 (.load true 8 (.t 11)), Ma 41 (.mv (.t 2)), Ma 42 (.mv (.t 3)), Ma 43 (.call (.c (.fn 12 [])) [(.t 40), (.t 41), (.t 42)]), Ma 44 (.mv (.t 1)), Ma 45 (.mv (.t 2)), Ma 46 (.mv (.t 3)), Ma 47 (.call (.c (.fn 13 [])) [(.t 44), (.t 45), (.t 46)]), Ma 13 (.mv (.t 43)), Ma 14 (.mv (.t 47))]
@[simp] theorem l4_4 : q4_4.length = 10 := rfl
instance : KR Try.f4.ntmps q4_4 := ⟨[1, 2, 3, 4, 5, 11, 13, 14], by kernel_rfl⟩
def q4_5 : List MO := [Ma 48 (.mv (.t 13)), Ma 49 (.len (.t 48)), Ma 50 (.mv (.t 14)), Ma 51 (.len (.t 50)), Ma 52 (.bin .neq (.t 49) (.t 51))]
@[simp] theorem l4_5 : q4_5.length = 5 := rfl
instance : KR Try.f4.ntmps q4_5 := ⟨[1, 2, 3, 4, 5, 11, 13, 14, 52], by kernel_rfl⟩
def q4_6 : List MO := [Ma 10 (.mv (.c (.bool false)))]
@[simp] theorem l4_6 : q4_6.length = 1 := rfl
instance : KR Try.f4.ntmps q4_6 := ⟨[10], by kernel_rfl⟩
def q4_7 : List MO := [Ma 53 (.mv (.t 13)), Ma 54 (.len (.t 53)), Ma 55 (.mv (.c (.int .i64 0)))]
@[simp] theorem l4_7 : q4_7.length = 3 := rfl
instance : KR Try.f4.ntmps q4_7 := ⟨[1, 2, 3, 4, 5, 11, 13, 14, 54, 55], by kernel_rfl⟩
def q4_8 : List MO := [Ma 56 (.bin .lss (.t 55) (.t 54))]
@[simp] theorem l4_8 : q4_8.length = 1 := rfl
instance : KR Try.f4.ntmps q4_8 := ⟨[1, 2, 3, 4, 5, 11, 13, 14, 54, 55, 56], by kernel_rfl⟩
def q4_9 : List MO := [Ma 57 (.mv (.t 55)), Ma 15 (.mv (.t 57))]
@[simp] theorem l4_9 : q4_9.length = 2 := rfl
instance : KR Try.f4.ntmps q4_9 := ⟨[1, 2, 3, 4, 5, 11, 13, 14, 15, 54, 55], by kernel_rfl⟩
def q4_10 : List MO := [Ma 58 (.mv (.t 13)), Ma 59 (.mv (.t 15)), Ma 60 (.iaddr 3 (.t 58) (.t 59)), Ma 61 (.load true 3 (.t 60)), Ma 62 (.mv (.t 14)), Ma 63 (.mv (.t 15)), Ma 64 (.iaddr 3 (.t 62) (.t 63)), Ma 65 (.load true 3 (.t 64)), Ma 66 (.eq true (.flat [.i, .i, .i]) (.t 61) (.t 65))]
@[simp] theorem l4_10 : q4_10.length = 9 := rfl
def p4_10 : List (List Nat) := [[], [], [0, 1], [2], [], [], [4, 5], [6], [3, 7]]
instance : KD Try.f4.ntmps q4_10 p4_10 := ⟨[[], [], [0, 1], [0, 1, 2], [], [], [4, 5], [4, 5, 6], [0, 1, 2, 3, 4, 5, 6, 7]], [1, 2, 3, 4, 5, 11, 13, 14, 54, 55, 66], by kernel_rfl⟩
def q4_11 : List MO := [Ma 10 (.mv (.c (.bool false)))]
@[simp] theorem l4_11 : q4_11.length = 1 := rfl
instance : KR Try.f4.ntmps q4_11 := ⟨[10], by kernel_rfl⟩
def q4_12 : List MO := [Ma 67 (.bin .add (.t 55) (.c (.int .i64 1))), Ma 55 (.mv (.t 67))]
@[simp] theorem l4_12 : q4_12.length = 2 := rfl
instance : KR Try.f4.ntmps q4_12 := ⟨[1, 2, 3, 4, 5, 11, 13, 14, 54, 55], by kernel_rfl⟩
def q4_13 : List MO := [Ma 69 (.load true 8 (.t 11)), Ma 70 (.mv (.t 2)), Ma 71 (.mv (.t 3)), Ma 72 (.call (.c (.fn 11 [])) [(.t 69), (.t 70), (.t 71)]), Ma 68 (.mv (.t 72)), Ma 73 (.ext (.t 68) 0), Ma 74 (.ext (.t 68) 1), Ma 16 (.mv (.t 73)), Ma 17 (.mv (.t 74))]
@[simp] theorem l4_13 : q4_13.length = 9 := rfl
instance : KR Try.f4.ntmps q4_13 := ⟨[1, 2, 3, 4, 5, 11, 14, 16, 17], by kernel_rfl⟩
def q4_14 : List MO := [Ma 75 (.mv (.t 17)), Ma 76 (.mv (.t 14)), Ma 77 (.len (.t 76)), Ma 78 (.bin .gtr (.t 77) (.c (.int .i64 0))), Ma 79 (.eq true .bool (.t 75) (.t 78)), Ma 80 (.mv (.t 79)), Mg 81 (.mv (.t 17)) 80 false, Mg 82 (.mv (.t 81)) 80 false, Mg 83 (.mv (.t 16)) 82 true, Mg 84 (.mv (.t 14)) 82 true, Mg 85 (.iaddr 3 (.t 84) (.c (.int .i64 0))) 82 true, Mg 86 (.faddr 0 (.t 85)) 82 true, Mg 87 (.load false 1 (.t 86)) 82 true, Mg 88 (.bin .neq (.t 83) (.t 87)) 82 true, Mg 89 (.pick (.t 82) (.t 88) (.c (.bool false))) 80 false, Ma 90 (.pick (.t 80) (.c (.bool true)) (.t 89)), Ma 91 (.mv (.t 90)), Mg 92 (.mv (.t 17)) 91 false, Mg 93 (.un .not (.t 92)) 91 false, Mg 94 (.mv (.t 93)) 91 false, Mg 95 (.mv (.t 16)) 94 true, Mg 96 (.bin .neq (.t 95) (.c (.int .i64 0))) 94 true, Mg 97 (.pick (.t 94) (.t 96) (.c (.bool false))) 91 false, Ma 98 (.pick (.t 91) (.c (.bool true)) (.t 97))]
@[simp] theorem l4_14 : q4_14.length = 24 := rfl
instance : KR Try.f4.ntmps q4_14 := ⟨[1, 2, 3, 4, 5, 11, 14, 98], by kernel_rfl⟩
def q4_15 : List MO := [Ma 10 (.mv (.c (.bool false)))]
@[simp] theorem l4_15 : q4_15.length = 1 := rfl
instance : KR Try.f4.ntmps q4_15 := ⟨[10], by kernel_rfl⟩
def q4_16 : List MO := [Ma 99 (.mv (.t 1)), Ma 100 (.mv (.t 2)), Ma 101 (.mv (.t 3)), Ma 102 (.bin .sub (.c (.int .i64 1)) (.t 101)), Ma 103 (.call (.c (.fn 13 [])) [(.t 99), (.t 100), (.t 102)]), Ma 18 (.mv (.t 103))]
@[simp] theorem l4_16 : q4_16.length = 6 := rfl
instance : KR Try.f4.ntmps q4_16 := ⟨[1, 2, 3, 4, 5, 11, 14, 18], by kernel_rfl⟩
def q4_17 : List MO := [Ma 19 (.mv (.c (.int .i64 0)))]
@[simp] theorem l4_17 : q4_17.length = 1 := rfl
instance : KR Try.f4.ntmps q4_17 := ⟨[1, 2, 3, 4, 5, 11, 14, 18, 19], by kernel_rfl⟩
def q4_18 : List MO := [Ma 104 (.mv (.t 14)), Ma 105 (.len (.t 104)), Ma 106 (.bin .gtr (.t 105) (.c (.int .i64 0))), Ma 107 (.mv (.t 106)), Mg 108 (.mv (.t 18)) 107 true, Mg 109 (.len (.t 108)) 107 true, Mg 110 (.bin .gtr (.t 109) (.c (.int .i64 0))) 107 true, Ma 111 (.pick (.t 107) (.t 110) (.c (.bool false)))]
@[simp] theorem l4_18 : q4_18.length = 8 := rfl
instance : KR Try.f4.ntmps q4_18 := ⟨[1, 2, 3, 4, 5, 11, 14, 18, 19, 111], by kernel_rfl⟩
def q4_19 : List MO := [Ma 112 (.mv (.t 18)), Ma 113 (.iaddr 3 (.t 112) (.c (.int .i64 0))), Ma 114 (.faddr 0 (.t 113)), Ma 115 (.load false 1 (.t 114)), Ma 116 (.mv (.t 14)), Ma 117 (.iaddr 3 (.t 116) (.c (.int .i64 0))), Ma 118 (.faddr 0 (.t 117)), Ma 119 (.load false 1 (.t 118)), Ma 120 (.bin .sub (.t 115) (.t 119)), Ma 19 (.mv (.t 120))]
@[simp] theorem l4_19 : q4_19.length = 10 := rfl
def p4_19 : List (List Nat) := [[], [0], [1], [2], [], [4], [5], [6], [3, 7], [8, 0, 1, 2, 3, 4, 5, 6, 7, 8]]
instance : KD Try.f4.ntmps q4_19 p4_19 := ⟨[[], [0], [0, 1], [0, 1, 2], [], [4], [4, 5], [4, 5, 6], [0, 1, 2, 3, 4, 5, 6, 7], [0, 1, 2, 3, 4, 5, 6, 7, 8]], [1, 2, 3, 4, 5, 11, 14, 18, 19], by kernel_rfl⟩
def q4_20 : List MO := [Ma 121 (.mv (.t 3)), Ma 122 (.bin .eql (.t 121) (.c (.int .i64 1)))]
@[simp] theorem l4_20 : q4_20.length = 2 := rfl
instance : KR Try.f4.ntmps q4_20 := ⟨[1, 2, 4, 5, 11, 14, 18, 19, 122], by kernel_rfl⟩
def q4_21 : List MO := [Ma 123 (.mv (.t 19)), Ma 124 (.un .neg (.t 123)), Ma 19 (.mv (.t 124))]
@[simp] theorem l4_21 : q4_21.length = 3 := rfl
instance : KR Try.f4.ntmps q4_21 := ⟨[1, 2, 4, 5, 11, 14, 18, 19], by kernel_rfl⟩
def q4_22 : List MO := [Ma 126 (.load true 8 (.t 11)), Ma 127 (.mv (.t 2)), Ma 128 (.call (.c (.fn 14 [])) [(.t 126), (.t 127)]), Ma 125 (.mv (.t 128)), Ma 129 (.ext (.t 125) 0), Ma 130 (.ext (.t 125) 1), Ma 20 (.mv (.t 129)), Ma 21 (.mv (.t 130))]
@[simp] theorem l4_22 : q4_22.length = 8 := rfl
instance : KR Try.f4.ntmps q4_22 := ⟨[1, 4, 5, 11, 14, 18, 19, 20, 21], by kernel_rfl⟩
def q4_23 : List MO := [Ma 131 (.load true 8 (.t 11)), Ma 132 (.mv (.t 4)), Ma 133 (.call (.c (.fn 10 [])) [(.t 131), (.t 132)]), Ma 22 (.alloc [(.int .i64 0), (.int .i64 0), (.int .i64 0), (.int .i64 0), (.int .i64 0), (.int .i64 0)]), Mb (.store 6 (.t 22) (.t 133))]
@[simp] theorem l4_23 : q4_23.length = 5 := rfl
instance : KR Try.f4.ntmps q4_23 := ⟨[1, 4, 5, 14, 18, 19, 20, 21, 22], by kernel_rfl⟩
def q4_24 : List MO := [Ma 134 (.call (.c (.fn 7 [])) []), Ma 135 (.mv (.t 134)), Mg 136 (.mv (.t 20)) 135 true, Mg 137 (.mv (.t 19)) 135 true, Mg 138 (.bin .eql (.t 136) (.t 137)) 135 true, Ma 139 (.pick (.t 135) (.t 138) (.c (.bool false))), Ma 140 (.mv (.t 139)), Mg 141 (.mv (.t 21)) 140 true, Mg 142 (.mv (.t 14)) 140 true, Mg 143 (.len (.t 142)) 140 true, Mg 144 (.bin .gtr (.t 143) (.c (.int .i64 0))) 140 true, Mg 145 (.mv (.t 144)) 140 true, Mg 146 (.mv (.t 18)) 145 true, Mg 147 (.len (.t 146)) 145 true, Mg 148 (.bin .gtr (.t 147) (.c (.int .i64 0))) 145 true, Mg 149 (.pick (.t 145) (.t 148) (.c (.bool false))) 140 true, Mg 150 (.eq false .bool (.t 141) (.t 149)) 140 true, Ma 151 (.pick (.t 140) (.t 150) (.c (.bool false))), Ma 152 (.mv (.t 151)), Mg 153 (.paddr 2 3 (.t 22) (.c (.int .i64 0))) 152 true, Mg 154 (.load true 3 (.t 153)) 152 true, Mg 155 (.load true 7 (.t 5)) 152 true, Mg 156 (.mv (.t 1)) 152 true, Mg 157 (.mv (.t 4)) 152 true, Mg 158 (.call (.c (.fn 15 [])) [(.t 155), (.t 156), (.t 157), (.c (.int .i64 0))]) 152 true, Mg 159 (.eq false (.flat [.i, .i, .i]) (.t 154) (.t 158)) 152 true, Ma 160 (.pick (.t 152) (.t 159) (.c (.bool false))), Ma 161 (.mv (.t 160)), Mg 162 (.paddr 2 3 (.t 22) (.c (.int .i64 1))) 161 true, Mg 163 (.load true 3 (.t 162)) 161 true, Mg 164 (.load true 7 (.t 5)) 161 true, Mg 165 (.mv (.t 1)) 161 true, Mg 166 (.mv (.t 4)) 161 true, Mg 167 (.call (.c (.fn 15 [])) [(.t 164), (.t 165), (.t 166), (.c (.int .i64 1))]) 161 true, Mg 168 (.eq false (.flat [.i, .i, .i]) (.t 163) (.t 167)) 161 true, Ma 169 (.pick (.t 161) (.t 168) (.c (.bool false))), Ma 10 (.mv (.t 169))]
@[simp] theorem l4_24 : q4_24.length = 37 := rfl
def p4_24 : List (List Nat) := [[], [0, 0], [1], [1], [2, 3, 1], [1, 4], [5, 1], [6], [6], [8, 6], [9, 6], [10, 6, 6], [11], [12, 11], [13, 11], [11, 14, 6], [7, 15, 6], [6, 16], [17, 11], [18], [19, 18], [18], [18], [18], [21, 22, 23, 18, 18], [20, 24, 18], [18, 25], [26, 24], [27], [28, 27], [27], [27], [27], [30, 31, 32, 27, 27], [29, 33, 27], [27, 34], [35, 33, 0, 1, 2, 3, 4, 5, 6, 7, 8, 9, 10, 11, 12, 13, 14, 15, 16, 17, 18, 19, 20, 21, 22, 23, 24, 25, 26, 27, 28, 29, 30, 31, 32, 33, 34, 35]]
instance : KD Try.f4.ntmps q4_24 p4_24 := ⟨[[], [0], [0, 1], [0, 1], [0, 1, 2, 3], [0, 1, 2, 3, 4], [0, 1, 2, 3, 4, 5], [0, 1, 2, 3, 4, 5, 6], [0, 1, 2, 3, 4, 5, 6], [0, 1, 2, 3, 4, 5, 6, 8], [0, 1, 2, 3, 4, 5, 6, 8, 9], [0, 1, 2, 3, 4, 5, 6, 8, 9, 10], [0, 1, 2, 3, 4, 5, 6, 8, 9, 10, 11], [0, 1, 2, 3, 4, 5, 6, 8, 9, 10, 11, 12], [0, 1, 2, 3, 4, 5, 6, 8, 9, 10, 11, 12, 13], [0, 1, 2, 3, 4, 5, 6, 8, 9, 10, 11, 12, 13, 14], [0, 1, 2, 3, 4, 5, 6, 7, 8, 9, 10, 11, 12, 13, 14, 15], [0, 1, 2, 3, 4, 5, 6, 7, 8, 9, 10, 11, 12, 13, 14, 15, 16], [0, 1, 2, 3, 4, 5, 6, 7, 8, 9, 10, 11, 12, 13, 14, 15, 16, 17], [0, 1, 2, 3, 4, 5, 6, 7, 8, 9, 10, 11, 12, 13, 14, 15, 16, 17, 18], [0, 1, 2, 3, 4, 5, 6, 7, 8, 9, 10, 11, 12, 13, 14, 15, 16, 17, 18, 19], [0, 1, 2, 3, 4, 5, 6, 7, 8, 9, 10, 11, 12, 13, 14, 15, 16, 17, 18], [0, 1, 2, 3, 4, 5, 6, 7, 8, 9, 10, 11, 12, 13, 14, 15, 16, 17, 18], [0, 1, 2, 3, 4, 5, 6, 7, 8, 9, 10, 11, 12, 13, 14, 15, 16, 17, 18], [0, 1, 2, 3, 4, 5, 6, 7, 8, 9, 10, 11, 12, 13, 14, 15, 16, 17, 18, 21, 22, 23], [0, 1, 2, 3, 4, 5, 6, 7, 8, 9, 10, 11, 12, 13, 14, 15, 16, 17, 18, 19, 20, 21, 22, 23, 24], [0, 1, 2, 3, 4, 5, 6, 7, 8, 9, 10, 11, 12, 13, 14, 15, 16, 17, 18, 19, 20, 21, 22, 23, 24, 25], [0, 1, 2, 3, 4, 5, 6, 7, 8, 9, 10, 11, 12, 13, 14, 15, 16, 17, 18, 19, 20, 21, 22, 23, 24, 25, 26], [0, 1, 2, 3, 4, 5, 6, 7, 8, 9, 10, 11, 12, 13, 14, 15, 16, 17, 18, 19, 20, 21, 22, 23, 24, 25, 26, 27], [0, 1, 2, 3, 4, 5, 6, 7, 8, 9, 10, 11, 12, 13, 14, 15, 16, 17, 18, 19, 20, 21, 22, 23, 24, 25, 26, 27, 28], [0, 1, 2, 3, 4, 5, 6, 7, 8, 9, 10, 11, 12, 13, 14, 15, 16, 17, 18, 19, 20, 21, 22, 23, 24, 25, 26, 27], [0, 1, 2, 3, 4, 5, 6, 7, 8, 9, 10, 11, 12, 13, 14, 15, 16, 17, 18, 19, 20, 21, 22, 23, 24, 25, 26, 27], [0, 1, 2, 3, 4, 5, 6, 7, 8, 9, 10, 11, 12, 13, 14, 15, 16, 17, 18, 19, 20, 21, 22, 23, 24, 25, 26, 27], [0, 1, 2, 3, 4, 5, 6, 7, 8, 9, 10, 11, 12, 13, 14, 15, 16, 17, 18, 19, 20, 21, 22, 23, 24, 25, 26, 27, 30, 31, 32], [0, 1, 2, 3, 4, 5, 6, 7, 8, 9, 10, 11, 12, 13, 14, 15, 16, 17, 18, 19, 20, 21, 22, 23, 24, 25, 26, 27, 28, 29, 30, 31, 32, 33], [0, 1, 2, 3, 4, 5, 6, 7, 8, 9, 10, 11, 12, 13, 14, 15, 16, 17, 18, 19, 20, 21, 22, 23, 24, 25, 26, 27, 28, 29, 30, 31, 32, 33, 34], [0, 1, 2, 3, 4, 5, 6, 7, 8, 9, 10, 11, 12, 13, 14, 15, 16, 17, 18, 19, 20, 21, 22, 23, 24, 25, 26, 27, 28, 29, 30, 31, 32, 33, 34, 35]], [10], by kernel_rfl⟩
def m4 : MCode := .seq (.reg q4_0) (.seq (.reg q4_1) (.seq (.seq (.reg q4_2) (.cond (.t 38) (.seq (.reg q4_3) .ret) .skip)) (.seq (.reg q4_4) (.seq (.seq (.reg q4_5) (.cond (.t 52) (.seq (.reg q4_6) .ret) .skip)) (.seq (.seq (.reg q4_7) (.block 0 (.loop (.seq (.reg q4_8) (.seq (.cond (.t 56) .skip (.exit 0)) (.seq (.block 1 (.seq (.reg q4_9) (.seq (.draw q4_10 p4_10) (.cond (.t 66) (.seq (.reg q4_11) .ret) .skip)))) (.reg q4_12))))))) (.seq (.reg q4_13) (.seq (.seq (.reg q4_14) (.cond (.t 98) (.seq (.reg q4_15) .ret) .skip)) (.seq (.reg q4_16) (.seq (.reg q4_17) (.seq (.seq (.reg q4_18) (.cond (.t 111) (.seq (.draw q4_19 p4_19) (.seq (.reg q4_20) (.cond (.t 122) (.reg q4_21) .skip))) .skip)) (.seq (.reg q4_22) (.seq (.reg q4_23) (.seq (.draw q4_24 p4_24) .ret)))))))))))))
theorem rc4 : rcOf Try.prog Try.f4 = some m4 := by kernel_rfl
theorem rv4 : rRVs Try.prog Try.f4.results.toList = some [(.t 10)] := by kernel_rfl
theorem nm4 : (Try.f4.name == "runtime.NumGoroutine") = false := by kernel_rfl
def q5_0 : List MO := [Ma 5 (.box (.t 0)), Ma 7 (.box (.t 2)), Ma 10 (.mv (.c (.bool false)))]
@[simp] theorem l5_0 : q5_0.length = 3 := rfl
instance : KR Try.f5.ntmps q5_0 := ⟨[1, 3, 4, 5, 7], by kernel_rfl⟩
def q5_1 : List MO := [Ma 22 (.load true 7 (.t 5)), Ma 23 (.mv (.t 1)), Ma 24 (.call (.c (.fn 6 [])) [(.t 22), (.t 23)]), Ma 21 (.mv (.t 24)), Ma 25 (.ext (.t 21) 0), Ma 26 (.ext (.t 21) 1), Ma 11 (.alloc [(.int .i64 0), (.int .i64 0), (.int .i64 0), (.int .i64 0), (.int .i64 0), (.int .i64 0), (.int .i64 0), .nsl]), Mb (.store 8 (.t 11) (.t 25)), Ma 12 (.mv (.t 26))]
@[simp] theorem l5_1 : q5_1.length = 9 := rfl
instance : KR Try.f5.ntmps q5_1 := ⟨[1, 3, 4, 5, 7, 11, 12], by kernel_rfl⟩
def q5_2 : List MO := [Ma 27 (.mv (.t 12)), Ma 28 (.un .not (.t 27)), Ma 29 (.mv (.t 28)), Mg 30 (.faddr 1 (.t 7)) 29 false, Mg 31 (.faddr 2 (.t 30)) 29 false, Mg 32 (.load false 1 (.t 31)) 29 false, Mg 33 (.bin .lss (.t 32) (.c (.int .i64 1))) 29 false, Ma 34 (.pick (.t 29) (.c (.bool true)) (.t 33)), Ma 35 (.mv (.t 34)), Mg 36 (.faddr 1 (.t 7)) 35 false, Mg 37 (.faddr 2 (.t 36)) 35 false, Mg 38 (.load false 1 (.t 37)) 35 false, Mg 39 (.bin .gtr (.t 38) (.c (.int .i64 9999))) 35 false, Ma 40 (.pick (.t 35) (.c (.bool true)) (.t 39)), Ma 41 (.mv (.t 40)), Mg 42 (.faddr 6 (.t 7)) 41 false, Mg 43 (.load false 1 (.t 42)) 41 false, Mg 44 (.bin .gtr (.t 43) (.c (.int .i64 9999))) 41 false, Ma 45 (.pick (.t 41) (.c (.bool true)) (.t 44))]
@[simp] theorem l5_2 : q5_2.length = 19 := rfl
instance : KR Try.f5.ntmps q5_2 := ⟨[1, 3, 4, 5, 7, 11, 45], by kernel_rfl⟩
def q5_3 : List MO := [Ma 46 (.call (.c (.fn 7 [])) []), Ma 10 (.mv (.t 46))]
@[simp] theorem l5_3 : q5_3.length = 2 := rfl
instance : KR Try.f5.ntmps q5_3 := ⟨[10], by kernel_rfl⟩
def q5_4 : List MO := [Ma 48 (.load true 8 (.t 11)), Ma 49 (.mv (.t 3)), Ma 50 (.call (.c (.fn 16 [])) [(.t 48), (.t 49)]), Ma 47 (.mv (.t 50)), Ma 51 (.ext (.t 47) 0), Ma 52 (.ext (.t 47) 1), Ma 13 (.mv (.t 51)), Ma 14 (.mv (.t 52))]
@[simp] theorem l5_4 : q5_4.length = 8 := rfl
instance : KR Try.f5.ntmps q5_4 := ⟨[1, 3, 4, 5, 7, 11, 13, 14], by kernel_rfl⟩
def q5_5 : List MO := [Ma 54 (.mv (.t 1)), Ma 55 (.mv (.t 3)), Ma 56 (.call (.c (.fn 17 [])) [(.t 54), (.t 55)]), Ma 53 (.mv (.t 56)), Ma 57 (.ext (.t 53) 0), Ma 58 (.ext (.t 53) 1), Ma 15 (.mv (.t 57)), Ma 16 (.mv (.t 58))]
@[simp] theorem l5_5 : q5_5.length = 8 := rfl
instance : KR Try.f5.ntmps q5_5 := ⟨[1, 4, 5, 7, 11, 13, 14, 15, 16], by kernel_rfl⟩
def q5_6 : List MO := [Ma 59 (.mv (.t 13)), Ma 60 (.mv (.t 15)), Ma 61 (.bin .neq (.t 59) (.t 60)), Ma 62 (.mv (.t 61)), Mg 63 (.mv (.t 14)) 62 false, Mg 64 (.mv (.t 16)) 62 false, Mg 65 (.bin .neq (.t 63) (.t 64)) 62 false, Ma 66 (.pick (.t 62) (.c (.bool true)) (.t 65)), Ma 67 (.mv (.t 66)), Mg 68 (.load true 8 (.t 11)) 67 false, Mg 69 (.load true 7 (.t 7)) 67 false, Mg 70 (.call (.c (.fn 18 [])) [(.t 68), (.t 69)]) 67 false, Mg 71 (.load true 7 (.t 5)) 67 false, Mg 72 (.mv (.t 1)) 67 false, Mg 73 (.load true 7 (.t 7)) 67 false, Mg 74 (.call (.c (.fn 19 [])) [(.t 71), (.t 72), (.t 73)]) 67 false, Mg 75 (.bin .neq (.t 70) (.t 74)) 67 false, Ma 76 (.pick (.t 67) (.c (.bool true)) (.t 75))]
@[simp] theorem l5_6 : q5_6.length = 18 := rfl
def p5_6 : List (List Nat) := [[], [], [0, 1], [2], [3], [3], [4, 5, 3], [3, 6], [7, 3], [8], [8], [9, 10, 8, 8], [8], [8], [8], [12, 13, 14, 11, 8], [11, 15, 8], [8, 16]]
instance : KD Try.f5.ntmps q5_6 p5_6 := ⟨[[], [], [0, 1], [0, 1, 2], [0, 1, 2, 3], [0, 1, 2, 3], [0, 1, 2, 3, 4, 5], [0, 1, 2, 3, 4, 5, 6], [0, 1, 2, 3, 4, 5, 6, 7], [0, 1, 2, 3, 4, 5, 6, 7, 8], [0, 1, 2, 3, 4, 5, 6, 7, 8], [0, 1, 2, 3, 4, 5, 6, 7, 8, 9, 10], [0, 1, 2, 3, 4, 5, 6, 7, 8], [0, 1, 2, 3, 4, 5, 6, 7, 8], [0, 1, 2, 3, 4, 5, 6, 7, 8], [0, 1, 2, 3, 4, 5, 6, 7, 8, 9, 10, 11, 12, 13, 14], [0, 1, 2, 3, 4, 5, 6, 7, 8, 9, 10, 11, 12, 13, 14, 15], [0, 1, 2, 3, 4, 5, 6, 7, 8, 9, 10, 11, 12, 13, 14, 15, 16]], [1, 4, 5, 11, 76], by kernel_rfl⟩
def q5_7 : List MO := [Ma 10 (.mv (.c (.bool false)))]
@[simp] theorem l5_7 : q5_7.length = 1 := rfl
instance : KR Try.f5.ntmps q5_7 := ⟨[10], by kernel_rfl⟩
def q5_8 : List MO := [Ma 17 (.mv (.c (.int .i64 0)))]
@[simp] theorem l5_8 : q5_8.length = 1 := rfl
instance : KR Try.f5.ntmps q5_8 := ⟨[1, 4, 5, 11, 17], by kernel_rfl⟩
def q5_9 : List MO := [Ma 77 (.load true 8 (.t 11)), Ma 78 (.mv (.t 4)), Ma 79 (.call (.c (.fn 20 [])) [(.t 77), (.t 78)]), Ma 18 (.mv (.t 79))]
@[simp] theorem l5_9 : q5_9.length = 4 := rfl
instance : KR Try.f5.ntmps q5_9 := ⟨[1, 4, 5, 11, 17, 18], by kernel_rfl⟩
def q5_10 : List MO := [Ma 80 (.mv (.t 1)), Ma 81 (.len (.t 80)), Ma 82 (.mv (.c (.int .i64 0)))]
@[simp] theorem l5_10 : q5_10.length = 3 := rfl
instance : KR Try.f5.ntmps q5_10 := ⟨[1, 4, 5, 11, 17, 18, 80, 81, 82], by kernel_rfl⟩
def q5_11 : List MO := [Ma 83 (.bin .lss (.t 82) (.t 81))]
@[simp] theorem l5_11 : q5_11.length = 1 := rfl
instance : KR Try.f5.ntmps q5_11 := ⟨[1, 4, 5, 11, 17, 18, 80, 81, 82, 83], by kernel_rfl⟩
def q5_12 : List MO := [Ma 84 (.iaddr 7 (.t 80) (.t 82)), Ma 85 (.load true 7 (.t 84)), Ma 20 (.alloc [(.int .i64 0), (.int .i64 0), (.int .i64 0), (.int .i64 0), (.int .i64 0), (.int .i64 0), (.int .i64 0)]), Mb (.store 7 (.t 20) (.t 85))]
@[simp] theorem l5_12 : q5_12.length = 4 := rfl
instance : KR Try.f5.ntmps q5_12 := ⟨[1, 4, 5, 11, 17, 18, 20, 80, 81, 82], by kernel_rfl⟩
def q5_13 : List MO := [Ma 86 (.faddr 0 (.t 20)), Ma 87 (.load false 1 (.t 86)), Ma 88 (.bin .lss (.t 87) (.c (.int .i64 0))), Ma 89 (.mv (.t 88)), Mg 90 (.faddr 0 (.t 20)) 89 false, Mg 91 (.load false 1 (.t 90)) 89 false, Mg 92 (.faddr 0 (.t 5)) 89 false, Mg 93 (.load false 1 (.t 92)) 89 false, Mg 94 (.faddr 1 (.t 5)) 89 false, Mg 95 (.load false 1 (.t 94)) 89 false, Mg 96 (.bin .mul (.t 93) (.t 95)) 89 false, Mg 97 (.bin .geq (.t 91) (.t 96)) 89 false, Ma 98 (.pick (.t 89) (.c (.bool true)) (.t 97))]
@[simp] theorem l5_13 : q5_13.length = 13 := rfl
instance : KR Try.f5.ntmps q5_13 := ⟨[1, 4, 5, 11, 17, 18, 20, 80, 81, 82, 98], by kernel_rfl⟩
def q5_14 : List MO := [Ma 99 (.mv (.t 4)), Ma 100 (.bin .eql (.t 99) (.c (.int .i64 (-1))))]
@[simp] theorem l5_14 : q5_14.length = 2 := rfl
instance : KR Try.f5.ntmps q5_14 := ⟨[1, 4, 5, 11, 17, 18, 80, 81, 82, 100], by kernel_rfl⟩
def q5_15 : List MO := [Ma 101 (.mv (.t 17)), Ma 102 (.bin .add (.t 101) (.c (.int .i64 1))), Ma 17 (.mv (.t 102))]
@[simp] theorem l5_15 : q5_15.length = 3 := rfl
instance : KR Try.f5.ntmps q5_15 := ⟨[1, 4, 5, 11, 17, 18, 80, 81, 82], by kernel_rfl⟩
def q5_16 : List MO := [Ma 103 (.faddr 0 (.t 20)), Ma 104 (.load false 1 (.t 103)), Ma 105 (.faddr 1 (.t 5)), Ma 106 (.load false 1 (.t 105)), Ma 107 (.bin .quo (.t 104) (.t 106)), Ma 108 (.mv (.t 4)), Ma 109 (.bin .eql (.t 107) (.t 108))]
@[simp] theorem l5_16 : q5_16.length = 7 := rfl
instance : KR Try.f5.ntmps q5_16 := ⟨[1, 4, 5, 11, 17, 18, 20, 80, 81, 82, 109], by kernel_rfl⟩
def q5_17 : List MO := [Ma 110 (.mv (.t 17)), Ma 111 (.mv (.t 18)), Ma 112 (.len (.t 111)), Ma 113 (.bin .geq (.t 110) (.t 112)), Ma 114 (.mv (.t 113)), Mg 115 (.mv (.t 18)) 114 false, Mg 116 (.mv (.t 17)) 114 false, Mg 117 (.iaddr 7 (.t 115) (.t 116)) 114 false, Mg 118 (.load true 7 (.t 117)) 114 false, Mg 119 (.load true 7 (.t 20)) 114 false, Mg 120 (.eq true (.flat [.i, .i, .i, .i, .i, .i, .i]) (.t 118) (.t 119)) 114 false, Ma 121 (.pick (.t 114) (.c (.bool true)) (.t 120))]
@[simp] theorem l5_17 : q5_17.length = 12 := rfl
def p5_17 : List (List Nat) := [[], [], [1], [0, 2], [3], [4], [4], [5, 6, 4], [7, 4], [4], [8, 9, 4], [4, 10]]
instance : KD Try.f5.ntmps q5_17 p5_17 := ⟨[[], [], [1], [0, 1, 2], [0, 1, 2, 3], [0, 1, 2, 3, 4], [0, 1, 2, 3, 4], [0, 1, 2, 3, 4, 5, 6], [0, 1, 2, 3, 4, 5, 6, 7], [0, 1, 2, 3, 4], [0, 1, 2, 3, 4, 5, 6, 7, 8, 9], [0, 1, 2, 3, 4, 5, 6, 7, 8, 9, 10]], [1, 4, 5, 11, 17, 18, 80, 81, 82, 121], by kernel_rfl⟩
def q5_18 : List MO := [Ma 10 (.mv (.c (.bool false)))]
@[simp] theorem l5_18 : q5_18.length = 1 := rfl
instance : KR Try.f5.ntmps q5_18 := ⟨[10], by kernel_rfl⟩
def q5_19 : List MO := [Ma 122 (.mv (.t 17)), Ma 123 (.bin .add (.t 122) (.c (.int .i64 1))), Ma 17 (.mv (.t 123))]
@[simp] theorem l5_19 : q5_19.length = 3 := rfl
instance : KR Try.f5.ntmps q5_19 := ⟨[1, 4, 5, 11, 17, 18, 80, 81, 82], by kernel_rfl⟩
def q5_20 : List MO := [Ma 124 (.bin .add (.t 82) (.c (.int .i64 1))), Ma 82 (.mv (.t 124))]
@[simp] theorem l5_20 : q5_20.length = 2 := rfl
instance : KR Try.f5.ntmps q5_20 := ⟨[1, 4, 5, 11, 17, 18, 80, 81, 82], by kernel_rfl⟩
def q5_21 : List MO := [Ma 125 (.call (.c (.fn 7 [])) []), Ma 126 (.mv (.t 125)), Mg 127 (.mv (.t 4)) 126 true, Mg 128 (.bin .lss (.t 127) (.c (.int .i64 0))) 126 true, Mg 129 (.mv (.t 128)) 126 true, Mg 130 (.mv (.t 17)) 129 false, Mg 131 (.mv (.t 18)) 129 false, Mg 132 (.len (.t 131)) 129 false, Mg 133 (.bin .eql (.t 130) (.t 132)) 129 false, Mg 134 (.pick (.t 129) (.c (.bool true)) (.t 133)) 126 true, Ma 135 (.pick (.t 126) (.t 134) (.c (.bool false))), Ma 136 (.mv (.t 135)), Mg 137 (.load true 8 (.t 11)) 136 true, Mg 138 (.call (.c (.fn 21 [])) [(.t 137)]) 136 true, Mg 139 (.len (.t 138)) 136 true, Mg 140 (.mv (.t 1)) 136 true, Mg 141 (.len (.t 140)) 136 true, Mg 142 (.bin .eql (.t 139) (.t 141)) 136 true, Ma 143 (.pick (.t 136) (.t 142) (.c (.bool false))), Ma 10 (.mv (.t 143))]
@[simp] theorem l5_21 : q5_21.length = 20 := rfl
instance : KR Try.f5.ntmps q5_21 := ⟨[10], by kernel_rfl⟩
def m5 : MCode := .seq (.reg q5_0) (.seq (.reg q5_1) (.seq (.seq (.reg q5_2) (.cond (.t 45) (.seq (.reg q5_3) .ret) .skip)) (.seq (.reg q5_4) (.seq (.reg q5_5) (.seq (.seq (.draw q5_6 p5_6) (.cond (.t 76) (.seq (.reg q5_7) .ret) .skip)) (.seq (.reg q5_8) (.seq (.reg q5_9) (.seq (.seq (.reg q5_10) (.block 0 (.loop (.seq (.reg q5_11) (.seq (.cond (.t 83) .skip (.exit 0)) (.seq (.block 1 (.seq (.reg q5_12) (.seq (.seq (.reg q5_13) (.cond (.t 98) (.seq (.seq (.reg q5_14) (.cond (.t 100) (.reg q5_15) .skip)) (.exit 1)) .skip)) (.seq (.reg q5_16) (.cond (.t 109) (.seq (.seq (.draw q5_17 p5_17) (.cond (.t 121) (.seq (.reg q5_18) .ret) .skip)) (.reg q5_19)) .skip))))) (.reg q5_20))))))) (.seq (.reg q5_21) .ret)))))))))
theorem rc5 : rcOf Try.prog Try.f5 = some m5 := by kernel_rfl
theorem rv5 : rRVs Try.prog Try.f5.results.toList = some [(.t 10)] := by kernel_rfl
theorem nm5 : (Try.f5.name == "runtime.NumGoroutine") = false := by kernel_rfl
end Go.W
