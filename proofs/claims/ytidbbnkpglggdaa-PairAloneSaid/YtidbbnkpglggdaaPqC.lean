/- The resolved code of the functions, by a program. -/
import Derived.Test.YtidbbnkpglggdaaPqA
namespace Go.W
open Go.Proofs
set_option maxRecDepth 100000
def q18_0 : List MO:=[Ma 4 (.box (.t 0)),Ma 5 (.box (.t 1)),Ma 8 (.mv (.c (.int .i64 0))),Ma 9 (.mv (.c (.int .i64 0)))]
@[simp] theorem l18_0 : q18_0.length = 4:=rfl
instance : KR Try.f18.ntmps q18_0:=⟨[2,3,4,5],by kernel_rfl⟩
def q18_1 : List MO:=[Ma 11 (.faddr 1 (.t 4)),Ma 12 (.load false 1 (.t 11)),Ma 13 (.bin .eql (.t 12) (.c (.int .i64 1)))]
@[simp] theorem l18_1 : q18_1.length = 3:=rfl
instance : KR Try.f18.ntmps q18_1:=⟨[2,3,4,5,13],by kernel_rfl⟩
def q18_2 : List MO:=[Ma 14 (.load true 5 (.t 5)),Ma 15 (.load true 5 (.t 4)),Mb (.store 5 (.t 4) (.t 14)),Mb (.store 5 (.t 5) (.t 15))]
@[simp] theorem l18_2 : q18_2.length = 4:=rfl
instance : KR Try.f18.ntmps q18_2:=⟨[2,3,4,5],by kernel_rfl⟩
def q18_3 : List MO:=[Ma 16 (.mv (.t 3)),Ma 17 (.mv (.t 2)),Ma 2 (.mv (.t 16)),Ma 3 (.mv (.t 17))]
@[simp] theorem l18_3 : q18_3.length = 4:=rfl
instance : KR Try.f18.ntmps q18_3:=⟨[2,3,4,5],by kernel_rfl⟩
def q18_4 : List MO:=[Ma 18 (.faddr 1 (.t 4)),Ma 19 (.load false 1 (.t 18)),Ma 20 (.bin .neq (.t 19) (.c (.int .i64 0))),Ma 21 (.mv (.t 20)),Mg 22 (.faddr 1 (.t 5)) 21 false,Mg 23 (.load false 1 (.t 22)) 21 false,Mg 24 (.bin .neq (.t 23) (.c (.int .i64 1))) 21 false,Ma 25 (.pick (.t 21) (.c (.bool true)) (.t 24)),Ma 26 (.mv (.t 25)),Mg 27 (.faddr 0 (.t 4)) 26 false,Mg 28 (.load false 1 (.t 27)) 26 false,Mg 29 (.faddr 0 (.t 5)) 26 false,Mg 30 (.load false 1 (.t 29)) 26 false,Mg 31 (.bin .neq (.t 28) (.t 30)) 26 false,Ma 32 (.pick (.t 26) (.c (.bool true)) (.t 31)),Ma 33 (.mv (.t 32)),Mg 34 (.faddr 2 (.t 4)) 33 false,Mg 35 (.load false 1 (.t 34)) 33 false,Mg 36 (.faddr 2 (.t 5)) 33 false,Mg 37 (.load false 1 (.t 36)) 33 false,Mg 38 (.bin .lss (.t 35) (.t 37)) 33 false,Ma 39 (.pick (.t 33) (.c (.bool true)) (.t 38))]
@[simp] theorem l18_4 : q18_4.length = 22:=rfl
instance : KR Try.f18.ntmps q18_4:=⟨[2,3,4,5,39],by kernel_rfl⟩
def q18_5 : List MO:=[Ma 8 (.mv (.c (.int .i64 0))),Ma 9 (.mv (.c (.int .i64 0)))]
@[simp] theorem l18_5 : q18_5.length = 2:=rfl
instance : KR Try.f18.ntmps q18_5:=⟨[8,9],by kernel_rfl⟩
def q18_6 : List MO:=[Ma 40 (.mv (.t 2)),Ma 10 (.mv (.t 40))]
@[simp] theorem l18_6 : q18_6.length = 2:=rfl
instance : KR Try.f18.ntmps q18_6:=⟨[3,4,5,10],by kernel_rfl⟩
def q18_7 : List MO:=[Ma 41 (.mv (.t 3)),Ma 42 (.mv (.t 10)),Ma 43 (.bin .lss (.t 41) (.t 42))]
@[simp] theorem l18_7 : q18_7.length = 3:=rfl
instance : KR Try.f18.ntmps q18_7:=⟨[3,4,5,10,43],by kernel_rfl⟩
def q18_8 : List MO:=[Ma 44 (.mv (.t 3)),Ma 10 (.mv (.t 44))]
@[simp] theorem l18_8 : q18_8.length = 2:=rfl
instance : KR Try.f18.ntmps q18_8:=⟨[4,5,10],by kernel_rfl⟩
def q18_9 : List MO:=[Ma 45 (.mv (.t 10)),Ma 46 (.bin .lss (.t 45) (.c (.int .i64 1))),Ma 47 (.mv (.t 46)),Mg 48 (.mv (.t 10)) 47 false,Mg 49 (.faddr 3 (.t 4)) 47 false,Mg 50 (.load false 1 (.t 49)) 47 false,Mg 51 (.bin .lss (.t 48) (.t 50)) 47 false,Ma 52 (.pick (.t 47) (.c (.bool true)) (.t 51)),Ma 53 (.mv (.t 52)),Mg 54 (.mv (.t 10)) 53 false,Mg 55 (.faddr 3 (.t 5)) 53 false,Mg 56 (.load false 1 (.t 55)) 53 false,Mg 57 (.bin .lss (.t 54) (.t 56)) 53 false,Ma 58 (.pick (.t 53) (.c (.bool true)) (.t 57))]
@[simp] theorem l18_9 : q18_9.length = 14:=rfl
instance : KR Try.f18.ntmps q18_9:=⟨[4,5,10,58],by kernel_rfl⟩
def q18_10 : List MO:=[Ma 8 (.mv (.c (.int .i64 0))),Ma 9 (.mv (.c (.int .i64 0)))]
@[simp] theorem l18_10 : q18_10.length = 2:=rfl
instance : KR Try.f18.ntmps q18_10:=⟨[8,9],by kernel_rfl⟩
def q18_11 : List MO:=[Ma 59 (.mv (.t 10)),Ma 60 (.faddr 2 (.t 4)),Ma 61 (.load false 1 (.t 60)),Ma 62 (.faddr 2 (.t 5)),Ma 63 (.load false 1 (.t 62)),Ma 64 (.bin .add (.t 61) (.t 63)),Ma 65 (.bin .quo (.t 64) (.c (.int .i64 2))),Ma 8 (.mv (.t 59)),Ma 9 (.mv (.t 65))]
@[simp] theorem l18_11 : q18_11.length = 9:=rfl
def p18_11 : List (List Nat):=[[],[],[1],[],[3],[2,4],[5],[0,0],[6,7,0,1,2,3,4,5,6,7]]
instance : KD Try.f18.ntmps q18_11 p18_11:=⟨[[],[],[1],[],[3],[1,2,3,4],[1,2,3,4,5],[0],[0,1,2,3,4,5,6,7]],[8,9],by kernel_rfl⟩
def m18 : MCode:=.seq (.reg q18_0) (.seq (.seq (.reg q18_1) (.cond (.t 13) (.seq (.reg q18_2) (.reg q18_3)) .skip)) (.seq (.seq (.reg q18_4) (.cond (.t 39) (.seq (.reg q18_5) .ret) .skip)) (.seq (.reg q18_6) (.seq (.seq (.reg q18_7) (.cond (.t 43) (.reg q18_8) .skip)) (.seq (.seq (.reg q18_9) (.cond (.t 58) (.seq (.reg q18_10) .ret) .skip)) (.seq (.draw q18_11 p18_11) .ret))))))
theorem rc18 : rcOf Try.prog Try.f18 = some m18:=by kernel_rfl
theorem rv18 : rRVs Try.prog Try.f18.results.toList = some [(.t 8),(.t 9)]:=by kernel_rfl
theorem nm18 : (Try.f18.name == "runtime.NumGoroutine") = false:=by kernel_rfl
def q17_0 : List MO:=[Ma 2 (.box (.t 0)),Ma 3 (.box (.t 1)),Ma 4 (.mv (.c (.int .i64 0)))]
@[simp] theorem l17_0 : q17_0.length = 3:=rfl
instance : KR Try.f17.ntmps q17_0:=⟨[2,3],by kernel_rfl⟩
def q17_1 : List MO:=[Ma 6 (.load true 7 (.t 2)),Ma 7 (.faddr 2 (.t 3)),Ma 8 (.load false 1 (.t 7)),Ma 9 (.call (.c (.fn 56 [])) [(.t 6),(.t 8)]),Ma 5 (.mv (.t 9))]
@[simp] theorem l17_1 : q17_1.length = 5:=rfl
instance : KR Try.f17.ntmps q17_1:=⟨[2,3,5],by kernel_rfl⟩
def q17_2 : List MO:=[Ma 10 (.faddr 0 (.t 3)),Ma 11 (.load false 1 (.t 10)),Ma 12 (.bin .lss (.t 11) (.c (.int .i64 0))),Ma 13 (.mv (.t 12)),Mg 14 (.faddr 0 (.t 3)) 13 false,Mg 15 (.load false 1 (.t 14)) 13 false,Mg 16 (.faddr 2 (.t 2)) 13 false,Mg 17 (.load false 1 (.t 16)) 13 false,Mg 18 (.bin .geq (.t 15) (.t 17)) 13 false,Ma 19 (.pick (.t 13) (.c (.bool true)) (.t 18)),Ma 20 (.mv (.t 19)),Mg 21 (.mv (.t 5)) 20 false,Mg 22 (.bin .lss (.t 21) (.c (.int .i64 0))) 20 false,Ma 23 (.pick (.t 20) (.c (.bool true)) (.t 22))]
@[simp] theorem l17_2 : q17_2.length = 14:=rfl
instance : KR Try.f17.ntmps q17_2:=⟨[2,3,5,23],by kernel_rfl⟩
def q17_3 : List MO:=[Ma 4 (.mv (.c (.int .i64 (-1))))]
@[simp] theorem l17_3 : q17_3.length = 1:=rfl
instance : KR Try.f17.ntmps q17_3:=⟨[4],by kernel_rfl⟩
def q17_4 : List MO:=[Ma 24 (.faddr 0 (.t 3)),Ma 25 (.load false 1 (.t 24)),Ma 26 (.faddr 3 (.t 2)),Ma 27 (.load false 1 (.t 26)),Ma 28 (.bin .mul (.t 25) (.t 27)),Ma 29 (.mv (.t 5)),Ma 30 (.bin .add (.t 28) (.t 29)),Ma 4 (.mv (.t 30))]
@[simp] theorem l17_4 : q17_4.length = 8:=rfl
instance : KR Try.f17.ntmps q17_4:=⟨[4],by kernel_rfl⟩
def m17 : MCode:=.seq (.reg q17_0) (.seq (.reg q17_1) (.seq (.seq (.reg q17_2) (.cond (.t 23) (.seq (.reg q17_3) .ret) .skip)) (.seq (.reg q17_4) .ret)))
theorem rc17 : rcOf Try.prog Try.f17 = some m17:=by kernel_rfl
theorem rv17 : rRVs Try.prog Try.f17.results.toList = some [(.t 4)]:=by kernel_rfl
theorem nm17 : (Try.f17.name == "runtime.NumGoroutine") = false:=by kernel_rfl
def q56_0 : List MO:=[Ma 2 (.box (.t 0)),Ma 4 (.mv (.c (.int .i64 0)))]
@[simp] theorem l56_0 : q56_0.length = 2:=rfl
instance : KR Try.f56.ntmps q56_0:=⟨[1,2],by kernel_rfl⟩
def q56_1 : List MO:=[Ma 6 (.mv (.t 1)),Ma 7 (.bin .lss (.t 6) (.c (.int .i64 1))),Ma 8 (.mv (.t 7)),Mg 9 (.mv (.t 1)) 8 false,Mg 10 (.bin .gtr (.t 9) (.c (.int .i64 9999))) 8 false,Ma 11 (.pick (.t 8) (.c (.bool true)) (.t 10))]
@[simp] theorem l56_1 : q56_1.length = 6:=rfl
instance : KR Try.f56.ntmps q56_1:=⟨[1,2,11],by kernel_rfl⟩
def q56_2 : List MO:=[Ma 4 (.mv (.c (.int .i64 (-1))))]
@[simp] theorem l56_2 : q56_2.length = 1:=rfl
instance : KR Try.f56.ntmps q56_2:=⟨[4],by kernel_rfl⟩
def q56_3 : List MO:=[Ma 5 (.mv (.c (.int .i64 0)))]
@[simp] theorem l56_3 : q56_3.length = 1:=rfl
instance : KR Try.f56.ntmps q56_3:=⟨[1,2,5],by kernel_rfl⟩
def q56_4 : List MO:=[Ma 12 (.mv (.t 5)),Ma 13 (.bin .add (.t 12) (.c (.int .i64 1))),Ma 14 (.bin .mul (.t 13) (.c (.int .i64 9999))),Ma 15 (.mv (.t 1)),Ma 16 (.bin .sub (.t 15) (.c (.int .i64 1))),Ma 17 (.faddr 3 (.t 2)),Ma 18 (.load false 1 (.t 17)),Ma 19 (.bin .mul (.t 16) (.t 18)),Ma 20 (.bin .leq (.t 14) (.t 19))]
@[simp] theorem l56_4 : q56_4.length = 9:=rfl
instance : KR Try.f56.ntmps q56_4:=⟨[1,2,5,20],by kernel_rfl⟩
def q56_5 : List MO:=[Ma 21 (.mv (.t 5)),Ma 22 (.bin .add (.t 21) (.c (.int .i64 1))),Ma 5 (.mv (.t 22))]
@[simp] theorem l56_5 : q56_5.length = 3:=rfl
instance : KR Try.f56.ntmps q56_5:=⟨[1,2,5],by kernel_rfl⟩
def q56_6 : List MO:=[Ma 23 (.mv (.t 5)),Ma 4 (.mv (.t 23))]
@[simp] theorem l56_6 : q56_6.length = 2:=rfl
instance : KR Try.f56.ntmps q56_6:=⟨[4],by kernel_rfl⟩
def m56 : MCode:=.seq (.reg q56_0) (.seq (.seq (.reg q56_1) (.cond (.t 11) (.seq (.reg q56_2) .ret) .skip)) (.seq (.reg q56_3) (.seq (.block 0 (.loop (.seq (.seq (.reg q56_4) (.cond (.t 20) .skip (.exit 0))) (.block 1 (.reg q56_5))))) (.seq (.reg q56_6) .ret))))
theorem rc56 : rcOf Try.prog Try.f56 = some m56:=by kernel_rfl
theorem rv56 : rRVs Try.prog Try.f56.results.toList = some [(.t 4)]:=by kernel_rfl
theorem nm56 : (Try.f56.name == "runtime.NumGoroutine") = false:=by kernel_rfl
end Go.W
